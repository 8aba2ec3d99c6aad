/- The abstract code of the functions. -/
import Derived.Test.YtpinnkfbanecdaaGreatDoorA2
set_option maxRecDepth 100000
namespace Go.Abs.W
open Go Go.Abs
def n_gosem_cut_init : Nat := 2
def n_laws_FnExactZoneReason : Nat := 3
def n_laws_FnExactCanAdvance : Nat := 4
def n_laws_FnExactDefenceStrength : Nat := 5
def n_laws_FnExactBattleShift : Nat := 6
def n_laws_FnExactIsAttempts : Nat := 7
def n_laws_FnExactAttackStrength : Nat := 8
def n_laws_FnExactIsTrapped : Nat := 9
def n_laws_FnExactCountRetreats : Nat := 10
def n_laws_FnExactRetreatSteps : Nat := 11
def n_laws_szBoard : Nat := 12
def n_laws_szState : Nat := 13
def n_spec_ZoneReason : Nat := 14
def n_laws_toBoard : Nat := 15
def n_laws_toState : Nat := 16
def n_impl_ZoneReason : Nat := 17
def n_laws_eqBoard : Nat := 18
def n_laws_eqState : Nat := 19
def n_spec_CanAdvance : Nat := 20
def n_impl_CanAdvance : Nat := 21
def n_laws_szBattle : Nat := 22
def n_spec_DefenceStrength : Nat := 23
def n_laws_toBattle : Nat := 24
def n_impl_DefenceStrength : Nat := 25
def n_laws_eqBattle : Nat := 26
def n_spec_BattleShift : Nat := 27
def n_impl_BattleShift : Nat := 28
def n_laws_szAttemptS : Nat := 29
def n_spec_IsAttempts : Nat := 30
def n_laws_toAttemptS : Nat := 31
def n_impl_IsAttempts : Nat := 32
def n_laws_eqAttemptS : Nat := 33
def n_spec_AttackStrength : Nat := 34
def n_impl_AttackStrength : Nat := 35
def n_spec_IsTrapped : Nat := 36
def n_impl_IsTrapped : Nat := 37
def n_spec_CountRetreats : Nat := 38
def n_impl_CountRetreats : Nat := 39
def n_spec_RetreatSteps : Nat := 40
def n_impl_RetreatSteps : Nat := 41
def n_laws_eqIntS : Nat := 42
def n_laws_markBoard : Nat := 43
def n_laws_markState : Nat := 44
def n_laws_markIntS : Nat := 45
def n_laws_heldIntS : Nat := 46
def n_laws_szRules : Nat := 47
def n_laws_szMap : Nat := 48
def n_laws_szUnitS : Nat := 49
def n_spec_fOn : Nat := 50
def n_spec_l1In : Nat := 51
def n_spec_mNext : Nat := 52
def n_spec_fZone : Nat := 53
def n_laws_toRules : Nat := 54
def n_laws_toMap : Nat := 55
def n_laws_toUnitS : Nat := 56
def n_impl_hasUnit : Nat := 57
def n_impl_isDirection : Nat := 58
def n_impl_nextTo : Nat := 59
def n_impl_zoneReason : Nat := 60
def n_laws_eqRules : Nat := 61
def n_laws_eqMap : Nat := 62
def n_laws_eqUnitS : Nat := 63
def n_spec_mSize : Nat := 64
def n_spec_gCan : Nat := 65
def n_impl_onMap : Nat := 66
def n_impl_isIndex : Nat := 67
def n_impl_sizeOf : Nat := 68
def n_impl_canAdvance : Nat := 69
def n_laws_szIntS : Nat := 70
def n_spec_aGood : Nat := 71
def n_spec_aDefence : Nat := 72
def n_laws_toIntS : Nat := 73
def n_impl_hasBattle : Nat := 74
def n_impl_defenceStrength : Nat := 75
def n_spec_aShift : Nat := 76
def n_impl_battleShift : Nat := 77
def n_spec_sGood : Nat := 78
def n_spec_fGood : Nat := 79
def n_laws_toAttempt : Nat := 80
def n_impl_fits : Nat := 81
def n_impl_goodAttempts : Nat := 82
def n_laws_eqAttempt : Nat := 83
def n_spec_aAttack : Nat := 84
def n_impl_attackStrength : Nat := 85
def n_spec_gAll : Nat := 86
def n_impl_retreatsOf : Nat := 87
def n_spec_gAsked : Nat := 88
def n_impl_isRetreat : Nat := 89
def n_spec_gBack : Nat := 90
def n_impl_canFallBack : Nat := 91
def n_laws_markRules : Nat := 92
def n_laws_markMap : Nat := 93
def n_laws_markUnitS : Nat := 94
def n_laws_szTerrainS : Nat := 95
def n_laws_szKindS : Nat := 96
def n_spec_mIndex : Nat := 97
def n_spec_hStep : Nat := 98
def n_spec_mHex : Nat := 99
def n_spec_zIn : Nat := 100
def n_laws_toTerrainS : Nat := 101
def n_laws_toKindS : Nat := 102
def n_laws_toUnit : Nat := 103
def n_impl_inRange : Nat := 104
def n_impl_indexOf : Nat := 105
def n_impl_stepBy : Nat := 106
def n_impl_hexOf : Nat := 107
def n_impl_inZone : Nat := 108
def n_laws_eqTerrainS : Nat := 109
def n_laws_eqKindS : Nat := 110
def n_laws_eqUnit : Nat := 111
def n_spec_cStep : Nat := 112
def n_spec_gRoom : Nat := 113
def n_impl_directionOn : Nat := 114
def n_impl_stepCost : Nat := 115
def n_impl_stackRoom : Nat := 116
def n_spec_sHex : Nat := 117
def n_spec_sOwner : Nat := 118
def n_spec_l1Rising : Nat := 119
def n_spec_aSide : Nat := 120
def n_spec_l1Same : Nat := 121
def n_spec_sAt : Nat := 122
def n_spec_aForce : Nat := 123
def n_impl_goodBattle : Nat := 124
def n_impl_forceOf : Nat := 125
def n_spec_bTerrain : Nat := 126
def n_spec_l1Has : Nat := 127
def n_impl_terrainAt : Nat := 128
def n_spec_bGood : Nat := 129
def n_spec_sUnit : Nat := 130
def n_spec_fTry : Nat := 131
def n_impl_IsBoard : Nat := 132
def n_impl_goodState : Nat := 133
def n_spec_mRiver : Nat := 134
def n_spec_mRoad : Nat := 135
def n_impl_crossesFreely : Nat := 136
def n_impl_edgeOf : Nat := 137
def n_spec_gPaths : Nat := 138
def n_impl_retreatsFrom : Nat := 139
def n_spec_bCost : Nat := 140
def n_impl_enterCost : Nat := 141
def n_impl_unitsAt : Nat := 142
def n_laws_markTerrainS : Nat := 143
def n_laws_markKindS : Nat := 144
def n_laws_szTerrain : Nat := 145
def n_laws_szKind : Nat := 146
def n_spec_zSources : Nat := 147
def n_laws_toTerrain : Nat := 148
def n_laws_toKind : Nat := 149
def n_impl_controls : Nat := 150
def n_laws_eqTerrain : Nat := 151
def n_laws_eqKind : Nat := 152
def n_spec_csWeather : Nat := 153
def n_slices_Contains_int_int : Nat := 154
def n_impl_weatherCost : Nat := 155
def n_impl_ownerOf : Nat := 156
def n_slices_Equal_int_int : Nat := 157
def n_impl_increasing : Nat := 158
def n_impl_isNear : Nat := 159
def n_spec_rGood : Nat := 160
def n_spec_mGood : Nat := 161
def n_spec_l1All : Nat := 162
def n_impl_IsRules : Nat := 163
def n_impl_IsMap : Nat := 164
def n_slices_ContainsFunc_int_int : Nat := 165
def n_impl_IsBoard_1 : Nat := 166
def n_impl_goodUnit : Nat := 167
def n_spec_mEdge : Nat := 168
def n_spec_l1Own : Nat := 169
def n_spec_hDistance : Nat := 170
def n_slices_Clone_int_int : Nat := 171
def n_impl_distance : Nat := 172
def n_laws_markText : Nat := 173
def n_spec_zExerts : Nat := 174
def n_slices_Index_int_int : Nat := 175
def n_spec_rName : Nat := 176
def n_spec_rTerrain : Nat := 177
def n_spec_rKind : Nat := 178
def n_spec_mEdges : Nat := 179
def n_impl_goodTerrain : Nat := 180
def n_impl_terrainIndex : Nat := 181
def n_impl_goodKind : Nat := 182
def n_impl_kindIndex : Nat := 183
def n_impl_isEdge : Nat := 184
def n_slices_IndexFunc_int_int : Nat := 185
def n_impl_isSide : Nat := 186
def n_spec_l1Abs : Nat := 187
def n_impl_absOf : Nat := 188
def n_impl_isName : Nat := 189
def n_impl_goodTerrain_1 : Nat := 190
def n_slices_IndexFunc_impl_Terrain_impl_Terrain : Nat := 191
def n_impl_terrainIndex_1 : Nat := 192
def n_slices_IndexFunc_impl_Kind_impl_Kind : Nat := 193
def n_impl_kindIndex_1 : Nat := 194
def n_spec_l1Most : Nat := 195
def n_gosem_cut_vars : Nat := 215
/-- laws.FnExactZoneReason -/
def a_laws_FnExactZoneReason : AFn := ⟨5, 70, [.tmp 10], (.seq (.reg [⟨some 5, none, .box (.t 0)⟩, ⟨some 6, none, .box (.t 1)⟩, ⟨some 10, none, .asg (.c (.bool false))⟩])
 (.seq (.reg [⟨some 11, none, .asg (.c (.int .i64 1048576))⟩])
 (.seq (.reg [⟨some 18, none, .load true 12 (.t 5)⟩, ⟨some 19, none, .mv (.p 11)⟩, ⟨some 20, none, .call n_laws_szBoard [.a 18 5, .t 19]⟩, ⟨some 11, none, .asg (.p 20)⟩])
 (.seq (.seq (.reg [⟨some 21, none, .mv (.p 11)⟩, ⟨some 22, none, .bin .lss (.t 21) (.c (.int .i64 0))⟩])
 (.cond (.t 22) (.seq (.reg [⟨some 10, none, .asg (.c (.bool true))⟩])
 .ret) .skip))
 (.seq (.reg [⟨some 23, none, .load true 3 (.t 6)⟩, ⟨some 24, none, .mv (.p 11)⟩, ⟨some 25, none, .call n_laws_szState [.a 23 6, .t 24]⟩, ⟨some 11, none, .asg (.p 25)⟩])
 (.seq (.seq (.reg [⟨some 26, none, .mv (.p 11)⟩, ⟨some 27, none, .bin .lss (.t 26) (.c (.int .i64 0))⟩])
 (.cond (.t 27) (.seq (.reg [⟨some 10, none, .asg (.c (.bool true))⟩])
 .ret) .skip))
 (.seq (.reg [⟨some 29, none, .load true 12 (.t 5)⟩, ⟨some 30, none, .call n_laws_toBoard [.a 29 5]⟩, ⟨some 31, none, .load true 3 (.t 6)⟩, ⟨some 32, none, .call n_laws_toState [.a 31 6]⟩, ⟨some 33, none, .mv (.p 2)⟩, ⟨some 34, none, .mv (.p 3)⟩, ⟨some 35, none, .mv (.p 4)⟩, ⟨some 36, none, .call n_spec_ZoneReason [.t 30, .t 32, .t 33, .t 34, .t 35]⟩, ⟨some 28, none, .mv (.t 36)⟩, ⟨some 37, none, .extract (.p 28) 0⟩, ⟨some 38, none, .extract (.p 28) 1⟩, ⟨some 12, none, .asg (.p 37)⟩, ⟨some 13, none, .asg (.p 38)⟩])
 (.seq (.reg [⟨some 39, none, .load true 12 (.t 5)⟩, ⟨some 40, none, .call n_laws_toBoard [.a 39 5]⟩, ⟨some 14, none, .alloc [.list true 5 [], .list true 6 [], .int .i64 0, .int .i64 0, .int .i64 0, .int .i64 0, .int .i64 0, .int .i64 0, .int .i64 0, .list true 1 [], .list true 1 [], .list true 1 []]⟩, ⟨none, none, .store 12 (.t 14) (.t 40)⟩])
 (.seq (.reg [⟨some 41, none, .load true 3 (.t 6)⟩, ⟨some 42, none, .call n_laws_toState [.a 41 6]⟩, ⟨some 15, none, .alloc [.int .i64 0, .int .i64 0, .list true 4 []]⟩, ⟨none, none, .store 3 (.t 15) (.t 42)⟩])
 (.seq (.reg [⟨some 44, none, .load true 12 (.t 14)⟩, ⟨some 45, none, .load true 3 (.t 15)⟩, ⟨some 46, none, .mv (.p 2)⟩, ⟨some 47, none, .mv (.p 3)⟩, ⟨some 48, none, .mv (.p 4)⟩, ⟨some 49, none, .call n_impl_ZoneReason [.a 44 14, .a 45 15, .t 46, .t 47, .t 48]⟩, ⟨some 43, none, .mv (.t 49)⟩, ⟨some 50, none, .extract (.p 43) 0⟩, ⟨some 51, none, .extract (.p 43) 1⟩, ⟨some 16, none, .asg (.p 50)⟩, ⟨some 17, none, .asg (.p 51)⟩])
 (.seq (.seq (.reg [⟨some 52, none, .mv (.p 16)⟩, ⟨some 53, none, .mv (.p 12)⟩, ⟨some 54, none, .bin .neq (.t 52) (.t 53)⟩, ⟨some 55, none, .mv (.p 54)⟩, ⟨some 56, some (55, false), .mv (.p 17)⟩, ⟨some 57, some (55, false), .mv (.p 13)⟩, ⟨some 58, some (55, false), .beq true (.t 56) (.t 57)⟩, ⟨some 59, none, .pick (.t 55) (.c (.bool true)) (.t 58)⟩])
 (.cond (.t 59) (.seq (.reg [⟨some 10, none, .asg (.c (.bool false))⟩])
 .ret) .skip))
 (.seq (.seq (.reg [⟨some 60, none, .load true 12 (.t 14)⟩, ⟨some 61, none, .load true 12 (.t 5)⟩, ⟨some 62, none, .call n_laws_toBoard [.a 61 5]⟩, ⟨some 63, none, .call n_laws_eqBoard [.a 60 14, .t 62]⟩, ⟨some 64, none, .un .not (.t 63)⟩])
 (.cond (.t 64) (.seq (.reg [⟨some 10, none, .asg (.c (.bool false))⟩])
 .ret) .skip))
 (.seq (.seq (.reg [⟨some 65, none, .load true 3 (.t 15)⟩, ⟨some 66, none, .load true 3 (.t 6)⟩, ⟨some 67, none, .call n_laws_toState [.a 66 6]⟩, ⟨some 68, none, .call n_laws_eqState [.a 65 15, .t 67]⟩, ⟨some 69, none, .un .not (.t 68)⟩])
 (.cond (.t 69) (.seq (.reg [⟨some 10, none, .asg (.c (.bool false))⟩])
 .ret) .skip))
 (.seq (.reg [⟨some 10, none, .asg (.c (.bool true))⟩])
 .ret))))))))))))))⟩
/-- laws.FnExactCanAdvance -/
def a_laws_FnExactCanAdvance : AFn := ⟨4, 66, [.tmp 8], (.seq (.reg [⟨some 4, none, .box (.t 0)⟩, ⟨some 5, none, .box (.t 1)⟩, ⟨some 8, none, .asg (.c (.bool false))⟩])
 (.seq (.reg [⟨some 9, none, .asg (.c (.int .i64 1048576))⟩])
 (.seq (.reg [⟨some 16, none, .load true 12 (.t 4)⟩, ⟨some 17, none, .mv (.p 9)⟩, ⟨some 18, none, .call n_laws_szBoard [.a 16 4, .t 17]⟩, ⟨some 9, none, .asg (.p 18)⟩])
 (.seq (.seq (.reg [⟨some 19, none, .mv (.p 9)⟩, ⟨some 20, none, .bin .lss (.t 19) (.c (.int .i64 0))⟩])
 (.cond (.t 20) (.seq (.reg [⟨some 8, none, .asg (.c (.bool true))⟩])
 .ret) .skip))
 (.seq (.reg [⟨some 21, none, .load true 3 (.t 5)⟩, ⟨some 22, none, .mv (.p 9)⟩, ⟨some 23, none, .call n_laws_szState [.a 21 5, .t 22]⟩, ⟨some 9, none, .asg (.p 23)⟩])
 (.seq (.seq (.reg [⟨some 24, none, .mv (.p 9)⟩, ⟨some 25, none, .bin .lss (.t 24) (.c (.int .i64 0))⟩])
 (.cond (.t 25) (.seq (.reg [⟨some 8, none, .asg (.c (.bool true))⟩])
 .ret) .skip))
 (.seq (.reg [⟨some 27, none, .load true 12 (.t 4)⟩, ⟨some 28, none, .call n_laws_toBoard [.a 27 4]⟩, ⟨some 29, none, .load true 3 (.t 5)⟩, ⟨some 30, none, .call n_laws_toState [.a 29 5]⟩, ⟨some 31, none, .mv (.p 2)⟩, ⟨some 32, none, .mv (.p 3)⟩, ⟨some 33, none, .call n_spec_CanAdvance [.t 28, .t 30, .t 31, .t 32]⟩, ⟨some 26, none, .mv (.t 33)⟩, ⟨some 34, none, .extract (.p 26) 0⟩, ⟨some 35, none, .extract (.p 26) 1⟩, ⟨some 10, none, .asg (.p 34)⟩, ⟨some 11, none, .asg (.p 35)⟩])
 (.seq (.reg [⟨some 36, none, .load true 12 (.t 4)⟩, ⟨some 37, none, .call n_laws_toBoard [.a 36 4]⟩, ⟨some 12, none, .alloc [.list true 5 [], .list true 6 [], .int .i64 0, .int .i64 0, .int .i64 0, .int .i64 0, .int .i64 0, .int .i64 0, .int .i64 0, .list true 1 [], .list true 1 [], .list true 1 []]⟩, ⟨none, none, .store 12 (.t 12) (.t 37)⟩])
 (.seq (.reg [⟨some 38, none, .load true 3 (.t 5)⟩, ⟨some 39, none, .call n_laws_toState [.a 38 5]⟩, ⟨some 13, none, .alloc [.int .i64 0, .int .i64 0, .list true 4 []]⟩, ⟨none, none, .store 3 (.t 13) (.t 39)⟩])
 (.seq (.reg [⟨some 41, none, .load true 12 (.t 12)⟩, ⟨some 42, none, .load true 3 (.t 13)⟩, ⟨some 43, none, .mv (.p 2)⟩, ⟨some 44, none, .mv (.p 3)⟩, ⟨some 45, none, .call n_impl_CanAdvance [.a 41 12, .a 42 13, .t 43, .t 44]⟩, ⟨some 40, none, .mv (.t 45)⟩, ⟨some 46, none, .extract (.p 40) 0⟩, ⟨some 47, none, .extract (.p 40) 1⟩, ⟨some 14, none, .asg (.p 46)⟩, ⟨some 15, none, .asg (.p 47)⟩])
 (.seq (.seq (.reg [⟨some 48, none, .mv (.p 14)⟩, ⟨some 49, none, .mv (.p 10)⟩, ⟨some 50, none, .beq true (.t 48) (.t 49)⟩, ⟨some 51, none, .mv (.p 50)⟩, ⟨some 52, some (51, false), .mv (.p 15)⟩, ⟨some 53, some (51, false), .mv (.p 11)⟩, ⟨some 54, some (51, false), .beq true (.t 52) (.t 53)⟩, ⟨some 55, none, .pick (.t 51) (.c (.bool true)) (.t 54)⟩])
 (.cond (.t 55) (.seq (.reg [⟨some 8, none, .asg (.c (.bool false))⟩])
 .ret) .skip))
 (.seq (.seq (.reg [⟨some 56, none, .load true 12 (.t 12)⟩, ⟨some 57, none, .load true 12 (.t 4)⟩, ⟨some 58, none, .call n_laws_toBoard [.a 57 4]⟩, ⟨some 59, none, .call n_laws_eqBoard [.a 56 12, .t 58]⟩, ⟨some 60, none, .un .not (.t 59)⟩])
 (.cond (.t 60) (.seq (.reg [⟨some 8, none, .asg (.c (.bool false))⟩])
 .ret) .skip))
 (.seq (.seq (.reg [⟨some 61, none, .load true 3 (.t 13)⟩, ⟨some 62, none, .load true 3 (.t 5)⟩, ⟨some 63, none, .call n_laws_toState [.a 62 5]⟩, ⟨some 64, none, .call n_laws_eqState [.a 61 13, .t 63]⟩, ⟨some 65, none, .un .not (.t 64)⟩])
 (.cond (.t 65) (.seq (.reg [⟨some 8, none, .asg (.c (.bool false))⟩])
 .ret) .skip))
 (.seq (.reg [⟨some 8, none, .asg (.c (.bool true))⟩])
 .ret))))))))))))))⟩
/-- laws.FnExactDefenceStrength -/
def a_laws_FnExactDefenceStrength : AFn := ⟨3, 76, [.tmp 6], (.seq (.reg [⟨some 3, none, .box (.t 0)⟩, ⟨some 4, none, .box (.t 1)⟩, ⟨some 5, none, .box (.t 2)⟩, ⟨some 6, none, .asg (.c (.bool false))⟩])
 (.seq (.reg [⟨some 7, none, .asg (.c (.int .i64 1048576))⟩])
 (.seq (.reg [⟨some 15, none, .load true 12 (.t 3)⟩, ⟨some 16, none, .mv (.p 7)⟩, ⟨some 17, none, .call n_laws_szBoard [.a 15 3, .t 16]⟩, ⟨some 7, none, .asg (.p 17)⟩])
 (.seq (.seq (.reg [⟨some 18, none, .mv (.p 7)⟩, ⟨some 19, none, .bin .lss (.t 18) (.c (.int .i64 0))⟩])
 (.cond (.t 19) (.seq (.reg [⟨some 6, none, .asg (.c (.bool true))⟩])
 .ret) .skip))
 (.seq (.reg [⟨some 20, none, .load true 3 (.t 4)⟩, ⟨some 21, none, .mv (.p 7)⟩, ⟨some 22, none, .call n_laws_szState [.a 20 4, .t 21]⟩, ⟨some 7, none, .asg (.p 22)⟩])
 (.seq (.seq (.reg [⟨some 23, none, .mv (.p 7)⟩, ⟨some 24, none, .bin .lss (.t 23) (.c (.int .i64 0))⟩])
 (.cond (.t 24) (.seq (.reg [⟨some 6, none, .asg (.c (.bool true))⟩])
 .ret) .skip))
 (.seq (.reg [⟨some 25, none, .load true 3 (.t 5)⟩, ⟨some 26, none, .mv (.p 7)⟩, ⟨some 27, none, .call n_laws_szBattle [.a 25 5, .t 26]⟩, ⟨some 7, none, .asg (.p 27)⟩])
 (.seq (.seq (.reg [⟨some 28, none, .mv (.p 7)⟩, ⟨some 29, none, .bin .lss (.t 28) (.c (.int .i64 0))⟩])
 (.cond (.t 29) (.seq (.reg [⟨some 6, none, .asg (.c (.bool true))⟩])
 .ret) .skip))
 (.seq (.reg [⟨some 31, none, .load true 12 (.t 3)⟩, ⟨some 32, none, .call n_laws_toBoard [.a 31 3]⟩, ⟨some 33, none, .load true 3 (.t 4)⟩, ⟨some 34, none, .call n_laws_toState [.a 33 4]⟩, ⟨some 35, none, .load true 3 (.t 5)⟩, ⟨some 36, none, .call n_laws_toBattle [.a 35 5]⟩, ⟨some 37, none, .call n_spec_DefenceStrength [.t 32, .t 34, .t 36]⟩, ⟨some 30, none, .mv (.t 37)⟩, ⟨some 38, none, .extract (.p 30) 0⟩, ⟨some 39, none, .extract (.p 30) 1⟩, ⟨some 8, none, .asg (.p 38)⟩, ⟨some 9, none, .asg (.p 39)⟩])
 (.seq (.reg [⟨some 40, none, .load true 12 (.t 3)⟩, ⟨some 41, none, .call n_laws_toBoard [.a 40 3]⟩, ⟨some 10, none, .alloc [.list true 5 [], .list true 6 [], .int .i64 0, .int .i64 0, .int .i64 0, .int .i64 0, .int .i64 0, .int .i64 0, .int .i64 0, .list true 1 [], .list true 1 [], .list true 1 []]⟩, ⟨none, none, .store 12 (.t 10) (.t 41)⟩])
 (.seq (.reg [⟨some 42, none, .load true 3 (.t 4)⟩, ⟨some 43, none, .call n_laws_toState [.a 42 4]⟩, ⟨some 11, none, .alloc [.int .i64 0, .int .i64 0, .list true 4 []]⟩, ⟨none, none, .store 3 (.t 11) (.t 43)⟩])
 (.seq (.reg [⟨some 44, none, .load true 3 (.t 5)⟩, ⟨some 45, none, .call n_laws_toBattle [.a 44 5]⟩, ⟨some 12, none, .alloc [.int .i64 0, .list true 1 [], .list true 1 []]⟩, ⟨none, none, .store 3 (.t 12) (.t 45)⟩])
 (.seq (.reg [⟨some 47, none, .load true 12 (.t 10)⟩, ⟨some 48, none, .load true 3 (.t 11)⟩, ⟨some 49, none, .load true 3 (.t 12)⟩, ⟨some 50, none, .call n_impl_DefenceStrength [.a 47 10, .a 48 11, .a 49 12]⟩, ⟨some 46, none, .mv (.t 50)⟩, ⟨some 51, none, .extract (.p 46) 0⟩, ⟨some 52, none, .extract (.p 46) 1⟩, ⟨some 13, none, .asg (.p 51)⟩, ⟨some 14, none, .asg (.p 52)⟩])
 (.seq (.seq (.reg [⟨some 53, none, .mv (.p 13)⟩, ⟨some 54, none, .mv (.p 8)⟩, ⟨some 55, none, .bin .neq (.t 53) (.t 54)⟩, ⟨some 56, none, .mv (.p 55)⟩, ⟨some 57, some (56, false), .mv (.p 14)⟩, ⟨some 58, some (56, false), .mv (.p 9)⟩, ⟨some 59, some (56, false), .beq true (.t 57) (.t 58)⟩, ⟨some 60, none, .pick (.t 56) (.c (.bool true)) (.t 59)⟩])
 (.cond (.t 60) (.seq (.reg [⟨some 6, none, .asg (.c (.bool false))⟩])
 .ret) .skip))
 (.seq (.seq (.reg [⟨some 61, none, .load true 12 (.t 10)⟩, ⟨some 62, none, .load true 12 (.t 3)⟩, ⟨some 63, none, .call n_laws_toBoard [.a 62 3]⟩, ⟨some 64, none, .call n_laws_eqBoard [.a 61 10, .t 63]⟩, ⟨some 65, none, .un .not (.t 64)⟩])
 (.cond (.t 65) (.seq (.reg [⟨some 6, none, .asg (.c (.bool false))⟩])
 .ret) .skip))
 (.seq (.seq (.reg [⟨some 66, none, .load true 3 (.t 11)⟩, ⟨some 67, none, .load true 3 (.t 4)⟩, ⟨some 68, none, .call n_laws_toState [.a 67 4]⟩, ⟨some 69, none, .call n_laws_eqState [.a 66 11, .t 68]⟩, ⟨some 70, none, .un .not (.t 69)⟩])
 (.cond (.t 70) (.seq (.reg [⟨some 6, none, .asg (.c (.bool false))⟩])
 .ret) .skip))
 (.seq (.seq (.reg [⟨some 71, none, .load true 3 (.t 12)⟩, ⟨some 72, none, .load true 3 (.t 5)⟩, ⟨some 73, none, .call n_laws_toBattle [.a 72 5]⟩, ⟨some 74, none, .call n_laws_eqBattle [.a 71 12, .t 73]⟩, ⟨some 75, none, .un .not (.t 74)⟩])
 (.cond (.t 75) (.seq (.reg [⟨some 6, none, .asg (.c (.bool false))⟩])
 .ret) .skip))
 (.seq (.reg [⟨some 6, none, .asg (.c (.bool true))⟩])
 .ret))))))))))))))))))⟩
/-- laws.FnExactBattleShift -/
def a_laws_FnExactBattleShift : AFn := ⟨3, 76, [.tmp 6], (.seq (.reg [⟨some 3, none, .box (.t 0)⟩, ⟨some 4, none, .box (.t 1)⟩, ⟨some 5, none, .box (.t 2)⟩, ⟨some 6, none, .asg (.c (.bool false))⟩])
 (.seq (.reg [⟨some 7, none, .asg (.c (.int .i64 1048576))⟩])
 (.seq (.reg [⟨some 15, none, .load true 12 (.t 3)⟩, ⟨some 16, none, .mv (.p 7)⟩, ⟨some 17, none, .call n_laws_szBoard [.a 15 3, .t 16]⟩, ⟨some 7, none, .asg (.p 17)⟩])
 (.seq (.seq (.reg [⟨some 18, none, .mv (.p 7)⟩, ⟨some 19, none, .bin .lss (.t 18) (.c (.int .i64 0))⟩])
 (.cond (.t 19) (.seq (.reg [⟨some 6, none, .asg (.c (.bool true))⟩])
 .ret) .skip))
 (.seq (.reg [⟨some 20, none, .load true 3 (.t 4)⟩, ⟨some 21, none, .mv (.p 7)⟩, ⟨some 22, none, .call n_laws_szState [.a 20 4, .t 21]⟩, ⟨some 7, none, .asg (.p 22)⟩])
 (.seq (.seq (.reg [⟨some 23, none, .mv (.p 7)⟩, ⟨some 24, none, .bin .lss (.t 23) (.c (.int .i64 0))⟩])
 (.cond (.t 24) (.seq (.reg [⟨some 6, none, .asg (.c (.bool true))⟩])
 .ret) .skip))
 (.seq (.reg [⟨some 25, none, .load true 3 (.t 5)⟩, ⟨some 26, none, .mv (.p 7)⟩, ⟨some 27, none, .call n_laws_szBattle [.a 25 5, .t 26]⟩, ⟨some 7, none, .asg (.p 27)⟩])
 (.seq (.seq (.reg [⟨some 28, none, .mv (.p 7)⟩, ⟨some 29, none, .bin .lss (.t 28) (.c (.int .i64 0))⟩])
 (.cond (.t 29) (.seq (.reg [⟨some 6, none, .asg (.c (.bool true))⟩])
 .ret) .skip))
 (.seq (.reg [⟨some 31, none, .load true 12 (.t 3)⟩, ⟨some 32, none, .call n_laws_toBoard [.a 31 3]⟩, ⟨some 33, none, .load true 3 (.t 4)⟩, ⟨some 34, none, .call n_laws_toState [.a 33 4]⟩, ⟨some 35, none, .load true 3 (.t 5)⟩, ⟨some 36, none, .call n_laws_toBattle [.a 35 5]⟩, ⟨some 37, none, .call n_spec_BattleShift [.t 32, .t 34, .t 36]⟩, ⟨some 30, none, .mv (.t 37)⟩, ⟨some 38, none, .extract (.p 30) 0⟩, ⟨some 39, none, .extract (.p 30) 1⟩, ⟨some 8, none, .asg (.p 38)⟩, ⟨some 9, none, .asg (.p 39)⟩])
 (.seq (.reg [⟨some 40, none, .load true 12 (.t 3)⟩, ⟨some 41, none, .call n_laws_toBoard [.a 40 3]⟩, ⟨some 10, none, .alloc [.list true 5 [], .list true 6 [], .int .i64 0, .int .i64 0, .int .i64 0, .int .i64 0, .int .i64 0, .int .i64 0, .int .i64 0, .list true 1 [], .list true 1 [], .list true 1 []]⟩, ⟨none, none, .store 12 (.t 10) (.t 41)⟩])
 (.seq (.reg [⟨some 42, none, .load true 3 (.t 4)⟩, ⟨some 43, none, .call n_laws_toState [.a 42 4]⟩, ⟨some 11, none, .alloc [.int .i64 0, .int .i64 0, .list true 4 []]⟩, ⟨none, none, .store 3 (.t 11) (.t 43)⟩])
 (.seq (.reg [⟨some 44, none, .load true 3 (.t 5)⟩, ⟨some 45, none, .call n_laws_toBattle [.a 44 5]⟩, ⟨some 12, none, .alloc [.int .i64 0, .list true 1 [], .list true 1 []]⟩, ⟨none, none, .store 3 (.t 12) (.t 45)⟩])
 (.seq (.reg [⟨some 47, none, .load true 12 (.t 10)⟩, ⟨some 48, none, .load true 3 (.t 11)⟩, ⟨some 49, none, .load true 3 (.t 12)⟩, ⟨some 50, none, .call n_impl_BattleShift [.a 47 10, .a 48 11, .a 49 12]⟩, ⟨some 46, none, .mv (.t 50)⟩, ⟨some 51, none, .extract (.p 46) 0⟩, ⟨some 52, none, .extract (.p 46) 1⟩, ⟨some 13, none, .asg (.p 51)⟩, ⟨some 14, none, .asg (.p 52)⟩])
 (.seq (.seq (.reg [⟨some 53, none, .mv (.p 13)⟩, ⟨some 54, none, .mv (.p 8)⟩, ⟨some 55, none, .bin .neq (.t 53) (.t 54)⟩, ⟨some 56, none, .mv (.p 55)⟩, ⟨some 57, some (56, false), .mv (.p 14)⟩, ⟨some 58, some (56, false), .mv (.p 9)⟩, ⟨some 59, some (56, false), .beq true (.t 57) (.t 58)⟩, ⟨some 60, none, .pick (.t 56) (.c (.bool true)) (.t 59)⟩])
 (.cond (.t 60) (.seq (.reg [⟨some 6, none, .asg (.c (.bool false))⟩])
 .ret) .skip))
 (.seq (.seq (.reg [⟨some 61, none, .load true 12 (.t 10)⟩, ⟨some 62, none, .load true 12 (.t 3)⟩, ⟨some 63, none, .call n_laws_toBoard [.a 62 3]⟩, ⟨some 64, none, .call n_laws_eqBoard [.a 61 10, .t 63]⟩, ⟨some 65, none, .un .not (.t 64)⟩])
 (.cond (.t 65) (.seq (.reg [⟨some 6, none, .asg (.c (.bool false))⟩])
 .ret) .skip))
 (.seq (.seq (.reg [⟨some 66, none, .load true 3 (.t 11)⟩, ⟨some 67, none, .load true 3 (.t 4)⟩, ⟨some 68, none, .call n_laws_toState [.a 67 4]⟩, ⟨some 69, none, .call n_laws_eqState [.a 66 11, .t 68]⟩, ⟨some 70, none, .un .not (.t 69)⟩])
 (.cond (.t 70) (.seq (.reg [⟨some 6, none, .asg (.c (.bool false))⟩])
 .ret) .skip))
 (.seq (.seq (.reg [⟨some 71, none, .load true 3 (.t 12)⟩, ⟨some 72, none, .load true 3 (.t 5)⟩, ⟨some 73, none, .call n_laws_toBattle [.a 72 5]⟩, ⟨some 74, none, .call n_laws_eqBattle [.a 71 12, .t 73]⟩, ⟨some 75, none, .un .not (.t 74)⟩])
 (.cond (.t 75) (.seq (.reg [⟨some 6, none, .asg (.c (.bool false))⟩])
 .ret) .skip))
 (.seq (.reg [⟨some 6, none, .asg (.c (.bool true))⟩])
 .ret))))))))))))))))))⟩
/-- laws.FnExactIsAttempts -/
def a_laws_FnExactIsAttempts : AFn := ⟨3, 76, [.tmp 6], (.seq (.reg [⟨some 3, none, .box (.t 0)⟩, ⟨some 4, none, .box (.t 1)⟩, ⟨some 6, none, .asg (.c (.bool false))⟩])
 (.seq (.reg [⟨some 7, none, .asg (.c (.int .i64 1048576))⟩])
 (.seq (.reg [⟨some 15, none, .load true 12 (.t 3)⟩, ⟨some 16, none, .mv (.p 7)⟩, ⟨some 17, none, .call n_laws_szBoard [.a 15 3, .t 16]⟩, ⟨some 7, none, .asg (.p 17)⟩])
 (.seq (.seq (.reg [⟨some 18, none, .mv (.p 7)⟩, ⟨some 19, none, .bin .lss (.t 18) (.c (.int .i64 0))⟩])
 (.cond (.t 19) (.seq (.reg [⟨some 6, none, .asg (.c (.bool true))⟩])
 .ret) .skip))
 (.seq (.reg [⟨some 20, none, .load true 3 (.t 4)⟩, ⟨some 21, none, .mv (.p 7)⟩, ⟨some 22, none, .call n_laws_szState [.a 20 4, .t 21]⟩, ⟨some 7, none, .asg (.p 22)⟩])
 (.seq (.seq (.reg [⟨some 23, none, .mv (.p 7)⟩, ⟨some 24, none, .bin .lss (.t 23) (.c (.int .i64 0))⟩])
 (.cond (.t 24) (.seq (.reg [⟨some 6, none, .asg (.c (.bool true))⟩])
 .ret) .skip))
 (.seq (.reg [⟨some 25, none, .rf (.t 2)⟩, ⟨some 26, none, .mv (.p 7)⟩, ⟨some 27, none, .call n_laws_szAttemptS [.a 25 2, .t 26]⟩, ⟨some 7, none, .asg (.p 27)⟩])
 (.seq (.seq (.reg [⟨some 28, none, .mv (.p 7)⟩, ⟨some 29, none, .bin .lss (.t 28) (.c (.int .i64 0))⟩])
 (.cond (.t 29) (.seq (.reg [⟨some 6, none, .asg (.c (.bool true))⟩])
 .ret) .skip))
 (.seq (.reg [⟨some 31, none, .load true 12 (.t 3)⟩, ⟨some 32, none, .call n_laws_toBoard [.a 31 3]⟩, ⟨some 33, none, .load true 3 (.t 4)⟩, ⟨some 34, none, .call n_laws_toState [.a 33 4]⟩, ⟨some 35, none, .rf (.t 2)⟩, ⟨some 36, none, .call n_laws_toAttemptS [.a 35 2]⟩, ⟨some 37, none, .call n_spec_IsAttempts [.t 32, .t 34, .t 36]⟩, ⟨some 30, none, .mv (.t 37)⟩, ⟨some 38, none, .extract (.p 30) 0⟩, ⟨some 39, none, .extract (.p 30) 1⟩, ⟨some 8, none, .asg (.p 38)⟩, ⟨some 9, none, .asg (.p 39)⟩])
 (.seq (.reg [⟨some 40, none, .load true 12 (.t 3)⟩, ⟨some 41, none, .call n_laws_toBoard [.a 40 3]⟩, ⟨some 10, none, .alloc [.list true 5 [], .list true 6 [], .int .i64 0, .int .i64 0, .int .i64 0, .int .i64 0, .int .i64 0, .int .i64 0, .int .i64 0, .list true 1 [], .list true 1 [], .list true 1 []]⟩, ⟨none, none, .store 12 (.t 10) (.t 41)⟩])
 (.seq (.reg [⟨some 42, none, .load true 3 (.t 4)⟩, ⟨some 43, none, .call n_laws_toState [.a 42 4]⟩, ⟨some 11, none, .alloc [.int .i64 0, .int .i64 0, .list true 4 []]⟩, ⟨none, none, .store 3 (.t 11) (.t 43)⟩])
 (.seq (.reg [⟨some 44, none, .rf (.t 2)⟩, ⟨some 45, none, .call n_laws_toAttemptS [.a 44 2]⟩, ⟨some 12, none, .asg (.t 45)⟩])
 (.seq (.reg [⟨some 47, none, .load true 12 (.t 10)⟩, ⟨some 48, none, .load true 3 (.t 11)⟩, ⟨some 49, none, .rf (.t 12)⟩, ⟨some 50, none, .call n_impl_IsAttempts [.a 47 10, .a 48 11, .a 49 12]⟩, ⟨some 46, none, .mv (.t 50)⟩, ⟨some 51, none, .extract (.p 46) 0⟩, ⟨some 52, none, .extract (.p 46) 1⟩, ⟨some 13, none, .asg (.p 51)⟩, ⟨some 14, none, .asg (.p 52)⟩])
 (.seq (.seq (.reg [⟨some 53, none, .mv (.p 13)⟩, ⟨some 54, none, .mv (.p 8)⟩, ⟨some 55, none, .beq true (.t 53) (.t 54)⟩, ⟨some 56, none, .mv (.p 55)⟩, ⟨some 57, some (56, false), .mv (.p 14)⟩, ⟨some 58, some (56, false), .mv (.p 9)⟩, ⟨some 59, some (56, false), .beq true (.t 57) (.t 58)⟩, ⟨some 60, none, .pick (.t 56) (.c (.bool true)) (.t 59)⟩])
 (.cond (.t 60) (.seq (.reg [⟨some 6, none, .asg (.c (.bool false))⟩])
 .ret) .skip))
 (.seq (.seq (.reg [⟨some 61, none, .load true 12 (.t 10)⟩, ⟨some 62, none, .load true 12 (.t 3)⟩, ⟨some 63, none, .call n_laws_toBoard [.a 62 3]⟩, ⟨some 64, none, .call n_laws_eqBoard [.a 61 10, .t 63]⟩, ⟨some 65, none, .un .not (.t 64)⟩])
 (.cond (.t 65) (.seq (.reg [⟨some 6, none, .asg (.c (.bool false))⟩])
 .ret) .skip))
 (.seq (.seq (.reg [⟨some 66, none, .load true 3 (.t 11)⟩, ⟨some 67, none, .load true 3 (.t 4)⟩, ⟨some 68, none, .call n_laws_toState [.a 67 4]⟩, ⟨some 69, none, .call n_laws_eqState [.a 66 11, .t 68]⟩, ⟨some 70, none, .un .not (.t 69)⟩])
 (.cond (.t 70) (.seq (.reg [⟨some 6, none, .asg (.c (.bool false))⟩])
 .ret) .skip))
 (.seq (.seq (.reg [⟨some 71, none, .rf (.t 12)⟩, ⟨some 72, none, .rf (.t 2)⟩, ⟨some 73, none, .call n_laws_toAttemptS [.a 72 2]⟩, ⟨some 74, none, .call n_laws_eqAttemptS [.a 71 12, .t 73]⟩, ⟨some 75, none, .un .not (.t 74)⟩])
 (.cond (.t 75) (.seq (.reg [⟨some 6, none, .asg (.c (.bool false))⟩])
 .ret) .skip))
 (.seq (.reg [⟨some 6, none, .asg (.c (.bool true))⟩])
 .ret))))))))))))))))))⟩
/-- laws.FnExactAttackStrength -/
def a_laws_FnExactAttackStrength : AFn := ⟨3, 76, [.tmp 6], (.seq (.reg [⟨some 3, none, .box (.t 0)⟩, ⟨some 4, none, .box (.t 1)⟩, ⟨some 5, none, .box (.t 2)⟩, ⟨some 6, none, .asg (.c (.bool false))⟩])
 (.seq (.reg [⟨some 7, none, .asg (.c (.int .i64 1048576))⟩])
 (.seq (.reg [⟨some 15, none, .load true 12 (.t 3)⟩, ⟨some 16, none, .mv (.p 7)⟩, ⟨some 17, none, .call n_laws_szBoard [.a 15 3, .t 16]⟩, ⟨some 7, none, .asg (.p 17)⟩])
 (.seq (.seq (.reg [⟨some 18, none, .mv (.p 7)⟩, ⟨some 19, none, .bin .lss (.t 18) (.c (.int .i64 0))⟩])
 (.cond (.t 19) (.seq (.reg [⟨some 6, none, .asg (.c (.bool true))⟩])
 .ret) .skip))
 (.seq (.reg [⟨some 20, none, .load true 3 (.t 4)⟩, ⟨some 21, none, .mv (.p 7)⟩, ⟨some 22, none, .call n_laws_szState [.a 20 4, .t 21]⟩, ⟨some 7, none, .asg (.p 22)⟩])
 (.seq (.seq (.reg [⟨some 23, none, .mv (.p 7)⟩, ⟨some 24, none, .bin .lss (.t 23) (.c (.int .i64 0))⟩])
 (.cond (.t 24) (.seq (.reg [⟨some 6, none, .asg (.c (.bool true))⟩])
 .ret) .skip))
 (.seq (.reg [⟨some 25, none, .load true 3 (.t 5)⟩, ⟨some 26, none, .mv (.p 7)⟩, ⟨some 27, none, .call n_laws_szBattle [.a 25 5, .t 26]⟩, ⟨some 7, none, .asg (.p 27)⟩])
 (.seq (.seq (.reg [⟨some 28, none, .mv (.p 7)⟩, ⟨some 29, none, .bin .lss (.t 28) (.c (.int .i64 0))⟩])
 (.cond (.t 29) (.seq (.reg [⟨some 6, none, .asg (.c (.bool true))⟩])
 .ret) .skip))
 (.seq (.reg [⟨some 31, none, .load true 12 (.t 3)⟩, ⟨some 32, none, .call n_laws_toBoard [.a 31 3]⟩, ⟨some 33, none, .load true 3 (.t 4)⟩, ⟨some 34, none, .call n_laws_toState [.a 33 4]⟩, ⟨some 35, none, .load true 3 (.t 5)⟩, ⟨some 36, none, .call n_laws_toBattle [.a 35 5]⟩, ⟨some 37, none, .call n_spec_AttackStrength [.t 32, .t 34, .t 36]⟩, ⟨some 30, none, .mv (.t 37)⟩, ⟨some 38, none, .extract (.p 30) 0⟩, ⟨some 39, none, .extract (.p 30) 1⟩, ⟨some 8, none, .asg (.p 38)⟩, ⟨some 9, none, .asg (.p 39)⟩])
 (.seq (.reg [⟨some 40, none, .load true 12 (.t 3)⟩, ⟨some 41, none, .call n_laws_toBoard [.a 40 3]⟩, ⟨some 10, none, .alloc [.list true 5 [], .list true 6 [], .int .i64 0, .int .i64 0, .int .i64 0, .int .i64 0, .int .i64 0, .int .i64 0, .int .i64 0, .list true 1 [], .list true 1 [], .list true 1 []]⟩, ⟨none, none, .store 12 (.t 10) (.t 41)⟩])
 (.seq (.reg [⟨some 42, none, .load true 3 (.t 4)⟩, ⟨some 43, none, .call n_laws_toState [.a 42 4]⟩, ⟨some 11, none, .alloc [.int .i64 0, .int .i64 0, .list true 4 []]⟩, ⟨none, none, .store 3 (.t 11) (.t 43)⟩])
 (.seq (.reg [⟨some 44, none, .load true 3 (.t 5)⟩, ⟨some 45, none, .call n_laws_toBattle [.a 44 5]⟩, ⟨some 12, none, .alloc [.int .i64 0, .list true 1 [], .list true 1 []]⟩, ⟨none, none, .store 3 (.t 12) (.t 45)⟩])
 (.seq (.reg [⟨some 47, none, .load true 12 (.t 10)⟩, ⟨some 48, none, .load true 3 (.t 11)⟩, ⟨some 49, none, .load true 3 (.t 12)⟩, ⟨some 50, none, .call n_impl_AttackStrength [.a 47 10, .a 48 11, .a 49 12]⟩, ⟨some 46, none, .mv (.t 50)⟩, ⟨some 51, none, .extract (.p 46) 0⟩, ⟨some 52, none, .extract (.p 46) 1⟩, ⟨some 13, none, .asg (.p 51)⟩, ⟨some 14, none, .asg (.p 52)⟩])
 (.seq (.seq (.reg [⟨some 53, none, .mv (.p 13)⟩, ⟨some 54, none, .mv (.p 8)⟩, ⟨some 55, none, .bin .neq (.t 53) (.t 54)⟩, ⟨some 56, none, .mv (.p 55)⟩, ⟨some 57, some (56, false), .mv (.p 14)⟩, ⟨some 58, some (56, false), .mv (.p 9)⟩, ⟨some 59, some (56, false), .beq true (.t 57) (.t 58)⟩, ⟨some 60, none, .pick (.t 56) (.c (.bool true)) (.t 59)⟩])
 (.cond (.t 60) (.seq (.reg [⟨some 6, none, .asg (.c (.bool false))⟩])
 .ret) .skip))
 (.seq (.seq (.reg [⟨some 61, none, .load true 12 (.t 10)⟩, ⟨some 62, none, .load true 12 (.t 3)⟩, ⟨some 63, none, .call n_laws_toBoard [.a 62 3]⟩, ⟨some 64, none, .call n_laws_eqBoard [.a 61 10, .t 63]⟩, ⟨some 65, none, .un .not (.t 64)⟩])
 (.cond (.t 65) (.seq (.reg [⟨some 6, none, .asg (.c (.bool false))⟩])
 .ret) .skip))
 (.seq (.seq (.reg [⟨some 66, none, .load true 3 (.t 11)⟩, ⟨some 67, none, .load true 3 (.t 4)⟩, ⟨some 68, none, .call n_laws_toState [.a 67 4]⟩, ⟨some 69, none, .call n_laws_eqState [.a 66 11, .t 68]⟩, ⟨some 70, none, .un .not (.t 69)⟩])
 (.cond (.t 70) (.seq (.reg [⟨some 6, none, .asg (.c (.bool false))⟩])
 .ret) .skip))
 (.seq (.seq (.reg [⟨some 71, none, .load true 3 (.t 12)⟩, ⟨some 72, none, .load true 3 (.t 5)⟩, ⟨some 73, none, .call n_laws_toBattle [.a 72 5]⟩, ⟨some 74, none, .call n_laws_eqBattle [.a 71 12, .t 73]⟩, ⟨some 75, none, .un .not (.t 74)⟩])
 (.cond (.t 75) (.seq (.reg [⟨some 6, none, .asg (.c (.bool false))⟩])
 .ret) .skip))
 (.seq (.reg [⟨some 6, none, .asg (.c (.bool true))⟩])
 .ret))))))))))))))))))⟩
/-- laws.FnExactIsTrapped -/
def a_laws_FnExactIsTrapped : AFn := ⟨3, 62, [.tmp 6], (.seq (.reg [⟨some 3, none, .box (.t 0)⟩, ⟨some 4, none, .box (.t 1)⟩, ⟨some 6, none, .asg (.c (.bool false))⟩])
 (.seq (.reg [⟨some 7, none, .asg (.c (.int .i64 1048576))⟩])
 (.seq (.reg [⟨some 14, none, .load true 12 (.t 3)⟩, ⟨some 15, none, .mv (.p 7)⟩, ⟨some 16, none, .call n_laws_szBoard [.a 14 3, .t 15]⟩, ⟨some 7, none, .asg (.p 16)⟩])
 (.seq (.seq (.reg [⟨some 17, none, .mv (.p 7)⟩, ⟨some 18, none, .bin .lss (.t 17) (.c (.int .i64 0))⟩])
 (.cond (.t 18) (.seq (.reg [⟨some 6, none, .asg (.c (.bool true))⟩])
 .ret) .skip))
 (.seq (.reg [⟨some 19, none, .load true 3 (.t 4)⟩, ⟨some 20, none, .mv (.p 7)⟩, ⟨some 21, none, .call n_laws_szState [.a 19 4, .t 20]⟩, ⟨some 7, none, .asg (.p 21)⟩])
 (.seq (.seq (.reg [⟨some 22, none, .mv (.p 7)⟩, ⟨some 23, none, .bin .lss (.t 22) (.c (.int .i64 0))⟩])
 (.cond (.t 23) (.seq (.reg [⟨some 6, none, .asg (.c (.bool true))⟩])
 .ret) .skip))
 (.seq (.reg [⟨some 25, none, .load true 12 (.t 3)⟩, ⟨some 26, none, .call n_laws_toBoard [.a 25 3]⟩, ⟨some 27, none, .load true 3 (.t 4)⟩, ⟨some 28, none, .call n_laws_toState [.a 27 4]⟩, ⟨some 29, none, .mv (.p 2)⟩, ⟨some 30, none, .call n_spec_IsTrapped [.t 26, .t 28, .t 29]⟩, ⟨some 24, none, .mv (.t 30)⟩, ⟨some 31, none, .extract (.p 24) 0⟩, ⟨some 32, none, .extract (.p 24) 1⟩, ⟨some 8, none, .asg (.p 31)⟩, ⟨some 9, none, .asg (.p 32)⟩])
 (.seq (.reg [⟨some 33, none, .load true 12 (.t 3)⟩, ⟨some 34, none, .call n_laws_toBoard [.a 33 3]⟩, ⟨some 10, none, .alloc [.list true 5 [], .list true 6 [], .int .i64 0, .int .i64 0, .int .i64 0, .int .i64 0, .int .i64 0, .int .i64 0, .int .i64 0, .list true 1 [], .list true 1 [], .list true 1 []]⟩, ⟨none, none, .store 12 (.t 10) (.t 34)⟩])
 (.seq (.reg [⟨some 35, none, .load true 3 (.t 4)⟩, ⟨some 36, none, .call n_laws_toState [.a 35 4]⟩, ⟨some 11, none, .alloc [.int .i64 0, .int .i64 0, .list true 4 []]⟩, ⟨none, none, .store 3 (.t 11) (.t 36)⟩])
 (.seq (.reg [⟨some 38, none, .load true 12 (.t 10)⟩, ⟨some 39, none, .load true 3 (.t 11)⟩, ⟨some 40, none, .mv (.p 2)⟩, ⟨some 41, none, .call n_impl_IsTrapped [.a 38 10, .a 39 11, .t 40]⟩, ⟨some 37, none, .mv (.t 41)⟩, ⟨some 42, none, .extract (.p 37) 0⟩, ⟨some 43, none, .extract (.p 37) 1⟩, ⟨some 12, none, .asg (.p 42)⟩, ⟨some 13, none, .asg (.p 43)⟩])
 (.seq (.seq (.reg [⟨some 44, none, .mv (.p 12)⟩, ⟨some 45, none, .mv (.p 8)⟩, ⟨some 46, none, .beq true (.t 44) (.t 45)⟩, ⟨some 47, none, .mv (.p 46)⟩, ⟨some 48, some (47, false), .mv (.p 13)⟩, ⟨some 49, some (47, false), .mv (.p 9)⟩, ⟨some 50, some (47, false), .beq true (.t 48) (.t 49)⟩, ⟨some 51, none, .pick (.t 47) (.c (.bool true)) (.t 50)⟩])
 (.cond (.t 51) (.seq (.reg [⟨some 6, none, .asg (.c (.bool false))⟩])
 .ret) .skip))
 (.seq (.seq (.reg [⟨some 52, none, .load true 12 (.t 10)⟩, ⟨some 53, none, .load true 12 (.t 3)⟩, ⟨some 54, none, .call n_laws_toBoard [.a 53 3]⟩, ⟨some 55, none, .call n_laws_eqBoard [.a 52 10, .t 54]⟩, ⟨some 56, none, .un .not (.t 55)⟩])
 (.cond (.t 56) (.seq (.reg [⟨some 6, none, .asg (.c (.bool false))⟩])
 .ret) .skip))
 (.seq (.seq (.reg [⟨some 57, none, .load true 3 (.t 11)⟩, ⟨some 58, none, .load true 3 (.t 4)⟩, ⟨some 59, none, .call n_laws_toState [.a 58 4]⟩, ⟨some 60, none, .call n_laws_eqState [.a 57 11, .t 59]⟩, ⟨some 61, none, .un .not (.t 60)⟩])
 (.cond (.t 61) (.seq (.reg [⟨some 6, none, .asg (.c (.bool false))⟩])
 .ret) .skip))
 (.seq (.reg [⟨some 6, none, .asg (.c (.bool true))⟩])
 .ret))))))))))))))⟩
/-- laws.FnExactCountRetreats -/
def a_laws_FnExactCountRetreats : AFn := ⟨4, 66, [.tmp 8], (.seq (.reg [⟨some 4, none, .box (.t 0)⟩, ⟨some 5, none, .box (.t 1)⟩, ⟨some 8, none, .asg (.c (.bool false))⟩])
 (.seq (.reg [⟨some 9, none, .asg (.c (.int .i64 1048576))⟩])
 (.seq (.reg [⟨some 16, none, .load true 12 (.t 4)⟩, ⟨some 17, none, .mv (.p 9)⟩, ⟨some 18, none, .call n_laws_szBoard [.a 16 4, .t 17]⟩, ⟨some 9, none, .asg (.p 18)⟩])
 (.seq (.seq (.reg [⟨some 19, none, .mv (.p 9)⟩, ⟨some 20, none, .bin .lss (.t 19) (.c (.int .i64 0))⟩])
 (.cond (.t 20) (.seq (.reg [⟨some 8, none, .asg (.c (.bool true))⟩])
 .ret) .skip))
 (.seq (.reg [⟨some 21, none, .load true 3 (.t 5)⟩, ⟨some 22, none, .mv (.p 9)⟩, ⟨some 23, none, .call n_laws_szState [.a 21 5, .t 22]⟩, ⟨some 9, none, .asg (.p 23)⟩])
 (.seq (.seq (.reg [⟨some 24, none, .mv (.p 9)⟩, ⟨some 25, none, .bin .lss (.t 24) (.c (.int .i64 0))⟩])
 (.cond (.t 25) (.seq (.reg [⟨some 8, none, .asg (.c (.bool true))⟩])
 .ret) .skip))
 (.seq (.reg [⟨some 27, none, .load true 12 (.t 4)⟩, ⟨some 28, none, .call n_laws_toBoard [.a 27 4]⟩, ⟨some 29, none, .load true 3 (.t 5)⟩, ⟨some 30, none, .call n_laws_toState [.a 29 5]⟩, ⟨some 31, none, .mv (.p 2)⟩, ⟨some 32, none, .mv (.p 3)⟩, ⟨some 33, none, .call n_spec_CountRetreats [.t 28, .t 30, .t 31, .t 32]⟩, ⟨some 26, none, .mv (.t 33)⟩, ⟨some 34, none, .extract (.p 26) 0⟩, ⟨some 35, none, .extract (.p 26) 1⟩, ⟨some 10, none, .asg (.p 34)⟩, ⟨some 11, none, .asg (.p 35)⟩])
 (.seq (.reg [⟨some 36, none, .load true 12 (.t 4)⟩, ⟨some 37, none, .call n_laws_toBoard [.a 36 4]⟩, ⟨some 12, none, .alloc [.list true 5 [], .list true 6 [], .int .i64 0, .int .i64 0, .int .i64 0, .int .i64 0, .int .i64 0, .int .i64 0, .int .i64 0, .list true 1 [], .list true 1 [], .list true 1 []]⟩, ⟨none, none, .store 12 (.t 12) (.t 37)⟩])
 (.seq (.reg [⟨some 38, none, .load true 3 (.t 5)⟩, ⟨some 39, none, .call n_laws_toState [.a 38 5]⟩, ⟨some 13, none, .alloc [.int .i64 0, .int .i64 0, .list true 4 []]⟩, ⟨none, none, .store 3 (.t 13) (.t 39)⟩])
 (.seq (.reg [⟨some 41, none, .load true 12 (.t 12)⟩, ⟨some 42, none, .load true 3 (.t 13)⟩, ⟨some 43, none, .mv (.p 2)⟩, ⟨some 44, none, .mv (.p 3)⟩, ⟨some 45, none, .call n_impl_CountRetreats [.a 41 12, .a 42 13, .t 43, .t 44]⟩, ⟨some 40, none, .mv (.t 45)⟩, ⟨some 46, none, .extract (.p 40) 0⟩, ⟨some 47, none, .extract (.p 40) 1⟩, ⟨some 14, none, .asg (.p 46)⟩, ⟨some 15, none, .asg (.p 47)⟩])
 (.seq (.seq (.reg [⟨some 48, none, .mv (.p 14)⟩, ⟨some 49, none, .mv (.p 10)⟩, ⟨some 50, none, .bin .neq (.t 48) (.t 49)⟩, ⟨some 51, none, .mv (.p 50)⟩, ⟨some 52, some (51, false), .mv (.p 15)⟩, ⟨some 53, some (51, false), .mv (.p 11)⟩, ⟨some 54, some (51, false), .beq true (.t 52) (.t 53)⟩, ⟨some 55, none, .pick (.t 51) (.c (.bool true)) (.t 54)⟩])
 (.cond (.t 55) (.seq (.reg [⟨some 8, none, .asg (.c (.bool false))⟩])
 .ret) .skip))
 (.seq (.seq (.reg [⟨some 56, none, .load true 12 (.t 12)⟩, ⟨some 57, none, .load true 12 (.t 4)⟩, ⟨some 58, none, .call n_laws_toBoard [.a 57 4]⟩, ⟨some 59, none, .call n_laws_eqBoard [.a 56 12, .t 58]⟩, ⟨some 60, none, .un .not (.t 59)⟩])
 (.cond (.t 60) (.seq (.reg [⟨some 8, none, .asg (.c (.bool false))⟩])
 .ret) .skip))
 (.seq (.seq (.reg [⟨some 61, none, .load true 3 (.t 13)⟩, ⟨some 62, none, .load true 3 (.t 5)⟩, ⟨some 63, none, .call n_laws_toState [.a 62 5]⟩, ⟨some 64, none, .call n_laws_eqState [.a 61 13, .t 63]⟩, ⟨some 65, none, .un .not (.t 64)⟩])
 (.cond (.t 65) (.seq (.reg [⟨some 8, none, .asg (.c (.bool false))⟩])
 .ret) .skip))
 (.seq (.reg [⟨some 8, none, .asg (.c (.bool true))⟩])
 .ret))))))))))))))⟩
/-- laws.FnExactRetreatSteps -/
def a_laws_FnExactRetreatSteps : AFn := ⟨3, 124, [.tmp 6], (.seq (.reg [⟨some 3, none, .box (.t 0)⟩, ⟨some 4, none, .box (.t 1)⟩, ⟨some 6, none, .asg (.c (.bool false))⟩])
 (.seq (.reg [⟨some 7, none, .asg (.c (.int .i64 1048576))⟩])
 (.seq (.reg [⟨some 19, none, .load true 12 (.t 3)⟩, ⟨some 20, none, .mv (.p 7)⟩, ⟨some 21, none, .call n_laws_szBoard [.a 19 3, .t 20]⟩, ⟨some 7, none, .asg (.p 21)⟩])
 (.seq (.seq (.reg [⟨some 22, none, .mv (.p 7)⟩, ⟨some 23, none, .bin .lss (.t 22) (.c (.int .i64 0))⟩])
 (.cond (.t 23) (.seq (.reg [⟨some 6, none, .asg (.c (.bool true))⟩])
 .ret) .skip))
 (.seq (.reg [⟨some 24, none, .load true 3 (.t 4)⟩, ⟨some 25, none, .mv (.p 7)⟩, ⟨some 26, none, .call n_laws_szState [.a 24 4, .t 25]⟩, ⟨some 7, none, .asg (.p 26)⟩])
 (.seq (.seq (.reg [⟨some 27, none, .mv (.p 7)⟩, ⟨some 28, none, .bin .lss (.t 27) (.c (.int .i64 0))⟩])
 (.cond (.t 28) (.seq (.reg [⟨some 6, none, .asg (.c (.bool true))⟩])
 .ret) .skip))
 (.seq (.reg [⟨some 30, none, .load true 12 (.t 3)⟩, ⟨some 31, none, .call n_laws_toBoard [.a 30 3]⟩, ⟨some 32, none, .load true 3 (.t 4)⟩, ⟨some 33, none, .call n_laws_toState [.a 32 4]⟩, ⟨some 34, none, .mv (.p 2)⟩, ⟨some 35, none, .call n_spec_RetreatSteps [.t 31, .t 33, .t 34]⟩, ⟨some 29, none, .mv (.t 35)⟩, ⟨some 36, none, .extract (.t 29) 0⟩, ⟨some 37, none, .extract (.p 29) 1⟩, ⟨some 8, none, .asg (.t 36)⟩, ⟨some 9, none, .asg (.p 37)⟩])
 (.seq (.reg [⟨some 38, none, .load true 12 (.t 3)⟩, ⟨some 39, none, .call n_laws_toBoard [.a 38 3]⟩, ⟨some 10, none, .alloc [.list true 5 [], .list true 6 [], .int .i64 0, .int .i64 0, .int .i64 0, .int .i64 0, .int .i64 0, .int .i64 0, .int .i64 0, .list true 1 [], .list true 1 [], .list true 1 []]⟩, ⟨none, none, .store 12 (.t 10) (.t 39)⟩])
 (.seq (.reg [⟨some 40, none, .load true 3 (.t 4)⟩, ⟨some 41, none, .call n_laws_toState [.a 40 4]⟩, ⟨some 11, none, .alloc [.int .i64 0, .int .i64 0, .list true 4 []]⟩, ⟨none, none, .store 3 (.t 11) (.t 41)⟩])
 (.seq (.reg [⟨some 43, none, .load true 12 (.t 10)⟩, ⟨some 44, none, .load true 3 (.t 11)⟩, ⟨some 45, none, .mv (.p 2)⟩, ⟨some 46, none, .call n_impl_RetreatSteps [.a 43 10, .a 44 11, .t 45]⟩, ⟨some 42, none, .mv (.t 46)⟩, ⟨some 47, none, .extract (.t 42) 0⟩, ⟨some 48, none, .extract (.p 42) 1⟩, ⟨some 12, none, .asg (.t 47)⟩, ⟨some 13, none, .asg (.p 48)⟩])
 (.seq (.seq (.reg [⟨some 49, none, .rf (.t 12)⟩, ⟨some 50, none, .rf (.t 8)⟩, ⟨some 51, none, .call n_laws_eqIntS [.a 49 12, .a 50 8]⟩, ⟨some 52, none, .un .not (.t 51)⟩, ⟨some 53, none, .mv (.p 52)⟩, ⟨some 54, some (53, false), .mv (.p 13)⟩, ⟨some 55, some (53, false), .mv (.p 9)⟩, ⟨some 56, some (53, false), .beq true (.t 54) (.t 55)⟩, ⟨some 57, none, .pick (.t 53) (.c (.bool true)) (.t 56)⟩])
 (.cond (.t 57) (.seq (.reg [⟨some 6, none, .asg (.c (.bool false))⟩])
 .ret) .skip))
 (.seq (.seq (.reg [⟨some 58, none, .load true 12 (.t 10)⟩, ⟨some 59, none, .load true 12 (.t 3)⟩, ⟨some 60, none, .call n_laws_toBoard [.a 59 3]⟩, ⟨some 61, none, .call n_laws_eqBoard [.a 58 10, .t 60]⟩, ⟨some 62, none, .un .not (.t 61)⟩])
 (.cond (.t 62) (.seq (.reg [⟨some 6, none, .asg (.c (.bool false))⟩])
 .ret) .skip))
 (.seq (.seq (.reg [⟨some 63, none, .load true 3 (.t 11)⟩, ⟨some 64, none, .load true 3 (.t 4)⟩, ⟨some 65, none, .call n_laws_toState [.a 64 4]⟩, ⟨some 66, none, .call n_laws_eqState [.a 63 11, .t 65]⟩, ⟨some 67, none, .un .not (.t 66)⟩])
 (.cond (.t 67) (.seq (.reg [⟨some 6, none, .asg (.c (.bool false))⟩])
 .ret) .skip))
 (.seq (.reg [⟨some 14, none, .asg (.c (.int .i64 1))⟩])
 (.seq (.reg [⟨some 68, none, .load true 12 (.t 10)⟩, ⟨some 69, none, .mv (.p 14)⟩, ⟨some 70, none, .calli n_laws_markBoard 68 10 [.t 69]⟩, ⟨some 14, none, .asg (.p 70)⟩])
 (.seq (.reg [⟨some 71, none, .load true 3 (.t 11)⟩, ⟨some 72, none, .mv (.p 14)⟩, ⟨some 73, none, .calli n_laws_markState 71 11 [.t 72]⟩, ⟨some 14, none, .asg (.p 73)⟩])
 (.seq (.seq (.reg [⟨some 74, none, .mv (.p 14)⟩, ⟨some 75, none, .bin .lss (.t 74) (.c (.int .i64 0))⟩, ⟨some 76, none, .mv (.p 75)⟩, ⟨some 77, some (76, false), .rf (.t 12)⟩, ⟨some 78, some (76, false), .rf (.t 8)⟩, ⟨some 79, some (76, false), .call n_laws_eqIntS [.a 77 12, .a 78 8]⟩, ⟨some 80, some (76, false), .un .not (.t 79)⟩, ⟨some 81, none, .pick (.t 76) (.c (.bool true)) (.t 80)⟩, ⟨some 82, none, .mv (.p 81)⟩, ⟨some 83, some (82, false), .mv (.p 13)⟩, ⟨some 84, some (82, false), .mv (.p 9)⟩, ⟨some 85, some (82, false), .beq true (.t 83) (.t 84)⟩, ⟨some 86, none, .pick (.t 82) (.c (.bool true)) (.t 85)⟩])
 (.cond (.t 86) (.seq (.reg [⟨some 6, none, .asg (.c (.bool false))⟩])
 .ret) .skip))
 (.seq (.reg [⟨some 15, none, .asg (.c (.int .i64 1))⟩])
 (.seq (.reg [⟨some 87, none, .rf (.t 12)⟩, ⟨some 88, none, .mv (.p 15)⟩, ⟨some 89, none, .calli n_laws_markIntS 87 12 [.t 88]⟩, ⟨some 15, none, .asg (.p 89)⟩])
 (.seq (.reg [⟨some 16, none, .asg (.c (.int .i64 1))⟩])
 (.seq (.reg [⟨some 90, none, .rf (.t 12)⟩, ⟨some 91, none, .mv (.p 16)⟩, ⟨some 92, none, .call n_laws_heldIntS [.a 90 12, .t 91]⟩, ⟨some 16, none, .asg (.p 92)⟩])
 (.seq (.seq (.reg [⟨some 93, none, .mv (.p 16)⟩, ⟨some 94, none, .bin .lss (.t 93) (.c (.int .i64 0))⟩])
 (.cond (.t 94) (.seq (.reg [⟨some 6, none, .asg (.c (.bool false))⟩])
 .ret) .skip))
 (.seq (.seq (.reg [⟨some 95, none, .mv (.p 16)⟩, ⟨some 96, none, .mv (.p 15)⟩, ⟨some 97, none, .bin .neq (.t 95) (.t 96)⟩])
 (.cond (.t 97) (.seq (.reg [⟨some 6, none, .asg (.c (.bool false))⟩])
 .ret) .skip))
 (.seq (.reg [⟨some 99, none, .load true 12 (.t 3)⟩, ⟨some 100, none, .call n_laws_toBoard [.a 99 3]⟩, ⟨some 101, none, .load true 3 (.t 4)⟩, ⟨some 102, none, .call n_laws_toState [.a 101 4]⟩, ⟨some 103, none, .mv (.p 2)⟩, ⟨some 104, none, .call n_impl_RetreatSteps [.t 100, .t 102, .t 103]⟩, ⟨some 98, none, .mv (.t 104)⟩, ⟨some 105, none, .extract (.t 98) 0⟩, ⟨some 106, none, .extract (.p 98) 1⟩, ⟨some 17, none, .asg (.t 105)⟩, ⟨some 18, none, .asg (.p 106)⟩])
 (.seq (.seq (.reg [⟨some 107, none, .rf (.t 17)⟩, ⟨some 108, none, .rf (.t 8)⟩, ⟨some 109, none, .call n_laws_eqIntS [.a 107 17, .a 108 8]⟩, ⟨some 110, none, .un .not (.t 109)⟩, ⟨some 111, none, .mv (.p 110)⟩, ⟨some 112, some (111, false), .mv (.p 18)⟩, ⟨some 113, some (111, false), .mv (.p 9)⟩, ⟨some 114, some (111, false), .beq true (.t 112) (.t 113)⟩, ⟨some 115, none, .pick (.t 111) (.c (.bool true)) (.t 114)⟩])
 (.cond (.t 115) (.seq (.reg [⟨some 6, none, .asg (.c (.bool false))⟩])
 .ret) .skip))
 (.seq (.reg [⟨some 16, none, .asg (.c (.int .i64 1))⟩])
 (.seq (.reg [⟨some 116, none, .rf (.t 12)⟩, ⟨some 117, none, .mv (.p 16)⟩, ⟨some 118, none, .call n_laws_heldIntS [.a 116 12, .t 117]⟩, ⟨some 16, none, .asg (.p 118)⟩])
 (.seq (.seq (.reg [⟨some 119, none, .mv (.p 16)⟩, ⟨some 120, none, .bin .lss (.t 119) (.c (.int .i64 0))⟩])
 (.cond (.t 120) (.seq (.reg [⟨some 6, none, .asg (.c (.bool false))⟩])
 .ret) .skip))
 (.seq (.seq (.reg [⟨some 121, none, .mv (.p 16)⟩, ⟨some 122, none, .mv (.p 15)⟩, ⟨some 123, none, .bin .neq (.t 121) (.t 122)⟩])
 (.cond (.t 123) (.seq (.reg [⟨some 6, none, .asg (.c (.bool false))⟩])
 .ret) .skip))
 (.seq (.reg [⟨some 6, none, .asg (.c (.bool true))⟩])
 .ret))))))))))))))))))))))))))))))⟩
/-- laws.szBoard -/
def a_laws_szBoard : AFn := ⟨2, 18, [.tmp 4], (.seq (.reg [⟨some 2, none, .box (.t 0)⟩, ⟨some 4, none, .asg (.c (.int .i64 0))⟩])
 (.seq (.reg [⟨some 5, none, .faddr 0 (.t 2)⟩, ⟨some 6, none, .load true 7 (.a 5 2)⟩, ⟨some 7, none, .mv (.p 1)⟩, ⟨some 8, none, .call n_laws_szRules [.a 6 2, .t 7]⟩, ⟨some 1, none, .asg (.p 8)⟩])
 (.seq (.seq (.reg [⟨some 9, none, .mv (.p 1)⟩, ⟨some 10, none, .bin .lss (.t 9) (.c (.int .i64 0))⟩])
 (.cond (.t 10) (.seq (.reg [⟨some 4, none, .asg (.c (.int .i64 (-1)))⟩])
 .ret) .skip))
 (.seq (.reg [⟨some 11, none, .faddr 7 (.t 2)⟩, ⟨some 12, none, .load true 5 (.a 11 2)⟩, ⟨some 13, none, .mv (.p 1)⟩, ⟨some 14, none, .call n_laws_szMap [.a 12 2, .t 13]⟩, ⟨some 1, none, .asg (.p 14)⟩])
 (.seq (.seq (.reg [⟨some 15, none, .mv (.p 1)⟩, ⟨some 16, none, .bin .lss (.t 15) (.c (.int .i64 0))⟩])
 (.cond (.t 16) (.seq (.reg [⟨some 4, none, .asg (.c (.int .i64 (-1)))⟩])
 .ret) .skip))
 (.seq (.reg [⟨some 17, none, .mv (.p 1)⟩, ⟨some 4, none, .asg (.p 17)⟩])
 .ret))))))⟩
/-- laws.szState -/
def a_laws_szState : AFn := ⟨2, 12, [.tmp 4], (.seq (.reg [⟨some 2, none, .box (.t 0)⟩, ⟨some 4, none, .asg (.c (.int .i64 0))⟩])
 (.seq (.reg [⟨some 5, none, .faddr 2 (.t 2)⟩, ⟨some 6, none, .load false 1 (.a 5 2)⟩, ⟨some 7, none, .mv (.p 1)⟩, ⟨some 8, none, .call n_laws_szUnitS [.a 6 2, .t 7]⟩, ⟨some 1, none, .asg (.p 8)⟩])
 (.seq (.seq (.reg [⟨some 9, none, .mv (.p 1)⟩, ⟨some 10, none, .bin .lss (.t 9) (.c (.int .i64 0))⟩])
 (.cond (.t 10) (.seq (.reg [⟨some 4, none, .asg (.c (.int .i64 (-1)))⟩])
 .ret) .skip))
 (.seq (.reg [⟨some 11, none, .mv (.p 1)⟩, ⟨some 4, none, .asg (.p 11)⟩])
 .ret))))⟩
/-- spec.ZoneReason -/
def a_spec_ZoneReason : AFn := ⟨5, 41, [.tmp 10, .tmp 11], (.seq (.reg [⟨some 5, none, .box (.t 0)⟩, ⟨some 6, none, .box (.t 1)⟩, ⟨some 10, none, .asg (.c (.int .i64 0))⟩, ⟨some 11, none, .asg (.c (.bool false))⟩])
 (.seq (.seq (.reg [⟨some 12, none, .load true 12 (.t 5)⟩, ⟨some 13, none, .load true 3 (.t 6)⟩, ⟨some 14, none, .mv (.p 2)⟩, ⟨some 15, none, .call n_spec_fOn [.a 12 5, .a 13 6, .t 14]⟩, ⟨some 16, none, .un .not (.t 15)⟩, ⟨some 17, none, .mv (.p 16)⟩, ⟨some 18, some (17, false), .mv (.p 3)⟩, ⟨some 19, some (17, false), .call n_spec_l1In [.t 18, .c (.int .i64 0), .c (.int .i64 5)]⟩, ⟨some 20, some (17, false), .un .not (.t 19)⟩, ⟨some 21, none, .pick (.t 17) (.c (.bool true)) (.t 20)⟩, ⟨some 22, none, .mv (.p 21)⟩, ⟨some 23, some (22, false), .faddr 7 (.t 5)⟩, ⟨some 24, some (22, false), .load true 5 (.a 23 5)⟩, ⟨some 25, some (22, false), .faddr 2 (.t 6)⟩, ⟨some 26, some (22, false), .load false 1 (.a 25 6)⟩, ⟨some 27, some (22, false), .mv (.p 2)⟩, ⟨some 28, some (22, false), .iaddr 4 (.a 26 6) (.t 27)⟩, ⟨some 29, some (22, false), .faddr 2 (.a 28 6)⟩, ⟨some 30, some (22, false), .load false 1 (.a 29 6)⟩, ⟨some 31, some (22, false), .mv (.p 3)⟩, ⟨some 32, some (22, false), .call n_spec_mNext [.a 24 5, .a 30 6, .t 31]⟩, ⟨some 33, some (22, false), .bin .lss (.t 32) (.c (.int .i64 0))⟩, ⟨some 34, none, .pick (.t 22) (.c (.bool true)) (.t 33)⟩])
 (.cond (.t 34) (.seq (.reg [⟨some 10, none, .asg (.c (.int .i64 0))⟩, ⟨some 11, none, .asg (.c (.bool false))⟩])
 .ret) .skip))
 (.seq (.reg [⟨some 35, none, .load true 12 (.t 5)⟩, ⟨some 36, none, .load true 3 (.t 6)⟩, ⟨some 37, none, .mv (.p 2)⟩, ⟨some 38, none, .mv (.p 3)⟩, ⟨some 39, none, .mv (.p 4)⟩, ⟨some 40, none, .call n_spec_fZone [.a 35 5, .a 36 6, .t 37, .t 38, .t 39]⟩, ⟨some 10, none, .asg (.p 40)⟩, ⟨some 11, none, .asg (.c (.bool true))⟩])
 .ret)))⟩
/-- laws.toBoard -/
def a_laws_toBoard : AFn := ⟨1, 13, [.cell 2 12 true], (.seq (.reg [⟨some 1, none, .box (.t 0)⟩, ⟨some 2, none, .alloc [.list true 5 [], .list true 6 [], .int .i64 0, .int .i64 0, .int .i64 0, .int .i64 0, .int .i64 0, .int .i64 0, .int .i64 0, .list true 1 [], .list true 1 [], .list true 1 []]⟩])
 (.seq (.reg [⟨some 3, none, .alloc [.list true 5 [], .list true 6 [], .int .i64 0, .int .i64 0, .int .i64 0, .int .i64 0, .int .i64 0, .int .i64 0, .int .i64 0, .list true 1 [], .list true 1 [], .list true 1 []]⟩])
 (.seq (.reg [⟨some 4, none, .faddr 0 (.t 1)⟩, ⟨some 5, none, .load true 7 (.a 4 1)⟩, ⟨some 6, none, .call n_laws_toRules [.a 5 1]⟩, ⟨some 7, none, .faddr 0 (.t 3)⟩, ⟨none, none, .store 7 (.a 7 3) (.t 6)⟩])
 (.seq (.reg [⟨some 8, none, .faddr 7 (.t 1)⟩, ⟨some 9, none, .load true 5 (.a 8 1)⟩, ⟨some 10, none, .call n_laws_toMap [.a 9 1]⟩, ⟨some 11, none, .faddr 7 (.t 3)⟩, ⟨none, none, .store 5 (.a 11 3) (.t 10)⟩])
 (.seq (.reg [⟨some 12, none, .load true 12 (.t 3)⟩, ⟨none, none, .store 12 (.t 2) (.a 12 3)⟩])
 .ret)))))⟩
/-- laws.toState -/
def a_laws_toState : AFn := ⟨1, 15, [.cell 2 3 true], (.seq (.reg [⟨some 1, none, .box (.t 0)⟩, ⟨some 2, none, .alloc [.int .i64 0, .int .i64 0, .list true 4 []]⟩])
 (.seq (.reg [⟨some 3, none, .alloc [.int .i64 0, .int .i64 0, .list true 4 []]⟩])
 (.seq (.reg [⟨some 4, none, .faddr 0 (.t 1)⟩, ⟨some 5, none, .load false 1 (.a 4 1)⟩, ⟨some 6, none, .faddr 0 (.t 3)⟩, ⟨none, none, .store 1 (.a 6 3) (.p 5)⟩])
 (.seq (.reg [⟨some 7, none, .faddr 1 (.t 1)⟩, ⟨some 8, none, .load false 1 (.a 7 1)⟩, ⟨some 9, none, .faddr 1 (.t 3)⟩, ⟨none, none, .store 1 (.a 9 3) (.p 8)⟩])
 (.seq (.reg [⟨some 10, none, .faddr 2 (.t 1)⟩, ⟨some 11, none, .load false 1 (.a 10 1)⟩, ⟨some 12, none, .call n_laws_toUnitS [.a 11 1]⟩, ⟨some 13, none, .faddr 2 (.t 3)⟩, ⟨none, none, .store 1 (.a 13 3) (.t 12)⟩])
 (.seq (.reg [⟨some 14, none, .load true 3 (.t 3)⟩, ⟨none, none, .store 3 (.t 2) (.a 14 3)⟩])
 .ret))))))⟩
/-- impl.ZoneReason -/
def a_impl_ZoneReason : AFn := ⟨5, 63, [.tmp 10, .tmp 11], (.seq (.reg [⟨some 5, none, .box (.t 0)⟩, ⟨some 6, none, .box (.t 1)⟩, ⟨some 10, none, .asg (.c (.int .i64 0))⟩, ⟨some 11, none, .asg (.c (.bool false))⟩])
 (.seq (.seq (.reg [⟨some 12, none, .load true 12 (.t 5)⟩, ⟨some 13, none, .load true 3 (.t 6)⟩, ⟨some 14, none, .mv (.p 2)⟩, ⟨some 15, none, .call n_impl_hasUnit [.a 12 5, .a 13 6, .t 14]⟩, ⟨some 16, none, .un .not (.t 15)⟩, ⟨some 17, none, .mv (.p 16)⟩, ⟨some 18, some (17, false), .faddr 2 (.t 6)⟩, ⟨some 19, some (17, false), .load false 1 (.a 18 6)⟩, ⟨some 20, some (17, false), .mv (.p 2)⟩, ⟨some 21, some (17, false), .iaddr 4 (.a 19 6) (.t 20)⟩, ⟨some 22, some (17, false), .faddr 2 (.a 21 6)⟩, ⟨some 23, some (17, false), .load false 1 (.a 22 6)⟩, ⟨some 24, some (17, false), .bin .lss (.a 23 6) (.c (.int .i64 0))⟩, ⟨some 25, none, .pick (.t 17) (.c (.bool true)) (.t 24)⟩, ⟨some 26, none, .mv (.p 25)⟩, ⟨some 27, some (26, false), .mv (.p 3)⟩, ⟨some 28, some (26, false), .call n_impl_isDirection [.t 27]⟩, ⟨some 29, some (26, false), .un .not (.t 28)⟩, ⟨some 30, none, .pick (.t 26) (.c (.bool true)) (.t 29)⟩, ⟨some 31, none, .mv (.p 30)⟩, ⟨some 32, some (31, false), .faddr 7 (.t 5)⟩, ⟨some 33, some (31, false), .load true 5 (.a 32 5)⟩, ⟨some 34, some (31, false), .faddr 2 (.t 6)⟩, ⟨some 35, some (31, false), .load false 1 (.a 34 6)⟩, ⟨some 36, some (31, false), .mv (.p 2)⟩, ⟨some 37, some (31, false), .iaddr 4 (.a 35 6) (.t 36)⟩, ⟨some 38, some (31, false), .faddr 2 (.a 37 6)⟩, ⟨some 39, some (31, false), .load false 1 (.a 38 6)⟩, ⟨some 40, some (31, false), .mv (.p 3)⟩, ⟨some 41, some (31, false), .call n_impl_nextTo [.a 33 5, .a 39 6, .t 40]⟩, ⟨some 42, some (31, false), .bin .lss (.t 41) (.c (.int .i64 0))⟩, ⟨some 43, none, .pick (.t 31) (.c (.bool true)) (.t 42)⟩])
 (.cond (.t 43) (.seq (.reg [⟨some 10, none, .asg (.c (.int .i64 0))⟩, ⟨some 11, none, .asg (.c (.bool false))⟩])
 .ret) .skip))
 (.seq (.reg [⟨some 44, none, .load true 12 (.t 5)⟩, ⟨some 45, none, .load true 3 (.t 6)⟩, ⟨some 46, none, .faddr 2 (.t 6)⟩, ⟨some 47, none, .load false 1 (.a 46 6)⟩, ⟨some 48, none, .mv (.p 2)⟩, ⟨some 49, none, .iaddr 4 (.a 47 6) (.t 48)⟩, ⟨some 50, none, .load true 4 (.a 49 6)⟩, ⟨some 51, none, .faddr 7 (.t 5)⟩, ⟨some 52, none, .load true 5 (.a 51 5)⟩, ⟨some 53, none, .faddr 2 (.t 6)⟩, ⟨some 54, none, .load false 1 (.a 53 6)⟩, ⟨some 55, none, .mv (.p 2)⟩, ⟨some 56, none, .iaddr 4 (.a 54 6) (.t 55)⟩, ⟨some 57, none, .faddr 2 (.a 56 6)⟩, ⟨some 58, none, .load false 1 (.a 57 6)⟩, ⟨some 59, none, .mv (.p 3)⟩, ⟨some 60, none, .call n_impl_nextTo [.a 52 5, .a 58 6, .t 59]⟩, ⟨some 61, none, .mv (.p 4)⟩, ⟨some 62, none, .call n_impl_zoneReason [.a 44 5, .a 45 6, .a 50 6, .t 60, .t 61]⟩, ⟨some 10, none, .asg (.p 62)⟩, ⟨some 11, none, .asg (.c (.bool true))⟩])
 .ret)))⟩
/-- laws.eqBoard -/
def a_laws_eqBoard : AFn := ⟨2, 17, [.tmp 4], (.seq (.reg [⟨some 2, none, .box (.t 0)⟩, ⟨some 3, none, .box (.t 1)⟩, ⟨some 4, none, .asg (.c (.bool false))⟩])
 (.seq (.seq (.reg [⟨some 5, none, .faddr 0 (.t 2)⟩, ⟨some 6, none, .load true 7 (.a 5 2)⟩, ⟨some 7, none, .faddr 0 (.t 3)⟩, ⟨some 8, none, .load true 7 (.a 7 3)⟩, ⟨some 9, none, .call n_laws_eqRules [.a 6 2, .a 8 3]⟩, ⟨some 10, none, .un .not (.t 9)⟩])
 (.cond (.t 10) (.seq (.reg [⟨some 4, none, .asg (.c (.bool false))⟩])
 .ret) .skip))
 (.seq (.seq (.reg [⟨some 11, none, .faddr 7 (.t 2)⟩, ⟨some 12, none, .load true 5 (.a 11 2)⟩, ⟨some 13, none, .faddr 7 (.t 3)⟩, ⟨some 14, none, .load true 5 (.a 13 3)⟩, ⟨some 15, none, .call n_laws_eqMap [.a 12 2, .a 14 3]⟩, ⟨some 16, none, .un .not (.t 15)⟩])
 (.cond (.t 16) (.seq (.reg [⟨some 4, none, .asg (.c (.bool false))⟩])
 .ret) .skip))
 (.seq (.reg [⟨some 4, none, .asg (.c (.bool true))⟩])
 .ret))))⟩
/-- laws.eqState -/
def a_laws_eqState : AFn := ⟨2, 21, [.tmp 4], (.seq (.reg [⟨some 2, none, .box (.t 0)⟩, ⟨some 3, none, .box (.t 1)⟩, ⟨some 4, none, .asg (.c (.bool false))⟩])
 (.seq (.seq (.reg [⟨some 5, none, .faddr 0 (.t 2)⟩, ⟨some 6, none, .load false 1 (.a 5 2)⟩, ⟨some 7, none, .faddr 0 (.t 3)⟩, ⟨some 8, none, .load false 1 (.a 7 3)⟩, ⟨some 9, none, .bin .neq (.a 6 2) (.a 8 3)⟩])
 (.cond (.t 9) (.seq (.reg [⟨some 4, none, .asg (.c (.bool false))⟩])
 .ret) .skip))
 (.seq (.seq (.reg [⟨some 10, none, .faddr 1 (.t 2)⟩, ⟨some 11, none, .load false 1 (.a 10 2)⟩, ⟨some 12, none, .faddr 1 (.t 3)⟩, ⟨some 13, none, .load false 1 (.a 12 3)⟩, ⟨some 14, none, .bin .neq (.a 11 2) (.a 13 3)⟩])
 (.cond (.t 14) (.seq (.reg [⟨some 4, none, .asg (.c (.bool false))⟩])
 .ret) .skip))
 (.seq (.seq (.reg [⟨some 15, none, .faddr 2 (.t 2)⟩, ⟨some 16, none, .load false 1 (.a 15 2)⟩, ⟨some 17, none, .faddr 2 (.t 3)⟩, ⟨some 18, none, .load false 1 (.a 17 3)⟩, ⟨some 19, none, .call n_laws_eqUnitS [.a 16 2, .a 18 3]⟩, ⟨some 20, none, .un .not (.t 19)⟩])
 (.cond (.t 20) (.seq (.reg [⟨some 4, none, .asg (.c (.bool false))⟩])
 .ret) .skip))
 (.seq (.reg [⟨some 4, none, .asg (.c (.bool true))⟩])
 .ret)))))⟩
/-- spec.CanAdvance -/
def a_spec_CanAdvance : AFn := ⟨4, 29, [.tmp 8, .tmp 9], (.seq (.reg [⟨some 4, none, .box (.t 0)⟩, ⟨some 5, none, .box (.t 1)⟩, ⟨some 8, none, .asg (.c (.bool false))⟩, ⟨some 9, none, .asg (.c (.bool false))⟩])
 (.seq (.seq (.reg [⟨some 10, none, .load true 12 (.t 4)⟩, ⟨some 11, none, .load true 3 (.t 5)⟩, ⟨some 12, none, .mv (.p 2)⟩, ⟨some 13, none, .call n_spec_fOn [.a 10 4, .a 11 5, .t 12]⟩, ⟨some 14, none, .un .not (.t 13)⟩, ⟨some 15, none, .mv (.p 14)⟩, ⟨some 16, some (15, false), .mv (.p 3)⟩, ⟨some 17, some (15, false), .faddr 7 (.t 4)⟩, ⟨some 18, some (15, false), .load true 5 (.a 17 4)⟩, ⟨some 19, some (15, false), .call n_spec_mSize [.a 18 4]⟩, ⟨some 20, some (15, false), .bin .sub (.t 19) (.c (.int .i64 1))⟩, ⟨some 21, some (15, false), .call n_spec_l1In [.t 16, .c (.int .i64 0), .t 20]⟩, ⟨some 22, some (15, false), .un .not (.t 21)⟩, ⟨some 23, none, .pick (.t 15) (.c (.bool true)) (.t 22)⟩])
 (.cond (.t 23) (.seq (.reg [⟨some 8, none, .asg (.c (.bool false))⟩, ⟨some 9, none, .asg (.c (.bool false))⟩])
 .ret) .skip))
 (.seq (.reg [⟨some 24, none, .load true 12 (.t 4)⟩, ⟨some 25, none, .load true 3 (.t 5)⟩, ⟨some 26, none, .mv (.p 2)⟩, ⟨some 27, none, .mv (.p 3)⟩, ⟨some 28, none, .call n_spec_gCan [.a 24 4, .a 25 5, .t 26, .t 27]⟩, ⟨some 8, none, .asg (.p 28)⟩, ⟨some 9, none, .asg (.c (.bool true))⟩])
 .ret)))⟩
/-- impl.CanAdvance -/
def a_impl_CanAdvance : AFn := ⟨4, 31, [.tmp 8, .tmp 9], (.seq (.reg [⟨some 4, none, .box (.t 0)⟩, ⟨some 5, none, .box (.t 1)⟩, ⟨some 8, none, .asg (.c (.bool false))⟩, ⟨some 9, none, .asg (.c (.bool false))⟩])
 (.seq (.seq (.reg [⟨some 10, none, .load true 12 (.t 4)⟩, ⟨some 11, none, .load true 3 (.t 5)⟩, ⟨some 12, none, .mv (.p 2)⟩, ⟨some 13, none, .call n_impl_onMap [.a 10 4, .a 11 5, .t 12]⟩, ⟨some 14, none, .un .not (.t 13)⟩, ⟨some 15, none, .mv (.p 14)⟩, ⟨some 16, some (15, false), .mv (.p 3)⟩, ⟨some 17, some (15, false), .load true 12 (.t 4)⟩, ⟨some 18, some (15, false), .call n_impl_sizeOf [.a 17 4]⟩, ⟨some 19, some (15, false), .call n_impl_isIndex [.t 16, .t 18]⟩, ⟨some 20, some (15, false), .un .not (.t 19)⟩, ⟨some 21, none, .pick (.t 15) (.c (.bool true)) (.t 20)⟩])
 (.cond (.t 21) (.seq (.reg [⟨some 8, none, .asg (.c (.bool false))⟩, ⟨some 9, none, .asg (.c (.bool false))⟩])
 .ret) .skip))
 (.seq (.reg [⟨some 22, none, .load true 12 (.t 4)⟩, ⟨some 23, none, .load true 3 (.t 5)⟩, ⟨some 24, none, .faddr 2 (.t 5)⟩, ⟨some 25, none, .load false 1 (.a 24 5)⟩, ⟨some 26, none, .mv (.p 2)⟩, ⟨some 27, none, .iaddr 4 (.a 25 5) (.t 26)⟩, ⟨some 28, none, .load true 4 (.a 27 5)⟩, ⟨some 29, none, .mv (.p 3)⟩, ⟨some 30, none, .call n_impl_canAdvance [.a 22 4, .a 23 5, .a 28 5, .t 29]⟩, ⟨some 8, none, .asg (.p 30)⟩, ⟨some 9, none, .asg (.c (.bool true))⟩])
 .ret)))⟩
/-- laws.szBattle -/
def a_laws_szBattle : AFn := ⟨2, 18, [.tmp 4], (.seq (.reg [⟨some 2, none, .box (.t 0)⟩, ⟨some 4, none, .asg (.c (.int .i64 0))⟩])
 (.seq (.reg [⟨some 5, none, .faddr 1 (.t 2)⟩, ⟨some 6, none, .load false 1 (.a 5 2)⟩, ⟨some 7, none, .mv (.p 1)⟩, ⟨some 8, none, .call n_laws_szIntS [.a 6 2, .t 7]⟩, ⟨some 1, none, .asg (.p 8)⟩])
 (.seq (.seq (.reg [⟨some 9, none, .mv (.p 1)⟩, ⟨some 10, none, .bin .lss (.t 9) (.c (.int .i64 0))⟩])
 (.cond (.t 10) (.seq (.reg [⟨some 4, none, .asg (.c (.int .i64 (-1)))⟩])
 .ret) .skip))
 (.seq (.reg [⟨some 11, none, .faddr 2 (.t 2)⟩, ⟨some 12, none, .load false 1 (.a 11 2)⟩, ⟨some 13, none, .mv (.p 1)⟩, ⟨some 14, none, .call n_laws_szIntS [.a 12 2, .t 13]⟩, ⟨some 1, none, .asg (.p 14)⟩])
 (.seq (.seq (.reg [⟨some 15, none, .mv (.p 1)⟩, ⟨some 16, none, .bin .lss (.t 15) (.c (.int .i64 0))⟩])
 (.cond (.t 16) (.seq (.reg [⟨some 4, none, .asg (.c (.int .i64 (-1)))⟩])
 .ret) .skip))
 (.seq (.reg [⟨some 17, none, .mv (.p 1)⟩, ⟨some 4, none, .asg (.p 17)⟩])
 .ret))))))⟩
/-- spec.DefenceStrength -/
def a_spec_DefenceStrength : AFn := ⟨3, 17, [.tmp 6, .tmp 7], (.seq (.reg [⟨some 3, none, .box (.t 0)⟩, ⟨some 4, none, .box (.t 1)⟩, ⟨some 5, none, .box (.t 2)⟩, ⟨some 6, none, .asg (.c (.int .i64 0))⟩, ⟨some 7, none, .asg (.c (.bool false))⟩])
 (.seq (.seq (.reg [⟨some 8, none, .load true 12 (.t 3)⟩, ⟨some 9, none, .load true 3 (.t 4)⟩, ⟨some 10, none, .load true 3 (.t 5)⟩, ⟨some 11, none, .call n_spec_aGood [.a 8 3, .a 9 4, .a 10 5]⟩, ⟨some 12, none, .un .not (.t 11)⟩])
 (.cond (.t 12) (.seq (.reg [⟨some 6, none, .asg (.c (.int .i64 0))⟩, ⟨some 7, none, .asg (.c (.bool false))⟩])
 .ret) .skip))
 (.seq (.reg [⟨some 13, none, .load true 12 (.t 3)⟩, ⟨some 14, none, .load true 3 (.t 4)⟩, ⟨some 15, none, .load true 3 (.t 5)⟩, ⟨some 16, none, .call n_spec_aDefence [.a 13 3, .a 14 4, .a 15 5]⟩, ⟨some 6, none, .asg (.p 16)⟩, ⟨some 7, none, .asg (.c (.bool true))⟩])
 .ret)))⟩
/-- laws.toBattle -/
def a_laws_toBattle : AFn := ⟨1, 16, [.cell 2 3 true], (.seq (.reg [⟨some 1, none, .box (.t 0)⟩, ⟨some 2, none, .alloc [.int .i64 0, .list true 1 [], .list true 1 []]⟩])
 (.seq (.reg [⟨some 3, none, .alloc [.int .i64 0, .list true 1 [], .list true 1 []]⟩])
 (.seq (.reg [⟨some 4, none, .faddr 0 (.t 1)⟩, ⟨some 5, none, .load false 1 (.a 4 1)⟩, ⟨some 6, none, .faddr 0 (.t 3)⟩, ⟨none, none, .store 1 (.a 6 3) (.p 5)⟩])
 (.seq (.reg [⟨some 7, none, .faddr 1 (.t 1)⟩, ⟨some 8, none, .load false 1 (.a 7 1)⟩, ⟨some 9, none, .call n_laws_toIntS [.a 8 1]⟩, ⟨some 10, none, .faddr 1 (.t 3)⟩, ⟨none, none, .store 1 (.a 10 3) (.t 9)⟩])
 (.seq (.reg [⟨some 11, none, .faddr 2 (.t 1)⟩, ⟨some 12, none, .load false 1 (.a 11 1)⟩, ⟨some 13, none, .call n_laws_toIntS [.a 12 1]⟩, ⟨some 14, none, .faddr 2 (.t 3)⟩, ⟨none, none, .store 1 (.a 14 3) (.t 13)⟩])
 (.seq (.reg [⟨some 15, none, .load true 3 (.t 3)⟩, ⟨none, none, .store 3 (.t 2) (.a 15 3)⟩])
 .ret))))))⟩
/-- impl.DefenceStrength -/
def a_impl_DefenceStrength : AFn := ⟨3, 17, [.tmp 6, .tmp 7], (.seq (.reg [⟨some 3, none, .box (.t 0)⟩, ⟨some 4, none, .box (.t 1)⟩, ⟨some 5, none, .box (.t 2)⟩, ⟨some 6, none, .asg (.c (.int .i64 0))⟩, ⟨some 7, none, .asg (.c (.bool false))⟩])
 (.seq (.seq (.reg [⟨some 8, none, .load true 12 (.t 3)⟩, ⟨some 9, none, .load true 3 (.t 4)⟩, ⟨some 10, none, .load true 3 (.t 5)⟩, ⟨some 11, none, .call n_impl_hasBattle [.a 8 3, .a 9 4, .a 10 5]⟩, ⟨some 12, none, .un .not (.t 11)⟩])
 (.cond (.t 12) (.seq (.reg [⟨some 6, none, .asg (.c (.int .i64 0))⟩, ⟨some 7, none, .asg (.c (.bool false))⟩])
 .ret) .skip))
 (.seq (.reg [⟨some 13, none, .load true 12 (.t 3)⟩, ⟨some 14, none, .load true 3 (.t 4)⟩, ⟨some 15, none, .load true 3 (.t 5)⟩, ⟨some 16, none, .call n_impl_defenceStrength [.a 13 3, .a 14 4, .a 15 5]⟩, ⟨some 6, none, .asg (.p 16)⟩, ⟨some 7, none, .asg (.c (.bool true))⟩])
 .ret)))⟩
/-- laws.eqBattle -/
def a_laws_eqBattle : AFn := ⟨2, 22, [.tmp 4], (.seq (.reg [⟨some 2, none, .box (.t 0)⟩, ⟨some 3, none, .box (.t 1)⟩, ⟨some 4, none, .asg (.c (.bool false))⟩])
 (.seq (.seq (.reg [⟨some 5, none, .faddr 0 (.t 2)⟩, ⟨some 6, none, .load false 1 (.a 5 2)⟩, ⟨some 7, none, .faddr 0 (.t 3)⟩, ⟨some 8, none, .load false 1 (.a 7 3)⟩, ⟨some 9, none, .bin .neq (.a 6 2) (.a 8 3)⟩])
 (.cond (.t 9) (.seq (.reg [⟨some 4, none, .asg (.c (.bool false))⟩])
 .ret) .skip))
 (.seq (.seq (.reg [⟨some 10, none, .faddr 1 (.t 2)⟩, ⟨some 11, none, .load false 1 (.a 10 2)⟩, ⟨some 12, none, .faddr 1 (.t 3)⟩, ⟨some 13, none, .load false 1 (.a 12 3)⟩, ⟨some 14, none, .call n_laws_eqIntS [.a 11 2, .a 13 3]⟩, ⟨some 15, none, .un .not (.t 14)⟩])
 (.cond (.t 15) (.seq (.reg [⟨some 4, none, .asg (.c (.bool false))⟩])
 .ret) .skip))
 (.seq (.seq (.reg [⟨some 16, none, .faddr 2 (.t 2)⟩, ⟨some 17, none, .load false 1 (.a 16 2)⟩, ⟨some 18, none, .faddr 2 (.t 3)⟩, ⟨some 19, none, .load false 1 (.a 18 3)⟩, ⟨some 20, none, .call n_laws_eqIntS [.a 17 2, .a 19 3]⟩, ⟨some 21, none, .un .not (.t 20)⟩])
 (.cond (.t 21) (.seq (.reg [⟨some 4, none, .asg (.c (.bool false))⟩])
 .ret) .skip))
 (.seq (.reg [⟨some 4, none, .asg (.c (.bool true))⟩])
 .ret)))))⟩
/-- spec.BattleShift -/
def a_spec_BattleShift : AFn := ⟨3, 17, [.tmp 6, .tmp 7], (.seq (.reg [⟨some 3, none, .box (.t 0)⟩, ⟨some 4, none, .box (.t 1)⟩, ⟨some 5, none, .box (.t 2)⟩, ⟨some 6, none, .asg (.c (.int .i64 0))⟩, ⟨some 7, none, .asg (.c (.bool false))⟩])
 (.seq (.seq (.reg [⟨some 8, none, .load true 12 (.t 3)⟩, ⟨some 9, none, .load true 3 (.t 4)⟩, ⟨some 10, none, .load true 3 (.t 5)⟩, ⟨some 11, none, .call n_spec_aGood [.a 8 3, .a 9 4, .a 10 5]⟩, ⟨some 12, none, .un .not (.t 11)⟩])
 (.cond (.t 12) (.seq (.reg [⟨some 6, none, .asg (.c (.int .i64 0))⟩, ⟨some 7, none, .asg (.c (.bool false))⟩])
 .ret) .skip))
 (.seq (.reg [⟨some 13, none, .load true 12 (.t 3)⟩, ⟨some 14, none, .load true 3 (.t 4)⟩, ⟨some 15, none, .load true 3 (.t 5)⟩, ⟨some 16, none, .call n_spec_aShift [.a 13 3, .a 14 4, .a 15 5]⟩, ⟨some 6, none, .asg (.p 16)⟩, ⟨some 7, none, .asg (.c (.bool true))⟩])
 .ret)))⟩
/-- impl.BattleShift -/
def a_impl_BattleShift : AFn := ⟨3, 17, [.tmp 6, .tmp 7], (.seq (.reg [⟨some 3, none, .box (.t 0)⟩, ⟨some 4, none, .box (.t 1)⟩, ⟨some 5, none, .box (.t 2)⟩, ⟨some 6, none, .asg (.c (.int .i64 0))⟩, ⟨some 7, none, .asg (.c (.bool false))⟩])
 (.seq (.seq (.reg [⟨some 8, none, .load true 12 (.t 3)⟩, ⟨some 9, none, .load true 3 (.t 4)⟩, ⟨some 10, none, .load true 3 (.t 5)⟩, ⟨some 11, none, .call n_impl_hasBattle [.a 8 3, .a 9 4, .a 10 5]⟩, ⟨some 12, none, .un .not (.t 11)⟩])
 (.cond (.t 12) (.seq (.reg [⟨some 6, none, .asg (.c (.int .i64 0))⟩, ⟨some 7, none, .asg (.c (.bool false))⟩])
 .ret) .skip))
 (.seq (.reg [⟨some 13, none, .load true 12 (.t 3)⟩, ⟨some 14, none, .load true 3 (.t 4)⟩, ⟨some 15, none, .load true 3 (.t 5)⟩, ⟨some 16, none, .call n_impl_battleShift [.a 13 3, .a 14 4, .a 15 5]⟩, ⟨some 6, none, .asg (.p 16)⟩, ⟨some 7, none, .asg (.c (.bool true))⟩])
 .ret)))⟩
/-- laws.szAttemptS -/
def a_laws_szAttemptS : AFn := ⟨2, 12, [.tmp 4], (.seq (.reg [⟨some 4, none, .asg (.c (.int .i64 0))⟩])
 (.seq (.reg [⟨some 5, none, .mv (.p 1)⟩, ⟨some 6, none, .rf (.t 0)⟩, ⟨some 7, none, .len (.a 6 0)⟩, ⟨some 8, none, .bin .sub (.t 5) (.t 7)⟩, ⟨some 1, none, .asg (.p 8)⟩])
 (.seq (.seq (.reg [⟨some 9, none, .mv (.p 1)⟩, ⟨some 10, none, .bin .lss (.t 9) (.c (.int .i64 0))⟩])
 (.cond (.t 10) (.seq (.reg [⟨some 4, none, .asg (.c (.int .i64 (-1)))⟩])
 .ret) .skip))
 (.seq (.reg [⟨some 11, none, .mv (.p 1)⟩, ⟨some 4, none, .asg (.p 11)⟩])
 .ret))))⟩
/-- spec.IsAttempts -/
def a_spec_IsAttempts : AFn := ⟨3, 16, [.tmp 6, .tmp 7], (.seq (.reg [⟨some 3, none, .box (.t 0)⟩, ⟨some 4, none, .box (.t 1)⟩, ⟨some 6, none, .asg (.c (.bool false))⟩, ⟨some 7, none, .asg (.c (.bool false))⟩])
 (.seq (.seq (.reg [⟨some 8, none, .load true 12 (.t 3)⟩, ⟨some 9, none, .load true 3 (.t 4)⟩, ⟨some 10, none, .call n_spec_sGood [.a 8 3, .a 9 4]⟩, ⟨some 11, none, .un .not (.t 10)⟩])
 (.cond (.t 11) (.seq (.reg [⟨some 6, none, .asg (.c (.bool false))⟩, ⟨some 7, none, .asg (.c (.bool false))⟩])
 .ret) .skip))
 (.seq (.reg [⟨some 12, none, .load true 12 (.t 3)⟩, ⟨some 13, none, .load true 3 (.t 4)⟩, ⟨some 14, none, .rf (.t 2)⟩, ⟨some 15, none, .call n_spec_fGood [.a 12 3, .a 13 4, .a 14 2]⟩, ⟨some 6, none, .asg (.p 15)⟩, ⟨some 7, none, .asg (.c (.bool true))⟩])
 .ret)))⟩
def b_laws_toAttemptS_0 : AC := (.seq (.seq (.reg [⟨some 8, none, .mv (.p 4)⟩, ⟨some 9, none, .rf (.t 0)⟩, ⟨some 10, none, .len (.a 9 0)⟩, ⟨some 11, none, .bin .lss (.t 8) (.t 10)⟩])
 (.cond (.t 11) .skip (.exit 0)))
 (.seq (.block 1 (.reg [⟨some 14, none, .rf (.t 3)⟩, ⟨some 15, none, .mv (.p 4)⟩, ⟨some 16, none, .rf (.t 0)⟩, ⟨some 17, none, .mv (.p 4)⟩, ⟨some 18, none, .iaddr 3 (.a 16 0) (.t 17)⟩, ⟨some 19, none, .load true 3 (.a 18 0)⟩, ⟨some 20, none, .call n_laws_toAttempt [.a 19 0]⟩, ⟨some 21, none, .iaddr 3 (.a 14 3) (.t 15)⟩, ⟨none, none, .store 3 (.a 21 3) (.t 20)⟩]))
 (.reg [⟨some 12, none, .mv (.p 4)⟩, ⟨some 13, none, .bin .add (.t 12) (.c (.int .i64 1))⟩, ⟨some 4, none, .asg (.p 13)⟩])))
/-- laws.toAttemptS -/
def a_laws_toAttemptS : AFn := ⟨1, 23, [.tmp 2], (.seq (.reg [⟨some 2, none, .asg (.c (.list true 3 []))⟩])
 (.seq (.reg [⟨some 5, none, .rf (.t 0)⟩, ⟨some 6, none, .len (.a 5 0)⟩, ⟨some 7, none, .mslice 3 [.int .i64 0, .int .i64 0, .int .i64 0] (.t 6)⟩, ⟨some 3, none, .asg (.t 7)⟩])
 (.seq (.seq (.reg [⟨some 4, none, .asg (.c (.int .i64 0))⟩])
 (.block 0 (.loop [0, 3, 4] [2, 3] b_laws_toAttemptS_0)))
 (.seq (.reg [⟨some 22, none, .rf (.t 3)⟩, ⟨some 2, none, .asg (.a 22 3)⟩])
 .ret))))⟩
/-- impl.IsAttempts -/
def a_impl_IsAttempts : AFn := ⟨3, 16, [.tmp 6, .tmp 7], (.seq (.reg [⟨some 3, none, .box (.t 0)⟩, ⟨some 4, none, .box (.t 1)⟩, ⟨some 6, none, .asg (.c (.bool false))⟩, ⟨some 7, none, .asg (.c (.bool false))⟩])
 (.seq (.seq (.reg [⟨some 8, none, .load true 12 (.t 3)⟩, ⟨some 9, none, .load true 3 (.t 4)⟩, ⟨some 10, none, .call n_impl_fits [.a 8 3, .a 9 4]⟩, ⟨some 11, none, .un .not (.t 10)⟩])
 (.cond (.t 11) (.seq (.reg [⟨some 6, none, .asg (.c (.bool false))⟩, ⟨some 7, none, .asg (.c (.bool false))⟩])
 .ret) .skip))
 (.seq (.reg [⟨some 12, none, .load true 12 (.t 3)⟩, ⟨some 13, none, .load true 3 (.t 4)⟩, ⟨some 14, none, .rf (.t 2)⟩, ⟨some 15, none, .call n_impl_goodAttempts [.a 12 3, .a 13 4, .a 14 2]⟩, ⟨some 6, none, .asg (.p 15)⟩, ⟨some 7, none, .asg (.c (.bool true))⟩])
 .ret)))⟩
def b_laws_eqAttemptS_0 : AC := (.seq (.seq (.reg [⟨some 11, none, .mv (.p 5)⟩, ⟨some 12, none, .rf (.t 0)⟩, ⟨some 13, none, .len (.a 12 0)⟩, ⟨some 14, none, .bin .lss (.t 11) (.t 13)⟩])
 (.cond (.t 14) .skip (.exit 0)))
 (.seq (.block 1 (.seq (.reg [⟨some 17, none, .rf (.t 0)⟩, ⟨some 18, none, .mv (.p 5)⟩, ⟨some 19, none, .iaddr 3 (.a 17 0) (.t 18)⟩, ⟨some 20, none, .load true 3 (.a 19 0)⟩, ⟨some 21, none, .rf (.t 1)⟩, ⟨some 22, none, .mv (.p 5)⟩, ⟨some 23, none, .iaddr 3 (.a 21 1) (.t 22)⟩, ⟨some 24, none, .load true 3 (.a 23 1)⟩, ⟨some 25, none, .call n_laws_eqAttempt [.a 20 0, .a 24 1]⟩, ⟨some 26, none, .un .not (.t 25)⟩])
 (.cond (.t 26) (.seq (.reg [⟨some 4, none, .asg (.c (.bool false))⟩])
 .ret) .skip)))
 (.reg [⟨some 15, none, .mv (.p 5)⟩, ⟨some 16, none, .bin .add (.t 15) (.c (.int .i64 1))⟩, ⟨some 5, none, .asg (.p 16)⟩])))
/-- laws.eqAttemptS -/
def a_laws_eqAttemptS : AFn := ⟨2, 27, [.tmp 4], (.seq (.reg [⟨some 4, none, .asg (.c (.bool false))⟩])
 (.seq (.seq (.reg [⟨some 6, none, .rf (.t 0)⟩, ⟨some 7, none, .len (.a 6 0)⟩, ⟨some 8, none, .rf (.t 1)⟩, ⟨some 9, none, .len (.a 8 1)⟩, ⟨some 10, none, .bin .neq (.t 7) (.t 9)⟩])
 (.cond (.t 10) (.seq (.reg [⟨some 4, none, .asg (.c (.bool false))⟩])
 .ret) .skip))
 (.seq (.seq (.reg [⟨some 5, none, .asg (.c (.int .i64 0))⟩])
 (.block 0 (.loop [0, 1, 5] [4] b_laws_eqAttemptS_0)))
 (.seq (.reg [⟨some 4, none, .asg (.c (.bool true))⟩])
 .ret))))⟩
/-- spec.AttackStrength -/
def a_spec_AttackStrength : AFn := ⟨3, 17, [.tmp 6, .tmp 7], (.seq (.reg [⟨some 3, none, .box (.t 0)⟩, ⟨some 4, none, .box (.t 1)⟩, ⟨some 5, none, .box (.t 2)⟩, ⟨some 6, none, .asg (.c (.int .i64 0))⟩, ⟨some 7, none, .asg (.c (.bool false))⟩])
 (.seq (.seq (.reg [⟨some 8, none, .load true 12 (.t 3)⟩, ⟨some 9, none, .load true 3 (.t 4)⟩, ⟨some 10, none, .load true 3 (.t 5)⟩, ⟨some 11, none, .call n_spec_aGood [.a 8 3, .a 9 4, .a 10 5]⟩, ⟨some 12, none, .un .not (.t 11)⟩])
 (.cond (.t 12) (.seq (.reg [⟨some 6, none, .asg (.c (.int .i64 0))⟩, ⟨some 7, none, .asg (.c (.bool false))⟩])
 .ret) .skip))
 (.seq (.reg [⟨some 13, none, .load true 12 (.t 3)⟩, ⟨some 14, none, .load true 3 (.t 4)⟩, ⟨some 15, none, .load true 3 (.t 5)⟩, ⟨some 16, none, .call n_spec_aAttack [.a 13 3, .a 14 4, .a 15 5]⟩, ⟨some 6, none, .asg (.p 16)⟩, ⟨some 7, none, .asg (.c (.bool true))⟩])
 .ret)))⟩
/-- impl.AttackStrength -/
def a_impl_AttackStrength : AFn := ⟨3, 17, [.tmp 6, .tmp 7], (.seq (.reg [⟨some 3, none, .box (.t 0)⟩, ⟨some 4, none, .box (.t 1)⟩, ⟨some 5, none, .box (.t 2)⟩, ⟨some 6, none, .asg (.c (.int .i64 0))⟩, ⟨some 7, none, .asg (.c (.bool false))⟩])
 (.seq (.seq (.reg [⟨some 8, none, .load true 12 (.t 3)⟩, ⟨some 9, none, .load true 3 (.t 4)⟩, ⟨some 10, none, .load true 3 (.t 5)⟩, ⟨some 11, none, .call n_impl_hasBattle [.a 8 3, .a 9 4, .a 10 5]⟩, ⟨some 12, none, .un .not (.t 11)⟩])
 (.cond (.t 12) (.seq (.reg [⟨some 6, none, .asg (.c (.int .i64 0))⟩, ⟨some 7, none, .asg (.c (.bool false))⟩])
 .ret) .skip))
 (.seq (.reg [⟨some 13, none, .load true 12 (.t 3)⟩, ⟨some 14, none, .load true 3 (.t 4)⟩, ⟨some 15, none, .load true 3 (.t 5)⟩, ⟨some 16, none, .call n_impl_attackStrength [.a 13 3, .a 14 4, .a 15 5]⟩, ⟨some 6, none, .asg (.p 16)⟩, ⟨some 7, none, .asg (.c (.bool true))⟩])
 .ret)))⟩
/-- spec.IsTrapped -/
def a_spec_IsTrapped : AFn := ⟨3, 19, [.tmp 6, .tmp 7], (.seq (.reg [⟨some 3, none, .box (.t 0)⟩, ⟨some 4, none, .box (.t 1)⟩, ⟨some 6, none, .asg (.c (.bool false))⟩, ⟨some 7, none, .asg (.c (.bool false))⟩])
 (.seq (.seq (.reg [⟨some 8, none, .load true 12 (.t 3)⟩, ⟨some 9, none, .load true 3 (.t 4)⟩, ⟨some 10, none, .mv (.p 2)⟩, ⟨some 11, none, .call n_spec_fOn [.a 8 3, .a 9 4, .t 10]⟩, ⟨some 12, none, .un .not (.t 11)⟩])
 (.cond (.t 12) (.seq (.reg [⟨some 6, none, .asg (.c (.bool false))⟩, ⟨some 7, none, .asg (.c (.bool false))⟩])
 .ret) .skip))
 (.seq (.reg [⟨some 13, none, .load true 12 (.t 3)⟩, ⟨some 14, none, .load true 3 (.t 4)⟩, ⟨some 15, none, .mv (.p 2)⟩, ⟨some 16, none, .call n_spec_gAll [.a 13 3, .a 14 4, .t 15, .c (.int .i64 1)]⟩, ⟨some 17, none, .len (.t 16)⟩, ⟨some 18, none, .bin .eql (.t 17) (.c (.int .i64 0))⟩, ⟨some 6, none, .asg (.p 18)⟩, ⟨some 7, none, .asg (.c (.bool true))⟩])
 .ret)))⟩
/-- impl.IsTrapped -/
def a_impl_IsTrapped : AFn := ⟨3, 19, [.tmp 6, .tmp 7], (.seq (.reg [⟨some 3, none, .box (.t 0)⟩, ⟨some 4, none, .box (.t 1)⟩, ⟨some 6, none, .asg (.c (.bool false))⟩, ⟨some 7, none, .asg (.c (.bool false))⟩])
 (.seq (.seq (.reg [⟨some 8, none, .load true 12 (.t 3)⟩, ⟨some 9, none, .load true 3 (.t 4)⟩, ⟨some 10, none, .mv (.p 2)⟩, ⟨some 11, none, .call n_impl_onMap [.a 8 3, .a 9 4, .t 10]⟩, ⟨some 12, none, .un .not (.t 11)⟩])
 (.cond (.t 12) (.seq (.reg [⟨some 6, none, .asg (.c (.bool false))⟩, ⟨some 7, none, .asg (.c (.bool false))⟩])
 .ret) .skip))
 (.seq (.reg [⟨some 13, none, .load true 12 (.t 3)⟩, ⟨some 14, none, .load true 3 (.t 4)⟩, ⟨some 15, none, .mv (.p 2)⟩, ⟨some 16, none, .call n_impl_retreatsOf [.a 13 3, .a 14 4, .t 15, .c (.int .i64 1)]⟩, ⟨some 17, none, .len (.t 16)⟩, ⟨some 18, none, .bin .eql (.t 17) (.c (.int .i64 0))⟩, ⟨some 6, none, .asg (.p 18)⟩, ⟨some 7, none, .asg (.c (.bool true))⟩])
 .ret)))⟩
/-- spec.CountRetreats -/
def a_spec_CountRetreats : AFn := ⟨4, 22, [.tmp 8, .tmp 9], (.seq (.reg [⟨some 4, none, .box (.t 0)⟩, ⟨some 5, none, .box (.t 1)⟩, ⟨some 8, none, .asg (.c (.int .i64 0))⟩, ⟨some 9, none, .asg (.c (.bool false))⟩])
 (.seq (.seq (.reg [⟨some 10, none, .load true 12 (.t 4)⟩, ⟨some 11, none, .load true 3 (.t 5)⟩, ⟨some 12, none, .mv (.p 2)⟩, ⟨some 13, none, .mv (.p 3)⟩, ⟨some 14, none, .call n_spec_gAsked [.a 10 4, .a 11 5, .t 12, .t 13]⟩, ⟨some 15, none, .un .not (.t 14)⟩])
 (.cond (.t 15) (.seq (.reg [⟨some 8, none, .asg (.c (.int .i64 0))⟩, ⟨some 9, none, .asg (.c (.bool false))⟩])
 .ret) .skip))
 (.seq (.reg [⟨some 16, none, .load true 12 (.t 4)⟩, ⟨some 17, none, .load true 3 (.t 5)⟩, ⟨some 18, none, .mv (.p 2)⟩, ⟨some 19, none, .mv (.p 3)⟩, ⟨some 20, none, .call n_spec_gAll [.a 16 4, .a 17 5, .t 18, .t 19]⟩, ⟨some 21, none, .len (.t 20)⟩, ⟨some 8, none, .asg (.p 21)⟩, ⟨some 9, none, .asg (.c (.bool true))⟩])
 .ret)))⟩
/-- impl.CountRetreats -/
def a_impl_CountRetreats : AFn := ⟨4, 22, [.tmp 8, .tmp 9], (.seq (.reg [⟨some 4, none, .box (.t 0)⟩, ⟨some 5, none, .box (.t 1)⟩, ⟨some 8, none, .asg (.c (.int .i64 0))⟩, ⟨some 9, none, .asg (.c (.bool false))⟩])
 (.seq (.seq (.reg [⟨some 10, none, .load true 12 (.t 4)⟩, ⟨some 11, none, .load true 3 (.t 5)⟩, ⟨some 12, none, .mv (.p 2)⟩, ⟨some 13, none, .mv (.p 3)⟩, ⟨some 14, none, .call n_impl_isRetreat [.a 10 4, .a 11 5, .t 12, .t 13]⟩, ⟨some 15, none, .un .not (.t 14)⟩])
 (.cond (.t 15) (.seq (.reg [⟨some 8, none, .asg (.c (.int .i64 0))⟩, ⟨some 9, none, .asg (.c (.bool false))⟩])
 .ret) .skip))
 (.seq (.reg [⟨some 16, none, .load true 12 (.t 4)⟩, ⟨some 17, none, .load true 3 (.t 5)⟩, ⟨some 18, none, .mv (.p 2)⟩, ⟨some 19, none, .mv (.p 3)⟩, ⟨some 20, none, .call n_impl_retreatsOf [.a 16 4, .a 17 5, .t 18, .t 19]⟩, ⟨some 21, none, .len (.t 20)⟩, ⟨some 8, none, .asg (.p 21)⟩, ⟨some 9, none, .asg (.c (.bool true))⟩])
 .ret)))⟩
def b_spec_RetreatSteps_0 : AC := (.seq (.seq (.reg [⟨some 15, none, .mv (.p 9)⟩, ⟨some 16, none, .bin .lss (.t 15) (.c (.int .i64 6))⟩])
 (.cond (.t 16) .skip (.exit 0)))
 (.seq (.block 1 (.seq (.reg [⟨some 19, none, .load true 12 (.t 3)⟩, ⟨some 20, none, .load true 3 (.t 4)⟩, ⟨some 21, none, .mv (.p 2)⟩, ⟨some 22, none, .faddr 2 (.t 4)⟩, ⟨some 23, none, .load false 1 (.a 22 4)⟩, ⟨some 24, none, .mv (.p 2)⟩, ⟨some 25, none, .iaddr 4 (.a 23 4) (.t 24)⟩, ⟨some 26, none, .faddr 2 (.a 25 4)⟩, ⟨some 27, none, .load false 1 (.a 26 4)⟩, ⟨some 28, none, .mv (.p 9)⟩, ⟨some 29, none, .call n_spec_gBack [.a 19 3, .a 20 4, .t 21, .a 27 4, .t 28]⟩])
 (.cond (.t 29) (.reg [⟨some 30, none, .rf (.t 8)⟩, ⟨some 31, none, .mv (.p 9)⟩, ⟨some 32, none, .bslice 1 1 [.int .i64 0] [(0, .p 31)]⟩, ⟨some 33, none, .append 1 (.a 30 8) (.t 32)⟩, ⟨some 8, none, .asg (.t 33)⟩]) .skip)))
 (.reg [⟨some 17, none, .mv (.p 9)⟩, ⟨some 18, none, .bin .add (.t 17) (.c (.int .i64 1))⟩, ⟨some 9, none, .asg (.p 18)⟩])))
/-- spec.RetreatSteps -/
def a_spec_RetreatSteps : AFn := ⟨3, 35, [.tmp 6, .tmp 7], (.seq (.reg [⟨some 3, none, .box (.t 0)⟩, ⟨some 4, none, .box (.t 1)⟩, ⟨some 6, none, .asg (.c (.list true 1 []))⟩, ⟨some 7, none, .asg (.c (.bool false))⟩])
 (.seq (.seq (.reg [⟨some 10, none, .load true 12 (.t 3)⟩, ⟨some 11, none, .load true 3 (.t 4)⟩, ⟨some 12, none, .mv (.p 2)⟩, ⟨some 13, none, .call n_spec_fOn [.a 10 3, .a 11 4, .t 12]⟩, ⟨some 14, none, .un .not (.t 13)⟩])
 (.cond (.t 14) (.seq (.reg [⟨some 6, none, .asg (.c (.list true 1 []))⟩, ⟨some 7, none, .asg (.c (.bool false))⟩])
 .ret) .skip))
 (.seq (.reg [⟨some 8, none, .asg (.c (.list true 1 []))⟩])
 (.seq (.seq (.reg [⟨some 9, none, .asg (.c (.int .i64 0))⟩])
 (.block 0 (.loop [2, 3, 4, 8, 9] [6, 7, 8] b_spec_RetreatSteps_0)))
 (.seq (.reg [⟨some 34, none, .rf (.t 8)⟩, ⟨some 6, none, .asg (.a 34 8)⟩, ⟨some 7, none, .asg (.c (.bool true))⟩])
 .ret)))))⟩
def b_impl_RetreatSteps_0 : AC := (.seq (.reg [⟨some 17, none, .bin .lss (.t 16) (.c (.int .i64 6))⟩])
 (.seq (.cond (.t 17) .skip (.exit 0))
 (.seq (.block 1 (.seq (.reg [⟨some 18, none, .mv (.p 16)⟩, ⟨some 9, none, .asg (.p 18)⟩])
 (.seq (.reg [⟨some 19, none, .load true 12 (.t 3)⟩, ⟨some 20, none, .load true 3 (.t 4)⟩, ⟨some 21, none, .mv (.p 2)⟩, ⟨some 22, none, .faddr 7 (.t 3)⟩, ⟨some 23, none, .load true 5 (.a 22 3)⟩, ⟨some 24, none, .faddr 2 (.t 4)⟩, ⟨some 25, none, .load false 1 (.a 24 4)⟩, ⟨some 26, none, .mv (.p 2)⟩, ⟨some 27, none, .iaddr 4 (.a 25 4) (.t 26)⟩, ⟨some 28, none, .faddr 2 (.a 27 4)⟩, ⟨some 29, none, .load false 1 (.a 28 4)⟩, ⟨some 30, none, .mv (.p 9)⟩, ⟨some 31, none, .call n_impl_nextTo [.a 23 3, .a 29 4, .t 30]⟩, ⟨some 32, none, .call n_impl_canFallBack [.a 19 3, .a 20 4, .t 21, .t 31]⟩])
 (.cond (.t 32) (.reg [⟨some 33, none, .rf (.t 8)⟩, ⟨some 34, none, .mv (.p 9)⟩, ⟨some 35, none, .bslice 1 1 [.int .i64 0] [(0, .p 34)]⟩, ⟨some 36, none, .append 1 (.a 33 8) (.t 35)⟩, ⟨some 8, none, .asg (.t 36)⟩]) .skip))))
 (.reg [⟨some 37, none, .bin .add (.t 16) (.c (.int .i64 1))⟩, ⟨some 16, none, .mv (.p 37)⟩]))))
/-- impl.RetreatSteps -/
def a_impl_RetreatSteps : AFn := ⟨3, 39, [.tmp 6, .tmp 7], (.seq (.reg [⟨some 3, none, .box (.t 0)⟩, ⟨some 4, none, .box (.t 1)⟩, ⟨some 6, none, .asg (.c (.list true 1 []))⟩, ⟨some 7, none, .asg (.c (.bool false))⟩])
 (.seq (.seq (.reg [⟨some 10, none, .load true 12 (.t 3)⟩, ⟨some 11, none, .load true 3 (.t 4)⟩, ⟨some 12, none, .mv (.p 2)⟩, ⟨some 13, none, .call n_impl_onMap [.a 10 3, .a 11 4, .t 12]⟩, ⟨some 14, none, .un .not (.t 13)⟩])
 (.cond (.t 14) (.seq (.reg [⟨some 6, none, .asg (.c (.list true 1 []))⟩, ⟨some 7, none, .asg (.c (.bool false))⟩])
 .ret) .skip))
 (.seq (.reg [⟨some 15, none, .bslice 1 0 [.int .i64 0] []⟩, ⟨some 8, none, .asg (.t 15)⟩])
 (.seq (.seq (.reg [⟨some 16, none, .mv (.c (.int .i64 0))⟩])
 (.block 0 (.loop [2, 3, 4, 8, 16] [6, 7, 8] b_impl_RetreatSteps_0)))
 (.seq (.reg [⟨some 38, none, .rf (.t 8)⟩, ⟨some 6, none, .asg (.a 38 8)⟩, ⟨some 7, none, .asg (.c (.bool true))⟩])
 .ret)))))⟩
def b_laws_eqIntS_0 : AC := (.seq (.seq (.reg [⟨some 11, none, .mv (.p 5)⟩, ⟨some 12, none, .rf (.t 0)⟩, ⟨some 13, none, .len (.a 12 0)⟩, ⟨some 14, none, .bin .lss (.t 11) (.t 13)⟩])
 (.cond (.t 14) .skip (.exit 0)))
 (.seq (.block 1 (.seq (.reg [⟨some 17, none, .rf (.t 0)⟩, ⟨some 18, none, .mv (.p 5)⟩, ⟨some 19, none, .iaddr 1 (.a 17 0) (.t 18)⟩, ⟨some 20, none, .load false 1 (.a 19 0)⟩, ⟨some 21, none, .rf (.t 1)⟩, ⟨some 22, none, .mv (.p 5)⟩, ⟨some 23, none, .iaddr 1 (.a 21 1) (.t 22)⟩, ⟨some 24, none, .load false 1 (.a 23 1)⟩, ⟨some 25, none, .bin .neq (.a 20 0) (.a 24 1)⟩])
 (.cond (.t 25) (.seq (.reg [⟨some 4, none, .asg (.c (.bool false))⟩])
 .ret) .skip)))
 (.reg [⟨some 15, none, .mv (.p 5)⟩, ⟨some 16, none, .bin .add (.t 15) (.c (.int .i64 1))⟩, ⟨some 5, none, .asg (.p 16)⟩])))
/-- laws.eqIntS -/
def a_laws_eqIntS : AFn := ⟨2, 26, [.tmp 4], (.seq (.reg [⟨some 4, none, .asg (.c (.bool false))⟩])
 (.seq (.seq (.reg [⟨some 6, none, .rf (.t 0)⟩, ⟨some 7, none, .len (.a 6 0)⟩, ⟨some 8, none, .rf (.t 1)⟩, ⟨some 9, none, .len (.a 8 1)⟩, ⟨some 10, none, .bin .neq (.t 7) (.t 9)⟩])
 (.cond (.t 10) (.seq (.reg [⟨some 4, none, .asg (.c (.bool false))⟩])
 .ret) .skip))
 (.seq (.seq (.reg [⟨some 5, none, .asg (.c (.int .i64 0))⟩])
 (.block 0 (.loop [0, 1, 5] [4] b_laws_eqIntS_0)))
 (.seq (.reg [⟨some 4, none, .asg (.c (.bool true))⟩])
 .ret))))⟩
/-- laws.markBoard -/
def a_laws_markBoard : AFn := ⟨2, 14, [.tmp 4, .io 0], (.seq (.reg [⟨some 2, none, .boxk 0⟩, ⟨some 4, none, .asg (.c (.int .i64 0))⟩])
 (.seq (.reg [⟨some 5, none, .faddr 0 (.t 2)⟩, ⟨some 6, none, .load true 7 (.a 5 2)⟩, ⟨some 7, none, .mv (.p 1)⟩, ⟨some 8, none, .calli n_laws_markRules 6 2 [.t 7]⟩, ⟨some 1, none, .asg (.p 8)⟩])
 (.seq (.reg [⟨some 9, none, .faddr 7 (.t 2)⟩, ⟨some 10, none, .load true 5 (.a 9 2)⟩, ⟨some 11, none, .mv (.p 1)⟩, ⟨some 12, none, .calli n_laws_markMap 10 2 [.t 11]⟩, ⟨some 1, none, .asg (.p 12)⟩])
 (.seq (.reg [⟨some 13, none, .mv (.p 1)⟩, ⟨some 4, none, .asg (.p 13)⟩])
 .ret))))⟩
/-- laws.markState -/
def a_laws_markState : AFn := ⟨2, 10, [.tmp 4, .io 0], (.seq (.reg [⟨some 2, none, .boxk 0⟩, ⟨some 4, none, .asg (.c (.int .i64 0))⟩])
 (.seq (.reg [⟨some 5, none, .faddr 2 (.t 2)⟩, ⟨some 6, none, .load false 1 (.a 5 2)⟩, ⟨some 7, none, .mv (.p 1)⟩, ⟨some 8, none, .calli n_laws_markUnitS 6 2 [.t 7]⟩, ⟨some 1, none, .asg (.p 8)⟩])
 (.seq (.reg [⟨some 9, none, .mv (.p 1)⟩, ⟨some 4, none, .asg (.p 9)⟩])
 .ret)))⟩
def b_laws_markIntS_0 : AC := (.seq (.seq (.reg [⟨some 6, none, .mv (.p 5)⟩, ⟨some 7, none, .rf (.t 0)⟩, ⟨some 8, none, .len (.a 7 0)⟩, ⟨some 9, none, .bin .lss (.t 6) (.t 8)⟩])
 (.cond (.t 9) .skip (.exit 0)))
 (.seq (.block 1 (.seq (.reg [⟨some 12, none, .rf (.t 0)⟩, ⟨some 13, none, .mv (.p 5)⟩, ⟨some 14, none, .mv (.p 1)⟩, ⟨some 15, none, .iaddr 1 (.a 12 0) (.t 13)⟩, ⟨none, none, .store 1 (.a 15 0) (.p 14)⟩])
 (.reg [⟨some 16, none, .mv (.p 1)⟩, ⟨some 17, none, .bin .add (.t 16) (.c (.int .i64 1))⟩, ⟨some 1, none, .asg (.p 17)⟩])))
 (.reg [⟨some 10, none, .mv (.p 5)⟩, ⟨some 11, none, .bin .add (.t 10) (.c (.int .i64 1))⟩, ⟨some 5, none, .asg (.p 11)⟩])))
/-- laws.markIntS -/
def a_laws_markIntS : AFn := ⟨2, 19, [.tmp 4, .io 0], (.seq (.reg [⟨some 4, none, .asg (.c (.int .i64 0))⟩])
 (.seq (.seq (.reg [⟨some 5, none, .asg (.c (.int .i64 0))⟩])
 (.block 0 (.loop [0, 1, 5] [0, 1, 4] b_laws_markIntS_0)))
 (.seq (.reg [⟨some 18, none, .mv (.p 1)⟩, ⟨some 4, none, .asg (.p 18)⟩])
 .ret)))⟩
def b_laws_heldIntS_0 : AC := (.seq (.seq (.reg [⟨some 6, none, .mv (.p 5)⟩, ⟨some 7, none, .rf (.t 0)⟩, ⟨some 8, none, .len (.a 7 0)⟩, ⟨some 9, none, .bin .lss (.t 6) (.t 8)⟩])
 (.cond (.t 9) .skip (.exit 0)))
 (.seq (.block 1 (.seq (.seq (.reg [⟨some 12, none, .rf (.t 0)⟩, ⟨some 13, none, .mv (.p 5)⟩, ⟨some 14, none, .iaddr 1 (.a 12 0) (.t 13)⟩, ⟨some 15, none, .load false 1 (.a 14 0)⟩, ⟨some 16, none, .mv (.p 1)⟩, ⟨some 17, none, .bin .neq (.a 15 0) (.t 16)⟩])
 (.cond (.t 17) (.seq (.reg [⟨some 4, none, .asg (.c (.int .i64 (-1)))⟩])
 .ret) .skip))
 (.reg [⟨some 18, none, .mv (.p 1)⟩, ⟨some 19, none, .bin .add (.t 18) (.c (.int .i64 1))⟩, ⟨some 1, none, .asg (.p 19)⟩])))
 (.reg [⟨some 10, none, .mv (.p 5)⟩, ⟨some 11, none, .bin .add (.t 10) (.c (.int .i64 1))⟩, ⟨some 5, none, .asg (.p 11)⟩])))
/-- laws.heldIntS -/
def a_laws_heldIntS : AFn := ⟨2, 21, [.tmp 4], (.seq (.reg [⟨some 4, none, .asg (.c (.int .i64 0))⟩])
 (.seq (.seq (.reg [⟨some 5, none, .asg (.c (.int .i64 0))⟩])
 (.block 0 (.loop [0, 1, 5] [1, 4] b_laws_heldIntS_0)))
 (.seq (.reg [⟨some 20, none, .mv (.p 1)⟩, ⟨some 4, none, .asg (.p 20)⟩])
 .ret)))⟩
/-- laws.szRules -/
def a_laws_szRules : AFn := ⟨2, 18, [.tmp 4], (.seq (.reg [⟨some 2, none, .box (.t 0)⟩, ⟨some 4, none, .asg (.c (.int .i64 0))⟩])
 (.seq (.reg [⟨some 5, none, .faddr 0 (.t 2)⟩, ⟨some 6, none, .load false 1 (.a 5 2)⟩, ⟨some 7, none, .mv (.p 1)⟩, ⟨some 8, none, .call n_laws_szTerrainS [.a 6 2, .t 7]⟩, ⟨some 1, none, .asg (.p 8)⟩])
 (.seq (.seq (.reg [⟨some 9, none, .mv (.p 1)⟩, ⟨some 10, none, .bin .lss (.t 9) (.c (.int .i64 0))⟩])
 (.cond (.t 10) (.seq (.reg [⟨some 4, none, .asg (.c (.int .i64 (-1)))⟩])
 .ret) .skip))
 (.seq (.reg [⟨some 11, none, .faddr 1 (.t 2)⟩, ⟨some 12, none, .load false 1 (.a 11 2)⟩, ⟨some 13, none, .mv (.p 1)⟩, ⟨some 14, none, .call n_laws_szKindS [.a 12 2, .t 13]⟩, ⟨some 1, none, .asg (.p 14)⟩])
 (.seq (.seq (.reg [⟨some 15, none, .mv (.p 1)⟩, ⟨some 16, none, .bin .lss (.t 15) (.c (.int .i64 0))⟩])
 (.cond (.t 16) (.seq (.reg [⟨some 4, none, .asg (.c (.int .i64 (-1)))⟩])
 .ret) .skip))
 (.seq (.reg [⟨some 17, none, .mv (.p 1)⟩, ⟨some 4, none, .asg (.p 17)⟩])
 .ret))))))⟩
/-- laws.szMap -/
def a_laws_szMap : AFn := ⟨2, 24, [.tmp 4], (.seq (.reg [⟨some 2, none, .box (.t 0)⟩, ⟨some 4, none, .asg (.c (.int .i64 0))⟩])
 (.seq (.reg [⟨some 5, none, .faddr 2 (.t 2)⟩, ⟨some 6, none, .load false 1 (.a 5 2)⟩, ⟨some 7, none, .mv (.p 1)⟩, ⟨some 8, none, .call n_laws_szIntS [.a 6 2, .t 7]⟩, ⟨some 1, none, .asg (.p 8)⟩])
 (.seq (.seq (.reg [⟨some 9, none, .mv (.p 1)⟩, ⟨some 10, none, .bin .lss (.t 9) (.c (.int .i64 0))⟩])
 (.cond (.t 10) (.seq (.reg [⟨some 4, none, .asg (.c (.int .i64 (-1)))⟩])
 .ret) .skip))
 (.seq (.reg [⟨some 11, none, .faddr 3 (.t 2)⟩, ⟨some 12, none, .load false 1 (.a 11 2)⟩, ⟨some 13, none, .mv (.p 1)⟩, ⟨some 14, none, .call n_laws_szIntS [.a 12 2, .t 13]⟩, ⟨some 1, none, .asg (.p 14)⟩])
 (.seq (.seq (.reg [⟨some 15, none, .mv (.p 1)⟩, ⟨some 16, none, .bin .lss (.t 15) (.c (.int .i64 0))⟩])
 (.cond (.t 16) (.seq (.reg [⟨some 4, none, .asg (.c (.int .i64 (-1)))⟩])
 .ret) .skip))
 (.seq (.reg [⟨some 17, none, .faddr 4 (.t 2)⟩, ⟨some 18, none, .load false 1 (.a 17 2)⟩, ⟨some 19, none, .mv (.p 1)⟩, ⟨some 20, none, .call n_laws_szIntS [.a 18 2, .t 19]⟩, ⟨some 1, none, .asg (.p 20)⟩])
 (.seq (.seq (.reg [⟨some 21, none, .mv (.p 1)⟩, ⟨some 22, none, .bin .lss (.t 21) (.c (.int .i64 0))⟩])
 (.cond (.t 22) (.seq (.reg [⟨some 4, none, .asg (.c (.int .i64 (-1)))⟩])
 .ret) .skip))
 (.seq (.reg [⟨some 23, none, .mv (.p 1)⟩, ⟨some 4, none, .asg (.p 23)⟩])
 .ret))))))))⟩
/-- laws.szUnitS -/
def a_laws_szUnitS : AFn := ⟨2, 12, [.tmp 4], (.seq (.reg [⟨some 4, none, .asg (.c (.int .i64 0))⟩])
 (.seq (.reg [⟨some 5, none, .mv (.p 1)⟩, ⟨some 6, none, .rf (.t 0)⟩, ⟨some 7, none, .len (.a 6 0)⟩, ⟨some 8, none, .bin .sub (.t 5) (.t 7)⟩, ⟨some 1, none, .asg (.p 8)⟩])
 (.seq (.seq (.reg [⟨some 9, none, .mv (.p 1)⟩, ⟨some 10, none, .bin .lss (.t 9) (.c (.int .i64 0))⟩])
 (.cond (.t 10) (.seq (.reg [⟨some 4, none, .asg (.c (.int .i64 (-1)))⟩])
 .ret) .skip))
 (.seq (.reg [⟨some 11, none, .mv (.p 1)⟩, ⟨some 4, none, .asg (.p 11)⟩])
 .ret))))⟩
/-- spec.fOn -/
def a_spec_fOn : AFn := ⟨3, 27, [.tmp 6], (.seq (.reg [⟨some 3, none, .box (.t 0)⟩, ⟨some 4, none, .box (.t 1)⟩, ⟨some 6, none, .asg (.c (.bool false))⟩])
 (.seq (.reg [⟨some 7, none, .load true 12 (.t 3)⟩, ⟨some 8, none, .load true 3 (.t 4)⟩, ⟨some 9, none, .call n_spec_sGood [.a 7 3, .a 8 4]⟩, ⟨some 10, none, .mv (.p 9)⟩, ⟨some 11, some (10, true), .mv (.p 2)⟩, ⟨some 12, some (10, true), .faddr 2 (.t 4)⟩, ⟨some 13, some (10, true), .load false 1 (.a 12 4)⟩, ⟨some 14, some (10, true), .len (.a 13 4)⟩, ⟨some 15, some (10, true), .bin .sub (.t 14) (.c (.int .i64 1))⟩, ⟨some 16, some (10, true), .call n_spec_l1In [.t 11, .c (.int .i64 0), .t 15]⟩, ⟨some 17, none, .pick (.t 10) (.t 16) (.c (.bool false))⟩, ⟨some 18, none, .mv (.p 17)⟩, ⟨some 19, some (18, true), .faddr 2 (.t 4)⟩, ⟨some 20, some (18, true), .load false 1 (.a 19 4)⟩, ⟨some 21, some (18, true), .mv (.p 2)⟩, ⟨some 22, some (18, true), .iaddr 4 (.a 20 4) (.t 21)⟩, ⟨some 23, some (18, true), .faddr 2 (.a 22 4)⟩, ⟨some 24, some (18, true), .load false 1 (.a 23 4)⟩, ⟨some 25, some (18, true), .bin .geq (.a 24 4) (.c (.int .i64 0))⟩, ⟨some 26, none, .pick (.t 18) (.t 25) (.c (.bool false))⟩, ⟨some 6, none, .asg (.p 26)⟩])
 .ret))⟩
/-- spec.l1In -/
def a_spec_l1In : AFn := ⟨3, 15, [.tmp 6], (.seq (.reg [⟨some 6, none, .asg (.c (.bool false))⟩])
 (.seq (.reg [⟨some 7, none, .mv (.p 0)⟩, ⟨some 8, none, .mv (.p 1)⟩, ⟨some 9, none, .bin .geq (.t 7) (.t 8)⟩, ⟨some 10, none, .mv (.p 9)⟩, ⟨some 11, some (10, true), .mv (.p 0)⟩, ⟨some 12, some (10, true), .mv (.p 2)⟩, ⟨some 13, some (10, true), .bin .leq (.t 11) (.t 12)⟩, ⟨some 14, none, .pick (.t 10) (.t 13) (.c (.bool false))⟩, ⟨some 6, none, .asg (.p 14)⟩])
 .ret))⟩
/-- spec.mNext -/
def a_spec_mNext : AFn := ⟨3, 14, [.tmp 6], (.seq (.reg [⟨some 3, none, .box (.t 0)⟩, ⟨some 6, none, .asg (.c (.int .i64 0))⟩])
 (.seq (.reg [⟨some 7, none, .load true 5 (.t 3)⟩, ⟨some 8, none, .load true 5 (.t 3)⟩, ⟨some 9, none, .mv (.p 1)⟩, ⟨some 10, none, .call n_spec_mHex [.a 8 3, .t 9]⟩, ⟨some 11, none, .mv (.p 2)⟩, ⟨some 12, none, .call n_spec_hStep [.t 10, .t 11]⟩, ⟨some 13, none, .call n_spec_mIndex [.a 7 3, .t 12]⟩, ⟨some 6, none, .asg (.p 13)⟩])
 .ret))⟩
/-- spec.fZone -/
def a_spec_fZone : AFn := ⟨5, 44, [.tmp 10], (.seq (.reg [⟨some 5, none, .box (.t 0)⟩, ⟨some 6, none, .box (.t 1)⟩, ⟨some 10, none, .asg (.c (.int .i64 0))⟩])
 (.seq (.reg [⟨some 13, none, .faddr 2 (.t 6)⟩, ⟨some 14, none, .load false 1 (.a 13 6)⟩, ⟨some 15, none, .mv (.p 2)⟩, ⟨some 16, none, .iaddr 4 (.a 14 6) (.t 15)⟩, ⟨some 17, none, .load true 4 (.a 16 6)⟩, ⟨some 11, none, .alloc [.int .i64 0, .int .i64 0, .int .i64 0, .int .i64 0]⟩, ⟨none, none, .store 4 (.t 11) (.a 17 6)⟩])
 (.seq (.reg [⟨some 18, none, .load true 12 (.t 5)⟩, ⟨some 19, none, .load true 3 (.t 6)⟩, ⟨some 20, none, .faddr 2 (.t 11)⟩, ⟨some 21, none, .load false 1 (.a 20 11)⟩, ⟨some 22, none, .faddr 0 (.t 11)⟩, ⟨some 23, none, .load false 1 (.a 22 11)⟩, ⟨some 24, none, .bin .sub (.c (.int .i64 1)) (.a 23 11)⟩, ⟨some 25, none, .call n_spec_zIn [.a 18 5, .a 19 6, .a 21 11, .t 24]⟩, ⟨some 12, none, .asg (.p 25)⟩])
 (.seq (.seq (.reg [⟨some 26, none, .mv (.p 12)⟩, ⟨some 27, none, .mv (.p 26)⟩, ⟨some 28, some (27, true), .mv (.p 4)⟩, ⟨some 29, some (27, true), .mv (.p 28)⟩, ⟨some 30, some (29, false), .load true 12 (.t 5)⟩, ⟨some 31, some (29, false), .load true 3 (.t 6)⟩, ⟨some 32, some (29, false), .faddr 7 (.t 5)⟩, ⟨some 33, some (29, false), .load true 5 (.a 32 5)⟩, ⟨some 34, some (29, false), .faddr 2 (.t 11)⟩, ⟨some 35, some (29, false), .load false 1 (.a 34 11)⟩, ⟨some 36, some (29, false), .mv (.p 3)⟩, ⟨some 37, some (29, false), .call n_spec_mNext [.a 33 5, .a 35 11, .t 36]⟩, ⟨some 38, some (29, false), .faddr 0 (.t 11)⟩, ⟨some 39, some (29, false), .load false 1 (.a 38 11)⟩, ⟨some 40, some (29, false), .bin .sub (.c (.int .i64 1)) (.a 39 11)⟩, ⟨some 41, some (29, false), .call n_spec_zIn [.a 30 5, .a 31 6, .t 37, .t 40]⟩, ⟨some 42, some (27, true), .pick (.t 29) (.c (.bool true)) (.t 41)⟩, ⟨some 43, none, .pick (.t 27) (.t 42) (.c (.bool false))⟩])
 (.cond (.t 43) (.seq (.reg [⟨some 10, none, .asg (.c (.int .i64 5))⟩])
 .ret) .skip))
 (.seq (.reg [⟨some 10, none, .asg (.c (.int .i64 0))⟩])
 .ret)))))⟩
/-- laws.toRules -/
def a_laws_toRules : AFn := ⟨1, 28, [.cell 2 7 true], (.seq (.reg [⟨some 1, none, .box (.t 0)⟩, ⟨some 2, none, .alloc [.list true 5 [], .list true 6 [], .int .i64 0, .int .i64 0, .int .i64 0, .int .i64 0, .int .i64 0]⟩])
 (.seq (.reg [⟨some 3, none, .alloc [.list true 5 [], .list true 6 [], .int .i64 0, .int .i64 0, .int .i64 0, .int .i64 0, .int .i64 0]⟩])
 (.seq (.reg [⟨some 4, none, .faddr 0 (.t 1)⟩, ⟨some 5, none, .load false 1 (.a 4 1)⟩, ⟨some 6, none, .call n_laws_toTerrainS [.a 5 1]⟩, ⟨some 7, none, .faddr 0 (.t 3)⟩, ⟨none, none, .store 1 (.a 7 3) (.t 6)⟩])
 (.seq (.reg [⟨some 8, none, .faddr 1 (.t 1)⟩, ⟨some 9, none, .load false 1 (.a 8 1)⟩, ⟨some 10, none, .call n_laws_toKindS [.a 9 1]⟩, ⟨some 11, none, .faddr 1 (.t 3)⟩, ⟨none, none, .store 1 (.a 11 3) (.t 10)⟩])
 (.seq (.reg [⟨some 12, none, .faddr 2 (.t 1)⟩, ⟨some 13, none, .load false 1 (.a 12 1)⟩, ⟨some 14, none, .faddr 2 (.t 3)⟩, ⟨none, none, .store 1 (.a 14 3) (.p 13)⟩])
 (.seq (.reg [⟨some 15, none, .faddr 3 (.t 1)⟩, ⟨some 16, none, .load false 1 (.a 15 1)⟩, ⟨some 17, none, .faddr 3 (.t 3)⟩, ⟨none, none, .store 1 (.a 17 3) (.p 16)⟩])
 (.seq (.reg [⟨some 18, none, .faddr 4 (.t 1)⟩, ⟨some 19, none, .load false 1 (.a 18 1)⟩, ⟨some 20, none, .faddr 4 (.t 3)⟩, ⟨none, none, .store 1 (.a 20 3) (.p 19)⟩])
 (.seq (.reg [⟨some 21, none, .faddr 5 (.t 1)⟩, ⟨some 22, none, .load false 1 (.a 21 1)⟩, ⟨some 23, none, .faddr 5 (.t 3)⟩, ⟨none, none, .store 1 (.a 23 3) (.p 22)⟩])
 (.seq (.reg [⟨some 24, none, .faddr 6 (.t 1)⟩, ⟨some 25, none, .load false 1 (.a 24 1)⟩, ⟨some 26, none, .faddr 6 (.t 3)⟩, ⟨none, none, .store 1 (.a 26 3) (.p 25)⟩])
 (.seq (.reg [⟨some 27, none, .load true 7 (.t 3)⟩, ⟨none, none, .store 7 (.t 2) (.a 27 3)⟩])
 .ret))))))))))⟩
/-- laws.toMap -/
def a_laws_toMap : AFn := ⟨1, 23, [.cell 2 5 true], (.seq (.reg [⟨some 1, none, .box (.t 0)⟩, ⟨some 2, none, .alloc [.int .i64 0, .int .i64 0, .list true 1 [], .list true 1 [], .list true 1 []]⟩])
 (.seq (.reg [⟨some 3, none, .alloc [.int .i64 0, .int .i64 0, .list true 1 [], .list true 1 [], .list true 1 []]⟩])
 (.seq (.reg [⟨some 4, none, .faddr 0 (.t 1)⟩, ⟨some 5, none, .load false 1 (.a 4 1)⟩, ⟨some 6, none, .faddr 0 (.t 3)⟩, ⟨none, none, .store 1 (.a 6 3) (.p 5)⟩])
 (.seq (.reg [⟨some 7, none, .faddr 1 (.t 1)⟩, ⟨some 8, none, .load false 1 (.a 7 1)⟩, ⟨some 9, none, .faddr 1 (.t 3)⟩, ⟨none, none, .store 1 (.a 9 3) (.p 8)⟩])
 (.seq (.reg [⟨some 10, none, .faddr 2 (.t 1)⟩, ⟨some 11, none, .load false 1 (.a 10 1)⟩, ⟨some 12, none, .call n_laws_toIntS [.a 11 1]⟩, ⟨some 13, none, .faddr 2 (.t 3)⟩, ⟨none, none, .store 1 (.a 13 3) (.t 12)⟩])
 (.seq (.reg [⟨some 14, none, .faddr 3 (.t 1)⟩, ⟨some 15, none, .load false 1 (.a 14 1)⟩, ⟨some 16, none, .call n_laws_toIntS [.a 15 1]⟩, ⟨some 17, none, .faddr 3 (.t 3)⟩, ⟨none, none, .store 1 (.a 17 3) (.t 16)⟩])
 (.seq (.reg [⟨some 18, none, .faddr 4 (.t 1)⟩, ⟨some 19, none, .load false 1 (.a 18 1)⟩, ⟨some 20, none, .call n_laws_toIntS [.a 19 1]⟩, ⟨some 21, none, .faddr 4 (.t 3)⟩, ⟨none, none, .store 1 (.a 21 3) (.t 20)⟩])
 (.seq (.reg [⟨some 22, none, .load true 5 (.t 3)⟩, ⟨none, none, .store 5 (.t 2) (.a 22 3)⟩])
 .ret))))))))⟩
def b_laws_toUnitS_0 : AC := (.seq (.seq (.reg [⟨some 8, none, .mv (.p 4)⟩, ⟨some 9, none, .rf (.t 0)⟩, ⟨some 10, none, .len (.a 9 0)⟩, ⟨some 11, none, .bin .lss (.t 8) (.t 10)⟩])
 (.cond (.t 11) .skip (.exit 0)))
 (.seq (.block 1 (.reg [⟨some 14, none, .rf (.t 3)⟩, ⟨some 15, none, .mv (.p 4)⟩, ⟨some 16, none, .rf (.t 0)⟩, ⟨some 17, none, .mv (.p 4)⟩, ⟨some 18, none, .iaddr 4 (.a 16 0) (.t 17)⟩, ⟨some 19, none, .load true 4 (.a 18 0)⟩, ⟨some 20, none, .call n_laws_toUnit [.a 19 0]⟩, ⟨some 21, none, .iaddr 4 (.a 14 3) (.t 15)⟩, ⟨none, none, .store 4 (.a 21 3) (.t 20)⟩]))
 (.reg [⟨some 12, none, .mv (.p 4)⟩, ⟨some 13, none, .bin .add (.t 12) (.c (.int .i64 1))⟩, ⟨some 4, none, .asg (.p 13)⟩])))
/-- laws.toUnitS -/
def a_laws_toUnitS : AFn := ⟨1, 23, [.tmp 2], (.seq (.reg [⟨some 2, none, .asg (.c (.list true 4 []))⟩])
 (.seq (.reg [⟨some 5, none, .rf (.t 0)⟩, ⟨some 6, none, .len (.a 5 0)⟩, ⟨some 7, none, .mslice 4 [.int .i64 0, .int .i64 0, .int .i64 0, .int .i64 0] (.t 6)⟩, ⟨some 3, none, .asg (.t 7)⟩])
 (.seq (.seq (.reg [⟨some 4, none, .asg (.c (.int .i64 0))⟩])
 (.block 0 (.loop [0, 3, 4] [2, 3] b_laws_toUnitS_0)))
 (.seq (.reg [⟨some 22, none, .rf (.t 3)⟩, ⟨some 2, none, .asg (.a 22 3)⟩])
 .ret))))⟩
/-- impl.hasUnit -/
def a_impl_hasUnit : AFn := ⟨3, 17, [.tmp 6], (.seq (.reg [⟨some 3, none, .box (.t 0)⟩, ⟨some 4, none, .box (.t 1)⟩, ⟨some 6, none, .asg (.c (.bool false))⟩])
 (.seq (.reg [⟨some 7, none, .load true 12 (.t 3)⟩, ⟨some 8, none, .load true 3 (.t 4)⟩, ⟨some 9, none, .call n_impl_fits [.a 7 3, .a 8 4]⟩, ⟨some 10, none, .mv (.p 9)⟩, ⟨some 11, some (10, true), .mv (.p 2)⟩, ⟨some 12, some (10, true), .faddr 2 (.t 4)⟩, ⟨some 13, some (10, true), .load false 1 (.a 12 4)⟩, ⟨some 14, some (10, true), .len (.a 13 4)⟩, ⟨some 15, some (10, true), .call n_impl_isIndex [.t 11, .t 14]⟩, ⟨some 16, none, .pick (.t 10) (.t 15) (.c (.bool false))⟩, ⟨some 6, none, .asg (.p 16)⟩])
 .ret))⟩
/-- impl.isDirection -/
def a_impl_isDirection : AFn := ⟨1, 5, [.tmp 2], (.seq (.reg [⟨some 2, none, .asg (.c (.bool false))⟩])
 (.seq (.reg [⟨some 3, none, .mv (.p 0)⟩, ⟨some 4, none, .call n_impl_inRange [.t 3, .c (.int .i64 0), .c (.int .i64 5)]⟩, ⟨some 2, none, .asg (.p 4)⟩])
 .ret))⟩
/-- impl.nextTo -/
def a_impl_nextTo : AFn := ⟨3, 14, [.tmp 6], (.seq (.reg [⟨some 3, none, .box (.t 0)⟩, ⟨some 6, none, .asg (.c (.int .i64 0))⟩])
 (.seq (.reg [⟨some 7, none, .load true 5 (.t 3)⟩, ⟨some 8, none, .load true 5 (.t 3)⟩, ⟨some 9, none, .mv (.p 1)⟩, ⟨some 10, none, .call n_impl_hexOf [.a 8 3, .t 9]⟩, ⟨some 11, none, .mv (.p 2)⟩, ⟨some 12, none, .call n_impl_stepBy [.t 10, .t 11, .c (.int .i64 1)]⟩, ⟨some 13, none, .call n_impl_indexOf [.a 7 3, .t 12]⟩, ⟨some 6, none, .asg (.p 13)⟩])
 .ret))⟩
/-- impl.zoneReason -/
def a_impl_zoneReason : AFn := ⟨5, 31, [.tmp 10], (.seq (.reg [⟨some 5, none, .box (.t 0)⟩, ⟨some 6, none, .box (.t 1)⟩, ⟨some 7, none, .box (.t 2)⟩, ⟨some 10, none, .asg (.c (.int .i64 0))⟩])
 (.seq (.reg [⟨some 12, none, .faddr 0 (.t 7)⟩, ⟨some 13, none, .load false 1 (.a 12 7)⟩, ⟨some 14, none, .bin .sub (.c (.int .i64 1)) (.a 13 7)⟩, ⟨some 11, none, .asg (.p 14)⟩])
 (.seq (.seq (.reg [⟨some 15, none, .load true 12 (.t 5)⟩, ⟨some 16, none, .load true 3 (.t 6)⟩, ⟨some 17, none, .mv (.p 11)⟩, ⟨some 18, none, .faddr 2 (.t 7)⟩, ⟨some 19, none, .load false 1 (.a 18 7)⟩, ⟨some 20, none, .call n_impl_inZone [.a 15 5, .a 16 6, .t 17, .a 19 7]⟩, ⟨some 21, none, .mv (.p 20)⟩, ⟨some 22, some (21, true), .mv (.p 4)⟩, ⟨some 23, some (21, true), .mv (.p 22)⟩, ⟨some 24, some (23, false), .load true 12 (.t 5)⟩, ⟨some 25, some (23, false), .load true 3 (.t 6)⟩, ⟨some 26, some (23, false), .mv (.p 11)⟩, ⟨some 27, some (23, false), .mv (.p 3)⟩, ⟨some 28, some (23, false), .call n_impl_inZone [.a 24 5, .a 25 6, .t 26, .t 27]⟩, ⟨some 29, some (21, true), .pick (.t 23) (.c (.bool true)) (.t 28)⟩, ⟨some 30, none, .pick (.t 21) (.t 29) (.c (.bool false))⟩])
 (.cond (.t 30) (.seq (.reg [⟨some 10, none, .asg (.c (.int .i64 5))⟩])
 .ret) .skip))
 (.seq (.reg [⟨some 10, none, .asg (.c (.int .i64 0))⟩])
 .ret))))⟩
/-- laws.eqRules -/
def a_laws_eqRules : AFn := ⟨2, 42, [.tmp 4], (.seq (.reg [⟨some 2, none, .box (.t 0)⟩, ⟨some 3, none, .box (.t 1)⟩, ⟨some 4, none, .asg (.c (.bool false))⟩])
 (.seq (.seq (.reg [⟨some 5, none, .faddr 0 (.t 2)⟩, ⟨some 6, none, .load false 1 (.a 5 2)⟩, ⟨some 7, none, .faddr 0 (.t 3)⟩, ⟨some 8, none, .load false 1 (.a 7 3)⟩, ⟨some 9, none, .call n_laws_eqTerrainS [.a 6 2, .a 8 3]⟩, ⟨some 10, none, .un .not (.t 9)⟩])
 (.cond (.t 10) (.seq (.reg [⟨some 4, none, .asg (.c (.bool false))⟩])
 .ret) .skip))
 (.seq (.seq (.reg [⟨some 11, none, .faddr 1 (.t 2)⟩, ⟨some 12, none, .load false 1 (.a 11 2)⟩, ⟨some 13, none, .faddr 1 (.t 3)⟩, ⟨some 14, none, .load false 1 (.a 13 3)⟩, ⟨some 15, none, .call n_laws_eqKindS [.a 12 2, .a 14 3]⟩, ⟨some 16, none, .un .not (.t 15)⟩])
 (.cond (.t 16) (.seq (.reg [⟨some 4, none, .asg (.c (.bool false))⟩])
 .ret) .skip))
 (.seq (.seq (.reg [⟨some 17, none, .faddr 2 (.t 2)⟩, ⟨some 18, none, .load false 1 (.a 17 2)⟩, ⟨some 19, none, .faddr 2 (.t 3)⟩, ⟨some 20, none, .load false 1 (.a 19 3)⟩, ⟨some 21, none, .bin .neq (.a 18 2) (.a 20 3)⟩])
 (.cond (.t 21) (.seq (.reg [⟨some 4, none, .asg (.c (.bool false))⟩])
 .ret) .skip))
 (.seq (.seq (.reg [⟨some 22, none, .faddr 3 (.t 2)⟩, ⟨some 23, none, .load false 1 (.a 22 2)⟩, ⟨some 24, none, .faddr 3 (.t 3)⟩, ⟨some 25, none, .load false 1 (.a 24 3)⟩, ⟨some 26, none, .bin .neq (.a 23 2) (.a 25 3)⟩])
 (.cond (.t 26) (.seq (.reg [⟨some 4, none, .asg (.c (.bool false))⟩])
 .ret) .skip))
 (.seq (.seq (.reg [⟨some 27, none, .faddr 4 (.t 2)⟩, ⟨some 28, none, .load false 1 (.a 27 2)⟩, ⟨some 29, none, .faddr 4 (.t 3)⟩, ⟨some 30, none, .load false 1 (.a 29 3)⟩, ⟨some 31, none, .bin .neq (.a 28 2) (.a 30 3)⟩])
 (.cond (.t 31) (.seq (.reg [⟨some 4, none, .asg (.c (.bool false))⟩])
 .ret) .skip))
 (.seq (.seq (.reg [⟨some 32, none, .faddr 5 (.t 2)⟩, ⟨some 33, none, .load false 1 (.a 32 2)⟩, ⟨some 34, none, .faddr 5 (.t 3)⟩, ⟨some 35, none, .load false 1 (.a 34 3)⟩, ⟨some 36, none, .bin .neq (.a 33 2) (.a 35 3)⟩])
 (.cond (.t 36) (.seq (.reg [⟨some 4, none, .asg (.c (.bool false))⟩])
 .ret) .skip))
 (.seq (.seq (.reg [⟨some 37, none, .faddr 6 (.t 2)⟩, ⟨some 38, none, .load false 1 (.a 37 2)⟩, ⟨some 39, none, .faddr 6 (.t 3)⟩, ⟨some 40, none, .load false 1 (.a 39 3)⟩, ⟨some 41, none, .bin .neq (.a 38 2) (.a 40 3)⟩])
 (.cond (.t 41) (.seq (.reg [⟨some 4, none, .asg (.c (.bool false))⟩])
 .ret) .skip))
 (.seq (.reg [⟨some 4, none, .asg (.c (.bool true))⟩])
 .ret)))))))))⟩
/-- laws.eqMap -/
def a_laws_eqMap : AFn := ⟨2, 33, [.tmp 4], (.seq (.reg [⟨some 2, none, .box (.t 0)⟩, ⟨some 3, none, .box (.t 1)⟩, ⟨some 4, none, .asg (.c (.bool false))⟩])
 (.seq (.seq (.reg [⟨some 5, none, .faddr 0 (.t 2)⟩, ⟨some 6, none, .load false 1 (.a 5 2)⟩, ⟨some 7, none, .faddr 0 (.t 3)⟩, ⟨some 8, none, .load false 1 (.a 7 3)⟩, ⟨some 9, none, .bin .neq (.a 6 2) (.a 8 3)⟩])
 (.cond (.t 9) (.seq (.reg [⟨some 4, none, .asg (.c (.bool false))⟩])
 .ret) .skip))
 (.seq (.seq (.reg [⟨some 10, none, .faddr 1 (.t 2)⟩, ⟨some 11, none, .load false 1 (.a 10 2)⟩, ⟨some 12, none, .faddr 1 (.t 3)⟩, ⟨some 13, none, .load false 1 (.a 12 3)⟩, ⟨some 14, none, .bin .neq (.a 11 2) (.a 13 3)⟩])
 (.cond (.t 14) (.seq (.reg [⟨some 4, none, .asg (.c (.bool false))⟩])
 .ret) .skip))
 (.seq (.seq (.reg [⟨some 15, none, .faddr 2 (.t 2)⟩, ⟨some 16, none, .load false 1 (.a 15 2)⟩, ⟨some 17, none, .faddr 2 (.t 3)⟩, ⟨some 18, none, .load false 1 (.a 17 3)⟩, ⟨some 19, none, .call n_laws_eqIntS [.a 16 2, .a 18 3]⟩, ⟨some 20, none, .un .not (.t 19)⟩])
 (.cond (.t 20) (.seq (.reg [⟨some 4, none, .asg (.c (.bool false))⟩])
 .ret) .skip))
 (.seq (.seq (.reg [⟨some 21, none, .faddr 3 (.t 2)⟩, ⟨some 22, none, .load false 1 (.a 21 2)⟩, ⟨some 23, none, .faddr 3 (.t 3)⟩, ⟨some 24, none, .load false 1 (.a 23 3)⟩, ⟨some 25, none, .call n_laws_eqIntS [.a 22 2, .a 24 3]⟩, ⟨some 26, none, .un .not (.t 25)⟩])
 (.cond (.t 26) (.seq (.reg [⟨some 4, none, .asg (.c (.bool false))⟩])
 .ret) .skip))
 (.seq (.seq (.reg [⟨some 27, none, .faddr 4 (.t 2)⟩, ⟨some 28, none, .load false 1 (.a 27 2)⟩, ⟨some 29, none, .faddr 4 (.t 3)⟩, ⟨some 30, none, .load false 1 (.a 29 3)⟩, ⟨some 31, none, .call n_laws_eqIntS [.a 28 2, .a 30 3]⟩, ⟨some 32, none, .un .not (.t 31)⟩])
 (.cond (.t 32) (.seq (.reg [⟨some 4, none, .asg (.c (.bool false))⟩])
 .ret) .skip))
 (.seq (.reg [⟨some 4, none, .asg (.c (.bool true))⟩])
 .ret)))))))⟩
def b_laws_eqUnitS_0 : AC := (.seq (.seq (.reg [⟨some 11, none, .mv (.p 5)⟩, ⟨some 12, none, .rf (.t 0)⟩, ⟨some 13, none, .len (.a 12 0)⟩, ⟨some 14, none, .bin .lss (.t 11) (.t 13)⟩])
 (.cond (.t 14) .skip (.exit 0)))
 (.seq (.block 1 (.seq (.reg [⟨some 17, none, .rf (.t 0)⟩, ⟨some 18, none, .mv (.p 5)⟩, ⟨some 19, none, .iaddr 4 (.a 17 0) (.t 18)⟩, ⟨some 20, none, .load true 4 (.a 19 0)⟩, ⟨some 21, none, .rf (.t 1)⟩, ⟨some 22, none, .mv (.p 5)⟩, ⟨some 23, none, .iaddr 4 (.a 21 1) (.t 22)⟩, ⟨some 24, none, .load true 4 (.a 23 1)⟩, ⟨some 25, none, .call n_laws_eqUnit [.a 20 0, .a 24 1]⟩, ⟨some 26, none, .un .not (.t 25)⟩])
 (.cond (.t 26) (.seq (.reg [⟨some 4, none, .asg (.c (.bool false))⟩])
 .ret) .skip)))
 (.reg [⟨some 15, none, .mv (.p 5)⟩, ⟨some 16, none, .bin .add (.t 15) (.c (.int .i64 1))⟩, ⟨some 5, none, .asg (.p 16)⟩])))
/-- laws.eqUnitS -/
def a_laws_eqUnitS : AFn := ⟨2, 27, [.tmp 4], (.seq (.reg [⟨some 4, none, .asg (.c (.bool false))⟩])
 (.seq (.seq (.reg [⟨some 6, none, .rf (.t 0)⟩, ⟨some 7, none, .len (.a 6 0)⟩, ⟨some 8, none, .rf (.t 1)⟩, ⟨some 9, none, .len (.a 8 1)⟩, ⟨some 10, none, .bin .neq (.t 7) (.t 9)⟩])
 (.cond (.t 10) (.seq (.reg [⟨some 4, none, .asg (.c (.bool false))⟩])
 .ret) .skip))
 (.seq (.seq (.reg [⟨some 5, none, .asg (.c (.int .i64 0))⟩])
 (.block 0 (.loop [0, 1, 5] [4] b_laws_eqUnitS_0)))
 (.seq (.reg [⟨some 4, none, .asg (.c (.bool true))⟩])
 .ret))))⟩
/-- spec.mSize -/
def a_spec_mSize : AFn := ⟨1, 8, [.tmp 2], (.seq (.reg [⟨some 1, none, .box (.t 0)⟩, ⟨some 2, none, .asg (.c (.int .i64 0))⟩])
 (.seq (.reg [⟨some 3, none, .faddr 0 (.t 1)⟩, ⟨some 4, none, .load false 1 (.a 3 1)⟩, ⟨some 5, none, .faddr 1 (.t 1)⟩, ⟨some 6, none, .load false 1 (.a 5 1)⟩, ⟨some 7, none, .bin .mul (.a 4 1) (.a 6 1)⟩, ⟨some 2, none, .asg (.p 7)⟩])
 .ret))⟩
def b_spec_gCan_0 : AC := (.seq (.seq (.reg [⟨some 16, none, .mv (.p 10)⟩, ⟨some 17, none, .bin .lss (.t 16) (.c (.int .i64 6))⟩])
 (.cond (.t 17) .skip (.exit 0)))
 (.seq (.block 1 (.seq (.reg [⟨some 20, none, .faddr 7 (.t 4)⟩, ⟨some 21, none, .load true 5 (.a 20 4)⟩, ⟨some 22, none, .faddr 2 (.t 9)⟩, ⟨some 23, none, .load false 1 (.a 22 9)⟩, ⟨some 24, none, .mv (.p 10)⟩, ⟨some 25, none, .call n_spec_mNext [.a 21 4, .a 23 9, .t 24]⟩, ⟨some 26, none, .mv (.p 3)⟩, ⟨some 27, none, .bin .eql (.t 25) (.t 26)⟩])
 (.cond (.t 27) (.seq (.reg [⟨some 28, none, .load true 12 (.t 4)⟩, ⟨some 29, none, .faddr 1 (.t 9)⟩, ⟨some 30, none, .load false 1 (.a 29 9)⟩, ⟨some 31, none, .faddr 2 (.t 9)⟩, ⟨some 32, none, .load false 1 (.a 31 9)⟩, ⟨some 33, none, .mv (.p 10)⟩, ⟨some 34, none, .faddr 1 (.t 5)⟩, ⟨some 35, none, .load false 1 (.a 34 5)⟩, ⟨some 36, none, .call n_spec_cStep [.a 28 4, .a 30 9, .a 32 9, .t 33, .a 35 5]⟩, ⟨some 37, none, .bin .gtr (.t 36) (.c (.int .i64 0))⟩, ⟨some 38, none, .mv (.p 37)⟩, ⟨some 39, some (38, true), .load true 12 (.t 4)⟩, ⟨some 40, some (38, true), .load true 3 (.t 5)⟩, ⟨some 41, some (38, true), .faddr 0 (.t 9)⟩, ⟨some 42, some (38, true), .load false 1 (.a 41 9)⟩, ⟨some 43, some (38, true), .mv (.p 3)⟩, ⟨some 44, some (38, true), .call n_spec_gRoom [.a 39 4, .a 40 5, .a 42 9, .t 43]⟩, ⟨some 45, none, .pick (.t 38) (.t 44) (.c (.bool false))⟩, ⟨some 8, none, .asg (.p 45)⟩])
 .ret) .skip)))
 (.reg [⟨some 18, none, .mv (.p 10)⟩, ⟨some 19, none, .bin .add (.t 18) (.c (.int .i64 1))⟩, ⟨some 10, none, .asg (.p 19)⟩])))
/-- spec.gCan -/
def a_spec_gCan : AFn := ⟨4, 46, [.tmp 8], (.seq (.reg [⟨some 4, none, .box (.t 0)⟩, ⟨some 5, none, .box (.t 1)⟩, ⟨some 8, none, .asg (.c (.bool false))⟩])
 (.seq (.reg [⟨some 11, none, .faddr 2 (.t 5)⟩, ⟨some 12, none, .load false 1 (.a 11 5)⟩, ⟨some 13, none, .mv (.p 2)⟩, ⟨some 14, none, .iaddr 4 (.a 12 5) (.t 13)⟩, ⟨some 15, none, .load true 4 (.a 14 5)⟩, ⟨some 9, none, .alloc [.int .i64 0, .int .i64 0, .int .i64 0, .int .i64 0]⟩, ⟨none, none, .store 4 (.t 9) (.a 15 5)⟩])
 (.seq (.seq (.reg [⟨some 10, none, .asg (.c (.int .i64 0))⟩])
 (.block 0 (.loop [3, 4, 5, 9, 10] [8] b_spec_gCan_0)))
 (.seq (.reg [⟨some 8, none, .asg (.c (.bool false))⟩])
 .ret))))⟩
/-- impl.onMap -/
def a_impl_onMap : AFn := ⟨3, 20, [.tmp 6], (.seq (.reg [⟨some 3, none, .box (.t 0)⟩, ⟨some 4, none, .box (.t 1)⟩, ⟨some 6, none, .asg (.c (.bool false))⟩])
 (.seq (.reg [⟨some 7, none, .load true 12 (.t 3)⟩, ⟨some 8, none, .load true 3 (.t 4)⟩, ⟨some 9, none, .mv (.p 2)⟩, ⟨some 10, none, .call n_impl_hasUnit [.a 7 3, .a 8 4, .t 9]⟩, ⟨some 11, none, .mv (.p 10)⟩, ⟨some 12, some (11, true), .faddr 2 (.t 4)⟩, ⟨some 13, some (11, true), .load false 1 (.a 12 4)⟩, ⟨some 14, some (11, true), .mv (.p 2)⟩, ⟨some 15, some (11, true), .iaddr 4 (.a 13 4) (.t 14)⟩, ⟨some 16, some (11, true), .faddr 2 (.a 15 4)⟩, ⟨some 17, some (11, true), .load false 1 (.a 16 4)⟩, ⟨some 18, some (11, true), .bin .geq (.a 17 4) (.c (.int .i64 0))⟩, ⟨some 19, none, .pick (.t 11) (.t 18) (.c (.bool false))⟩, ⟨some 6, none, .asg (.p 19)⟩])
 .ret))⟩
/-- impl.isIndex -/
def a_impl_isIndex : AFn := ⟨2, 9, [.tmp 4], (.seq (.reg [⟨some 4, none, .asg (.c (.bool false))⟩])
 (.seq (.reg [⟨some 5, none, .mv (.p 0)⟩, ⟨some 6, none, .mv (.p 1)⟩, ⟨some 7, none, .bin .sub (.t 6) (.c (.int .i64 1))⟩, ⟨some 8, none, .call n_impl_inRange [.t 5, .c (.int .i64 0), .t 7]⟩, ⟨some 4, none, .asg (.p 8)⟩])
 .ret))⟩
/-- impl.sizeOf -/
def a_impl_sizeOf : AFn := ⟨1, 7, [.tmp 2], (.seq (.reg [⟨some 1, none, .box (.t 0)⟩, ⟨some 2, none, .asg (.c (.int .i64 0))⟩])
 (.seq (.reg [⟨some 3, none, .faddr 7 (.t 1)⟩, ⟨some 4, none, .faddr 2 (.a 3 1)⟩, ⟨some 5, none, .load false 1 (.a 4 1)⟩, ⟨some 6, none, .len (.a 5 1)⟩, ⟨some 2, none, .asg (.p 6)⟩])
 .ret))⟩
/-- impl.canAdvance -/
def a_impl_canAdvance : AFn := ⟨4, 39, [.tmp 8], (.seq (.reg [⟨some 4, none, .box (.t 0)⟩, ⟨some 5, none, .box (.t 1)⟩, ⟨some 6, none, .box (.t 2)⟩, ⟨some 8, none, .asg (.c (.bool false))⟩])
 (.seq (.reg [⟨some 10, none, .faddr 7 (.t 4)⟩, ⟨some 11, none, .load true 5 (.a 10 4)⟩, ⟨some 12, none, .faddr 2 (.t 6)⟩, ⟨some 13, none, .load false 1 (.a 12 6)⟩, ⟨some 14, none, .mv (.p 3)⟩, ⟨some 15, none, .call n_impl_directionOn [.a 11 4, .a 13 6, .t 14]⟩, ⟨some 9, none, .asg (.p 15)⟩])
 (.seq (.reg [⟨some 16, none, .mv (.p 9)⟩, ⟨some 17, none, .bin .geq (.t 16) (.c (.int .i64 0))⟩, ⟨some 18, none, .mv (.p 17)⟩, ⟨some 19, some (18, true), .load true 12 (.t 4)⟩, ⟨some 20, some (18, true), .faddr 1 (.t 6)⟩, ⟨some 21, some (18, true), .load false 1 (.a 20 6)⟩, ⟨some 22, some (18, true), .faddr 1 (.t 5)⟩, ⟨some 23, some (18, true), .load false 1 (.a 22 5)⟩, ⟨some 24, some (18, true), .faddr 2 (.t 6)⟩, ⟨some 25, some (18, true), .load false 1 (.a 24 6)⟩, ⟨some 26, some (18, true), .mv (.p 9)⟩, ⟨some 27, some (18, true), .call n_impl_stepCost [.a 19 4, .a 21 6, .a 23 5, .a 25 6, .t 26]⟩, ⟨some 28, some (18, true), .bin .gtr (.t 27) (.c (.int .i64 0))⟩, ⟨some 29, none, .pick (.t 18) (.t 28) (.c (.bool false))⟩, ⟨some 30, none, .mv (.p 29)⟩, ⟨some 31, some (30, true), .load true 12 (.t 4)⟩, ⟨some 32, some (30, true), .load true 3 (.t 5)⟩, ⟨some 33, some (30, true), .faddr 0 (.t 6)⟩, ⟨some 34, some (30, true), .load false 1 (.a 33 6)⟩, ⟨some 35, some (30, true), .mv (.p 3)⟩, ⟨some 36, some (30, true), .call n_impl_stackRoom [.a 31 4, .a 32 5, .a 34 6, .t 35]⟩, ⟨some 37, some (30, true), .bin .gtr (.t 36) (.c (.int .i64 0))⟩, ⟨some 38, none, .pick (.t 30) (.t 37) (.c (.bool false))⟩, ⟨some 8, none, .asg (.p 38)⟩])
 .ret)))⟩
/-- laws.szIntS -/
def a_laws_szIntS : AFn := ⟨2, 12, [.tmp 4], (.seq (.reg [⟨some 4, none, .asg (.c (.int .i64 0))⟩])
 (.seq (.reg [⟨some 5, none, .mv (.p 1)⟩, ⟨some 6, none, .rf (.t 0)⟩, ⟨some 7, none, .len (.a 6 0)⟩, ⟨some 8, none, .bin .sub (.t 5) (.t 7)⟩, ⟨some 1, none, .asg (.p 8)⟩])
 (.seq (.seq (.reg [⟨some 9, none, .mv (.p 1)⟩, ⟨some 10, none, .bin .lss (.t 9) (.c (.int .i64 0))⟩])
 (.cond (.t 10) (.seq (.reg [⟨some 4, none, .asg (.c (.int .i64 (-1)))⟩])
 .ret) .skip))
 (.seq (.reg [⟨some 11, none, .mv (.p 1)⟩, ⟨some 4, none, .asg (.p 11)⟩])
 .ret))))⟩
def b_spec_aGood_0 : AC := (.seq (.reg [⟨some 47, none, .bin .lss (.t 46) (.t 45)⟩])
 (.seq (.cond (.t 47) .skip (.exit 0))
 (.seq (.block 1 (.seq (.reg [⟨some 48, none, .iaddr 1 (.a 44 5) (.t 46)⟩, ⟨some 49, none, .load false 1 (.a 48 5)⟩, ⟨some 9, none, .asg (.p 49)⟩])
 (.seq (.reg [⟨some 50, none, .faddr 2 (.t 4)⟩, ⟨some 51, none, .load false 1 (.a 50 4)⟩, ⟨some 52, none, .mv (.p 9)⟩, ⟨some 53, none, .iaddr 4 (.a 51 4) (.t 52)⟩, ⟨some 54, none, .faddr 0 (.a 53 4)⟩, ⟨some 55, none, .load false 1 (.a 54 4)⟩, ⟨some 56, none, .mv (.p 7)⟩, ⟨some 57, none, .bin .eql (.a 55 4) (.t 56)⟩, ⟨some 58, none, .mv (.p 57)⟩, ⟨some 59, some (58, false), .load true 12 (.t 3)⟩, ⟨some 60, some (58, false), .load true 3 (.t 4)⟩, ⟨some 61, some (58, false), .faddr 0 (.t 5)⟩, ⟨some 62, some (58, false), .load false 1 (.a 61 5)⟩, ⟨some 63, some (58, false), .mv (.p 9)⟩, ⟨some 64, some (58, false), .call n_spec_aSide [.a 59 3, .a 60 4, .a 62 5, .t 63]⟩, ⟨some 65, some (58, false), .bin .lss (.t 64) (.c (.int .i64 0))⟩, ⟨some 66, none, .pick (.t 58) (.c (.bool true)) (.t 65)⟩])
 (.cond (.t 66) (.seq (.reg [⟨some 6, none, .asg (.c (.bool false))⟩])
 .ret) .skip))))
 (.reg [⟨some 67, none, .bin .add (.t 46) (.c (.int .i64 1))⟩, ⟨some 46, none, .mv (.p 67)⟩]))))
/-- spec.aGood -/
def a_spec_aGood : AFn := ⟨3, 76, [.tmp 6], (.seq (.reg [⟨some 3, none, .box (.t 0)⟩, ⟨some 4, none, .box (.t 1)⟩, ⟨some 5, none, .box (.t 2)⟩, ⟨some 6, none, .asg (.c (.bool false))⟩])
 (.seq (.seq (.reg [⟨some 10, none, .load true 12 (.t 3)⟩, ⟨some 11, none, .load true 3 (.t 4)⟩, ⟨some 12, none, .faddr 0 (.t 5)⟩, ⟨some 13, none, .load false 1 (.a 12 5)⟩, ⟨some 14, none, .call n_spec_sHex [.a 10 3, .a 11 4, .a 13 5]⟩, ⟨some 15, none, .un .not (.t 14)⟩, ⟨some 16, none, .mv (.p 15)⟩, ⟨some 17, some (16, false), .load true 3 (.t 4)⟩, ⟨some 18, some (16, false), .faddr 0 (.t 5)⟩, ⟨some 19, some (16, false), .load false 1 (.a 18 5)⟩, ⟨some 20, some (16, false), .call n_spec_sOwner [.a 17 4, .a 19 5]⟩, ⟨some 21, some (16, false), .bin .lss (.t 20) (.c (.int .i64 0))⟩, ⟨some 22, none, .pick (.t 16) (.c (.bool true)) (.t 21)⟩, ⟨some 23, none, .mv (.p 22)⟩, ⟨some 24, some (23, false), .faddr 1 (.t 5)⟩, ⟨some 25, some (23, false), .load false 1 (.a 24 5)⟩, ⟨some 26, some (23, false), .len (.a 25 5)⟩, ⟨some 27, some (23, false), .bin .eql (.t 26) (.c (.int .i64 0))⟩, ⟨some 28, none, .pick (.t 23) (.c (.bool true)) (.t 27)⟩, ⟨some 29, none, .mv (.p 28)⟩, ⟨some 30, some (29, false), .faddr 1 (.t 5)⟩, ⟨some 31, some (29, false), .load false 1 (.a 30 5)⟩, ⟨some 32, some (29, false), .faddr 2 (.t 4)⟩, ⟨some 33, some (29, false), .load false 1 (.a 32 4)⟩, ⟨some 34, some (29, false), .len (.a 33 4)⟩, ⟨some 35, some (29, false), .bin .sub (.t 34) (.c (.int .i64 1))⟩, ⟨some 36, some (29, false), .call n_spec_l1Rising [.a 31 5, .c (.int .i64 0), .t 35]⟩, ⟨some 37, some (29, false), .un .not (.t 36)⟩, ⟨some 38, none, .pick (.t 29) (.c (.bool true)) (.t 37)⟩])
 (.cond (.t 38) (.seq (.reg [⟨some 6, none, .asg (.c (.bool false))⟩])
 .ret) .skip))
 (.seq (.reg [⟨some 39, none, .load true 3 (.t 4)⟩, ⟨some 40, none, .faddr 0 (.t 5)⟩, ⟨some 41, none, .load false 1 (.a 40 5)⟩, ⟨some 42, none, .call n_spec_sOwner [.a 39 4, .a 41 5]⟩, ⟨some 7, none, .asg (.p 42)⟩])
 (.seq (.seq (.reg [⟨some 43, none, .faddr 1 (.t 5)⟩, ⟨some 44, none, .load false 1 (.a 43 5)⟩, ⟨some 45, none, .len (.a 44 5)⟩, ⟨some 46, none, .mv (.c (.int .i64 0))⟩])
 (.block 0 (.loop [3, 4, 5, 7, 44, 45, 46] [4, 5, 6, 7] b_spec_aGood_0)))
 (.seq (.reg [⟨some 68, none, .faddr 2 (.t 5)⟩, ⟨some 69, none, .load false 1 (.a 68 5)⟩, ⟨some 70, none, .load true 3 (.t 4)⟩, ⟨some 71, none, .faddr 0 (.t 5)⟩, ⟨some 72, none, .load false 1 (.a 71 5)⟩, ⟨some 73, none, .mv (.p 7)⟩, ⟨some 74, none, .call n_spec_sAt [.a 70 4, .a 72 5, .t 73]⟩, ⟨some 75, none, .call n_spec_l1Same [.a 69 5, .t 74]⟩, ⟨some 6, none, .asg (.p 75)⟩])
 .ret)))))⟩
def b_spec_aDefence_0 : AC := (.seq (.reg [⟨some 14, none, .bin .lss (.t 13) (.t 12)⟩])
 (.seq (.cond (.t 14) .skip (.exit 0))
 (.seq (.block 1 (.seq (.reg [⟨some 15, none, .iaddr 1 (.a 11 5) (.t 13)⟩, ⟨some 16, none, .load false 1 (.a 15 5)⟩, ⟨some 9, none, .asg (.p 16)⟩])
 (.reg [⟨some 17, none, .mv (.p 7)⟩, ⟨some 18, none, .load true 12 (.t 3)⟩, ⟨some 19, none, .load true 3 (.t 4)⟩, ⟨some 20, none, .mv (.p 9)⟩, ⟨some 21, none, .call n_spec_aForce [.a 18 3, .a 19 4, .t 20]⟩, ⟨some 22, none, .bin .add (.t 17) (.t 21)⟩, ⟨some 7, none, .asg (.p 22)⟩])))
 (.reg [⟨some 23, none, .bin .add (.t 13) (.c (.int .i64 1))⟩, ⟨some 13, none, .mv (.p 23)⟩]))))
/-- spec.aDefence -/
def a_spec_aDefence : AFn := ⟨3, 25, [.tmp 6], (.seq (.reg [⟨some 3, none, .box (.t 0)⟩, ⟨some 4, none, .box (.t 1)⟩, ⟨some 5, none, .box (.t 2)⟩, ⟨some 6, none, .asg (.c (.int .i64 0))⟩])
 (.seq (.reg [⟨some 7, none, .asg (.c (.int .i64 0))⟩])
 (.seq (.seq (.reg [⟨some 10, none, .faddr 2 (.t 5)⟩, ⟨some 11, none, .load false 1 (.a 10 5)⟩, ⟨some 12, none, .len (.a 11 5)⟩, ⟨some 13, none, .mv (.c (.int .i64 0))⟩])
 (.block 0 (.loop [3, 4, 5, 7, 11, 12, 13] [6, 7] b_spec_aDefence_0)))
 (.seq (.reg [⟨some 24, none, .mv (.p 7)⟩, ⟨some 6, none, .asg (.p 24)⟩])
 .ret))))⟩
def b_laws_toIntS_0 : AC := (.seq (.seq (.reg [⟨some 8, none, .mv (.p 4)⟩, ⟨some 9, none, .rf (.t 0)⟩, ⟨some 10, none, .len (.a 9 0)⟩, ⟨some 11, none, .bin .lss (.t 8) (.t 10)⟩])
 (.cond (.t 11) .skip (.exit 0)))
 (.seq (.block 1 (.reg [⟨some 14, none, .rf (.t 3)⟩, ⟨some 15, none, .mv (.p 4)⟩, ⟨some 16, none, .rf (.t 0)⟩, ⟨some 17, none, .mv (.p 4)⟩, ⟨some 18, none, .iaddr 1 (.a 16 0) (.t 17)⟩, ⟨some 19, none, .load false 1 (.a 18 0)⟩, ⟨some 20, none, .iaddr 1 (.a 14 3) (.t 15)⟩, ⟨none, none, .store 1 (.a 20 3) (.p 19)⟩]))
 (.reg [⟨some 12, none, .mv (.p 4)⟩, ⟨some 13, none, .bin .add (.t 12) (.c (.int .i64 1))⟩, ⟨some 4, none, .asg (.p 13)⟩])))
/-- laws.toIntS -/
def a_laws_toIntS : AFn := ⟨1, 22, [.tmp 2], (.seq (.reg [⟨some 2, none, .asg (.c (.list true 1 []))⟩])
 (.seq (.reg [⟨some 5, none, .rf (.t 0)⟩, ⟨some 6, none, .len (.a 5 0)⟩, ⟨some 7, none, .mslice 1 [.int .i64 0] (.t 6)⟩, ⟨some 3, none, .asg (.t 7)⟩])
 (.seq (.seq (.reg [⟨some 4, none, .asg (.c (.int .i64 0))⟩])
 (.block 0 (.loop [0, 3, 4] [2, 3] b_laws_toIntS_0)))
 (.seq (.reg [⟨some 21, none, .rf (.t 3)⟩, ⟨some 2, none, .asg (.a 21 3)⟩])
 .ret))))⟩
/-- impl.hasBattle -/
def a_impl_hasBattle : AFn := ⟨3, 16, [.tmp 6], (.seq (.reg [⟨some 3, none, .box (.t 0)⟩, ⟨some 4, none, .box (.t 1)⟩, ⟨some 5, none, .box (.t 2)⟩, ⟨some 6, none, .asg (.c (.bool false))⟩])
 (.seq (.reg [⟨some 7, none, .load true 12 (.t 3)⟩, ⟨some 8, none, .load true 3 (.t 4)⟩, ⟨some 9, none, .call n_impl_fits [.a 7 3, .a 8 4]⟩, ⟨some 10, none, .mv (.p 9)⟩, ⟨some 11, some (10, true), .load true 12 (.t 3)⟩, ⟨some 12, some (10, true), .load true 3 (.t 4)⟩, ⟨some 13, some (10, true), .load true 3 (.t 5)⟩, ⟨some 14, some (10, true), .call n_impl_goodBattle [.a 11 3, .a 12 4, .a 13 5]⟩, ⟨some 15, none, .pick (.t 10) (.t 14) (.c (.bool false))⟩, ⟨some 6, none, .asg (.p 15)⟩])
 .ret))⟩
def b_impl_defenceStrength_0 : AC := (.seq (.reg [⟨some 14, none, .bin .lss (.t 13) (.t 12)⟩])
 (.seq (.cond (.t 14) .skip (.exit 0))
 (.seq (.block 1 (.seq (.reg [⟨some 15, none, .iaddr 1 (.a 11 5) (.t 13)⟩, ⟨some 16, none, .load false 1 (.a 15 5)⟩, ⟨some 9, none, .asg (.p 16)⟩])
 (.reg [⟨some 17, none, .mv (.p 7)⟩, ⟨some 18, none, .load true 12 (.t 3)⟩, ⟨some 19, none, .faddr 2 (.t 4)⟩, ⟨some 20, none, .load false 1 (.a 19 4)⟩, ⟨some 21, none, .mv (.p 9)⟩, ⟨some 22, none, .iaddr 4 (.a 20 4) (.t 21)⟩, ⟨some 23, none, .load true 4 (.a 22 4)⟩, ⟨some 24, none, .call n_impl_forceOf [.a 18 3, .a 23 4]⟩, ⟨some 25, none, .bin .add (.t 17) (.t 24)⟩, ⟨some 7, none, .asg (.p 25)⟩])))
 (.reg [⟨some 26, none, .bin .add (.t 13) (.c (.int .i64 1))⟩, ⟨some 13, none, .mv (.p 26)⟩]))))
/-- impl.defenceStrength -/
def a_impl_defenceStrength : AFn := ⟨3, 28, [.tmp 6], (.seq (.reg [⟨some 3, none, .box (.t 0)⟩, ⟨some 4, none, .box (.t 1)⟩, ⟨some 5, none, .box (.t 2)⟩, ⟨some 6, none, .asg (.c (.int .i64 0))⟩])
 (.seq (.reg [⟨some 7, none, .asg (.c (.int .i64 0))⟩])
 (.seq (.seq (.reg [⟨some 10, none, .faddr 2 (.t 5)⟩, ⟨some 11, none, .load false 1 (.a 10 5)⟩, ⟨some 12, none, .len (.a 11 5)⟩, ⟨some 13, none, .mv (.c (.int .i64 0))⟩])
 (.block 0 (.loop [3, 4, 5, 7, 11, 12, 13] [6, 7] b_impl_defenceStrength_0)))
 (.seq (.reg [⟨some 27, none, .mv (.p 7)⟩, ⟨some 6, none, .asg (.p 27)⟩])
 .ret))))⟩
def b_spec_aShift_0 : AC := (.seq (.reg [⟨some 21, none, .bin .lss (.t 20) (.t 19)⟩])
 (.seq (.cond (.t 21) .skip (.exit 0))
 (.seq (.block 1 (.seq (.reg [⟨some 22, none, .iaddr 1 (.a 18 5) (.t 20)⟩, ⟨some 23, none, .load false 1 (.a 22 5)⟩, ⟨some 10, none, .asg (.p 23)⟩])
 (.reg [⟨some 24, none, .rf (.t 8)⟩, ⟨some 25, none, .load true 12 (.t 3)⟩, ⟨some 26, none, .load true 3 (.t 4)⟩, ⟨some 27, none, .faddr 0 (.t 5)⟩, ⟨some 28, none, .load false 1 (.a 27 5)⟩, ⟨some 29, none, .mv (.p 10)⟩, ⟨some 30, none, .call n_spec_aSide [.a 25 3, .a 26 4, .a 28 5, .t 29]⟩, ⟨some 31, none, .bslice 1 1 [.int .i64 0] [(0, .p 30)]⟩, ⟨some 32, none, .append 1 (.a 24 8) (.t 31)⟩, ⟨some 8, none, .asg (.t 32)⟩])))
 (.reg [⟨some 33, none, .bin .add (.t 20) (.c (.int .i64 1))⟩, ⟨some 20, none, .mv (.p 33)⟩]))))
/-- spec.aShift -/
def a_spec_aShift : AFn := ⟨3, 64, [.tmp 6], (.seq (.reg [⟨some 3, none, .box (.t 0)⟩, ⟨some 4, none, .box (.t 1)⟩, ⟨some 5, none, .box (.t 2)⟩, ⟨some 6, none, .asg (.c (.int .i64 0))⟩])
 (.seq (.reg [⟨some 11, none, .load true 12 (.t 3)⟩, ⟨some 12, none, .faddr 0 (.t 5)⟩, ⟨some 13, none, .load false 1 (.a 12 5)⟩, ⟨some 14, none, .call n_spec_bTerrain [.a 11 3, .a 13 5]⟩, ⟨some 15, none, .field false 2 1 (.t 14)⟩, ⟨some 16, none, .un .neg (.t 15)⟩, ⟨some 7, none, .asg (.p 16)⟩])
 (.seq (.reg [⟨some 8, none, .asg (.c (.list true 1 []))⟩])
 (.seq (.seq (.reg [⟨some 17, none, .faddr 1 (.t 5)⟩, ⟨some 18, none, .load false 1 (.a 17 5)⟩, ⟨some 19, none, .len (.a 18 5)⟩, ⟨some 20, none, .mv (.c (.int .i64 0))⟩])
 (.block 0 (.loop [3, 4, 5, 7, 8, 18, 19, 20] [4, 6, 7, 8] b_spec_aShift_0)))
 (.seq (.seq (.reg [⟨some 34, none, .rf (.t 8)⟩, ⟨some 35, none, .call n_spec_l1Has [.a 34 8, .c (.int .i64 0)]⟩, ⟨some 36, none, .mv (.p 35)⟩, ⟨some 37, some (36, true), .rf (.t 8)⟩, ⟨some 38, some (36, true), .call n_spec_l1Has [.a 37 8, .c (.int .i64 3)]⟩, ⟨some 39, none, .pick (.t 36) (.t 38) (.c (.bool false))⟩, ⟨some 40, none, .mv (.p 39)⟩, ⟨some 41, some (40, false), .rf (.t 8)⟩, ⟨some 42, some (40, false), .call n_spec_l1Has [.a 41 8, .c (.int .i64 1)]⟩, ⟨some 43, some (40, false), .mv (.p 42)⟩, ⟨some 44, some (43, true), .rf (.t 8)⟩, ⟨some 45, some (43, true), .call n_spec_l1Has [.a 44 8, .c (.int .i64 4)]⟩, ⟨some 46, some (40, false), .pick (.t 43) (.t 45) (.c (.bool false))⟩, ⟨some 47, none, .pick (.t 40) (.c (.bool true)) (.t 46)⟩, ⟨some 48, none, .mv (.p 47)⟩, ⟨some 49, some (48, false), .rf (.t 8)⟩, ⟨some 50, some (48, false), .call n_spec_l1Has [.a 49 8, .c (.int .i64 2)]⟩, ⟨some 51, some (48, false), .mv (.p 50)⟩, ⟨some 52, some (51, true), .rf (.t 8)⟩, ⟨some 53, some (51, true), .call n_spec_l1Has [.a 52 8, .c (.int .i64 5)]⟩, ⟨some 54, some (48, false), .pick (.t 51) (.t 53) (.c (.bool false))⟩, ⟨some 55, none, .pick (.t 48) (.c (.bool true)) (.t 54)⟩])
 (.cond (.t 55) (.reg [⟨some 56, none, .mv (.p 7)⟩, ⟨some 57, none, .bin .add (.t 56) (.c (.int .i64 1))⟩, ⟨some 7, none, .asg (.p 57)⟩]) .skip))
 (.seq (.seq (.reg [⟨some 58, none, .faddr 1 (.t 4)⟩, ⟨some 59, none, .load false 1 (.a 58 4)⟩, ⟨some 60, none, .bin .eql (.a 59 4) (.c (.int .i64 2))⟩])
 (.cond (.t 60) (.reg [⟨some 61, none, .mv (.p 7)⟩, ⟨some 62, none, .bin .sub (.t 61) (.c (.int .i64 1))⟩, ⟨some 7, none, .asg (.p 62)⟩]) .skip))
 (.seq (.reg [⟨some 63, none, .mv (.p 7)⟩, ⟨some 6, none, .asg (.p 63)⟩])
 .ret)))))))⟩
def b_impl_battleShift_0 : AC := (.seq (.reg [⟨some 23, none, .bin .lss (.t 22) (.t 21)⟩])
 (.seq (.cond (.t 23) .skip (.exit 0))
 (.seq (.block 1 (.seq (.reg [⟨some 24, none, .iaddr 1 (.a 20 5) (.t 22)⟩, ⟨some 25, none, .load false 1 (.a 24 5)⟩, ⟨some 10, none, .asg (.p 25)⟩])
 (.reg [⟨some 26, none, .faddr 7 (.t 3)⟩, ⟨some 27, none, .load true 5 (.a 26 3)⟩, ⟨some 28, none, .faddr 0 (.t 5)⟩, ⟨some 29, none, .load false 1 (.a 28 5)⟩, ⟨some 30, none, .faddr 2 (.t 4)⟩, ⟨some 31, none, .load false 1 (.a 30 4)⟩, ⟨some 32, none, .mv (.p 10)⟩, ⟨some 33, none, .iaddr 4 (.a 31 4) (.t 32)⟩, ⟨some 34, none, .faddr 2 (.a 33 4)⟩, ⟨some 35, none, .load false 1 (.a 34 4)⟩, ⟨some 36, none, .call n_impl_directionOn [.a 27 3, .a 29 5, .a 35 4]⟩, ⟨some 37, none, .aaddr 6 1 (.t 8) (.t 36)⟩, ⟨none, none, .store 1 (.a 37 8) (.c (.bool true))⟩])))
 (.reg [⟨some 38, none, .bin .add (.t 22) (.c (.int .i64 1))⟩, ⟨some 22, none, .mv (.p 38)⟩]))))
def b_impl_battleShift_1 : AC := (.seq (.reg [⟨some 40, none, .bin .lss (.t 39) (.c (.int .i64 3))⟩])
 (.seq (.cond (.t 40) .skip (.exit 2))
 (.seq (.block 3 (.seq (.reg [⟨some 41, none, .mv (.p 39)⟩, ⟨some 11, none, .asg (.p 41)⟩])
 (.seq (.reg [⟨some 42, none, .mv (.p 11)⟩, ⟨some 43, none, .aaddr 6 1 (.t 8) (.t 42)⟩, ⟨some 44, none, .load false 1 (.a 43 8)⟩, ⟨some 45, none, .mv (.p 44)⟩, ⟨some 46, some (45, true), .mv (.p 11)⟩, ⟨some 47, some (45, true), .bin .add (.t 46) (.c (.int .i64 3))⟩, ⟨some 48, some (45, true), .aaddr 6 1 (.t 8) (.t 47)⟩, ⟨some 49, some (45, true), .load false 1 (.a 48 8)⟩, ⟨some 50, none, .pick (.t 45) (.a 49 8) (.c (.bool false))⟩])
 (.cond (.t 50) (.seq (.reg [⟨some 51, none, .mv (.p 7)⟩, ⟨some 52, none, .bin .add (.t 51) (.c (.int .i64 1))⟩, ⟨some 7, none, .asg (.p 52)⟩])
 (.exit 2)) .skip))))
 (.reg [⟨some 53, none, .bin .add (.t 39) (.c (.int .i64 1))⟩, ⟨some 39, none, .mv (.p 53)⟩]))))
/-- impl.battleShift -/
def a_impl_battleShift : AFn := ⟨3, 60, [.tmp 6], (.seq (.reg [⟨some 3, none, .box (.t 0)⟩, ⟨some 4, none, .box (.t 1)⟩, ⟨some 5, none, .box (.t 2)⟩, ⟨some 6, none, .asg (.c (.int .i64 0))⟩])
 (.seq (.reg [⟨some 12, none, .load true 12 (.t 3)⟩, ⟨some 13, none, .faddr 0 (.t 5)⟩, ⟨some 14, none, .load false 1 (.a 13 5)⟩, ⟨some 15, none, .call n_impl_terrainAt [.a 12 3, .a 14 5]⟩, ⟨some 16, none, .field false 2 1 (.t 15)⟩, ⟨some 17, none, .un .neg (.t 16)⟩, ⟨some 18, none, .build [.bool false, .bool false, .bool false, .bool false, .bool false, .bool false] []⟩, ⟨some 8, none, .alloc [.bool false, .bool false, .bool false, .bool false, .bool false, .bool false]⟩, ⟨some 7, none, .asg (.p 17)⟩, ⟨none, none, .store 6 (.t 8) (.t 18)⟩])
 (.seq (.seq (.reg [⟨some 19, none, .faddr 1 (.t 5)⟩, ⟨some 20, none, .load false 1 (.a 19 5)⟩, ⟨some 21, none, .len (.a 20 5)⟩, ⟨some 22, none, .mv (.c (.int .i64 0))⟩])
 (.block 0 (.loop [3, 4, 5, 7, 8, 20, 21, 22] [4, 6, 7, 8] b_impl_battleShift_0)))
 (.seq (.seq (.reg [⟨some 39, none, .mv (.c (.int .i64 0))⟩])
 (.block 2 (.loop [4, 7, 8, 39] [4, 6, 7] b_impl_battleShift_1)))
 (.seq (.seq (.reg [⟨some 54, none, .faddr 1 (.t 4)⟩, ⟨some 55, none, .load false 1 (.a 54 4)⟩, ⟨some 56, none, .bin .eql (.a 55 4) (.c (.int .i64 2))⟩])
 (.cond (.t 56) (.reg [⟨some 57, none, .mv (.p 7)⟩, ⟨some 58, none, .bin .sub (.t 57) (.c (.int .i64 1))⟩, ⟨some 7, none, .asg (.p 58)⟩]) .skip))
 (.seq (.reg [⟨some 59, none, .mv (.p 7)⟩, ⟨some 6, none, .asg (.p 59)⟩])
 .ret))))))⟩
def b_spec_sGood_0 : AC := (.seq (.reg [⟨some 37, none, .bin .lss (.t 36) (.t 35)⟩])
 (.seq (.cond (.t 37) .skip (.exit 0))
 (.seq (.block 1 (.seq (.reg [⟨some 38, none, .iaddr 4 (.a 34 3) (.t 36)⟩, ⟨some 39, none, .load true 4 (.a 38 3)⟩, ⟨some 6, none, .alloc [.int .i64 0, .int .i64 0, .int .i64 0, .int .i64 0]⟩, ⟨none, none, .store 4 (.t 6) (.a 39 3)⟩])
 (.seq (.reg [⟨some 40, none, .load true 12 (.t 2)⟩, ⟨some 41, none, .load true 4 (.t 6)⟩, ⟨some 42, none, .call n_spec_sUnit [.a 40 2, .a 41 6]⟩, ⟨some 43, none, .un .not (.t 42)⟩])
 (.cond (.t 43) (.seq (.reg [⟨some 4, none, .asg (.c (.bool false))⟩])
 .ret) .skip))))
 (.reg [⟨some 44, none, .bin .add (.t 36) (.c (.int .i64 1))⟩, ⟨some 36, none, .mv (.p 44)⟩]))))
def b_spec_sGood_1 : AC := (.seq (.reg [⟨some 49, none, .bin .lss (.t 48) (.t 47)⟩])
 (.seq (.cond (.t 49) .skip (.exit 2))
 (.seq (.block 3 (.seq (.reg [⟨some 50, none, .iaddr 4 (.a 46 3) (.t 48)⟩, ⟨some 51, none, .load true 4 (.a 50 3)⟩, ⟨some 8, none, .alloc [.int .i64 0, .int .i64 0, .int .i64 0, .int .i64 0]⟩, ⟨none, none, .store 4 (.t 8) (.a 51 3)⟩])
 (.seq (.reg [⟨some 52, none, .faddr 2 (.t 8)⟩, ⟨some 53, none, .load false 1 (.a 52 8)⟩, ⟨some 54, none, .bin .geq (.a 53 8) (.c (.int .i64 0))⟩, ⟨some 55, none, .mv (.p 54)⟩, ⟨some 56, some (55, true), .load true 3 (.t 3)⟩, ⟨some 57, some (55, true), .faddr 2 (.t 8)⟩, ⟨some 58, some (55, true), .load false 1 (.a 57 8)⟩, ⟨some 59, some (55, true), .faddr 0 (.t 8)⟩, ⟨some 60, some (55, true), .load false 1 (.a 59 8)⟩, ⟨some 61, some (55, true), .bin .sub (.c (.int .i64 1)) (.a 60 8)⟩, ⟨some 62, some (55, true), .call n_spec_sAt [.a 56 3, .a 58 8, .t 61]⟩, ⟨some 63, some (55, true), .len (.t 62)⟩, ⟨some 64, some (55, true), .bin .gtr (.t 63) (.c (.int .i64 0))⟩, ⟨some 65, some (55, true), .mv (.p 64)⟩, ⟨some 66, some (65, false), .load true 3 (.t 3)⟩, ⟨some 67, some (65, false), .faddr 2 (.t 8)⟩, ⟨some 68, some (65, false), .load false 1 (.a 67 8)⟩, ⟨some 69, some (65, false), .faddr 0 (.t 8)⟩, ⟨some 70, some (65, false), .load false 1 (.a 69 8)⟩, ⟨some 71, some (65, false), .call n_spec_sAt [.a 66 3, .a 68 8, .a 70 8]⟩, ⟨some 72, some (65, false), .len (.t 71)⟩, ⟨some 73, some (65, false), .faddr 0 (.t 2)⟩, ⟨some 74, some (65, false), .faddr 2 (.a 73 2)⟩, ⟨some 75, some (65, false), .load false 1 (.a 74 2)⟩, ⟨some 76, some (65, false), .bin .gtr (.t 72) (.a 75 2)⟩, ⟨some 77, some (55, true), .pick (.t 65) (.c (.bool true)) (.t 76)⟩, ⟨some 78, none, .pick (.t 55) (.t 77) (.c (.bool false))⟩])
 (.cond (.t 78) (.seq (.reg [⟨some 4, none, .asg (.c (.bool false))⟩])
 .ret) .skip))))
 (.reg [⟨some 79, none, .bin .add (.t 48) (.c (.int .i64 1))⟩, ⟨some 48, none, .mv (.p 79)⟩]))))
/-- spec.sGood -/
def a_spec_sGood : AFn := ⟨2, 80, [.tmp 4], (.seq (.reg [⟨some 2, none, .box (.t 0)⟩, ⟨some 3, none, .box (.t 1)⟩, ⟨some 4, none, .asg (.c (.bool false))⟩])
 (.seq (.seq (.reg [⟨some 9, none, .load true 12 (.t 2)⟩, ⟨some 10, none, .call n_spec_bGood [.a 9 2]⟩, ⟨some 11, none, .un .not (.t 10)⟩, ⟨some 12, none, .mv (.p 11)⟩, ⟨some 13, some (12, false), .faddr 0 (.t 3)⟩, ⟨some 14, some (12, false), .load false 1 (.a 13 3)⟩, ⟨some 15, some (12, false), .faddr 0 (.t 2)⟩, ⟨some 16, some (12, false), .faddr 6 (.a 15 2)⟩, ⟨some 17, some (12, false), .load false 1 (.a 16 2)⟩, ⟨some 18, some (12, false), .call n_spec_l1In [.a 14 3, .c (.int .i64 0), .a 17 2]⟩, ⟨some 19, some (12, false), .un .not (.t 18)⟩, ⟨some 20, none, .pick (.t 12) (.c (.bool true)) (.t 19)⟩, ⟨some 21, none, .mv (.p 20)⟩, ⟨some 22, some (21, false), .faddr 1 (.t 3)⟩, ⟨some 23, some (21, false), .load false 1 (.a 22 3)⟩, ⟨some 24, some (21, false), .call n_spec_l1In [.a 23 3, .c (.int .i64 0), .c (.int .i64 2)]⟩, ⟨some 25, some (21, false), .un .not (.t 24)⟩, ⟨some 26, none, .pick (.t 21) (.c (.bool true)) (.t 25)⟩, ⟨some 27, none, .mv (.p 26)⟩, ⟨some 28, some (27, false), .faddr 2 (.t 3)⟩, ⟨some 29, some (27, false), .load false 1 (.a 28 3)⟩, ⟨some 30, some (27, false), .len (.a 29 3)⟩, ⟨some 31, some (27, false), .bin .gtr (.t 30) (.c (.int .i64 12))⟩, ⟨some 32, none, .pick (.t 27) (.c (.bool true)) (.t 31)⟩])
 (.cond (.t 32) (.seq (.reg [⟨some 4, none, .asg (.c (.bool false))⟩])
 .ret) .skip))
 (.seq (.seq (.reg [⟨some 33, none, .faddr 2 (.t 3)⟩, ⟨some 34, none, .load false 1 (.a 33 3)⟩, ⟨some 35, none, .len (.a 34 3)⟩, ⟨some 36, none, .mv (.c (.int .i64 0))⟩])
 (.block 0 (.loop [2, 3, 34, 35, 36] [2, 3, 4] b_spec_sGood_0)))
 (.seq (.seq (.reg [⟨some 45, none, .faddr 2 (.t 3)⟩, ⟨some 46, none, .load false 1 (.a 45 3)⟩, ⟨some 47, none, .len (.a 46 3)⟩, ⟨some 48, none, .mv (.c (.int .i64 0))⟩])
 (.block 2 (.loop [2, 3, 46, 47, 48] [4] b_spec_sGood_1)))
 (.seq (.reg [⟨some 4, none, .asg (.c (.bool true))⟩])
 .ret)))))⟩
def b_spec_fGood_0 : AC := (.seq (.reg [⟨some 12, none, .bin .lss (.t 11) (.t 10)⟩])
 (.seq (.cond (.t 12) .skip (.exit 0))
 (.seq (.block 1 (.seq (.reg [⟨some 13, none, .mv (.p 11)⟩, ⟨some 14, none, .iaddr 3 (.a 9 2) (.t 11)⟩, ⟨some 15, none, .load true 3 (.a 14 2)⟩, ⟨some 8, none, .alloc [.int .i64 0, .int .i64 0, .int .i64 0]⟩, ⟨some 7, none, .asg (.p 13)⟩, ⟨none, none, .store 3 (.t 8) (.a 15 2)⟩])
 (.seq (.reg [⟨some 16, none, .load true 12 (.t 3)⟩, ⟨some 17, none, .load true 3 (.t 4)⟩, ⟨some 18, none, .load true 3 (.t 8)⟩, ⟨some 19, none, .call n_spec_fTry [.a 16 3, .a 17 4, .a 18 8]⟩, ⟨some 20, none, .un .not (.t 19)⟩, ⟨some 21, none, .mv (.p 20)⟩, ⟨some 22, some (21, false), .mv (.p 7)⟩, ⟨some 23, some (21, false), .bin .gtr (.t 22) (.c (.int .i64 0))⟩, ⟨some 24, some (21, false), .mv (.p 23)⟩, ⟨some 25, some (24, true), .rf (.t 2)⟩, ⟨some 26, some (24, true), .mv (.p 7)⟩, ⟨some 27, some (24, true), .bin .sub (.t 26) (.c (.int .i64 1))⟩, ⟨some 28, some (24, true), .iaddr 3 (.a 25 2) (.t 27)⟩, ⟨some 29, some (24, true), .faddr 0 (.a 28 2)⟩, ⟨some 30, some (24, true), .load false 1 (.a 29 2)⟩, ⟨some 31, some (24, true), .faddr 0 (.t 8)⟩, ⟨some 32, some (24, true), .load false 1 (.a 31 8)⟩, ⟨some 33, some (24, true), .bin .geq (.a 30 2) (.a 32 8)⟩, ⟨some 34, some (21, false), .pick (.t 24) (.t 33) (.c (.bool false))⟩, ⟨some 35, none, .pick (.t 21) (.c (.bool true)) (.t 34)⟩])
 (.cond (.t 35) (.seq (.reg [⟨some 6, none, .asg (.c (.bool false))⟩])
 .ret) .skip))))
 (.reg [⟨some 36, none, .bin .add (.t 11) (.c (.int .i64 1))⟩, ⟨some 11, none, .mv (.p 36)⟩]))))
/-- spec.fGood -/
def a_spec_fGood : AFn := ⟨3, 37, [.tmp 6], (.seq (.reg [⟨some 3, none, .box (.t 0)⟩, ⟨some 4, none, .box (.t 1)⟩, ⟨some 6, none, .asg (.c (.bool false))⟩])
 (.seq (.seq (.reg [⟨some 9, none, .rf (.t 2)⟩, ⟨some 10, none, .len (.a 9 2)⟩, ⟨some 11, none, .mv (.c (.int .i64 0))⟩])
 (.block 0 (.loop [2, 3, 4, 9, 10, 11] [6] b_spec_fGood_0)))
 (.seq (.reg [⟨some 6, none, .asg (.c (.bool true))⟩])
 .ret)))⟩
/-- laws.toAttempt -/
def a_laws_toAttempt : AFn := ⟨1, 14, [.cell 2 3 true], (.seq (.reg [⟨some 1, none, .box (.t 0)⟩, ⟨some 2, none, .alloc [.int .i64 0, .int .i64 0, .int .i64 0]⟩])
 (.seq (.reg [⟨some 3, none, .alloc [.int .i64 0, .int .i64 0, .int .i64 0]⟩])
 (.seq (.reg [⟨some 4, none, .faddr 0 (.t 1)⟩, ⟨some 5, none, .load false 1 (.a 4 1)⟩, ⟨some 6, none, .faddr 0 (.t 3)⟩, ⟨none, none, .store 1 (.a 6 3) (.p 5)⟩])
 (.seq (.reg [⟨some 7, none, .faddr 1 (.t 1)⟩, ⟨some 8, none, .load false 1 (.a 7 1)⟩, ⟨some 9, none, .faddr 1 (.t 3)⟩, ⟨none, none, .store 1 (.a 9 3) (.p 8)⟩])
 (.seq (.reg [⟨some 10, none, .faddr 2 (.t 1)⟩, ⟨some 11, none, .load false 1 (.a 10 1)⟩, ⟨some 12, none, .faddr 2 (.t 3)⟩, ⟨none, none, .store 1 (.a 12 3) (.p 11)⟩])
 (.seq (.reg [⟨some 13, none, .load true 3 (.t 3)⟩, ⟨none, none, .store 3 (.t 2) (.a 13 3)⟩])
 .ret))))))⟩
/-- impl.fits -/
def a_impl_fits : AFn := ⟨2, 12, [.tmp 4], (.seq (.reg [⟨some 2, none, .box (.t 0)⟩, ⟨some 3, none, .box (.t 1)⟩, ⟨some 4, none, .asg (.c (.bool false))⟩])
 (.seq (.reg [⟨some 5, none, .load true 12 (.t 2)⟩, ⟨some 6, none, .call n_impl_IsBoard [.a 5 2]⟩, ⟨some 7, none, .mv (.p 6)⟩, ⟨some 8, some (7, true), .load true 12 (.t 2)⟩, ⟨some 9, some (7, true), .load true 3 (.t 3)⟩, ⟨some 10, some (7, true), .call n_impl_goodState [.a 8 2, .a 9 3]⟩, ⟨some 11, none, .pick (.t 7) (.t 10) (.c (.bool false))⟩, ⟨some 4, none, .asg (.p 11)⟩])
 .ret))⟩
def b_impl_goodAttempts_0 : AC := (.seq (.reg [⟨some 14, none, .bin .lss (.t 13) (.t 12)⟩])
 (.seq (.cond (.t 14) .skip (.exit 0))
 (.seq (.block 1 (.seq (.reg [⟨some 15, none, .mv (.p 13)⟩, ⟨some 16, none, .iaddr 3 (.a 11 2) (.t 13)⟩, ⟨some 17, none, .load true 3 (.a 16 2)⟩, ⟨some 8, none, .alloc [.int .i64 0, .int .i64 0, .int .i64 0]⟩, ⟨some 7, none, .asg (.p 15)⟩, ⟨none, none, .store 3 (.t 8) (.a 17 2)⟩])
 (.seq (.seq (.reg [⟨some 18, none, .mv (.p 7)⟩, ⟨some 19, none, .bin .gtr (.t 18) (.c (.int .i64 0))⟩, ⟨some 20, none, .mv (.p 19)⟩, ⟨some 21, some (20, true), .rf (.t 2)⟩, ⟨some 22, some (20, true), .mv (.p 7)⟩, ⟨some 23, some (20, true), .bin .sub (.t 22) (.c (.int .i64 1))⟩, ⟨some 24, some (20, true), .iaddr 3 (.a 21 2) (.t 23)⟩, ⟨some 25, some (20, true), .faddr 0 (.a 24 2)⟩, ⟨some 26, some (20, true), .load false 1 (.a 25 2)⟩, ⟨some 27, some (20, true), .faddr 0 (.t 8)⟩, ⟨some 28, some (20, true), .load false 1 (.a 27 8)⟩, ⟨some 29, some (20, true), .bin .geq (.a 26 2) (.a 28 8)⟩, ⟨some 30, none, .pick (.t 20) (.t 29) (.c (.bool false))⟩, ⟨some 31, none, .mv (.p 30)⟩, ⟨some 32, some (31, false), .faddr 0 (.t 8)⟩, ⟨some 33, some (31, false), .load false 1 (.a 32 8)⟩, ⟨some 34, some (31, false), .faddr 2 (.t 4)⟩, ⟨some 35, some (31, false), .load false 1 (.a 34 4)⟩, ⟨some 36, some (31, false), .len (.a 35 4)⟩, ⟨some 37, some (31, false), .call n_impl_isIndex [.a 33 8, .t 36]⟩, ⟨some 38, some (31, false), .un .not (.t 37)⟩, ⟨some 39, none, .pick (.t 31) (.c (.bool true)) (.t 38)⟩, ⟨some 40, none, .mv (.p 39)⟩, ⟨some 41, some (40, false), .faddr 1 (.t 8)⟩, ⟨some 42, some (40, false), .load false 1 (.a 41 8)⟩, ⟨some 43, some (40, false), .load true 12 (.t 3)⟩, ⟨some 44, some (40, false), .call n_impl_sizeOf [.a 43 3]⟩, ⟨some 45, some (40, false), .call n_impl_isIndex [.a 42 8, .t 44]⟩, ⟨some 46, some (40, false), .un .not (.t 45)⟩, ⟨some 47, none, .pick (.t 40) (.c (.bool true)) (.t 46)⟩, ⟨some 48, none, .mv (.p 47)⟩, ⟨some 49, some (48, false), .faddr 2 (.t 8)⟩, ⟨some 50, some (48, false), .load false 1 (.a 49 8)⟩, ⟨some 51, some (48, false), .load true 12 (.t 3)⟩, ⟨some 52, some (48, false), .call n_impl_sizeOf [.a 51 3]⟩, ⟨some 53, some (48, false), .call n_impl_isIndex [.a 50 8, .t 52]⟩, ⟨some 54, some (48, false), .un .not (.t 53)⟩, ⟨some 55, none, .pick (.t 48) (.c (.bool true)) (.t 54)⟩])
 (.cond (.t 55) (.seq (.reg [⟨some 6, none, .asg (.c (.bool false))⟩])
 .ret) .skip))
 (.seq (.reg [⟨some 56, none, .faddr 2 (.t 4)⟩, ⟨some 57, none, .load false 1 (.a 56 4)⟩, ⟨some 58, none, .faddr 0 (.t 8)⟩, ⟨some 59, none, .load false 1 (.a 58 8)⟩, ⟨some 60, none, .iaddr 4 (.a 57 4) (.a 59 8)⟩, ⟨some 61, none, .load true 4 (.a 60 4)⟩, ⟨some 62, none, .faddr 7 (.t 3)⟩, ⟨some 63, none, .load true 5 (.a 62 3)⟩, ⟨some 64, none, .faddr 1 (.t 8)⟩, ⟨some 65, none, .load false 1 (.a 64 8)⟩, ⟨some 66, none, .faddr 2 (.t 8)⟩, ⟨some 67, none, .load false 1 (.a 66 8)⟩, ⟨some 68, none, .call n_impl_directionOn [.a 63 3, .a 65 8, .a 67 8]⟩, ⟨some 9, none, .alloc [.int .i64 0, .int .i64 0, .int .i64 0, .int .i64 0]⟩, ⟨none, none, .store 4 (.t 9) (.a 61 4)⟩, ⟨some 10, none, .asg (.p 68)⟩])
 (.seq (.reg [⟨some 69, none, .faddr 2 (.t 9)⟩, ⟨some 70, none, .load false 1 (.a 69 9)⟩, ⟨some 71, none, .faddr 1 (.t 8)⟩, ⟨some 72, none, .load false 1 (.a 71 8)⟩, ⟨some 73, none, .bin .neq (.a 70 9) (.a 72 8)⟩, ⟨some 74, none, .mv (.p 73)⟩, ⟨some 75, some (74, false), .mv (.p 10)⟩, ⟨some 76, some (74, false), .bin .lss (.t 75) (.c (.int .i64 0))⟩, ⟨some 77, none, .pick (.t 74) (.c (.bool true)) (.t 76)⟩, ⟨some 78, none, .mv (.p 77)⟩, ⟨some 79, some (78, false), .load true 12 (.t 3)⟩, ⟨some 80, some (78, false), .faddr 1 (.t 9)⟩, ⟨some 81, some (78, false), .load false 1 (.a 80 9)⟩, ⟨some 82, some (78, false), .faddr 1 (.t 4)⟩, ⟨some 83, some (78, false), .load false 1 (.a 82 4)⟩, ⟨some 84, some (78, false), .faddr 1 (.t 8)⟩, ⟨some 85, some (78, false), .load false 1 (.a 84 8)⟩, ⟨some 86, some (78, false), .mv (.p 10)⟩, ⟨some 87, some (78, false), .call n_impl_stepCost [.a 79 3, .a 81 9, .a 83 4, .a 85 8, .t 86]⟩, ⟨some 88, some (78, false), .bin .eql (.t 87) (.c (.int .i64 0))⟩, ⟨some 89, none, .pick (.t 78) (.c (.bool true)) (.t 88)⟩])
 (.cond (.t 89) (.seq (.reg [⟨some 6, none, .asg (.c (.bool false))⟩])
 .ret) .skip))))))
 (.reg [⟨some 90, none, .bin .add (.t 13) (.c (.int .i64 1))⟩, ⟨some 13, none, .mv (.p 90)⟩]))))
/-- impl.goodAttempts -/
def a_impl_goodAttempts : AFn := ⟨3, 91, [.tmp 6], (.seq (.reg [⟨some 3, none, .box (.t 0)⟩, ⟨some 4, none, .box (.t 1)⟩, ⟨some 6, none, .asg (.c (.bool false))⟩])
 (.seq (.seq (.reg [⟨some 11, none, .rf (.t 2)⟩, ⟨some 12, none, .len (.a 11 2)⟩, ⟨some 13, none, .mv (.c (.int .i64 0))⟩])
 (.block 0 (.loop [2, 3, 4, 11, 12, 13] [6] b_impl_goodAttempts_0)))
 (.seq (.reg [⟨some 6, none, .asg (.c (.bool true))⟩])
 .ret)))⟩
/-- laws.eqAttempt -/
def a_laws_eqAttempt : AFn := ⟨2, 20, [.tmp 4], (.seq (.reg [⟨some 2, none, .box (.t 0)⟩, ⟨some 3, none, .box (.t 1)⟩, ⟨some 4, none, .asg (.c (.bool false))⟩])
 (.seq (.seq (.reg [⟨some 5, none, .faddr 0 (.t 2)⟩, ⟨some 6, none, .load false 1 (.a 5 2)⟩, ⟨some 7, none, .faddr 0 (.t 3)⟩, ⟨some 8, none, .load false 1 (.a 7 3)⟩, ⟨some 9, none, .bin .neq (.a 6 2) (.a 8 3)⟩])
 (.cond (.t 9) (.seq (.reg [⟨some 4, none, .asg (.c (.bool false))⟩])
 .ret) .skip))
 (.seq (.seq (.reg [⟨some 10, none, .faddr 1 (.t 2)⟩, ⟨some 11, none, .load false 1 (.a 10 2)⟩, ⟨some 12, none, .faddr 1 (.t 3)⟩, ⟨some 13, none, .load false 1 (.a 12 3)⟩, ⟨some 14, none, .bin .neq (.a 11 2) (.a 13 3)⟩])
 (.cond (.t 14) (.seq (.reg [⟨some 4, none, .asg (.c (.bool false))⟩])
 .ret) .skip))
 (.seq (.seq (.reg [⟨some 15, none, .faddr 2 (.t 2)⟩, ⟨some 16, none, .load false 1 (.a 15 2)⟩, ⟨some 17, none, .faddr 2 (.t 3)⟩, ⟨some 18, none, .load false 1 (.a 17 3)⟩, ⟨some 19, none, .bin .neq (.a 16 2) (.a 18 3)⟩])
 (.cond (.t 19) (.seq (.reg [⟨some 4, none, .asg (.c (.bool false))⟩])
 .ret) .skip))
 (.seq (.reg [⟨some 4, none, .asg (.c (.bool true))⟩])
 .ret)))))⟩
def b_spec_aAttack_0 : AC := (.seq (.reg [⟨some 16, none, .bin .lss (.t 15) (.t 14)⟩])
 (.seq (.cond (.t 16) .skip (.exit 0))
 (.seq (.block 1 (.seq (.reg [⟨some 17, none, .iaddr 1 (.a 13 5) (.t 15)⟩, ⟨some 18, none, .load false 1 (.a 17 5)⟩, ⟨some 9, none, .asg (.p 18)⟩])
 (.seq (.reg [⟨some 19, none, .load true 12 (.t 3)⟩, ⟨some 20, none, .load true 3 (.t 4)⟩, ⟨some 21, none, .mv (.p 9)⟩, ⟨some 22, none, .call n_spec_aForce [.a 19 3, .a 20 4, .t 21]⟩, ⟨some 10, none, .asg (.p 22)⟩])
 (.seq (.reg [⟨some 23, none, .load true 12 (.t 3)⟩, ⟨some 24, none, .load true 3 (.t 4)⟩, ⟨some 25, none, .faddr 0 (.t 5)⟩, ⟨some 26, none, .load false 1 (.a 25 5)⟩, ⟨some 27, none, .mv (.p 9)⟩, ⟨some 28, none, .call n_spec_aSide [.a 23 3, .a 24 4, .a 26 5, .t 27]⟩, ⟨some 11, none, .asg (.p 28)⟩])
 (.seq (.seq (.reg [⟨some 29, none, .faddr 7 (.t 3)⟩, ⟨some 30, none, .load true 5 (.a 29 3)⟩, ⟨some 31, none, .faddr 0 (.t 5)⟩, ⟨some 32, none, .load false 1 (.a 31 5)⟩, ⟨some 33, none, .mv (.p 11)⟩, ⟨some 34, none, .call n_spec_mRiver [.a 30 3, .a 32 5, .t 33]⟩, ⟨some 35, none, .mv (.p 34)⟩, ⟨some 36, some (35, true), .faddr 7 (.t 3)⟩, ⟨some 37, some (35, true), .load true 5 (.a 36 3)⟩, ⟨some 38, some (35, true), .faddr 0 (.t 5)⟩, ⟨some 39, some (35, true), .load false 1 (.a 38 5)⟩, ⟨some 40, some (35, true), .mv (.p 11)⟩, ⟨some 41, some (35, true), .call n_spec_mRoad [.a 37 3, .a 39 5, .t 40]⟩, ⟨some 42, some (35, true), .un .not (.t 41)⟩, ⟨some 43, none, .pick (.t 35) (.t 42) (.c (.bool false))⟩])
 (.cond (.t 43) (.reg [⟨some 44, none, .mv (.p 10)⟩, ⟨some 45, none, .bin .quo (.t 44) (.c (.int .i64 2))⟩, ⟨some 10, none, .asg (.p 45)⟩]) .skip))
 (.reg [⟨some 46, none, .mv (.p 7)⟩, ⟨some 47, none, .mv (.p 10)⟩, ⟨some 48, none, .bin .add (.t 46) (.t 47)⟩, ⟨some 7, none, .asg (.p 48)⟩]))))))
 (.reg [⟨some 49, none, .bin .add (.t 15) (.c (.int .i64 1))⟩, ⟨some 15, none, .mv (.p 49)⟩]))))
/-- spec.aAttack -/
def a_spec_aAttack : AFn := ⟨3, 51, [.tmp 6], (.seq (.reg [⟨some 3, none, .box (.t 0)⟩, ⟨some 4, none, .box (.t 1)⟩, ⟨some 5, none, .box (.t 2)⟩, ⟨some 6, none, .asg (.c (.int .i64 0))⟩])
 (.seq (.reg [⟨some 7, none, .asg (.c (.int .i64 0))⟩])
 (.seq (.seq (.reg [⟨some 12, none, .faddr 1 (.t 5)⟩, ⟨some 13, none, .load false 1 (.a 12 5)⟩, ⟨some 14, none, .len (.a 13 5)⟩, ⟨some 15, none, .mv (.c (.int .i64 0))⟩])
 (.block 0 (.loop [3, 4, 5, 7, 13, 14, 15] [6, 7] b_spec_aAttack_0)))
 (.seq (.reg [⟨some 50, none, .mv (.p 7)⟩, ⟨some 6, none, .asg (.p 50)⟩])
 .ret))))⟩
def b_impl_attackStrength_0 : AC := (.seq (.reg [⟨some 15, none, .bin .lss (.t 14) (.t 13)⟩])
 (.seq (.cond (.t 15) .skip (.exit 0))
 (.seq (.block 1 (.seq (.reg [⟨some 16, none, .iaddr 1 (.a 12 5) (.t 14)⟩, ⟨some 17, none, .load false 1 (.a 16 5)⟩, ⟨some 9, none, .asg (.p 17)⟩])
 (.seq (.reg [⟨some 18, none, .load true 12 (.t 3)⟩, ⟨some 19, none, .faddr 2 (.t 4)⟩, ⟨some 20, none, .load false 1 (.a 19 4)⟩, ⟨some 21, none, .mv (.p 9)⟩, ⟨some 22, none, .iaddr 4 (.a 20 4) (.t 21)⟩, ⟨some 23, none, .load true 4 (.a 22 4)⟩, ⟨some 24, none, .call n_impl_forceOf [.a 18 3, .a 23 4]⟩, ⟨some 10, none, .asg (.p 24)⟩])
 (.seq (.seq (.reg [⟨some 25, none, .faddr 7 (.t 3)⟩, ⟨some 26, none, .load true 5 (.a 25 3)⟩, ⟨some 27, none, .faddr 7 (.t 3)⟩, ⟨some 28, none, .load true 5 (.a 27 3)⟩, ⟨some 29, none, .faddr 0 (.t 5)⟩, ⟨some 30, none, .load false 1 (.a 29 5)⟩, ⟨some 31, none, .faddr 7 (.t 3)⟩, ⟨some 32, none, .load true 5 (.a 31 3)⟩, ⟨some 33, none, .faddr 0 (.t 5)⟩, ⟨some 34, none, .load false 1 (.a 33 5)⟩, ⟨some 35, none, .faddr 2 (.t 4)⟩, ⟨some 36, none, .load false 1 (.a 35 4)⟩, ⟨some 37, none, .mv (.p 9)⟩, ⟨some 38, none, .iaddr 4 (.a 36 4) (.t 37)⟩, ⟨some 39, none, .faddr 2 (.a 38 4)⟩, ⟨some 40, none, .load false 1 (.a 39 4)⟩, ⟨some 41, none, .call n_impl_directionOn [.a 32 3, .a 34 5, .a 40 4]⟩, ⟨some 42, none, .call n_impl_edgeOf [.a 28 3, .a 30 5, .t 41]⟩, ⟨some 43, none, .call n_impl_crossesFreely [.a 26 3, .t 42]⟩, ⟨some 44, none, .un .not (.t 43)⟩])
 (.cond (.t 44) (.reg [⟨some 45, none, .mv (.p 10)⟩, ⟨some 46, none, .bin .quo (.t 45) (.c (.int .i64 2))⟩, ⟨some 10, none, .asg (.p 46)⟩]) .skip))
 (.reg [⟨some 47, none, .mv (.p 7)⟩, ⟨some 48, none, .mv (.p 10)⟩, ⟨some 49, none, .bin .add (.t 47) (.t 48)⟩, ⟨some 7, none, .asg (.p 49)⟩])))))
 (.reg [⟨some 50, none, .bin .add (.t 14) (.c (.int .i64 1))⟩, ⟨some 14, none, .mv (.p 50)⟩]))))
/-- impl.attackStrength -/
def a_impl_attackStrength : AFn := ⟨3, 52, [.tmp 6], (.seq (.reg [⟨some 3, none, .box (.t 0)⟩, ⟨some 4, none, .box (.t 1)⟩, ⟨some 5, none, .box (.t 2)⟩, ⟨some 6, none, .asg (.c (.int .i64 0))⟩])
 (.seq (.reg [⟨some 7, none, .asg (.c (.int .i64 0))⟩])
 (.seq (.seq (.reg [⟨some 11, none, .faddr 1 (.t 5)⟩, ⟨some 12, none, .load false 1 (.a 11 5)⟩, ⟨some 13, none, .len (.a 12 5)⟩, ⟨some 14, none, .mv (.c (.int .i64 0))⟩])
 (.block 0 (.loop [3, 4, 5, 7, 12, 13, 14] [6, 7] b_impl_attackStrength_0)))
 (.seq (.reg [⟨some 51, none, .mv (.p 7)⟩, ⟨some 6, none, .asg (.p 51)⟩])
 .ret))))⟩
/-- spec.gAll -/
def a_spec_gAll : AFn := ⟨4, 20, [.tmp 8], (.seq (.reg [⟨some 4, none, .box (.t 0)⟩, ⟨some 5, none, .box (.t 1)⟩, ⟨some 8, none, .asg (.c (.list true 1 []))⟩])
 (.seq (.reg [⟨some 9, none, .load true 12 (.t 4)⟩, ⟨some 10, none, .load true 3 (.t 5)⟩, ⟨some 11, none, .mv (.p 2)⟩, ⟨some 12, none, .faddr 2 (.t 5)⟩, ⟨some 13, none, .load false 1 (.a 12 5)⟩, ⟨some 14, none, .mv (.p 2)⟩, ⟨some 15, none, .iaddr 4 (.a 13 5) (.t 14)⟩, ⟨some 16, none, .faddr 2 (.a 15 5)⟩, ⟨some 17, none, .load false 1 (.a 16 5)⟩, ⟨some 18, none, .mv (.p 3)⟩, ⟨some 19, none, .call n_spec_gPaths [.a 9 4, .a 10 5, .t 11, .a 17 5, .t 18, .c (.list true 1 [])]⟩, ⟨some 8, none, .asg (.t 19)⟩])
 .ret))⟩
/-- impl.retreatsOf -/
def a_impl_retreatsOf : AFn := ⟨4, 21, [.tmp 8], (.seq (.reg [⟨some 4, none, .box (.t 0)⟩, ⟨some 5, none, .box (.t 1)⟩, ⟨some 8, none, .asg (.c (.list true 1 []))⟩])
 (.seq (.reg [⟨some 9, none, .load true 12 (.t 4)⟩, ⟨some 10, none, .load true 3 (.t 5)⟩, ⟨some 11, none, .mv (.p 2)⟩, ⟨some 12, none, .faddr 2 (.t 5)⟩, ⟨some 13, none, .load false 1 (.a 12 5)⟩, ⟨some 14, none, .mv (.p 2)⟩, ⟨some 15, none, .iaddr 4 (.a 13 5) (.t 14)⟩, ⟨some 16, none, .faddr 2 (.a 15 5)⟩, ⟨some 17, none, .load false 1 (.a 16 5)⟩, ⟨some 18, none, .mv (.p 3)⟩, ⟨some 19, none, .bslice 1 0 [.int .i64 0] []⟩, ⟨some 20, none, .call n_impl_retreatsFrom [.a 9 4, .a 10 5, .t 11, .a 17 5, .t 18, .t 19, .k (.list true 1 [])]⟩, ⟨some 8, none, .asg (.t 20)⟩])
 .ret))⟩
/-- spec.gAsked -/
def a_spec_gAsked : AFn := ⟨4, 17, [.tmp 8], (.seq (.reg [⟨some 4, none, .box (.t 0)⟩, ⟨some 5, none, .box (.t 1)⟩, ⟨some 8, none, .asg (.c (.bool false))⟩])
 (.seq (.reg [⟨some 9, none, .load true 12 (.t 4)⟩, ⟨some 10, none, .load true 3 (.t 5)⟩, ⟨some 11, none, .mv (.p 2)⟩, ⟨some 12, none, .call n_spec_fOn [.a 9 4, .a 10 5, .t 11]⟩, ⟨some 13, none, .mv (.p 12)⟩, ⟨some 14, some (13, true), .mv (.p 3)⟩, ⟨some 15, some (13, true), .call n_spec_l1In [.t 14, .c (.int .i64 1), .c (.int .i64 3)]⟩, ⟨some 16, none, .pick (.t 13) (.t 15) (.c (.bool false))⟩, ⟨some 8, none, .asg (.p 16)⟩])
 .ret))⟩
/-- impl.isRetreat -/
def a_impl_isRetreat : AFn := ⟨4, 17, [.tmp 8], (.seq (.reg [⟨some 4, none, .box (.t 0)⟩, ⟨some 5, none, .box (.t 1)⟩, ⟨some 8, none, .asg (.c (.bool false))⟩])
 (.seq (.reg [⟨some 9, none, .load true 12 (.t 4)⟩, ⟨some 10, none, .load true 3 (.t 5)⟩, ⟨some 11, none, .mv (.p 2)⟩, ⟨some 12, none, .call n_impl_onMap [.a 9 4, .a 10 5, .t 11]⟩, ⟨some 13, none, .mv (.p 12)⟩, ⟨some 14, some (13, true), .mv (.p 3)⟩, ⟨some 15, some (13, true), .call n_impl_inRange [.t 14, .c (.int .i64 1), .c (.int .i64 3)]⟩, ⟨some 16, none, .pick (.t 13) (.t 15) (.c (.bool false))⟩, ⟨some 8, none, .asg (.p 16)⟩])
 .ret))⟩
def b_spec_gBack_0 : AC := (.seq (.reg [⟨some 60, none, .bin .lss (.t 59) (.t 58)⟩])
 (.seq (.cond (.t 60) .skip (.exit 0))
 (.seq (.block 1 (.seq (.reg [⟨some 61, none, .iaddr 1 (.t 57) (.t 59)⟩, ⟨some 62, none, .load false 1 (.a 61 57)⟩, ⟨some 14, none, .asg (.p 62)⟩])
 (.seq (.reg [⟨some 63, none, .mv (.p 14)⟩, ⟨some 64, none, .mv (.p 2)⟩, ⟨some 65, none, .bin .neq (.t 63) (.t 64)⟩])
 (.cond (.t 65) (.seq (.reg [⟨some 10, none, .asg (.c (.bool true))⟩])
 .ret) .skip))))
 (.reg [⟨some 66, none, .bin .add (.t 59) (.c (.int .i64 1))⟩, ⟨some 59, none, .mv (.p 66)⟩]))))
/-- spec.gBack -/
def a_spec_gBack : AFn := ⟨5, 67, [.tmp 10], (.seq (.reg [⟨some 5, none, .box (.t 0)⟩, ⟨some 6, none, .box (.t 1)⟩, ⟨some 10, none, .asg (.c (.bool false))⟩])
 (.seq (.reg [⟨some 15, none, .faddr 2 (.t 6)⟩, ⟨some 16, none, .load false 1 (.a 15 6)⟩, ⟨some 17, none, .mv (.p 2)⟩, ⟨some 18, none, .iaddr 4 (.a 16 6) (.t 17)⟩, ⟨some 19, none, .load true 4 (.a 18 6)⟩, ⟨some 11, none, .alloc [.int .i64 0, .int .i64 0, .int .i64 0, .int .i64 0]⟩, ⟨none, none, .store 4 (.t 11) (.a 19 6)⟩])
 (.seq (.reg [⟨some 20, none, .faddr 7 (.t 5)⟩, ⟨some 21, none, .load true 5 (.a 20 5)⟩, ⟨some 22, none, .mv (.p 3)⟩, ⟨some 23, none, .mv (.p 4)⟩, ⟨some 24, none, .call n_spec_mNext [.a 21 5, .t 22, .t 23]⟩, ⟨some 12, none, .asg (.p 24)⟩])
 (.seq (.seq (.reg [⟨some 25, none, .mv (.p 12)⟩, ⟨some 26, none, .bin .lss (.t 25) (.c (.int .i64 0))⟩, ⟨some 27, none, .mv (.p 26)⟩, ⟨some 28, some (27, false), .load true 12 (.t 5)⟩, ⟨some 29, some (27, false), .faddr 1 (.t 11)⟩, ⟨some 30, some (27, false), .load false 1 (.a 29 11)⟩, ⟨some 31, some (27, false), .mv (.p 12)⟩, ⟨some 32, some (27, false), .call n_spec_bCost [.a 28 5, .a 30 11, .t 31]⟩, ⟨some 33, some (27, false), .bin .eql (.t 32) (.c (.int .i64 0))⟩, ⟨some 34, none, .pick (.t 27) (.c (.bool true)) (.t 33)⟩, ⟨some 35, none, .mv (.p 34)⟩, ⟨some 36, some (35, false), .load true 3 (.t 6)⟩, ⟨some 37, some (35, false), .mv (.p 12)⟩, ⟨some 38, some (35, false), .faddr 0 (.t 11)⟩, ⟨some 39, some (35, false), .load false 1 (.a 38 11)⟩, ⟨some 40, some (35, false), .bin .sub (.c (.int .i64 1)) (.a 39 11)⟩, ⟨some 41, some (35, false), .call n_spec_sAt [.a 36 6, .t 37, .t 40]⟩, ⟨some 42, some (35, false), .len (.t 41)⟩, ⟨some 43, some (35, false), .bin .gtr (.t 42) (.c (.int .i64 0))⟩, ⟨some 44, none, .pick (.t 35) (.c (.bool true)) (.t 43)⟩])
 (.cond (.t 44) (.seq (.reg [⟨some 10, none, .asg (.c (.bool false))⟩])
 .ret) .skip))
 (.seq (.seq (.reg [⟨some 45, none, .load true 12 (.t 5)⟩, ⟨some 46, none, .load true 3 (.t 6)⟩, ⟨some 47, none, .mv (.p 12)⟩, ⟨some 48, none, .faddr 0 (.t 11)⟩, ⟨some 49, none, .load false 1 (.a 48 11)⟩, ⟨some 50, none, .bin .sub (.c (.int .i64 1)) (.a 49 11)⟩, ⟨some 51, none, .call n_spec_zIn [.a 45 5, .a 46 6, .t 47, .t 50]⟩, ⟨some 52, none, .un .not (.t 51)⟩])
 (.cond (.t 52) (.seq (.reg [⟨some 10, none, .asg (.c (.bool true))⟩])
 .ret) .skip))
 (.seq (.seq (.reg [⟨some 53, none, .load true 3 (.t 6)⟩, ⟨some 54, none, .mv (.p 12)⟩, ⟨some 55, none, .faddr 0 (.t 11)⟩, ⟨some 56, none, .load false 1 (.a 55 11)⟩, ⟨some 57, none, .call n_spec_sAt [.a 53 6, .t 54, .a 56 11]⟩, ⟨some 58, none, .len (.t 57)⟩, ⟨some 59, none, .mv (.c (.int .i64 0))⟩])
 (.block 0 (.loop [2, 57, 58, 59] [10] b_spec_gBack_0)))
 (.seq (.reg [⟨some 10, none, .asg (.c (.bool false))⟩])
 .ret)))))))⟩
def b_impl_canFallBack_0 : AC := (.seq (.reg [⟨some 33, none, .bin .lss (.t 32) (.t 31)⟩])
 (.seq (.cond (.t 33) .skip (.exit 0))
 (.seq (.block 1 (.seq (.reg [⟨some 34, none, .iaddr 1 (.t 30) (.t 32)⟩, ⟨some 35, none, .load false 1 (.a 34 30)⟩, ⟨some 12, none, .asg (.p 35)⟩])
 (.seq (.seq (.reg [⟨some 36, none, .faddr 2 (.t 5)⟩, ⟨some 37, none, .load false 1 (.a 36 5)⟩, ⟨some 38, none, .mv (.p 12)⟩, ⟨some 39, none, .iaddr 4 (.a 37 5) (.t 38)⟩, ⟨some 40, none, .faddr 0 (.a 39 5)⟩, ⟨some 41, none, .load false 1 (.a 40 5)⟩, ⟨some 42, none, .faddr 0 (.t 9)⟩, ⟨some 43, none, .load false 1 (.a 42 9)⟩, ⟨some 44, none, .bin .neq (.a 41 5) (.a 43 9)⟩])
 (.cond (.t 44) (.seq (.reg [⟨some 8, none, .asg (.c (.bool false))⟩])
 .ret) .skip))
 (.reg [⟨some 45, none, .mv (.p 10)⟩, ⟨some 46, none, .mv (.p 45)⟩, ⟨some 47, some (46, false), .mv (.p 12)⟩, ⟨some 48, some (46, false), .mv (.p 2)⟩, ⟨some 49, some (46, false), .bin .neq (.t 47) (.t 48)⟩, ⟨some 50, none, .pick (.t 46) (.c (.bool true)) (.t 49)⟩, ⟨some 10, none, .asg (.p 50)⟩]))))
 (.reg [⟨some 51, none, .bin .add (.t 32) (.c (.int .i64 1))⟩, ⟨some 32, none, .mv (.p 51)⟩]))))
/-- impl.canFallBack -/
def a_impl_canFallBack : AFn := ⟨4, 63, [.tmp 8], (.seq (.reg [⟨some 4, none, .box (.t 0)⟩, ⟨some 5, none, .box (.t 1)⟩, ⟨some 8, none, .asg (.c (.bool false))⟩])
 (.seq (.reg [⟨some 13, none, .faddr 2 (.t 5)⟩, ⟨some 14, none, .load false 1 (.a 13 5)⟩, ⟨some 15, none, .mv (.p 2)⟩, ⟨some 16, none, .iaddr 4 (.a 14 5) (.t 15)⟩, ⟨some 17, none, .load true 4 (.a 16 5)⟩, ⟨some 9, none, .alloc [.int .i64 0, .int .i64 0, .int .i64 0, .int .i64 0]⟩, ⟨none, none, .store 4 (.t 9) (.a 17 5)⟩])
 (.seq (.seq (.reg [⟨some 18, none, .mv (.p 3)⟩, ⟨some 19, none, .bin .lss (.t 18) (.c (.int .i64 0))⟩, ⟨some 20, none, .mv (.p 19)⟩, ⟨some 21, some (20, false), .load true 12 (.t 4)⟩, ⟨some 22, some (20, false), .faddr 1 (.t 9)⟩, ⟨some 23, some (20, false), .load false 1 (.a 22 9)⟩, ⟨some 24, some (20, false), .mv (.p 3)⟩, ⟨some 25, some (20, false), .call n_impl_enterCost [.a 21 4, .a 23 9, .t 24]⟩, ⟨some 26, some (20, false), .bin .eql (.t 25) (.c (.int .i64 0))⟩, ⟨some 27, none, .pick (.t 20) (.c (.bool true)) (.t 26)⟩])
 (.cond (.t 27) (.seq (.reg [⟨some 8, none, .asg (.c (.bool false))⟩])
 .ret) .skip))
 (.seq (.reg [⟨some 10, none, .asg (.c (.bool false))⟩])
 (.seq (.seq (.reg [⟨some 28, none, .load true 3 (.t 5)⟩, ⟨some 29, none, .mv (.p 3)⟩, ⟨some 30, none, .call n_impl_unitsAt [.a 28 5, .t 29]⟩, ⟨some 31, none, .len (.t 30)⟩, ⟨some 32, none, .mv (.c (.int .i64 0))⟩])
 (.block 0 (.loop [2, 3, 4, 5, 9, 10, 30, 31, 32] [3, 4, 5, 8, 9, 10] b_impl_canFallBack_0)))
 (.seq (.reg [⟨some 52, none, .mv (.p 10)⟩, ⟨some 53, none, .mv (.p 52)⟩, ⟨some 54, some (53, false), .load true 12 (.t 4)⟩, ⟨some 55, some (53, false), .load true 3 (.t 5)⟩, ⟨some 56, some (53, false), .faddr 0 (.t 9)⟩, ⟨some 57, some (53, false), .load false 1 (.a 56 9)⟩, ⟨some 58, some (53, false), .bin .sub (.c (.int .i64 1)) (.a 57 9)⟩, ⟨some 59, some (53, false), .mv (.p 3)⟩, ⟨some 60, some (53, false), .call n_impl_inZone [.a 54 4, .a 55 5, .t 58, .t 59]⟩, ⟨some 61, some (53, false), .un .not (.t 60)⟩, ⟨some 62, none, .pick (.t 53) (.c (.bool true)) (.t 61)⟩, ⟨some 8, none, .asg (.p 62)⟩])
 .ret))))))⟩
/-- laws.markRules -/
def a_laws_markRules : AFn := ⟨2, 14, [.tmp 4, .io 0], (.seq (.reg [⟨some 2, none, .boxk 0⟩, ⟨some 4, none, .asg (.c (.int .i64 0))⟩])
 (.seq (.reg [⟨some 5, none, .faddr 0 (.t 2)⟩, ⟨some 6, none, .load false 1 (.a 5 2)⟩, ⟨some 7, none, .mv (.p 1)⟩, ⟨some 8, none, .calli n_laws_markTerrainS 6 2 [.t 7]⟩, ⟨some 1, none, .asg (.p 8)⟩])
 (.seq (.reg [⟨some 9, none, .faddr 1 (.t 2)⟩, ⟨some 10, none, .load false 1 (.a 9 2)⟩, ⟨some 11, none, .mv (.p 1)⟩, ⟨some 12, none, .calli n_laws_markKindS 10 2 [.t 11]⟩, ⟨some 1, none, .asg (.p 12)⟩])
 (.seq (.reg [⟨some 13, none, .mv (.p 1)⟩, ⟨some 4, none, .asg (.p 13)⟩])
 .ret))))⟩
/-- laws.markMap -/
def a_laws_markMap : AFn := ⟨2, 18, [.tmp 4, .io 0], (.seq (.reg [⟨some 2, none, .boxk 0⟩, ⟨some 4, none, .asg (.c (.int .i64 0))⟩])
 (.seq (.reg [⟨some 5, none, .faddr 2 (.t 2)⟩, ⟨some 6, none, .load false 1 (.a 5 2)⟩, ⟨some 7, none, .mv (.p 1)⟩, ⟨some 8, none, .calli n_laws_markIntS 6 2 [.t 7]⟩, ⟨some 1, none, .asg (.p 8)⟩])
 (.seq (.reg [⟨some 9, none, .faddr 3 (.t 2)⟩, ⟨some 10, none, .load false 1 (.a 9 2)⟩, ⟨some 11, none, .mv (.p 1)⟩, ⟨some 12, none, .calli n_laws_markIntS 10 2 [.t 11]⟩, ⟨some 1, none, .asg (.p 12)⟩])
 (.seq (.reg [⟨some 13, none, .faddr 4 (.t 2)⟩, ⟨some 14, none, .load false 1 (.a 13 2)⟩, ⟨some 15, none, .mv (.p 1)⟩, ⟨some 16, none, .calli n_laws_markIntS 14 2 [.t 15]⟩, ⟨some 1, none, .asg (.p 16)⟩])
 (.seq (.reg [⟨some 17, none, .mv (.p 1)⟩, ⟨some 4, none, .asg (.p 17)⟩])
 .ret)))))⟩
def b_laws_markUnitS_0 : AC := (.seq (.seq (.reg [⟨some 6, none, .mv (.p 5)⟩, ⟨some 7, none, .rf (.t 0)⟩, ⟨some 8, none, .len (.a 7 0)⟩, ⟨some 9, none, .bin .lss (.t 6) (.t 8)⟩])
 (.cond (.t 9) .skip (.exit 0)))
 (.seq (.block 1 (.seq (.reg [⟨some 12, none, .rf (.t 0)⟩, ⟨some 13, none, .mv (.p 5)⟩, ⟨some 14, none, .mv (.p 1)⟩, ⟨some 15, none, .iaddr 4 (.a 12 0) (.t 13)⟩, ⟨some 16, none, .faddr 0 (.a 15 0)⟩, ⟨none, none, .store 1 (.a 16 0) (.p 14)⟩])
 (.seq (.reg [⟨some 17, none, .mv (.p 1)⟩, ⟨some 18, none, .bin .add (.t 17) (.c (.int .i64 1))⟩, ⟨some 1, none, .asg (.p 18)⟩])
 (.seq (.reg [⟨some 19, none, .rf (.t 0)⟩, ⟨some 20, none, .mv (.p 5)⟩, ⟨some 21, none, .mv (.p 1)⟩, ⟨some 22, none, .iaddr 4 (.a 19 0) (.t 20)⟩, ⟨some 23, none, .faddr 1 (.a 22 0)⟩, ⟨none, none, .store 1 (.a 23 0) (.p 21)⟩])
 (.seq (.reg [⟨some 24, none, .mv (.p 1)⟩, ⟨some 25, none, .bin .add (.t 24) (.c (.int .i64 1))⟩, ⟨some 1, none, .asg (.p 25)⟩])
 (.seq (.reg [⟨some 26, none, .rf (.t 0)⟩, ⟨some 27, none, .mv (.p 5)⟩, ⟨some 28, none, .mv (.p 1)⟩, ⟨some 29, none, .iaddr 4 (.a 26 0) (.t 27)⟩, ⟨some 30, none, .faddr 2 (.a 29 0)⟩, ⟨none, none, .store 1 (.a 30 0) (.p 28)⟩])
 (.seq (.reg [⟨some 31, none, .mv (.p 1)⟩, ⟨some 32, none, .bin .add (.t 31) (.c (.int .i64 1))⟩, ⟨some 1, none, .asg (.p 32)⟩])
 (.seq (.reg [⟨some 33, none, .rf (.t 0)⟩, ⟨some 34, none, .mv (.p 5)⟩, ⟨some 35, none, .mv (.p 1)⟩, ⟨some 36, none, .iaddr 4 (.a 33 0) (.t 34)⟩, ⟨some 37, none, .faddr 3 (.a 36 0)⟩, ⟨none, none, .store 1 (.a 37 0) (.p 35)⟩])
 (.reg [⟨some 38, none, .mv (.p 1)⟩, ⟨some 39, none, .bin .add (.t 38) (.c (.int .i64 1))⟩, ⟨some 1, none, .asg (.p 39)⟩])))))))))
 (.reg [⟨some 10, none, .mv (.p 5)⟩, ⟨some 11, none, .bin .add (.t 10) (.c (.int .i64 1))⟩, ⟨some 5, none, .asg (.p 11)⟩])))
/-- laws.markUnitS -/
def a_laws_markUnitS : AFn := ⟨2, 41, [.tmp 4, .io 0], (.seq (.reg [⟨some 4, none, .asg (.c (.int .i64 0))⟩])
 (.seq (.seq (.reg [⟨some 5, none, .asg (.c (.int .i64 0))⟩])
 (.block 0 (.loop [0, 1, 5] [0, 1, 4] b_laws_markUnitS_0)))
 (.seq (.reg [⟨some 40, none, .mv (.p 1)⟩, ⟨some 4, none, .asg (.p 40)⟩])
 .ret)))⟩
def b_laws_szTerrainS_0 : AC := (.seq (.seq (.reg [⟨some 12, none, .mv (.p 5)⟩, ⟨some 13, none, .rf (.t 0)⟩, ⟨some 14, none, .len (.a 13 0)⟩, ⟨some 15, none, .bin .lss (.t 12) (.t 14)⟩])
 (.cond (.t 15) .skip (.exit 0)))
 (.seq (.block 1 (.seq (.reg [⟨some 18, none, .rf (.t 0)⟩, ⟨some 19, none, .mv (.p 5)⟩, ⟨some 20, none, .iaddr 5 (.a 18 0) (.t 19)⟩, ⟨some 21, none, .load true 5 (.a 20 0)⟩, ⟨some 22, none, .mv (.p 1)⟩, ⟨some 23, none, .call n_laws_szTerrain [.a 21 0, .t 22]⟩, ⟨some 1, none, .asg (.p 23)⟩])
 (.seq (.reg [⟨some 24, none, .mv (.p 1)⟩, ⟨some 25, none, .bin .lss (.t 24) (.c (.int .i64 0))⟩])
 (.cond (.t 25) (.seq (.reg [⟨some 4, none, .asg (.c (.int .i64 (-1)))⟩])
 .ret) .skip))))
 (.reg [⟨some 16, none, .mv (.p 5)⟩, ⟨some 17, none, .bin .add (.t 16) (.c (.int .i64 1))⟩, ⟨some 5, none, .asg (.p 17)⟩])))
/-- laws.szTerrainS -/
def a_laws_szTerrainS : AFn := ⟨2, 27, [.tmp 4], (.seq (.reg [⟨some 4, none, .asg (.c (.int .i64 0))⟩])
 (.seq (.reg [⟨some 6, none, .mv (.p 1)⟩, ⟨some 7, none, .rf (.t 0)⟩, ⟨some 8, none, .len (.a 7 0)⟩, ⟨some 9, none, .bin .sub (.t 6) (.t 8)⟩, ⟨some 1, none, .asg (.p 9)⟩])
 (.seq (.seq (.reg [⟨some 10, none, .mv (.p 1)⟩, ⟨some 11, none, .bin .lss (.t 10) (.c (.int .i64 0))⟩])
 (.cond (.t 11) (.seq (.reg [⟨some 4, none, .asg (.c (.int .i64 (-1)))⟩])
 .ret) .skip))
 (.seq (.seq (.reg [⟨some 5, none, .asg (.c (.int .i64 0))⟩])
 (.block 0 (.loop [0, 1, 5] [1, 4] b_laws_szTerrainS_0)))
 (.seq (.reg [⟨some 26, none, .mv (.p 1)⟩, ⟨some 4, none, .asg (.p 26)⟩])
 .ret)))))⟩
def b_laws_szKindS_0 : AC := (.seq (.seq (.reg [⟨some 12, none, .mv (.p 5)⟩, ⟨some 13, none, .rf (.t 0)⟩, ⟨some 14, none, .len (.a 13 0)⟩, ⟨some 15, none, .bin .lss (.t 12) (.t 14)⟩])
 (.cond (.t 15) .skip (.exit 0)))
 (.seq (.block 1 (.seq (.reg [⟨some 18, none, .rf (.t 0)⟩, ⟨some 19, none, .mv (.p 5)⟩, ⟨some 20, none, .iaddr 6 (.a 18 0) (.t 19)⟩, ⟨some 21, none, .load true 6 (.a 20 0)⟩, ⟨some 22, none, .mv (.p 1)⟩, ⟨some 23, none, .call n_laws_szKind [.a 21 0, .t 22]⟩, ⟨some 1, none, .asg (.p 23)⟩])
 (.seq (.reg [⟨some 24, none, .mv (.p 1)⟩, ⟨some 25, none, .bin .lss (.t 24) (.c (.int .i64 0))⟩])
 (.cond (.t 25) (.seq (.reg [⟨some 4, none, .asg (.c (.int .i64 (-1)))⟩])
 .ret) .skip))))
 (.reg [⟨some 16, none, .mv (.p 5)⟩, ⟨some 17, none, .bin .add (.t 16) (.c (.int .i64 1))⟩, ⟨some 5, none, .asg (.p 17)⟩])))
/-- laws.szKindS -/
def a_laws_szKindS : AFn := ⟨2, 27, [.tmp 4], (.seq (.reg [⟨some 4, none, .asg (.c (.int .i64 0))⟩])
 (.seq (.reg [⟨some 6, none, .mv (.p 1)⟩, ⟨some 7, none, .rf (.t 0)⟩, ⟨some 8, none, .len (.a 7 0)⟩, ⟨some 9, none, .bin .sub (.t 6) (.t 8)⟩, ⟨some 1, none, .asg (.p 9)⟩])
 (.seq (.seq (.reg [⟨some 10, none, .mv (.p 1)⟩, ⟨some 11, none, .bin .lss (.t 10) (.c (.int .i64 0))⟩])
 (.cond (.t 11) (.seq (.reg [⟨some 4, none, .asg (.c (.int .i64 (-1)))⟩])
 .ret) .skip))
 (.seq (.seq (.reg [⟨some 5, none, .asg (.c (.int .i64 0))⟩])
 (.block 0 (.loop [0, 1, 5] [1, 4] b_laws_szKindS_0)))
 (.seq (.reg [⟨some 26, none, .mv (.p 1)⟩, ⟨some 4, none, .asg (.p 26)⟩])
 .ret)))))⟩
/-- spec.mIndex -/
def a_spec_mIndex : AFn := ⟨2, 29, [.tmp 4], (.seq (.reg [⟨some 2, none, .box (.t 0)⟩, ⟨some 3, none, .box (.t 1)⟩, ⟨some 4, none, .asg (.c (.int .i64 0))⟩])
 (.seq (.seq (.reg [⟨some 5, none, .faddr 0 (.t 3)⟩, ⟨some 6, none, .load false 1 (.a 5 3)⟩, ⟨some 7, none, .faddr 0 (.t 2)⟩, ⟨some 8, none, .load false 1 (.a 7 2)⟩, ⟨some 9, none, .bin .sub (.a 8 2) (.c (.int .i64 1))⟩, ⟨some 10, none, .call n_spec_l1In [.a 6 3, .c (.int .i64 0), .t 9]⟩, ⟨some 11, none, .un .not (.t 10)⟩, ⟨some 12, none, .mv (.p 11)⟩, ⟨some 13, some (12, false), .faddr 1 (.t 3)⟩, ⟨some 14, some (12, false), .load false 1 (.a 13 3)⟩, ⟨some 15, some (12, false), .faddr 1 (.t 2)⟩, ⟨some 16, some (12, false), .load false 1 (.a 15 2)⟩, ⟨some 17, some (12, false), .bin .sub (.a 16 2) (.c (.int .i64 1))⟩, ⟨some 18, some (12, false), .call n_spec_l1In [.a 14 3, .c (.int .i64 0), .t 17]⟩, ⟨some 19, some (12, false), .un .not (.t 18)⟩, ⟨some 20, none, .pick (.t 12) (.c (.bool true)) (.t 19)⟩])
 (.cond (.t 20) (.seq (.reg [⟨some 4, none, .asg (.c (.int .i64 (-1)))⟩])
 .ret) .skip))
 (.seq (.reg [⟨some 21, none, .faddr 1 (.t 3)⟩, ⟨some 22, none, .load false 1 (.a 21 3)⟩, ⟨some 23, none, .faddr 0 (.t 2)⟩, ⟨some 24, none, .load false 1 (.a 23 2)⟩, ⟨some 25, none, .bin .mul (.a 22 3) (.a 24 2)⟩, ⟨some 26, none, .faddr 0 (.t 3)⟩, ⟨some 27, none, .load false 1 (.a 26 3)⟩, ⟨some 28, none, .bin .add (.t 25) (.a 27 3)⟩, ⟨some 4, none, .asg (.p 28)⟩])
 .ret)))⟩
/-- spec.hStep -/
def a_spec_hStep : AFn := ⟨2, 20, [.cell 4 2 true], (.seq (.reg [⟨some 2, none, .box (.t 0)⟩, ⟨some 4, none, .alloc [.int .i64 0, .int .i64 0]⟩])
 (.seq (.reg [⟨some 5, none, .faddr 0 (.t 2)⟩, ⟨some 6, none, .load false 1 (.a 5 2)⟩, ⟨some 7, none, .bslice 1 6 [.int .i64 0] [(0, .c (.int .i64 1)), (1, .c (.int .i64 1)), (2, .c (.int .i64 0)), (3, .c (.int .i64 (-1))), (4, .c (.int .i64 (-1))), (5, .c (.int .i64 0))]⟩, ⟨some 8, none, .mv (.p 1)⟩, ⟨some 9, none, .iaddr 1 (.t 7) (.t 8)⟩, ⟨some 10, none, .load false 1 (.a 9 7)⟩, ⟨some 11, none, .bin .add (.a 6 2) (.a 10 7)⟩, ⟨some 12, none, .faddr 1 (.t 2)⟩, ⟨some 13, none, .load false 1 (.a 12 2)⟩, ⟨some 14, none, .bslice 1 6 [.int .i64 0] [(0, .c (.int .i64 0)), (1, .c (.int .i64 (-1))), (2, .c (.int .i64 (-1))), (3, .c (.int .i64 0)), (4, .c (.int .i64 1)), (5, .c (.int .i64 1))]⟩, ⟨some 15, none, .mv (.p 1)⟩, ⟨some 16, none, .iaddr 1 (.t 14) (.t 15)⟩, ⟨some 17, none, .load false 1 (.a 16 14)⟩, ⟨some 18, none, .bin .add (.a 13 2) (.a 17 14)⟩, ⟨some 19, none, .build [.int .i64 0, .int .i64 0] [(0, 1, .p 11), (1, 1, .p 18)]⟩, ⟨none, none, .store 2 (.t 4) (.t 19)⟩])
 .ret))⟩
/-- spec.mHex -/
def a_spec_mHex : AFn := ⟨2, 14, [.cell 4 2 true], (.seq (.reg [⟨some 2, none, .box (.t 0)⟩, ⟨some 4, none, .alloc [.int .i64 0, .int .i64 0]⟩])
 (.seq (.reg [⟨some 5, none, .mv (.p 1)⟩, ⟨some 6, none, .faddr 0 (.t 2)⟩, ⟨some 7, none, .load false 1 (.a 6 2)⟩, ⟨some 8, none, .bin .rem (.t 5) (.a 7 2)⟩, ⟨some 9, none, .mv (.p 1)⟩, ⟨some 10, none, .faddr 0 (.t 2)⟩, ⟨some 11, none, .load false 1 (.a 10 2)⟩, ⟨some 12, none, .bin .quo (.t 9) (.a 11 2)⟩, ⟨some 13, none, .build [.int .i64 0, .int .i64 0] [(0, 1, .p 8), (1, 1, .p 12)]⟩, ⟨none, none, .store 2 (.t 4) (.t 13)⟩])
 .ret))⟩
/-- spec.zIn -/
def a_spec_zIn : AFn := ⟨4, 16, [.tmp 8], (.seq (.reg [⟨some 4, none, .box (.t 0)⟩, ⟨some 5, none, .box (.t 1)⟩, ⟨some 8, none, .asg (.c (.bool false))⟩])
 (.seq (.reg [⟨some 9, none, .load true 12 (.t 4)⟩, ⟨some 10, none, .load true 3 (.t 5)⟩, ⟨some 11, none, .mv (.p 3)⟩, ⟨some 12, none, .mv (.p 2)⟩, ⟨some 13, none, .call n_spec_zSources [.a 9 4, .a 10 5, .t 11, .t 12]⟩, ⟨some 14, none, .len (.t 13)⟩, ⟨some 15, none, .bin .gtr (.t 14) (.c (.int .i64 0))⟩, ⟨some 8, none, .asg (.p 15)⟩])
 .ret))⟩
def b_laws_toTerrainS_0 : AC := (.seq (.seq (.reg [⟨some 8, none, .mv (.p 4)⟩, ⟨some 9, none, .rf (.t 0)⟩, ⟨some 10, none, .len (.a 9 0)⟩, ⟨some 11, none, .bin .lss (.t 8) (.t 10)⟩])
 (.cond (.t 11) .skip (.exit 0)))
 (.seq (.block 1 (.reg [⟨some 14, none, .rf (.t 3)⟩, ⟨some 15, none, .mv (.p 4)⟩, ⟨some 16, none, .rf (.t 0)⟩, ⟨some 17, none, .mv (.p 4)⟩, ⟨some 18, none, .iaddr 5 (.a 16 0) (.t 17)⟩, ⟨some 19, none, .load true 5 (.a 18 0)⟩, ⟨some 20, none, .call n_laws_toTerrain [.a 19 0]⟩, ⟨some 21, none, .iaddr 5 (.a 14 3) (.t 15)⟩, ⟨none, none, .store 5 (.a 21 3) (.t 20)⟩]))
 (.reg [⟨some 12, none, .mv (.p 4)⟩, ⟨some 13, none, .bin .add (.t 12) (.c (.int .i64 1))⟩, ⟨some 4, none, .asg (.p 13)⟩])))
/-- laws.toTerrainS -/
def a_laws_toTerrainS : AFn := ⟨1, 23, [.tmp 2], (.seq (.reg [⟨some 2, none, .asg (.c (.list true 5 []))⟩])
 (.seq (.reg [⟨some 5, none, .rf (.t 0)⟩, ⟨some 6, none, .len (.a 5 0)⟩, ⟨some 7, none, .mslice 5 [.str ⟨#[]⟩, .list true 1 [], .int .i64 0, .int .i64 0, .bool false] (.t 6)⟩, ⟨some 3, none, .asg (.t 7)⟩])
 (.seq (.seq (.reg [⟨some 4, none, .asg (.c (.int .i64 0))⟩])
 (.block 0 (.loop [0, 3, 4] [2, 3] b_laws_toTerrainS_0)))
 (.seq (.reg [⟨some 22, none, .rf (.t 3)⟩, ⟨some 2, none, .asg (.a 22 3)⟩])
 .ret))))⟩
def b_laws_toKindS_0 : AC := (.seq (.seq (.reg [⟨some 8, none, .mv (.p 4)⟩, ⟨some 9, none, .rf (.t 0)⟩, ⟨some 10, none, .len (.a 9 0)⟩, ⟨some 11, none, .bin .lss (.t 8) (.t 10)⟩])
 (.cond (.t 11) .skip (.exit 0)))
 (.seq (.block 1 (.reg [⟨some 14, none, .rf (.t 3)⟩, ⟨some 15, none, .mv (.p 4)⟩, ⟨some 16, none, .rf (.t 0)⟩, ⟨some 17, none, .mv (.p 4)⟩, ⟨some 18, none, .iaddr 6 (.a 16 0) (.t 17)⟩, ⟨some 19, none, .load true 6 (.a 18 0)⟩, ⟨some 20, none, .call n_laws_toKind [.a 19 0]⟩, ⟨some 21, none, .iaddr 6 (.a 14 3) (.t 15)⟩, ⟨none, none, .store 6 (.a 21 3) (.t 20)⟩]))
 (.reg [⟨some 12, none, .mv (.p 4)⟩, ⟨some 13, none, .bin .add (.t 12) (.c (.int .i64 1))⟩, ⟨some 4, none, .asg (.p 13)⟩])))
/-- laws.toKindS -/
def a_laws_toKindS : AFn := ⟨1, 23, [.tmp 2], (.seq (.reg [⟨some 2, none, .asg (.c (.list true 6 []))⟩])
 (.seq (.reg [⟨some 5, none, .rf (.t 0)⟩, ⟨some 6, none, .len (.a 5 0)⟩, ⟨some 7, none, .mslice 6 [.str ⟨#[]⟩, .int .i64 0, .int .i64 0, .int .i64 0, .bool false, .int .i64 0] (.t 6)⟩, ⟨some 3, none, .asg (.t 7)⟩])
 (.seq (.seq (.reg [⟨some 4, none, .asg (.c (.int .i64 0))⟩])
 (.block 0 (.loop [0, 3, 4] [2, 3] b_laws_toKindS_0)))
 (.seq (.reg [⟨some 22, none, .rf (.t 3)⟩, ⟨some 2, none, .asg (.a 22 3)⟩])
 .ret))))⟩
/-- laws.toUnit -/
def a_laws_toUnit : AFn := ⟨1, 17, [.cell 2 4 true], (.seq (.reg [⟨some 1, none, .box (.t 0)⟩, ⟨some 2, none, .alloc [.int .i64 0, .int .i64 0, .int .i64 0, .int .i64 0]⟩])
 (.seq (.reg [⟨some 3, none, .alloc [.int .i64 0, .int .i64 0, .int .i64 0, .int .i64 0]⟩])
 (.seq (.reg [⟨some 4, none, .faddr 0 (.t 1)⟩, ⟨some 5, none, .load false 1 (.a 4 1)⟩, ⟨some 6, none, .faddr 0 (.t 3)⟩, ⟨none, none, .store 1 (.a 6 3) (.p 5)⟩])
 (.seq (.reg [⟨some 7, none, .faddr 1 (.t 1)⟩, ⟨some 8, none, .load false 1 (.a 7 1)⟩, ⟨some 9, none, .faddr 1 (.t 3)⟩, ⟨none, none, .store 1 (.a 9 3) (.p 8)⟩])
 (.seq (.reg [⟨some 10, none, .faddr 2 (.t 1)⟩, ⟨some 11, none, .load false 1 (.a 10 1)⟩, ⟨some 12, none, .faddr 2 (.t 3)⟩, ⟨none, none, .store 1 (.a 12 3) (.p 11)⟩])
 (.seq (.reg [⟨some 13, none, .faddr 3 (.t 1)⟩, ⟨some 14, none, .load false 1 (.a 13 1)⟩, ⟨some 15, none, .faddr 3 (.t 3)⟩, ⟨none, none, .store 1 (.a 15 3) (.p 14)⟩])
 (.seq (.reg [⟨some 16, none, .load true 4 (.t 3)⟩, ⟨none, none, .store 4 (.t 2) (.a 16 3)⟩])
 .ret)))))))⟩
/-- impl.inRange -/
def a_impl_inRange : AFn := ⟨3, 15, [.tmp 6], (.seq (.reg [⟨some 6, none, .asg (.c (.bool false))⟩])
 (.seq (.reg [⟨some 7, none, .mv (.p 1)⟩, ⟨some 8, none, .mv (.p 0)⟩, ⟨some 9, none, .bin .leq (.t 7) (.t 8)⟩, ⟨some 10, none, .mv (.p 9)⟩, ⟨some 11, some (10, true), .mv (.p 0)⟩, ⟨some 12, some (10, true), .mv (.p 2)⟩, ⟨some 13, some (10, true), .bin .leq (.t 11) (.t 12)⟩, ⟨some 14, none, .pick (.t 10) (.t 13) (.c (.bool false))⟩, ⟨some 6, none, .asg (.p 14)⟩])
 .ret))⟩
/-- impl.indexOf -/
def a_impl_indexOf : AFn := ⟨2, 27, [.tmp 4], (.seq (.reg [⟨some 2, none, .box (.t 0)⟩, ⟨some 3, none, .box (.t 1)⟩, ⟨some 4, none, .asg (.c (.int .i64 0))⟩])
 (.seq (.seq (.reg [⟨some 5, none, .faddr 0 (.t 3)⟩, ⟨some 6, none, .load false 1 (.a 5 3)⟩, ⟨some 7, none, .faddr 0 (.t 2)⟩, ⟨some 8, none, .load false 1 (.a 7 2)⟩, ⟨some 9, none, .call n_impl_isIndex [.a 6 3, .a 8 2]⟩, ⟨some 10, none, .un .not (.t 9)⟩, ⟨some 11, none, .mv (.p 10)⟩, ⟨some 12, some (11, false), .faddr 1 (.t 3)⟩, ⟨some 13, some (11, false), .load false 1 (.a 12 3)⟩, ⟨some 14, some (11, false), .faddr 1 (.t 2)⟩, ⟨some 15, some (11, false), .load false 1 (.a 14 2)⟩, ⟨some 16, some (11, false), .call n_impl_isIndex [.a 13 3, .a 15 2]⟩, ⟨some 17, some (11, false), .un .not (.t 16)⟩, ⟨some 18, none, .pick (.t 11) (.c (.bool true)) (.t 17)⟩])
 (.cond (.t 18) (.seq (.reg [⟨some 4, none, .asg (.c (.int .i64 (-1)))⟩])
 .ret) .skip))
 (.seq (.reg [⟨some 19, none, .faddr 1 (.t 3)⟩, ⟨some 20, none, .load false 1 (.a 19 3)⟩, ⟨some 21, none, .faddr 0 (.t 2)⟩, ⟨some 22, none, .load false 1 (.a 21 2)⟩, ⟨some 23, none, .bin .mul (.a 20 3) (.a 22 2)⟩, ⟨some 24, none, .faddr 0 (.t 3)⟩, ⟨some 25, none, .load false 1 (.a 24 3)⟩, ⟨some 26, none, .bin .add (.t 23) (.a 25 3)⟩, ⟨some 4, none, .asg (.p 26)⟩])
 .ret)))⟩
/-- impl.stepBy -/
def a_impl_stepBy : AFn := ⟨3, 26, [.cell 6 2 true], (.seq (.reg [⟨some 3, none, .box (.t 0)⟩, ⟨some 6, none, .alloc [.int .i64 0, .int .i64 0]⟩])
 (.seq (.reg [⟨some 7, none, .faddr 0 (.t 3)⟩, ⟨some 8, none, .load false 1 (.a 7 3)⟩, ⟨some 9, none, .mv (.p 2)⟩, ⟨some 10, none, .mv (.p 1)⟩, ⟨some 11, none, .aaddr 6 2 (.g 0) (.t 10)⟩, ⟨some 12, none, .faddr 0 (.t 11)⟩, ⟨some 13, none, .load false 1 (.a 12 11)⟩, ⟨some 14, none, .bin .mul (.t 9) (.a 13 11)⟩, ⟨some 15, none, .bin .add (.a 8 3) (.t 14)⟩, ⟨some 16, none, .faddr 1 (.t 3)⟩, ⟨some 17, none, .load false 1 (.a 16 3)⟩, ⟨some 18, none, .mv (.p 2)⟩, ⟨some 19, none, .mv (.p 1)⟩, ⟨some 20, none, .aaddr 6 2 (.g 0) (.t 19)⟩, ⟨some 21, none, .faddr 1 (.t 20)⟩, ⟨some 22, none, .load false 1 (.a 21 20)⟩, ⟨some 23, none, .bin .mul (.t 18) (.a 22 20)⟩, ⟨some 24, none, .bin .add (.a 17 3) (.t 23)⟩, ⟨some 25, none, .build [.int .i64 0, .int .i64 0] [(0, 1, .p 15), (1, 1, .p 24)]⟩, ⟨none, none, .store 2 (.t 6) (.t 25)⟩])
 .ret))⟩
/-- impl.hexOf -/
def a_impl_hexOf : AFn := ⟨2, 14, [.cell 4 2 true], (.seq (.reg [⟨some 2, none, .box (.t 0)⟩, ⟨some 4, none, .alloc [.int .i64 0, .int .i64 0]⟩])
 (.seq (.reg [⟨some 5, none, .mv (.p 1)⟩, ⟨some 6, none, .faddr 0 (.t 2)⟩, ⟨some 7, none, .load false 1 (.a 6 2)⟩, ⟨some 8, none, .bin .rem (.t 5) (.a 7 2)⟩, ⟨some 9, none, .mv (.p 1)⟩, ⟨some 10, none, .faddr 0 (.t 2)⟩, ⟨some 11, none, .load false 1 (.a 10 2)⟩, ⟨some 12, none, .bin .quo (.t 9) (.a 11 2)⟩, ⟨some 13, none, .build [.int .i64 0, .int .i64 0] [(0, 1, .p 8), (1, 1, .p 12)]⟩, ⟨none, none, .store 2 (.t 4) (.t 13)⟩])
 .ret))⟩
def b_impl_inZone_0 : AC := (.seq (.reg [⟨some 15, none, .bin .lss (.t 14) (.t 13)⟩])
 (.seq (.cond (.t 15) .skip (.exit 0))
 (.seq (.block 1 (.seq (.reg [⟨some 16, none, .iaddr 4 (.a 12 5) (.t 14)⟩, ⟨some 17, none, .load true 4 (.a 16 5)⟩, ⟨some 10, none, .alloc [.int .i64 0, .int .i64 0, .int .i64 0, .int .i64 0]⟩, ⟨none, none, .store 4 (.t 10) (.a 17 5)⟩])
 (.seq (.reg [⟨some 18, none, .faddr 0 (.t 10)⟩, ⟨some 19, none, .load false 1 (.a 18 10)⟩, ⟨some 20, none, .mv (.p 2)⟩, ⟨some 21, none, .bin .eql (.a 19 10) (.t 20)⟩, ⟨some 22, none, .mv (.p 21)⟩, ⟨some 23, some (22, true), .load true 12 (.t 4)⟩, ⟨some 24, some (22, true), .load true 4 (.t 10)⟩, ⟨some 25, some (22, true), .mv (.p 3)⟩, ⟨some 26, some (22, true), .call n_impl_controls [.a 23 4, .a 24 10, .t 25]⟩, ⟨some 27, none, .pick (.t 22) (.t 26) (.c (.bool false))⟩])
 (.cond (.t 27) (.seq (.reg [⟨some 8, none, .asg (.c (.bool true))⟩])
 .ret) .skip))))
 (.reg [⟨some 28, none, .bin .add (.t 14) (.c (.int .i64 1))⟩, ⟨some 14, none, .mv (.p 28)⟩]))))
/-- impl.inZone -/
def a_impl_inZone : AFn := ⟨4, 29, [.tmp 8], (.seq (.reg [⟨some 4, none, .box (.t 0)⟩, ⟨some 5, none, .box (.t 1)⟩, ⟨some 8, none, .asg (.c (.bool false))⟩])
 (.seq (.seq (.reg [⟨some 11, none, .faddr 2 (.t 5)⟩, ⟨some 12, none, .load false 1 (.a 11 5)⟩, ⟨some 13, none, .len (.a 12 5)⟩, ⟨some 14, none, .mv (.c (.int .i64 0))⟩])
 (.block 0 (.loop [2, 3, 4, 5, 12, 13, 14] [8] b_impl_inZone_0)))
 (.seq (.reg [⟨some 8, none, .asg (.c (.bool false))⟩])
 .ret)))⟩
def b_laws_eqTerrainS_0 : AC := (.seq (.seq (.reg [⟨some 11, none, .mv (.p 5)⟩, ⟨some 12, none, .rf (.t 0)⟩, ⟨some 13, none, .len (.a 12 0)⟩, ⟨some 14, none, .bin .lss (.t 11) (.t 13)⟩])
 (.cond (.t 14) .skip (.exit 0)))
 (.seq (.block 1 (.seq (.reg [⟨some 17, none, .rf (.t 0)⟩, ⟨some 18, none, .mv (.p 5)⟩, ⟨some 19, none, .iaddr 5 (.a 17 0) (.t 18)⟩, ⟨some 20, none, .load true 5 (.a 19 0)⟩, ⟨some 21, none, .rf (.t 1)⟩, ⟨some 22, none, .mv (.p 5)⟩, ⟨some 23, none, .iaddr 5 (.a 21 1) (.t 22)⟩, ⟨some 24, none, .load true 5 (.a 23 1)⟩, ⟨some 25, none, .call n_laws_eqTerrain [.a 20 0, .a 24 1]⟩, ⟨some 26, none, .un .not (.t 25)⟩])
 (.cond (.t 26) (.seq (.reg [⟨some 4, none, .asg (.c (.bool false))⟩])
 .ret) .skip)))
 (.reg [⟨some 15, none, .mv (.p 5)⟩, ⟨some 16, none, .bin .add (.t 15) (.c (.int .i64 1))⟩, ⟨some 5, none, .asg (.p 16)⟩])))
/-- laws.eqTerrainS -/
def a_laws_eqTerrainS : AFn := ⟨2, 27, [.tmp 4], (.seq (.reg [⟨some 4, none, .asg (.c (.bool false))⟩])
 (.seq (.seq (.reg [⟨some 6, none, .rf (.t 0)⟩, ⟨some 7, none, .len (.a 6 0)⟩, ⟨some 8, none, .rf (.t 1)⟩, ⟨some 9, none, .len (.a 8 1)⟩, ⟨some 10, none, .bin .neq (.t 7) (.t 9)⟩])
 (.cond (.t 10) (.seq (.reg [⟨some 4, none, .asg (.c (.bool false))⟩])
 .ret) .skip))
 (.seq (.seq (.reg [⟨some 5, none, .asg (.c (.int .i64 0))⟩])
 (.block 0 (.loop [0, 1, 5] [4] b_laws_eqTerrainS_0)))
 (.seq (.reg [⟨some 4, none, .asg (.c (.bool true))⟩])
 .ret))))⟩
def b_laws_eqKindS_0 : AC := (.seq (.seq (.reg [⟨some 11, none, .mv (.p 5)⟩, ⟨some 12, none, .rf (.t 0)⟩, ⟨some 13, none, .len (.a 12 0)⟩, ⟨some 14, none, .bin .lss (.t 11) (.t 13)⟩])
 (.cond (.t 14) .skip (.exit 0)))
 (.seq (.block 1 (.seq (.reg [⟨some 17, none, .rf (.t 0)⟩, ⟨some 18, none, .mv (.p 5)⟩, ⟨some 19, none, .iaddr 6 (.a 17 0) (.t 18)⟩, ⟨some 20, none, .load true 6 (.a 19 0)⟩, ⟨some 21, none, .rf (.t 1)⟩, ⟨some 22, none, .mv (.p 5)⟩, ⟨some 23, none, .iaddr 6 (.a 21 1) (.t 22)⟩, ⟨some 24, none, .load true 6 (.a 23 1)⟩, ⟨some 25, none, .call n_laws_eqKind [.a 20 0, .a 24 1]⟩, ⟨some 26, none, .un .not (.t 25)⟩])
 (.cond (.t 26) (.seq (.reg [⟨some 4, none, .asg (.c (.bool false))⟩])
 .ret) .skip)))
 (.reg [⟨some 15, none, .mv (.p 5)⟩, ⟨some 16, none, .bin .add (.t 15) (.c (.int .i64 1))⟩, ⟨some 5, none, .asg (.p 16)⟩])))
/-- laws.eqKindS -/
def a_laws_eqKindS : AFn := ⟨2, 27, [.tmp 4], (.seq (.reg [⟨some 4, none, .asg (.c (.bool false))⟩])
 (.seq (.seq (.reg [⟨some 6, none, .rf (.t 0)⟩, ⟨some 7, none, .len (.a 6 0)⟩, ⟨some 8, none, .rf (.t 1)⟩, ⟨some 9, none, .len (.a 8 1)⟩, ⟨some 10, none, .bin .neq (.t 7) (.t 9)⟩])
 (.cond (.t 10) (.seq (.reg [⟨some 4, none, .asg (.c (.bool false))⟩])
 .ret) .skip))
 (.seq (.seq (.reg [⟨some 5, none, .asg (.c (.int .i64 0))⟩])
 (.block 0 (.loop [0, 1, 5] [4] b_laws_eqKindS_0)))
 (.seq (.reg [⟨some 4, none, .asg (.c (.bool true))⟩])
 .ret))))⟩
/-- laws.eqUnit -/
def a_laws_eqUnit : AFn := ⟨2, 25, [.tmp 4], (.seq (.reg [⟨some 2, none, .box (.t 0)⟩, ⟨some 3, none, .box (.t 1)⟩, ⟨some 4, none, .asg (.c (.bool false))⟩])
 (.seq (.seq (.reg [⟨some 5, none, .faddr 0 (.t 2)⟩, ⟨some 6, none, .load false 1 (.a 5 2)⟩, ⟨some 7, none, .faddr 0 (.t 3)⟩, ⟨some 8, none, .load false 1 (.a 7 3)⟩, ⟨some 9, none, .bin .neq (.a 6 2) (.a 8 3)⟩])
 (.cond (.t 9) (.seq (.reg [⟨some 4, none, .asg (.c (.bool false))⟩])
 .ret) .skip))
 (.seq (.seq (.reg [⟨some 10, none, .faddr 1 (.t 2)⟩, ⟨some 11, none, .load false 1 (.a 10 2)⟩, ⟨some 12, none, .faddr 1 (.t 3)⟩, ⟨some 13, none, .load false 1 (.a 12 3)⟩, ⟨some 14, none, .bin .neq (.a 11 2) (.a 13 3)⟩])
 (.cond (.t 14) (.seq (.reg [⟨some 4, none, .asg (.c (.bool false))⟩])
 .ret) .skip))
 (.seq (.seq (.reg [⟨some 15, none, .faddr 2 (.t 2)⟩, ⟨some 16, none, .load false 1 (.a 15 2)⟩, ⟨some 17, none, .faddr 2 (.t 3)⟩, ⟨some 18, none, .load false 1 (.a 17 3)⟩, ⟨some 19, none, .bin .neq (.a 16 2) (.a 18 3)⟩])
 (.cond (.t 19) (.seq (.reg [⟨some 4, none, .asg (.c (.bool false))⟩])
 .ret) .skip))
 (.seq (.seq (.reg [⟨some 20, none, .faddr 3 (.t 2)⟩, ⟨some 21, none, .load false 1 (.a 20 2)⟩, ⟨some 22, none, .faddr 3 (.t 3)⟩, ⟨some 23, none, .load false 1 (.a 22 3)⟩, ⟨some 24, none, .bin .neq (.a 21 2) (.a 23 3)⟩])
 (.cond (.t 24) (.seq (.reg [⟨some 4, none, .asg (.c (.bool false))⟩])
 .ret) .skip))
 (.seq (.reg [⟨some 4, none, .asg (.c (.bool true))⟩])
 .ret))))))⟩
/-- spec.cStep -/
def a_spec_cStep : AFn := ⟨5, 56, [.tmp 10], (.seq (.reg [⟨some 5, none, .box (.t 0)⟩, ⟨some 10, none, .asg (.c (.int .i64 0))⟩])
 (.seq (.reg [⟨some 13, none, .faddr 7 (.t 5)⟩, ⟨some 14, none, .load true 5 (.a 13 5)⟩, ⟨some 15, none, .mv (.p 2)⟩, ⟨some 16, none, .mv (.p 3)⟩, ⟨some 17, none, .call n_spec_mNext [.a 14 5, .t 15, .t 16]⟩, ⟨some 11, none, .asg (.p 17)⟩])
 (.seq (.seq (.reg [⟨some 18, none, .mv (.p 11)⟩, ⟨some 19, none, .bin .lss (.t 18) (.c (.int .i64 0))⟩, ⟨some 20, none, .mv (.p 19)⟩, ⟨some 21, some (20, false), .load true 12 (.t 5)⟩, ⟨some 22, some (20, false), .mv (.p 1)⟩, ⟨some 23, some (20, false), .mv (.p 11)⟩, ⟨some 24, some (20, false), .call n_spec_bCost [.a 21 5, .t 22, .t 23]⟩, ⟨some 25, some (20, false), .bin .eql (.t 24) (.c (.int .i64 0))⟩, ⟨some 26, none, .pick (.t 20) (.c (.bool true)) (.t 25)⟩])
 (.cond (.t 26) (.seq (.reg [⟨some 10, none, .asg (.c (.int .i64 0))⟩])
 .ret) .skip))
 (.seq (.seq (.reg [⟨some 27, none, .faddr 7 (.t 5)⟩, ⟨some 28, none, .load true 5 (.a 27 5)⟩, ⟨some 29, none, .mv (.p 2)⟩, ⟨some 30, none, .mv (.p 3)⟩, ⟨some 31, none, .call n_spec_mRoad [.a 28 5, .t 29, .t 30]⟩])
 (.cond (.t 31) (.seq (.reg [⟨some 32, none, .faddr 0 (.t 5)⟩, ⟨some 33, none, .faddr 4 (.a 32 5)⟩, ⟨some 34, none, .load false 1 (.a 33 5)⟩, ⟨some 35, none, .mv (.p 4)⟩, ⟨some 36, none, .call n_spec_csWeather [.t 35, .c (.bool true)]⟩, ⟨some 37, none, .bin .add (.a 34 5) (.t 36)⟩, ⟨some 10, none, .asg (.p 37)⟩])
 .ret) .skip))
 (.seq (.reg [⟨some 38, none, .load true 12 (.t 5)⟩, ⟨some 39, none, .mv (.p 1)⟩, ⟨some 40, none, .mv (.p 11)⟩, ⟨some 41, none, .call n_spec_bCost [.a 38 5, .t 39, .t 40]⟩, ⟨some 42, none, .mv (.p 4)⟩, ⟨some 43, none, .call n_spec_csWeather [.t 42, .c (.bool false)]⟩, ⟨some 44, none, .bin .add (.t 41) (.t 43)⟩, ⟨some 12, none, .asg (.p 44)⟩])
 (.seq (.seq (.reg [⟨some 45, none, .faddr 7 (.t 5)⟩, ⟨some 46, none, .load true 5 (.a 45 5)⟩, ⟨some 47, none, .mv (.p 2)⟩, ⟨some 48, none, .mv (.p 3)⟩, ⟨some 49, none, .call n_spec_mRiver [.a 46 5, .t 47, .t 48]⟩])
 (.cond (.t 49) (.reg [⟨some 50, none, .mv (.p 12)⟩, ⟨some 51, none, .faddr 0 (.t 5)⟩, ⟨some 52, none, .faddr 3 (.a 51 5)⟩, ⟨some 53, none, .load false 1 (.a 52 5)⟩, ⟨some 54, none, .bin .add (.t 50) (.a 53 5)⟩, ⟨some 12, none, .asg (.p 54)⟩]) .skip))
 (.seq (.reg [⟨some 55, none, .mv (.p 12)⟩, ⟨some 10, none, .asg (.p 55)⟩])
 .ret)))))))⟩
/-- spec.gRoom -/
def a_spec_gRoom : AFn := ⟨4, 27, [.tmp 8], (.seq (.reg [⟨some 4, none, .box (.t 0)⟩, ⟨some 5, none, .box (.t 1)⟩, ⟨some 8, none, .asg (.c (.bool false))⟩])
 (.seq (.reg [⟨some 9, none, .load true 3 (.t 5)⟩, ⟨some 10, none, .mv (.p 3)⟩, ⟨some 11, none, .mv (.p 2)⟩, ⟨some 12, none, .bin .sub (.c (.int .i64 1)) (.t 11)⟩, ⟨some 13, none, .call n_spec_sAt [.a 9 5, .t 10, .t 12]⟩, ⟨some 14, none, .len (.t 13)⟩, ⟨some 15, none, .bin .eql (.t 14) (.c (.int .i64 0))⟩, ⟨some 16, none, .mv (.p 15)⟩, ⟨some 17, some (16, true), .load true 3 (.t 5)⟩, ⟨some 18, some (16, true), .mv (.p 3)⟩, ⟨some 19, some (16, true), .mv (.p 2)⟩, ⟨some 20, some (16, true), .call n_spec_sAt [.a 17 5, .t 18, .t 19]⟩, ⟨some 21, some (16, true), .len (.t 20)⟩, ⟨some 22, some (16, true), .faddr 0 (.t 4)⟩, ⟨some 23, some (16, true), .faddr 2 (.a 22 4)⟩, ⟨some 24, some (16, true), .load false 1 (.a 23 4)⟩, ⟨some 25, some (16, true), .bin .lss (.t 21) (.a 24 4)⟩, ⟨some 26, none, .pick (.t 16) (.t 25) (.c (.bool false))⟩, ⟨some 8, none, .asg (.p 26)⟩])
 .ret))⟩
def b_impl_directionOn_0 : AC := (.seq (.reg [⟨some 9, none, .bin .lss (.t 8) (.c (.int .i64 6))⟩])
 (.seq (.cond (.t 9) .skip (.exit 0))
 (.seq (.block 1 (.seq (.reg [⟨some 10, none, .mv (.p 8)⟩, ⟨some 7, none, .asg (.p 10)⟩])
 (.seq (.reg [⟨some 11, none, .load true 5 (.t 3)⟩, ⟨some 12, none, .mv (.p 1)⟩, ⟨some 13, none, .mv (.p 7)⟩, ⟨some 14, none, .call n_impl_nextTo [.a 11 3, .t 12, .t 13]⟩, ⟨some 15, none, .mv (.p 2)⟩, ⟨some 16, none, .bin .eql (.t 14) (.t 15)⟩])
 (.cond (.t 16) (.seq (.reg [⟨some 17, none, .mv (.p 7)⟩, ⟨some 6, none, .asg (.p 17)⟩])
 .ret) .skip))))
 (.reg [⟨some 18, none, .bin .add (.t 8) (.c (.int .i64 1))⟩, ⟨some 8, none, .mv (.p 18)⟩]))))
/-- impl.directionOn -/
def a_impl_directionOn : AFn := ⟨3, 19, [.tmp 6], (.seq (.reg [⟨some 3, none, .box (.t 0)⟩, ⟨some 6, none, .asg (.c (.int .i64 0))⟩])
 (.seq (.seq (.reg [⟨some 8, none, .mv (.c (.int .i64 0))⟩])
 (.block 0 (.loop [1, 2, 3, 8] [6] b_impl_directionOn_0)))
 (.seq (.reg [⟨some 6, none, .asg (.c (.int .i64 (-1)))⟩])
 .ret)))⟩
/-- impl.stepCost -/
def a_impl_stepCost : AFn := ⟨5, 62, [.tmp 10], (.seq (.reg [⟨some 5, none, .box (.t 0)⟩, ⟨some 10, none, .asg (.c (.int .i64 0))⟩])
 (.seq (.reg [⟨some 14, none, .faddr 7 (.t 5)⟩, ⟨some 15, none, .load true 5 (.a 14 5)⟩, ⟨some 16, none, .mv (.p 3)⟩, ⟨some 17, none, .mv (.p 4)⟩, ⟨some 18, none, .call n_impl_nextTo [.a 15 5, .t 16, .t 17]⟩, ⟨some 11, none, .asg (.p 18)⟩])
 (.seq (.seq (.reg [⟨some 19, none, .mv (.p 11)⟩, ⟨some 20, none, .bin .lss (.t 19) (.c (.int .i64 0))⟩, ⟨some 21, none, .mv (.p 20)⟩, ⟨some 22, some (21, false), .load true 12 (.t 5)⟩, ⟨some 23, some (21, false), .mv (.p 1)⟩, ⟨some 24, some (21, false), .mv (.p 11)⟩, ⟨some 25, some (21, false), .call n_impl_enterCost [.a 22 5, .t 23, .t 24]⟩, ⟨some 26, some (21, false), .bin .eql (.t 25) (.c (.int .i64 0))⟩, ⟨some 27, none, .pick (.t 21) (.c (.bool true)) (.t 26)⟩])
 (.cond (.t 27) (.seq (.reg [⟨some 10, none, .asg (.c (.int .i64 0))⟩])
 .ret) .skip))
 (.seq (.reg [⟨some 28, none, .faddr 7 (.t 5)⟩, ⟨some 29, none, .load true 5 (.a 28 5)⟩, ⟨some 30, none, .mv (.p 3)⟩, ⟨some 31, none, .mv (.p 4)⟩, ⟨some 32, none, .call n_impl_edgeOf [.a 29 5, .t 30, .t 31]⟩, ⟨some 12, none, .asg (.p 32)⟩])
 (.seq (.seq (.reg [⟨some 33, none, .faddr 7 (.t 5)⟩, ⟨some 34, none, .faddr 4 (.a 33 5)⟩, ⟨some 35, none, .load false 1 (.a 34 5)⟩, ⟨some 36, none, .mv (.p 12)⟩, ⟨some 37, none, .call n_slices_Contains_int_int [.a 35 5, .t 36]⟩])
 (.cond (.t 37) (.seq (.reg [⟨some 38, none, .faddr 0 (.t 5)⟩, ⟨some 39, none, .faddr 4 (.a 38 5)⟩, ⟨some 40, none, .load false 1 (.a 39 5)⟩, ⟨some 41, none, .mv (.p 2)⟩, ⟨some 42, none, .call n_impl_weatherCost [.t 41, .c (.bool true)]⟩, ⟨some 43, none, .bin .add (.a 40 5) (.t 42)⟩, ⟨some 10, none, .asg (.p 43)⟩])
 .ret) .skip))
 (.seq (.reg [⟨some 44, none, .load true 12 (.t 5)⟩, ⟨some 45, none, .mv (.p 1)⟩, ⟨some 46, none, .mv (.p 11)⟩, ⟨some 47, none, .call n_impl_enterCost [.a 44 5, .t 45, .t 46]⟩, ⟨some 48, none, .mv (.p 2)⟩, ⟨some 49, none, .call n_impl_weatherCost [.t 48, .c (.bool false)]⟩, ⟨some 50, none, .bin .add (.t 47) (.t 49)⟩, ⟨some 13, none, .asg (.p 50)⟩])
 (.seq (.seq (.reg [⟨some 51, none, .faddr 7 (.t 5)⟩, ⟨some 52, none, .faddr 3 (.a 51 5)⟩, ⟨some 53, none, .load false 1 (.a 52 5)⟩, ⟨some 54, none, .mv (.p 12)⟩, ⟨some 55, none, .call n_slices_Contains_int_int [.a 53 5, .t 54]⟩])
 (.cond (.t 55) (.reg [⟨some 56, none, .mv (.p 13)⟩, ⟨some 57, none, .faddr 0 (.t 5)⟩, ⟨some 58, none, .faddr 3 (.a 57 5)⟩, ⟨some 59, none, .load false 1 (.a 58 5)⟩, ⟨some 60, none, .bin .add (.t 56) (.a 59 5)⟩, ⟨some 13, none, .asg (.p 60)⟩]) .skip))
 (.seq (.reg [⟨some 61, none, .mv (.p 13)⟩, ⟨some 10, none, .asg (.p 61)⟩])
 .ret))))))))⟩
/-- impl.stackRoom -/
def a_impl_stackRoom : AFn := ⟨4, 23, [.tmp 8], (.seq (.reg [⟨some 4, none, .box (.t 0)⟩, ⟨some 5, none, .box (.t 1)⟩, ⟨some 8, none, .asg (.c (.int .i64 0))⟩])
 (.seq (.seq (.reg [⟨some 9, none, .load true 3 (.t 5)⟩, ⟨some 10, none, .mv (.p 3)⟩, ⟨some 11, none, .call n_impl_ownerOf [.a 9 5, .t 10]⟩, ⟨some 12, none, .mv (.p 2)⟩, ⟨some 13, none, .bin .sub (.c (.int .i64 1)) (.t 12)⟩, ⟨some 14, none, .bin .eql (.t 11) (.t 13)⟩])
 (.cond (.t 14) (.seq (.reg [⟨some 8, none, .asg (.c (.int .i64 0))⟩])
 .ret) .skip))
 (.seq (.reg [⟨some 15, none, .faddr 0 (.t 4)⟩, ⟨some 16, none, .faddr 2 (.a 15 4)⟩, ⟨some 17, none, .load false 1 (.a 16 4)⟩, ⟨some 18, none, .load true 3 (.t 5)⟩, ⟨some 19, none, .mv (.p 3)⟩, ⟨some 20, none, .call n_impl_unitsAt [.a 18 5, .t 19]⟩, ⟨some 21, none, .len (.t 20)⟩, ⟨some 22, none, .bin .sub (.a 17 4) (.t 21)⟩, ⟨some 8, none, .asg (.p 22)⟩])
 .ret)))⟩
/-- spec.sHex -/
def a_spec_sHex : AFn := ⟨3, 18, [.tmp 6], (.seq (.reg [⟨some 3, none, .box (.t 0)⟩, ⟨some 4, none, .box (.t 1)⟩, ⟨some 6, none, .asg (.c (.bool false))⟩])
 (.seq (.reg [⟨some 7, none, .load true 12 (.t 3)⟩, ⟨some 8, none, .load true 3 (.t 4)⟩, ⟨some 9, none, .call n_spec_sGood [.a 7 3, .a 8 4]⟩, ⟨some 10, none, .mv (.p 9)⟩, ⟨some 11, some (10, true), .mv (.p 2)⟩, ⟨some 12, some (10, true), .faddr 7 (.t 3)⟩, ⟨some 13, some (10, true), .load true 5 (.a 12 3)⟩, ⟨some 14, some (10, true), .call n_spec_mSize [.a 13 3]⟩, ⟨some 15, some (10, true), .bin .sub (.t 14) (.c (.int .i64 1))⟩, ⟨some 16, some (10, true), .call n_spec_l1In [.t 11, .c (.int .i64 0), .t 15]⟩, ⟨some 17, none, .pick (.t 10) (.t 16) (.c (.bool false))⟩, ⟨some 6, none, .asg (.p 17)⟩])
 .ret))⟩
def b_spec_sOwner_0 : AC := (.seq (.reg [⟨some 11, none, .bin .lss (.t 10) (.t 9)⟩])
 (.seq (.cond (.t 11) .skip (.exit 0))
 (.seq (.block 1 (.seq (.reg [⟨some 12, none, .iaddr 4 (.a 8 2) (.t 10)⟩, ⟨some 13, none, .load true 4 (.a 12 2)⟩, ⟨some 6, none, .alloc [.int .i64 0, .int .i64 0, .int .i64 0, .int .i64 0]⟩, ⟨none, none, .store 4 (.t 6) (.a 13 2)⟩])
 (.seq (.reg [⟨some 14, none, .faddr 2 (.t 6)⟩, ⟨some 15, none, .load false 1 (.a 14 6)⟩, ⟨some 16, none, .mv (.p 1)⟩, ⟨some 17, none, .bin .eql (.a 15 6) (.t 16)⟩])
 (.cond (.t 17) (.seq (.reg [⟨some 18, none, .faddr 0 (.t 6)⟩, ⟨some 19, none, .load false 1 (.a 18 6)⟩, ⟨some 4, none, .asg (.p 19)⟩])
 .ret) .skip))))
 (.reg [⟨some 20, none, .bin .add (.t 10) (.c (.int .i64 1))⟩, ⟨some 10, none, .mv (.p 20)⟩]))))
/-- spec.sOwner -/
def a_spec_sOwner : AFn := ⟨2, 21, [.tmp 4], (.seq (.reg [⟨some 2, none, .box (.t 0)⟩, ⟨some 4, none, .asg (.c (.int .i64 0))⟩])
 (.seq (.seq (.reg [⟨some 7, none, .faddr 2 (.t 2)⟩, ⟨some 8, none, .load false 1 (.a 7 2)⟩, ⟨some 9, none, .len (.a 8 2)⟩, ⟨some 10, none, .mv (.c (.int .i64 0))⟩])
 (.block 0 (.loop [1, 2, 8, 9, 10] [4] b_spec_sOwner_0)))
 (.seq (.reg [⟨some 4, none, .asg (.c (.int .i64 (-1)))⟩])
 .ret)))⟩
def b_spec_l1Rising_0 : AC := (.seq (.reg [⟨some 12, none, .bin .lss (.t 11) (.t 10)⟩])
 (.seq (.cond (.t 12) .skip (.exit 0))
 (.seq (.block 1 (.seq (.reg [⟨some 13, none, .mv (.p 11)⟩, ⟨some 14, none, .iaddr 1 (.a 9 0) (.t 11)⟩, ⟨some 15, none, .load false 1 (.a 14 0)⟩, ⟨some 7, none, .asg (.p 13)⟩, ⟨some 8, none, .asg (.p 15)⟩])
 (.seq (.reg [⟨some 16, none, .mv (.p 8)⟩, ⟨some 17, none, .mv (.p 1)⟩, ⟨some 18, none, .mv (.p 2)⟩, ⟨some 19, none, .call n_spec_l1In [.t 16, .t 17, .t 18]⟩, ⟨some 20, none, .un .not (.t 19)⟩, ⟨some 21, none, .mv (.p 20)⟩, ⟨some 22, some (21, false), .mv (.p 7)⟩, ⟨some 23, some (21, false), .bin .gtr (.t 22) (.c (.int .i64 0))⟩, ⟨some 24, some (21, false), .mv (.p 23)⟩, ⟨some 25, some (24, true), .rf (.t 0)⟩, ⟨some 26, some (24, true), .mv (.p 7)⟩, ⟨some 27, some (24, true), .bin .sub (.t 26) (.c (.int .i64 1))⟩, ⟨some 28, some (24, true), .iaddr 1 (.a 25 0) (.t 27)⟩, ⟨some 29, some (24, true), .load false 1 (.a 28 0)⟩, ⟨some 30, some (24, true), .mv (.p 8)⟩, ⟨some 31, some (24, true), .bin .geq (.a 29 0) (.t 30)⟩, ⟨some 32, some (21, false), .pick (.t 24) (.t 31) (.c (.bool false))⟩, ⟨some 33, none, .pick (.t 21) (.c (.bool true)) (.t 32)⟩])
 (.cond (.t 33) (.seq (.reg [⟨some 6, none, .asg (.c (.bool false))⟩])
 .ret) .skip))))
 (.reg [⟨some 34, none, .bin .add (.t 11) (.c (.int .i64 1))⟩, ⟨some 11, none, .mv (.p 34)⟩]))))
/-- spec.l1Rising -/
def a_spec_l1Rising : AFn := ⟨3, 35, [.tmp 6], (.seq (.reg [⟨some 6, none, .asg (.c (.bool false))⟩])
 (.seq (.seq (.reg [⟨some 9, none, .rf (.t 0)⟩, ⟨some 10, none, .len (.a 9 0)⟩, ⟨some 11, none, .mv (.c (.int .i64 0))⟩])
 (.block 0 (.loop [0, 1, 2, 9, 10, 11] [6] b_spec_l1Rising_0)))
 (.seq (.reg [⟨some 6, none, .asg (.c (.bool true))⟩])
 .ret)))⟩
def b_spec_aSide_0 : AC := (.seq (.seq (.reg [⟨some 11, none, .mv (.p 9)⟩, ⟨some 12, none, .bin .lss (.t 11) (.c (.int .i64 6))⟩])
 (.cond (.t 12) .skip (.exit 0)))
 (.seq (.block 1 (.seq (.reg [⟨some 15, none, .faddr 7 (.t 4)⟩, ⟨some 16, none, .load true 5 (.a 15 4)⟩, ⟨some 17, none, .mv (.p 2)⟩, ⟨some 18, none, .mv (.p 9)⟩, ⟨some 19, none, .call n_spec_mNext [.a 16 4, .t 17, .t 18]⟩, ⟨some 10, none, .asg (.p 19)⟩])
 (.seq (.reg [⟨some 20, none, .mv (.p 10)⟩, ⟨some 21, none, .bin .geq (.t 20) (.c (.int .i64 0))⟩, ⟨some 22, none, .mv (.p 21)⟩, ⟨some 23, some (22, true), .mv (.p 10)⟩, ⟨some 24, some (22, true), .faddr 2 (.t 5)⟩, ⟨some 25, some (22, true), .load false 1 (.a 24 5)⟩, ⟨some 26, some (22, true), .mv (.p 3)⟩, ⟨some 27, some (22, true), .iaddr 4 (.a 25 5) (.t 26)⟩, ⟨some 28, some (22, true), .faddr 2 (.a 27 5)⟩, ⟨some 29, some (22, true), .load false 1 (.a 28 5)⟩, ⟨some 30, some (22, true), .bin .eql (.t 23) (.a 29 5)⟩, ⟨some 31, none, .pick (.t 22) (.t 30) (.c (.bool false))⟩])
 (.cond (.t 31) (.seq (.reg [⟨some 32, none, .mv (.p 9)⟩, ⟨some 8, none, .asg (.p 32)⟩])
 .ret) .skip))))
 (.reg [⟨some 13, none, .mv (.p 9)⟩, ⟨some 14, none, .bin .add (.t 13) (.c (.int .i64 1))⟩, ⟨some 9, none, .asg (.p 14)⟩])))
/-- spec.aSide -/
def a_spec_aSide : AFn := ⟨4, 33, [.tmp 8], (.seq (.reg [⟨some 4, none, .box (.t 0)⟩, ⟨some 5, none, .box (.t 1)⟩, ⟨some 8, none, .asg (.c (.int .i64 0))⟩])
 (.seq (.seq (.reg [⟨some 9, none, .asg (.c (.int .i64 0))⟩])
 (.block 0 (.loop [2, 3, 4, 5, 9] [8] b_spec_aSide_0)))
 (.seq (.reg [⟨some 8, none, .asg (.c (.int .i64 (-1)))⟩])
 .ret)))⟩
def b_spec_l1Same_0 : AC := (.seq (.reg [⟨some 14, none, .bin .lss (.t 13) (.t 12)⟩])
 (.seq (.cond (.t 14) .skip (.exit 0))
 (.seq (.block 1 (.seq (.reg [⟨some 15, none, .mv (.p 13)⟩, ⟨some 5, none, .asg (.p 15)⟩])
 (.seq (.reg [⟨some 16, none, .rf (.t 0)⟩, ⟨some 17, none, .mv (.p 5)⟩, ⟨some 18, none, .iaddr 1 (.a 16 0) (.t 17)⟩, ⟨some 19, none, .load false 1 (.a 18 0)⟩, ⟨some 20, none, .rf (.t 1)⟩, ⟨some 21, none, .mv (.p 5)⟩, ⟨some 22, none, .iaddr 1 (.a 20 1) (.t 21)⟩, ⟨some 23, none, .load false 1 (.a 22 1)⟩, ⟨some 24, none, .bin .neq (.a 19 0) (.a 23 1)⟩])
 (.cond (.t 24) (.seq (.reg [⟨some 4, none, .asg (.c (.bool false))⟩])
 .ret) .skip))))
 (.reg [⟨some 25, none, .bin .add (.t 13) (.c (.int .i64 1))⟩, ⟨some 13, none, .mv (.p 25)⟩]))))
/-- spec.l1Same -/
def a_spec_l1Same : AFn := ⟨2, 26, [.tmp 4], (.seq (.reg [⟨some 4, none, .asg (.c (.bool false))⟩])
 (.seq (.seq (.reg [⟨some 6, none, .rf (.t 0)⟩, ⟨some 7, none, .len (.a 6 0)⟩, ⟨some 8, none, .rf (.t 1)⟩, ⟨some 9, none, .len (.a 8 1)⟩, ⟨some 10, none, .bin .neq (.t 7) (.t 9)⟩])
 (.cond (.t 10) (.seq (.reg [⟨some 4, none, .asg (.c (.bool false))⟩])
 .ret) .skip))
 (.seq (.seq (.reg [⟨some 11, none, .rf (.t 0)⟩, ⟨some 12, none, .len (.a 11 0)⟩, ⟨some 13, none, .mv (.c (.int .i64 0))⟩])
 (.block 0 (.loop [0, 1, 12, 13] [4] b_spec_l1Same_0)))
 (.seq (.reg [⟨some 4, none, .asg (.c (.bool true))⟩])
 .ret))))⟩
def b_spec_sAt_0 : AC := (.seq (.reg [⟨some 14, none, .bin .lss (.t 13) (.t 12)⟩])
 (.seq (.cond (.t 14) .skip (.exit 0))
 (.seq (.block 1 (.seq (.reg [⟨some 15, none, .mv (.p 13)⟩, ⟨some 16, none, .iaddr 4 (.a 11 3) (.t 13)⟩, ⟨some 17, none, .load true 4 (.a 16 3)⟩, ⟨some 9, none, .alloc [.int .i64 0, .int .i64 0, .int .i64 0, .int .i64 0]⟩, ⟨some 8, none, .asg (.p 15)⟩, ⟨none, none, .store 4 (.t 9) (.a 17 3)⟩])
 (.seq (.reg [⟨some 18, none, .faddr 2 (.t 9)⟩, ⟨some 19, none, .load false 1 (.a 18 9)⟩, ⟨some 20, none, .mv (.p 1)⟩, ⟨some 21, none, .bin .eql (.a 19 9) (.t 20)⟩, ⟨some 22, none, .mv (.p 21)⟩, ⟨some 23, some (22, true), .faddr 0 (.t 9)⟩, ⟨some 24, some (22, true), .load false 1 (.a 23 9)⟩, ⟨some 25, some (22, true), .mv (.p 2)⟩, ⟨some 26, some (22, true), .bin .eql (.a 24 9) (.t 25)⟩, ⟨some 27, none, .pick (.t 22) (.t 26) (.c (.bool false))⟩])
 (.cond (.t 27) (.reg [⟨some 28, none, .rf (.t 7)⟩, ⟨some 29, none, .mv (.p 8)⟩, ⟨some 30, none, .bslice 1 1 [.int .i64 0] [(0, .p 29)]⟩, ⟨some 31, none, .append 1 (.a 28 7) (.t 30)⟩, ⟨some 7, none, .asg (.t 31)⟩]) .skip))))
 (.reg [⟨some 32, none, .bin .add (.t 13) (.c (.int .i64 1))⟩, ⟨some 13, none, .mv (.p 32)⟩]))))
/-- spec.sAt -/
def a_spec_sAt : AFn := ⟨3, 34, [.tmp 6], (.seq (.reg [⟨some 3, none, .box (.t 0)⟩, ⟨some 6, none, .asg (.c (.list true 1 []))⟩])
 (.seq (.reg [⟨some 7, none, .asg (.c (.list true 1 []))⟩])
 (.seq (.seq (.reg [⟨some 10, none, .faddr 2 (.t 3)⟩, ⟨some 11, none, .load false 1 (.a 10 3)⟩, ⟨some 12, none, .len (.a 11 3)⟩, ⟨some 13, none, .mv (.c (.int .i64 0))⟩])
 (.block 0 (.loop [1, 2, 3, 7, 11, 12, 13] [6, 7] b_spec_sAt_0)))
 (.seq (.reg [⟨some 33, none, .rf (.t 7)⟩, ⟨some 6, none, .asg (.a 33 7)⟩])
 .ret))))⟩
/-- spec.aForce -/
def a_spec_aForce : AFn := ⟨3, 26, [.tmp 6], (.seq (.reg [⟨some 3, none, .box (.t 0)⟩, ⟨some 4, none, .box (.t 1)⟩, ⟨some 6, none, .asg (.c (.int .i64 0))⟩])
 (.seq (.reg [⟨some 7, none, .faddr 0 (.t 3)⟩, ⟨some 8, none, .faddr 1 (.a 7 3)⟩, ⟨some 9, none, .load false 1 (.a 8 3)⟩, ⟨some 10, none, .faddr 2 (.t 4)⟩, ⟨some 11, none, .load false 1 (.a 10 4)⟩, ⟨some 12, none, .mv (.p 2)⟩, ⟨some 13, none, .iaddr 4 (.a 11 4) (.t 12)⟩, ⟨some 14, none, .faddr 1 (.a 13 4)⟩, ⟨some 15, none, .load false 1 (.a 14 4)⟩, ⟨some 16, none, .iaddr 6 (.a 9 3) (.a 15 4)⟩, ⟨some 17, none, .faddr 1 (.a 16 3)⟩, ⟨some 18, none, .load false 1 (.a 17 3)⟩, ⟨some 19, none, .faddr 2 (.t 4)⟩, ⟨some 20, none, .load false 1 (.a 19 4)⟩, ⟨some 21, none, .mv (.p 2)⟩, ⟨some 22, none, .iaddr 4 (.a 20 4) (.t 21)⟩, ⟨some 23, none, .faddr 3 (.a 22 4)⟩, ⟨some 24, none, .load false 1 (.a 23 4)⟩, ⟨some 25, none, .bin .mul (.a 18 3) (.a 24 4)⟩, ⟨some 6, none, .asg (.p 25)⟩])
 .ret))⟩
def b_impl_goodBattle_0 : AC := (.seq (.reg [⟨some 47, none, .bin .lss (.t 46) (.t 45)⟩])
 (.seq (.cond (.t 47) .skip (.exit 0))
 (.seq (.block 1 (.seq (.reg [⟨some 48, none, .iaddr 1 (.a 44 5) (.t 46)⟩, ⟨some 49, none, .load false 1 (.a 48 5)⟩, ⟨some 8, none, .asg (.p 49)⟩])
 (.seq (.reg [⟨some 50, none, .mv (.p 8)⟩, ⟨some 51, none, .faddr 2 (.t 4)⟩, ⟨some 52, none, .load false 1 (.a 51 4)⟩, ⟨some 53, none, .len (.a 52 4)⟩, ⟨some 54, none, .call n_impl_isIndex [.t 50, .t 53]⟩, ⟨some 55, none, .un .not (.t 54)⟩, ⟨some 56, none, .mv (.p 55)⟩, ⟨some 57, some (56, false), .faddr 2 (.t 4)⟩, ⟨some 58, some (56, false), .load false 1 (.a 57 4)⟩, ⟨some 59, some (56, false), .mv (.p 8)⟩, ⟨some 60, some (56, false), .iaddr 4 (.a 58 4) (.t 59)⟩, ⟨some 61, some (56, false), .faddr 0 (.a 60 4)⟩, ⟨some 62, some (56, false), .load false 1 (.a 61 4)⟩, ⟨some 63, some (56, false), .load true 3 (.t 4)⟩, ⟨some 64, some (56, false), .faddr 0 (.t 5)⟩, ⟨some 65, some (56, false), .load false 1 (.a 64 5)⟩, ⟨some 66, some (56, false), .call n_impl_ownerOf [.a 63 4, .a 65 5]⟩, ⟨some 67, some (56, false), .bin .eql (.a 62 4) (.t 66)⟩, ⟨some 68, none, .pick (.t 56) (.c (.bool true)) (.t 67)⟩, ⟨some 69, none, .mv (.p 68)⟩, ⟨some 70, some (69, false), .load true 12 (.t 3)⟩, ⟨some 71, some (69, false), .faddr 2 (.t 4)⟩, ⟨some 72, some (69, false), .load false 1 (.a 71 4)⟩, ⟨some 73, some (69, false), .mv (.p 8)⟩, ⟨some 74, some (69, false), .iaddr 4 (.a 72 4) (.t 73)⟩, ⟨some 75, some (69, false), .load true 4 (.a 74 4)⟩, ⟨some 76, some (69, false), .faddr 0 (.t 5)⟩, ⟨some 77, some (69, false), .load false 1 (.a 76 5)⟩, ⟨some 78, some (69, false), .call n_impl_isNear [.a 70 3, .a 75 4, .a 77 5]⟩, ⟨some 79, some (69, false), .un .not (.t 78)⟩, ⟨some 80, none, .pick (.t 69) (.c (.bool true)) (.t 79)⟩])
 (.cond (.t 80) (.seq (.reg [⟨some 6, none, .asg (.c (.bool false))⟩])
 .ret) .skip))))
 (.reg [⟨some 81, none, .bin .add (.t 46) (.c (.int .i64 1))⟩, ⟨some 46, none, .mv (.p 81)⟩]))))
/-- impl.goodBattle -/
def a_impl_goodBattle : AFn := ⟨3, 82, [.tmp 6], (.seq (.reg [⟨some 3, none, .box (.t 0)⟩, ⟨some 4, none, .box (.t 1)⟩, ⟨some 5, none, .box (.t 2)⟩, ⟨some 6, none, .asg (.c (.bool false))⟩])
 (.seq (.seq (.reg [⟨some 9, none, .faddr 0 (.t 5)⟩, ⟨some 10, none, .load false 1 (.a 9 5)⟩, ⟨some 11, none, .load true 12 (.t 3)⟩, ⟨some 12, none, .call n_impl_sizeOf [.a 11 3]⟩, ⟨some 13, none, .call n_impl_isIndex [.a 10 5, .t 12]⟩, ⟨some 14, none, .un .not (.t 13)⟩, ⟨some 15, none, .mv (.p 14)⟩, ⟨some 16, some (15, false), .faddr 2 (.t 5)⟩, ⟨some 17, some (15, false), .load false 1 (.a 16 5)⟩, ⟨some 18, some (15, false), .len (.a 17 5)⟩, ⟨some 19, some (15, false), .bin .eql (.t 18) (.c (.int .i64 0))⟩, ⟨some 20, none, .pick (.t 15) (.c (.bool true)) (.t 19)⟩, ⟨some 21, none, .mv (.p 20)⟩, ⟨some 22, some (21, false), .faddr 2 (.t 5)⟩, ⟨some 23, some (21, false), .load false 1 (.a 22 5)⟩, ⟨some 24, some (21, false), .load true 3 (.t 4)⟩, ⟨some 25, some (21, false), .faddr 0 (.t 5)⟩, ⟨some 26, some (21, false), .load false 1 (.a 25 5)⟩, ⟨some 27, some (21, false), .call n_impl_unitsAt [.a 24 4, .a 26 5]⟩, ⟨some 28, some (21, false), .call n_slices_Equal_int_int [.a 23 5, .t 27]⟩, ⟨some 29, some (21, false), .un .not (.t 28)⟩, ⟨some 30, none, .pick (.t 21) (.c (.bool true)) (.t 29)⟩, ⟨some 31, none, .mv (.p 30)⟩, ⟨some 32, some (31, false), .faddr 1 (.t 5)⟩, ⟨some 33, some (31, false), .load false 1 (.a 32 5)⟩, ⟨some 34, some (31, false), .len (.a 33 5)⟩, ⟨some 35, some (31, false), .bin .eql (.t 34) (.c (.int .i64 0))⟩, ⟨some 36, none, .pick (.t 31) (.c (.bool true)) (.t 35)⟩, ⟨some 37, none, .mv (.p 36)⟩, ⟨some 38, some (37, false), .faddr 1 (.t 5)⟩, ⟨some 39, some (37, false), .load false 1 (.a 38 5)⟩, ⟨some 40, some (37, false), .call n_impl_increasing [.a 39 5]⟩, ⟨some 41, some (37, false), .un .not (.t 40)⟩, ⟨some 42, none, .pick (.t 37) (.c (.bool true)) (.t 41)⟩])
 (.cond (.t 42) (.seq (.reg [⟨some 6, none, .asg (.c (.bool false))⟩])
 .ret) .skip))
 (.seq (.seq (.reg [⟨some 43, none, .faddr 1 (.t 5)⟩, ⟨some 44, none, .load false 1 (.a 43 5)⟩, ⟨some 45, none, .len (.a 44 5)⟩, ⟨some 46, none, .mv (.c (.int .i64 0))⟩])
 (.block 0 (.loop [3, 4, 5, 44, 45, 46] [6] b_impl_goodBattle_0)))
 (.seq (.reg [⟨some 6, none, .asg (.c (.bool true))⟩])
 .ret))))⟩
/-- impl.forceOf -/
def a_impl_forceOf : AFn := ⟨2, 16, [.tmp 4], (.seq (.reg [⟨some 2, none, .box (.t 0)⟩, ⟨some 3, none, .box (.t 1)⟩, ⟨some 4, none, .asg (.c (.int .i64 0))⟩])
 (.seq (.reg [⟨some 5, none, .faddr 0 (.t 2)⟩, ⟨some 6, none, .faddr 1 (.a 5 2)⟩, ⟨some 7, none, .load false 1 (.a 6 2)⟩, ⟨some 8, none, .faddr 1 (.t 3)⟩, ⟨some 9, none, .load false 1 (.a 8 3)⟩, ⟨some 10, none, .iaddr 6 (.a 7 2) (.a 9 3)⟩, ⟨some 11, none, .faddr 1 (.a 10 2)⟩, ⟨some 12, none, .load false 1 (.a 11 2)⟩, ⟨some 13, none, .faddr 3 (.t 3)⟩, ⟨some 14, none, .load false 1 (.a 13 3)⟩, ⟨some 15, none, .bin .mul (.a 12 2) (.a 14 3)⟩, ⟨some 4, none, .asg (.p 15)⟩])
 .ret))⟩
/-- spec.bTerrain -/
def a_spec_bTerrain : AFn := ⟨2, 16, [.cell 4 5 true], (.seq (.reg [⟨some 2, none, .box (.t 0)⟩, ⟨some 4, none, .alloc [.str ⟨#[]⟩, .list true 1 [], .int .i64 0, .int .i64 0, .bool false]⟩])
 (.seq (.reg [⟨some 5, none, .faddr 0 (.t 2)⟩, ⟨some 6, none, .faddr 0 (.a 5 2)⟩, ⟨some 7, none, .load false 1 (.a 6 2)⟩, ⟨some 8, none, .faddr 7 (.t 2)⟩, ⟨some 9, none, .faddr 2 (.a 8 2)⟩, ⟨some 10, none, .load false 1 (.a 9 2)⟩, ⟨some 11, none, .mv (.p 1)⟩, ⟨some 12, none, .iaddr 1 (.a 10 2) (.t 11)⟩, ⟨some 13, none, .load false 1 (.a 12 2)⟩, ⟨some 14, none, .iaddr 5 (.a 7 2) (.a 13 2)⟩, ⟨some 15, none, .load true 5 (.a 14 2)⟩, ⟨none, none, .store 5 (.t 4) (.a 15 2)⟩])
 .ret))⟩
def b_spec_l1Has_0 : AC := (.seq (.reg [⟨some 10, none, .bin .lss (.t 9) (.t 8)⟩])
 (.seq (.cond (.t 10) .skip (.exit 0))
 (.seq (.block 1 (.seq (.reg [⟨some 11, none, .iaddr 1 (.a 7 0) (.t 9)⟩, ⟨some 12, none, .load false 1 (.a 11 0)⟩, ⟨some 6, none, .asg (.p 12)⟩])
 (.seq (.reg [⟨some 13, none, .mv (.p 6)⟩, ⟨some 14, none, .mv (.p 1)⟩, ⟨some 15, none, .bin .eql (.t 13) (.t 14)⟩])
 (.cond (.t 15) (.seq (.reg [⟨some 4, none, .asg (.c (.bool true))⟩])
 .ret) .skip))))
 (.reg [⟨some 16, none, .bin .add (.t 9) (.c (.int .i64 1))⟩, ⟨some 9, none, .mv (.p 16)⟩]))))
/-- spec.l1Has -/
def a_spec_l1Has : AFn := ⟨2, 17, [.tmp 4], (.seq (.reg [⟨some 4, none, .asg (.c (.bool false))⟩])
 (.seq (.seq (.reg [⟨some 7, none, .rf (.t 0)⟩, ⟨some 8, none, .len (.a 7 0)⟩, ⟨some 9, none, .mv (.c (.int .i64 0))⟩])
 (.block 0 (.loop [0, 1, 7, 8, 9] [4] b_spec_l1Has_0)))
 (.seq (.reg [⟨some 4, none, .asg (.c (.bool false))⟩])
 .ret)))⟩
/-- impl.terrainAt -/
def a_impl_terrainAt : AFn := ⟨2, 16, [.cell 4 5 true], (.seq (.reg [⟨some 2, none, .box (.t 0)⟩, ⟨some 4, none, .alloc [.str ⟨#[]⟩, .list true 1 [], .int .i64 0, .int .i64 0, .bool false]⟩])
 (.seq (.reg [⟨some 5, none, .faddr 0 (.t 2)⟩, ⟨some 6, none, .faddr 0 (.a 5 2)⟩, ⟨some 7, none, .load false 1 (.a 6 2)⟩, ⟨some 8, none, .faddr 7 (.t 2)⟩, ⟨some 9, none, .faddr 2 (.a 8 2)⟩, ⟨some 10, none, .load false 1 (.a 9 2)⟩, ⟨some 11, none, .mv (.p 1)⟩, ⟨some 12, none, .iaddr 1 (.a 10 2) (.t 11)⟩, ⟨some 13, none, .load false 1 (.a 12 2)⟩, ⟨some 14, none, .iaddr 5 (.a 7 2) (.a 13 2)⟩, ⟨some 15, none, .load true 5 (.a 14 2)⟩, ⟨none, none, .store 5 (.t 4) (.a 15 2)⟩])
 .ret))⟩
/-- spec.bGood -/
def a_spec_bGood : AFn := ⟨1, 22, [.tmp 2], (.seq (.reg [⟨some 1, none, .box (.t 0)⟩, ⟨some 2, none, .asg (.c (.bool false))⟩])
 (.seq (.reg [⟨some 3, none, .faddr 0 (.t 1)⟩, ⟨some 4, none, .load true 7 (.a 3 1)⟩, ⟨some 5, none, .call n_spec_rGood [.a 4 1]⟩, ⟨some 6, none, .mv (.p 5)⟩, ⟨some 7, some (6, true), .faddr 7 (.t 1)⟩, ⟨some 8, some (6, true), .load true 5 (.a 7 1)⟩, ⟨some 9, some (6, true), .call n_spec_mGood [.a 8 1]⟩, ⟨some 10, none, .pick (.t 6) (.t 9) (.c (.bool false))⟩, ⟨some 11, none, .mv (.p 10)⟩, ⟨some 12, some (11, true), .faddr 7 (.t 1)⟩, ⟨some 13, some (11, true), .faddr 2 (.a 12 1)⟩, ⟨some 14, some (11, true), .load false 1 (.a 13 1)⟩, ⟨some 15, some (11, true), .faddr 0 (.t 1)⟩, ⟨some 16, some (11, true), .faddr 0 (.a 15 1)⟩, ⟨some 17, some (11, true), .load false 1 (.a 16 1)⟩, ⟨some 18, some (11, true), .len (.a 17 1)⟩, ⟨some 19, some (11, true), .bin .sub (.t 18) (.c (.int .i64 1))⟩, ⟨some 20, some (11, true), .call n_spec_l1All [.a 14 1, .c (.int .i64 0), .t 19]⟩, ⟨some 21, none, .pick (.t 11) (.t 20) (.c (.bool false))⟩, ⟨some 2, none, .asg (.p 21)⟩])
 .ret))⟩
/-- spec.sUnit -/
def a_spec_sUnit : AFn := ⟨2, 60, [.tmp 4], (.seq (.reg [⟨some 2, none, .box (.t 0)⟩, ⟨some 3, none, .box (.t 1)⟩, ⟨some 4, none, .asg (.c (.bool false))⟩])
 (.seq (.seq (.reg [⟨some 5, none, .faddr 0 (.t 3)⟩, ⟨some 6, none, .load false 1 (.a 5 3)⟩, ⟨some 7, none, .call n_spec_l1In [.a 6 3, .c (.int .i64 0), .c (.int .i64 1)]⟩, ⟨some 8, none, .un .not (.t 7)⟩, ⟨some 9, none, .mv (.p 8)⟩, ⟨some 10, some (9, false), .faddr 1 (.t 3)⟩, ⟨some 11, some (9, false), .load false 1 (.a 10 3)⟩, ⟨some 12, some (9, false), .faddr 0 (.t 2)⟩, ⟨some 13, some (9, false), .faddr 1 (.a 12 2)⟩, ⟨some 14, some (9, false), .load false 1 (.a 13 2)⟩, ⟨some 15, some (9, false), .len (.a 14 2)⟩, ⟨some 16, some (9, false), .bin .sub (.t 15) (.c (.int .i64 1))⟩, ⟨some 17, some (9, false), .call n_spec_l1In [.a 11 3, .c (.int .i64 0), .t 16]⟩, ⟨some 18, some (9, false), .un .not (.t 17)⟩, ⟨some 19, none, .pick (.t 9) (.c (.bool true)) (.t 18)⟩, ⟨some 20, none, .mv (.p 19)⟩, ⟨some 21, some (20, false), .faddr 3 (.t 3)⟩, ⟨some 22, some (20, false), .load false 1 (.a 21 3)⟩, ⟨some 23, some (20, false), .faddr 0 (.t 2)⟩, ⟨some 24, some (20, false), .faddr 1 (.a 23 2)⟩, ⟨some 25, some (20, false), .load false 1 (.a 24 2)⟩, ⟨some 26, some (20, false), .faddr 1 (.t 3)⟩, ⟨some 27, some (20, false), .load false 1 (.a 26 3)⟩, ⟨some 28, some (20, false), .iaddr 6 (.a 25 2) (.a 27 3)⟩, ⟨some 29, some (20, false), .faddr 3 (.a 28 2)⟩, ⟨some 30, some (20, false), .load false 1 (.a 29 2)⟩, ⟨some 31, some (20, false), .call n_spec_l1In [.a 22 3, .c (.int .i64 0), .a 30 2]⟩, ⟨some 32, some (20, false), .un .not (.t 31)⟩, ⟨some 33, none, .pick (.t 20) (.c (.bool true)) (.t 32)⟩])
 (.cond (.t 33) (.seq (.reg [⟨some 4, none, .asg (.c (.bool false))⟩])
 .ret) .skip))
 (.seq (.reg [⟨some 34, none, .faddr 2 (.t 3)⟩, ⟨some 35, none, .load false 1 (.a 34 3)⟩, ⟨some 36, none, .bin .eql (.a 35 3) (.c (.int .i64 (-1)))⟩, ⟨some 37, none, .mv (.p 36)⟩, ⟨some 38, some (37, false), .faddr 3 (.t 3)⟩, ⟨some 39, some (37, false), .load false 1 (.a 38 3)⟩, ⟨some 40, some (37, false), .bin .gtr (.a 39 3) (.c (.int .i64 0))⟩, ⟨some 41, some (37, false), .mv (.p 40)⟩, ⟨some 42, some (41, true), .faddr 2 (.t 3)⟩, ⟨some 43, some (41, true), .load false 1 (.a 42 3)⟩, ⟨some 44, some (41, true), .faddr 7 (.t 2)⟩, ⟨some 45, some (41, true), .load true 5 (.a 44 2)⟩, ⟨some 46, some (41, true), .call n_spec_mSize [.a 45 2]⟩, ⟨some 47, some (41, true), .bin .sub (.t 46) (.c (.int .i64 1))⟩, ⟨some 48, some (41, true), .call n_spec_l1In [.a 43 3, .c (.int .i64 0), .t 47]⟩, ⟨some 49, some (37, false), .pick (.t 41) (.t 48) (.c (.bool false))⟩, ⟨some 50, some (37, false), .mv (.p 49)⟩, ⟨some 51, some (50, true), .load true 12 (.t 2)⟩, ⟨some 52, some (50, true), .faddr 1 (.t 3)⟩, ⟨some 53, some (50, true), .load false 1 (.a 52 3)⟩, ⟨some 54, some (50, true), .faddr 2 (.t 3)⟩, ⟨some 55, some (50, true), .load false 1 (.a 54 3)⟩, ⟨some 56, some (50, true), .call n_spec_bCost [.a 51 2, .a 53 3, .a 55 3]⟩, ⟨some 57, some (50, true), .bin .gtr (.t 56) (.c (.int .i64 0))⟩, ⟨some 58, some (37, false), .pick (.t 50) (.t 57) (.c (.bool false))⟩, ⟨some 59, none, .pick (.t 37) (.c (.bool true)) (.t 58)⟩, ⟨some 4, none, .asg (.p 59)⟩])
 .ret)))⟩
def b_spec_fTry_0 : AC := (.seq (.seq (.reg [⟨some 34, none, .mv (.p 7)⟩, ⟨some 35, none, .bin .lss (.t 34) (.c (.int .i64 6))⟩])
 (.cond (.t 35) .skip (.exit 0)))
 (.seq (.block 1 (.seq (.reg [⟨some 38, none, .faddr 7 (.t 3)⟩, ⟨some 39, none, .load true 5 (.a 38 3)⟩, ⟨some 40, none, .faddr 1 (.t 5)⟩, ⟨some 41, none, .load false 1 (.a 40 5)⟩, ⟨some 42, none, .mv (.p 7)⟩, ⟨some 43, none, .call n_spec_mNext [.a 39 3, .a 41 5, .t 42]⟩, ⟨some 8, none, .asg (.p 43)⟩])
 (.seq (.reg [⟨some 44, none, .mv (.p 8)⟩, ⟨some 45, none, .bin .geq (.t 44) (.c (.int .i64 0))⟩, ⟨some 46, none, .mv (.p 45)⟩, ⟨some 47, some (46, true), .mv (.p 8)⟩, ⟨some 48, some (46, true), .faddr 2 (.t 5)⟩, ⟨some 49, some (46, true), .load false 1 (.a 48 5)⟩, ⟨some 50, some (46, true), .bin .eql (.t 47) (.a 49 5)⟩, ⟨some 51, none, .pick (.t 46) (.t 50) (.c (.bool false))⟩])
 (.cond (.t 51) (.seq (.reg [⟨some 52, none, .load true 12 (.t 3)⟩, ⟨some 53, none, .faddr 2 (.t 4)⟩, ⟨some 54, none, .load false 1 (.a 53 4)⟩, ⟨some 55, none, .faddr 0 (.t 5)⟩, ⟨some 56, none, .load false 1 (.a 55 5)⟩, ⟨some 57, none, .iaddr 4 (.a 54 4) (.a 56 5)⟩, ⟨some 58, none, .faddr 1 (.a 57 4)⟩, ⟨some 59, none, .load false 1 (.a 58 4)⟩, ⟨some 60, none, .faddr 1 (.t 5)⟩, ⟨some 61, none, .load false 1 (.a 60 5)⟩, ⟨some 62, none, .mv (.p 7)⟩, ⟨some 63, none, .faddr 1 (.t 4)⟩, ⟨some 64, none, .load false 1 (.a 63 4)⟩, ⟨some 65, none, .call n_spec_cStep [.a 52 3, .a 59 4, .a 61 5, .t 62, .a 64 4]⟩, ⟨some 66, none, .bin .gtr (.t 65) (.c (.int .i64 0))⟩, ⟨some 6, none, .asg (.p 66)⟩])
 .ret) .skip))))
 (.reg [⟨some 36, none, .mv (.p 7)⟩, ⟨some 37, none, .bin .add (.t 36) (.c (.int .i64 1))⟩, ⟨some 7, none, .asg (.p 37)⟩])))
/-- spec.fTry -/
def a_spec_fTry : AFn := ⟨3, 67, [.tmp 6], (.seq (.reg [⟨some 3, none, .box (.t 0)⟩, ⟨some 4, none, .box (.t 1)⟩, ⟨some 5, none, .box (.t 2)⟩, ⟨some 6, none, .asg (.c (.bool false))⟩])
 (.seq (.seq (.reg [⟨some 9, none, .faddr 0 (.t 5)⟩, ⟨some 10, none, .load false 1 (.a 9 5)⟩, ⟨some 11, none, .faddr 2 (.t 4)⟩, ⟨some 12, none, .load false 1 (.a 11 4)⟩, ⟨some 13, none, .len (.a 12 4)⟩, ⟨some 14, none, .bin .sub (.t 13) (.c (.int .i64 1))⟩, ⟨some 15, none, .call n_spec_l1In [.a 10 5, .c (.int .i64 0), .t 14]⟩, ⟨some 16, none, .un .not (.t 15)⟩, ⟨some 17, none, .mv (.p 16)⟩, ⟨some 18, some (17, false), .faddr 1 (.t 5)⟩, ⟨some 19, some (17, false), .load false 1 (.a 18 5)⟩, ⟨some 20, some (17, false), .bin .lss (.a 19 5) (.c (.int .i64 0))⟩, ⟨some 21, none, .pick (.t 17) (.c (.bool true)) (.t 20)⟩, ⟨some 22, none, .mv (.p 21)⟩, ⟨some 23, some (22, false), .faddr 2 (.t 4)⟩, ⟨some 24, some (22, false), .load false 1 (.a 23 4)⟩, ⟨some 25, some (22, false), .faddr 0 (.t 5)⟩, ⟨some 26, some (22, false), .load false 1 (.a 25 5)⟩, ⟨some 27, some (22, false), .iaddr 4 (.a 24 4) (.a 26 5)⟩, ⟨some 28, some (22, false), .faddr 2 (.a 27 4)⟩, ⟨some 29, some (22, false), .load false 1 (.a 28 4)⟩, ⟨some 30, some (22, false), .faddr 1 (.t 5)⟩, ⟨some 31, some (22, false), .load false 1 (.a 30 5)⟩, ⟨some 32, some (22, false), .bin .neq (.a 29 4) (.a 31 5)⟩, ⟨some 33, none, .pick (.t 22) (.c (.bool true)) (.t 32)⟩])
 (.cond (.t 33) (.seq (.reg [⟨some 6, none, .asg (.c (.bool false))⟩])
 .ret) .skip))
 (.seq (.seq (.reg [⟨some 7, none, .asg (.c (.int .i64 0))⟩])
 (.block 0 (.loop [3, 4, 5, 7] [6] b_spec_fTry_0)))
 (.seq (.reg [⟨some 6, none, .asg (.c (.bool false))⟩])
 .ret))))⟩
/-- impl.IsBoard -/
def a_impl_IsBoard : AFn := ⟨1, 19, [.tmp 2], (.seq (.reg [⟨some 1, none, .box (.t 0)⟩, ⟨some 2, none, .asg (.c (.bool false))⟩])
 (.seq (.seq (.reg [⟨some 3, none, .faddr 0 (.t 1)⟩, ⟨some 4, none, .load true 7 (.a 3 1)⟩, ⟨some 5, none, .call n_impl_IsRules [.a 4 1]⟩, ⟨some 6, none, .un .not (.t 5)⟩, ⟨some 7, none, .mv (.p 6)⟩, ⟨some 8, some (7, false), .faddr 7 (.t 1)⟩, ⟨some 9, some (7, false), .load true 5 (.a 8 1)⟩, ⟨some 10, some (7, false), .call n_impl_IsMap [.a 9 1]⟩, ⟨some 11, some (7, false), .un .not (.t 10)⟩, ⟨some 12, none, .pick (.t 7) (.c (.bool true)) (.t 11)⟩])
 (.cond (.t 12) (.seq (.reg [⟨some 2, none, .asg (.c (.bool false))⟩])
 .ret) .skip))
 (.seq (.reg [⟨some 13, none, .faddr 7 (.t 1)⟩, ⟨some 14, none, .faddr 2 (.a 13 1)⟩, ⟨some 15, none, .load false 1 (.a 14 1)⟩, ⟨some 16, none, .mkf n_impl_IsBoard_1 [.t 1]⟩, ⟨some 17, none, .call n_slices_ContainsFunc_int_int [.a 15 1, .t 16]⟩, ⟨some 18, none, .un .not (.t 17)⟩, ⟨some 2, none, .asg (.p 18)⟩])
 .ret)))⟩
def b_impl_goodState_0 : AC := (.seq (.reg [⟨some 34, none, .bin .lss (.t 33) (.t 32)⟩])
 (.seq (.cond (.t 34) .skip (.exit 0))
 (.seq (.block 1 (.seq (.reg [⟨some 35, none, .iaddr 4 (.a 31 3) (.t 33)⟩, ⟨some 36, none, .load true 4 (.a 35 3)⟩, ⟨some 7, none, .alloc [.int .i64 0, .int .i64 0, .int .i64 0, .int .i64 0]⟩, ⟨none, none, .store 4 (.t 7) (.a 36 3)⟩])
 (.seq (.seq (.reg [⟨some 37, none, .load true 12 (.t 2)⟩, ⟨some 38, none, .load true 4 (.t 7)⟩, ⟨some 39, none, .call n_impl_goodUnit [.a 37 2, .a 38 7]⟩, ⟨some 40, none, .un .not (.t 39)⟩])
 (.cond (.t 40) (.seq (.reg [⟨some 4, none, .asg (.c (.bool false))⟩])
 .ret) .skip))
 (.seq (.seq (.reg [⟨some 41, none, .faddr 2 (.t 7)⟩, ⟨some 42, none, .load false 1 (.a 41 7)⟩, ⟨some 43, none, .bin .lss (.a 42 7) (.c (.int .i64 0))⟩])
 (.cond (.t 43) (.exit 1) .skip))
 (.seq (.reg [⟨some 44, none, .rf (.t 5)⟩, ⟨some 45, none, .faddr 2 (.t 7)⟩, ⟨some 46, none, .load false 1 (.a 45 7)⟩, ⟨some 47, none, .faddr 0 (.t 7)⟩, ⟨some 48, none, .load false 1 (.a 47 7)⟩, ⟨some 49, none, .iaddr 2 (.a 44 5) (.a 46 7)⟩, ⟨some 50, none, .aaddr 2 1 (.a 49 5) (.a 48 7)⟩, ⟨some 51, none, .load false 1 (.a 50 5)⟩, ⟨some 52, none, .bin .add (.a 51 5) (.c (.int .i64 1))⟩, ⟨some 53, none, .iaddr 2 (.a 44 5) (.a 46 7)⟩, ⟨some 54, none, .aaddr 2 1 (.a 53 5) (.a 48 7)⟩, ⟨none, none, .store 1 (.a 54 5) (.p 52)⟩])
 (.seq (.reg [⟨some 55, none, .rf (.t 5)⟩, ⟨some 56, none, .faddr 2 (.t 7)⟩, ⟨some 57, none, .load false 1 (.a 56 7)⟩, ⟨some 58, none, .faddr 0 (.t 7)⟩, ⟨some 59, none, .load false 1 (.a 58 7)⟩, ⟨some 60, none, .bin .sub (.c (.int .i64 1)) (.a 59 7)⟩, ⟨some 61, none, .iaddr 2 (.a 55 5) (.a 57 7)⟩, ⟨some 62, none, .aaddr 2 1 (.a 61 5) (.t 60)⟩, ⟨some 63, none, .load false 1 (.a 62 5)⟩, ⟨some 64, none, .bin .gtr (.a 63 5) (.c (.int .i64 0))⟩, ⟨some 65, none, .mv (.p 64)⟩, ⟨some 66, some (65, false), .rf (.t 5)⟩, ⟨some 67, some (65, false), .faddr 2 (.t 7)⟩, ⟨some 68, some (65, false), .load false 1 (.a 67 7)⟩, ⟨some 69, some (65, false), .faddr 0 (.t 7)⟩, ⟨some 70, some (65, false), .load false 1 (.a 69 7)⟩, ⟨some 71, some (65, false), .iaddr 2 (.a 66 5) (.a 68 7)⟩, ⟨some 72, some (65, false), .aaddr 2 1 (.a 71 5) (.a 70 7)⟩, ⟨some 73, some (65, false), .load false 1 (.a 72 5)⟩, ⟨some 74, some (65, false), .faddr 0 (.t 2)⟩, ⟨some 75, some (65, false), .faddr 2 (.a 74 2)⟩, ⟨some 76, some (65, false), .load false 1 (.a 75 2)⟩, ⟨some 77, some (65, false), .bin .gtr (.a 73 5) (.a 76 2)⟩, ⟨some 78, none, .pick (.t 65) (.c (.bool true)) (.t 77)⟩])
 (.cond (.t 78) (.seq (.reg [⟨some 4, none, .asg (.c (.bool false))⟩])
 .ret) .skip)))))))
 (.reg [⟨some 79, none, .bin .add (.t 33) (.c (.int .i64 1))⟩, ⟨some 33, none, .mv (.p 79)⟩]))))
/-- impl.goodState -/
def a_impl_goodState : AFn := ⟨2, 80, [.tmp 4], (.seq (.reg [⟨some 2, none, .box (.t 0)⟩, ⟨some 3, none, .box (.t 1)⟩, ⟨some 4, none, .asg (.c (.bool false))⟩])
 (.seq (.seq (.reg [⟨some 8, none, .faddr 0 (.t 3)⟩, ⟨some 9, none, .load false 1 (.a 8 3)⟩, ⟨some 10, none, .faddr 0 (.t 2)⟩, ⟨some 11, none, .faddr 6 (.a 10 2)⟩, ⟨some 12, none, .load false 1 (.a 11 2)⟩, ⟨some 13, none, .call n_impl_inRange [.a 9 3, .c (.int .i64 0), .a 12 2]⟩, ⟨some 14, none, .un .not (.t 13)⟩, ⟨some 15, none, .mv (.p 14)⟩, ⟨some 16, some (15, false), .faddr 1 (.t 3)⟩, ⟨some 17, some (15, false), .load false 1 (.a 16 3)⟩, ⟨some 18, some (15, false), .call n_impl_inRange [.a 17 3, .c (.int .i64 0), .c (.int .i64 2)]⟩, ⟨some 19, some (15, false), .un .not (.t 18)⟩, ⟨some 20, none, .pick (.t 15) (.c (.bool true)) (.t 19)⟩, ⟨some 21, none, .mv (.p 20)⟩, ⟨some 22, some (21, false), .faddr 2 (.t 3)⟩, ⟨some 23, some (21, false), .load false 1 (.a 22 3)⟩, ⟨some 24, some (21, false), .len (.a 23 3)⟩, ⟨some 25, some (21, false), .bin .gtr (.t 24) (.c (.int .i64 12))⟩, ⟨some 26, none, .pick (.t 21) (.c (.bool true)) (.t 25)⟩])
 (.cond (.t 26) (.seq (.reg [⟨some 4, none, .asg (.c (.bool false))⟩])
 .ret) .skip))
 (.seq (.reg [⟨some 27, none, .load true 12 (.t 2)⟩, ⟨some 28, none, .call n_impl_sizeOf [.a 27 2]⟩, ⟨some 29, none, .mslice 2 [.int .i64 0, .int .i64 0] (.t 28)⟩, ⟨some 5, none, .asg (.t 29)⟩])
 (.seq (.seq (.reg [⟨some 30, none, .faddr 2 (.t 3)⟩, ⟨some 31, none, .load false 1 (.a 30 3)⟩, ⟨some 32, none, .len (.a 31 3)⟩, ⟨some 33, none, .mv (.c (.int .i64 0))⟩])
 (.block 0 (.loop [2, 3, 5, 31, 32, 33] [4] b_impl_goodState_0)))
 (.seq (.reg [⟨some 4, none, .asg (.c (.bool true))⟩])
 .ret)))))⟩
/-- spec.mRiver -/
def a_spec_mRiver : AFn := ⟨3, 14, [.tmp 6], (.seq (.reg [⟨some 3, none, .box (.t 0)⟩, ⟨some 6, none, .asg (.c (.bool false))⟩])
 (.seq (.reg [⟨some 7, none, .faddr 3 (.t 3)⟩, ⟨some 8, none, .load false 1 (.a 7 3)⟩, ⟨some 9, none, .load true 5 (.t 3)⟩, ⟨some 10, none, .mv (.p 1)⟩, ⟨some 11, none, .mv (.p 2)⟩, ⟨some 12, none, .call n_spec_mEdge [.a 9 3, .t 10, .t 11]⟩, ⟨some 13, none, .call n_spec_l1Has [.a 8 3, .t 12]⟩, ⟨some 6, none, .asg (.p 13)⟩])
 .ret))⟩
/-- spec.mRoad -/
def a_spec_mRoad : AFn := ⟨3, 14, [.tmp 6], (.seq (.reg [⟨some 3, none, .box (.t 0)⟩, ⟨some 6, none, .asg (.c (.bool false))⟩])
 (.seq (.reg [⟨some 7, none, .faddr 4 (.t 3)⟩, ⟨some 8, none, .load false 1 (.a 7 3)⟩, ⟨some 9, none, .load true 5 (.t 3)⟩, ⟨some 10, none, .mv (.p 1)⟩, ⟨some 11, none, .mv (.p 2)⟩, ⟨some 12, none, .call n_spec_mEdge [.a 9 3, .t 10, .t 11]⟩, ⟨some 13, none, .call n_spec_l1Has [.a 8 3, .t 12]⟩, ⟨some 6, none, .asg (.p 13)⟩])
 .ret))⟩
/-- impl.crossesFreely -/
def a_impl_crossesFreely : AFn := ⟨2, 16, [.tmp 4], (.seq (.reg [⟨some 2, none, .box (.t 0)⟩, ⟨some 4, none, .asg (.c (.bool false))⟩])
 (.seq (.reg [⟨some 5, none, .faddr 3 (.t 2)⟩, ⟨some 6, none, .load false 1 (.a 5 2)⟩, ⟨some 7, none, .mv (.p 1)⟩, ⟨some 8, none, .call n_slices_Contains_int_int [.a 6 2, .t 7]⟩, ⟨some 9, none, .un .not (.t 8)⟩, ⟨some 10, none, .mv (.p 9)⟩, ⟨some 11, some (10, false), .faddr 4 (.t 2)⟩, ⟨some 12, some (10, false), .load false 1 (.a 11 2)⟩, ⟨some 13, some (10, false), .mv (.p 1)⟩, ⟨some 14, some (10, false), .call n_slices_Contains_int_int [.a 12 2, .t 13]⟩, ⟨some 15, none, .pick (.t 10) (.c (.bool true)) (.t 14)⟩, ⟨some 4, none, .asg (.p 15)⟩])
 .ret))⟩
/-- impl.edgeOf -/
def a_impl_edgeOf : AFn := ⟨3, 27, [.tmp 6], (.seq (.reg [⟨some 3, none, .box (.t 0)⟩, ⟨some 6, none, .asg (.c (.int .i64 0))⟩])
 (.seq (.reg [⟨some 8, none, .load true 5 (.t 3)⟩, ⟨some 9, none, .mv (.p 1)⟩, ⟨some 10, none, .mv (.p 2)⟩, ⟨some 11, none, .call n_impl_nextTo [.a 8 3, .t 9, .t 10]⟩, ⟨some 7, none, .asg (.p 11)⟩])
 (.seq (.block 0 (.seq (.reg [⟨some 13, none, .mv (.p 7)⟩, ⟨some 14, none, .bin .lss (.t 13) (.c (.int .i64 0))⟩, ⟨some 12, none, .asg (.p 14)⟩])
 (.cond (.t 12) (.seq (.reg [⟨some 6, none, .asg (.c (.int .i64 (-1)))⟩])
 .ret) (.seq (.reg [⟨some 16, none, .mv (.p 2)⟩, ⟨some 17, none, .bin .lss (.t 16) (.c (.int .i64 3))⟩, ⟨some 15, none, .asg (.p 17)⟩])
 (.cond (.t 15) (.seq (.reg [⟨some 18, none, .mv (.p 1)⟩, ⟨some 19, none, .bin .mul (.c (.int .i64 3)) (.t 18)⟩, ⟨some 20, none, .mv (.p 2)⟩, ⟨some 21, none, .bin .add (.t 19) (.t 20)⟩, ⟨some 6, none, .asg (.p 21)⟩])
 .ret) .skip)))))
 (.seq (.reg [⟨some 22, none, .mv (.p 7)⟩, ⟨some 23, none, .bin .mul (.c (.int .i64 3)) (.t 22)⟩, ⟨some 24, none, .mv (.p 2)⟩, ⟨some 25, none, .bin .add (.t 23) (.t 24)⟩, ⟨some 26, none, .bin .sub (.t 25) (.c (.int .i64 3))⟩, ⟨some 6, none, .asg (.p 26)⟩])
 .ret))))⟩
def b_spec_gPaths_0 : AC := (.seq (.seq (.reg [⟨some 34, none, .mv (.p 15)⟩, ⟨some 35, none, .bin .lss (.t 34) (.c (.int .i64 6))⟩])
 (.cond (.t 35) .skip (.exit 0)))
 (.seq (.block 1 (.seq (.seq (.reg [⟨some 38, none, .load true 12 (.t 6)⟩, ⟨some 39, none, .load true 3 (.t 7)⟩, ⟨some 40, none, .mv (.p 2)⟩, ⟨some 41, none, .mv (.p 3)⟩, ⟨some 42, none, .mv (.p 15)⟩, ⟨some 43, none, .call n_spec_gBack [.a 38 6, .a 39 7, .t 40, .t 41, .t 42]⟩, ⟨some 44, none, .un .not (.t 43)⟩])
 (.cond (.t 44) (.exit 1) .skip))
 (.seq (.reg [⟨some 45, none, .faddr 7 (.t 6)⟩, ⟨some 46, none, .load true 5 (.a 45 6)⟩, ⟨some 47, none, .mv (.p 3)⟩, ⟨some 48, none, .mv (.p 15)⟩, ⟨some 49, none, .call n_spec_mNext [.a 46 6, .t 47, .t 48]⟩, ⟨some 16, none, .asg (.p 49)⟩])
 (.seq (.reg [⟨some 50, none, .faddr 7 (.t 6)⟩, ⟨some 51, none, .load true 5 (.a 50 6)⟩, ⟨some 52, none, .faddr 2 (.t 13)⟩, ⟨some 53, none, .load false 1 (.a 52 13)⟩, ⟨some 54, none, .call n_spec_mHex [.a 51 6, .a 53 13]⟩, ⟨some 17, none, .alloc [.int .i64 0, .int .i64 0]⟩, ⟨none, none, .store 2 (.t 17) (.t 54)⟩])
 (.seq (.reg [⟨some 55, none, .load true 2 (.t 17)⟩, ⟨some 56, none, .faddr 7 (.t 6)⟩, ⟨some 57, none, .load true 5 (.a 56 6)⟩, ⟨some 58, none, .mv (.p 16)⟩, ⟨some 59, none, .call n_spec_mHex [.a 57 6, .t 58]⟩, ⟨some 60, none, .call n_spec_hDistance [.a 55 17, .t 59]⟩, ⟨some 61, none, .load true 2 (.t 17)⟩, ⟨some 62, none, .faddr 7 (.t 6)⟩, ⟨some 63, none, .load true 5 (.a 62 6)⟩, ⟨some 64, none, .mv (.p 3)⟩, ⟨some 65, none, .call n_spec_mHex [.a 63 6, .t 64]⟩, ⟨some 66, none, .call n_spec_hDistance [.a 61 17, .t 65]⟩, ⟨some 67, none, .bin .add (.t 66) (.c (.int .i64 1))⟩, ⟨some 68, none, .bin .eql (.t 60) (.t 67)⟩])
 (.cond (.t 68) (.reg [⟨some 69, none, .rf (.t 14)⟩, ⟨some 70, none, .load true 12 (.t 6)⟩, ⟨some 71, none, .load true 3 (.t 7)⟩, ⟨some 72, none, .mv (.p 2)⟩, ⟨some 73, none, .mv (.p 16)⟩, ⟨some 74, none, .mv (.p 4)⟩, ⟨some 75, none, .bin .sub (.t 74) (.c (.int .i64 1))⟩, ⟨some 76, none, .rf (.t 5)⟩, ⟨some 77, none, .call n_spec_l1Own [.a 76 5]⟩, ⟨some 78, none, .mv (.p 15)⟩, ⟨some 79, none, .bslice 1 1 [.int .i64 0] [(0, .p 78)]⟩, ⟨some 80, none, .append 1 (.t 77) (.t 79)⟩, ⟨some 81, none, .call n_spec_gPaths [.a 70 6, .a 71 7, .t 72, .t 73, .t 75, .t 80]⟩, ⟨some 82, none, .append 1 (.a 69 14) (.t 81)⟩, ⟨some 14, none, .asg (.t 82)⟩]) .skip))))))
 (.reg [⟨some 36, none, .mv (.p 15)⟩, ⟨some 37, none, .bin .add (.t 36) (.c (.int .i64 1))⟩, ⟨some 15, none, .asg (.p 37)⟩])))
/-- spec.gPaths -/
def a_spec_gPaths : AFn := ⟨6, 84, [.tmp 12], (.seq (.reg [⟨some 6, none, .box (.t 0)⟩, ⟨some 7, none, .box (.t 1)⟩, ⟨some 12, none, .asg (.c (.list true 1 []))⟩])
 (.seq (.reg [⟨some 18, none, .faddr 2 (.t 7)⟩, ⟨some 19, none, .load false 1 (.a 18 7)⟩, ⟨some 20, none, .mv (.p 2)⟩, ⟨some 21, none, .iaddr 4 (.a 19 7) (.t 20)⟩, ⟨some 22, none, .load true 4 (.a 21 7)⟩, ⟨some 13, none, .alloc [.int .i64 0, .int .i64 0, .int .i64 0, .int .i64 0]⟩, ⟨none, none, .store 4 (.t 13) (.a 22 7)⟩])
 (.seq (.seq (.reg [⟨some 23, none, .mv (.p 4)⟩, ⟨some 24, none, .bin .eql (.t 23) (.c (.int .i64 0))⟩])
 (.cond (.t 24) (.seq (.seq (.reg [⟨some 25, none, .load true 12 (.t 6)⟩, ⟨some 26, none, .load true 3 (.t 7)⟩, ⟨some 27, none, .faddr 0 (.t 13)⟩, ⟨some 28, none, .load false 1 (.a 27 13)⟩, ⟨some 29, none, .mv (.p 3)⟩, ⟨some 30, none, .call n_spec_gRoom [.a 25 6, .a 26 7, .a 28 13, .t 29]⟩])
 (.cond (.t 30) (.seq (.reg [⟨some 31, none, .rf (.t 5)⟩, ⟨some 32, none, .call n_spec_l1Own [.a 31 5]⟩, ⟨some 33, none, .bslice 1 1 [.list true 1 []] [(0, .t 32)]⟩, ⟨some 12, none, .asg (.t 33)⟩])
 .ret) .skip))
 (.seq (.reg [⟨some 12, none, .asg (.c (.list true 1 []))⟩])
 .ret)) .skip))
 (.seq (.reg [⟨some 14, none, .asg (.c (.list true 1 []))⟩])
 (.seq (.seq (.reg [⟨some 15, none, .asg (.c (.int .i64 0))⟩])
 (.block 0 (.loop [2, 3, 4, 5, 6, 7, 13, 14, 15] [12, 14] b_spec_gPaths_0)))
 (.seq (.reg [⟨some 83, none, .rf (.t 14)⟩, ⟨some 12, none, .asg (.a 83 14)⟩])
 .ret))))))⟩
def b_impl_retreatsFrom_0 : AC := (.seq (.reg [⟨some 47, none, .bin .lss (.t 46) (.c (.int .i64 6))⟩])
 (.seq (.cond (.t 47) .skip (.exit 0))
 (.seq (.block 1 (.seq (.reg [⟨some 48, none, .mv (.p 46)⟩, ⟨some 16, none, .asg (.p 48)⟩])
 (.seq (.reg [⟨some 49, none, .faddr 7 (.t 7)⟩, ⟨some 50, none, .load true 5 (.a 49 7)⟩, ⟨some 51, none, .mv (.p 3)⟩, ⟨some 52, none, .mv (.p 16)⟩, ⟨some 53, none, .call n_impl_nextTo [.a 50 7, .t 51, .t 52]⟩, ⟨some 17, none, .asg (.p 53)⟩])
 (.seq (.reg [⟨some 54, none, .load true 12 (.t 7)⟩, ⟨some 55, none, .load true 3 (.t 8)⟩, ⟨some 56, none, .mv (.p 2)⟩, ⟨some 57, none, .mv (.p 17)⟩, ⟨some 58, none, .call n_impl_canFallBack [.a 54 7, .a 55 8, .t 56, .t 57]⟩, ⟨some 59, none, .mv (.p 58)⟩, ⟨some 60, some (59, true), .load true 2 (.t 15)⟩, ⟨some 61, some (59, true), .faddr 7 (.t 7)⟩, ⟨some 62, some (59, true), .load true 5 (.a 61 7)⟩, ⟨some 63, some (59, true), .mv (.p 17)⟩, ⟨some 64, some (59, true), .call n_impl_hexOf [.a 62 7, .t 63]⟩, ⟨some 65, some (59, true), .call n_impl_distance [.a 60 15, .t 64]⟩, ⟨some 66, some (59, true), .load true 2 (.t 15)⟩, ⟨some 67, some (59, true), .faddr 7 (.t 7)⟩, ⟨some 68, some (59, true), .load true 5 (.a 67 7)⟩, ⟨some 69, some (59, true), .mv (.p 3)⟩, ⟨some 70, some (59, true), .call n_impl_hexOf [.a 68 7, .t 69]⟩, ⟨some 71, some (59, true), .call n_impl_distance [.a 66 15, .t 70]⟩, ⟨some 72, some (59, true), .bin .add (.t 71) (.c (.int .i64 1))⟩, ⟨some 73, some (59, true), .bin .eql (.t 65) (.t 72)⟩, ⟨some 74, none, .pick (.t 59) (.t 73) (.c (.bool false))⟩])
 (.cond (.t 74) (.reg [⟨some 75, none, .load true 12 (.t 7)⟩, ⟨some 76, none, .load true 3 (.t 8)⟩, ⟨some 77, none, .mv (.p 2)⟩, ⟨some 78, none, .mv (.p 17)⟩, ⟨some 79, none, .mv (.p 4)⟩, ⟨some 80, none, .bin .sub (.t 79) (.c (.int .i64 1))⟩, ⟨some 81, none, .rf (.t 5)⟩, ⟨some 82, none, .call n_slices_Clone_int_int [.a 81 5]⟩, ⟨some 83, none, .mv (.p 16)⟩, ⟨some 84, none, .bslice 1 1 [.int .i64 0] [(0, .p 83)]⟩, ⟨some 85, none, .append 1 (.t 82) (.t 84)⟩, ⟨some 86, none, .rf (.t 6)⟩, ⟨some 87, none, .call n_impl_retreatsFrom [.a 75 7, .a 76 8, .t 77, .t 78, .t 80, .t 85, .m 86 6]⟩, ⟨some 6, none, .asg (.t 87)⟩]) .skip)))))
 (.reg [⟨some 88, none, .bin .add (.t 46) (.c (.int .i64 1))⟩, ⟨some 46, none, .mv (.p 88)⟩]))))
/-- impl.retreatsFrom -/
def a_impl_retreatsFrom : AFn := ⟨7, 90, [.tmp 14], (.seq (.reg [⟨some 7, none, .box (.t 0)⟩, ⟨some 8, none, .box (.t 1)⟩, ⟨some 14, none, .asg (.c (.list true 1 []))⟩])
 (.seq (.reg [⟨some 18, none, .faddr 7 (.t 7)⟩, ⟨some 19, none, .load true 5 (.a 18 7)⟩, ⟨some 20, none, .faddr 2 (.t 8)⟩, ⟨some 21, none, .load false 1 (.a 20 8)⟩, ⟨some 22, none, .mv (.p 2)⟩, ⟨some 23, none, .iaddr 4 (.a 21 8) (.t 22)⟩, ⟨some 24, none, .faddr 2 (.a 23 8)⟩, ⟨some 25, none, .load false 1 (.a 24 8)⟩, ⟨some 26, none, .call n_impl_hexOf [.a 19 7, .a 25 8]⟩, ⟨some 15, none, .alloc [.int .i64 0, .int .i64 0]⟩, ⟨none, none, .store 2 (.t 15) (.t 26)⟩])
 (.seq (.seq (.reg [⟨some 27, none, .mv (.p 4)⟩, ⟨some 28, none, .bin .eql (.t 27) (.c (.int .i64 0))⟩])
 (.cond (.t 28) (.seq (.seq (.reg [⟨some 29, none, .load true 12 (.t 7)⟩, ⟨some 30, none, .load true 3 (.t 8)⟩, ⟨some 31, none, .faddr 2 (.t 8)⟩, ⟨some 32, none, .load false 1 (.a 31 8)⟩, ⟨some 33, none, .mv (.p 2)⟩, ⟨some 34, none, .iaddr 4 (.a 32 8) (.t 33)⟩, ⟨some 35, none, .faddr 0 (.a 34 8)⟩, ⟨some 36, none, .load false 1 (.a 35 8)⟩, ⟨some 37, none, .mv (.p 3)⟩, ⟨some 38, none, .call n_impl_stackRoom [.a 29 7, .a 30 8, .a 36 8, .t 37]⟩, ⟨some 39, none, .bin .gtr (.t 38) (.c (.int .i64 0))⟩])
 (.cond (.t 39) (.reg [⟨some 40, none, .rf (.t 6)⟩, ⟨some 41, none, .rf (.t 5)⟩, ⟨some 42, none, .call n_slices_Clone_int_int [.a 41 5]⟩, ⟨some 43, none, .bslice 1 1 [.list true 1 []] [(0, .t 42)]⟩, ⟨some 44, none, .append 1 (.a 40 6) (.t 43)⟩, ⟨some 6, none, .asg (.t 44)⟩]) .skip))
 (.seq (.reg [⟨some 45, none, .rf (.t 6)⟩, ⟨some 14, none, .asg (.a 45 6)⟩])
 .ret)) .skip))
 (.seq (.seq (.reg [⟨some 46, none, .mv (.c (.int .i64 0))⟩])
 (.block 0 (.loop [2, 3, 4, 5, 6, 7, 8, 15, 46] [6, 14] b_impl_retreatsFrom_0)))
 (.seq (.reg [⟨some 89, none, .rf (.t 6)⟩, ⟨some 14, none, .asg (.a 89 6)⟩])
 .ret)))))⟩
/-- spec.bCost -/
def a_spec_bCost : AFn := ⟨3, 14, [.tmp 6], (.seq (.reg [⟨some 3, none, .box (.t 0)⟩, ⟨some 6, none, .asg (.c (.int .i64 0))⟩])
 (.seq (.reg [⟨some 7, none, .load true 12 (.t 3)⟩, ⟨some 8, none, .mv (.p 2)⟩, ⟨some 9, none, .call n_spec_bTerrain [.a 7 3, .t 8]⟩, ⟨some 10, none, .field false 1 1 (.t 9)⟩, ⟨some 11, none, .mv (.p 1)⟩, ⟨some 12, none, .iaddr 1 (.t 10) (.t 11)⟩, ⟨some 13, none, .load false 1 (.a 12 10)⟩, ⟨some 6, none, .asg (.p 13)⟩])
 .ret))⟩
/-- impl.enterCost -/
def a_impl_enterCost : AFn := ⟨3, 14, [.tmp 6], (.seq (.reg [⟨some 3, none, .box (.t 0)⟩, ⟨some 6, none, .asg (.c (.int .i64 0))⟩])
 (.seq (.reg [⟨some 7, none, .load true 12 (.t 3)⟩, ⟨some 8, none, .mv (.p 2)⟩, ⟨some 9, none, .call n_impl_terrainAt [.a 7 3, .t 8]⟩, ⟨some 10, none, .field false 1 1 (.t 9)⟩, ⟨some 11, none, .mv (.p 1)⟩, ⟨some 12, none, .iaddr 1 (.t 10) (.t 11)⟩, ⟨some 13, none, .load false 1 (.a 12 10)⟩, ⟨some 6, none, .asg (.p 13)⟩])
 .ret))⟩
def b_impl_unitsAt_0 : AC := (.seq (.reg [⟨some 13, none, .bin .lss (.t 12) (.t 11)⟩])
 (.seq (.cond (.t 13) .skip (.exit 0))
 (.seq (.block 1 (.seq (.reg [⟨some 14, none, .mv (.p 12)⟩, ⟨some 15, none, .iaddr 4 (.a 10 2) (.t 12)⟩, ⟨some 16, none, .load true 4 (.a 15 2)⟩, ⟨some 7, none, .alloc [.int .i64 0, .int .i64 0, .int .i64 0, .int .i64 0]⟩, ⟨some 6, none, .asg (.p 14)⟩, ⟨none, none, .store 4 (.t 7) (.a 16 2)⟩])
 (.seq (.reg [⟨some 17, none, .faddr 2 (.t 7)⟩, ⟨some 18, none, .load false 1 (.a 17 7)⟩, ⟨some 19, none, .mv (.p 1)⟩, ⟨some 20, none, .bin .eql (.a 18 7) (.t 19)⟩])
 (.cond (.t 20) (.reg [⟨some 21, none, .rf (.t 5)⟩, ⟨some 22, none, .mv (.p 6)⟩, ⟨some 23, none, .bslice 1 1 [.int .i64 0] [(0, .p 22)]⟩, ⟨some 24, none, .append 1 (.a 21 5) (.t 23)⟩, ⟨some 5, none, .asg (.t 24)⟩]) .skip))))
 (.reg [⟨some 25, none, .bin .add (.t 12) (.c (.int .i64 1))⟩, ⟨some 12, none, .mv (.p 25)⟩]))))
/-- impl.unitsAt -/
def a_impl_unitsAt : AFn := ⟨2, 27, [.tmp 4], (.seq (.reg [⟨some 2, none, .box (.t 0)⟩, ⟨some 4, none, .asg (.c (.list true 1 []))⟩])
 (.seq (.reg [⟨some 8, none, .bslice 1 0 [.int .i64 0] []⟩, ⟨some 5, none, .asg (.t 8)⟩])
 (.seq (.seq (.reg [⟨some 9, none, .faddr 2 (.t 2)⟩, ⟨some 10, none, .load false 1 (.a 9 2)⟩, ⟨some 11, none, .len (.a 10 2)⟩, ⟨some 12, none, .mv (.c (.int .i64 0))⟩])
 (.block 0 (.loop [1, 2, 5, 10, 11, 12] [4, 5] b_impl_unitsAt_0)))
 (.seq (.reg [⟨some 26, none, .rf (.t 5)⟩, ⟨some 4, none, .asg (.a 26 5)⟩])
 .ret))))⟩
end Go.Abs.W
