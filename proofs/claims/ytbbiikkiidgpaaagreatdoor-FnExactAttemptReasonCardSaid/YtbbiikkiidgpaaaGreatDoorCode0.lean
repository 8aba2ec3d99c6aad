/- The abstract code of the functions. -/
import Derived.Test.YtbbiikkiidgpaaaGreatDoorA2
set_option maxRecDepth 100000
namespace Go.Abs.W
open Go Go.Abs
def n_gosem_cut_init : Nat := 2
def n_laws_FnExactOrderFault : Nat := 3
def n_laws_FnExactEndOf : Nat := 4
def n_laws_FnExactAttemptReason : Nat := 5
def n_laws_FnExactOrderCost : Nat := 6
def n_laws_FnExactBattleLosses : Nat := 7
def n_laws_FnExactSheetFault : Nat := 8
def n_laws_FnExactIsSheet : Nat := 9
def n_laws_FnExactBattleColumn : Nat := 10
def n_laws_FnExactBattleResult : Nat := 11
def n_laws_szBoard : Nat := 12
def n_laws_szState : Nat := 13
def n_laws_szOrder : Nat := 14
def n_spec_OrderFault : Nat := 15
def n_laws_toBoard : Nat := 16
def n_laws_toState : Nat := 17
def n_laws_toOrder : Nat := 18
def n_impl_OrderFault : Nat := 19
def n_laws_eqBoard : Nat := 20
def n_laws_eqState : Nat := 21
def n_laws_eqOrder : Nat := 22
def n_spec_EndOf : Nat := 23
def n_impl_EndOf : Nat := 24
def n_laws_szAttemptS : Nat := 25
def n_spec_AttemptReason : Nat := 26
def n_laws_toAttemptS : Nat := 27
def n_impl_AttemptReason : Nat := 28
def n_laws_eqAttemptS : Nat := 29
def n_spec_OrderCost : Nat := 30
def n_impl_OrderCost : Nat := 31
def n_laws_szBattle : Nat := 32
def n_spec_BattleLosses : Nat := 33
def n_laws_toBattle : Nat := 34
def n_impl_BattleLosses : Nat := 35
def n_laws_eqBattle : Nat := 36
def n_laws_szSheet : Nat := 37
def n_spec_SheetFault : Nat := 38
def n_laws_toSheet : Nat := 39
def n_impl_SheetFault : Nat := 40
def n_laws_eqSheet : Nat := 41
def n_spec_IsSheet : Nat := 42
def n_impl_IsSheet : Nat := 43
def n_laws_szCombatTable : Nat := 44
def n_spec_BattleColumn : Nat := 45
def n_laws_toCombatTable : Nat := 46
def n_impl_BattleColumn : Nat := 47
def n_laws_eqCombatTable : Nat := 48
def n_spec_BattleResult : Nat := 49
def n_impl_BattleResult : Nat := 50
def n_laws_szRules : Nat := 51
def n_laws_szMap : Nat := 52
def n_laws_szUnitS : Nat := 53
def n_laws_szIntS : Nat := 54
def n_spec_sGood : Nat := 55
def n_spec_l1In : Nat := 56
def n_spec_oFault : Nat := 57
def n_laws_toRules : Nat := 58
def n_laws_toMap : Nat := 59
def n_laws_toUnitS : Nat := 60
def n_laws_toIntS : Nat := 61
def n_impl_fits : Nat := 62
def n_impl_isSide : Nat := 63
def n_impl_orderFault : Nat := 64
def n_laws_eqRules : Nat := 65
def n_laws_eqMap : Nat := 66
def n_laws_eqUnitS : Nat := 67
def n_laws_eqIntS : Nat := 68
def n_spec_oRight : Nat := 69
def n_spec_oEnd : Nat := 70
def n_impl_isGiven : Nat := 71
def n_impl_endOf : Nat := 72
def n_spec_fAsked : Nat := 73
def n_spec_fReason : Nat := 74
def n_laws_toAttempt : Nat := 75
def n_impl_areAttempts : Nat := 76
def n_impl_isIndex : Nat := 77
def n_impl_attemptReason : Nat := 78
def n_laws_eqAttempt : Nat := 79
def n_spec_oCost : Nat := 80
def n_impl_PathCost : Nat := 81
def n_spec_aResult : Nat := 82
def n_spec_aApply : Nat := 83
def n_spec_sOwner : Nat := 84
def n_spec_sSteps : Nat := 85
def n_impl_ApplyResult : Nat := 86
def n_impl_stepsOf : Nat := 87
def n_laws_szOrderS : Nat := 88
def n_spec_oForm : Nat := 89
def n_spec_oFirst : Nat := 90
def n_laws_toOrderS : Nat := 91
def n_impl_sheetFault : Nat := 92
def n_laws_eqOrderS : Nat := 93
def n_spec_oGood : Nat := 94
def n_impl_goodSheet : Nat := 95
def n_laws_szOddsS : Nat := 96
def n_laws_szIntSS : Nat := 97
def n_spec_kGood : Nat := 98
def n_spec_aGood : Nat := 99
def n_spec_aColumn : Nat := 100
def n_laws_toOddsS : Nat := 101
def n_laws_toIntSS : Nat := 102
def n_impl_hasBattle : Nat := 103
def n_impl_IsCombatTable : Nat := 104
def n_impl_battleColumn : Nat := 105
def n_laws_eqOddsS : Nat := 106
def n_laws_eqIntSS : Nat := 107
def n_spec_kResult : Nat := 108
def n_impl_ResultAt : Nat := 109
def n_laws_szTerrainS : Nat := 110
def n_laws_szKindS : Nat := 111
def n_spec_bGood : Nat := 112
def n_spec_sUnit : Nat := 113
def n_spec_sAt : Nat := 114
def n_spec_oPlaced : Nat := 115
def n_spec_mNext : Nat := 116
def n_laws_toTerrainS : Nat := 117
def n_laws_toKindS : Nat := 118
def n_laws_toUnit : Nat := 119
def n_impl_IsBoard : Nat := 120
def n_impl_goodState : Nat := 121
def n_impl_inRange : Nat := 122
def n_impl_ownsUnit : Nat := 123
def n_slices_Contains_int_int : Nat := 124
def n_impl_neighboursOn : Nat := 125
def n_laws_eqTerrainS : Nat := 126
def n_laws_eqKindS : Nat := 127
def n_laws_eqUnit : Nat := 128
def n_spec_sHas : Nat := 129
def n_impl_hasUnit : Nat := 130
def n_impl_pathHexes : Nat := 131
def n_spec_fGood : Nat := 132
def n_spec_fStays : Nat := 133
def n_impl_goodAttempts : Nat := 134
def n_impl_unitsAt : Nat := 135
def n_impl_leaves : Nat := 136
def n_spec_csPath : Nat := 137
def n_spec_csCost : Nat := 138
def n_impl_isMover : Nat := 139
def n_impl_isPath : Nat := 140
def n_impl_costsAlong : Nat := 141
def n_impl_sumOf : Nat := 142
def n_spec_sOwn : Nat := 143
def n_spec_sLose : Nat := 144
def n_spec_aMost : Nat := 145
def n_spec_sOf : Nat := 146
def n_impl_isResult : Nat := 147
def n_impl_applyResult : Nat := 148
def n_spec_kRows : Nat := 149
def n_spec_l1All : Nat := 150
def n_spec_sHex : Nat := 151
def n_spec_l1Rising : Nat := 152
def n_spec_aSide : Nat := 153
def n_spec_l1Same : Nat := 154
def n_spec_kShift : Nat := 155
def n_spec_kColumn : Nat := 156
def n_spec_aAttack : Nat := 157
def n_spec_aDefence : Nat := 158
def n_spec_aShift : Nat := 159
def n_laws_toOdds : Nat := 160
def n_impl_goodBattle : Nat := 161
def n_slices_ContainsFunc_int_int : Nat := 162
def n_impl_IsCombatTable_1 : Nat := 163
def n_impl_shiftColumn : Nat := 164
def n_impl_columnFor : Nat := 165
def n_impl_attackStrength : Nat := 166
def n_impl_defenceStrength : Nat := 167
def n_impl_battleShift : Nat := 168
def n_laws_eqOdds : Nat := 169
def n_impl_isColumn : Nat := 170
def n_laws_szTerrain : Nat := 171
def n_laws_szKind : Nat := 172
def n_spec_rGood : Nat := 173
def n_spec_mGood : Nat := 174
def n_spec_mSize : Nat := 175
def n_spec_bCost : Nat := 176
def n_spec_mIndex : Nat := 177
def n_spec_hStep : Nat := 178
def n_spec_mHex : Nat := 179
def n_laws_toTerrain : Nat := 180
def n_laws_toKind : Nat := 181
def n_impl_IsRules : Nat := 182
def n_impl_IsMap : Nat := 183
def n_impl_IsBoard_1 : Nat := 184
def n_impl_sizeOf : Nat := 185
def n_impl_goodUnit : Nat := 186
def n_slices_Index_int_int : Nat := 187
def n_impl_nextTo : Nat := 188
def n_laws_eqTerrain : Nat := 189
def n_laws_eqKind : Nat := 190
def n_spec_fTry : Nat := 191
def n_spec_fLeaves : Nat := 192
def n_impl_directionOn : Nat := 193
def n_impl_stepCost : Nat := 194
def n_slices_ContainsFunc_impl_Attempt_impl_Attempt : Nat := 195
def n_impl_leaves_1 : Nat := 196
def n_spec_cStep : Nat := 197
def n_impl_isKindOf : Nat := 198
def n_impl_isWeather : Nat := 199
def n_impl_isPath_1 : Nat := 200
def n_impl_isDirection : Nat := 201
def n_spec_l1Most : Nat := 202
def n_impl_cloneState : Nat := 203
def n_impl_loseSteps : Nat := 204
def n_impl_strongest : Nat := 205
def n_spec_l1Least : Nat := 206
def n_spec_aForce : Nat := 207
def n_spec_mRiver : Nat := 208
def n_spec_mRoad : Nat := 209
def n_spec_bTerrain : Nat := 210
def n_spec_l1Has : Nat := 211
def n_slices_Equal_int_int : Nat := 212
def n_impl_increasing : Nat := 213
def n_impl_ownerOf : Nat := 214
def n_impl_isNear : Nat := 215
def n_slices_IndexFunc_int_int : Nat := 216
def n_impl_forceOf : Nat := 217
def n_impl_crossesFreely : Nat := 218
def n_impl_edgeOf : Nat := 219
def n_impl_terrainAt : Nat := 220
def n_spec_rName : Nat := 221
def n_spec_rTerrain : Nat := 222
def n_spec_rKind : Nat := 223
def n_spec_mEdges : Nat := 224
def n_impl_goodTerrain : Nat := 225
def n_impl_terrainIndex : Nat := 226
def n_impl_goodKind : Nat := 227
def n_impl_kindIndex : Nat := 228
def n_impl_isEdge : Nat := 229
def n_impl_enterCost : Nat := 230
def n_impl_indexOf : Nat := 231
def n_impl_stepBy : Nat := 232
def n_impl_hexOf : Nat := 233
def n_impl_weatherCost : Nat := 234
def n_slices_IndexFunc_impl_Attempt_impl_Attempt : Nat := 235
def n_spec_csWeather : Nat := 236
def n_slices_Clone_impl_Unit_impl_Unit : Nat := 237
def n_spec_mEdge : Nat := 238
def n_impl_isName : Nat := 239
def n_impl_goodTerrain_1 : Nat := 240
def n_slices_IndexFunc_impl_Terrain_impl_Terrain : Nat := 241
def n_impl_terrainIndex_1 : Nat := 242
def n_slices_IndexFunc_impl_Kind_impl_Kind : Nat := 243
def n_impl_kindIndex_1 : Nat := 244
def n_gosem_cut_vars : Nat := 264
/-- laws.FnExactOrderFault -/
def a_laws_FnExactOrderFault : AFn := ⟨4, 80, [.tmp 8], (.seq (.reg [⟨some 4, none, .box (.t 0)⟩, ⟨some 5, none, .box (.t 1)⟩, ⟨some 7, none, .box (.t 3)⟩, ⟨some 8, none, .asg (.c (.bool false))⟩])
 (.seq (.reg [⟨some 9, none, .asg (.c (.int .i64 1048576))⟩])
 (.seq (.reg [⟨some 17, none, .load true 12 (.t 4)⟩, ⟨some 18, none, .mv (.p 9)⟩, ⟨some 19, none, .call n_laws_szBoard [.a 17 4, .t 18]⟩, ⟨some 9, none, .asg (.p 19)⟩])
 (.seq (.seq (.reg [⟨some 20, none, .mv (.p 9)⟩, ⟨some 21, none, .bin .lss (.t 20) (.c (.int .i64 0))⟩])
 (.cond (.t 21) (.seq (.reg [⟨some 8, none, .asg (.c (.bool true))⟩])
 .ret) .skip))
 (.seq (.reg [⟨some 22, none, .load true 3 (.t 5)⟩, ⟨some 23, none, .mv (.p 9)⟩, ⟨some 24, none, .call n_laws_szState [.a 22 5, .t 23]⟩, ⟨some 9, none, .asg (.p 24)⟩])
 (.seq (.seq (.reg [⟨some 25, none, .mv (.p 9)⟩, ⟨some 26, none, .bin .lss (.t 25) (.c (.int .i64 0))⟩])
 (.cond (.t 26) (.seq (.reg [⟨some 8, none, .asg (.c (.bool true))⟩])
 .ret) .skip))
 (.seq (.reg [⟨some 27, none, .load true 3 (.t 7)⟩, ⟨some 28, none, .mv (.p 9)⟩, ⟨some 29, none, .call n_laws_szOrder [.a 27 7, .t 28]⟩, ⟨some 9, none, .asg (.p 29)⟩])
 (.seq (.seq (.reg [⟨some 30, none, .mv (.p 9)⟩, ⟨some 31, none, .bin .lss (.t 30) (.c (.int .i64 0))⟩])
 (.cond (.t 31) (.seq (.reg [⟨some 8, none, .asg (.c (.bool true))⟩])
 .ret) .skip))
 (.seq (.reg [⟨some 33, none, .load true 12 (.t 4)⟩, ⟨some 34, none, .call n_laws_toBoard [.a 33 4]⟩, ⟨some 35, none, .load true 3 (.t 5)⟩, ⟨some 36, none, .call n_laws_toState [.a 35 5]⟩, ⟨some 37, none, .mv (.p 2)⟩, ⟨some 38, none, .load true 3 (.t 7)⟩, ⟨some 39, none, .call n_laws_toOrder [.a 38 7]⟩, ⟨some 40, none, .call n_spec_OrderFault [.t 34, .t 36, .t 37, .t 39]⟩, ⟨some 32, none, .mv (.t 40)⟩, ⟨some 41, none, .extract (.p 32) 0⟩, ⟨some 42, none, .extract (.p 32) 1⟩, ⟨some 10, none, .asg (.p 41)⟩, ⟨some 11, none, .asg (.p 42)⟩])
 (.seq (.reg [⟨some 43, none, .load true 12 (.t 4)⟩, ⟨some 44, none, .call n_laws_toBoard [.a 43 4]⟩, ⟨some 12, none, .alloc [.list true 5 [], .list true 6 [], .int .i64 0, .int .i64 0, .int .i64 0, .int .i64 0, .int .i64 0, .int .i64 0, .int .i64 0, .list true 1 [], .list true 1 [], .list true 1 []]⟩, ⟨none, none, .store 12 (.t 12) (.t 44)⟩])
 (.seq (.reg [⟨some 45, none, .load true 3 (.t 5)⟩, ⟨some 46, none, .call n_laws_toState [.a 45 5]⟩, ⟨some 13, none, .alloc [.int .i64 0, .int .i64 0, .list true 4 []]⟩, ⟨none, none, .store 3 (.t 13) (.t 46)⟩])
 (.seq (.reg [⟨some 47, none, .load true 3 (.t 7)⟩, ⟨some 48, none, .call n_laws_toOrder [.a 47 7]⟩, ⟨some 14, none, .alloc [.int .i64 0, .list true 1 [], .int .i64 0]⟩, ⟨none, none, .store 3 (.t 14) (.t 48)⟩])
 (.seq (.reg [⟨some 50, none, .load true 12 (.t 12)⟩, ⟨some 51, none, .load true 3 (.t 13)⟩, ⟨some 52, none, .mv (.p 2)⟩, ⟨some 53, none, .load true 3 (.t 14)⟩, ⟨some 54, none, .call n_impl_OrderFault [.a 50 12, .a 51 13, .t 52, .a 53 14]⟩, ⟨some 49, none, .mv (.t 54)⟩, ⟨some 55, none, .extract (.p 49) 0⟩, ⟨some 56, none, .extract (.p 49) 1⟩, ⟨some 15, none, .asg (.p 55)⟩, ⟨some 16, none, .asg (.p 56)⟩])
 (.seq (.seq (.reg [⟨some 57, none, .mv (.p 15)⟩, ⟨some 58, none, .mv (.p 10)⟩, ⟨some 59, none, .bin .neq (.t 57) (.t 58)⟩, ⟨some 60, none, .mv (.p 59)⟩, ⟨some 61, some (60, false), .mv (.p 16)⟩, ⟨some 62, some (60, false), .mv (.p 11)⟩, ⟨some 63, some (60, false), .beq true (.t 61) (.t 62)⟩, ⟨some 64, none, .pick (.t 60) (.c (.bool true)) (.t 63)⟩])
 (.cond (.t 64) (.seq (.reg [⟨some 8, none, .asg (.c (.bool false))⟩])
 .ret) .skip))
 (.seq (.seq (.reg [⟨some 65, none, .load true 12 (.t 12)⟩, ⟨some 66, none, .load true 12 (.t 4)⟩, ⟨some 67, none, .call n_laws_toBoard [.a 66 4]⟩, ⟨some 68, none, .call n_laws_eqBoard [.a 65 12, .t 67]⟩, ⟨some 69, none, .un .not (.t 68)⟩])
 (.cond (.t 69) (.seq (.reg [⟨some 8, none, .asg (.c (.bool false))⟩])
 .ret) .skip))
 (.seq (.seq (.reg [⟨some 70, none, .load true 3 (.t 13)⟩, ⟨some 71, none, .load true 3 (.t 5)⟩, ⟨some 72, none, .call n_laws_toState [.a 71 5]⟩, ⟨some 73, none, .call n_laws_eqState [.a 70 13, .t 72]⟩, ⟨some 74, none, .un .not (.t 73)⟩])
 (.cond (.t 74) (.seq (.reg [⟨some 8, none, .asg (.c (.bool false))⟩])
 .ret) .skip))
 (.seq (.seq (.reg [⟨some 75, none, .load true 3 (.t 14)⟩, ⟨some 76, none, .load true 3 (.t 7)⟩, ⟨some 77, none, .call n_laws_toOrder [.a 76 7]⟩, ⟨some 78, none, .call n_laws_eqOrder [.a 75 14, .t 77]⟩, ⟨some 79, none, .un .not (.t 78)⟩])
 (.cond (.t 79) (.seq (.reg [⟨some 8, none, .asg (.c (.bool false))⟩])
 .ret) .skip))
 (.seq (.reg [⟨some 8, none, .asg (.c (.bool true))⟩])
 .ret))))))))))))))))))⟩
/-- laws.FnExactEndOf -/
def a_laws_FnExactEndOf : AFn := ⟨3, 76, [.tmp 6], (.seq (.reg [⟨some 3, none, .box (.t 0)⟩, ⟨some 4, none, .box (.t 1)⟩, ⟨some 5, none, .box (.t 2)⟩, ⟨some 6, none, .asg (.c (.bool false))⟩])
 (.seq (.reg [⟨some 7, none, .asg (.c (.int .i64 1048576))⟩])
 (.seq (.reg [⟨some 15, none, .load true 12 (.t 3)⟩, ⟨some 16, none, .mv (.p 7)⟩, ⟨some 17, none, .call n_laws_szBoard [.a 15 3, .t 16]⟩, ⟨some 7, none, .asg (.p 17)⟩])
 (.seq (.seq (.reg [⟨some 18, none, .mv (.p 7)⟩, ⟨some 19, none, .bin .lss (.t 18) (.c (.int .i64 0))⟩])
 (.cond (.t 19) (.seq (.reg [⟨some 6, none, .asg (.c (.bool true))⟩])
 .ret) .skip))
 (.seq (.reg [⟨some 20, none, .load true 3 (.t 4)⟩, ⟨some 21, none, .mv (.p 7)⟩, ⟨some 22, none, .call n_laws_szState [.a 20 4, .t 21]⟩, ⟨some 7, none, .asg (.p 22)⟩])
 (.seq (.seq (.reg [⟨some 23, none, .mv (.p 7)⟩, ⟨some 24, none, .bin .lss (.t 23) (.c (.int .i64 0))⟩])
 (.cond (.t 24) (.seq (.reg [⟨some 6, none, .asg (.c (.bool true))⟩])
 .ret) .skip))
 (.seq (.reg [⟨some 25, none, .load true 3 (.t 5)⟩, ⟨some 26, none, .mv (.p 7)⟩, ⟨some 27, none, .call n_laws_szOrder [.a 25 5, .t 26]⟩, ⟨some 7, none, .asg (.p 27)⟩])
 (.seq (.seq (.reg [⟨some 28, none, .mv (.p 7)⟩, ⟨some 29, none, .bin .lss (.t 28) (.c (.int .i64 0))⟩])
 (.cond (.t 29) (.seq (.reg [⟨some 6, none, .asg (.c (.bool true))⟩])
 .ret) .skip))
 (.seq (.reg [⟨some 31, none, .load true 12 (.t 3)⟩, ⟨some 32, none, .call n_laws_toBoard [.a 31 3]⟩, ⟨some 33, none, .load true 3 (.t 4)⟩, ⟨some 34, none, .call n_laws_toState [.a 33 4]⟩, ⟨some 35, none, .load true 3 (.t 5)⟩, ⟨some 36, none, .call n_laws_toOrder [.a 35 5]⟩, ⟨some 37, none, .call n_spec_EndOf [.t 32, .t 34, .t 36]⟩, ⟨some 30, none, .mv (.t 37)⟩, ⟨some 38, none, .extract (.p 30) 0⟩, ⟨some 39, none, .extract (.p 30) 1⟩, ⟨some 8, none, .asg (.p 38)⟩, ⟨some 9, none, .asg (.p 39)⟩])
 (.seq (.reg [⟨some 40, none, .load true 12 (.t 3)⟩, ⟨some 41, none, .call n_laws_toBoard [.a 40 3]⟩, ⟨some 10, none, .alloc [.list true 5 [], .list true 6 [], .int .i64 0, .int .i64 0, .int .i64 0, .int .i64 0, .int .i64 0, .int .i64 0, .int .i64 0, .list true 1 [], .list true 1 [], .list true 1 []]⟩, ⟨none, none, .store 12 (.t 10) (.t 41)⟩])
 (.seq (.reg [⟨some 42, none, .load true 3 (.t 4)⟩, ⟨some 43, none, .call n_laws_toState [.a 42 4]⟩, ⟨some 11, none, .alloc [.int .i64 0, .int .i64 0, .list true 4 []]⟩, ⟨none, none, .store 3 (.t 11) (.t 43)⟩])
 (.seq (.reg [⟨some 44, none, .load true 3 (.t 5)⟩, ⟨some 45, none, .call n_laws_toOrder [.a 44 5]⟩, ⟨some 12, none, .alloc [.int .i64 0, .list true 1 [], .int .i64 0]⟩, ⟨none, none, .store 3 (.t 12) (.t 45)⟩])
 (.seq (.reg [⟨some 47, none, .load true 12 (.t 10)⟩, ⟨some 48, none, .load true 3 (.t 11)⟩, ⟨some 49, none, .load true 3 (.t 12)⟩, ⟨some 50, none, .call n_impl_EndOf [.a 47 10, .a 48 11, .a 49 12]⟩, ⟨some 46, none, .mv (.t 50)⟩, ⟨some 51, none, .extract (.p 46) 0⟩, ⟨some 52, none, .extract (.p 46) 1⟩, ⟨some 13, none, .asg (.p 51)⟩, ⟨some 14, none, .asg (.p 52)⟩])
 (.seq (.seq (.reg [⟨some 53, none, .mv (.p 13)⟩, ⟨some 54, none, .mv (.p 8)⟩, ⟨some 55, none, .bin .neq (.t 53) (.t 54)⟩, ⟨some 56, none, .mv (.p 55)⟩, ⟨some 57, some (56, false), .mv (.p 14)⟩, ⟨some 58, some (56, false), .mv (.p 9)⟩, ⟨some 59, some (56, false), .beq true (.t 57) (.t 58)⟩, ⟨some 60, none, .pick (.t 56) (.c (.bool true)) (.t 59)⟩])
 (.cond (.t 60) (.seq (.reg [⟨some 6, none, .asg (.c (.bool false))⟩])
 .ret) .skip))
 (.seq (.seq (.reg [⟨some 61, none, .load true 12 (.t 10)⟩, ⟨some 62, none, .load true 12 (.t 3)⟩, ⟨some 63, none, .call n_laws_toBoard [.a 62 3]⟩, ⟨some 64, none, .call n_laws_eqBoard [.a 61 10, .t 63]⟩, ⟨some 65, none, .un .not (.t 64)⟩])
 (.cond (.t 65) (.seq (.reg [⟨some 6, none, .asg (.c (.bool false))⟩])
 .ret) .skip))
 (.seq (.seq (.reg [⟨some 66, none, .load true 3 (.t 11)⟩, ⟨some 67, none, .load true 3 (.t 4)⟩, ⟨some 68, none, .call n_laws_toState [.a 67 4]⟩, ⟨some 69, none, .call n_laws_eqState [.a 66 11, .t 68]⟩, ⟨some 70, none, .un .not (.t 69)⟩])
 (.cond (.t 70) (.seq (.reg [⟨some 6, none, .asg (.c (.bool false))⟩])
 .ret) .skip))
 (.seq (.seq (.reg [⟨some 71, none, .load true 3 (.t 12)⟩, ⟨some 72, none, .load true 3 (.t 5)⟩, ⟨some 73, none, .call n_laws_toOrder [.a 72 5]⟩, ⟨some 74, none, .call n_laws_eqOrder [.a 71 12, .t 73]⟩, ⟨some 75, none, .un .not (.t 74)⟩])
 (.cond (.t 75) (.seq (.reg [⟨some 6, none, .asg (.c (.bool false))⟩])
 .ret) .skip))
 (.seq (.reg [⟨some 6, none, .asg (.c (.bool true))⟩])
 .ret))))))))))))))))))⟩
/-- laws.FnExactAttemptReason -/
def a_laws_FnExactAttemptReason : AFn := ⟨4, 80, [.tmp 8], (.seq (.reg [⟨some 4, none, .box (.t 0)⟩, ⟨some 5, none, .box (.t 1)⟩, ⟨some 8, none, .asg (.c (.bool false))⟩])
 (.seq (.reg [⟨some 9, none, .asg (.c (.int .i64 1048576))⟩])
 (.seq (.reg [⟨some 17, none, .load true 12 (.t 4)⟩, ⟨some 18, none, .mv (.p 9)⟩, ⟨some 19, none, .call n_laws_szBoard [.a 17 4, .t 18]⟩, ⟨some 9, none, .asg (.p 19)⟩])
 (.seq (.seq (.reg [⟨some 20, none, .mv (.p 9)⟩, ⟨some 21, none, .bin .lss (.t 20) (.c (.int .i64 0))⟩])
 (.cond (.t 21) (.seq (.reg [⟨some 8, none, .asg (.c (.bool true))⟩])
 .ret) .skip))
 (.seq (.reg [⟨some 22, none, .load true 3 (.t 5)⟩, ⟨some 23, none, .mv (.p 9)⟩, ⟨some 24, none, .call n_laws_szState [.a 22 5, .t 23]⟩, ⟨some 9, none, .asg (.p 24)⟩])
 (.seq (.seq (.reg [⟨some 25, none, .mv (.p 9)⟩, ⟨some 26, none, .bin .lss (.t 25) (.c (.int .i64 0))⟩])
 (.cond (.t 26) (.seq (.reg [⟨some 8, none, .asg (.c (.bool true))⟩])
 .ret) .skip))
 (.seq (.reg [⟨some 27, none, .rf (.t 2)⟩, ⟨some 28, none, .mv (.p 9)⟩, ⟨some 29, none, .call n_laws_szAttemptS [.a 27 2, .t 28]⟩, ⟨some 9, none, .asg (.p 29)⟩])
 (.seq (.seq (.reg [⟨some 30, none, .mv (.p 9)⟩, ⟨some 31, none, .bin .lss (.t 30) (.c (.int .i64 0))⟩])
 (.cond (.t 31) (.seq (.reg [⟨some 8, none, .asg (.c (.bool true))⟩])
 .ret) .skip))
 (.seq (.reg [⟨some 33, none, .load true 12 (.t 4)⟩, ⟨some 34, none, .call n_laws_toBoard [.a 33 4]⟩, ⟨some 35, none, .load true 3 (.t 5)⟩, ⟨some 36, none, .call n_laws_toState [.a 35 5]⟩, ⟨some 37, none, .rf (.t 2)⟩, ⟨some 38, none, .call n_laws_toAttemptS [.a 37 2]⟩, ⟨some 39, none, .mv (.p 3)⟩, ⟨some 40, none, .call n_spec_AttemptReason [.t 34, .t 36, .t 38, .t 39]⟩, ⟨some 32, none, .mv (.t 40)⟩, ⟨some 41, none, .extract (.p 32) 0⟩, ⟨some 42, none, .extract (.p 32) 1⟩, ⟨some 10, none, .asg (.p 41)⟩, ⟨some 11, none, .asg (.p 42)⟩])
 (.seq (.reg [⟨some 43, none, .load true 12 (.t 4)⟩, ⟨some 44, none, .call n_laws_toBoard [.a 43 4]⟩, ⟨some 12, none, .alloc [.list true 5 [], .list true 6 [], .int .i64 0, .int .i64 0, .int .i64 0, .int .i64 0, .int .i64 0, .int .i64 0, .int .i64 0, .list true 1 [], .list true 1 [], .list true 1 []]⟩, ⟨none, none, .store 12 (.t 12) (.t 44)⟩])
 (.seq (.reg [⟨some 45, none, .load true 3 (.t 5)⟩, ⟨some 46, none, .call n_laws_toState [.a 45 5]⟩, ⟨some 13, none, .alloc [.int .i64 0, .int .i64 0, .list true 4 []]⟩, ⟨none, none, .store 3 (.t 13) (.t 46)⟩])
 (.seq (.reg [⟨some 47, none, .rf (.t 2)⟩, ⟨some 48, none, .call n_laws_toAttemptS [.a 47 2]⟩, ⟨some 14, none, .asg (.t 48)⟩])
 (.seq (.reg [⟨some 50, none, .load true 12 (.t 12)⟩, ⟨some 51, none, .load true 3 (.t 13)⟩, ⟨some 52, none, .rf (.t 14)⟩, ⟨some 53, none, .mv (.p 3)⟩, ⟨some 54, none, .call n_impl_AttemptReason [.a 50 12, .a 51 13, .a 52 14, .t 53]⟩, ⟨some 49, none, .mv (.t 54)⟩, ⟨some 55, none, .extract (.p 49) 0⟩, ⟨some 56, none, .extract (.p 49) 1⟩, ⟨some 15, none, .asg (.p 55)⟩, ⟨some 16, none, .asg (.p 56)⟩])
 (.seq (.seq (.reg [⟨some 57, none, .mv (.p 15)⟩, ⟨some 58, none, .mv (.p 10)⟩, ⟨some 59, none, .bin .neq (.t 57) (.t 58)⟩, ⟨some 60, none, .mv (.p 59)⟩, ⟨some 61, some (60, false), .mv (.p 16)⟩, ⟨some 62, some (60, false), .mv (.p 11)⟩, ⟨some 63, some (60, false), .beq true (.t 61) (.t 62)⟩, ⟨some 64, none, .pick (.t 60) (.c (.bool true)) (.t 63)⟩])
 (.cond (.t 64) (.seq (.reg [⟨some 8, none, .asg (.c (.bool false))⟩])
 .ret) .skip))
 (.seq (.seq (.reg [⟨some 65, none, .load true 12 (.t 12)⟩, ⟨some 66, none, .load true 12 (.t 4)⟩, ⟨some 67, none, .call n_laws_toBoard [.a 66 4]⟩, ⟨some 68, none, .call n_laws_eqBoard [.a 65 12, .t 67]⟩, ⟨some 69, none, .un .not (.t 68)⟩])
 (.cond (.t 69) (.seq (.reg [⟨some 8, none, .asg (.c (.bool false))⟩])
 .ret) .skip))
 (.seq (.seq (.reg [⟨some 70, none, .load true 3 (.t 13)⟩, ⟨some 71, none, .load true 3 (.t 5)⟩, ⟨some 72, none, .call n_laws_toState [.a 71 5]⟩, ⟨some 73, none, .call n_laws_eqState [.a 70 13, .t 72]⟩, ⟨some 74, none, .un .not (.t 73)⟩])
 (.cond (.t 74) (.seq (.reg [⟨some 8, none, .asg (.c (.bool false))⟩])
 .ret) .skip))
 (.seq (.seq (.reg [⟨some 75, none, .rf (.t 14)⟩, ⟨some 76, none, .rf (.t 2)⟩, ⟨some 77, none, .call n_laws_toAttemptS [.a 76 2]⟩, ⟨some 78, none, .call n_laws_eqAttemptS [.a 75 14, .t 77]⟩, ⟨some 79, none, .un .not (.t 78)⟩])
 (.cond (.t 79) (.seq (.reg [⟨some 8, none, .asg (.c (.bool false))⟩])
 .ret) .skip))
 (.seq (.reg [⟨some 8, none, .asg (.c (.bool true))⟩])
 .ret))))))))))))))))))⟩
/-- laws.FnExactOrderCost -/
def a_laws_FnExactOrderCost : AFn := ⟨3, 76, [.tmp 6], (.seq (.reg [⟨some 3, none, .box (.t 0)⟩, ⟨some 4, none, .box (.t 1)⟩, ⟨some 5, none, .box (.t 2)⟩, ⟨some 6, none, .asg (.c (.bool false))⟩])
 (.seq (.reg [⟨some 7, none, .asg (.c (.int .i64 1048576))⟩])
 (.seq (.reg [⟨some 15, none, .load true 12 (.t 3)⟩, ⟨some 16, none, .mv (.p 7)⟩, ⟨some 17, none, .call n_laws_szBoard [.a 15 3, .t 16]⟩, ⟨some 7, none, .asg (.p 17)⟩])
 (.seq (.seq (.reg [⟨some 18, none, .mv (.p 7)⟩, ⟨some 19, none, .bin .lss (.t 18) (.c (.int .i64 0))⟩])
 (.cond (.t 19) (.seq (.reg [⟨some 6, none, .asg (.c (.bool true))⟩])
 .ret) .skip))
 (.seq (.reg [⟨some 20, none, .load true 3 (.t 4)⟩, ⟨some 21, none, .mv (.p 7)⟩, ⟨some 22, none, .call n_laws_szState [.a 20 4, .t 21]⟩, ⟨some 7, none, .asg (.p 22)⟩])
 (.seq (.seq (.reg [⟨some 23, none, .mv (.p 7)⟩, ⟨some 24, none, .bin .lss (.t 23) (.c (.int .i64 0))⟩])
 (.cond (.t 24) (.seq (.reg [⟨some 6, none, .asg (.c (.bool true))⟩])
 .ret) .skip))
 (.seq (.reg [⟨some 25, none, .load true 3 (.t 5)⟩, ⟨some 26, none, .mv (.p 7)⟩, ⟨some 27, none, .call n_laws_szOrder [.a 25 5, .t 26]⟩, ⟨some 7, none, .asg (.p 27)⟩])
 (.seq (.seq (.reg [⟨some 28, none, .mv (.p 7)⟩, ⟨some 29, none, .bin .lss (.t 28) (.c (.int .i64 0))⟩])
 (.cond (.t 29) (.seq (.reg [⟨some 6, none, .asg (.c (.bool true))⟩])
 .ret) .skip))
 (.seq (.reg [⟨some 31, none, .load true 12 (.t 3)⟩, ⟨some 32, none, .call n_laws_toBoard [.a 31 3]⟩, ⟨some 33, none, .load true 3 (.t 4)⟩, ⟨some 34, none, .call n_laws_toState [.a 33 4]⟩, ⟨some 35, none, .load true 3 (.t 5)⟩, ⟨some 36, none, .call n_laws_toOrder [.a 35 5]⟩, ⟨some 37, none, .call n_spec_OrderCost [.t 32, .t 34, .t 36]⟩, ⟨some 30, none, .mv (.t 37)⟩, ⟨some 38, none, .extract (.p 30) 0⟩, ⟨some 39, none, .extract (.p 30) 1⟩, ⟨some 8, none, .asg (.p 38)⟩, ⟨some 9, none, .asg (.p 39)⟩])
 (.seq (.reg [⟨some 40, none, .load true 12 (.t 3)⟩, ⟨some 41, none, .call n_laws_toBoard [.a 40 3]⟩, ⟨some 10, none, .alloc [.list true 5 [], .list true 6 [], .int .i64 0, .int .i64 0, .int .i64 0, .int .i64 0, .int .i64 0, .int .i64 0, .int .i64 0, .list true 1 [], .list true 1 [], .list true 1 []]⟩, ⟨none, none, .store 12 (.t 10) (.t 41)⟩])
 (.seq (.reg [⟨some 42, none, .load true 3 (.t 4)⟩, ⟨some 43, none, .call n_laws_toState [.a 42 4]⟩, ⟨some 11, none, .alloc [.int .i64 0, .int .i64 0, .list true 4 []]⟩, ⟨none, none, .store 3 (.t 11) (.t 43)⟩])
 (.seq (.reg [⟨some 44, none, .load true 3 (.t 5)⟩, ⟨some 45, none, .call n_laws_toOrder [.a 44 5]⟩, ⟨some 12, none, .alloc [.int .i64 0, .list true 1 [], .int .i64 0]⟩, ⟨none, none, .store 3 (.t 12) (.t 45)⟩])
 (.seq (.reg [⟨some 47, none, .load true 12 (.t 10)⟩, ⟨some 48, none, .load true 3 (.t 11)⟩, ⟨some 49, none, .load true 3 (.t 12)⟩, ⟨some 50, none, .call n_impl_OrderCost [.a 47 10, .a 48 11, .a 49 12]⟩, ⟨some 46, none, .mv (.t 50)⟩, ⟨some 51, none, .extract (.p 46) 0⟩, ⟨some 52, none, .extract (.p 46) 1⟩, ⟨some 13, none, .asg (.p 51)⟩, ⟨some 14, none, .asg (.p 52)⟩])
 (.seq (.seq (.reg [⟨some 53, none, .mv (.p 13)⟩, ⟨some 54, none, .mv (.p 8)⟩, ⟨some 55, none, .bin .neq (.t 53) (.t 54)⟩, ⟨some 56, none, .mv (.p 55)⟩, ⟨some 57, some (56, false), .mv (.p 14)⟩, ⟨some 58, some (56, false), .mv (.p 9)⟩, ⟨some 59, some (56, false), .beq true (.t 57) (.t 58)⟩, ⟨some 60, none, .pick (.t 56) (.c (.bool true)) (.t 59)⟩])
 (.cond (.t 60) (.seq (.reg [⟨some 6, none, .asg (.c (.bool false))⟩])
 .ret) .skip))
 (.seq (.seq (.reg [⟨some 61, none, .load true 12 (.t 10)⟩, ⟨some 62, none, .load true 12 (.t 3)⟩, ⟨some 63, none, .call n_laws_toBoard [.a 62 3]⟩, ⟨some 64, none, .call n_laws_eqBoard [.a 61 10, .t 63]⟩, ⟨some 65, none, .un .not (.t 64)⟩])
 (.cond (.t 65) (.seq (.reg [⟨some 6, none, .asg (.c (.bool false))⟩])
 .ret) .skip))
 (.seq (.seq (.reg [⟨some 66, none, .load true 3 (.t 11)⟩, ⟨some 67, none, .load true 3 (.t 4)⟩, ⟨some 68, none, .call n_laws_toState [.a 67 4]⟩, ⟨some 69, none, .call n_laws_eqState [.a 66 11, .t 68]⟩, ⟨some 70, none, .un .not (.t 69)⟩])
 (.cond (.t 70) (.seq (.reg [⟨some 6, none, .asg (.c (.bool false))⟩])
 .ret) .skip))
 (.seq (.seq (.reg [⟨some 71, none, .load true 3 (.t 12)⟩, ⟨some 72, none, .load true 3 (.t 5)⟩, ⟨some 73, none, .call n_laws_toOrder [.a 72 5]⟩, ⟨some 74, none, .call n_laws_eqOrder [.a 71 12, .t 73]⟩, ⟨some 75, none, .un .not (.t 74)⟩])
 (.cond (.t 75) (.seq (.reg [⟨some 6, none, .asg (.c (.bool false))⟩])
 .ret) .skip))
 (.seq (.reg [⟨some 6, none, .asg (.c (.bool true))⟩])
 .ret))))))))))))))))))⟩
/-- laws.FnExactBattleLosses -/
def a_laws_FnExactBattleLosses : AFn := ⟨4, 89, [.tmp 8], (.seq (.reg [⟨some 4, none, .box (.t 0)⟩, ⟨some 5, none, .box (.t 1)⟩, ⟨some 6, none, .box (.t 2)⟩, ⟨some 8, none, .asg (.c (.bool false))⟩])
 (.seq (.reg [⟨some 9, none, .asg (.c (.int .i64 1048576))⟩])
 (.seq (.reg [⟨some 19, none, .load true 12 (.t 4)⟩, ⟨some 20, none, .mv (.p 9)⟩, ⟨some 21, none, .call n_laws_szBoard [.a 19 4, .t 20]⟩, ⟨some 9, none, .asg (.p 21)⟩])
 (.seq (.seq (.reg [⟨some 22, none, .mv (.p 9)⟩, ⟨some 23, none, .bin .lss (.t 22) (.c (.int .i64 0))⟩])
 (.cond (.t 23) (.seq (.reg [⟨some 8, none, .asg (.c (.bool true))⟩])
 .ret) .skip))
 (.seq (.reg [⟨some 24, none, .load true 3 (.t 5)⟩, ⟨some 25, none, .mv (.p 9)⟩, ⟨some 26, none, .call n_laws_szState [.a 24 5, .t 25]⟩, ⟨some 9, none, .asg (.p 26)⟩])
 (.seq (.seq (.reg [⟨some 27, none, .mv (.p 9)⟩, ⟨some 28, none, .bin .lss (.t 27) (.c (.int .i64 0))⟩])
 (.cond (.t 28) (.seq (.reg [⟨some 8, none, .asg (.c (.bool true))⟩])
 .ret) .skip))
 (.seq (.reg [⟨some 29, none, .load true 3 (.t 6)⟩, ⟨some 30, none, .mv (.p 9)⟩, ⟨some 31, none, .call n_laws_szBattle [.a 29 6, .t 30]⟩, ⟨some 9, none, .asg (.p 31)⟩])
 (.seq (.seq (.reg [⟨some 32, none, .mv (.p 9)⟩, ⟨some 33, none, .bin .lss (.t 32) (.c (.int .i64 0))⟩])
 (.cond (.t 33) (.seq (.reg [⟨some 8, none, .asg (.c (.bool true))⟩])
 .ret) .skip))
 (.seq (.reg [⟨some 35, none, .load true 12 (.t 4)⟩, ⟨some 36, none, .call n_laws_toBoard [.a 35 4]⟩, ⟨some 37, none, .load true 3 (.t 5)⟩, ⟨some 38, none, .call n_laws_toState [.a 37 5]⟩, ⟨some 39, none, .load true 3 (.t 6)⟩, ⟨some 40, none, .call n_laws_toBattle [.a 39 6]⟩, ⟨some 41, none, .mv (.p 3)⟩, ⟨some 42, none, .call n_spec_BattleLosses [.t 36, .t 38, .t 40, .t 41]⟩, ⟨some 34, none, .mv (.t 42)⟩, ⟨some 43, none, .extract (.p 34) 0⟩, ⟨some 44, none, .extract (.p 34) 1⟩, ⟨some 45, none, .extract (.p 34) 2⟩, ⟨some 10, none, .asg (.p 43)⟩, ⟨some 11, none, .asg (.p 44)⟩, ⟨some 12, none, .asg (.p 45)⟩])
 (.seq (.reg [⟨some 46, none, .load true 12 (.t 4)⟩, ⟨some 47, none, .call n_laws_toBoard [.a 46 4]⟩, ⟨some 13, none, .alloc [.list true 5 [], .list true 6 [], .int .i64 0, .int .i64 0, .int .i64 0, .int .i64 0, .int .i64 0, .int .i64 0, .int .i64 0, .list true 1 [], .list true 1 [], .list true 1 []]⟩, ⟨none, none, .store 12 (.t 13) (.t 47)⟩])
 (.seq (.reg [⟨some 48, none, .load true 3 (.t 5)⟩, ⟨some 49, none, .call n_laws_toState [.a 48 5]⟩, ⟨some 14, none, .alloc [.int .i64 0, .int .i64 0, .list true 4 []]⟩, ⟨none, none, .store 3 (.t 14) (.t 49)⟩])
 (.seq (.reg [⟨some 50, none, .load true 3 (.t 6)⟩, ⟨some 51, none, .call n_laws_toBattle [.a 50 6]⟩, ⟨some 15, none, .alloc [.int .i64 0, .list true 1 [], .list true 1 []]⟩, ⟨none, none, .store 3 (.t 15) (.t 51)⟩])
 (.seq (.reg [⟨some 53, none, .load true 12 (.t 13)⟩, ⟨some 54, none, .load true 3 (.t 14)⟩, ⟨some 55, none, .load true 3 (.t 15)⟩, ⟨some 56, none, .mv (.p 3)⟩, ⟨some 57, none, .call n_impl_BattleLosses [.a 53 13, .a 54 14, .a 55 15, .t 56]⟩, ⟨some 52, none, .mv (.t 57)⟩, ⟨some 58, none, .extract (.p 52) 0⟩, ⟨some 59, none, .extract (.p 52) 1⟩, ⟨some 60, none, .extract (.p 52) 2⟩, ⟨some 16, none, .asg (.p 58)⟩, ⟨some 17, none, .asg (.p 59)⟩, ⟨some 18, none, .asg (.p 60)⟩])
 (.seq (.seq (.reg [⟨some 61, none, .mv (.p 16)⟩, ⟨some 62, none, .mv (.p 10)⟩, ⟨some 63, none, .bin .neq (.t 61) (.t 62)⟩, ⟨some 64, none, .mv (.p 63)⟩, ⟨some 65, some (64, false), .mv (.p 17)⟩, ⟨some 66, some (64, false), .mv (.p 11)⟩, ⟨some 67, some (64, false), .bin .neq (.t 65) (.t 66)⟩, ⟨some 68, none, .pick (.t 64) (.c (.bool true)) (.t 67)⟩, ⟨some 69, none, .mv (.p 68)⟩, ⟨some 70, some (69, false), .mv (.p 18)⟩, ⟨some 71, some (69, false), .mv (.p 12)⟩, ⟨some 72, some (69, false), .beq true (.t 70) (.t 71)⟩, ⟨some 73, none, .pick (.t 69) (.c (.bool true)) (.t 72)⟩])
 (.cond (.t 73) (.seq (.reg [⟨some 8, none, .asg (.c (.bool false))⟩])
 .ret) .skip))
 (.seq (.seq (.reg [⟨some 74, none, .load true 12 (.t 13)⟩, ⟨some 75, none, .load true 12 (.t 4)⟩, ⟨some 76, none, .call n_laws_toBoard [.a 75 4]⟩, ⟨some 77, none, .call n_laws_eqBoard [.a 74 13, .t 76]⟩, ⟨some 78, none, .un .not (.t 77)⟩])
 (.cond (.t 78) (.seq (.reg [⟨some 8, none, .asg (.c (.bool false))⟩])
 .ret) .skip))
 (.seq (.seq (.reg [⟨some 79, none, .load true 3 (.t 14)⟩, ⟨some 80, none, .load true 3 (.t 5)⟩, ⟨some 81, none, .call n_laws_toState [.a 80 5]⟩, ⟨some 82, none, .call n_laws_eqState [.a 79 14, .t 81]⟩, ⟨some 83, none, .un .not (.t 82)⟩])
 (.cond (.t 83) (.seq (.reg [⟨some 8, none, .asg (.c (.bool false))⟩])
 .ret) .skip))
 (.seq (.seq (.reg [⟨some 84, none, .load true 3 (.t 15)⟩, ⟨some 85, none, .load true 3 (.t 6)⟩, ⟨some 86, none, .call n_laws_toBattle [.a 85 6]⟩, ⟨some 87, none, .call n_laws_eqBattle [.a 84 15, .t 86]⟩, ⟨some 88, none, .un .not (.t 87)⟩])
 (.cond (.t 88) (.seq (.reg [⟨some 8, none, .asg (.c (.bool false))⟩])
 .ret) .skip))
 (.seq (.reg [⟨some 8, none, .asg (.c (.bool true))⟩])
 .ret))))))))))))))))))⟩
/-- laws.FnExactSheetFault -/
def a_laws_FnExactSheetFault : AFn := ⟨3, 85, [.tmp 6], (.seq (.reg [⟨some 3, none, .box (.t 0)⟩, ⟨some 4, none, .box (.t 1)⟩, ⟨some 5, none, .box (.t 2)⟩, ⟨some 6, none, .asg (.c (.bool false))⟩])
 (.seq (.reg [⟨some 7, none, .asg (.c (.int .i64 1048576))⟩])
 (.seq (.reg [⟨some 17, none, .load true 12 (.t 3)⟩, ⟨some 18, none, .mv (.p 7)⟩, ⟨some 19, none, .call n_laws_szBoard [.a 17 3, .t 18]⟩, ⟨some 7, none, .asg (.p 19)⟩])
 (.seq (.seq (.reg [⟨some 20, none, .mv (.p 7)⟩, ⟨some 21, none, .bin .lss (.t 20) (.c (.int .i64 0))⟩])
 (.cond (.t 21) (.seq (.reg [⟨some 6, none, .asg (.c (.bool true))⟩])
 .ret) .skip))
 (.seq (.reg [⟨some 22, none, .load true 3 (.t 4)⟩, ⟨some 23, none, .mv (.p 7)⟩, ⟨some 24, none, .call n_laws_szState [.a 22 4, .t 23]⟩, ⟨some 7, none, .asg (.p 24)⟩])
 (.seq (.seq (.reg [⟨some 25, none, .mv (.p 7)⟩, ⟨some 26, none, .bin .lss (.t 25) (.c (.int .i64 0))⟩])
 (.cond (.t 26) (.seq (.reg [⟨some 6, none, .asg (.c (.bool true))⟩])
 .ret) .skip))
 (.seq (.reg [⟨some 27, none, .load true 2 (.t 5)⟩, ⟨some 28, none, .mv (.p 7)⟩, ⟨some 29, none, .call n_laws_szSheet [.a 27 5, .t 28]⟩, ⟨some 7, none, .asg (.p 29)⟩])
 (.seq (.seq (.reg [⟨some 30, none, .mv (.p 7)⟩, ⟨some 31, none, .bin .lss (.t 30) (.c (.int .i64 0))⟩])
 (.cond (.t 31) (.seq (.reg [⟨some 6, none, .asg (.c (.bool true))⟩])
 .ret) .skip))
 (.seq (.reg [⟨some 33, none, .load true 12 (.t 3)⟩, ⟨some 34, none, .call n_laws_toBoard [.a 33 3]⟩, ⟨some 35, none, .load true 3 (.t 4)⟩, ⟨some 36, none, .call n_laws_toState [.a 35 4]⟩, ⟨some 37, none, .load true 2 (.t 5)⟩, ⟨some 38, none, .call n_laws_toSheet [.a 37 5]⟩, ⟨some 39, none, .call n_spec_SheetFault [.t 34, .t 36, .t 38]⟩, ⟨some 32, none, .mv (.t 39)⟩, ⟨some 40, none, .extract (.p 32) 0⟩, ⟨some 41, none, .extract (.p 32) 1⟩, ⟨some 42, none, .extract (.p 32) 2⟩, ⟨some 8, none, .asg (.p 40)⟩, ⟨some 9, none, .asg (.p 41)⟩, ⟨some 10, none, .asg (.p 42)⟩])
 (.seq (.reg [⟨some 43, none, .load true 12 (.t 3)⟩, ⟨some 44, none, .call n_laws_toBoard [.a 43 3]⟩, ⟨some 11, none, .alloc [.list true 5 [], .list true 6 [], .int .i64 0, .int .i64 0, .int .i64 0, .int .i64 0, .int .i64 0, .int .i64 0, .int .i64 0, .list true 1 [], .list true 1 [], .list true 1 []]⟩, ⟨none, none, .store 12 (.t 11) (.t 44)⟩])
 (.seq (.reg [⟨some 45, none, .load true 3 (.t 4)⟩, ⟨some 46, none, .call n_laws_toState [.a 45 4]⟩, ⟨some 12, none, .alloc [.int .i64 0, .int .i64 0, .list true 4 []]⟩, ⟨none, none, .store 3 (.t 12) (.t 46)⟩])
 (.seq (.reg [⟨some 47, none, .load true 2 (.t 5)⟩, ⟨some 48, none, .call n_laws_toSheet [.a 47 5]⟩, ⟨some 13, none, .alloc [.int .i64 0, .list true 3 []]⟩, ⟨none, none, .store 2 (.t 13) (.t 48)⟩])
 (.seq (.reg [⟨some 50, none, .load true 12 (.t 11)⟩, ⟨some 51, none, .load true 3 (.t 12)⟩, ⟨some 52, none, .load true 2 (.t 13)⟩, ⟨some 53, none, .call n_impl_SheetFault [.a 50 11, .a 51 12, .a 52 13]⟩, ⟨some 49, none, .mv (.t 53)⟩, ⟨some 54, none, .extract (.p 49) 0⟩, ⟨some 55, none, .extract (.p 49) 1⟩, ⟨some 56, none, .extract (.p 49) 2⟩, ⟨some 14, none, .asg (.p 54)⟩, ⟨some 15, none, .asg (.p 55)⟩, ⟨some 16, none, .asg (.p 56)⟩])
 (.seq (.seq (.reg [⟨some 57, none, .mv (.p 14)⟩, ⟨some 58, none, .mv (.p 8)⟩, ⟨some 59, none, .bin .neq (.t 57) (.t 58)⟩, ⟨some 60, none, .mv (.p 59)⟩, ⟨some 61, some (60, false), .mv (.p 15)⟩, ⟨some 62, some (60, false), .mv (.p 9)⟩, ⟨some 63, some (60, false), .bin .neq (.t 61) (.t 62)⟩, ⟨some 64, none, .pick (.t 60) (.c (.bool true)) (.t 63)⟩, ⟨some 65, none, .mv (.p 64)⟩, ⟨some 66, some (65, false), .mv (.p 16)⟩, ⟨some 67, some (65, false), .mv (.p 10)⟩, ⟨some 68, some (65, false), .beq true (.t 66) (.t 67)⟩, ⟨some 69, none, .pick (.t 65) (.c (.bool true)) (.t 68)⟩])
 (.cond (.t 69) (.seq (.reg [⟨some 6, none, .asg (.c (.bool false))⟩])
 .ret) .skip))
 (.seq (.seq (.reg [⟨some 70, none, .load true 12 (.t 11)⟩, ⟨some 71, none, .load true 12 (.t 3)⟩, ⟨some 72, none, .call n_laws_toBoard [.a 71 3]⟩, ⟨some 73, none, .call n_laws_eqBoard [.a 70 11, .t 72]⟩, ⟨some 74, none, .un .not (.t 73)⟩])
 (.cond (.t 74) (.seq (.reg [⟨some 6, none, .asg (.c (.bool false))⟩])
 .ret) .skip))
 (.seq (.seq (.reg [⟨some 75, none, .load true 3 (.t 12)⟩, ⟨some 76, none, .load true 3 (.t 4)⟩, ⟨some 77, none, .call n_laws_toState [.a 76 4]⟩, ⟨some 78, none, .call n_laws_eqState [.a 75 12, .t 77]⟩, ⟨some 79, none, .un .not (.t 78)⟩])
 (.cond (.t 79) (.seq (.reg [⟨some 6, none, .asg (.c (.bool false))⟩])
 .ret) .skip))
 (.seq (.seq (.reg [⟨some 80, none, .load true 2 (.t 13)⟩, ⟨some 81, none, .load true 2 (.t 5)⟩, ⟨some 82, none, .call n_laws_toSheet [.a 81 5]⟩, ⟨some 83, none, .call n_laws_eqSheet [.a 80 13, .t 82]⟩, ⟨some 84, none, .un .not (.t 83)⟩])
 (.cond (.t 84) (.seq (.reg [⟨some 6, none, .asg (.c (.bool false))⟩])
 .ret) .skip))
 (.seq (.reg [⟨some 6, none, .asg (.c (.bool true))⟩])
 .ret))))))))))))))))))⟩
/-- laws.FnExactIsSheet -/
def a_laws_FnExactIsSheet : AFn := ⟨3, 76, [.tmp 6], (.seq (.reg [⟨some 3, none, .box (.t 0)⟩, ⟨some 4, none, .box (.t 1)⟩, ⟨some 5, none, .box (.t 2)⟩, ⟨some 6, none, .asg (.c (.bool false))⟩])
 (.seq (.reg [⟨some 7, none, .asg (.c (.int .i64 1048576))⟩])
 (.seq (.reg [⟨some 15, none, .load true 12 (.t 3)⟩, ⟨some 16, none, .mv (.p 7)⟩, ⟨some 17, none, .call n_laws_szBoard [.a 15 3, .t 16]⟩, ⟨some 7, none, .asg (.p 17)⟩])
 (.seq (.seq (.reg [⟨some 18, none, .mv (.p 7)⟩, ⟨some 19, none, .bin .lss (.t 18) (.c (.int .i64 0))⟩])
 (.cond (.t 19) (.seq (.reg [⟨some 6, none, .asg (.c (.bool true))⟩])
 .ret) .skip))
 (.seq (.reg [⟨some 20, none, .load true 3 (.t 4)⟩, ⟨some 21, none, .mv (.p 7)⟩, ⟨some 22, none, .call n_laws_szState [.a 20 4, .t 21]⟩, ⟨some 7, none, .asg (.p 22)⟩])
 (.seq (.seq (.reg [⟨some 23, none, .mv (.p 7)⟩, ⟨some 24, none, .bin .lss (.t 23) (.c (.int .i64 0))⟩])
 (.cond (.t 24) (.seq (.reg [⟨some 6, none, .asg (.c (.bool true))⟩])
 .ret) .skip))
 (.seq (.reg [⟨some 25, none, .load true 2 (.t 5)⟩, ⟨some 26, none, .mv (.p 7)⟩, ⟨some 27, none, .call n_laws_szSheet [.a 25 5, .t 26]⟩, ⟨some 7, none, .asg (.p 27)⟩])
 (.seq (.seq (.reg [⟨some 28, none, .mv (.p 7)⟩, ⟨some 29, none, .bin .lss (.t 28) (.c (.int .i64 0))⟩])
 (.cond (.t 29) (.seq (.reg [⟨some 6, none, .asg (.c (.bool true))⟩])
 .ret) .skip))
 (.seq (.reg [⟨some 31, none, .load true 12 (.t 3)⟩, ⟨some 32, none, .call n_laws_toBoard [.a 31 3]⟩, ⟨some 33, none, .load true 3 (.t 4)⟩, ⟨some 34, none, .call n_laws_toState [.a 33 4]⟩, ⟨some 35, none, .load true 2 (.t 5)⟩, ⟨some 36, none, .call n_laws_toSheet [.a 35 5]⟩, ⟨some 37, none, .call n_spec_IsSheet [.t 32, .t 34, .t 36]⟩, ⟨some 30, none, .mv (.t 37)⟩, ⟨some 38, none, .extract (.p 30) 0⟩, ⟨some 39, none, .extract (.p 30) 1⟩, ⟨some 8, none, .asg (.p 38)⟩, ⟨some 9, none, .asg (.p 39)⟩])
 (.seq (.reg [⟨some 40, none, .load true 12 (.t 3)⟩, ⟨some 41, none, .call n_laws_toBoard [.a 40 3]⟩, ⟨some 10, none, .alloc [.list true 5 [], .list true 6 [], .int .i64 0, .int .i64 0, .int .i64 0, .int .i64 0, .int .i64 0, .int .i64 0, .int .i64 0, .list true 1 [], .list true 1 [], .list true 1 []]⟩, ⟨none, none, .store 12 (.t 10) (.t 41)⟩])
 (.seq (.reg [⟨some 42, none, .load true 3 (.t 4)⟩, ⟨some 43, none, .call n_laws_toState [.a 42 4]⟩, ⟨some 11, none, .alloc [.int .i64 0, .int .i64 0, .list true 4 []]⟩, ⟨none, none, .store 3 (.t 11) (.t 43)⟩])
 (.seq (.reg [⟨some 44, none, .load true 2 (.t 5)⟩, ⟨some 45, none, .call n_laws_toSheet [.a 44 5]⟩, ⟨some 12, none, .alloc [.int .i64 0, .list true 3 []]⟩, ⟨none, none, .store 2 (.t 12) (.t 45)⟩])
 (.seq (.reg [⟨some 47, none, .load true 12 (.t 10)⟩, ⟨some 48, none, .load true 3 (.t 11)⟩, ⟨some 49, none, .load true 2 (.t 12)⟩, ⟨some 50, none, .call n_impl_IsSheet [.a 47 10, .a 48 11, .a 49 12]⟩, ⟨some 46, none, .mv (.t 50)⟩, ⟨some 51, none, .extract (.p 46) 0⟩, ⟨some 52, none, .extract (.p 46) 1⟩, ⟨some 13, none, .asg (.p 51)⟩, ⟨some 14, none, .asg (.p 52)⟩])
 (.seq (.seq (.reg [⟨some 53, none, .mv (.p 13)⟩, ⟨some 54, none, .mv (.p 8)⟩, ⟨some 55, none, .beq true (.t 53) (.t 54)⟩, ⟨some 56, none, .mv (.p 55)⟩, ⟨some 57, some (56, false), .mv (.p 14)⟩, ⟨some 58, some (56, false), .mv (.p 9)⟩, ⟨some 59, some (56, false), .beq true (.t 57) (.t 58)⟩, ⟨some 60, none, .pick (.t 56) (.c (.bool true)) (.t 59)⟩])
 (.cond (.t 60) (.seq (.reg [⟨some 6, none, .asg (.c (.bool false))⟩])
 .ret) .skip))
 (.seq (.seq (.reg [⟨some 61, none, .load true 12 (.t 10)⟩, ⟨some 62, none, .load true 12 (.t 3)⟩, ⟨some 63, none, .call n_laws_toBoard [.a 62 3]⟩, ⟨some 64, none, .call n_laws_eqBoard [.a 61 10, .t 63]⟩, ⟨some 65, none, .un .not (.t 64)⟩])
 (.cond (.t 65) (.seq (.reg [⟨some 6, none, .asg (.c (.bool false))⟩])
 .ret) .skip))
 (.seq (.seq (.reg [⟨some 66, none, .load true 3 (.t 11)⟩, ⟨some 67, none, .load true 3 (.t 4)⟩, ⟨some 68, none, .call n_laws_toState [.a 67 4]⟩, ⟨some 69, none, .call n_laws_eqState [.a 66 11, .t 68]⟩, ⟨some 70, none, .un .not (.t 69)⟩])
 (.cond (.t 70) (.seq (.reg [⟨some 6, none, .asg (.c (.bool false))⟩])
 .ret) .skip))
 (.seq (.seq (.reg [⟨some 71, none, .load true 2 (.t 12)⟩, ⟨some 72, none, .load true 2 (.t 5)⟩, ⟨some 73, none, .call n_laws_toSheet [.a 72 5]⟩, ⟨some 74, none, .call n_laws_eqSheet [.a 71 12, .t 73]⟩, ⟨some 75, none, .un .not (.t 74)⟩])
 (.cond (.t 75) (.seq (.reg [⟨some 6, none, .asg (.c (.bool false))⟩])
 .ret) .skip))
 (.seq (.reg [⟨some 6, none, .asg (.c (.bool true))⟩])
 .ret))))))))))))))))))⟩
/-- laws.FnExactBattleColumn -/
def a_laws_FnExactBattleColumn : AFn := ⟨4, 94, [.tmp 8], (.seq (.reg [⟨some 4, none, .box (.t 0)⟩, ⟨some 5, none, .box (.t 1)⟩, ⟨some 6, none, .box (.t 2)⟩, ⟨some 7, none, .box (.t 3)⟩, ⟨some 8, none, .asg (.c (.bool false))⟩])
 (.seq (.reg [⟨some 9, none, .asg (.c (.int .i64 1048576))⟩])
 (.seq (.reg [⟨some 18, none, .load true 12 (.t 4)⟩, ⟨some 19, none, .mv (.p 9)⟩, ⟨some 20, none, .call n_laws_szBoard [.a 18 4, .t 19]⟩, ⟨some 9, none, .asg (.p 20)⟩])
 (.seq (.seq (.reg [⟨some 21, none, .mv (.p 9)⟩, ⟨some 22, none, .bin .lss (.t 21) (.c (.int .i64 0))⟩])
 (.cond (.t 22) (.seq (.reg [⟨some 8, none, .asg (.c (.bool true))⟩])
 .ret) .skip))
 (.seq (.reg [⟨some 23, none, .load true 3 (.t 5)⟩, ⟨some 24, none, .mv (.p 9)⟩, ⟨some 25, none, .call n_laws_szState [.a 23 5, .t 24]⟩, ⟨some 9, none, .asg (.p 25)⟩])
 (.seq (.seq (.reg [⟨some 26, none, .mv (.p 9)⟩, ⟨some 27, none, .bin .lss (.t 26) (.c (.int .i64 0))⟩])
 (.cond (.t 27) (.seq (.reg [⟨some 8, none, .asg (.c (.bool true))⟩])
 .ret) .skip))
 (.seq (.reg [⟨some 28, none, .load true 3 (.t 6)⟩, ⟨some 29, none, .mv (.p 9)⟩, ⟨some 30, none, .call n_laws_szCombatTable [.a 28 6, .t 29]⟩, ⟨some 9, none, .asg (.p 30)⟩])
 (.seq (.seq (.reg [⟨some 31, none, .mv (.p 9)⟩, ⟨some 32, none, .bin .lss (.t 31) (.c (.int .i64 0))⟩])
 (.cond (.t 32) (.seq (.reg [⟨some 8, none, .asg (.c (.bool true))⟩])
 .ret) .skip))
 (.seq (.reg [⟨some 33, none, .load true 3 (.t 7)⟩, ⟨some 34, none, .mv (.p 9)⟩, ⟨some 35, none, .call n_laws_szBattle [.a 33 7, .t 34]⟩, ⟨some 9, none, .asg (.p 35)⟩])
 (.seq (.seq (.reg [⟨some 36, none, .mv (.p 9)⟩, ⟨some 37, none, .bin .lss (.t 36) (.c (.int .i64 0))⟩])
 (.cond (.t 37) (.seq (.reg [⟨some 8, none, .asg (.c (.bool true))⟩])
 .ret) .skip))
 (.seq (.reg [⟨some 39, none, .load true 12 (.t 4)⟩, ⟨some 40, none, .call n_laws_toBoard [.a 39 4]⟩, ⟨some 41, none, .load true 3 (.t 5)⟩, ⟨some 42, none, .call n_laws_toState [.a 41 5]⟩, ⟨some 43, none, .load true 3 (.t 6)⟩, ⟨some 44, none, .call n_laws_toCombatTable [.a 43 6]⟩, ⟨some 45, none, .load true 3 (.t 7)⟩, ⟨some 46, none, .call n_laws_toBattle [.a 45 7]⟩, ⟨some 47, none, .call n_spec_BattleColumn [.t 40, .t 42, .t 44, .t 46]⟩, ⟨some 38, none, .mv (.t 47)⟩, ⟨some 48, none, .extract (.p 38) 0⟩, ⟨some 49, none, .extract (.p 38) 1⟩, ⟨some 10, none, .asg (.p 48)⟩, ⟨some 11, none, .asg (.p 49)⟩])
 (.seq (.reg [⟨some 50, none, .load true 12 (.t 4)⟩, ⟨some 51, none, .call n_laws_toBoard [.a 50 4]⟩, ⟨some 12, none, .alloc [.list true 5 [], .list true 6 [], .int .i64 0, .int .i64 0, .int .i64 0, .int .i64 0, .int .i64 0, .int .i64 0, .int .i64 0, .list true 1 [], .list true 1 [], .list true 1 []]⟩, ⟨none, none, .store 12 (.t 12) (.t 51)⟩])
 (.seq (.reg [⟨some 52, none, .load true 3 (.t 5)⟩, ⟨some 53, none, .call n_laws_toState [.a 52 5]⟩, ⟨some 13, none, .alloc [.int .i64 0, .int .i64 0, .list true 4 []]⟩, ⟨none, none, .store 3 (.t 13) (.t 53)⟩])
 (.seq (.reg [⟨some 54, none, .load true 3 (.t 6)⟩, ⟨some 55, none, .call n_laws_toCombatTable [.a 54 6]⟩, ⟨some 14, none, .alloc [.list true 2 [], .int .i64 0, .list true 1 []]⟩, ⟨none, none, .store 3 (.t 14) (.t 55)⟩])
 (.seq (.reg [⟨some 56, none, .load true 3 (.t 7)⟩, ⟨some 57, none, .call n_laws_toBattle [.a 56 7]⟩, ⟨some 15, none, .alloc [.int .i64 0, .list true 1 [], .list true 1 []]⟩, ⟨none, none, .store 3 (.t 15) (.t 57)⟩])
 (.seq (.reg [⟨some 59, none, .load true 12 (.t 12)⟩, ⟨some 60, none, .load true 3 (.t 13)⟩, ⟨some 61, none, .load true 3 (.t 14)⟩, ⟨some 62, none, .load true 3 (.t 15)⟩, ⟨some 63, none, .call n_impl_BattleColumn [.a 59 12, .a 60 13, .a 61 14, .a 62 15]⟩, ⟨some 58, none, .mv (.t 63)⟩, ⟨some 64, none, .extract (.p 58) 0⟩, ⟨some 65, none, .extract (.p 58) 1⟩, ⟨some 16, none, .asg (.p 64)⟩, ⟨some 17, none, .asg (.p 65)⟩])
 (.seq (.seq (.reg [⟨some 66, none, .mv (.p 16)⟩, ⟨some 67, none, .mv (.p 10)⟩, ⟨some 68, none, .bin .neq (.t 66) (.t 67)⟩, ⟨some 69, none, .mv (.p 68)⟩, ⟨some 70, some (69, false), .mv (.p 17)⟩, ⟨some 71, some (69, false), .mv (.p 11)⟩, ⟨some 72, some (69, false), .beq true (.t 70) (.t 71)⟩, ⟨some 73, none, .pick (.t 69) (.c (.bool true)) (.t 72)⟩])
 (.cond (.t 73) (.seq (.reg [⟨some 8, none, .asg (.c (.bool false))⟩])
 .ret) .skip))
 (.seq (.seq (.reg [⟨some 74, none, .load true 12 (.t 12)⟩, ⟨some 75, none, .load true 12 (.t 4)⟩, ⟨some 76, none, .call n_laws_toBoard [.a 75 4]⟩, ⟨some 77, none, .call n_laws_eqBoard [.a 74 12, .t 76]⟩, ⟨some 78, none, .un .not (.t 77)⟩])
 (.cond (.t 78) (.seq (.reg [⟨some 8, none, .asg (.c (.bool false))⟩])
 .ret) .skip))
 (.seq (.seq (.reg [⟨some 79, none, .load true 3 (.t 13)⟩, ⟨some 80, none, .load true 3 (.t 5)⟩, ⟨some 81, none, .call n_laws_toState [.a 80 5]⟩, ⟨some 82, none, .call n_laws_eqState [.a 79 13, .t 81]⟩, ⟨some 83, none, .un .not (.t 82)⟩])
 (.cond (.t 83) (.seq (.reg [⟨some 8, none, .asg (.c (.bool false))⟩])
 .ret) .skip))
 (.seq (.seq (.reg [⟨some 84, none, .load true 3 (.t 14)⟩, ⟨some 85, none, .load true 3 (.t 6)⟩, ⟨some 86, none, .call n_laws_toCombatTable [.a 85 6]⟩, ⟨some 87, none, .call n_laws_eqCombatTable [.a 84 14, .t 86]⟩, ⟨some 88, none, .un .not (.t 87)⟩])
 (.cond (.t 88) (.seq (.reg [⟨some 8, none, .asg (.c (.bool false))⟩])
 .ret) .skip))
 (.seq (.seq (.reg [⟨some 89, none, .load true 3 (.t 15)⟩, ⟨some 90, none, .load true 3 (.t 7)⟩, ⟨some 91, none, .call n_laws_toBattle [.a 90 7]⟩, ⟨some 92, none, .call n_laws_eqBattle [.a 89 15, .t 91]⟩, ⟨some 93, none, .un .not (.t 92)⟩])
 (.cond (.t 93) (.seq (.reg [⟨some 8, none, .asg (.c (.bool false))⟩])
 .ret) .skip))
 (.seq (.reg [⟨some 8, none, .asg (.c (.bool true))⟩])
 .ret))))))))))))))))))))))⟩
/-- laws.FnExactBattleResult -/
def a_laws_FnExactBattleResult : AFn := ⟨5, 98, [.tmp 10], (.seq (.reg [⟨some 5, none, .box (.t 0)⟩, ⟨some 6, none, .box (.t 1)⟩, ⟨some 7, none, .box (.t 2)⟩, ⟨some 8, none, .box (.t 3)⟩, ⟨some 10, none, .asg (.c (.bool false))⟩])
 (.seq (.reg [⟨some 11, none, .asg (.c (.int .i64 1048576))⟩])
 (.seq (.reg [⟨some 20, none, .load true 12 (.t 5)⟩, ⟨some 21, none, .mv (.p 11)⟩, ⟨some 22, none, .call n_laws_szBoard [.a 20 5, .t 21]⟩, ⟨some 11, none, .asg (.p 22)⟩])
 (.seq (.seq (.reg [⟨some 23, none, .mv (.p 11)⟩, ⟨some 24, none, .bin .lss (.t 23) (.c (.int .i64 0))⟩])
 (.cond (.t 24) (.seq (.reg [⟨some 10, none, .asg (.c (.bool true))⟩])
 .ret) .skip))
 (.seq (.reg [⟨some 25, none, .load true 3 (.t 6)⟩, ⟨some 26, none, .mv (.p 11)⟩, ⟨some 27, none, .call n_laws_szState [.a 25 6, .t 26]⟩, ⟨some 11, none, .asg (.p 27)⟩])
 (.seq (.seq (.reg [⟨some 28, none, .mv (.p 11)⟩, ⟨some 29, none, .bin .lss (.t 28) (.c (.int .i64 0))⟩])
 (.cond (.t 29) (.seq (.reg [⟨some 10, none, .asg (.c (.bool true))⟩])
 .ret) .skip))
 (.seq (.reg [⟨some 30, none, .load true 3 (.t 7)⟩, ⟨some 31, none, .mv (.p 11)⟩, ⟨some 32, none, .call n_laws_szCombatTable [.a 30 7, .t 31]⟩, ⟨some 11, none, .asg (.p 32)⟩])
 (.seq (.seq (.reg [⟨some 33, none, .mv (.p 11)⟩, ⟨some 34, none, .bin .lss (.t 33) (.c (.int .i64 0))⟩])
 (.cond (.t 34) (.seq (.reg [⟨some 10, none, .asg (.c (.bool true))⟩])
 .ret) .skip))
 (.seq (.reg [⟨some 35, none, .load true 3 (.t 8)⟩, ⟨some 36, none, .mv (.p 11)⟩, ⟨some 37, none, .call n_laws_szBattle [.a 35 8, .t 36]⟩, ⟨some 11, none, .asg (.p 37)⟩])
 (.seq (.seq (.reg [⟨some 38, none, .mv (.p 11)⟩, ⟨some 39, none, .bin .lss (.t 38) (.c (.int .i64 0))⟩])
 (.cond (.t 39) (.seq (.reg [⟨some 10, none, .asg (.c (.bool true))⟩])
 .ret) .skip))
 (.seq (.reg [⟨some 41, none, .load true 12 (.t 5)⟩, ⟨some 42, none, .call n_laws_toBoard [.a 41 5]⟩, ⟨some 43, none, .load true 3 (.t 6)⟩, ⟨some 44, none, .call n_laws_toState [.a 43 6]⟩, ⟨some 45, none, .load true 3 (.t 7)⟩, ⟨some 46, none, .call n_laws_toCombatTable [.a 45 7]⟩, ⟨some 47, none, .load true 3 (.t 8)⟩, ⟨some 48, none, .call n_laws_toBattle [.a 47 8]⟩, ⟨some 49, none, .mv (.p 4)⟩, ⟨some 50, none, .call n_spec_BattleResult [.t 42, .t 44, .t 46, .t 48, .t 49]⟩, ⟨some 40, none, .mv (.t 50)⟩, ⟨some 51, none, .extract (.p 40) 0⟩, ⟨some 52, none, .extract (.p 40) 1⟩, ⟨some 12, none, .asg (.p 51)⟩, ⟨some 13, none, .asg (.p 52)⟩])
 (.seq (.reg [⟨some 53, none, .load true 12 (.t 5)⟩, ⟨some 54, none, .call n_laws_toBoard [.a 53 5]⟩, ⟨some 14, none, .alloc [.list true 5 [], .list true 6 [], .int .i64 0, .int .i64 0, .int .i64 0, .int .i64 0, .int .i64 0, .int .i64 0, .int .i64 0, .list true 1 [], .list true 1 [], .list true 1 []]⟩, ⟨none, none, .store 12 (.t 14) (.t 54)⟩])
 (.seq (.reg [⟨some 55, none, .load true 3 (.t 6)⟩, ⟨some 56, none, .call n_laws_toState [.a 55 6]⟩, ⟨some 15, none, .alloc [.int .i64 0, .int .i64 0, .list true 4 []]⟩, ⟨none, none, .store 3 (.t 15) (.t 56)⟩])
 (.seq (.reg [⟨some 57, none, .load true 3 (.t 7)⟩, ⟨some 58, none, .call n_laws_toCombatTable [.a 57 7]⟩, ⟨some 16, none, .alloc [.list true 2 [], .int .i64 0, .list true 1 []]⟩, ⟨none, none, .store 3 (.t 16) (.t 58)⟩])
 (.seq (.reg [⟨some 59, none, .load true 3 (.t 8)⟩, ⟨some 60, none, .call n_laws_toBattle [.a 59 8]⟩, ⟨some 17, none, .alloc [.int .i64 0, .list true 1 [], .list true 1 []]⟩, ⟨none, none, .store 3 (.t 17) (.t 60)⟩])
 (.seq (.reg [⟨some 62, none, .load true 12 (.t 14)⟩, ⟨some 63, none, .load true 3 (.t 15)⟩, ⟨some 64, none, .load true 3 (.t 16)⟩, ⟨some 65, none, .load true 3 (.t 17)⟩, ⟨some 66, none, .mv (.p 4)⟩, ⟨some 67, none, .call n_impl_BattleResult [.a 62 14, .a 63 15, .a 64 16, .a 65 17, .t 66]⟩, ⟨some 61, none, .mv (.t 67)⟩, ⟨some 68, none, .extract (.p 61) 0⟩, ⟨some 69, none, .extract (.p 61) 1⟩, ⟨some 18, none, .asg (.p 68)⟩, ⟨some 19, none, .asg (.p 69)⟩])
 (.seq (.seq (.reg [⟨some 70, none, .mv (.p 18)⟩, ⟨some 71, none, .mv (.p 12)⟩, ⟨some 72, none, .bin .neq (.t 70) (.t 71)⟩, ⟨some 73, none, .mv (.p 72)⟩, ⟨some 74, some (73, false), .mv (.p 19)⟩, ⟨some 75, some (73, false), .mv (.p 13)⟩, ⟨some 76, some (73, false), .beq true (.t 74) (.t 75)⟩, ⟨some 77, none, .pick (.t 73) (.c (.bool true)) (.t 76)⟩])
 (.cond (.t 77) (.seq (.reg [⟨some 10, none, .asg (.c (.bool false))⟩])
 .ret) .skip))
 (.seq (.seq (.reg [⟨some 78, none, .load true 12 (.t 14)⟩, ⟨some 79, none, .load true 12 (.t 5)⟩, ⟨some 80, none, .call n_laws_toBoard [.a 79 5]⟩, ⟨some 81, none, .call n_laws_eqBoard [.a 78 14, .t 80]⟩, ⟨some 82, none, .un .not (.t 81)⟩])
 (.cond (.t 82) (.seq (.reg [⟨some 10, none, .asg (.c (.bool false))⟩])
 .ret) .skip))
 (.seq (.seq (.reg [⟨some 83, none, .load true 3 (.t 15)⟩, ⟨some 84, none, .load true 3 (.t 6)⟩, ⟨some 85, none, .call n_laws_toState [.a 84 6]⟩, ⟨some 86, none, .call n_laws_eqState [.a 83 15, .t 85]⟩, ⟨some 87, none, .un .not (.t 86)⟩])
 (.cond (.t 87) (.seq (.reg [⟨some 10, none, .asg (.c (.bool false))⟩])
 .ret) .skip))
 (.seq (.seq (.reg [⟨some 88, none, .load true 3 (.t 16)⟩, ⟨some 89, none, .load true 3 (.t 7)⟩, ⟨some 90, none, .call n_laws_toCombatTable [.a 89 7]⟩, ⟨some 91, none, .call n_laws_eqCombatTable [.a 88 16, .t 90]⟩, ⟨some 92, none, .un .not (.t 91)⟩])
 (.cond (.t 92) (.seq (.reg [⟨some 10, none, .asg (.c (.bool false))⟩])
 .ret) .skip))
 (.seq (.seq (.reg [⟨some 93, none, .load true 3 (.t 17)⟩, ⟨some 94, none, .load true 3 (.t 8)⟩, ⟨some 95, none, .call n_laws_toBattle [.a 94 8]⟩, ⟨some 96, none, .call n_laws_eqBattle [.a 93 17, .t 95]⟩, ⟨some 97, none, .un .not (.t 96)⟩])
 (.cond (.t 97) (.seq (.reg [⟨some 10, none, .asg (.c (.bool false))⟩])
 .ret) .skip))
 (.seq (.reg [⟨some 10, none, .asg (.c (.bool true))⟩])
 .ret))))))))))))))))))))))⟩
/-- laws.szBoard -/
def a_laws_szBoard : AFn := ⟨2, 18, [.tmp 4], (.seq (.reg [⟨some 2, none, .box (.t 0)⟩, ⟨some 4, none, .asg (.c (.int .i64 0))⟩])
 (.seq (.reg [⟨some 5, none, .faddr 0 (.t 2)⟩, ⟨some 6, none, .load true 7 (.a 5 2)⟩, ⟨some 7, none, .mv (.p 1)⟩, ⟨some 8, none, .call n_laws_szRules [.a 6 2, .t 7]⟩, ⟨some 1, none, .asg (.p 8)⟩])
 (.seq (.seq (.reg [⟨some 9, none, .mv (.p 1)⟩, ⟨some 10, none, .bin .lss (.t 9) (.c (.int .i64 0))⟩])
 (.cond (.t 10) (.seq (.reg [⟨some 4, none, .asg (.c (.int .i64 (-1)))⟩])
 .ret) .skip))
 (.seq (.reg [⟨some 11, none, .faddr 7 (.t 2)⟩, ⟨some 12, none, .load true 5 (.a 11 2)⟩, ⟨some 13, none, .mv (.p 1)⟩, ⟨some 14, none, .call n_laws_szMap [.a 12 2, .t 13]⟩, ⟨some 1, none, .asg (.p 14)⟩])
 (.seq (.seq (.reg [⟨some 15, none, .mv (.p 1)⟩, ⟨some 16, none, .bin .lss (.t 15) (.c (.int .i64 0))⟩])
 (.cond (.t 16) (.seq (.reg [⟨some 4, none, .asg (.c (.int .i64 (-1)))⟩])
 .ret) .skip))
 (.seq (.reg [⟨some 17, none, .mv (.p 1)⟩, ⟨some 4, none, .asg (.p 17)⟩])
 .ret))))))⟩
/-- laws.szState -/
def a_laws_szState : AFn := ⟨2, 12, [.tmp 4], (.seq (.reg [⟨some 2, none, .box (.t 0)⟩, ⟨some 4, none, .asg (.c (.int .i64 0))⟩])
 (.seq (.reg [⟨some 5, none, .faddr 2 (.t 2)⟩, ⟨some 6, none, .load false 1 (.a 5 2)⟩, ⟨some 7, none, .mv (.p 1)⟩, ⟨some 8, none, .call n_laws_szUnitS [.a 6 2, .t 7]⟩, ⟨some 1, none, .asg (.p 8)⟩])
 (.seq (.seq (.reg [⟨some 9, none, .mv (.p 1)⟩, ⟨some 10, none, .bin .lss (.t 9) (.c (.int .i64 0))⟩])
 (.cond (.t 10) (.seq (.reg [⟨some 4, none, .asg (.c (.int .i64 (-1)))⟩])
 .ret) .skip))
 (.seq (.reg [⟨some 11, none, .mv (.p 1)⟩, ⟨some 4, none, .asg (.p 11)⟩])
 .ret))))⟩
/-- laws.szOrder -/
def a_laws_szOrder : AFn := ⟨2, 12, [.tmp 4], (.seq (.reg [⟨some 2, none, .box (.t 0)⟩, ⟨some 4, none, .asg (.c (.int .i64 0))⟩])
 (.seq (.reg [⟨some 5, none, .faddr 1 (.t 2)⟩, ⟨some 6, none, .load false 1 (.a 5 2)⟩, ⟨some 7, none, .mv (.p 1)⟩, ⟨some 8, none, .call n_laws_szIntS [.a 6 2, .t 7]⟩, ⟨some 1, none, .asg (.p 8)⟩])
 (.seq (.seq (.reg [⟨some 9, none, .mv (.p 1)⟩, ⟨some 10, none, .bin .lss (.t 9) (.c (.int .i64 0))⟩])
 (.cond (.t 10) (.seq (.reg [⟨some 4, none, .asg (.c (.int .i64 (-1)))⟩])
 .ret) .skip))
 (.seq (.reg [⟨some 11, none, .mv (.p 1)⟩, ⟨some 4, none, .asg (.p 11)⟩])
 .ret))))⟩
/-- spec.OrderFault -/
def a_spec_OrderFault : AFn := ⟨4, 24, [.tmp 8, .tmp 9], (.seq (.reg [⟨some 4, none, .box (.t 0)⟩, ⟨some 5, none, .box (.t 1)⟩, ⟨some 7, none, .box (.t 3)⟩, ⟨some 8, none, .asg (.c (.int .i64 0))⟩, ⟨some 9, none, .asg (.c (.bool false))⟩])
 (.seq (.seq (.reg [⟨some 10, none, .load true 12 (.t 4)⟩, ⟨some 11, none, .load true 3 (.t 5)⟩, ⟨some 12, none, .call n_spec_sGood [.a 10 4, .a 11 5]⟩, ⟨some 13, none, .un .not (.t 12)⟩, ⟨some 14, none, .mv (.p 13)⟩, ⟨some 15, some (14, false), .mv (.p 2)⟩, ⟨some 16, some (14, false), .call n_spec_l1In [.t 15, .c (.int .i64 0), .c (.int .i64 1)]⟩, ⟨some 17, some (14, false), .un .not (.t 16)⟩, ⟨some 18, none, .pick (.t 14) (.c (.bool true)) (.t 17)⟩])
 (.cond (.t 18) (.seq (.reg [⟨some 8, none, .asg (.c (.int .i64 0))⟩, ⟨some 9, none, .asg (.c (.bool false))⟩])
 .ret) .skip))
 (.seq (.reg [⟨some 19, none, .load true 12 (.t 4)⟩, ⟨some 20, none, .load true 3 (.t 5)⟩, ⟨some 21, none, .mv (.p 2)⟩, ⟨some 22, none, .load true 3 (.t 7)⟩, ⟨some 23, none, .call n_spec_oFault [.a 19 4, .a 20 5, .t 21, .a 22 7]⟩, ⟨some 8, none, .asg (.p 23)⟩, ⟨some 9, none, .asg (.c (.bool true))⟩])
 .ret)))⟩
/-- laws.toBoard -/
def a_laws_toBoard : AFn := ⟨1, 13, [.cell 2 12 true], (.seq (.reg [⟨some 1, none, .box (.t 0)⟩, ⟨some 2, none, .alloc [.list true 5 [], .list true 6 [], .int .i64 0, .int .i64 0, .int .i64 0, .int .i64 0, .int .i64 0, .int .i64 0, .int .i64 0, .list true 1 [], .list true 1 [], .list true 1 []]⟩])
 (.seq (.reg [⟨some 3, none, .alloc [.list true 5 [], .list true 6 [], .int .i64 0, .int .i64 0, .int .i64 0, .int .i64 0, .int .i64 0, .int .i64 0, .int .i64 0, .list true 1 [], .list true 1 [], .list true 1 []]⟩])
 (.seq (.reg [⟨some 4, none, .faddr 0 (.t 1)⟩, ⟨some 5, none, .load true 7 (.a 4 1)⟩, ⟨some 6, none, .call n_laws_toRules [.a 5 1]⟩, ⟨some 7, none, .faddr 0 (.t 3)⟩, ⟨none, none, .store 7 (.a 7 3) (.t 6)⟩])
 (.seq (.reg [⟨some 8, none, .faddr 7 (.t 1)⟩, ⟨some 9, none, .load true 5 (.a 8 1)⟩, ⟨some 10, none, .call n_laws_toMap [.a 9 1]⟩, ⟨some 11, none, .faddr 7 (.t 3)⟩, ⟨none, none, .store 5 (.a 11 3) (.t 10)⟩])
 (.seq (.reg [⟨some 12, none, .load true 12 (.t 3)⟩, ⟨none, none, .store 12 (.t 2) (.a 12 3)⟩])
 .ret)))))⟩
/-- laws.toState -/
def a_laws_toState : AFn := ⟨1, 15, [.cell 2 3 true], (.seq (.reg [⟨some 1, none, .box (.t 0)⟩, ⟨some 2, none, .alloc [.int .i64 0, .int .i64 0, .list true 4 []]⟩])
 (.seq (.reg [⟨some 3, none, .alloc [.int .i64 0, .int .i64 0, .list true 4 []]⟩])
 (.seq (.reg [⟨some 4, none, .faddr 0 (.t 1)⟩, ⟨some 5, none, .load false 1 (.a 4 1)⟩, ⟨some 6, none, .faddr 0 (.t 3)⟩, ⟨none, none, .store 1 (.a 6 3) (.p 5)⟩])
 (.seq (.reg [⟨some 7, none, .faddr 1 (.t 1)⟩, ⟨some 8, none, .load false 1 (.a 7 1)⟩, ⟨some 9, none, .faddr 1 (.t 3)⟩, ⟨none, none, .store 1 (.a 9 3) (.p 8)⟩])
 (.seq (.reg [⟨some 10, none, .faddr 2 (.t 1)⟩, ⟨some 11, none, .load false 1 (.a 10 1)⟩, ⟨some 12, none, .call n_laws_toUnitS [.a 11 1]⟩, ⟨some 13, none, .faddr 2 (.t 3)⟩, ⟨none, none, .store 1 (.a 13 3) (.t 12)⟩])
 (.seq (.reg [⟨some 14, none, .load true 3 (.t 3)⟩, ⟨none, none, .store 3 (.t 2) (.a 14 3)⟩])
 .ret))))))⟩
/-- laws.toOrder -/
def a_laws_toOrder : AFn := ⟨1, 15, [.cell 2 3 true], (.seq (.reg [⟨some 1, none, .box (.t 0)⟩, ⟨some 2, none, .alloc [.int .i64 0, .list true 1 [], .int .i64 0]⟩])
 (.seq (.reg [⟨some 3, none, .alloc [.int .i64 0, .list true 1 [], .int .i64 0]⟩])
 (.seq (.reg [⟨some 4, none, .faddr 0 (.t 1)⟩, ⟨some 5, none, .load false 1 (.a 4 1)⟩, ⟨some 6, none, .faddr 0 (.t 3)⟩, ⟨none, none, .store 1 (.a 6 3) (.p 5)⟩])
 (.seq (.reg [⟨some 7, none, .faddr 1 (.t 1)⟩, ⟨some 8, none, .load false 1 (.a 7 1)⟩, ⟨some 9, none, .call n_laws_toIntS [.a 8 1]⟩, ⟨some 10, none, .faddr 1 (.t 3)⟩, ⟨none, none, .store 1 (.a 10 3) (.t 9)⟩])
 (.seq (.reg [⟨some 11, none, .faddr 2 (.t 1)⟩, ⟨some 12, none, .load false 1 (.a 11 1)⟩, ⟨some 13, none, .faddr 2 (.t 3)⟩, ⟨none, none, .store 1 (.a 13 3) (.p 12)⟩])
 (.seq (.reg [⟨some 14, none, .load true 3 (.t 3)⟩, ⟨none, none, .store 3 (.t 2) (.a 14 3)⟩])
 .ret))))))⟩
/-- impl.OrderFault -/
def a_impl_OrderFault : AFn := ⟨4, 24, [.tmp 8, .tmp 9], (.seq (.reg [⟨some 4, none, .box (.t 0)⟩, ⟨some 5, none, .box (.t 1)⟩, ⟨some 7, none, .box (.t 3)⟩, ⟨some 8, none, .asg (.c (.int .i64 0))⟩, ⟨some 9, none, .asg (.c (.bool false))⟩])
 (.seq (.seq (.reg [⟨some 10, none, .load true 12 (.t 4)⟩, ⟨some 11, none, .load true 3 (.t 5)⟩, ⟨some 12, none, .call n_impl_fits [.a 10 4, .a 11 5]⟩, ⟨some 13, none, .un .not (.t 12)⟩, ⟨some 14, none, .mv (.p 13)⟩, ⟨some 15, some (14, false), .mv (.p 2)⟩, ⟨some 16, some (14, false), .call n_impl_isSide [.t 15]⟩, ⟨some 17, some (14, false), .un .not (.t 16)⟩, ⟨some 18, none, .pick (.t 14) (.c (.bool true)) (.t 17)⟩])
 (.cond (.t 18) (.seq (.reg [⟨some 8, none, .asg (.c (.int .i64 0))⟩, ⟨some 9, none, .asg (.c (.bool false))⟩])
 .ret) .skip))
 (.seq (.reg [⟨some 19, none, .load true 12 (.t 4)⟩, ⟨some 20, none, .load true 3 (.t 5)⟩, ⟨some 21, none, .mv (.p 2)⟩, ⟨some 22, none, .load true 3 (.t 7)⟩, ⟨some 23, none, .call n_impl_orderFault [.a 19 4, .a 20 5, .t 21, .a 22 7]⟩, ⟨some 8, none, .asg (.p 23)⟩, ⟨some 9, none, .asg (.c (.bool true))⟩])
 .ret)))⟩
/-- laws.eqBoard -/
def a_laws_eqBoard : AFn := ⟨2, 17, [.tmp 4], (.seq (.reg [⟨some 2, none, .box (.t 0)⟩, ⟨some 3, none, .box (.t 1)⟩, ⟨some 4, none, .asg (.c (.bool false))⟩])
 (.seq (.seq (.reg [⟨some 5, none, .faddr 0 (.t 2)⟩, ⟨some 6, none, .load true 7 (.a 5 2)⟩, ⟨some 7, none, .faddr 0 (.t 3)⟩, ⟨some 8, none, .load true 7 (.a 7 3)⟩, ⟨some 9, none, .call n_laws_eqRules [.a 6 2, .a 8 3]⟩, ⟨some 10, none, .un .not (.t 9)⟩])
 (.cond (.t 10) (.seq (.reg [⟨some 4, none, .asg (.c (.bool false))⟩])
 .ret) .skip))
 (.seq (.seq (.reg [⟨some 11, none, .faddr 7 (.t 2)⟩, ⟨some 12, none, .load true 5 (.a 11 2)⟩, ⟨some 13, none, .faddr 7 (.t 3)⟩, ⟨some 14, none, .load true 5 (.a 13 3)⟩, ⟨some 15, none, .call n_laws_eqMap [.a 12 2, .a 14 3]⟩, ⟨some 16, none, .un .not (.t 15)⟩])
 (.cond (.t 16) (.seq (.reg [⟨some 4, none, .asg (.c (.bool false))⟩])
 .ret) .skip))
 (.seq (.reg [⟨some 4, none, .asg (.c (.bool true))⟩])
 .ret))))⟩
/-- laws.eqState -/
def a_laws_eqState : AFn := ⟨2, 21, [.tmp 4], (.seq (.reg [⟨some 2, none, .box (.t 0)⟩, ⟨some 3, none, .box (.t 1)⟩, ⟨some 4, none, .asg (.c (.bool false))⟩])
 (.seq (.seq (.reg [⟨some 5, none, .faddr 0 (.t 2)⟩, ⟨some 6, none, .load false 1 (.a 5 2)⟩, ⟨some 7, none, .faddr 0 (.t 3)⟩, ⟨some 8, none, .load false 1 (.a 7 3)⟩, ⟨some 9, none, .bin .neq (.a 6 2) (.a 8 3)⟩])
 (.cond (.t 9) (.seq (.reg [⟨some 4, none, .asg (.c (.bool false))⟩])
 .ret) .skip))
 (.seq (.seq (.reg [⟨some 10, none, .faddr 1 (.t 2)⟩, ⟨some 11, none, .load false 1 (.a 10 2)⟩, ⟨some 12, none, .faddr 1 (.t 3)⟩, ⟨some 13, none, .load false 1 (.a 12 3)⟩, ⟨some 14, none, .bin .neq (.a 11 2) (.a 13 3)⟩])
 (.cond (.t 14) (.seq (.reg [⟨some 4, none, .asg (.c (.bool false))⟩])
 .ret) .skip))
 (.seq (.seq (.reg [⟨some 15, none, .faddr 2 (.t 2)⟩, ⟨some 16, none, .load false 1 (.a 15 2)⟩, ⟨some 17, none, .faddr 2 (.t 3)⟩, ⟨some 18, none, .load false 1 (.a 17 3)⟩, ⟨some 19, none, .call n_laws_eqUnitS [.a 16 2, .a 18 3]⟩, ⟨some 20, none, .un .not (.t 19)⟩])
 (.cond (.t 20) (.seq (.reg [⟨some 4, none, .asg (.c (.bool false))⟩])
 .ret) .skip))
 (.seq (.reg [⟨some 4, none, .asg (.c (.bool true))⟩])
 .ret)))))⟩
/-- laws.eqOrder -/
def a_laws_eqOrder : AFn := ⟨2, 21, [.tmp 4], (.seq (.reg [⟨some 2, none, .box (.t 0)⟩, ⟨some 3, none, .box (.t 1)⟩, ⟨some 4, none, .asg (.c (.bool false))⟩])
 (.seq (.seq (.reg [⟨some 5, none, .faddr 0 (.t 2)⟩, ⟨some 6, none, .load false 1 (.a 5 2)⟩, ⟨some 7, none, .faddr 0 (.t 3)⟩, ⟨some 8, none, .load false 1 (.a 7 3)⟩, ⟨some 9, none, .bin .neq (.a 6 2) (.a 8 3)⟩])
 (.cond (.t 9) (.seq (.reg [⟨some 4, none, .asg (.c (.bool false))⟩])
 .ret) .skip))
 (.seq (.seq (.reg [⟨some 10, none, .faddr 1 (.t 2)⟩, ⟨some 11, none, .load false 1 (.a 10 2)⟩, ⟨some 12, none, .faddr 1 (.t 3)⟩, ⟨some 13, none, .load false 1 (.a 12 3)⟩, ⟨some 14, none, .call n_laws_eqIntS [.a 11 2, .a 13 3]⟩, ⟨some 15, none, .un .not (.t 14)⟩])
 (.cond (.t 15) (.seq (.reg [⟨some 4, none, .asg (.c (.bool false))⟩])
 .ret) .skip))
 (.seq (.seq (.reg [⟨some 16, none, .faddr 2 (.t 2)⟩, ⟨some 17, none, .load false 1 (.a 16 2)⟩, ⟨some 18, none, .faddr 2 (.t 3)⟩, ⟨some 19, none, .load false 1 (.a 18 3)⟩, ⟨some 20, none, .bin .neq (.a 17 2) (.a 19 3)⟩])
 (.cond (.t 20) (.seq (.reg [⟨some 4, none, .asg (.c (.bool false))⟩])
 .ret) .skip))
 (.seq (.reg [⟨some 4, none, .asg (.c (.bool true))⟩])
 .ret)))))⟩
/-- spec.EndOf -/
def a_spec_EndOf : AFn := ⟨3, 17, [.tmp 6, .tmp 7], (.seq (.reg [⟨some 3, none, .box (.t 0)⟩, ⟨some 4, none, .box (.t 1)⟩, ⟨some 5, none, .box (.t 2)⟩, ⟨some 6, none, .asg (.c (.int .i64 0))⟩, ⟨some 7, none, .asg (.c (.bool false))⟩])
 (.seq (.seq (.reg [⟨some 8, none, .load true 12 (.t 3)⟩, ⟨some 9, none, .load true 3 (.t 4)⟩, ⟨some 10, none, .load true 3 (.t 5)⟩, ⟨some 11, none, .call n_spec_oRight [.a 8 3, .a 9 4, .a 10 5]⟩, ⟨some 12, none, .un .not (.t 11)⟩])
 (.cond (.t 12) (.seq (.reg [⟨some 6, none, .asg (.c (.int .i64 0))⟩, ⟨some 7, none, .asg (.c (.bool false))⟩])
 .ret) .skip))
 (.seq (.reg [⟨some 13, none, .load true 12 (.t 3)⟩, ⟨some 14, none, .load true 3 (.t 4)⟩, ⟨some 15, none, .load true 3 (.t 5)⟩, ⟨some 16, none, .call n_spec_oEnd [.a 13 3, .a 14 4, .a 15 5]⟩, ⟨some 6, none, .asg (.p 16)⟩, ⟨some 7, none, .asg (.c (.bool true))⟩])
 .ret)))⟩
/-- impl.EndOf -/
def a_impl_EndOf : AFn := ⟨3, 17, [.tmp 6, .tmp 7], (.seq (.reg [⟨some 3, none, .box (.t 0)⟩, ⟨some 4, none, .box (.t 1)⟩, ⟨some 5, none, .box (.t 2)⟩, ⟨some 6, none, .asg (.c (.int .i64 0))⟩, ⟨some 7, none, .asg (.c (.bool false))⟩])
 (.seq (.seq (.reg [⟨some 8, none, .load true 12 (.t 3)⟩, ⟨some 9, none, .load true 3 (.t 4)⟩, ⟨some 10, none, .load true 3 (.t 5)⟩, ⟨some 11, none, .call n_impl_isGiven [.a 8 3, .a 9 4, .a 10 5]⟩, ⟨some 12, none, .un .not (.t 11)⟩])
 (.cond (.t 12) (.seq (.reg [⟨some 6, none, .asg (.c (.int .i64 0))⟩, ⟨some 7, none, .asg (.c (.bool false))⟩])
 .ret) .skip))
 (.seq (.reg [⟨some 13, none, .load true 12 (.t 3)⟩, ⟨some 14, none, .load true 3 (.t 4)⟩, ⟨some 15, none, .load true 3 (.t 5)⟩, ⟨some 16, none, .call n_impl_endOf [.a 13 3, .a 14 4, .a 15 5]⟩, ⟨some 6, none, .asg (.p 16)⟩, ⟨some 7, none, .asg (.c (.bool true))⟩])
 .ret)))⟩
/-- laws.szAttemptS -/
def a_laws_szAttemptS : AFn := ⟨2, 12, [.tmp 4], (.seq (.reg [⟨some 4, none, .asg (.c (.int .i64 0))⟩])
 (.seq (.reg [⟨some 5, none, .mv (.p 1)⟩, ⟨some 6, none, .rf (.t 0)⟩, ⟨some 7, none, .len (.a 6 0)⟩, ⟨some 8, none, .bin .sub (.t 5) (.t 7)⟩, ⟨some 1, none, .asg (.p 8)⟩])
 (.seq (.seq (.reg [⟨some 9, none, .mv (.p 1)⟩, ⟨some 10, none, .bin .lss (.t 9) (.c (.int .i64 0))⟩])
 (.cond (.t 10) (.seq (.reg [⟨some 4, none, .asg (.c (.int .i64 (-1)))⟩])
 .ret) .skip))
 (.seq (.reg [⟨some 11, none, .mv (.p 1)⟩, ⟨some 4, none, .asg (.p 11)⟩])
 .ret))))⟩
/-- spec.AttemptReason -/
def a_spec_AttemptReason : AFn := ⟨4, 28, [.tmp 8, .tmp 9], (.seq (.reg [⟨some 4, none, .box (.t 0)⟩, ⟨some 5, none, .box (.t 1)⟩, ⟨some 8, none, .asg (.c (.int .i64 0))⟩, ⟨some 9, none, .asg (.c (.bool false))⟩])
 (.seq (.seq (.reg [⟨some 10, none, .load true 12 (.t 4)⟩, ⟨some 11, none, .load true 3 (.t 5)⟩, ⟨some 12, none, .rf (.t 2)⟩, ⟨some 13, none, .call n_spec_fAsked [.a 10 4, .a 11 5, .a 12 2]⟩, ⟨some 14, none, .un .not (.t 13)⟩, ⟨some 15, none, .mv (.p 14)⟩, ⟨some 16, some (15, false), .mv (.p 3)⟩, ⟨some 17, some (15, false), .rf (.t 2)⟩, ⟨some 18, some (15, false), .len (.a 17 2)⟩, ⟨some 19, some (15, false), .bin .sub (.t 18) (.c (.int .i64 1))⟩, ⟨some 20, some (15, false), .call n_spec_l1In [.t 16, .c (.int .i64 0), .t 19]⟩, ⟨some 21, some (15, false), .un .not (.t 20)⟩, ⟨some 22, none, .pick (.t 15) (.c (.bool true)) (.t 21)⟩])
 (.cond (.t 22) (.seq (.reg [⟨some 8, none, .asg (.c (.int .i64 0))⟩, ⟨some 9, none, .asg (.c (.bool false))⟩])
 .ret) .skip))
 (.seq (.reg [⟨some 23, none, .load true 12 (.t 4)⟩, ⟨some 24, none, .load true 3 (.t 5)⟩, ⟨some 25, none, .rf (.t 2)⟩, ⟨some 26, none, .mv (.p 3)⟩, ⟨some 27, none, .call n_spec_fReason [.a 23 4, .a 24 5, .a 25 2, .t 26]⟩, ⟨some 8, none, .asg (.p 27)⟩, ⟨some 9, none, .asg (.c (.bool true))⟩])
 .ret)))⟩
def b_laws_toAttemptS_0 : AC := (.seq (.seq (.reg [⟨some 8, none, .mv (.p 4)⟩, ⟨some 9, none, .rf (.t 0)⟩, ⟨some 10, none, .len (.a 9 0)⟩, ⟨some 11, none, .bin .lss (.t 8) (.t 10)⟩])
 (.cond (.t 11) .skip (.exit 0)))
 (.seq (.block 1 (.reg [⟨some 14, none, .rf (.t 3)⟩, ⟨some 15, none, .mv (.p 4)⟩, ⟨some 16, none, .rf (.t 0)⟩, ⟨some 17, none, .mv (.p 4)⟩, ⟨some 18, none, .iaddr 3 (.a 16 0) (.t 17)⟩, ⟨some 19, none, .load true 3 (.a 18 0)⟩, ⟨some 20, none, .call n_laws_toAttempt [.a 19 0]⟩, ⟨some 21, none, .iaddr 3 (.a 14 3) (.t 15)⟩, ⟨none, none, .store 3 (.a 21 3) (.t 20)⟩]))
 (.reg [⟨some 12, none, .mv (.p 4)⟩, ⟨some 13, none, .bin .add (.t 12) (.c (.int .i64 1))⟩, ⟨some 4, none, .asg (.p 13)⟩])))
/-- laws.toAttemptS -/
def a_laws_toAttemptS : AFn := ⟨1, 23, [.tmp 2], (.seq (.reg [⟨some 2, none, .asg (.c (.list true 3 []))⟩])
 (.seq (.reg [⟨some 5, none, .rf (.t 0)⟩, ⟨some 6, none, .len (.a 5 0)⟩, ⟨some 7, none, .mslice 3 [.int .i64 0, .int .i64 0, .int .i64 0] (.t 6)⟩, ⟨some 3, none, .asg (.t 7)⟩])
 (.seq (.seq (.reg [⟨some 4, none, .asg (.c (.int .i64 0))⟩])
 (.block 0 (.loop [0, 3, 4] [2, 3] b_laws_toAttemptS_0)))
 (.seq (.reg [⟨some 22, none, .rf (.t 3)⟩, ⟨some 2, none, .asg (.a 22 3)⟩])
 .ret))))⟩
/-- impl.AttemptReason -/
def a_impl_AttemptReason : AFn := ⟨4, 27, [.tmp 8, .tmp 9], (.seq (.reg [⟨some 4, none, .box (.t 0)⟩, ⟨some 5, none, .box (.t 1)⟩, ⟨some 8, none, .asg (.c (.int .i64 0))⟩, ⟨some 9, none, .asg (.c (.bool false))⟩])
 (.seq (.seq (.reg [⟨some 10, none, .load true 12 (.t 4)⟩, ⟨some 11, none, .load true 3 (.t 5)⟩, ⟨some 12, none, .rf (.t 2)⟩, ⟨some 13, none, .call n_impl_areAttempts [.a 10 4, .a 11 5, .a 12 2]⟩, ⟨some 14, none, .un .not (.t 13)⟩, ⟨some 15, none, .mv (.p 14)⟩, ⟨some 16, some (15, false), .mv (.p 3)⟩, ⟨some 17, some (15, false), .rf (.t 2)⟩, ⟨some 18, some (15, false), .len (.a 17 2)⟩, ⟨some 19, some (15, false), .call n_impl_isIndex [.t 16, .t 18]⟩, ⟨some 20, some (15, false), .un .not (.t 19)⟩, ⟨some 21, none, .pick (.t 15) (.c (.bool true)) (.t 20)⟩])
 (.cond (.t 21) (.seq (.reg [⟨some 8, none, .asg (.c (.int .i64 0))⟩, ⟨some 9, none, .asg (.c (.bool false))⟩])
 .ret) .skip))
 (.seq (.reg [⟨some 22, none, .load true 12 (.t 4)⟩, ⟨some 23, none, .load true 3 (.t 5)⟩, ⟨some 24, none, .rf (.t 2)⟩, ⟨some 25, none, .mv (.p 3)⟩, ⟨some 26, none, .call n_impl_attemptReason [.a 22 4, .a 23 5, .a 24 2, .t 25]⟩, ⟨some 8, none, .asg (.p 26)⟩, ⟨some 9, none, .asg (.c (.bool true))⟩])
 .ret)))⟩
def b_laws_eqAttemptS_0 : AC := (.seq (.seq (.reg [⟨some 11, none, .mv (.p 5)⟩, ⟨some 12, none, .rf (.t 0)⟩, ⟨some 13, none, .len (.a 12 0)⟩, ⟨some 14, none, .bin .lss (.t 11) (.t 13)⟩])
 (.cond (.t 14) .skip (.exit 0)))
 (.seq (.block 1 (.seq (.reg [⟨some 17, none, .rf (.t 0)⟩, ⟨some 18, none, .mv (.p 5)⟩, ⟨some 19, none, .iaddr 3 (.a 17 0) (.t 18)⟩, ⟨some 20, none, .load true 3 (.a 19 0)⟩, ⟨some 21, none, .rf (.t 1)⟩, ⟨some 22, none, .mv (.p 5)⟩, ⟨some 23, none, .iaddr 3 (.a 21 1) (.t 22)⟩, ⟨some 24, none, .load true 3 (.a 23 1)⟩, ⟨some 25, none, .call n_laws_eqAttempt [.a 20 0, .a 24 1]⟩, ⟨some 26, none, .un .not (.t 25)⟩])
 (.cond (.t 26) (.seq (.reg [⟨some 4, none, .asg (.c (.bool false))⟩])
 .ret) .skip)))
 (.reg [⟨some 15, none, .mv (.p 5)⟩, ⟨some 16, none, .bin .add (.t 15) (.c (.int .i64 1))⟩, ⟨some 5, none, .asg (.p 16)⟩])))
/-- laws.eqAttemptS -/
def a_laws_eqAttemptS : AFn := ⟨2, 27, [.tmp 4], (.seq (.reg [⟨some 4, none, .asg (.c (.bool false))⟩])
 (.seq (.seq (.reg [⟨some 6, none, .rf (.t 0)⟩, ⟨some 7, none, .len (.a 6 0)⟩, ⟨some 8, none, .rf (.t 1)⟩, ⟨some 9, none, .len (.a 8 1)⟩, ⟨some 10, none, .bin .neq (.t 7) (.t 9)⟩])
 (.cond (.t 10) (.seq (.reg [⟨some 4, none, .asg (.c (.bool false))⟩])
 .ret) .skip))
 (.seq (.seq (.reg [⟨some 5, none, .asg (.c (.int .i64 0))⟩])
 (.block 0 (.loop [0, 1, 5] [4] b_laws_eqAttemptS_0)))
 (.seq (.reg [⟨some 4, none, .asg (.c (.bool true))⟩])
 .ret))))⟩
/-- spec.OrderCost -/
def a_spec_OrderCost : AFn := ⟨3, 17, [.tmp 6, .tmp 7], (.seq (.reg [⟨some 3, none, .box (.t 0)⟩, ⟨some 4, none, .box (.t 1)⟩, ⟨some 5, none, .box (.t 2)⟩, ⟨some 6, none, .asg (.c (.int .i64 0))⟩, ⟨some 7, none, .asg (.c (.bool false))⟩])
 (.seq (.seq (.reg [⟨some 8, none, .load true 12 (.t 3)⟩, ⟨some 9, none, .load true 3 (.t 4)⟩, ⟨some 10, none, .load true 3 (.t 5)⟩, ⟨some 11, none, .call n_spec_oRight [.a 8 3, .a 9 4, .a 10 5]⟩, ⟨some 12, none, .un .not (.t 11)⟩])
 (.cond (.t 12) (.seq (.reg [⟨some 6, none, .asg (.c (.int .i64 0))⟩, ⟨some 7, none, .asg (.c (.bool false))⟩])
 .ret) .skip))
 (.seq (.reg [⟨some 13, none, .load true 12 (.t 3)⟩, ⟨some 14, none, .load true 3 (.t 4)⟩, ⟨some 15, none, .load true 3 (.t 5)⟩, ⟨some 16, none, .call n_spec_oCost [.a 13 3, .a 14 4, .a 15 5]⟩, ⟨some 6, none, .asg (.p 16)⟩, ⟨some 7, none, .asg (.c (.bool true))⟩])
 .ret)))⟩
/-- impl.OrderCost -/
def a_impl_OrderCost : AFn := ⟨3, 32, [.tmp 6, .tmp 7], (.seq (.reg [⟨some 3, none, .box (.t 0)⟩, ⟨some 4, none, .box (.t 1)⟩, ⟨some 5, none, .box (.t 2)⟩, ⟨some 6, none, .asg (.c (.int .i64 0))⟩, ⟨some 7, none, .asg (.c (.bool false))⟩])
 (.seq (.seq (.reg [⟨some 9, none, .load true 12 (.t 3)⟩, ⟨some 10, none, .load true 3 (.t 4)⟩, ⟨some 11, none, .load true 3 (.t 5)⟩, ⟨some 12, none, .call n_impl_isGiven [.a 9 3, .a 10 4, .a 11 5]⟩, ⟨some 13, none, .un .not (.t 12)⟩])
 (.cond (.t 13) (.seq (.reg [⟨some 6, none, .asg (.c (.int .i64 0))⟩, ⟨some 7, none, .asg (.c (.bool false))⟩])
 .ret) .skip))
 (.seq (.reg [⟨some 14, none, .faddr 2 (.t 4)⟩, ⟨some 15, none, .load false 1 (.a 14 4)⟩, ⟨some 16, none, .faddr 0 (.t 5)⟩, ⟨some 17, none, .load false 1 (.a 16 5)⟩, ⟨some 18, none, .iaddr 4 (.a 15 4) (.a 17 5)⟩, ⟨some 19, none, .load true 4 (.a 18 4)⟩, ⟨some 8, none, .alloc [.int .i64 0, .int .i64 0, .int .i64 0, .int .i64 0]⟩, ⟨none, none, .store 4 (.t 8) (.a 19 4)⟩])
 (.seq (.reg [⟨some 20, none, .load true 12 (.t 3)⟩, ⟨some 21, none, .faddr 1 (.t 8)⟩, ⟨some 22, none, .load false 1 (.a 21 8)⟩, ⟨some 23, none, .faddr 1 (.t 4)⟩, ⟨some 24, none, .load false 1 (.a 23 4)⟩, ⟨some 25, none, .faddr 2 (.t 8)⟩, ⟨some 26, none, .load false 1 (.a 25 8)⟩, ⟨some 27, none, .faddr 1 (.t 5)⟩, ⟨some 28, none, .load false 1 (.a 27 5)⟩, ⟨some 29, none, .call n_impl_PathCost [.a 20 3, .a 22 8, .a 24 4, .a 26 8, .a 28 5]⟩, ⟨some 30, none, .extract (.p 29) 0⟩, ⟨some 31, none, .extract (.p 29) 1⟩, ⟨some 6, none, .asg (.p 30)⟩, ⟨some 7, none, .asg (.p 31)⟩])
 .ret))))⟩
/-- laws.szBattle -/
def a_laws_szBattle : AFn := ⟨2, 18, [.tmp 4], (.seq (.reg [⟨some 2, none, .box (.t 0)⟩, ⟨some 4, none, .asg (.c (.int .i64 0))⟩])
 (.seq (.reg [⟨some 5, none, .faddr 1 (.t 2)⟩, ⟨some 6, none, .load false 1 (.a 5 2)⟩, ⟨some 7, none, .mv (.p 1)⟩, ⟨some 8, none, .call n_laws_szIntS [.a 6 2, .t 7]⟩, ⟨some 1, none, .asg (.p 8)⟩])
 (.seq (.seq (.reg [⟨some 9, none, .mv (.p 1)⟩, ⟨some 10, none, .bin .lss (.t 9) (.c (.int .i64 0))⟩])
 (.cond (.t 10) (.seq (.reg [⟨some 4, none, .asg (.c (.int .i64 (-1)))⟩])
 .ret) .skip))
 (.seq (.reg [⟨some 11, none, .faddr 2 (.t 2)⟩, ⟨some 12, none, .load false 1 (.a 11 2)⟩, ⟨some 13, none, .mv (.p 1)⟩, ⟨some 14, none, .call n_laws_szIntS [.a 12 2, .t 13]⟩, ⟨some 1, none, .asg (.p 14)⟩])
 (.seq (.seq (.reg [⟨some 15, none, .mv (.p 1)⟩, ⟨some 16, none, .bin .lss (.t 15) (.c (.int .i64 0))⟩])
 (.cond (.t 16) (.seq (.reg [⟨some 4, none, .asg (.c (.int .i64 (-1)))⟩])
 .ret) .skip))
 (.seq (.reg [⟨some 17, none, .mv (.p 1)⟩, ⟨some 4, none, .asg (.p 17)⟩])
 .ret))))))⟩
/-- spec.BattleLosses -/
def a_spec_BattleLosses : AFn := ⟨4, 43, [.tmp 8, .tmp 9, .tmp 10], (.seq (.reg [⟨some 4, none, .box (.t 0)⟩, ⟨some 5, none, .box (.t 1)⟩, ⟨some 6, none, .box (.t 2)⟩, ⟨some 8, none, .asg (.c (.int .i64 0))⟩, ⟨some 9, none, .asg (.c (.int .i64 0))⟩, ⟨some 10, none, .asg (.c (.bool false))⟩])
 (.seq (.seq (.reg [⟨some 13, none, .load true 12 (.t 4)⟩, ⟨some 14, none, .load true 3 (.t 5)⟩, ⟨some 15, none, .load true 3 (.t 6)⟩, ⟨some 16, none, .mv (.p 3)⟩, ⟨some 17, none, .call n_spec_aResult [.a 13 4, .a 14 5, .a 15 6, .t 16]⟩, ⟨some 18, none, .un .not (.t 17)⟩])
 (.cond (.t 18) (.seq (.reg [⟨some 8, none, .asg (.c (.int .i64 0))⟩, ⟨some 9, none, .asg (.c (.int .i64 0))⟩, ⟨some 10, none, .asg (.c (.bool false))⟩])
 .ret) .skip))
 (.seq (.reg [⟨some 19, none, .load true 3 (.t 5)⟩, ⟨some 20, none, .load true 3 (.t 6)⟩, ⟨some 21, none, .mv (.p 3)⟩, ⟨some 22, none, .call n_spec_aApply [.a 19 5, .a 20 6, .t 21]⟩, ⟨some 11, none, .alloc [.int .i64 0, .int .i64 0, .list true 4 []]⟩, ⟨none, none, .store 3 (.t 11) (.t 22)⟩])
 (.seq (.reg [⟨some 23, none, .load true 3 (.t 5)⟩, ⟨some 24, none, .faddr 0 (.t 6)⟩, ⟨some 25, none, .load false 1 (.a 24 6)⟩, ⟨some 26, none, .call n_spec_sOwner [.a 23 5, .a 25 6]⟩, ⟨some 12, none, .asg (.p 26)⟩])
 (.seq (.reg [⟨some 27, none, .load true 3 (.t 5)⟩, ⟨some 28, none, .mv (.p 12)⟩, ⟨some 29, none, .bin .sub (.c (.int .i64 1)) (.t 28)⟩, ⟨some 30, none, .call n_spec_sSteps [.a 27 5, .t 29]⟩, ⟨some 31, none, .load true 3 (.t 11)⟩, ⟨some 32, none, .mv (.p 12)⟩, ⟨some 33, none, .bin .sub (.c (.int .i64 1)) (.t 32)⟩, ⟨some 34, none, .call n_spec_sSteps [.a 31 11, .t 33]⟩, ⟨some 35, none, .bin .sub (.t 30) (.t 34)⟩, ⟨some 36, none, .load true 3 (.t 5)⟩, ⟨some 37, none, .mv (.p 12)⟩, ⟨some 38, none, .call n_spec_sSteps [.a 36 5, .t 37]⟩, ⟨some 39, none, .load true 3 (.t 11)⟩, ⟨some 40, none, .mv (.p 12)⟩, ⟨some 41, none, .call n_spec_sSteps [.a 39 11, .t 40]⟩, ⟨some 42, none, .bin .sub (.t 38) (.t 41)⟩, ⟨some 8, none, .asg (.p 35)⟩, ⟨some 9, none, .asg (.p 42)⟩, ⟨some 10, none, .asg (.c (.bool true))⟩])
 .ret)))))⟩
/-- laws.toBattle -/
def a_laws_toBattle : AFn := ⟨1, 16, [.cell 2 3 true], (.seq (.reg [⟨some 1, none, .box (.t 0)⟩, ⟨some 2, none, .alloc [.int .i64 0, .list true 1 [], .list true 1 []]⟩])
 (.seq (.reg [⟨some 3, none, .alloc [.int .i64 0, .list true 1 [], .list true 1 []]⟩])
 (.seq (.reg [⟨some 4, none, .faddr 0 (.t 1)⟩, ⟨some 5, none, .load false 1 (.a 4 1)⟩, ⟨some 6, none, .faddr 0 (.t 3)⟩, ⟨none, none, .store 1 (.a 6 3) (.p 5)⟩])
 (.seq (.reg [⟨some 7, none, .faddr 1 (.t 1)⟩, ⟨some 8, none, .load false 1 (.a 7 1)⟩, ⟨some 9, none, .call n_laws_toIntS [.a 8 1]⟩, ⟨some 10, none, .faddr 1 (.t 3)⟩, ⟨none, none, .store 1 (.a 10 3) (.t 9)⟩])
 (.seq (.reg [⟨some 11, none, .faddr 2 (.t 1)⟩, ⟨some 12, none, .load false 1 (.a 11 1)⟩, ⟨some 13, none, .call n_laws_toIntS [.a 12 1]⟩, ⟨some 14, none, .faddr 2 (.t 3)⟩, ⟨none, none, .store 1 (.a 14 3) (.t 13)⟩])
 (.seq (.reg [⟨some 15, none, .load true 3 (.t 3)⟩, ⟨none, none, .store 3 (.t 2) (.a 15 3)⟩])
 .ret))))))⟩
/-- impl.BattleLosses -/
def a_impl_BattleLosses : AFn := ⟨4, 41, [.tmp 8, .tmp 9, .tmp 10], (.seq (.reg [⟨some 4, none, .box (.t 0)⟩, ⟨some 5, none, .box (.t 1)⟩, ⟨some 6, none, .box (.t 2)⟩, ⟨some 8, none, .asg (.c (.int .i64 0))⟩, ⟨some 9, none, .asg (.c (.int .i64 0))⟩, ⟨some 10, none, .asg (.c (.bool false))⟩])
 (.seq (.reg [⟨some 14, none, .load true 12 (.t 4)⟩, ⟨some 15, none, .load true 3 (.t 5)⟩, ⟨some 16, none, .load true 3 (.t 6)⟩, ⟨some 17, none, .mv (.p 3)⟩, ⟨some 18, none, .call n_impl_ApplyResult [.a 14 4, .a 15 5, .a 16 6, .t 17]⟩, ⟨some 13, none, .mv (.t 18)⟩, ⟨some 19, none, .extract (.t 13) 0⟩, ⟨some 20, none, .extract (.p 13) 1⟩, ⟨some 11, none, .alloc [.int .i64 0, .int .i64 0, .list true 4 []]⟩, ⟨none, none, .store 3 (.t 11) (.t 19)⟩, ⟨some 12, none, .asg (.p 20)⟩])
 (.seq (.seq (.reg [⟨some 21, none, .mv (.p 12)⟩, ⟨some 22, none, .un .not (.t 21)⟩])
 (.cond (.t 22) (.seq (.reg [⟨some 8, none, .asg (.c (.int .i64 0))⟩, ⟨some 9, none, .asg (.c (.int .i64 0))⟩, ⟨some 10, none, .asg (.c (.bool false))⟩])
 .ret) .skip))
 (.seq (.reg [⟨some 23, none, .load true 3 (.t 5)⟩, ⟨some 24, none, .faddr 1 (.t 6)⟩, ⟨some 25, none, .load false 1 (.a 24 6)⟩, ⟨some 26, none, .call n_impl_stepsOf [.a 23 5, .a 25 6]⟩, ⟨some 27, none, .load true 3 (.t 11)⟩, ⟨some 28, none, .faddr 1 (.t 6)⟩, ⟨some 29, none, .load false 1 (.a 28 6)⟩, ⟨some 30, none, .call n_impl_stepsOf [.a 27 11, .a 29 6]⟩, ⟨some 31, none, .bin .sub (.t 26) (.t 30)⟩, ⟨some 32, none, .load true 3 (.t 5)⟩, ⟨some 33, none, .faddr 2 (.t 6)⟩, ⟨some 34, none, .load false 1 (.a 33 6)⟩, ⟨some 35, none, .call n_impl_stepsOf [.a 32 5, .a 34 6]⟩, ⟨some 36, none, .load true 3 (.t 11)⟩, ⟨some 37, none, .faddr 2 (.t 6)⟩, ⟨some 38, none, .load false 1 (.a 37 6)⟩, ⟨some 39, none, .call n_impl_stepsOf [.a 36 11, .a 38 6]⟩, ⟨some 40, none, .bin .sub (.t 35) (.t 39)⟩, ⟨some 8, none, .asg (.p 31)⟩, ⟨some 9, none, .asg (.p 40)⟩, ⟨some 10, none, .asg (.c (.bool true))⟩])
 .ret))))⟩
/-- laws.eqBattle -/
def a_laws_eqBattle : AFn := ⟨2, 22, [.tmp 4], (.seq (.reg [⟨some 2, none, .box (.t 0)⟩, ⟨some 3, none, .box (.t 1)⟩, ⟨some 4, none, .asg (.c (.bool false))⟩])
 (.seq (.seq (.reg [⟨some 5, none, .faddr 0 (.t 2)⟩, ⟨some 6, none, .load false 1 (.a 5 2)⟩, ⟨some 7, none, .faddr 0 (.t 3)⟩, ⟨some 8, none, .load false 1 (.a 7 3)⟩, ⟨some 9, none, .bin .neq (.a 6 2) (.a 8 3)⟩])
 (.cond (.t 9) (.seq (.reg [⟨some 4, none, .asg (.c (.bool false))⟩])
 .ret) .skip))
 (.seq (.seq (.reg [⟨some 10, none, .faddr 1 (.t 2)⟩, ⟨some 11, none, .load false 1 (.a 10 2)⟩, ⟨some 12, none, .faddr 1 (.t 3)⟩, ⟨some 13, none, .load false 1 (.a 12 3)⟩, ⟨some 14, none, .call n_laws_eqIntS [.a 11 2, .a 13 3]⟩, ⟨some 15, none, .un .not (.t 14)⟩])
 (.cond (.t 15) (.seq (.reg [⟨some 4, none, .asg (.c (.bool false))⟩])
 .ret) .skip))
 (.seq (.seq (.reg [⟨some 16, none, .faddr 2 (.t 2)⟩, ⟨some 17, none, .load false 1 (.a 16 2)⟩, ⟨some 18, none, .faddr 2 (.t 3)⟩, ⟨some 19, none, .load false 1 (.a 18 3)⟩, ⟨some 20, none, .call n_laws_eqIntS [.a 17 2, .a 19 3]⟩, ⟨some 21, none, .un .not (.t 20)⟩])
 (.cond (.t 21) (.seq (.reg [⟨some 4, none, .asg (.c (.bool false))⟩])
 .ret) .skip))
 (.seq (.reg [⟨some 4, none, .asg (.c (.bool true))⟩])
 .ret)))))⟩
/-- laws.szSheet -/
def a_laws_szSheet : AFn := ⟨2, 12, [.tmp 4], (.seq (.reg [⟨some 2, none, .box (.t 0)⟩, ⟨some 4, none, .asg (.c (.int .i64 0))⟩])
 (.seq (.reg [⟨some 5, none, .faddr 1 (.t 2)⟩, ⟨some 6, none, .load false 1 (.a 5 2)⟩, ⟨some 7, none, .mv (.p 1)⟩, ⟨some 8, none, .call n_laws_szOrderS [.a 6 2, .t 7]⟩, ⟨some 1, none, .asg (.p 8)⟩])
 (.seq (.seq (.reg [⟨some 9, none, .mv (.p 1)⟩, ⟨some 10, none, .bin .lss (.t 9) (.c (.int .i64 0))⟩])
 (.cond (.t 10) (.seq (.reg [⟨some 4, none, .asg (.c (.int .i64 (-1)))⟩])
 .ret) .skip))
 (.seq (.reg [⟨some 11, none, .mv (.p 1)⟩, ⟨some 4, none, .asg (.p 11)⟩])
 .ret))))⟩
/-- spec.SheetFault -/
def a_spec_SheetFault : AFn := ⟨3, 29, [.tmp 6, .tmp 7, .tmp 8], (.seq (.reg [⟨some 3, none, .box (.t 0)⟩, ⟨some 4, none, .box (.t 1)⟩, ⟨some 5, none, .box (.t 2)⟩, ⟨some 6, none, .asg (.c (.int .i64 0))⟩, ⟨some 7, none, .asg (.c (.int .i64 0))⟩, ⟨some 8, none, .asg (.c (.bool false))⟩])
 (.seq (.seq (.reg [⟨some 11, none, .load true 12 (.t 3)⟩, ⟨some 12, none, .load true 3 (.t 4)⟩, ⟨some 13, none, .call n_spec_sGood [.a 11 3, .a 12 4]⟩, ⟨some 14, none, .un .not (.t 13)⟩, ⟨some 15, none, .mv (.p 14)⟩, ⟨some 16, some (15, false), .load true 2 (.t 5)⟩, ⟨some 17, some (15, false), .call n_spec_oForm [.a 16 5]⟩, ⟨some 18, some (15, false), .un .not (.t 17)⟩, ⟨some 19, none, .pick (.t 15) (.c (.bool true)) (.t 18)⟩])
 (.cond (.t 19) (.seq (.reg [⟨some 6, none, .asg (.c (.int .i64 0))⟩, ⟨some 7, none, .asg (.c (.int .i64 0))⟩, ⟨some 8, none, .asg (.c (.bool false))⟩])
 .ret) .skip))
 (.seq (.reg [⟨some 21, none, .load true 12 (.t 3)⟩, ⟨some 22, none, .load true 3 (.t 4)⟩, ⟨some 23, none, .load true 2 (.t 5)⟩, ⟨some 24, none, .call n_spec_oFirst [.a 21 3, .a 22 4, .a 23 5]⟩, ⟨some 20, none, .mv (.t 24)⟩, ⟨some 25, none, .extract (.p 20) 0⟩, ⟨some 26, none, .extract (.p 20) 1⟩, ⟨some 9, none, .asg (.p 25)⟩, ⟨some 10, none, .asg (.p 26)⟩])
 (.seq (.reg [⟨some 27, none, .mv (.p 9)⟩, ⟨some 28, none, .mv (.p 10)⟩, ⟨some 6, none, .asg (.p 27)⟩, ⟨some 7, none, .asg (.p 28)⟩, ⟨some 8, none, .asg (.c (.bool true))⟩])
 .ret))))⟩
/-- laws.toSheet -/
def a_laws_toSheet : AFn := ⟨1, 12, [.cell 2 2 true], (.seq (.reg [⟨some 1, none, .box (.t 0)⟩, ⟨some 2, none, .alloc [.int .i64 0, .list true 3 []]⟩])
 (.seq (.reg [⟨some 3, none, .alloc [.int .i64 0, .list true 3 []]⟩])
 (.seq (.reg [⟨some 4, none, .faddr 0 (.t 1)⟩, ⟨some 5, none, .load false 1 (.a 4 1)⟩, ⟨some 6, none, .faddr 0 (.t 3)⟩, ⟨none, none, .store 1 (.a 6 3) (.p 5)⟩])
 (.seq (.reg [⟨some 7, none, .faddr 1 (.t 1)⟩, ⟨some 8, none, .load false 1 (.a 7 1)⟩, ⟨some 9, none, .call n_laws_toOrderS [.a 8 1]⟩, ⟨some 10, none, .faddr 1 (.t 3)⟩, ⟨none, none, .store 1 (.a 10 3) (.t 9)⟩])
 (.seq (.reg [⟨some 11, none, .load true 2 (.t 3)⟩, ⟨none, none, .store 2 (.t 2) (.a 11 3)⟩])
 .ret)))))⟩
/-- impl.SheetFault -/
def a_impl_SheetFault : AFn := ⟨3, 36, [.tmp 6, .tmp 7, .tmp 8], (.seq (.reg [⟨some 3, none, .box (.t 0)⟩, ⟨some 4, none, .box (.t 1)⟩, ⟨some 5, none, .box (.t 2)⟩, ⟨some 6, none, .asg (.c (.int .i64 0))⟩, ⟨some 7, none, .asg (.c (.int .i64 0))⟩, ⟨some 8, none, .asg (.c (.bool false))⟩])
 (.seq (.seq (.reg [⟨some 11, none, .load true 12 (.t 3)⟩, ⟨some 12, none, .load true 3 (.t 4)⟩, ⟨some 13, none, .call n_impl_fits [.a 11 3, .a 12 4]⟩, ⟨some 14, none, .un .not (.t 13)⟩, ⟨some 15, none, .mv (.p 14)⟩, ⟨some 16, some (15, false), .faddr 0 (.t 5)⟩, ⟨some 17, some (15, false), .load false 1 (.a 16 5)⟩, ⟨some 18, some (15, false), .call n_impl_isSide [.a 17 5]⟩, ⟨some 19, some (15, false), .un .not (.t 18)⟩, ⟨some 20, none, .pick (.t 15) (.c (.bool true)) (.t 19)⟩, ⟨some 21, none, .mv (.p 20)⟩, ⟨some 22, some (21, false), .faddr 1 (.t 5)⟩, ⟨some 23, some (21, false), .load false 1 (.a 22 5)⟩, ⟨some 24, some (21, false), .len (.a 23 5)⟩, ⟨some 25, some (21, false), .bin .gtr (.t 24) (.c (.int .i64 12))⟩, ⟨some 26, none, .pick (.t 21) (.c (.bool true)) (.t 25)⟩])
 (.cond (.t 26) (.seq (.reg [⟨some 6, none, .asg (.c (.int .i64 0))⟩, ⟨some 7, none, .asg (.c (.int .i64 0))⟩, ⟨some 8, none, .asg (.c (.bool false))⟩])
 .ret) .skip))
 (.seq (.reg [⟨some 28, none, .load true 12 (.t 3)⟩, ⟨some 29, none, .load true 3 (.t 4)⟩, ⟨some 30, none, .load true 2 (.t 5)⟩, ⟨some 31, none, .call n_impl_sheetFault [.a 28 3, .a 29 4, .a 30 5]⟩, ⟨some 27, none, .mv (.t 31)⟩, ⟨some 32, none, .extract (.p 27) 0⟩, ⟨some 33, none, .extract (.p 27) 1⟩, ⟨some 9, none, .asg (.p 32)⟩, ⟨some 10, none, .asg (.p 33)⟩])
 (.seq (.reg [⟨some 34, none, .mv (.p 9)⟩, ⟨some 35, none, .mv (.p 10)⟩, ⟨some 6, none, .asg (.p 34)⟩, ⟨some 7, none, .asg (.p 35)⟩, ⟨some 8, none, .asg (.c (.bool true))⟩])
 .ret))))⟩
/-- laws.eqSheet -/
def a_laws_eqSheet : AFn := ⟨2, 16, [.tmp 4], (.seq (.reg [⟨some 2, none, .box (.t 0)⟩, ⟨some 3, none, .box (.t 1)⟩, ⟨some 4, none, .asg (.c (.bool false))⟩])
 (.seq (.seq (.reg [⟨some 5, none, .faddr 0 (.t 2)⟩, ⟨some 6, none, .load false 1 (.a 5 2)⟩, ⟨some 7, none, .faddr 0 (.t 3)⟩, ⟨some 8, none, .load false 1 (.a 7 3)⟩, ⟨some 9, none, .bin .neq (.a 6 2) (.a 8 3)⟩])
 (.cond (.t 9) (.seq (.reg [⟨some 4, none, .asg (.c (.bool false))⟩])
 .ret) .skip))
 (.seq (.seq (.reg [⟨some 10, none, .faddr 1 (.t 2)⟩, ⟨some 11, none, .load false 1 (.a 10 2)⟩, ⟨some 12, none, .faddr 1 (.t 3)⟩, ⟨some 13, none, .load false 1 (.a 12 3)⟩, ⟨some 14, none, .call n_laws_eqOrderS [.a 11 2, .a 13 3]⟩, ⟨some 15, none, .un .not (.t 14)⟩])
 (.cond (.t 15) (.seq (.reg [⟨some 4, none, .asg (.c (.bool false))⟩])
 .ret) .skip))
 (.seq (.reg [⟨some 4, none, .asg (.c (.bool true))⟩])
 .ret))))⟩
/-- spec.IsSheet -/
def a_spec_IsSheet : AFn := ⟨3, 16, [.tmp 6, .tmp 7], (.seq (.reg [⟨some 3, none, .box (.t 0)⟩, ⟨some 4, none, .box (.t 1)⟩, ⟨some 5, none, .box (.t 2)⟩, ⟨some 6, none, .asg (.c (.bool false))⟩, ⟨some 7, none, .asg (.c (.bool false))⟩])
 (.seq (.seq (.reg [⟨some 8, none, .load true 12 (.t 3)⟩, ⟨some 9, none, .load true 3 (.t 4)⟩, ⟨some 10, none, .call n_spec_sGood [.a 8 3, .a 9 4]⟩, ⟨some 11, none, .un .not (.t 10)⟩])
 (.cond (.t 11) (.seq (.reg [⟨some 6, none, .asg (.c (.bool false))⟩, ⟨some 7, none, .asg (.c (.bool false))⟩])
 .ret) .skip))
 (.seq (.reg [⟨some 12, none, .load true 12 (.t 3)⟩, ⟨some 13, none, .load true 3 (.t 4)⟩, ⟨some 14, none, .load true 2 (.t 5)⟩, ⟨some 15, none, .call n_spec_oGood [.a 12 3, .a 13 4, .a 14 5]⟩, ⟨some 6, none, .asg (.p 15)⟩, ⟨some 7, none, .asg (.c (.bool true))⟩])
 .ret)))⟩
/-- impl.IsSheet -/
def a_impl_IsSheet : AFn := ⟨3, 16, [.tmp 6, .tmp 7], (.seq (.reg [⟨some 3, none, .box (.t 0)⟩, ⟨some 4, none, .box (.t 1)⟩, ⟨some 5, none, .box (.t 2)⟩, ⟨some 6, none, .asg (.c (.bool false))⟩, ⟨some 7, none, .asg (.c (.bool false))⟩])
 (.seq (.seq (.reg [⟨some 8, none, .load true 12 (.t 3)⟩, ⟨some 9, none, .load true 3 (.t 4)⟩, ⟨some 10, none, .call n_impl_fits [.a 8 3, .a 9 4]⟩, ⟨some 11, none, .un .not (.t 10)⟩])
 (.cond (.t 11) (.seq (.reg [⟨some 6, none, .asg (.c (.bool false))⟩, ⟨some 7, none, .asg (.c (.bool false))⟩])
 .ret) .skip))
 (.seq (.reg [⟨some 12, none, .load true 12 (.t 3)⟩, ⟨some 13, none, .load true 3 (.t 4)⟩, ⟨some 14, none, .load true 2 (.t 5)⟩, ⟨some 15, none, .call n_impl_goodSheet [.a 12 3, .a 13 4, .a 14 5]⟩, ⟨some 6, none, .asg (.p 15)⟩, ⟨some 7, none, .asg (.c (.bool true))⟩])
 .ret)))⟩
/-- laws.szCombatTable -/
def a_laws_szCombatTable : AFn := ⟨2, 18, [.tmp 4], (.seq (.reg [⟨some 2, none, .box (.t 0)⟩, ⟨some 4, none, .asg (.c (.int .i64 0))⟩])
 (.seq (.reg [⟨some 5, none, .faddr 0 (.t 2)⟩, ⟨some 6, none, .load false 1 (.a 5 2)⟩, ⟨some 7, none, .mv (.p 1)⟩, ⟨some 8, none, .call n_laws_szOddsS [.a 6 2, .t 7]⟩, ⟨some 1, none, .asg (.p 8)⟩])
 (.seq (.seq (.reg [⟨some 9, none, .mv (.p 1)⟩, ⟨some 10, none, .bin .lss (.t 9) (.c (.int .i64 0))⟩])
 (.cond (.t 10) (.seq (.reg [⟨some 4, none, .asg (.c (.int .i64 (-1)))⟩])
 .ret) .skip))
 (.seq (.reg [⟨some 11, none, .faddr 2 (.t 2)⟩, ⟨some 12, none, .load false 1 (.a 11 2)⟩, ⟨some 13, none, .mv (.p 1)⟩, ⟨some 14, none, .call n_laws_szIntSS [.a 12 2, .t 13]⟩, ⟨some 1, none, .asg (.p 14)⟩])
 (.seq (.seq (.reg [⟨some 15, none, .mv (.p 1)⟩, ⟨some 16, none, .bin .lss (.t 15) (.c (.int .i64 0))⟩])
 (.cond (.t 16) (.seq (.reg [⟨some 4, none, .asg (.c (.int .i64 (-1)))⟩])
 .ret) .skip))
 (.seq (.reg [⟨some 17, none, .mv (.p 1)⟩, ⟨some 4, none, .asg (.p 17)⟩])
 .ret))))))⟩
/-- spec.BattleColumn -/
def a_spec_BattleColumn : AFn := ⟨4, 25, [.tmp 8, .tmp 9], (.seq (.reg [⟨some 4, none, .box (.t 0)⟩, ⟨some 5, none, .box (.t 1)⟩, ⟨some 6, none, .box (.t 2)⟩, ⟨some 7, none, .box (.t 3)⟩, ⟨some 8, none, .asg (.c (.int .i64 0))⟩, ⟨some 9, none, .asg (.c (.bool false))⟩])
 (.seq (.seq (.reg [⟨some 10, none, .load true 3 (.t 6)⟩, ⟨some 11, none, .call n_spec_kGood [.a 10 6]⟩, ⟨some 12, none, .un .not (.t 11)⟩, ⟨some 13, none, .mv (.p 12)⟩, ⟨some 14, some (13, false), .load true 12 (.t 4)⟩, ⟨some 15, some (13, false), .load true 3 (.t 5)⟩, ⟨some 16, some (13, false), .load true 3 (.t 7)⟩, ⟨some 17, some (13, false), .call n_spec_aGood [.a 14 4, .a 15 5, .a 16 7]⟩, ⟨some 18, some (13, false), .un .not (.t 17)⟩, ⟨some 19, none, .pick (.t 13) (.c (.bool true)) (.t 18)⟩])
 (.cond (.t 19) (.seq (.reg [⟨some 8, none, .asg (.c (.int .i64 0))⟩, ⟨some 9, none, .asg (.c (.bool false))⟩])
 .ret) .skip))
 (.seq (.reg [⟨some 20, none, .load true 12 (.t 4)⟩, ⟨some 21, none, .load true 3 (.t 5)⟩, ⟨some 22, none, .load true 3 (.t 6)⟩, ⟨some 23, none, .load true 3 (.t 7)⟩, ⟨some 24, none, .call n_spec_aColumn [.a 20 4, .a 21 5, .a 22 6, .a 23 7]⟩, ⟨some 8, none, .asg (.p 24)⟩, ⟨some 9, none, .asg (.c (.bool true))⟩])
 .ret)))⟩
/-- laws.toCombatTable -/
def a_laws_toCombatTable : AFn := ⟨1, 16, [.cell 2 3 true], (.seq (.reg [⟨some 1, none, .box (.t 0)⟩, ⟨some 2, none, .alloc [.list true 2 [], .int .i64 0, .list true 1 []]⟩])
 (.seq (.reg [⟨some 3, none, .alloc [.list true 2 [], .int .i64 0, .list true 1 []]⟩])
 (.seq (.reg [⟨some 4, none, .faddr 0 (.t 1)⟩, ⟨some 5, none, .load false 1 (.a 4 1)⟩, ⟨some 6, none, .call n_laws_toOddsS [.a 5 1]⟩, ⟨some 7, none, .faddr 0 (.t 3)⟩, ⟨none, none, .store 1 (.a 7 3) (.t 6)⟩])
 (.seq (.reg [⟨some 8, none, .faddr 1 (.t 1)⟩, ⟨some 9, none, .load false 1 (.a 8 1)⟩, ⟨some 10, none, .faddr 1 (.t 3)⟩, ⟨none, none, .store 1 (.a 10 3) (.p 9)⟩])
 (.seq (.reg [⟨some 11, none, .faddr 2 (.t 1)⟩, ⟨some 12, none, .load false 1 (.a 11 1)⟩, ⟨some 13, none, .call n_laws_toIntSS [.a 12 1]⟩, ⟨some 14, none, .faddr 2 (.t 3)⟩, ⟨none, none, .store 1 (.a 14 3) (.t 13)⟩])
 (.seq (.reg [⟨some 15, none, .load true 3 (.t 3)⟩, ⟨none, none, .store 3 (.t 2) (.a 15 3)⟩])
 .ret))))))⟩
/-- impl.BattleColumn -/
def a_impl_BattleColumn : AFn := ⟨4, 25, [.tmp 8, .tmp 9], (.seq (.reg [⟨some 4, none, .box (.t 0)⟩, ⟨some 5, none, .box (.t 1)⟩, ⟨some 6, none, .box (.t 2)⟩, ⟨some 7, none, .box (.t 3)⟩, ⟨some 8, none, .asg (.c (.int .i64 0))⟩, ⟨some 9, none, .asg (.c (.bool false))⟩])
 (.seq (.seq (.reg [⟨some 10, none, .load true 12 (.t 4)⟩, ⟨some 11, none, .load true 3 (.t 5)⟩, ⟨some 12, none, .load true 3 (.t 7)⟩, ⟨some 13, none, .call n_impl_hasBattle [.a 10 4, .a 11 5, .a 12 7]⟩, ⟨some 14, none, .un .not (.t 13)⟩, ⟨some 15, none, .mv (.p 14)⟩, ⟨some 16, some (15, false), .load true 3 (.t 6)⟩, ⟨some 17, some (15, false), .call n_impl_IsCombatTable [.a 16 6]⟩, ⟨some 18, some (15, false), .un .not (.t 17)⟩, ⟨some 19, none, .pick (.t 15) (.c (.bool true)) (.t 18)⟩])
 (.cond (.t 19) (.seq (.reg [⟨some 8, none, .asg (.c (.int .i64 0))⟩, ⟨some 9, none, .asg (.c (.bool false))⟩])
 .ret) .skip))
 (.seq (.reg [⟨some 20, none, .load true 12 (.t 4)⟩, ⟨some 21, none, .load true 3 (.t 5)⟩, ⟨some 22, none, .load true 3 (.t 6)⟩, ⟨some 23, none, .load true 3 (.t 7)⟩, ⟨some 24, none, .call n_impl_battleColumn [.a 20 4, .a 21 5, .a 22 6, .a 23 7]⟩, ⟨some 8, none, .asg (.p 24)⟩, ⟨some 9, none, .asg (.c (.bool true))⟩])
 .ret)))⟩
/-- laws.eqCombatTable -/
def a_laws_eqCombatTable : AFn := ⟨2, 22, [.tmp 4], (.seq (.reg [⟨some 2, none, .box (.t 0)⟩, ⟨some 3, none, .box (.t 1)⟩, ⟨some 4, none, .asg (.c (.bool false))⟩])
 (.seq (.seq (.reg [⟨some 5, none, .faddr 0 (.t 2)⟩, ⟨some 6, none, .load false 1 (.a 5 2)⟩, ⟨some 7, none, .faddr 0 (.t 3)⟩, ⟨some 8, none, .load false 1 (.a 7 3)⟩, ⟨some 9, none, .call n_laws_eqOddsS [.a 6 2, .a 8 3]⟩, ⟨some 10, none, .un .not (.t 9)⟩])
 (.cond (.t 10) (.seq (.reg [⟨some 4, none, .asg (.c (.bool false))⟩])
 .ret) .skip))
 (.seq (.seq (.reg [⟨some 11, none, .faddr 1 (.t 2)⟩, ⟨some 12, none, .load false 1 (.a 11 2)⟩, ⟨some 13, none, .faddr 1 (.t 3)⟩, ⟨some 14, none, .load false 1 (.a 13 3)⟩, ⟨some 15, none, .bin .neq (.a 12 2) (.a 14 3)⟩])
 (.cond (.t 15) (.seq (.reg [⟨some 4, none, .asg (.c (.bool false))⟩])
 .ret) .skip))
 (.seq (.seq (.reg [⟨some 16, none, .faddr 2 (.t 2)⟩, ⟨some 17, none, .load false 1 (.a 16 2)⟩, ⟨some 18, none, .faddr 2 (.t 3)⟩, ⟨some 19, none, .load false 1 (.a 18 3)⟩, ⟨some 20, none, .call n_laws_eqIntSS [.a 17 2, .a 19 3]⟩, ⟨some 21, none, .un .not (.t 20)⟩])
 (.cond (.t 21) (.seq (.reg [⟨some 4, none, .asg (.c (.bool false))⟩])
 .ret) .skip))
 (.seq (.reg [⟨some 4, none, .asg (.c (.bool true))⟩])
 .ret)))))⟩
/-- spec.BattleResult -/
def a_spec_BattleResult : AFn := ⟨5, 40, [.tmp 10, .tmp 11], (.seq (.reg [⟨some 5, none, .box (.t 0)⟩, ⟨some 6, none, .box (.t 1)⟩, ⟨some 7, none, .box (.t 2)⟩, ⟨some 8, none, .box (.t 3)⟩, ⟨some 10, none, .asg (.c (.int .i64 0))⟩, ⟨some 11, none, .asg (.c (.bool false))⟩])
 (.seq (.seq (.reg [⟨some 12, none, .load true 3 (.t 7)⟩, ⟨some 13, none, .call n_spec_kGood [.a 12 7]⟩, ⟨some 14, none, .un .not (.t 13)⟩, ⟨some 15, none, .mv (.p 14)⟩, ⟨some 16, some (15, false), .load true 12 (.t 5)⟩, ⟨some 17, some (15, false), .load true 3 (.t 6)⟩, ⟨some 18, some (15, false), .load true 3 (.t 8)⟩, ⟨some 19, some (15, false), .call n_spec_aGood [.a 16 5, .a 17 6, .a 18 8]⟩, ⟨some 20, some (15, false), .un .not (.t 19)⟩, ⟨some 21, none, .pick (.t 15) (.c (.bool true)) (.t 20)⟩, ⟨some 22, none, .mv (.p 21)⟩, ⟨some 23, some (22, false), .mv (.p 4)⟩, ⟨some 24, some (22, false), .faddr 1 (.t 7)⟩, ⟨some 25, some (22, false), .load false 1 (.a 24 7)⟩, ⟨some 26, some (22, false), .faddr 1 (.t 7)⟩, ⟨some 27, some (22, false), .load false 1 (.a 26 7)⟩, ⟨some 28, some (22, false), .bin .mul (.c (.int .i64 6)) (.a 27 7)⟩, ⟨some 29, some (22, false), .call n_spec_l1In [.t 23, .a 25 7, .t 28]⟩, ⟨some 30, some (22, false), .un .not (.t 29)⟩, ⟨some 31, none, .pick (.t 22) (.c (.bool true)) (.t 30)⟩])
 (.cond (.t 31) (.seq (.reg [⟨some 10, none, .asg (.c (.int .i64 0))⟩, ⟨some 11, none, .asg (.c (.bool false))⟩])
 .ret) .skip))
 (.seq (.reg [⟨some 32, none, .load true 3 (.t 7)⟩, ⟨some 33, none, .mv (.p 4)⟩, ⟨some 34, none, .load true 12 (.t 5)⟩, ⟨some 35, none, .load true 3 (.t 6)⟩, ⟨some 36, none, .load true 3 (.t 7)⟩, ⟨some 37, none, .load true 3 (.t 8)⟩, ⟨some 38, none, .call n_spec_aColumn [.a 34 5, .a 35 6, .a 36 7, .a 37 8]⟩, ⟨some 39, none, .call n_spec_kResult [.a 32 7, .t 33, .t 38]⟩, ⟨some 10, none, .asg (.p 39)⟩, ⟨some 11, none, .asg (.c (.bool true))⟩])
 .ret)))⟩
/-- impl.BattleResult -/
def a_impl_BattleResult : AFn := ⟨5, 30, [.tmp 10, .tmp 11], (.seq (.reg [⟨some 5, none, .box (.t 0)⟩, ⟨some 6, none, .box (.t 1)⟩, ⟨some 7, none, .box (.t 2)⟩, ⟨some 8, none, .box (.t 3)⟩, ⟨some 10, none, .asg (.c (.int .i64 0))⟩, ⟨some 11, none, .asg (.c (.bool false))⟩])
 (.seq (.reg [⟨some 15, none, .load true 12 (.t 5)⟩, ⟨some 16, none, .load true 3 (.t 6)⟩, ⟨some 17, none, .load true 3 (.t 7)⟩, ⟨some 18, none, .load true 3 (.t 8)⟩, ⟨some 19, none, .call n_impl_BattleColumn [.a 15 5, .a 16 6, .a 17 7, .a 18 8]⟩, ⟨some 14, none, .mv (.t 19)⟩, ⟨some 20, none, .extract (.p 14) 0⟩, ⟨some 21, none, .extract (.p 14) 1⟩, ⟨some 12, none, .asg (.p 20)⟩, ⟨some 13, none, .asg (.p 21)⟩])
 (.seq (.seq (.reg [⟨some 22, none, .mv (.p 13)⟩, ⟨some 23, none, .un .not (.t 22)⟩])
 (.cond (.t 23) (.seq (.reg [⟨some 10, none, .asg (.c (.int .i64 0))⟩, ⟨some 11, none, .asg (.c (.bool false))⟩])
 .ret) .skip))
 (.seq (.reg [⟨some 24, none, .load true 3 (.t 7)⟩, ⟨some 25, none, .mv (.p 4)⟩, ⟨some 26, none, .mv (.p 12)⟩, ⟨some 27, none, .call n_impl_ResultAt [.a 24 7, .t 25, .t 26]⟩, ⟨some 28, none, .extract (.p 27) 0⟩, ⟨some 29, none, .extract (.p 27) 1⟩, ⟨some 10, none, .asg (.p 28)⟩, ⟨some 11, none, .asg (.p 29)⟩])
 .ret))))⟩
/-- laws.szRules -/
def a_laws_szRules : AFn := ⟨2, 18, [.tmp 4], (.seq (.reg [⟨some 2, none, .box (.t 0)⟩, ⟨some 4, none, .asg (.c (.int .i64 0))⟩])
 (.seq (.reg [⟨some 5, none, .faddr 0 (.t 2)⟩, ⟨some 6, none, .load false 1 (.a 5 2)⟩, ⟨some 7, none, .mv (.p 1)⟩, ⟨some 8, none, .call n_laws_szTerrainS [.a 6 2, .t 7]⟩, ⟨some 1, none, .asg (.p 8)⟩])
 (.seq (.seq (.reg [⟨some 9, none, .mv (.p 1)⟩, ⟨some 10, none, .bin .lss (.t 9) (.c (.int .i64 0))⟩])
 (.cond (.t 10) (.seq (.reg [⟨some 4, none, .asg (.c (.int .i64 (-1)))⟩])
 .ret) .skip))
 (.seq (.reg [⟨some 11, none, .faddr 1 (.t 2)⟩, ⟨some 12, none, .load false 1 (.a 11 2)⟩, ⟨some 13, none, .mv (.p 1)⟩, ⟨some 14, none, .call n_laws_szKindS [.a 12 2, .t 13]⟩, ⟨some 1, none, .asg (.p 14)⟩])
 (.seq (.seq (.reg [⟨some 15, none, .mv (.p 1)⟩, ⟨some 16, none, .bin .lss (.t 15) (.c (.int .i64 0))⟩])
 (.cond (.t 16) (.seq (.reg [⟨some 4, none, .asg (.c (.int .i64 (-1)))⟩])
 .ret) .skip))
 (.seq (.reg [⟨some 17, none, .mv (.p 1)⟩, ⟨some 4, none, .asg (.p 17)⟩])
 .ret))))))⟩
/-- laws.szMap -/
def a_laws_szMap : AFn := ⟨2, 24, [.tmp 4], (.seq (.reg [⟨some 2, none, .box (.t 0)⟩, ⟨some 4, none, .asg (.c (.int .i64 0))⟩])
 (.seq (.reg [⟨some 5, none, .faddr 2 (.t 2)⟩, ⟨some 6, none, .load false 1 (.a 5 2)⟩, ⟨some 7, none, .mv (.p 1)⟩, ⟨some 8, none, .call n_laws_szIntS [.a 6 2, .t 7]⟩, ⟨some 1, none, .asg (.p 8)⟩])
 (.seq (.seq (.reg [⟨some 9, none, .mv (.p 1)⟩, ⟨some 10, none, .bin .lss (.t 9) (.c (.int .i64 0))⟩])
 (.cond (.t 10) (.seq (.reg [⟨some 4, none, .asg (.c (.int .i64 (-1)))⟩])
 .ret) .skip))
 (.seq (.reg [⟨some 11, none, .faddr 3 (.t 2)⟩, ⟨some 12, none, .load false 1 (.a 11 2)⟩, ⟨some 13, none, .mv (.p 1)⟩, ⟨some 14, none, .call n_laws_szIntS [.a 12 2, .t 13]⟩, ⟨some 1, none, .asg (.p 14)⟩])
 (.seq (.seq (.reg [⟨some 15, none, .mv (.p 1)⟩, ⟨some 16, none, .bin .lss (.t 15) (.c (.int .i64 0))⟩])
 (.cond (.t 16) (.seq (.reg [⟨some 4, none, .asg (.c (.int .i64 (-1)))⟩])
 .ret) .skip))
 (.seq (.reg [⟨some 17, none, .faddr 4 (.t 2)⟩, ⟨some 18, none, .load false 1 (.a 17 2)⟩, ⟨some 19, none, .mv (.p 1)⟩, ⟨some 20, none, .call n_laws_szIntS [.a 18 2, .t 19]⟩, ⟨some 1, none, .asg (.p 20)⟩])
 (.seq (.seq (.reg [⟨some 21, none, .mv (.p 1)⟩, ⟨some 22, none, .bin .lss (.t 21) (.c (.int .i64 0))⟩])
 (.cond (.t 22) (.seq (.reg [⟨some 4, none, .asg (.c (.int .i64 (-1)))⟩])
 .ret) .skip))
 (.seq (.reg [⟨some 23, none, .mv (.p 1)⟩, ⟨some 4, none, .asg (.p 23)⟩])
 .ret))))))))⟩
/-- laws.szUnitS -/
def a_laws_szUnitS : AFn := ⟨2, 12, [.tmp 4], (.seq (.reg [⟨some 4, none, .asg (.c (.int .i64 0))⟩])
 (.seq (.reg [⟨some 5, none, .mv (.p 1)⟩, ⟨some 6, none, .rf (.t 0)⟩, ⟨some 7, none, .len (.a 6 0)⟩, ⟨some 8, none, .bin .sub (.t 5) (.t 7)⟩, ⟨some 1, none, .asg (.p 8)⟩])
 (.seq (.seq (.reg [⟨some 9, none, .mv (.p 1)⟩, ⟨some 10, none, .bin .lss (.t 9) (.c (.int .i64 0))⟩])
 (.cond (.t 10) (.seq (.reg [⟨some 4, none, .asg (.c (.int .i64 (-1)))⟩])
 .ret) .skip))
 (.seq (.reg [⟨some 11, none, .mv (.p 1)⟩, ⟨some 4, none, .asg (.p 11)⟩])
 .ret))))⟩
/-- laws.szIntS -/
def a_laws_szIntS : AFn := ⟨2, 12, [.tmp 4], (.seq (.reg [⟨some 4, none, .asg (.c (.int .i64 0))⟩])
 (.seq (.reg [⟨some 5, none, .mv (.p 1)⟩, ⟨some 6, none, .rf (.t 0)⟩, ⟨some 7, none, .len (.a 6 0)⟩, ⟨some 8, none, .bin .sub (.t 5) (.t 7)⟩, ⟨some 1, none, .asg (.p 8)⟩])
 (.seq (.seq (.reg [⟨some 9, none, .mv (.p 1)⟩, ⟨some 10, none, .bin .lss (.t 9) (.c (.int .i64 0))⟩])
 (.cond (.t 10) (.seq (.reg [⟨some 4, none, .asg (.c (.int .i64 (-1)))⟩])
 .ret) .skip))
 (.seq (.reg [⟨some 11, none, .mv (.p 1)⟩, ⟨some 4, none, .asg (.p 11)⟩])
 .ret))))⟩
def b_spec_sGood_0 : AC := (.seq (.reg [⟨some 37, none, .bin .lss (.t 36) (.t 35)⟩])
 (.seq (.cond (.t 37) .skip (.exit 0))
 (.seq (.block 1 (.seq (.reg [⟨some 38, none, .iaddr 4 (.a 34 3) (.t 36)⟩, ⟨some 39, none, .load true 4 (.a 38 3)⟩, ⟨some 6, none, .alloc [.int .i64 0, .int .i64 0, .int .i64 0, .int .i64 0]⟩, ⟨none, none, .store 4 (.t 6) (.a 39 3)⟩])
 (.seq (.reg [⟨some 40, none, .load true 12 (.t 2)⟩, ⟨some 41, none, .load true 4 (.t 6)⟩, ⟨some 42, none, .call n_spec_sUnit [.a 40 2, .a 41 6]⟩, ⟨some 43, none, .un .not (.t 42)⟩])
 (.cond (.t 43) (.seq (.reg [⟨some 4, none, .asg (.c (.bool false))⟩])
 .ret) .skip))))
 (.reg [⟨some 44, none, .bin .add (.t 36) (.c (.int .i64 1))⟩, ⟨some 36, none, .mv (.p 44)⟩]))))
def b_spec_sGood_1 : AC := (.seq (.reg [⟨some 49, none, .bin .lss (.t 48) (.t 47)⟩])
 (.seq (.cond (.t 49) .skip (.exit 2))
 (.seq (.block 3 (.seq (.reg [⟨some 50, none, .iaddr 4 (.a 46 3) (.t 48)⟩, ⟨some 51, none, .load true 4 (.a 50 3)⟩, ⟨some 8, none, .alloc [.int .i64 0, .int .i64 0, .int .i64 0, .int .i64 0]⟩, ⟨none, none, .store 4 (.t 8) (.a 51 3)⟩])
 (.seq (.reg [⟨some 52, none, .faddr 2 (.t 8)⟩, ⟨some 53, none, .load false 1 (.a 52 8)⟩, ⟨some 54, none, .bin .geq (.a 53 8) (.c (.int .i64 0))⟩, ⟨some 55, none, .mv (.p 54)⟩, ⟨some 56, some (55, true), .load true 3 (.t 3)⟩, ⟨some 57, some (55, true), .faddr 2 (.t 8)⟩, ⟨some 58, some (55, true), .load false 1 (.a 57 8)⟩, ⟨some 59, some (55, true), .faddr 0 (.t 8)⟩, ⟨some 60, some (55, true), .load false 1 (.a 59 8)⟩, ⟨some 61, some (55, true), .bin .sub (.c (.int .i64 1)) (.a 60 8)⟩, ⟨some 62, some (55, true), .call n_spec_sAt [.a 56 3, .a 58 8, .t 61]⟩, ⟨some 63, some (55, true), .len (.t 62)⟩, ⟨some 64, some (55, true), .bin .gtr (.t 63) (.c (.int .i64 0))⟩, ⟨some 65, some (55, true), .mv (.p 64)⟩, ⟨some 66, some (65, false), .load true 3 (.t 3)⟩, ⟨some 67, some (65, false), .faddr 2 (.t 8)⟩, ⟨some 68, some (65, false), .load false 1 (.a 67 8)⟩, ⟨some 69, some (65, false), .faddr 0 (.t 8)⟩, ⟨some 70, some (65, false), .load false 1 (.a 69 8)⟩, ⟨some 71, some (65, false), .call n_spec_sAt [.a 66 3, .a 68 8, .a 70 8]⟩, ⟨some 72, some (65, false), .len (.t 71)⟩, ⟨some 73, some (65, false), .faddr 0 (.t 2)⟩, ⟨some 74, some (65, false), .faddr 2 (.a 73 2)⟩, ⟨some 75, some (65, false), .load false 1 (.a 74 2)⟩, ⟨some 76, some (65, false), .bin .gtr (.t 72) (.a 75 2)⟩, ⟨some 77, some (55, true), .pick (.t 65) (.c (.bool true)) (.t 76)⟩, ⟨some 78, none, .pick (.t 55) (.t 77) (.c (.bool false))⟩])
 (.cond (.t 78) (.seq (.reg [⟨some 4, none, .asg (.c (.bool false))⟩])
 .ret) .skip))))
 (.reg [⟨some 79, none, .bin .add (.t 48) (.c (.int .i64 1))⟩, ⟨some 48, none, .mv (.p 79)⟩]))))
/-- spec.sGood -/
def a_spec_sGood : AFn := ⟨2, 80, [.tmp 4], (.seq (.reg [⟨some 2, none, .box (.t 0)⟩, ⟨some 3, none, .box (.t 1)⟩, ⟨some 4, none, .asg (.c (.bool false))⟩])
 (.seq (.seq (.reg [⟨some 9, none, .load true 12 (.t 2)⟩, ⟨some 10, none, .call n_spec_bGood [.a 9 2]⟩, ⟨some 11, none, .un .not (.t 10)⟩, ⟨some 12, none, .mv (.p 11)⟩, ⟨some 13, some (12, false), .faddr 0 (.t 3)⟩, ⟨some 14, some (12, false), .load false 1 (.a 13 3)⟩, ⟨some 15, some (12, false), .faddr 0 (.t 2)⟩, ⟨some 16, some (12, false), .faddr 6 (.a 15 2)⟩, ⟨some 17, some (12, false), .load false 1 (.a 16 2)⟩, ⟨some 18, some (12, false), .call n_spec_l1In [.a 14 3, .c (.int .i64 0), .a 17 2]⟩, ⟨some 19, some (12, false), .un .not (.t 18)⟩, ⟨some 20, none, .pick (.t 12) (.c (.bool true)) (.t 19)⟩, ⟨some 21, none, .mv (.p 20)⟩, ⟨some 22, some (21, false), .faddr 1 (.t 3)⟩, ⟨some 23, some (21, false), .load false 1 (.a 22 3)⟩, ⟨some 24, some (21, false), .call n_spec_l1In [.a 23 3, .c (.int .i64 0), .c (.int .i64 2)]⟩, ⟨some 25, some (21, false), .un .not (.t 24)⟩, ⟨some 26, none, .pick (.t 21) (.c (.bool true)) (.t 25)⟩, ⟨some 27, none, .mv (.p 26)⟩, ⟨some 28, some (27, false), .faddr 2 (.t 3)⟩, ⟨some 29, some (27, false), .load false 1 (.a 28 3)⟩, ⟨some 30, some (27, false), .len (.a 29 3)⟩, ⟨some 31, some (27, false), .bin .gtr (.t 30) (.c (.int .i64 12))⟩, ⟨some 32, none, .pick (.t 27) (.c (.bool true)) (.t 31)⟩])
 (.cond (.t 32) (.seq (.reg [⟨some 4, none, .asg (.c (.bool false))⟩])
 .ret) .skip))
 (.seq (.seq (.reg [⟨some 33, none, .faddr 2 (.t 3)⟩, ⟨some 34, none, .load false 1 (.a 33 3)⟩, ⟨some 35, none, .len (.a 34 3)⟩, ⟨some 36, none, .mv (.c (.int .i64 0))⟩])
 (.block 0 (.loop [2, 3, 34, 35, 36] [2, 3, 4] b_spec_sGood_0)))
 (.seq (.seq (.reg [⟨some 45, none, .faddr 2 (.t 3)⟩, ⟨some 46, none, .load false 1 (.a 45 3)⟩, ⟨some 47, none, .len (.a 46 3)⟩, ⟨some 48, none, .mv (.c (.int .i64 0))⟩])
 (.block 2 (.loop [2, 3, 46, 47, 48] [4] b_spec_sGood_1)))
 (.seq (.reg [⟨some 4, none, .asg (.c (.bool true))⟩])
 .ret)))))⟩
/-- spec.l1In -/
def a_spec_l1In : AFn := ⟨3, 15, [.tmp 6], (.seq (.reg [⟨some 6, none, .asg (.c (.bool false))⟩])
 (.seq (.reg [⟨some 7, none, .mv (.p 0)⟩, ⟨some 8, none, .mv (.p 1)⟩, ⟨some 9, none, .bin .geq (.t 7) (.t 8)⟩, ⟨some 10, none, .mv (.p 9)⟩, ⟨some 11, some (10, true), .mv (.p 0)⟩, ⟨some 12, some (10, true), .mv (.p 2)⟩, ⟨some 13, some (10, true), .bin .leq (.t 11) (.t 12)⟩, ⟨some 14, none, .pick (.t 10) (.t 13) (.c (.bool false))⟩, ⟨some 6, none, .asg (.p 14)⟩])
 .ret))⟩
def b_spec_oFault_0 : AC := (.seq (.seq (.reg [⟨some 45, none, .mv (.p 10)⟩, ⟨some 46, none, .bin .lss (.t 45) (.c (.int .i64 6))⟩])
 (.cond (.t 46) .skip (.exit 1)))
 (.seq (.block 2 (.seq (.reg [⟨some 49, none, .faddr 7 (.t 4)⟩, ⟨some 50, none, .load true 5 (.a 49 4)⟩, ⟨some 51, none, .load true 12 (.t 4)⟩, ⟨some 52, none, .load true 3 (.t 5)⟩, ⟨some 53, none, .load true 3 (.t 7)⟩, ⟨some 54, none, .call n_spec_oEnd [.a 51 4, .a 52 5, .a 53 7]⟩, ⟨some 55, none, .mv (.p 10)⟩, ⟨some 56, none, .call n_spec_mNext [.a 50 4, .t 54, .t 55]⟩, ⟨some 11, none, .asg (.p 56)⟩])
 (.seq (.reg [⟨some 57, none, .mv (.p 11)⟩, ⟨some 58, none, .bin .geq (.t 57) (.c (.int .i64 0))⟩, ⟨some 59, none, .mv (.p 58)⟩, ⟨some 60, some (59, true), .mv (.p 11)⟩, ⟨some 61, some (59, true), .faddr 2 (.t 7)⟩, ⟨some 62, some (59, true), .load false 1 (.a 61 7)⟩, ⟨some 63, some (59, true), .bin .eql (.t 60) (.a 62 7)⟩, ⟨some 64, none, .pick (.t 59) (.t 63) (.c (.bool false))⟩])
 (.cond (.t 64) (.seq (.reg [⟨some 8, none, .asg (.c (.int .i64 0))⟩])
 .ret) .skip))))
 (.reg [⟨some 47, none, .mv (.p 10)⟩, ⟨some 48, none, .bin .add (.t 47) (.c (.int .i64 1))⟩, ⟨some 10, none, .asg (.p 48)⟩])))
/-- spec.oFault -/
def a_spec_oFault : AFn := ⟨4, 65, [.tmp 8], (.seq (.reg [⟨some 4, none, .box (.t 0)⟩, ⟨some 5, none, .box (.t 1)⟩, ⟨some 7, none, .box (.t 3)⟩, ⟨some 8, none, .asg (.c (.int .i64 0))⟩])
 (.seq (.seq (.reg [⟨some 12, none, .load true 3 (.t 5)⟩, ⟨some 13, none, .mv (.p 2)⟩, ⟨some 14, none, .faddr 0 (.t 7)⟩, ⟨some 15, none, .load false 1 (.a 14 7)⟩, ⟨some 16, none, .call n_spec_oPlaced [.a 12 5, .t 13, .a 15 7]⟩, ⟨some 17, none, .un .not (.t 16)⟩])
 (.cond (.t 17) (.seq (.reg [⟨some 8, none, .asg (.c (.int .i64 1))⟩])
 .ret) .skip))
 (.seq (.reg [⟨some 18, none, .load true 12 (.t 4)⟩, ⟨some 19, none, .load true 3 (.t 5)⟩, ⟨some 20, none, .load true 3 (.t 7)⟩, ⟨some 21, none, .call n_spec_oCost [.a 18 4, .a 19 5, .a 20 7]⟩, ⟨some 9, none, .asg (.p 21)⟩])
 (.seq (.block 0 (.seq (.reg [⟨some 23, none, .mv (.p 9)⟩, ⟨some 24, none, .bin .lss (.t 23) (.c (.int .i64 0))⟩, ⟨some 22, none, .asg (.p 24)⟩])
 (.cond (.t 22) (.seq (.reg [⟨some 8, none, .asg (.c (.int .i64 3))⟩])
 .ret) (.seq (.reg [⟨some 26, none, .mv (.p 9)⟩, ⟨some 27, none, .faddr 0 (.t 4)⟩, ⟨some 28, none, .faddr 1 (.a 27 4)⟩, ⟨some 29, none, .load false 1 (.a 28 4)⟩, ⟨some 30, none, .faddr 2 (.t 5)⟩, ⟨some 31, none, .load false 1 (.a 30 5)⟩, ⟨some 32, none, .faddr 0 (.t 7)⟩, ⟨some 33, none, .load false 1 (.a 32 7)⟩, ⟨some 34, none, .iaddr 4 (.a 31 5) (.a 33 7)⟩, ⟨some 35, none, .faddr 1 (.a 34 5)⟩, ⟨some 36, none, .load false 1 (.a 35 5)⟩, ⟨some 37, none, .iaddr 6 (.a 29 4) (.a 36 5)⟩, ⟨some 38, none, .faddr 2 (.a 37 4)⟩, ⟨some 39, none, .load false 1 (.a 38 4)⟩, ⟨some 40, none, .bin .gtr (.t 26) (.a 39 4)⟩, ⟨some 25, none, .asg (.p 40)⟩])
 (.cond (.t 25) (.seq (.reg [⟨some 8, none, .asg (.c (.int .i64 4))⟩])
 .ret) (.seq (.reg [⟨some 42, none, .faddr 2 (.t 7)⟩, ⟨some 43, none, .load false 1 (.a 42 7)⟩, ⟨some 44, none, .bin .eql (.a 43 7) (.c (.int .i64 (-1)))⟩, ⟨some 41, none, .asg (.p 44)⟩])
 (.cond (.t 41) (.seq (.reg [⟨some 8, none, .asg (.c (.int .i64 0))⟩])
 .ret) .skip)))))))
 (.seq (.seq (.reg [⟨some 10, none, .asg (.c (.int .i64 0))⟩])
 (.block 1 (.loop [4, 5, 7, 10] [8] b_spec_oFault_0)))
 (.seq (.reg [⟨some 8, none, .asg (.c (.int .i64 5))⟩])
 .ret))))))⟩
/-- laws.toRules -/
def a_laws_toRules : AFn := ⟨1, 28, [.cell 2 7 true], (.seq (.reg [⟨some 1, none, .box (.t 0)⟩, ⟨some 2, none, .alloc [.list true 5 [], .list true 6 [], .int .i64 0, .int .i64 0, .int .i64 0, .int .i64 0, .int .i64 0]⟩])
 (.seq (.reg [⟨some 3, none, .alloc [.list true 5 [], .list true 6 [], .int .i64 0, .int .i64 0, .int .i64 0, .int .i64 0, .int .i64 0]⟩])
 (.seq (.reg [⟨some 4, none, .faddr 0 (.t 1)⟩, ⟨some 5, none, .load false 1 (.a 4 1)⟩, ⟨some 6, none, .call n_laws_toTerrainS [.a 5 1]⟩, ⟨some 7, none, .faddr 0 (.t 3)⟩, ⟨none, none, .store 1 (.a 7 3) (.t 6)⟩])
 (.seq (.reg [⟨some 8, none, .faddr 1 (.t 1)⟩, ⟨some 9, none, .load false 1 (.a 8 1)⟩, ⟨some 10, none, .call n_laws_toKindS [.a 9 1]⟩, ⟨some 11, none, .faddr 1 (.t 3)⟩, ⟨none, none, .store 1 (.a 11 3) (.t 10)⟩])
 (.seq (.reg [⟨some 12, none, .faddr 2 (.t 1)⟩, ⟨some 13, none, .load false 1 (.a 12 1)⟩, ⟨some 14, none, .faddr 2 (.t 3)⟩, ⟨none, none, .store 1 (.a 14 3) (.p 13)⟩])
 (.seq (.reg [⟨some 15, none, .faddr 3 (.t 1)⟩, ⟨some 16, none, .load false 1 (.a 15 1)⟩, ⟨some 17, none, .faddr 3 (.t 3)⟩, ⟨none, none, .store 1 (.a 17 3) (.p 16)⟩])
 (.seq (.reg [⟨some 18, none, .faddr 4 (.t 1)⟩, ⟨some 19, none, .load false 1 (.a 18 1)⟩, ⟨some 20, none, .faddr 4 (.t 3)⟩, ⟨none, none, .store 1 (.a 20 3) (.p 19)⟩])
 (.seq (.reg [⟨some 21, none, .faddr 5 (.t 1)⟩, ⟨some 22, none, .load false 1 (.a 21 1)⟩, ⟨some 23, none, .faddr 5 (.t 3)⟩, ⟨none, none, .store 1 (.a 23 3) (.p 22)⟩])
 (.seq (.reg [⟨some 24, none, .faddr 6 (.t 1)⟩, ⟨some 25, none, .load false 1 (.a 24 1)⟩, ⟨some 26, none, .faddr 6 (.t 3)⟩, ⟨none, none, .store 1 (.a 26 3) (.p 25)⟩])
 (.seq (.reg [⟨some 27, none, .load true 7 (.t 3)⟩, ⟨none, none, .store 7 (.t 2) (.a 27 3)⟩])
 .ret))))))))))⟩
/-- laws.toMap -/
def a_laws_toMap : AFn := ⟨1, 23, [.cell 2 5 true], (.seq (.reg [⟨some 1, none, .box (.t 0)⟩, ⟨some 2, none, .alloc [.int .i64 0, .int .i64 0, .list true 1 [], .list true 1 [], .list true 1 []]⟩])
 (.seq (.reg [⟨some 3, none, .alloc [.int .i64 0, .int .i64 0, .list true 1 [], .list true 1 [], .list true 1 []]⟩])
 (.seq (.reg [⟨some 4, none, .faddr 0 (.t 1)⟩, ⟨some 5, none, .load false 1 (.a 4 1)⟩, ⟨some 6, none, .faddr 0 (.t 3)⟩, ⟨none, none, .store 1 (.a 6 3) (.p 5)⟩])
 (.seq (.reg [⟨some 7, none, .faddr 1 (.t 1)⟩, ⟨some 8, none, .load false 1 (.a 7 1)⟩, ⟨some 9, none, .faddr 1 (.t 3)⟩, ⟨none, none, .store 1 (.a 9 3) (.p 8)⟩])
 (.seq (.reg [⟨some 10, none, .faddr 2 (.t 1)⟩, ⟨some 11, none, .load false 1 (.a 10 1)⟩, ⟨some 12, none, .call n_laws_toIntS [.a 11 1]⟩, ⟨some 13, none, .faddr 2 (.t 3)⟩, ⟨none, none, .store 1 (.a 13 3) (.t 12)⟩])
 (.seq (.reg [⟨some 14, none, .faddr 3 (.t 1)⟩, ⟨some 15, none, .load false 1 (.a 14 1)⟩, ⟨some 16, none, .call n_laws_toIntS [.a 15 1]⟩, ⟨some 17, none, .faddr 3 (.t 3)⟩, ⟨none, none, .store 1 (.a 17 3) (.t 16)⟩])
 (.seq (.reg [⟨some 18, none, .faddr 4 (.t 1)⟩, ⟨some 19, none, .load false 1 (.a 18 1)⟩, ⟨some 20, none, .call n_laws_toIntS [.a 19 1]⟩, ⟨some 21, none, .faddr 4 (.t 3)⟩, ⟨none, none, .store 1 (.a 21 3) (.t 20)⟩])
 (.seq (.reg [⟨some 22, none, .load true 5 (.t 3)⟩, ⟨none, none, .store 5 (.t 2) (.a 22 3)⟩])
 .ret))))))))⟩
def b_laws_toUnitS_0 : AC := (.seq (.seq (.reg [⟨some 8, none, .mv (.p 4)⟩, ⟨some 9, none, .rf (.t 0)⟩, ⟨some 10, none, .len (.a 9 0)⟩, ⟨some 11, none, .bin .lss (.t 8) (.t 10)⟩])
 (.cond (.t 11) .skip (.exit 0)))
 (.seq (.block 1 (.reg [⟨some 14, none, .rf (.t 3)⟩, ⟨some 15, none, .mv (.p 4)⟩, ⟨some 16, none, .rf (.t 0)⟩, ⟨some 17, none, .mv (.p 4)⟩, ⟨some 18, none, .iaddr 4 (.a 16 0) (.t 17)⟩, ⟨some 19, none, .load true 4 (.a 18 0)⟩, ⟨some 20, none, .call n_laws_toUnit [.a 19 0]⟩, ⟨some 21, none, .iaddr 4 (.a 14 3) (.t 15)⟩, ⟨none, none, .store 4 (.a 21 3) (.t 20)⟩]))
 (.reg [⟨some 12, none, .mv (.p 4)⟩, ⟨some 13, none, .bin .add (.t 12) (.c (.int .i64 1))⟩, ⟨some 4, none, .asg (.p 13)⟩])))
/-- laws.toUnitS -/
def a_laws_toUnitS : AFn := ⟨1, 23, [.tmp 2], (.seq (.reg [⟨some 2, none, .asg (.c (.list true 4 []))⟩])
 (.seq (.reg [⟨some 5, none, .rf (.t 0)⟩, ⟨some 6, none, .len (.a 5 0)⟩, ⟨some 7, none, .mslice 4 [.int .i64 0, .int .i64 0, .int .i64 0, .int .i64 0] (.t 6)⟩, ⟨some 3, none, .asg (.t 7)⟩])
 (.seq (.seq (.reg [⟨some 4, none, .asg (.c (.int .i64 0))⟩])
 (.block 0 (.loop [0, 3, 4] [2, 3] b_laws_toUnitS_0)))
 (.seq (.reg [⟨some 22, none, .rf (.t 3)⟩, ⟨some 2, none, .asg (.a 22 3)⟩])
 .ret))))⟩
def b_laws_toIntS_0 : AC := (.seq (.seq (.reg [⟨some 8, none, .mv (.p 4)⟩, ⟨some 9, none, .rf (.t 0)⟩, ⟨some 10, none, .len (.a 9 0)⟩, ⟨some 11, none, .bin .lss (.t 8) (.t 10)⟩])
 (.cond (.t 11) .skip (.exit 0)))
 (.seq (.block 1 (.reg [⟨some 14, none, .rf (.t 3)⟩, ⟨some 15, none, .mv (.p 4)⟩, ⟨some 16, none, .rf (.t 0)⟩, ⟨some 17, none, .mv (.p 4)⟩, ⟨some 18, none, .iaddr 1 (.a 16 0) (.t 17)⟩, ⟨some 19, none, .load false 1 (.a 18 0)⟩, ⟨some 20, none, .iaddr 1 (.a 14 3) (.t 15)⟩, ⟨none, none, .store 1 (.a 20 3) (.p 19)⟩]))
 (.reg [⟨some 12, none, .mv (.p 4)⟩, ⟨some 13, none, .bin .add (.t 12) (.c (.int .i64 1))⟩, ⟨some 4, none, .asg (.p 13)⟩])))
/-- laws.toIntS -/
def a_laws_toIntS : AFn := ⟨1, 22, [.tmp 2], (.seq (.reg [⟨some 2, none, .asg (.c (.list true 1 []))⟩])
 (.seq (.reg [⟨some 5, none, .rf (.t 0)⟩, ⟨some 6, none, .len (.a 5 0)⟩, ⟨some 7, none, .mslice 1 [.int .i64 0] (.t 6)⟩, ⟨some 3, none, .asg (.t 7)⟩])
 (.seq (.seq (.reg [⟨some 4, none, .asg (.c (.int .i64 0))⟩])
 (.block 0 (.loop [0, 3, 4] [2, 3] b_laws_toIntS_0)))
 (.seq (.reg [⟨some 21, none, .rf (.t 3)⟩, ⟨some 2, none, .asg (.a 21 3)⟩])
 .ret))))⟩
/-- impl.fits -/
def a_impl_fits : AFn := ⟨2, 12, [.tmp 4], (.seq (.reg [⟨some 2, none, .box (.t 0)⟩, ⟨some 3, none, .box (.t 1)⟩, ⟨some 4, none, .asg (.c (.bool false))⟩])
 (.seq (.reg [⟨some 5, none, .load true 12 (.t 2)⟩, ⟨some 6, none, .call n_impl_IsBoard [.a 5 2]⟩, ⟨some 7, none, .mv (.p 6)⟩, ⟨some 8, some (7, true), .load true 12 (.t 2)⟩, ⟨some 9, some (7, true), .load true 3 (.t 3)⟩, ⟨some 10, some (7, true), .call n_impl_goodState [.a 8 2, .a 9 3]⟩, ⟨some 11, none, .pick (.t 7) (.t 10) (.c (.bool false))⟩, ⟨some 4, none, .asg (.p 11)⟩])
 .ret))⟩
/-- impl.isSide -/
def a_impl_isSide : AFn := ⟨1, 5, [.tmp 2], (.seq (.reg [⟨some 2, none, .asg (.c (.bool false))⟩])
 (.seq (.reg [⟨some 3, none, .mv (.p 0)⟩, ⟨some 4, none, .call n_impl_inRange [.t 3, .c (.int .i64 0), .c (.int .i64 1)]⟩, ⟨some 2, none, .asg (.p 4)⟩])
 .ret))⟩
/-- impl.orderFault -/
def a_impl_orderFault : AFn := ⟨4, 65, [.tmp 8], (.seq (.reg [⟨some 4, none, .box (.t 0)⟩, ⟨some 5, none, .box (.t 1)⟩, ⟨some 7, none, .box (.t 3)⟩, ⟨some 8, none, .asg (.c (.int .i64 0))⟩])
 (.seq (.seq (.reg [⟨some 12, none, .load true 3 (.t 5)⟩, ⟨some 13, none, .mv (.p 2)⟩, ⟨some 14, none, .faddr 0 (.t 7)⟩, ⟨some 15, none, .load false 1 (.a 14 7)⟩, ⟨some 16, none, .call n_impl_ownsUnit [.a 12 5, .t 13, .a 15 7]⟩, ⟨some 17, none, .un .not (.t 16)⟩])
 (.cond (.t 17) (.seq (.reg [⟨some 8, none, .asg (.c (.int .i64 1))⟩])
 .ret) .skip))
 (.seq (.reg [⟨some 18, none, .faddr 2 (.t 5)⟩, ⟨some 19, none, .load false 1 (.a 18 5)⟩, ⟨some 20, none, .faddr 0 (.t 7)⟩, ⟨some 21, none, .load false 1 (.a 20 7)⟩, ⟨some 22, none, .iaddr 4 (.a 19 5) (.a 21 7)⟩, ⟨some 23, none, .load true 4 (.a 22 5)⟩, ⟨some 9, none, .alloc [.int .i64 0, .int .i64 0, .int .i64 0, .int .i64 0]⟩, ⟨none, none, .store 4 (.t 9) (.a 23 5)⟩])
 (.seq (.reg [⟨some 25, none, .load true 12 (.t 4)⟩, ⟨some 26, none, .faddr 1 (.t 9)⟩, ⟨some 27, none, .load false 1 (.a 26 9)⟩, ⟨some 28, none, .faddr 1 (.t 5)⟩, ⟨some 29, none, .load false 1 (.a 28 5)⟩, ⟨some 30, none, .faddr 2 (.t 9)⟩, ⟨some 31, none, .load false 1 (.a 30 9)⟩, ⟨some 32, none, .faddr 1 (.t 7)⟩, ⟨some 33, none, .load false 1 (.a 32 7)⟩, ⟨some 34, none, .call n_impl_PathCost [.a 25 4, .a 27 9, .a 29 5, .a 31 9, .a 33 7]⟩, ⟨some 24, none, .mv (.t 34)⟩, ⟨some 35, none, .extract (.p 24) 0⟩, ⟨some 36, none, .extract (.p 24) 1⟩, ⟨some 10, none, .asg (.p 35)⟩, ⟨some 11, none, .asg (.p 36)⟩])
 (.seq (.seq (.reg [⟨some 37, none, .mv (.p 11)⟩, ⟨some 38, none, .un .not (.t 37)⟩])
 (.cond (.t 38) (.seq (.reg [⟨some 8, none, .asg (.c (.int .i64 3))⟩])
 .ret) .skip))
 (.seq (.seq (.reg [⟨some 39, none, .mv (.p 10)⟩, ⟨some 40, none, .faddr 0 (.t 4)⟩, ⟨some 41, none, .faddr 1 (.a 40 4)⟩, ⟨some 42, none, .load false 1 (.a 41 4)⟩, ⟨some 43, none, .faddr 1 (.t 9)⟩, ⟨some 44, none, .load false 1 (.a 43 9)⟩, ⟨some 45, none, .iaddr 6 (.a 42 4) (.a 44 9)⟩, ⟨some 46, none, .faddr 2 (.a 45 4)⟩, ⟨some 47, none, .load false 1 (.a 46 4)⟩, ⟨some 48, none, .bin .gtr (.t 39) (.a 47 4)⟩])
 (.cond (.t 48) (.seq (.reg [⟨some 8, none, .asg (.c (.int .i64 4))⟩])
 .ret) .skip))
 (.seq (.seq (.reg [⟨some 49, none, .faddr 2 (.t 7)⟩, ⟨some 50, none, .load false 1 (.a 49 7)⟩, ⟨some 51, none, .bin .neq (.a 50 7) (.c (.int .i64 (-1)))⟩, ⟨some 52, none, .mv (.p 51)⟩, ⟨some 53, some (52, true), .faddr 7 (.t 4)⟩, ⟨some 54, some (52, true), .load true 5 (.a 53 4)⟩, ⟨some 55, some (52, true), .load true 12 (.t 4)⟩, ⟨some 56, some (52, true), .load true 3 (.t 5)⟩, ⟨some 57, some (52, true), .load true 3 (.t 7)⟩, ⟨some 58, some (52, true), .call n_impl_endOf [.a 55 4, .a 56 5, .a 57 7]⟩, ⟨some 59, some (52, true), .call n_impl_neighboursOn [.a 54 4, .t 58]⟩, ⟨some 60, some (52, true), .faddr 2 (.t 7)⟩, ⟨some 61, some (52, true), .load false 1 (.a 60 7)⟩, ⟨some 62, some (52, true), .call n_slices_Contains_int_int [.t 59, .a 61 7]⟩, ⟨some 63, some (52, true), .un .not (.t 62)⟩, ⟨some 64, none, .pick (.t 52) (.t 63) (.c (.bool false))⟩])
 (.cond (.t 64) (.seq (.reg [⟨some 8, none, .asg (.c (.int .i64 5))⟩])
 .ret) .skip))
 (.seq (.reg [⟨some 8, none, .asg (.c (.int .i64 0))⟩])
 .ret))))))))⟩
/-- laws.eqRules -/
def a_laws_eqRules : AFn := ⟨2, 42, [.tmp 4], (.seq (.reg [⟨some 2, none, .box (.t 0)⟩, ⟨some 3, none, .box (.t 1)⟩, ⟨some 4, none, .asg (.c (.bool false))⟩])
 (.seq (.seq (.reg [⟨some 5, none, .faddr 0 (.t 2)⟩, ⟨some 6, none, .load false 1 (.a 5 2)⟩, ⟨some 7, none, .faddr 0 (.t 3)⟩, ⟨some 8, none, .load false 1 (.a 7 3)⟩, ⟨some 9, none, .call n_laws_eqTerrainS [.a 6 2, .a 8 3]⟩, ⟨some 10, none, .un .not (.t 9)⟩])
 (.cond (.t 10) (.seq (.reg [⟨some 4, none, .asg (.c (.bool false))⟩])
 .ret) .skip))
 (.seq (.seq (.reg [⟨some 11, none, .faddr 1 (.t 2)⟩, ⟨some 12, none, .load false 1 (.a 11 2)⟩, ⟨some 13, none, .faddr 1 (.t 3)⟩, ⟨some 14, none, .load false 1 (.a 13 3)⟩, ⟨some 15, none, .call n_laws_eqKindS [.a 12 2, .a 14 3]⟩, ⟨some 16, none, .un .not (.t 15)⟩])
 (.cond (.t 16) (.seq (.reg [⟨some 4, none, .asg (.c (.bool false))⟩])
 .ret) .skip))
 (.seq (.seq (.reg [⟨some 17, none, .faddr 2 (.t 2)⟩, ⟨some 18, none, .load false 1 (.a 17 2)⟩, ⟨some 19, none, .faddr 2 (.t 3)⟩, ⟨some 20, none, .load false 1 (.a 19 3)⟩, ⟨some 21, none, .bin .neq (.a 18 2) (.a 20 3)⟩])
 (.cond (.t 21) (.seq (.reg [⟨some 4, none, .asg (.c (.bool false))⟩])
 .ret) .skip))
 (.seq (.seq (.reg [⟨some 22, none, .faddr 3 (.t 2)⟩, ⟨some 23, none, .load false 1 (.a 22 2)⟩, ⟨some 24, none, .faddr 3 (.t 3)⟩, ⟨some 25, none, .load false 1 (.a 24 3)⟩, ⟨some 26, none, .bin .neq (.a 23 2) (.a 25 3)⟩])
 (.cond (.t 26) (.seq (.reg [⟨some 4, none, .asg (.c (.bool false))⟩])
 .ret) .skip))
 (.seq (.seq (.reg [⟨some 27, none, .faddr 4 (.t 2)⟩, ⟨some 28, none, .load false 1 (.a 27 2)⟩, ⟨some 29, none, .faddr 4 (.t 3)⟩, ⟨some 30, none, .load false 1 (.a 29 3)⟩, ⟨some 31, none, .bin .neq (.a 28 2) (.a 30 3)⟩])
 (.cond (.t 31) (.seq (.reg [⟨some 4, none, .asg (.c (.bool false))⟩])
 .ret) .skip))
 (.seq (.seq (.reg [⟨some 32, none, .faddr 5 (.t 2)⟩, ⟨some 33, none, .load false 1 (.a 32 2)⟩, ⟨some 34, none, .faddr 5 (.t 3)⟩, ⟨some 35, none, .load false 1 (.a 34 3)⟩, ⟨some 36, none, .bin .neq (.a 33 2) (.a 35 3)⟩])
 (.cond (.t 36) (.seq (.reg [⟨some 4, none, .asg (.c (.bool false))⟩])
 .ret) .skip))
 (.seq (.seq (.reg [⟨some 37, none, .faddr 6 (.t 2)⟩, ⟨some 38, none, .load false 1 (.a 37 2)⟩, ⟨some 39, none, .faddr 6 (.t 3)⟩, ⟨some 40, none, .load false 1 (.a 39 3)⟩, ⟨some 41, none, .bin .neq (.a 38 2) (.a 40 3)⟩])
 (.cond (.t 41) (.seq (.reg [⟨some 4, none, .asg (.c (.bool false))⟩])
 .ret) .skip))
 (.seq (.reg [⟨some 4, none, .asg (.c (.bool true))⟩])
 .ret)))))))))⟩
/-- laws.eqMap -/
def a_laws_eqMap : AFn := ⟨2, 33, [.tmp 4], (.seq (.reg [⟨some 2, none, .box (.t 0)⟩, ⟨some 3, none, .box (.t 1)⟩, ⟨some 4, none, .asg (.c (.bool false))⟩])
 (.seq (.seq (.reg [⟨some 5, none, .faddr 0 (.t 2)⟩, ⟨some 6, none, .load false 1 (.a 5 2)⟩, ⟨some 7, none, .faddr 0 (.t 3)⟩, ⟨some 8, none, .load false 1 (.a 7 3)⟩, ⟨some 9, none, .bin .neq (.a 6 2) (.a 8 3)⟩])
 (.cond (.t 9) (.seq (.reg [⟨some 4, none, .asg (.c (.bool false))⟩])
 .ret) .skip))
 (.seq (.seq (.reg [⟨some 10, none, .faddr 1 (.t 2)⟩, ⟨some 11, none, .load false 1 (.a 10 2)⟩, ⟨some 12, none, .faddr 1 (.t 3)⟩, ⟨some 13, none, .load false 1 (.a 12 3)⟩, ⟨some 14, none, .bin .neq (.a 11 2) (.a 13 3)⟩])
 (.cond (.t 14) (.seq (.reg [⟨some 4, none, .asg (.c (.bool false))⟩])
 .ret) .skip))
 (.seq (.seq (.reg [⟨some 15, none, .faddr 2 (.t 2)⟩, ⟨some 16, none, .load false 1 (.a 15 2)⟩, ⟨some 17, none, .faddr 2 (.t 3)⟩, ⟨some 18, none, .load false 1 (.a 17 3)⟩, ⟨some 19, none, .call n_laws_eqIntS [.a 16 2, .a 18 3]⟩, ⟨some 20, none, .un .not (.t 19)⟩])
 (.cond (.t 20) (.seq (.reg [⟨some 4, none, .asg (.c (.bool false))⟩])
 .ret) .skip))
 (.seq (.seq (.reg [⟨some 21, none, .faddr 3 (.t 2)⟩, ⟨some 22, none, .load false 1 (.a 21 2)⟩, ⟨some 23, none, .faddr 3 (.t 3)⟩, ⟨some 24, none, .load false 1 (.a 23 3)⟩, ⟨some 25, none, .call n_laws_eqIntS [.a 22 2, .a 24 3]⟩, ⟨some 26, none, .un .not (.t 25)⟩])
 (.cond (.t 26) (.seq (.reg [⟨some 4, none, .asg (.c (.bool false))⟩])
 .ret) .skip))
 (.seq (.seq (.reg [⟨some 27, none, .faddr 4 (.t 2)⟩, ⟨some 28, none, .load false 1 (.a 27 2)⟩, ⟨some 29, none, .faddr 4 (.t 3)⟩, ⟨some 30, none, .load false 1 (.a 29 3)⟩, ⟨some 31, none, .call n_laws_eqIntS [.a 28 2, .a 30 3]⟩, ⟨some 32, none, .un .not (.t 31)⟩])
 (.cond (.t 32) (.seq (.reg [⟨some 4, none, .asg (.c (.bool false))⟩])
 .ret) .skip))
 (.seq (.reg [⟨some 4, none, .asg (.c (.bool true))⟩])
 .ret)))))))⟩
def b_laws_eqUnitS_0 : AC := (.seq (.seq (.reg [⟨some 11, none, .mv (.p 5)⟩, ⟨some 12, none, .rf (.t 0)⟩, ⟨some 13, none, .len (.a 12 0)⟩, ⟨some 14, none, .bin .lss (.t 11) (.t 13)⟩])
 (.cond (.t 14) .skip (.exit 0)))
 (.seq (.block 1 (.seq (.reg [⟨some 17, none, .rf (.t 0)⟩, ⟨some 18, none, .mv (.p 5)⟩, ⟨some 19, none, .iaddr 4 (.a 17 0) (.t 18)⟩, ⟨some 20, none, .load true 4 (.a 19 0)⟩, ⟨some 21, none, .rf (.t 1)⟩, ⟨some 22, none, .mv (.p 5)⟩, ⟨some 23, none, .iaddr 4 (.a 21 1) (.t 22)⟩, ⟨some 24, none, .load true 4 (.a 23 1)⟩, ⟨some 25, none, .call n_laws_eqUnit [.a 20 0, .a 24 1]⟩, ⟨some 26, none, .un .not (.t 25)⟩])
 (.cond (.t 26) (.seq (.reg [⟨some 4, none, .asg (.c (.bool false))⟩])
 .ret) .skip)))
 (.reg [⟨some 15, none, .mv (.p 5)⟩, ⟨some 16, none, .bin .add (.t 15) (.c (.int .i64 1))⟩, ⟨some 5, none, .asg (.p 16)⟩])))
/-- laws.eqUnitS -/
def a_laws_eqUnitS : AFn := ⟨2, 27, [.tmp 4], (.seq (.reg [⟨some 4, none, .asg (.c (.bool false))⟩])
 (.seq (.seq (.reg [⟨some 6, none, .rf (.t 0)⟩, ⟨some 7, none, .len (.a 6 0)⟩, ⟨some 8, none, .rf (.t 1)⟩, ⟨some 9, none, .len (.a 8 1)⟩, ⟨some 10, none, .bin .neq (.t 7) (.t 9)⟩])
 (.cond (.t 10) (.seq (.reg [⟨some 4, none, .asg (.c (.bool false))⟩])
 .ret) .skip))
 (.seq (.seq (.reg [⟨some 5, none, .asg (.c (.int .i64 0))⟩])
 (.block 0 (.loop [0, 1, 5] [4] b_laws_eqUnitS_0)))
 (.seq (.reg [⟨some 4, none, .asg (.c (.bool true))⟩])
 .ret))))⟩
def b_laws_eqIntS_0 : AC := (.seq (.seq (.reg [⟨some 11, none, .mv (.p 5)⟩, ⟨some 12, none, .rf (.t 0)⟩, ⟨some 13, none, .len (.a 12 0)⟩, ⟨some 14, none, .bin .lss (.t 11) (.t 13)⟩])
 (.cond (.t 14) .skip (.exit 0)))
 (.seq (.block 1 (.seq (.reg [⟨some 17, none, .rf (.t 0)⟩, ⟨some 18, none, .mv (.p 5)⟩, ⟨some 19, none, .iaddr 1 (.a 17 0) (.t 18)⟩, ⟨some 20, none, .load false 1 (.a 19 0)⟩, ⟨some 21, none, .rf (.t 1)⟩, ⟨some 22, none, .mv (.p 5)⟩, ⟨some 23, none, .iaddr 1 (.a 21 1) (.t 22)⟩, ⟨some 24, none, .load false 1 (.a 23 1)⟩, ⟨some 25, none, .bin .neq (.a 20 0) (.a 24 1)⟩])
 (.cond (.t 25) (.seq (.reg [⟨some 4, none, .asg (.c (.bool false))⟩])
 .ret) .skip)))
 (.reg [⟨some 15, none, .mv (.p 5)⟩, ⟨some 16, none, .bin .add (.t 15) (.c (.int .i64 1))⟩, ⟨some 5, none, .asg (.p 16)⟩])))
/-- laws.eqIntS -/
def a_laws_eqIntS : AFn := ⟨2, 26, [.tmp 4], (.seq (.reg [⟨some 4, none, .asg (.c (.bool false))⟩])
 (.seq (.seq (.reg [⟨some 6, none, .rf (.t 0)⟩, ⟨some 7, none, .len (.a 6 0)⟩, ⟨some 8, none, .rf (.t 1)⟩, ⟨some 9, none, .len (.a 8 1)⟩, ⟨some 10, none, .bin .neq (.t 7) (.t 9)⟩])
 (.cond (.t 10) (.seq (.reg [⟨some 4, none, .asg (.c (.bool false))⟩])
 .ret) .skip))
 (.seq (.seq (.reg [⟨some 5, none, .asg (.c (.int .i64 0))⟩])
 (.block 0 (.loop [0, 1, 5] [4] b_laws_eqIntS_0)))
 (.seq (.reg [⟨some 4, none, .asg (.c (.bool true))⟩])
 .ret))))⟩
/-- spec.oRight -/
def a_spec_oRight : AFn := ⟨3, 26, [.tmp 6], (.seq (.reg [⟨some 3, none, .box (.t 0)⟩, ⟨some 4, none, .box (.t 1)⟩, ⟨some 5, none, .box (.t 2)⟩, ⟨some 6, none, .asg (.c (.bool false))⟩])
 (.seq (.reg [⟨some 7, none, .load true 12 (.t 3)⟩, ⟨some 8, none, .load true 3 (.t 4)⟩, ⟨some 9, none, .faddr 0 (.t 5)⟩, ⟨some 10, none, .load false 1 (.a 9 5)⟩, ⟨some 11, none, .call n_spec_sHas [.a 7 3, .a 8 4, .a 10 5]⟩, ⟨some 12, none, .mv (.p 11)⟩, ⟨some 13, some (12, true), .load true 12 (.t 3)⟩, ⟨some 14, some (12, true), .load true 3 (.t 4)⟩, ⟨some 15, some (12, true), .faddr 2 (.t 4)⟩, ⟨some 16, some (12, true), .load false 1 (.a 15 4)⟩, ⟨some 17, some (12, true), .faddr 0 (.t 5)⟩, ⟨some 18, some (12, true), .load false 1 (.a 17 5)⟩, ⟨some 19, some (12, true), .iaddr 4 (.a 16 4) (.a 18 5)⟩, ⟨some 20, some (12, true), .faddr 0 (.a 19 4)⟩, ⟨some 21, some (12, true), .load false 1 (.a 20 4)⟩, ⟨some 22, some (12, true), .load true 3 (.t 5)⟩, ⟨some 23, some (12, true), .call n_spec_oFault [.a 13 3, .a 14 4, .a 21 4, .a 22 5]⟩, ⟨some 24, some (12, true), .bin .eql (.t 23) (.c (.int .i64 0))⟩, ⟨some 25, none, .pick (.t 12) (.t 24) (.c (.bool false))⟩, ⟨some 6, none, .asg (.p 25)⟩])
 .ret))⟩
def b_spec_oEnd_0 : AC := (.seq (.reg [⟨some 21, none, .bin .lss (.t 20) (.t 19)⟩])
 (.seq (.cond (.t 21) .skip (.exit 0))
 (.seq (.block 1 (.seq (.reg [⟨some 22, none, .iaddr 1 (.a 18 5) (.t 20)⟩, ⟨some 23, none, .load false 1 (.a 22 5)⟩, ⟨some 9, none, .asg (.p 23)⟩])
 (.reg [⟨some 24, none, .faddr 7 (.t 3)⟩, ⟨some 25, none, .load true 5 (.a 24 3)⟩, ⟨some 26, none, .mv (.p 7)⟩, ⟨some 27, none, .mv (.p 9)⟩, ⟨some 28, none, .call n_spec_mNext [.a 25 3, .t 26, .t 27]⟩, ⟨some 7, none, .asg (.p 28)⟩])))
 (.reg [⟨some 29, none, .bin .add (.t 20) (.c (.int .i64 1))⟩, ⟨some 20, none, .mv (.p 29)⟩]))))
/-- spec.oEnd -/
def a_spec_oEnd : AFn := ⟨3, 31, [.tmp 6], (.seq (.reg [⟨some 3, none, .box (.t 0)⟩, ⟨some 4, none, .box (.t 1)⟩, ⟨some 5, none, .box (.t 2)⟩, ⟨some 6, none, .asg (.c (.int .i64 0))⟩])
 (.seq (.reg [⟨some 10, none, .faddr 2 (.t 4)⟩, ⟨some 11, none, .load false 1 (.a 10 4)⟩, ⟨some 12, none, .faddr 0 (.t 5)⟩, ⟨some 13, none, .load false 1 (.a 12 5)⟩, ⟨some 14, none, .iaddr 4 (.a 11 4) (.a 13 5)⟩, ⟨some 15, none, .faddr 2 (.a 14 4)⟩, ⟨some 16, none, .load false 1 (.a 15 4)⟩, ⟨some 7, none, .asg (.p 16)⟩])
 (.seq (.seq (.reg [⟨some 17, none, .faddr 1 (.t 5)⟩, ⟨some 18, none, .load false 1 (.a 17 5)⟩, ⟨some 19, none, .len (.a 18 5)⟩, ⟨some 20, none, .mv (.c (.int .i64 0))⟩])
 (.block 0 (.loop [3, 5, 7, 18, 19, 20] [6, 7] b_spec_oEnd_0)))
 (.seq (.reg [⟨some 30, none, .mv (.p 7)⟩, ⟨some 6, none, .asg (.p 30)⟩])
 .ret))))⟩
/-- impl.isGiven -/
def a_impl_isGiven : AFn := ⟨3, 26, [.tmp 6], (.seq (.reg [⟨some 3, none, .box (.t 0)⟩, ⟨some 4, none, .box (.t 1)⟩, ⟨some 5, none, .box (.t 2)⟩, ⟨some 6, none, .asg (.c (.bool false))⟩])
 (.seq (.reg [⟨some 7, none, .load true 12 (.t 3)⟩, ⟨some 8, none, .load true 3 (.t 4)⟩, ⟨some 9, none, .faddr 0 (.t 5)⟩, ⟨some 10, none, .load false 1 (.a 9 5)⟩, ⟨some 11, none, .call n_impl_hasUnit [.a 7 3, .a 8 4, .a 10 5]⟩, ⟨some 12, none, .mv (.p 11)⟩, ⟨some 13, some (12, true), .load true 12 (.t 3)⟩, ⟨some 14, some (12, true), .load true 3 (.t 4)⟩, ⟨some 15, some (12, true), .faddr 2 (.t 4)⟩, ⟨some 16, some (12, true), .load false 1 (.a 15 4)⟩, ⟨some 17, some (12, true), .faddr 0 (.t 5)⟩, ⟨some 18, some (12, true), .load false 1 (.a 17 5)⟩, ⟨some 19, some (12, true), .iaddr 4 (.a 16 4) (.a 18 5)⟩, ⟨some 20, some (12, true), .faddr 0 (.a 19 4)⟩, ⟨some 21, some (12, true), .load false 1 (.a 20 4)⟩, ⟨some 22, some (12, true), .load true 3 (.t 5)⟩, ⟨some 23, some (12, true), .call n_impl_orderFault [.a 13 3, .a 14 4, .a 21 4, .a 22 5]⟩, ⟨some 24, some (12, true), .bin .eql (.t 23) (.c (.int .i64 0))⟩, ⟨some 25, none, .pick (.t 12) (.t 24) (.c (.bool false))⟩, ⟨some 6, none, .asg (.p 25)⟩])
 .ret))⟩
/-- impl.endOf -/
def a_impl_endOf : AFn := ⟨3, 36, [.tmp 6], (.seq (.reg [⟨some 3, none, .box (.t 0)⟩, ⟨some 4, none, .box (.t 1)⟩, ⟨some 5, none, .box (.t 2)⟩, ⟨some 6, none, .asg (.c (.int .i64 0))⟩])
 (.seq (.reg [⟨some 10, none, .faddr 2 (.t 4)⟩, ⟨some 11, none, .load false 1 (.a 10 4)⟩, ⟨some 12, none, .faddr 0 (.t 5)⟩, ⟨some 13, none, .load false 1 (.a 12 5)⟩, ⟨some 14, none, .iaddr 4 (.a 11 4) (.a 13 5)⟩, ⟨some 15, none, .faddr 2 (.a 14 4)⟩, ⟨some 16, none, .load false 1 (.a 15 4)⟩, ⟨some 7, none, .asg (.p 16)⟩])
 (.seq (.seq (.reg [⟨some 18, none, .faddr 7 (.t 3)⟩, ⟨some 19, none, .load true 5 (.a 18 3)⟩, ⟨some 20, none, .mv (.p 7)⟩, ⟨some 21, none, .faddr 1 (.t 5)⟩, ⟨some 22, none, .load false 1 (.a 21 5)⟩, ⟨some 23, none, .call n_impl_pathHexes [.a 19 3, .t 20, .a 22 5]⟩, ⟨some 17, none, .mv (.t 23)⟩, ⟨some 24, none, .extract (.t 17) 0⟩, ⟨some 25, none, .extract (.p 17) 1⟩, ⟨some 8, none, .asg (.t 24)⟩, ⟨some 9, none, .asg (.p 25)⟩])
 (.seq (.reg [⟨some 26, none, .rf (.t 8)⟩, ⟨some 27, none, .len (.a 26 8)⟩, ⟨some 28, none, .bin .gtr (.t 27) (.c (.int .i64 0))⟩])
 (.cond (.t 28) (.seq (.reg [⟨some 29, none, .rf (.t 8)⟩, ⟨some 30, none, .rf (.t 8)⟩, ⟨some 31, none, .len (.a 30 8)⟩, ⟨some 32, none, .bin .sub (.t 31) (.c (.int .i64 1))⟩, ⟨some 33, none, .iaddr 1 (.a 29 8) (.t 32)⟩, ⟨some 34, none, .load false 1 (.a 33 8)⟩, ⟨some 6, none, .asg (.p 34)⟩])
 .ret) .skip)))
 (.seq (.reg [⟨some 35, none, .mv (.p 7)⟩, ⟨some 6, none, .asg (.p 35)⟩])
 .ret))))⟩
/-- spec.fAsked -/
def a_spec_fAsked : AFn := ⟨3, 16, [.tmp 6], (.seq (.reg [⟨some 3, none, .box (.t 0)⟩, ⟨some 4, none, .box (.t 1)⟩, ⟨some 6, none, .asg (.c (.bool false))⟩])
 (.seq (.reg [⟨some 7, none, .load true 12 (.t 3)⟩, ⟨some 8, none, .load true 3 (.t 4)⟩, ⟨some 9, none, .call n_spec_sGood [.a 7 3, .a 8 4]⟩, ⟨some 10, none, .mv (.p 9)⟩, ⟨some 11, some (10, true), .load true 12 (.t 3)⟩, ⟨some 12, some (10, true), .load true 3 (.t 4)⟩, ⟨some 13, some (10, true), .rf (.t 2)⟩, ⟨some 14, some (10, true), .call n_spec_fGood [.a 11 3, .a 12 4, .a 13 2]⟩, ⟨some 15, none, .pick (.t 10) (.t 14) (.c (.bool false))⟩, ⟨some 6, none, .asg (.p 15)⟩])
 .ret))⟩
def b_spec_fReason_0 : AC := (.seq (.reg [⟨some 48, none, .bin .lss (.t 47) (.t 46)⟩])
 (.seq (.cond (.t 48) .skip (.exit 0))
 (.seq (.block 1 (.seq (.reg [⟨some 49, none, .iaddr 3 (.a 45 2) (.t 47)⟩, ⟨some 50, none, .load true 3 (.a 49 2)⟩, ⟨some 15, none, .alloc [.int .i64 0, .int .i64 0, .int .i64 0]⟩, ⟨none, none, .store 3 (.t 15) (.a 50 2)⟩])
 (.seq (.reg [⟨some 51, none, .faddr 2 (.t 5)⟩, ⟨some 52, none, .load false 1 (.a 51 5)⟩, ⟨some 53, none, .faddr 0 (.t 15)⟩, ⟨some 54, none, .load false 1 (.a 53 15)⟩, ⟨some 55, none, .iaddr 4 (.a 52 5) (.a 54 15)⟩, ⟨some 56, none, .faddr 0 (.a 55 5)⟩, ⟨some 57, none, .load false 1 (.a 56 5)⟩, ⟨some 58, none, .mv (.p 10)⟩, ⟨some 59, none, .bin .neq (.a 57 5) (.t 58)⟩])
 (.cond (.t 59) (.seq (.reg [⟨some 60, none, .mv (.p 11)⟩, ⟨some 61, none, .mv (.p 60)⟩, ⟨some 62, some (61, false), .faddr 1 (.t 15)⟩, ⟨some 63, some (61, false), .load false 1 (.a 62 15)⟩, ⟨some 64, some (61, false), .faddr 2 (.t 9)⟩, ⟨some 65, some (61, false), .load false 1 (.a 64 9)⟩, ⟨some 66, some (61, false), .bin .eql (.a 63 15) (.a 65 9)⟩, ⟨some 67, some (61, false), .mv (.p 66)⟩, ⟨some 68, some (67, true), .faddr 2 (.t 15)⟩, ⟨some 69, some (67, true), .load false 1 (.a 68 15)⟩, ⟨some 70, some (67, true), .faddr 1 (.t 9)⟩, ⟨some 71, some (67, true), .load false 1 (.a 70 9)⟩, ⟨some 72, some (67, true), .bin .eql (.a 69 15) (.a 71 9)⟩, ⟨some 73, some (61, false), .pick (.t 67) (.t 72) (.c (.bool false))⟩, ⟨some 74, none, .pick (.t 61) (.c (.bool true)) (.t 73)⟩, ⟨some 11, none, .asg (.p 74)⟩])
 (.reg [⟨some 75, none, .mv (.p 12)⟩, ⟨some 76, none, .mv (.p 75)⟩, ⟨some 77, some (76, false), .faddr 2 (.t 15)⟩, ⟨some 78, some (76, false), .load false 1 (.a 77 15)⟩, ⟨some 79, some (76, false), .faddr 2 (.t 9)⟩, ⟨some 80, some (76, false), .load false 1 (.a 79 9)⟩, ⟨some 81, some (76, false), .bin .eql (.a 78 15) (.a 80 9)⟩, ⟨some 82, none, .pick (.t 76) (.c (.bool true)) (.t 81)⟩, ⟨some 12, none, .asg (.p 82)⟩])) (.seq (.reg [⟨some 83, none, .faddr 2 (.t 15)⟩, ⟨some 84, none, .load false 1 (.a 83 15)⟩, ⟨some 85, none, .faddr 2 (.t 9)⟩, ⟨some 86, none, .load false 1 (.a 85 9)⟩, ⟨some 87, none, .bin .eql (.a 84 15) (.a 86 9)⟩, ⟨some 88, none, .mv (.p 87)⟩, ⟨some 89, some (88, true), .faddr 0 (.t 15)⟩, ⟨some 90, some (88, true), .load false 1 (.a 89 15)⟩, ⟨some 91, some (88, true), .faddr 0 (.t 9)⟩, ⟨some 92, some (88, true), .load false 1 (.a 91 9)⟩, ⟨some 93, some (88, true), .bin .lss (.a 90 15) (.a 92 9)⟩, ⟨some 94, none, .pick (.t 88) (.t 93) (.c (.bool false))⟩])
 (.cond (.t 94) (.reg [⟨some 95, none, .mv (.p 13)⟩, ⟨some 96, none, .bin .sub (.t 95) (.c (.int .i64 1))⟩, ⟨some 13, none, .asg (.p 96)⟩]) .skip))))))
 (.reg [⟨some 97, none, .bin .add (.t 47) (.c (.int .i64 1))⟩, ⟨some 47, none, .mv (.p 97)⟩]))))
/-- spec.fReason -/
def a_spec_fReason : AFn := ⟨4, 105, [.tmp 8], (.seq (.reg [⟨some 4, none, .box (.t 0)⟩, ⟨some 5, none, .box (.t 1)⟩, ⟨some 8, none, .asg (.c (.int .i64 0))⟩])
 (.seq (.reg [⟨some 16, none, .rf (.t 2)⟩, ⟨some 17, none, .mv (.p 3)⟩, ⟨some 18, none, .iaddr 3 (.a 16 2) (.t 17)⟩, ⟨some 19, none, .load true 3 (.a 18 2)⟩, ⟨some 9, none, .alloc [.int .i64 0, .int .i64 0, .int .i64 0]⟩, ⟨none, none, .store 3 (.t 9) (.a 19 2)⟩])
 (.seq (.reg [⟨some 20, none, .faddr 2 (.t 5)⟩, ⟨some 21, none, .load false 1 (.a 20 5)⟩, ⟨some 22, none, .faddr 0 (.t 9)⟩, ⟨some 23, none, .load false 1 (.a 22 9)⟩, ⟨some 24, none, .iaddr 4 (.a 21 5) (.a 23 9)⟩, ⟨some 25, none, .faddr 0 (.a 24 5)⟩, ⟨some 26, none, .load false 1 (.a 25 5)⟩, ⟨some 10, none, .asg (.p 26)⟩])
 (.seq (.seq (.reg [⟨some 27, none, .load true 3 (.t 5)⟩, ⟨some 28, none, .rf (.t 2)⟩, ⟨some 29, none, .faddr 2 (.t 9)⟩, ⟨some 30, none, .load false 1 (.a 29 9)⟩, ⟨some 31, none, .mv (.p 10)⟩, ⟨some 32, none, .bin .sub (.c (.int .i64 1)) (.t 31)⟩, ⟨some 33, none, .call n_spec_fStays [.a 27 5, .a 28 2, .a 30 9, .t 32]⟩, ⟨some 34, none, .bin .gtr (.t 33) (.c (.int .i64 0))⟩])
 (.cond (.t 34) (.seq (.reg [⟨some 8, none, .asg (.c (.int .i64 1))⟩])
 .ret) .skip))
 (.seq (.reg [⟨some 11, none, .asg (.c (.bool false))⟩, ⟨some 12, none, .asg (.c (.bool false))⟩])
 (.seq (.reg [⟨some 35, none, .faddr 0 (.t 4)⟩, ⟨some 36, none, .faddr 2 (.a 35 4)⟩, ⟨some 37, none, .load false 1 (.a 36 4)⟩, ⟨some 38, none, .load true 3 (.t 5)⟩, ⟨some 39, none, .rf (.t 2)⟩, ⟨some 40, none, .faddr 2 (.t 9)⟩, ⟨some 41, none, .load false 1 (.a 40 9)⟩, ⟨some 42, none, .mv (.p 10)⟩, ⟨some 43, none, .call n_spec_fStays [.a 38 5, .a 39 2, .a 41 9, .t 42]⟩, ⟨some 44, none, .bin .sub (.a 37 4) (.t 43)⟩, ⟨some 13, none, .asg (.p 44)⟩])
 (.seq (.seq (.reg [⟨some 45, none, .rf (.t 2)⟩, ⟨some 46, none, .len (.a 45 2)⟩, ⟨some 47, none, .mv (.c (.int .i64 0))⟩])
 (.block 0 (.loop [2, 5, 9, 10, 11, 12, 13, 45, 46, 47] [8, 11, 12, 13] b_spec_fReason_0)))
 (.seq (.block 2 (.seq (.reg [⟨some 99, none, .mv (.p 11)⟩, ⟨some 98, none, .asg (.p 99)⟩])
 (.cond (.t 98) (.seq (.reg [⟨some 8, none, .asg (.c (.int .i64 2))⟩])
 .ret) (.seq (.reg [⟨some 101, none, .mv (.p 12)⟩, ⟨some 100, none, .asg (.p 101)⟩])
 (.cond (.t 100) (.seq (.reg [⟨some 8, none, .asg (.c (.int .i64 3))⟩])
 .ret) (.seq (.reg [⟨some 103, none, .mv (.p 13)⟩, ⟨some 104, none, .bin .leq (.t 103) (.c (.int .i64 0))⟩, ⟨some 102, none, .asg (.p 104)⟩])
 (.cond (.t 102) (.seq (.reg [⟨some 8, none, .asg (.c (.int .i64 4))⟩])
 .ret) .skip)))))))
 (.seq (.reg [⟨some 8, none, .asg (.c (.int .i64 0))⟩])
 .ret)))))))))⟩
/-- laws.toAttempt -/
def a_laws_toAttempt : AFn := ⟨1, 14, [.cell 2 3 true], (.seq (.reg [⟨some 1, none, .box (.t 0)⟩, ⟨some 2, none, .alloc [.int .i64 0, .int .i64 0, .int .i64 0]⟩])
 (.seq (.reg [⟨some 3, none, .alloc [.int .i64 0, .int .i64 0, .int .i64 0]⟩])
 (.seq (.reg [⟨some 4, none, .faddr 0 (.t 1)⟩, ⟨some 5, none, .load false 1 (.a 4 1)⟩, ⟨some 6, none, .faddr 0 (.t 3)⟩, ⟨none, none, .store 1 (.a 6 3) (.p 5)⟩])
 (.seq (.reg [⟨some 7, none, .faddr 1 (.t 1)⟩, ⟨some 8, none, .load false 1 (.a 7 1)⟩, ⟨some 9, none, .faddr 1 (.t 3)⟩, ⟨none, none, .store 1 (.a 9 3) (.p 8)⟩])
 (.seq (.reg [⟨some 10, none, .faddr 2 (.t 1)⟩, ⟨some 11, none, .load false 1 (.a 10 1)⟩, ⟨some 12, none, .faddr 2 (.t 3)⟩, ⟨none, none, .store 1 (.a 12 3) (.p 11)⟩])
 (.seq (.reg [⟨some 13, none, .load true 3 (.t 3)⟩, ⟨none, none, .store 3 (.t 2) (.a 13 3)⟩])
 .ret))))))⟩
/-- impl.areAttempts -/
def a_impl_areAttempts : AFn := ⟨3, 16, [.tmp 6], (.seq (.reg [⟨some 3, none, .box (.t 0)⟩, ⟨some 4, none, .box (.t 1)⟩, ⟨some 6, none, .asg (.c (.bool false))⟩])
 (.seq (.reg [⟨some 7, none, .load true 12 (.t 3)⟩, ⟨some 8, none, .load true 3 (.t 4)⟩, ⟨some 9, none, .call n_impl_fits [.a 7 3, .a 8 4]⟩, ⟨some 10, none, .mv (.p 9)⟩, ⟨some 11, some (10, true), .load true 12 (.t 3)⟩, ⟨some 12, some (10, true), .load true 3 (.t 4)⟩, ⟨some 13, some (10, true), .rf (.t 2)⟩, ⟨some 14, some (10, true), .call n_impl_goodAttempts [.a 11 3, .a 12 4, .a 13 2]⟩, ⟨some 15, none, .pick (.t 10) (.t 14) (.c (.bool false))⟩, ⟨some 6, none, .asg (.p 15)⟩])
 .ret))⟩
/-- impl.isIndex -/
def a_impl_isIndex : AFn := ⟨2, 9, [.tmp 4], (.seq (.reg [⟨some 4, none, .asg (.c (.bool false))⟩])
 (.seq (.reg [⟨some 5, none, .mv (.p 0)⟩, ⟨some 6, none, .mv (.p 1)⟩, ⟨some 7, none, .bin .sub (.t 6) (.c (.int .i64 1))⟩, ⟨some 8, none, .call n_impl_inRange [.t 5, .c (.int .i64 0), .t 7]⟩, ⟨some 4, none, .asg (.p 8)⟩])
 .ret))⟩
def b_impl_attemptReason_0 : AC := (.seq (.reg [⟨some 36, none, .bin .lss (.t 35) (.t 34)⟩])
 (.seq (.cond (.t 36) .skip (.exit 0))
 (.seq (.block 1 (.seq (.reg [⟨some 37, none, .iaddr 1 (.t 33) (.t 35)⟩, ⟨some 38, none, .load false 1 (.a 37 33)⟩, ⟨some 13, none, .asg (.p 38)⟩])
 (.seq (.seq (.reg [⟨some 39, none, .rf (.t 2)⟩, ⟨some 40, none, .mv (.p 13)⟩, ⟨some 41, none, .call n_impl_leaves [.a 39 2, .t 40]⟩])
 (.cond (.t 41) (.exit 1) .skip))
 (.seq (.seq (.reg [⟨some 42, none, .faddr 2 (.t 5)⟩, ⟨some 43, none, .load false 1 (.a 42 5)⟩, ⟨some 44, none, .mv (.p 13)⟩, ⟨some 45, none, .iaddr 4 (.a 43 5) (.t 44)⟩, ⟨some 46, none, .faddr 0 (.a 45 5)⟩, ⟨some 47, none, .load false 1 (.a 46 5)⟩, ⟨some 48, none, .mv (.p 10)⟩, ⟨some 49, none, .bin .neq (.a 47 5) (.t 48)⟩])
 (.cond (.t 49) (.seq (.reg [⟨some 8, none, .asg (.c (.int .i64 1))⟩])
 .ret) .skip))
 (.reg [⟨some 50, none, .mv (.p 11)⟩, ⟨some 51, none, .bin .add (.t 50) (.c (.int .i64 1))⟩, ⟨some 11, none, .asg (.p 51)⟩])))))
 (.reg [⟨some 52, none, .bin .add (.t 35) (.c (.int .i64 1))⟩, ⟨some 35, none, .mv (.p 52)⟩]))))
def b_impl_attemptReason_1 : AC := (.seq (.reg [⟨some 56, none, .bin .lss (.t 55) (.t 54)⟩])
 (.seq (.cond (.t 56) .skip (.exit 2))
 (.seq (.block 3 (.seq (.reg [⟨some 57, none, .iaddr 3 (.a 53 2) (.t 55)⟩, ⟨some 58, none, .load true 3 (.a 57 2)⟩, ⟨some 17, none, .alloc [.int .i64 0, .int .i64 0, .int .i64 0]⟩, ⟨none, none, .store 3 (.t 17) (.a 58 2)⟩])
 (.seq (.reg [⟨some 59, none, .faddr 2 (.t 5)⟩, ⟨some 60, none, .load false 1 (.a 59 5)⟩, ⟨some 61, none, .faddr 0 (.t 17)⟩, ⟨some 62, none, .load false 1 (.a 61 17)⟩, ⟨some 63, none, .iaddr 4 (.a 60 5) (.a 62 17)⟩, ⟨some 64, none, .faddr 0 (.a 63 5)⟩, ⟨some 65, none, .load false 1 (.a 64 5)⟩, ⟨some 66, none, .mv (.p 10)⟩, ⟨some 67, none, .bin .neq (.a 65 5) (.t 66)⟩, ⟨some 18, none, .asg (.p 67)⟩])
 (.seq (.reg [⟨some 68, none, .mv (.p 14)⟩, ⟨some 69, none, .mv (.p 68)⟩, ⟨some 70, some (69, false), .mv (.p 18)⟩, ⟨some 71, some (69, false), .mv (.p 70)⟩, ⟨some 72, some (71, true), .faddr 1 (.t 17)⟩, ⟨some 73, some (71, true), .load false 1 (.a 72 17)⟩, ⟨some 74, some (71, true), .faddr 2 (.t 9)⟩, ⟨some 75, some (71, true), .load false 1 (.a 74 9)⟩, ⟨some 76, some (71, true), .bin .eql (.a 73 17) (.a 75 9)⟩, ⟨some 77, some (69, false), .pick (.t 71) (.t 76) (.c (.bool false))⟩, ⟨some 78, some (69, false), .mv (.p 77)⟩, ⟨some 79, some (78, true), .faddr 2 (.t 17)⟩, ⟨some 80, some (78, true), .load false 1 (.a 79 17)⟩, ⟨some 81, some (78, true), .faddr 1 (.t 9)⟩, ⟨some 82, some (78, true), .load false 1 (.a 81 9)⟩, ⟨some 83, some (78, true), .bin .eql (.a 80 17) (.a 82 9)⟩, ⟨some 84, some (69, false), .pick (.t 78) (.t 83) (.c (.bool false))⟩, ⟨some 85, none, .pick (.t 69) (.c (.bool true)) (.t 84)⟩, ⟨some 14, none, .asg (.p 85)⟩])
 (.seq (.reg [⟨some 86, none, .mv (.p 15)⟩, ⟨some 87, none, .mv (.p 86)⟩, ⟨some 88, some (87, false), .mv (.p 18)⟩, ⟨some 89, some (87, false), .mv (.p 88)⟩, ⟨some 90, some (89, true), .faddr 2 (.t 17)⟩, ⟨some 91, some (89, true), .load false 1 (.a 90 17)⟩, ⟨some 92, some (89, true), .faddr 2 (.t 9)⟩, ⟨some 93, some (89, true), .load false 1 (.a 92 9)⟩, ⟨some 94, some (89, true), .bin .eql (.a 91 17) (.a 93 9)⟩, ⟨some 95, some (87, false), .pick (.t 89) (.t 94) (.c (.bool false))⟩, ⟨some 96, none, .pick (.t 87) (.c (.bool true)) (.t 95)⟩, ⟨some 15, none, .asg (.p 96)⟩])
 (.seq (.reg [⟨some 97, none, .mv (.p 18)⟩, ⟨some 98, none, .un .not (.t 97)⟩, ⟨some 99, none, .mv (.p 98)⟩, ⟨some 100, some (99, true), .faddr 2 (.t 17)⟩, ⟨some 101, some (99, true), .load false 1 (.a 100 17)⟩, ⟨some 102, some (99, true), .faddr 2 (.t 9)⟩, ⟨some 103, some (99, true), .load false 1 (.a 102 9)⟩, ⟨some 104, some (99, true), .bin .eql (.a 101 17) (.a 103 9)⟩, ⟨some 105, none, .pick (.t 99) (.t 104) (.c (.bool false))⟩, ⟨some 106, none, .mv (.p 105)⟩, ⟨some 107, some (106, true), .faddr 0 (.t 17)⟩, ⟨some 108, some (106, true), .load false 1 (.a 107 17)⟩, ⟨some 109, some (106, true), .faddr 0 (.t 9)⟩, ⟨some 110, some (106, true), .load false 1 (.a 109 9)⟩, ⟨some 111, some (106, true), .bin .lss (.a 108 17) (.a 110 9)⟩, ⟨some 112, none, .pick (.t 106) (.t 111) (.c (.bool false))⟩])
 (.cond (.t 112) (.reg [⟨some 113, none, .mv (.p 11)⟩, ⟨some 114, none, .bin .add (.t 113) (.c (.int .i64 1))⟩, ⟨some 11, none, .asg (.p 114)⟩]) .skip)))))))
 (.reg [⟨some 115, none, .bin .add (.t 55) (.c (.int .i64 1))⟩, ⟨some 55, none, .mv (.p 115)⟩]))))
/-- impl.attemptReason -/
def a_impl_attemptReason : AFn := ⟨4, 126, [.tmp 8], (.seq (.reg [⟨some 4, none, .box (.t 0)⟩, ⟨some 5, none, .box (.t 1)⟩, ⟨some 8, none, .asg (.c (.int .i64 0))⟩])
 (.seq (.reg [⟨some 19, none, .rf (.t 2)⟩, ⟨some 20, none, .mv (.p 3)⟩, ⟨some 21, none, .iaddr 3 (.a 19 2) (.t 20)⟩, ⟨some 22, none, .load true 3 (.a 21 2)⟩, ⟨some 9, none, .alloc [.int .i64 0, .int .i64 0, .int .i64 0]⟩, ⟨none, none, .store 3 (.t 9) (.a 22 2)⟩])
 (.seq (.reg [⟨some 23, none, .faddr 2 (.t 5)⟩, ⟨some 24, none, .load false 1 (.a 23 5)⟩, ⟨some 25, none, .faddr 0 (.t 9)⟩, ⟨some 26, none, .load false 1 (.a 25 9)⟩, ⟨some 27, none, .iaddr 4 (.a 24 5) (.a 26 9)⟩, ⟨some 28, none, .faddr 0 (.a 27 5)⟩, ⟨some 29, none, .load false 1 (.a 28 5)⟩, ⟨some 10, none, .asg (.p 29)⟩, ⟨some 11, none, .asg (.c (.int .i64 0))⟩])
 (.seq (.seq (.reg [⟨some 30, none, .load true 3 (.t 5)⟩, ⟨some 31, none, .faddr 2 (.t 9)⟩, ⟨some 32, none, .load false 1 (.a 31 9)⟩, ⟨some 33, none, .call n_impl_unitsAt [.a 30 5, .a 32 9]⟩, ⟨some 34, none, .len (.t 33)⟩, ⟨some 35, none, .mv (.c (.int .i64 0))⟩])
 (.block 0 (.loop [2, 4, 5, 9, 10, 11, 33, 34, 35] [2, 4, 5, 8, 9, 10, 11] b_impl_attemptReason_0)))
 (.seq (.reg [⟨some 14, none, .asg (.c (.bool false))⟩, ⟨some 15, none, .asg (.c (.bool false))⟩])
 (.seq (.seq (.reg [⟨some 53, none, .rf (.t 2)⟩, ⟨some 54, none, .len (.a 53 2)⟩, ⟨some 55, none, .mv (.c (.int .i64 0))⟩])
 (.block 2 (.loop [2, 4, 5, 9, 10, 11, 14, 15, 53, 54, 55] [4, 8, 11, 14, 15] b_impl_attemptReason_1)))
 (.seq (.block 4 (.seq (.reg [⟨some 117, none, .mv (.p 14)⟩, ⟨some 116, none, .asg (.p 117)⟩])
 (.cond (.t 116) (.seq (.reg [⟨some 8, none, .asg (.c (.int .i64 2))⟩])
 .ret) (.seq (.reg [⟨some 119, none, .mv (.p 15)⟩, ⟨some 118, none, .asg (.p 119)⟩])
 (.cond (.t 118) (.seq (.reg [⟨some 8, none, .asg (.c (.int .i64 3))⟩])
 .ret) (.seq (.reg [⟨some 121, none, .mv (.p 11)⟩, ⟨some 122, none, .faddr 0 (.t 4)⟩, ⟨some 123, none, .faddr 2 (.a 122 4)⟩, ⟨some 124, none, .load false 1 (.a 123 4)⟩, ⟨some 125, none, .bin .geq (.t 121) (.a 124 4)⟩, ⟨some 120, none, .asg (.p 125)⟩])
 (.cond (.t 120) (.seq (.reg [⟨some 8, none, .asg (.c (.int .i64 4))⟩])
 .ret) .skip)))))))
 (.seq (.reg [⟨some 8, none, .asg (.c (.int .i64 0))⟩])
 .ret))))))))⟩
/-- laws.eqAttempt -/
def a_laws_eqAttempt : AFn := ⟨2, 20, [.tmp 4], (.seq (.reg [⟨some 2, none, .box (.t 0)⟩, ⟨some 3, none, .box (.t 1)⟩, ⟨some 4, none, .asg (.c (.bool false))⟩])
 (.seq (.seq (.reg [⟨some 5, none, .faddr 0 (.t 2)⟩, ⟨some 6, none, .load false 1 (.a 5 2)⟩, ⟨some 7, none, .faddr 0 (.t 3)⟩, ⟨some 8, none, .load false 1 (.a 7 3)⟩, ⟨some 9, none, .bin .neq (.a 6 2) (.a 8 3)⟩])
 (.cond (.t 9) (.seq (.reg [⟨some 4, none, .asg (.c (.bool false))⟩])
 .ret) .skip))
 (.seq (.seq (.reg [⟨some 10, none, .faddr 1 (.t 2)⟩, ⟨some 11, none, .load false 1 (.a 10 2)⟩, ⟨some 12, none, .faddr 1 (.t 3)⟩, ⟨some 13, none, .load false 1 (.a 12 3)⟩, ⟨some 14, none, .bin .neq (.a 11 2) (.a 13 3)⟩])
 (.cond (.t 14) (.seq (.reg [⟨some 4, none, .asg (.c (.bool false))⟩])
 .ret) .skip))
 (.seq (.seq (.reg [⟨some 15, none, .faddr 2 (.t 2)⟩, ⟨some 16, none, .load false 1 (.a 15 2)⟩, ⟨some 17, none, .faddr 2 (.t 3)⟩, ⟨some 18, none, .load false 1 (.a 17 3)⟩, ⟨some 19, none, .bin .neq (.a 16 2) (.a 18 3)⟩])
 (.cond (.t 19) (.seq (.reg [⟨some 4, none, .asg (.c (.bool false))⟩])
 .ret) .skip))
 (.seq (.reg [⟨some 4, none, .asg (.c (.bool true))⟩])
 .ret)))))⟩
/-- spec.oCost -/
def a_spec_oCost : AFn := ⟨3, 31, [.tmp 6], (.seq (.reg [⟨some 3, none, .box (.t 0)⟩, ⟨some 4, none, .box (.t 1)⟩, ⟨some 5, none, .box (.t 2)⟩, ⟨some 6, none, .asg (.c (.int .i64 0))⟩])
 (.seq (.seq (.reg [⟨some 7, none, .faddr 1 (.t 5)⟩, ⟨some 8, none, .load false 1 (.a 7 5)⟩, ⟨some 9, none, .call n_spec_csPath [.a 8 5]⟩, ⟨some 10, none, .un .not (.t 9)⟩])
 (.cond (.t 10) (.seq (.reg [⟨some 6, none, .asg (.c (.int .i64 (-1)))⟩])
 .ret) .skip))
 (.seq (.reg [⟨some 11, none, .load true 12 (.t 3)⟩, ⟨some 12, none, .faddr 2 (.t 4)⟩, ⟨some 13, none, .load false 1 (.a 12 4)⟩, ⟨some 14, none, .faddr 0 (.t 5)⟩, ⟨some 15, none, .load false 1 (.a 14 5)⟩, ⟨some 16, none, .iaddr 4 (.a 13 4) (.a 15 5)⟩, ⟨some 17, none, .faddr 1 (.a 16 4)⟩, ⟨some 18, none, .load false 1 (.a 17 4)⟩, ⟨some 19, none, .faddr 1 (.t 4)⟩, ⟨some 20, none, .load false 1 (.a 19 4)⟩, ⟨some 21, none, .faddr 2 (.t 4)⟩, ⟨some 22, none, .load false 1 (.a 21 4)⟩, ⟨some 23, none, .faddr 0 (.t 5)⟩, ⟨some 24, none, .load false 1 (.a 23 5)⟩, ⟨some 25, none, .iaddr 4 (.a 22 4) (.a 24 5)⟩, ⟨some 26, none, .faddr 2 (.a 25 4)⟩, ⟨some 27, none, .load false 1 (.a 26 4)⟩, ⟨some 28, none, .faddr 1 (.t 5)⟩, ⟨some 29, none, .load false 1 (.a 28 5)⟩, ⟨some 30, none, .call n_spec_csCost [.a 11 3, .a 18 4, .a 20 4, .a 27 4, .a 29 5]⟩, ⟨some 6, none, .asg (.p 30)⟩])
 .ret)))⟩
/-- impl.PathCost -/
def a_impl_PathCost : AFn := ⟨5, 37, [.tmp 10, .tmp 11], (.seq (.reg [⟨some 5, none, .box (.t 0)⟩, ⟨some 10, none, .asg (.c (.int .i64 0))⟩, ⟨some 11, none, .asg (.c (.bool false))⟩])
 (.seq (.seq (.reg [⟨some 13, none, .load true 12 (.t 5)⟩, ⟨some 14, none, .mv (.p 1)⟩, ⟨some 15, none, .mv (.p 2)⟩, ⟨some 16, none, .mv (.p 3)⟩, ⟨some 17, none, .call n_impl_isMover [.a 13 5, .t 14, .t 15, .t 16]⟩, ⟨some 18, none, .un .not (.t 17)⟩, ⟨some 19, none, .mv (.p 18)⟩, ⟨some 20, some (19, false), .rf (.t 4)⟩, ⟨some 21, some (19, false), .call n_impl_isPath [.a 20 4]⟩, ⟨some 22, some (19, false), .un .not (.t 21)⟩, ⟨some 23, none, .pick (.t 19) (.c (.bool true)) (.t 22)⟩])
 (.cond (.t 23) (.seq (.reg [⟨some 10, none, .asg (.c (.int .i64 0))⟩, ⟨some 11, none, .asg (.c (.bool false))⟩])
 .ret) .skip))
 (.seq (.reg [⟨some 24, none, .load true 12 (.t 5)⟩, ⟨some 25, none, .mv (.p 1)⟩, ⟨some 26, none, .mv (.p 2)⟩, ⟨some 27, none, .mv (.p 3)⟩, ⟨some 28, none, .rf (.t 4)⟩, ⟨some 29, none, .call n_impl_costsAlong [.a 24 5, .t 25, .t 26, .t 27, .a 28 4]⟩, ⟨some 12, none, .asg (.t 29)⟩])
 (.seq (.seq (.reg [⟨some 30, none, .rf (.t 12)⟩, ⟨some 31, none, .len (.a 30 12)⟩, ⟨some 32, none, .rf (.t 4)⟩, ⟨some 33, none, .len (.a 32 4)⟩, ⟨some 34, none, .bin .lss (.t 31) (.t 33)⟩])
 (.cond (.t 34) (.seq (.reg [⟨some 10, none, .asg (.c (.int .i64 0))⟩, ⟨some 11, none, .asg (.c (.bool false))⟩])
 .ret) .skip))
 (.seq (.reg [⟨some 35, none, .rf (.t 12)⟩, ⟨some 36, none, .call n_impl_sumOf [.a 35 12]⟩, ⟨some 10, none, .asg (.p 36)⟩, ⟨some 11, none, .asg (.c (.bool true))⟩])
 .ret)))))⟩
/-- spec.aResult -/
def a_spec_aResult : AFn := ⟨4, 17, [.tmp 8], (.seq (.reg [⟨some 4, none, .box (.t 0)⟩, ⟨some 5, none, .box (.t 1)⟩, ⟨some 6, none, .box (.t 2)⟩, ⟨some 8, none, .asg (.c (.bool false))⟩])
 (.seq (.reg [⟨some 9, none, .load true 12 (.t 4)⟩, ⟨some 10, none, .load true 3 (.t 5)⟩, ⟨some 11, none, .load true 3 (.t 6)⟩, ⟨some 12, none, .call n_spec_aGood [.a 9 4, .a 10 5, .a 11 6]⟩, ⟨some 13, none, .mv (.p 12)⟩, ⟨some 14, some (13, true), .mv (.p 3)⟩, ⟨some 15, some (13, true), .call n_spec_l1In [.t 14, .c (.int .i64 0), .c (.int .i64 7)]⟩, ⟨some 16, none, .pick (.t 13) (.t 15) (.c (.bool false))⟩, ⟨some 8, none, .asg (.p 16)⟩])
 .ret))⟩
def b_spec_aApply_0 : AC := (.seq (.reg [⟨some 49, none, .bin .lss (.t 48) (.t 47)⟩])
 (.seq (.cond (.t 49) .skip (.exit 1))
 (.seq (.block 2 (.seq (.reg [⟨some 50, none, .iaddr 1 (.a 46 8) (.t 48)⟩, ⟨some 51, none, .load false 1 (.a 50 8)⟩, ⟨some 10, none, .asg (.p 51)⟩])
 (.reg [⟨some 52, none, .load true 3 (.t 7)⟩, ⟨some 53, none, .mv (.p 10)⟩, ⟨some 54, none, .faddr 2 (.t 7)⟩, ⟨some 55, none, .load false 1 (.a 54 7)⟩, ⟨some 56, none, .mv (.p 10)⟩, ⟨some 57, none, .iaddr 4 (.a 55 7) (.t 56)⟩, ⟨some 58, none, .faddr 3 (.a 57 7)⟩, ⟨some 59, none, .load false 1 (.a 58 7)⟩, ⟨some 60, none, .calli n_spec_sLose 52 7 [.t 53, .a 59 7]⟩])))
 (.reg [⟨some 61, none, .bin .add (.t 48) (.c (.int .i64 1))⟩, ⟨some 48, none, .mv (.p 61)⟩]))))
/-- spec.aApply -/
def a_spec_aApply : AFn := ⟨3, 63, [.cell 6 3 true], (.seq (.reg [⟨some 3, none, .box (.t 0)⟩, ⟨some 4, none, .box (.t 1)⟩, ⟨some 6, none, .alloc [.int .i64 0, .int .i64 0, .list true 4 []]⟩])
 (.seq (.reg [⟨some 11, none, .load true 3 (.t 3)⟩, ⟨some 12, none, .call n_spec_sOwn [.a 11 3]⟩, ⟨some 7, none, .alloc [.int .i64 0, .int .i64 0, .list true 4 []]⟩, ⟨none, none, .store 3 (.t 7) (.t 12)⟩])
 (.seq (.seq (.reg [⟨some 13, none, .mv (.p 2)⟩, ⟨some 14, none, .bin .eql (.t 13) (.c (.int .i64 2))⟩, ⟨some 15, none, .mv (.p 14)⟩, ⟨some 16, some (15, false), .mv (.p 2)⟩, ⟨some 17, some (15, false), .bin .eql (.t 16) (.c (.int .i64 7))⟩, ⟨some 18, none, .pick (.t 15) (.c (.bool true)) (.t 17)⟩])
 (.cond (.t 18) (.reg [⟨some 19, none, .load true 3 (.t 7)⟩, ⟨some 20, none, .load true 3 (.t 3)⟩, ⟨some 21, none, .faddr 2 (.t 4)⟩, ⟨some 22, none, .load false 1 (.a 21 4)⟩, ⟨some 23, none, .call n_spec_aMost [.a 20 3, .a 22 4]⟩, ⟨some 24, none, .calli n_spec_sLose 19 7 [.t 23, .c (.int .i64 1)]⟩]) .skip))
 (.seq (.seq (.reg [⟨some 25, none, .mv (.p 2)⟩, ⟨some 26, none, .bin .eql (.t 25) (.c (.int .i64 5))⟩, ⟨some 27, none, .mv (.p 26)⟩, ⟨some 28, some (27, false), .mv (.p 2)⟩, ⟨some 29, some (27, false), .bin .eql (.t 28) (.c (.int .i64 7))⟩, ⟨some 30, none, .pick (.t 27) (.c (.bool true)) (.t 29)⟩])
 (.cond (.t 30) (.reg [⟨some 31, none, .load true 3 (.t 7)⟩, ⟨some 32, none, .load true 3 (.t 3)⟩, ⟨some 33, none, .faddr 1 (.t 4)⟩, ⟨some 34, none, .load false 1 (.a 33 4)⟩, ⟨some 35, none, .call n_spec_aMost [.a 32 3, .a 34 4]⟩, ⟨some 36, none, .calli n_spec_sLose 31 7 [.t 35, .c (.int .i64 1)]⟩]) .skip))
 (.seq (.reg [⟨some 8, none, .asg (.c (.list true 1 []))⟩])
 (.seq (.seq (.reg [⟨some 37, none, .mv (.p 2)⟩])
 (.block 0 (.seq (.reg [⟨some 39, none, .bin .eql (.t 37) (.c (.int .i64 3))⟩, ⟨some 38, none, .asg (.p 39)⟩])
 (.cond (.t 38) (.reg [⟨some 40, none, .faddr 2 (.t 4)⟩, ⟨some 41, none, .load false 1 (.a 40 4)⟩, ⟨some 8, none, .asg (.a 41 4)⟩]) (.seq (.reg [⟨some 43, none, .bin .eql (.t 37) (.c (.int .i64 6))⟩, ⟨some 42, none, .asg (.p 43)⟩])
 (.cond (.t 42) (.reg [⟨some 44, none, .faddr 1 (.t 4)⟩, ⟨some 45, none, .load false 1 (.a 44 4)⟩, ⟨some 8, none, .asg (.a 45 4)⟩]) .skip))))))
 (.seq (.seq (.reg [⟨some 46, none, .rf (.t 8)⟩, ⟨some 47, none, .len (.a 46 8)⟩, ⟨some 48, none, .mv (.c (.int .i64 0))⟩])
 (.block 1 (.loop [6, 7, 8, 46, 47, 48] [6, 7] b_spec_aApply_0)))
 (.seq (.reg [⟨some 62, none, .load true 3 (.t 7)⟩, ⟨none, none, .store 3 (.t 6) (.a 62 7)⟩])
 .ret))))))))⟩
def b_spec_sOwner_0 : AC := (.seq (.reg [⟨some 11, none, .bin .lss (.t 10) (.t 9)⟩])
 (.seq (.cond (.t 11) .skip (.exit 0))
 (.seq (.block 1 (.seq (.reg [⟨some 12, none, .iaddr 4 (.a 8 2) (.t 10)⟩, ⟨some 13, none, .load true 4 (.a 12 2)⟩, ⟨some 6, none, .alloc [.int .i64 0, .int .i64 0, .int .i64 0, .int .i64 0]⟩, ⟨none, none, .store 4 (.t 6) (.a 13 2)⟩])
 (.seq (.reg [⟨some 14, none, .faddr 2 (.t 6)⟩, ⟨some 15, none, .load false 1 (.a 14 6)⟩, ⟨some 16, none, .mv (.p 1)⟩, ⟨some 17, none, .bin .eql (.a 15 6) (.t 16)⟩])
 (.cond (.t 17) (.seq (.reg [⟨some 18, none, .faddr 0 (.t 6)⟩, ⟨some 19, none, .load false 1 (.a 18 6)⟩, ⟨some 4, none, .asg (.p 19)⟩])
 .ret) .skip))))
 (.reg [⟨some 20, none, .bin .add (.t 10) (.c (.int .i64 1))⟩, ⟨some 10, none, .mv (.p 20)⟩]))))
/-- spec.sOwner -/
def a_spec_sOwner : AFn := ⟨2, 21, [.tmp 4], (.seq (.reg [⟨some 2, none, .box (.t 0)⟩, ⟨some 4, none, .asg (.c (.int .i64 0))⟩])
 (.seq (.seq (.reg [⟨some 7, none, .faddr 2 (.t 2)⟩, ⟨some 8, none, .load false 1 (.a 7 2)⟩, ⟨some 9, none, .len (.a 8 2)⟩, ⟨some 10, none, .mv (.c (.int .i64 0))⟩])
 (.block 0 (.loop [1, 2, 8, 9, 10] [4] b_spec_sOwner_0)))
 (.seq (.reg [⟨some 4, none, .asg (.c (.int .i64 (-1)))⟩])
 .ret)))⟩
def b_spec_sSteps_0 : AC := (.seq (.reg [⟨some 13, none, .bin .lss (.t 12) (.t 11)⟩])
 (.seq (.cond (.t 13) .skip (.exit 0))
 (.seq (.block 1 (.seq (.reg [⟨some 14, none, .iaddr 1 (.t 10) (.t 12)⟩, ⟨some 15, none, .load false 1 (.a 14 10)⟩, ⟨some 7, none, .asg (.p 15)⟩])
 (.reg [⟨some 16, none, .mv (.p 5)⟩, ⟨some 17, none, .faddr 2 (.t 2)⟩, ⟨some 18, none, .load false 1 (.a 17 2)⟩, ⟨some 19, none, .mv (.p 7)⟩, ⟨some 20, none, .iaddr 4 (.a 18 2) (.t 19)⟩, ⟨some 21, none, .faddr 3 (.a 20 2)⟩, ⟨some 22, none, .load false 1 (.a 21 2)⟩, ⟨some 23, none, .bin .add (.t 16) (.a 22 2)⟩, ⟨some 5, none, .asg (.p 23)⟩])))
 (.reg [⟨some 24, none, .bin .add (.t 12) (.c (.int .i64 1))⟩, ⟨some 12, none, .mv (.p 24)⟩]))))
/-- spec.sSteps -/
def a_spec_sSteps : AFn := ⟨2, 26, [.tmp 4], (.seq (.reg [⟨some 2, none, .box (.t 0)⟩, ⟨some 4, none, .asg (.c (.int .i64 0))⟩])
 (.seq (.reg [⟨some 5, none, .asg (.c (.int .i64 0))⟩])
 (.seq (.seq (.reg [⟨some 8, none, .load true 3 (.t 2)⟩, ⟨some 9, none, .mv (.p 1)⟩, ⟨some 10, none, .call n_spec_sOf [.a 8 2, .t 9]⟩, ⟨some 11, none, .len (.t 10)⟩, ⟨some 12, none, .mv (.c (.int .i64 0))⟩])
 (.block 0 (.loop [2, 5, 10, 11, 12] [4, 5] b_spec_sSteps_0)))
 (.seq (.reg [⟨some 25, none, .mv (.p 5)⟩, ⟨some 4, none, .asg (.p 25)⟩])
 .ret))))⟩
/-- impl.ApplyResult -/
def a_impl_ApplyResult : AFn := ⟨4, 25, [.cell 8 3 true, .tmp 9], (.seq (.reg [⟨some 4, none, .box (.t 0)⟩, ⟨some 5, none, .box (.t 1)⟩, ⟨some 6, none, .box (.t 2)⟩, ⟨some 8, none, .alloc [.int .i64 0, .int .i64 0, .list true 4 []]⟩, ⟨some 9, none, .asg (.c (.bool false))⟩])
 (.seq (.seq (.reg [⟨some 10, none, .load true 12 (.t 4)⟩, ⟨some 11, none, .load true 3 (.t 5)⟩, ⟨some 12, none, .load true 3 (.t 6)⟩, ⟨some 13, none, .call n_impl_hasBattle [.a 10 4, .a 11 5, .a 12 6]⟩, ⟨some 14, none, .un .not (.t 13)⟩, ⟨some 15, none, .mv (.p 14)⟩, ⟨some 16, some (15, false), .mv (.p 3)⟩, ⟨some 17, some (15, false), .call n_impl_isResult [.t 16]⟩, ⟨some 18, some (15, false), .un .not (.t 17)⟩, ⟨some 19, none, .pick (.t 15) (.c (.bool true)) (.t 18)⟩])
 (.cond (.t 19) (.seq (.reg [⟨some 20, none, .build [.int .i64 0, .int .i64 0, .list true 4 []] []⟩, ⟨none, none, .store 3 (.t 8) (.t 20)⟩, ⟨some 9, none, .asg (.c (.bool false))⟩])
 .ret) .skip))
 (.seq (.reg [⟨some 21, none, .load true 3 (.t 5)⟩, ⟨some 22, none, .load true 3 (.t 6)⟩, ⟨some 23, none, .mv (.p 3)⟩, ⟨some 24, none, .call n_impl_applyResult [.a 21 5, .a 22 6, .t 23]⟩, ⟨none, none, .store 3 (.t 8) (.t 24)⟩, ⟨some 9, none, .asg (.c (.bool true))⟩])
 .ret)))⟩
def b_impl_stepsOf_0 : AC := (.seq (.reg [⟨some 11, none, .bin .lss (.t 10) (.t 9)⟩])
 (.seq (.cond (.t 11) .skip (.exit 0))
 (.seq (.block 1 (.seq (.reg [⟨some 12, none, .iaddr 1 (.a 8 1) (.t 10)⟩, ⟨some 13, none, .load false 1 (.a 12 1)⟩, ⟨some 7, none, .asg (.p 13)⟩])
 (.reg [⟨some 14, none, .mv (.p 5)⟩, ⟨some 15, none, .faddr 2 (.t 2)⟩, ⟨some 16, none, .load false 1 (.a 15 2)⟩, ⟨some 17, none, .mv (.p 7)⟩, ⟨some 18, none, .iaddr 4 (.a 16 2) (.t 17)⟩, ⟨some 19, none, .faddr 3 (.a 18 2)⟩, ⟨some 20, none, .load false 1 (.a 19 2)⟩, ⟨some 21, none, .bin .add (.t 14) (.a 20 2)⟩, ⟨some 5, none, .asg (.p 21)⟩])))
 (.reg [⟨some 22, none, .bin .add (.t 10) (.c (.int .i64 1))⟩, ⟨some 10, none, .mv (.p 22)⟩]))))
/-- impl.stepsOf -/
def a_impl_stepsOf : AFn := ⟨2, 24, [.tmp 4], (.seq (.reg [⟨some 2, none, .box (.t 0)⟩, ⟨some 4, none, .asg (.c (.int .i64 0))⟩])
 (.seq (.reg [⟨some 5, none, .asg (.c (.int .i64 0))⟩])
 (.seq (.seq (.reg [⟨some 8, none, .rf (.t 1)⟩, ⟨some 9, none, .len (.a 8 1)⟩, ⟨some 10, none, .mv (.c (.int .i64 0))⟩])
 (.block 0 (.loop [1, 2, 5, 8, 9, 10] [4, 5] b_impl_stepsOf_0)))
 (.seq (.reg [⟨some 23, none, .mv (.p 5)⟩, ⟨some 4, none, .asg (.p 23)⟩])
 .ret))))⟩
def b_laws_szOrderS_0 : AC := (.seq (.seq (.reg [⟨some 12, none, .mv (.p 5)⟩, ⟨some 13, none, .rf (.t 0)⟩, ⟨some 14, none, .len (.a 13 0)⟩, ⟨some 15, none, .bin .lss (.t 12) (.t 14)⟩])
 (.cond (.t 15) .skip (.exit 0)))
 (.seq (.block 1 (.seq (.reg [⟨some 18, none, .rf (.t 0)⟩, ⟨some 19, none, .mv (.p 5)⟩, ⟨some 20, none, .iaddr 3 (.a 18 0) (.t 19)⟩, ⟨some 21, none, .load true 3 (.a 20 0)⟩, ⟨some 22, none, .mv (.p 1)⟩, ⟨some 23, none, .call n_laws_szOrder [.a 21 0, .t 22]⟩, ⟨some 1, none, .asg (.p 23)⟩])
 (.seq (.reg [⟨some 24, none, .mv (.p 1)⟩, ⟨some 25, none, .bin .lss (.t 24) (.c (.int .i64 0))⟩])
 (.cond (.t 25) (.seq (.reg [⟨some 4, none, .asg (.c (.int .i64 (-1)))⟩])
 .ret) .skip))))
 (.reg [⟨some 16, none, .mv (.p 5)⟩, ⟨some 17, none, .bin .add (.t 16) (.c (.int .i64 1))⟩, ⟨some 5, none, .asg (.p 17)⟩])))
/-- laws.szOrderS -/
def a_laws_szOrderS : AFn := ⟨2, 27, [.tmp 4], (.seq (.reg [⟨some 4, none, .asg (.c (.int .i64 0))⟩])
 (.seq (.reg [⟨some 6, none, .mv (.p 1)⟩, ⟨some 7, none, .rf (.t 0)⟩, ⟨some 8, none, .len (.a 7 0)⟩, ⟨some 9, none, .bin .sub (.t 6) (.t 8)⟩, ⟨some 1, none, .asg (.p 9)⟩])
 (.seq (.seq (.reg [⟨some 10, none, .mv (.p 1)⟩, ⟨some 11, none, .bin .lss (.t 10) (.c (.int .i64 0))⟩])
 (.cond (.t 11) (.seq (.reg [⟨some 4, none, .asg (.c (.int .i64 (-1)))⟩])
 .ret) .skip))
 (.seq (.seq (.reg [⟨some 5, none, .asg (.c (.int .i64 0))⟩])
 (.block 0 (.loop [0, 1, 5] [1, 4] b_laws_szOrderS_0)))
 (.seq (.reg [⟨some 26, none, .mv (.p 1)⟩, ⟨some 4, none, .asg (.p 26)⟩])
 .ret)))))⟩
/-- spec.oForm -/
def a_spec_oForm : AFn := ⟨1, 12, [.tmp 2], (.seq (.reg [⟨some 1, none, .box (.t 0)⟩, ⟨some 2, none, .asg (.c (.bool false))⟩])
 (.seq (.reg [⟨some 3, none, .faddr 0 (.t 1)⟩, ⟨some 4, none, .load false 1 (.a 3 1)⟩, ⟨some 5, none, .call n_spec_l1In [.a 4 1, .c (.int .i64 0), .c (.int .i64 1)]⟩, ⟨some 6, none, .mv (.p 5)⟩, ⟨some 7, some (6, true), .faddr 1 (.t 1)⟩, ⟨some 8, some (6, true), .load false 1 (.a 7 1)⟩, ⟨some 9, some (6, true), .len (.a 8 1)⟩, ⟨some 10, some (6, true), .bin .leq (.t 9) (.c (.int .i64 12))⟩, ⟨some 11, none, .pick (.t 6) (.t 10) (.c (.bool false))⟩, ⟨some 2, none, .asg (.p 11)⟩])
 .ret))⟩
def b_spec_oFirst_0 : AC := (.seq (.reg [⟨some 15, none, .bin .lss (.t 14) (.t 13)⟩])
 (.seq (.cond (.t 15) .skip (.exit 0))
 (.seq (.block 1 (.seq (.reg [⟨some 16, none, .mv (.p 14)⟩, ⟨some 17, none, .iaddr 3 (.a 12 5) (.t 14)⟩, ⟨some 18, none, .load true 3 (.a 17 5)⟩, ⟨some 9, none, .alloc [.int .i64 0, .list true 1 [], .int .i64 0]⟩, ⟨some 8, none, .asg (.p 16)⟩, ⟨none, none, .store 3 (.t 9) (.a 18 5)⟩])
 (.seq (.seq (.reg [⟨some 19, none, .load true 3 (.t 4)⟩, ⟨some 20, none, .faddr 0 (.t 5)⟩, ⟨some 21, none, .load false 1 (.a 20 5)⟩, ⟨some 22, none, .faddr 0 (.t 9)⟩, ⟨some 23, none, .load false 1 (.a 22 9)⟩, ⟨some 24, none, .call n_spec_oPlaced [.a 19 4, .a 21 5, .a 23 9]⟩, ⟨some 25, none, .mv (.p 24)⟩, ⟨some 26, some (25, true), .mv (.p 8)⟩, ⟨some 27, some (25, true), .bin .gtr (.t 26) (.c (.int .i64 0))⟩, ⟨some 28, none, .pick (.t 25) (.t 27) (.c (.bool false))⟩, ⟨some 29, none, .mv (.p 28)⟩, ⟨some 30, some (29, true), .faddr 1 (.t 5)⟩, ⟨some 31, some (29, true), .load false 1 (.a 30 5)⟩, ⟨some 32, some (29, true), .mv (.p 8)⟩, ⟨some 33, some (29, true), .bin .sub (.t 32) (.c (.int .i64 1))⟩, ⟨some 34, some (29, true), .iaddr 3 (.a 31 5) (.t 33)⟩, ⟨some 35, some (29, true), .faddr 0 (.a 34 5)⟩, ⟨some 36, some (29, true), .load false 1 (.a 35 5)⟩, ⟨some 37, some (29, true), .faddr 0 (.t 9)⟩, ⟨some 38, some (29, true), .load false 1 (.a 37 9)⟩, ⟨some 39, some (29, true), .bin .geq (.a 36 5) (.a 38 9)⟩, ⟨some 40, none, .pick (.t 29) (.t 39) (.c (.bool false))⟩])
 (.cond (.t 40) (.seq (.reg [⟨some 41, none, .mv (.p 8)⟩, ⟨some 6, none, .asg (.p 41)⟩, ⟨some 7, none, .asg (.c (.int .i64 2))⟩])
 .ret) .skip))
 (.seq (.reg [⟨some 42, none, .load true 12 (.t 3)⟩, ⟨some 43, none, .load true 3 (.t 4)⟩, ⟨some 44, none, .faddr 0 (.t 5)⟩, ⟨some 45, none, .load false 1 (.a 44 5)⟩, ⟨some 46, none, .load true 3 (.t 9)⟩, ⟨some 47, none, .call n_spec_oFault [.a 42 3, .a 43 4, .a 45 5, .a 46 9]⟩, ⟨some 10, none, .asg (.p 47)⟩])
 (.seq (.reg [⟨some 48, none, .mv (.p 10)⟩, ⟨some 49, none, .bin .neq (.t 48) (.c (.int .i64 0))⟩])
 (.cond (.t 49) (.seq (.reg [⟨some 50, none, .mv (.p 8)⟩, ⟨some 51, none, .mv (.p 10)⟩, ⟨some 6, none, .asg (.p 50)⟩, ⟨some 7, none, .asg (.p 51)⟩])
 .ret) .skip))))))
 (.reg [⟨some 52, none, .bin .add (.t 14) (.c (.int .i64 1))⟩, ⟨some 14, none, .mv (.p 52)⟩]))))
/-- spec.oFirst -/
def a_spec_oFirst : AFn := ⟨3, 56, [.tmp 6, .tmp 7], (.seq (.reg [⟨some 3, none, .box (.t 0)⟩, ⟨some 4, none, .box (.t 1)⟩, ⟨some 5, none, .box (.t 2)⟩, ⟨some 6, none, .asg (.c (.int .i64 0))⟩, ⟨some 7, none, .asg (.c (.int .i64 0))⟩])
 (.seq (.seq (.reg [⟨some 11, none, .faddr 1 (.t 5)⟩, ⟨some 12, none, .load false 1 (.a 11 5)⟩, ⟨some 13, none, .len (.a 12 5)⟩, ⟨some 14, none, .mv (.c (.int .i64 0))⟩])
 (.block 0 (.loop [3, 4, 5, 12, 13, 14] [5, 6, 7] b_spec_oFirst_0)))
 (.seq (.reg [⟨some 53, none, .faddr 1 (.t 5)⟩, ⟨some 54, none, .load false 1 (.a 53 5)⟩, ⟨some 55, none, .len (.a 54 5)⟩, ⟨some 6, none, .asg (.p 55)⟩, ⟨some 7, none, .asg (.c (.int .i64 0))⟩])
 .ret)))⟩
def b_laws_toOrderS_0 : AC := (.seq (.seq (.reg [⟨some 8, none, .mv (.p 4)⟩, ⟨some 9, none, .rf (.t 0)⟩, ⟨some 10, none, .len (.a 9 0)⟩, ⟨some 11, none, .bin .lss (.t 8) (.t 10)⟩])
 (.cond (.t 11) .skip (.exit 0)))
 (.seq (.block 1 (.reg [⟨some 14, none, .rf (.t 3)⟩, ⟨some 15, none, .mv (.p 4)⟩, ⟨some 16, none, .rf (.t 0)⟩, ⟨some 17, none, .mv (.p 4)⟩, ⟨some 18, none, .iaddr 3 (.a 16 0) (.t 17)⟩, ⟨some 19, none, .load true 3 (.a 18 0)⟩, ⟨some 20, none, .call n_laws_toOrder [.a 19 0]⟩, ⟨some 21, none, .iaddr 3 (.a 14 3) (.t 15)⟩, ⟨none, none, .store 3 (.a 21 3) (.t 20)⟩]))
 (.reg [⟨some 12, none, .mv (.p 4)⟩, ⟨some 13, none, .bin .add (.t 12) (.c (.int .i64 1))⟩, ⟨some 4, none, .asg (.p 13)⟩])))
/-- laws.toOrderS -/
def a_laws_toOrderS : AFn := ⟨1, 23, [.tmp 2], (.seq (.reg [⟨some 2, none, .asg (.c (.list true 3 []))⟩])
 (.seq (.reg [⟨some 5, none, .rf (.t 0)⟩, ⟨some 6, none, .len (.a 5 0)⟩, ⟨some 7, none, .mslice 3 [.int .i64 0, .list true 1 [], .int .i64 0] (.t 6)⟩, ⟨some 3, none, .asg (.t 7)⟩])
 (.seq (.seq (.reg [⟨some 4, none, .asg (.c (.int .i64 0))⟩])
 (.block 0 (.loop [0, 3, 4] [2, 3] b_laws_toOrderS_0)))
 (.seq (.reg [⟨some 22, none, .rf (.t 3)⟩, ⟨some 2, none, .asg (.a 22 3)⟩])
 .ret))))⟩
def b_impl_sheetFault_0 : AC := (.seq (.reg [⟨some 15, none, .bin .lss (.t 14) (.t 13)⟩])
 (.seq (.cond (.t 15) .skip (.exit 0))
 (.seq (.block 1 (.seq (.reg [⟨some 16, none, .mv (.p 14)⟩, ⟨some 17, none, .iaddr 3 (.a 12 5) (.t 14)⟩, ⟨some 18, none, .load true 3 (.a 17 5)⟩, ⟨some 9, none, .alloc [.int .i64 0, .list true 1 [], .int .i64 0]⟩, ⟨some 8, none, .asg (.p 16)⟩, ⟨none, none, .store 3 (.t 9) (.a 18 5)⟩])
 (.seq (.reg [⟨some 19, none, .load true 12 (.t 3)⟩, ⟨some 20, none, .load true 3 (.t 4)⟩, ⟨some 21, none, .faddr 0 (.t 5)⟩, ⟨some 22, none, .load false 1 (.a 21 5)⟩, ⟨some 23, none, .load true 3 (.t 9)⟩, ⟨some 24, none, .call n_impl_orderFault [.a 19 3, .a 20 4, .a 22 5, .a 23 9]⟩, ⟨some 10, none, .asg (.p 24)⟩])
 (.seq (.seq (.reg [⟨some 25, none, .mv (.p 10)⟩, ⟨some 26, none, .bin .neq (.t 25) (.c (.int .i64 1))⟩, ⟨some 27, none, .mv (.p 26)⟩, ⟨some 28, some (27, true), .mv (.p 8)⟩, ⟨some 29, some (27, true), .bin .gtr (.t 28) (.c (.int .i64 0))⟩, ⟨some 30, none, .pick (.t 27) (.t 29) (.c (.bool false))⟩, ⟨some 31, none, .mv (.p 30)⟩, ⟨some 32, some (31, true), .faddr 0 (.t 9)⟩, ⟨some 33, some (31, true), .load false 1 (.a 32 9)⟩, ⟨some 34, some (31, true), .faddr 1 (.t 5)⟩, ⟨some 35, some (31, true), .load false 1 (.a 34 5)⟩, ⟨some 36, some (31, true), .mv (.p 8)⟩, ⟨some 37, some (31, true), .bin .sub (.t 36) (.c (.int .i64 1))⟩, ⟨some 38, some (31, true), .iaddr 3 (.a 35 5) (.t 37)⟩, ⟨some 39, some (31, true), .faddr 0 (.a 38 5)⟩, ⟨some 40, some (31, true), .load false 1 (.a 39 5)⟩, ⟨some 41, some (31, true), .bin .leq (.a 33 9) (.a 40 5)⟩, ⟨some 42, none, .pick (.t 31) (.t 41) (.c (.bool false))⟩])
 (.cond (.t 42) (.reg [⟨some 10, none, .asg (.c (.int .i64 2))⟩]) .skip))
 (.seq (.reg [⟨some 43, none, .mv (.p 10)⟩, ⟨some 44, none, .bin .neq (.t 43) (.c (.int .i64 0))⟩])
 (.cond (.t 44) (.seq (.reg [⟨some 45, none, .mv (.p 8)⟩, ⟨some 46, none, .mv (.p 10)⟩, ⟨some 6, none, .asg (.p 45)⟩, ⟨some 7, none, .asg (.p 46)⟩])
 .ret) .skip))))))
 (.reg [⟨some 47, none, .bin .add (.t 14) (.c (.int .i64 1))⟩, ⟨some 14, none, .mv (.p 47)⟩]))))
/-- impl.sheetFault -/
def a_impl_sheetFault : AFn := ⟨3, 51, [.tmp 6, .tmp 7], (.seq (.reg [⟨some 3, none, .box (.t 0)⟩, ⟨some 4, none, .box (.t 1)⟩, ⟨some 5, none, .box (.t 2)⟩, ⟨some 6, none, .asg (.c (.int .i64 0))⟩, ⟨some 7, none, .asg (.c (.int .i64 0))⟩])
 (.seq (.seq (.reg [⟨some 11, none, .faddr 1 (.t 5)⟩, ⟨some 12, none, .load false 1 (.a 11 5)⟩, ⟨some 13, none, .len (.a 12 5)⟩, ⟨some 14, none, .mv (.c (.int .i64 0))⟩])
 (.block 0 (.loop [3, 4, 5, 12, 13, 14] [5, 6, 7] b_impl_sheetFault_0)))
 (.seq (.reg [⟨some 48, none, .faddr 1 (.t 5)⟩, ⟨some 49, none, .load false 1 (.a 48 5)⟩, ⟨some 50, none, .len (.a 49 5)⟩, ⟨some 6, none, .asg (.p 50)⟩, ⟨some 7, none, .asg (.c (.int .i64 0))⟩])
 .ret)))⟩
def b_laws_eqOrderS_0 : AC := (.seq (.seq (.reg [⟨some 11, none, .mv (.p 5)⟩, ⟨some 12, none, .rf (.t 0)⟩, ⟨some 13, none, .len (.a 12 0)⟩, ⟨some 14, none, .bin .lss (.t 11) (.t 13)⟩])
 (.cond (.t 14) .skip (.exit 0)))
 (.seq (.block 1 (.seq (.reg [⟨some 17, none, .rf (.t 0)⟩, ⟨some 18, none, .mv (.p 5)⟩, ⟨some 19, none, .iaddr 3 (.a 17 0) (.t 18)⟩, ⟨some 20, none, .load true 3 (.a 19 0)⟩, ⟨some 21, none, .rf (.t 1)⟩, ⟨some 22, none, .mv (.p 5)⟩, ⟨some 23, none, .iaddr 3 (.a 21 1) (.t 22)⟩, ⟨some 24, none, .load true 3 (.a 23 1)⟩, ⟨some 25, none, .call n_laws_eqOrder [.a 20 0, .a 24 1]⟩, ⟨some 26, none, .un .not (.t 25)⟩])
 (.cond (.t 26) (.seq (.reg [⟨some 4, none, .asg (.c (.bool false))⟩])
 .ret) .skip)))
 (.reg [⟨some 15, none, .mv (.p 5)⟩, ⟨some 16, none, .bin .add (.t 15) (.c (.int .i64 1))⟩, ⟨some 5, none, .asg (.p 16)⟩])))
/-- laws.eqOrderS -/
def a_laws_eqOrderS : AFn := ⟨2, 27, [.tmp 4], (.seq (.reg [⟨some 4, none, .asg (.c (.bool false))⟩])
 (.seq (.seq (.reg [⟨some 6, none, .rf (.t 0)⟩, ⟨some 7, none, .len (.a 6 0)⟩, ⟨some 8, none, .rf (.t 1)⟩, ⟨some 9, none, .len (.a 8 1)⟩, ⟨some 10, none, .bin .neq (.t 7) (.t 9)⟩])
 (.cond (.t 10) (.seq (.reg [⟨some 4, none, .asg (.c (.bool false))⟩])
 .ret) .skip))
 (.seq (.seq (.reg [⟨some 5, none, .asg (.c (.int .i64 0))⟩])
 (.block 0 (.loop [0, 1, 5] [4] b_laws_eqOrderS_0)))
 (.seq (.reg [⟨some 4, none, .asg (.c (.bool true))⟩])
 .ret))))⟩
/-- spec.oGood -/
def a_spec_oGood : AFn := ⟨3, 27, [.tmp 6], (.seq (.reg [⟨some 3, none, .box (.t 0)⟩, ⟨some 4, none, .box (.t 1)⟩, ⟨some 5, none, .box (.t 2)⟩, ⟨some 6, none, .asg (.c (.bool false))⟩])
 (.seq (.seq (.reg [⟨some 9, none, .load true 12 (.t 3)⟩, ⟨some 10, none, .load true 3 (.t 4)⟩, ⟨some 11, none, .call n_spec_sGood [.a 9 3, .a 10 4]⟩, ⟨some 12, none, .un .not (.t 11)⟩, ⟨some 13, none, .mv (.p 12)⟩, ⟨some 14, some (13, false), .load true 2 (.t 5)⟩, ⟨some 15, some (13, false), .call n_spec_oForm [.a 14 5]⟩, ⟨some 16, some (13, false), .un .not (.t 15)⟩, ⟨some 17, none, .pick (.t 13) (.c (.bool true)) (.t 16)⟩])
 (.cond (.t 17) (.seq (.reg [⟨some 6, none, .asg (.c (.bool false))⟩])
 .ret) .skip))
 (.seq (.reg [⟨some 19, none, .load true 12 (.t 3)⟩, ⟨some 20, none, .load true 3 (.t 4)⟩, ⟨some 21, none, .load true 2 (.t 5)⟩, ⟨some 22, none, .call n_spec_oFirst [.a 19 3, .a 20 4, .a 21 5]⟩, ⟨some 18, none, .mv (.t 22)⟩, ⟨some 23, none, .extract (.p 18) 0⟩, ⟨some 24, none, .extract (.p 18) 1⟩, ⟨some 7, none, .asg (.p 23)⟩, ⟨some 8, none, .asg (.p 24)⟩])
 (.seq (.reg [⟨some 25, none, .mv (.p 8)⟩, ⟨some 26, none, .bin .eql (.t 25) (.c (.int .i64 0))⟩, ⟨some 6, none, .asg (.p 26)⟩])
 .ret))))⟩
/-- impl.goodSheet -/
def a_impl_goodSheet : AFn := ⟨3, 28, [.tmp 6], (.seq (.reg [⟨some 3, none, .box (.t 0)⟩, ⟨some 4, none, .box (.t 1)⟩, ⟨some 5, none, .box (.t 2)⟩, ⟨some 6, none, .asg (.c (.bool false))⟩])
 (.seq (.seq (.reg [⟨some 9, none, .faddr 0 (.t 5)⟩, ⟨some 10, none, .load false 1 (.a 9 5)⟩, ⟨some 11, none, .call n_impl_isSide [.a 10 5]⟩, ⟨some 12, none, .un .not (.t 11)⟩, ⟨some 13, none, .mv (.p 12)⟩, ⟨some 14, some (13, false), .faddr 1 (.t 5)⟩, ⟨some 15, some (13, false), .load false 1 (.a 14 5)⟩, ⟨some 16, some (13, false), .len (.a 15 5)⟩, ⟨some 17, some (13, false), .bin .gtr (.t 16) (.c (.int .i64 12))⟩, ⟨some 18, none, .pick (.t 13) (.c (.bool true)) (.t 17)⟩])
 (.cond (.t 18) (.seq (.reg [⟨some 6, none, .asg (.c (.bool false))⟩])
 .ret) .skip))
 (.seq (.reg [⟨some 20, none, .load true 12 (.t 3)⟩, ⟨some 21, none, .load true 3 (.t 4)⟩, ⟨some 22, none, .load true 2 (.t 5)⟩, ⟨some 23, none, .call n_impl_sheetFault [.a 20 3, .a 21 4, .a 22 5]⟩, ⟨some 19, none, .mv (.t 23)⟩, ⟨some 24, none, .extract (.p 19) 0⟩, ⟨some 25, none, .extract (.p 19) 1⟩, ⟨some 7, none, .asg (.p 24)⟩, ⟨some 8, none, .asg (.p 25)⟩])
 (.seq (.reg [⟨some 26, none, .mv (.p 8)⟩, ⟨some 27, none, .bin .eql (.t 26) (.c (.int .i64 0))⟩, ⟨some 6, none, .asg (.p 27)⟩])
 .ret))))⟩
/-- laws.szOddsS -/
def a_laws_szOddsS : AFn := ⟨2, 12, [.tmp 4], (.seq (.reg [⟨some 4, none, .asg (.c (.int .i64 0))⟩])
 (.seq (.reg [⟨some 5, none, .mv (.p 1)⟩, ⟨some 6, none, .rf (.t 0)⟩, ⟨some 7, none, .len (.a 6 0)⟩, ⟨some 8, none, .bin .sub (.t 5) (.t 7)⟩, ⟨some 1, none, .asg (.p 8)⟩])
 (.seq (.seq (.reg [⟨some 9, none, .mv (.p 1)⟩, ⟨some 10, none, .bin .lss (.t 9) (.c (.int .i64 0))⟩])
 (.cond (.t 10) (.seq (.reg [⟨some 4, none, .asg (.c (.int .i64 (-1)))⟩])
 .ret) .skip))
 (.seq (.reg [⟨some 11, none, .mv (.p 1)⟩, ⟨some 4, none, .asg (.p 11)⟩])
 .ret))))⟩
def b_laws_szIntSS_0 : AC := (.seq (.seq (.reg [⟨some 12, none, .mv (.p 5)⟩, ⟨some 13, none, .rf (.t 0)⟩, ⟨some 14, none, .len (.a 13 0)⟩, ⟨some 15, none, .bin .lss (.t 12) (.t 14)⟩])
 (.cond (.t 15) .skip (.exit 0)))
 (.seq (.block 1 (.seq (.reg [⟨some 18, none, .rf (.t 0)⟩, ⟨some 19, none, .mv (.p 5)⟩, ⟨some 20, none, .iaddr 1 (.a 18 0) (.t 19)⟩, ⟨some 21, none, .load false 1 (.a 20 0)⟩, ⟨some 22, none, .mv (.p 1)⟩, ⟨some 23, none, .call n_laws_szIntS [.a 21 0, .t 22]⟩, ⟨some 1, none, .asg (.p 23)⟩])
 (.seq (.reg [⟨some 24, none, .mv (.p 1)⟩, ⟨some 25, none, .bin .lss (.t 24) (.c (.int .i64 0))⟩])
 (.cond (.t 25) (.seq (.reg [⟨some 4, none, .asg (.c (.int .i64 (-1)))⟩])
 .ret) .skip))))
 (.reg [⟨some 16, none, .mv (.p 5)⟩, ⟨some 17, none, .bin .add (.t 16) (.c (.int .i64 1))⟩, ⟨some 5, none, .asg (.p 17)⟩])))
/-- laws.szIntSS -/
def a_laws_szIntSS : AFn := ⟨2, 27, [.tmp 4], (.seq (.reg [⟨some 4, none, .asg (.c (.int .i64 0))⟩])
 (.seq (.reg [⟨some 6, none, .mv (.p 1)⟩, ⟨some 7, none, .rf (.t 0)⟩, ⟨some 8, none, .len (.a 7 0)⟩, ⟨some 9, none, .bin .sub (.t 6) (.t 8)⟩, ⟨some 1, none, .asg (.p 9)⟩])
 (.seq (.seq (.reg [⟨some 10, none, .mv (.p 1)⟩, ⟨some 11, none, .bin .lss (.t 10) (.c (.int .i64 0))⟩])
 (.cond (.t 11) (.seq (.reg [⟨some 4, none, .asg (.c (.int .i64 (-1)))⟩])
 .ret) .skip))
 (.seq (.seq (.reg [⟨some 5, none, .asg (.c (.int .i64 0))⟩])
 (.block 0 (.loop [0, 1, 5] [1, 4] b_laws_szIntSS_0)))
 (.seq (.reg [⟨some 26, none, .mv (.p 1)⟩, ⟨some 4, none, .asg (.p 26)⟩])
 .ret)))))⟩
def b_spec_kGood_0 : AC := (.seq (.reg [⟨some 31, none, .bin .lss (.t 30) (.t 29)⟩])
 (.seq (.cond (.t 31) .skip (.exit 0))
 (.seq (.block 1 (.seq (.reg [⟨some 32, none, .mv (.p 30)⟩, ⟨some 33, none, .iaddr 2 (.a 28 1) (.t 30)⟩, ⟨some 34, none, .load true 2 (.a 33 1)⟩, ⟨some 4, none, .alloc [.int .i64 0, .int .i64 0]⟩, ⟨some 3, none, .asg (.p 32)⟩, ⟨none, none, .store 2 (.t 4) (.a 34 1)⟩])
 (.seq (.seq (.reg [⟨some 35, none, .faddr 0 (.t 4)⟩, ⟨some 36, none, .load false 1 (.a 35 4)⟩, ⟨some 37, none, .call n_spec_l1In [.a 36 4, .c (.int .i64 1), .c (.int .i64 20)]⟩, ⟨some 38, none, .un .not (.t 37)⟩, ⟨some 39, none, .mv (.p 38)⟩, ⟨some 40, some (39, false), .faddr 1 (.t 4)⟩, ⟨some 41, some (39, false), .load false 1 (.a 40 4)⟩, ⟨some 42, some (39, false), .call n_spec_l1In [.a 41 4, .c (.int .i64 1), .c (.int .i64 20)]⟩, ⟨some 43, some (39, false), .un .not (.t 42)⟩, ⟨some 44, none, .pick (.t 39) (.c (.bool true)) (.t 43)⟩])
 (.cond (.t 44) (.seq (.reg [⟨some 2, none, .asg (.c (.bool false))⟩])
 .ret) .skip))
 (.seq (.reg [⟨some 45, none, .mv (.p 3)⟩, ⟨some 46, none, .bin .gtr (.t 45) (.c (.int .i64 0))⟩, ⟨some 47, none, .mv (.p 46)⟩, ⟨some 48, some (47, true), .faddr 0 (.t 1)⟩, ⟨some 49, some (47, true), .load false 1 (.a 48 1)⟩, ⟨some 50, some (47, true), .mv (.p 3)⟩, ⟨some 51, some (47, true), .bin .sub (.t 50) (.c (.int .i64 1))⟩, ⟨some 52, some (47, true), .iaddr 2 (.a 49 1) (.t 51)⟩, ⟨some 53, some (47, true), .faddr 0 (.a 52 1)⟩, ⟨some 54, some (47, true), .load false 1 (.a 53 1)⟩, ⟨some 55, some (47, true), .faddr 1 (.t 4)⟩, ⟨some 56, some (47, true), .load false 1 (.a 55 4)⟩, ⟨some 57, some (47, true), .bin .mul (.a 54 1) (.a 56 4)⟩, ⟨some 58, some (47, true), .faddr 0 (.t 4)⟩, ⟨some 59, some (47, true), .load false 1 (.a 58 4)⟩, ⟨some 60, some (47, true), .faddr 0 (.t 1)⟩, ⟨some 61, some (47, true), .load false 1 (.a 60 1)⟩, ⟨some 62, some (47, true), .mv (.p 3)⟩, ⟨some 63, some (47, true), .bin .sub (.t 62) (.c (.int .i64 1))⟩, ⟨some 64, some (47, true), .iaddr 2 (.a 61 1) (.t 63)⟩, ⟨some 65, some (47, true), .faddr 1 (.a 64 1)⟩, ⟨some 66, some (47, true), .load false 1 (.a 65 1)⟩, ⟨some 67, some (47, true), .bin .mul (.a 59 4) (.a 66 1)⟩, ⟨some 68, some (47, true), .bin .geq (.t 57) (.t 67)⟩, ⟨some 69, none, .pick (.t 47) (.t 68) (.c (.bool false))⟩])
 (.cond (.t 69) (.seq (.reg [⟨some 2, none, .asg (.c (.bool false))⟩])
 .ret) .skip)))))
 (.reg [⟨some 70, none, .bin .add (.t 30) (.c (.int .i64 1))⟩, ⟨some 30, none, .mv (.p 70)⟩]))))
def b_spec_kGood_1 : AC := (.seq (.reg [⟨some 75, none, .bin .lss (.t 74) (.t 73)⟩])
 (.seq (.cond (.t 75) .skip (.exit 2))
 (.seq (.block 3 (.seq (.reg [⟨some 76, none, .iaddr 1 (.a 72 1) (.t 74)⟩, ⟨some 77, none, .load false 1 (.a 76 1)⟩, ⟨some 6, none, .asg (.a 77 1)⟩])
 (.seq (.reg [⟨some 78, none, .rf (.t 6)⟩, ⟨some 79, none, .len (.a 78 6)⟩, ⟨some 80, none, .faddr 0 (.t 1)⟩, ⟨some 81, none, .load false 1 (.a 80 1)⟩, ⟨some 82, none, .len (.a 81 1)⟩, ⟨some 83, none, .bin .neq (.t 79) (.t 82)⟩, ⟨some 84, none, .mv (.p 83)⟩, ⟨some 85, some (84, false), .rf (.t 6)⟩, ⟨some 86, some (84, false), .call n_spec_l1All [.a 85 6, .c (.int .i64 0), .c (.int .i64 7)]⟩, ⟨some 87, some (84, false), .un .not (.t 86)⟩, ⟨some 88, none, .pick (.t 84) (.c (.bool true)) (.t 87)⟩])
 (.cond (.t 88) (.seq (.reg [⟨some 2, none, .asg (.c (.bool false))⟩])
 .ret) .skip))))
 (.reg [⟨some 89, none, .bin .add (.t 74) (.c (.int .i64 1))⟩, ⟨some 74, none, .mv (.p 89)⟩]))))
/-- spec.kGood -/
def a_spec_kGood : AFn := ⟨1, 90, [.tmp 2], (.seq (.reg [⟨some 1, none, .box (.t 0)⟩, ⟨some 2, none, .asg (.c (.bool false))⟩])
 (.seq (.seq (.reg [⟨some 7, none, .faddr 0 (.t 1)⟩, ⟨some 8, none, .load false 1 (.a 7 1)⟩, ⟨some 9, none, .len (.a 8 1)⟩, ⟨some 10, none, .call n_spec_l1In [.t 9, .c (.int .i64 1), .c (.int .i64 8)]⟩, ⟨some 11, none, .un .not (.t 10)⟩, ⟨some 12, none, .mv (.p 11)⟩, ⟨some 13, some (12, false), .faddr 1 (.t 1)⟩, ⟨some 14, some (12, false), .load false 1 (.a 13 1)⟩, ⟨some 15, some (12, false), .call n_spec_l1In [.a 14 1, .c (.int .i64 1), .c (.int .i64 2)]⟩, ⟨some 16, some (12, false), .un .not (.t 15)⟩, ⟨some 17, none, .pick (.t 12) (.c (.bool true)) (.t 16)⟩, ⟨some 18, none, .mv (.p 17)⟩, ⟨some 19, some (18, false), .faddr 2 (.t 1)⟩, ⟨some 20, some (18, false), .load false 1 (.a 19 1)⟩, ⟨some 21, some (18, false), .len (.a 20 1)⟩, ⟨some 22, some (18, false), .faddr 1 (.t 1)⟩, ⟨some 23, some (18, false), .load false 1 (.a 22 1)⟩, ⟨some 24, some (18, false), .call n_spec_kRows [.a 23 1]⟩, ⟨some 25, some (18, false), .bin .neq (.t 21) (.t 24)⟩, ⟨some 26, none, .pick (.t 18) (.c (.bool true)) (.t 25)⟩])
 (.cond (.t 26) (.seq (.reg [⟨some 2, none, .asg (.c (.bool false))⟩])
 .ret) .skip))
 (.seq (.seq (.reg [⟨some 27, none, .faddr 0 (.t 1)⟩, ⟨some 28, none, .load false 1 (.a 27 1)⟩, ⟨some 29, none, .len (.a 28 1)⟩, ⟨some 30, none, .mv (.c (.int .i64 0))⟩])
 (.block 0 (.loop [1, 28, 29, 30] [1, 2] b_spec_kGood_0)))
 (.seq (.seq (.reg [⟨some 71, none, .faddr 2 (.t 1)⟩, ⟨some 72, none, .load false 1 (.a 71 1)⟩, ⟨some 73, none, .len (.a 72 1)⟩, ⟨some 74, none, .mv (.c (.int .i64 0))⟩])
 (.block 2 (.loop [1, 72, 73, 74] [2] b_spec_kGood_1)))
 (.seq (.reg [⟨some 2, none, .asg (.c (.bool true))⟩])
 .ret)))))⟩
def b_spec_aGood_0 : AC := (.seq (.reg [⟨some 47, none, .bin .lss (.t 46) (.t 45)⟩])
 (.seq (.cond (.t 47) .skip (.exit 0))
 (.seq (.block 1 (.seq (.reg [⟨some 48, none, .iaddr 1 (.a 44 5) (.t 46)⟩, ⟨some 49, none, .load false 1 (.a 48 5)⟩, ⟨some 9, none, .asg (.p 49)⟩])
 (.seq (.reg [⟨some 50, none, .faddr 2 (.t 4)⟩, ⟨some 51, none, .load false 1 (.a 50 4)⟩, ⟨some 52, none, .mv (.p 9)⟩, ⟨some 53, none, .iaddr 4 (.a 51 4) (.t 52)⟩, ⟨some 54, none, .faddr 0 (.a 53 4)⟩, ⟨some 55, none, .load false 1 (.a 54 4)⟩, ⟨some 56, none, .mv (.p 7)⟩, ⟨some 57, none, .bin .eql (.a 55 4) (.t 56)⟩, ⟨some 58, none, .mv (.p 57)⟩, ⟨some 59, some (58, false), .load true 12 (.t 3)⟩, ⟨some 60, some (58, false), .load true 3 (.t 4)⟩, ⟨some 61, some (58, false), .faddr 0 (.t 5)⟩, ⟨some 62, some (58, false), .load false 1 (.a 61 5)⟩, ⟨some 63, some (58, false), .mv (.p 9)⟩, ⟨some 64, some (58, false), .call n_spec_aSide [.a 59 3, .a 60 4, .a 62 5, .t 63]⟩, ⟨some 65, some (58, false), .bin .lss (.t 64) (.c (.int .i64 0))⟩, ⟨some 66, none, .pick (.t 58) (.c (.bool true)) (.t 65)⟩])
 (.cond (.t 66) (.seq (.reg [⟨some 6, none, .asg (.c (.bool false))⟩])
 .ret) .skip))))
 (.reg [⟨some 67, none, .bin .add (.t 46) (.c (.int .i64 1))⟩, ⟨some 46, none, .mv (.p 67)⟩]))))
/-- spec.aGood -/
def a_spec_aGood : AFn := ⟨3, 76, [.tmp 6], (.seq (.reg [⟨some 3, none, .box (.t 0)⟩, ⟨some 4, none, .box (.t 1)⟩, ⟨some 5, none, .box (.t 2)⟩, ⟨some 6, none, .asg (.c (.bool false))⟩])
 (.seq (.seq (.reg [⟨some 10, none, .load true 12 (.t 3)⟩, ⟨some 11, none, .load true 3 (.t 4)⟩, ⟨some 12, none, .faddr 0 (.t 5)⟩, ⟨some 13, none, .load false 1 (.a 12 5)⟩, ⟨some 14, none, .call n_spec_sHex [.a 10 3, .a 11 4, .a 13 5]⟩, ⟨some 15, none, .un .not (.t 14)⟩, ⟨some 16, none, .mv (.p 15)⟩, ⟨some 17, some (16, false), .load true 3 (.t 4)⟩, ⟨some 18, some (16, false), .faddr 0 (.t 5)⟩, ⟨some 19, some (16, false), .load false 1 (.a 18 5)⟩, ⟨some 20, some (16, false), .call n_spec_sOwner [.a 17 4, .a 19 5]⟩, ⟨some 21, some (16, false), .bin .lss (.t 20) (.c (.int .i64 0))⟩, ⟨some 22, none, .pick (.t 16) (.c (.bool true)) (.t 21)⟩, ⟨some 23, none, .mv (.p 22)⟩, ⟨some 24, some (23, false), .faddr 1 (.t 5)⟩, ⟨some 25, some (23, false), .load false 1 (.a 24 5)⟩, ⟨some 26, some (23, false), .len (.a 25 5)⟩, ⟨some 27, some (23, false), .bin .eql (.t 26) (.c (.int .i64 0))⟩, ⟨some 28, none, .pick (.t 23) (.c (.bool true)) (.t 27)⟩, ⟨some 29, none, .mv (.p 28)⟩, ⟨some 30, some (29, false), .faddr 1 (.t 5)⟩, ⟨some 31, some (29, false), .load false 1 (.a 30 5)⟩, ⟨some 32, some (29, false), .faddr 2 (.t 4)⟩, ⟨some 33, some (29, false), .load false 1 (.a 32 4)⟩, ⟨some 34, some (29, false), .len (.a 33 4)⟩, ⟨some 35, some (29, false), .bin .sub (.t 34) (.c (.int .i64 1))⟩, ⟨some 36, some (29, false), .call n_spec_l1Rising [.a 31 5, .c (.int .i64 0), .t 35]⟩, ⟨some 37, some (29, false), .un .not (.t 36)⟩, ⟨some 38, none, .pick (.t 29) (.c (.bool true)) (.t 37)⟩])
 (.cond (.t 38) (.seq (.reg [⟨some 6, none, .asg (.c (.bool false))⟩])
 .ret) .skip))
 (.seq (.reg [⟨some 39, none, .load true 3 (.t 4)⟩, ⟨some 40, none, .faddr 0 (.t 5)⟩, ⟨some 41, none, .load false 1 (.a 40 5)⟩, ⟨some 42, none, .call n_spec_sOwner [.a 39 4, .a 41 5]⟩, ⟨some 7, none, .asg (.p 42)⟩])
 (.seq (.seq (.reg [⟨some 43, none, .faddr 1 (.t 5)⟩, ⟨some 44, none, .load false 1 (.a 43 5)⟩, ⟨some 45, none, .len (.a 44 5)⟩, ⟨some 46, none, .mv (.c (.int .i64 0))⟩])
 (.block 0 (.loop [3, 4, 5, 7, 44, 45, 46] [4, 5, 6, 7] b_spec_aGood_0)))
 (.seq (.reg [⟨some 68, none, .faddr 2 (.t 5)⟩, ⟨some 69, none, .load false 1 (.a 68 5)⟩, ⟨some 70, none, .load true 3 (.t 4)⟩, ⟨some 71, none, .faddr 0 (.t 5)⟩, ⟨some 72, none, .load false 1 (.a 71 5)⟩, ⟨some 73, none, .mv (.p 7)⟩, ⟨some 74, none, .call n_spec_sAt [.a 70 4, .a 72 5, .t 73]⟩, ⟨some 75, none, .call n_spec_l1Same [.a 69 5, .t 74]⟩, ⟨some 6, none, .asg (.p 75)⟩])
 .ret)))))⟩
/-- spec.aColumn -/
def a_spec_aColumn : AFn := ⟨4, 25, [.tmp 8], (.seq (.reg [⟨some 4, none, .box (.t 0)⟩, ⟨some 5, none, .box (.t 1)⟩, ⟨some 6, none, .box (.t 2)⟩, ⟨some 7, none, .box (.t 3)⟩, ⟨some 8, none, .asg (.c (.int .i64 0))⟩])
 (.seq (.reg [⟨some 9, none, .load true 3 (.t 6)⟩, ⟨some 10, none, .load true 3 (.t 6)⟩, ⟨some 11, none, .load true 12 (.t 4)⟩, ⟨some 12, none, .load true 3 (.t 5)⟩, ⟨some 13, none, .load true 3 (.t 7)⟩, ⟨some 14, none, .call n_spec_aAttack [.a 11 4, .a 12 5, .a 13 7]⟩, ⟨some 15, none, .load true 12 (.t 4)⟩, ⟨some 16, none, .load true 3 (.t 5)⟩, ⟨some 17, none, .load true 3 (.t 7)⟩, ⟨some 18, none, .call n_spec_aDefence [.a 15 4, .a 16 5, .a 17 7]⟩, ⟨some 19, none, .call n_spec_kColumn [.a 10 6, .t 14, .t 18]⟩, ⟨some 20, none, .load true 12 (.t 4)⟩, ⟨some 21, none, .load true 3 (.t 5)⟩, ⟨some 22, none, .load true 3 (.t 7)⟩, ⟨some 23, none, .call n_spec_aShift [.a 20 4, .a 21 5, .a 22 7]⟩, ⟨some 24, none, .call n_spec_kShift [.a 9 6, .t 19, .t 23]⟩, ⟨some 8, none, .asg (.p 24)⟩])
 .ret))⟩
def b_laws_toOddsS_0 : AC := (.seq (.seq (.reg [⟨some 8, none, .mv (.p 4)⟩, ⟨some 9, none, .rf (.t 0)⟩, ⟨some 10, none, .len (.a 9 0)⟩, ⟨some 11, none, .bin .lss (.t 8) (.t 10)⟩])
 (.cond (.t 11) .skip (.exit 0)))
 (.seq (.block 1 (.reg [⟨some 14, none, .rf (.t 3)⟩, ⟨some 15, none, .mv (.p 4)⟩, ⟨some 16, none, .rf (.t 0)⟩, ⟨some 17, none, .mv (.p 4)⟩, ⟨some 18, none, .iaddr 2 (.a 16 0) (.t 17)⟩, ⟨some 19, none, .load true 2 (.a 18 0)⟩, ⟨some 20, none, .call n_laws_toOdds [.a 19 0]⟩, ⟨some 21, none, .iaddr 2 (.a 14 3) (.t 15)⟩, ⟨none, none, .store 2 (.a 21 3) (.t 20)⟩]))
 (.reg [⟨some 12, none, .mv (.p 4)⟩, ⟨some 13, none, .bin .add (.t 12) (.c (.int .i64 1))⟩, ⟨some 4, none, .asg (.p 13)⟩])))
/-- laws.toOddsS -/
def a_laws_toOddsS : AFn := ⟨1, 23, [.tmp 2], (.seq (.reg [⟨some 2, none, .asg (.c (.list true 2 []))⟩])
 (.seq (.reg [⟨some 5, none, .rf (.t 0)⟩, ⟨some 6, none, .len (.a 5 0)⟩, ⟨some 7, none, .mslice 2 [.int .i64 0, .int .i64 0] (.t 6)⟩, ⟨some 3, none, .asg (.t 7)⟩])
 (.seq (.seq (.reg [⟨some 4, none, .asg (.c (.int .i64 0))⟩])
 (.block 0 (.loop [0, 3, 4] [2, 3] b_laws_toOddsS_0)))
 (.seq (.reg [⟨some 22, none, .rf (.t 3)⟩, ⟨some 2, none, .asg (.a 22 3)⟩])
 .ret))))⟩
def b_laws_toIntSS_0 : AC := (.seq (.seq (.reg [⟨some 8, none, .mv (.p 4)⟩, ⟨some 9, none, .rf (.t 0)⟩, ⟨some 10, none, .len (.a 9 0)⟩, ⟨some 11, none, .bin .lss (.t 8) (.t 10)⟩])
 (.cond (.t 11) .skip (.exit 0)))
 (.seq (.block 1 (.reg [⟨some 14, none, .rf (.t 3)⟩, ⟨some 15, none, .mv (.p 4)⟩, ⟨some 16, none, .rf (.t 0)⟩, ⟨some 17, none, .mv (.p 4)⟩, ⟨some 18, none, .iaddr 1 (.a 16 0) (.t 17)⟩, ⟨some 19, none, .load false 1 (.a 18 0)⟩, ⟨some 20, none, .call n_laws_toIntS [.a 19 0]⟩, ⟨some 21, none, .iaddr 1 (.a 14 3) (.t 15)⟩, ⟨none, none, .store 1 (.a 21 3) (.t 20)⟩]))
 (.reg [⟨some 12, none, .mv (.p 4)⟩, ⟨some 13, none, .bin .add (.t 12) (.c (.int .i64 1))⟩, ⟨some 4, none, .asg (.p 13)⟩])))
/-- laws.toIntSS -/
def a_laws_toIntSS : AFn := ⟨1, 23, [.tmp 2], (.seq (.reg [⟨some 2, none, .asg (.c (.list true 1 []))⟩])
 (.seq (.reg [⟨some 5, none, .rf (.t 0)⟩, ⟨some 6, none, .len (.a 5 0)⟩, ⟨some 7, none, .mslice 1 [.list true 1 []] (.t 6)⟩, ⟨some 3, none, .asg (.t 7)⟩])
 (.seq (.seq (.reg [⟨some 4, none, .asg (.c (.int .i64 0))⟩])
 (.block 0 (.loop [0, 3, 4] [2, 3] b_laws_toIntSS_0)))
 (.seq (.reg [⟨some 22, none, .rf (.t 3)⟩, ⟨some 2, none, .asg (.a 22 3)⟩])
 .ret))))⟩
/-- impl.hasBattle -/
def a_impl_hasBattle : AFn := ⟨3, 16, [.tmp 6], (.seq (.reg [⟨some 3, none, .box (.t 0)⟩, ⟨some 4, none, .box (.t 1)⟩, ⟨some 5, none, .box (.t 2)⟩, ⟨some 6, none, .asg (.c (.bool false))⟩])
 (.seq (.reg [⟨some 7, none, .load true 12 (.t 3)⟩, ⟨some 8, none, .load true 3 (.t 4)⟩, ⟨some 9, none, .call n_impl_fits [.a 7 3, .a 8 4]⟩, ⟨some 10, none, .mv (.p 9)⟩, ⟨some 11, some (10, true), .load true 12 (.t 3)⟩, ⟨some 12, some (10, true), .load true 3 (.t 4)⟩, ⟨some 13, some (10, true), .load true 3 (.t 5)⟩, ⟨some 14, some (10, true), .call n_impl_goodBattle [.a 11 3, .a 12 4, .a 13 5]⟩, ⟨some 15, none, .pick (.t 10) (.t 14) (.c (.bool false))⟩, ⟨some 6, none, .asg (.p 15)⟩])
 .ret))⟩
def b_impl_IsCombatTable_0 : AC := (.seq (.reg [⟨some 32, none, .bin .lss (.t 31) (.t 30)⟩])
 (.seq (.cond (.t 32) .skip (.exit 0))
 (.seq (.block 1 (.seq (.reg [⟨some 33, none, .mv (.p 31)⟩, ⟨some 34, none, .iaddr 2 (.a 29 1) (.t 31)⟩, ⟨some 35, none, .load true 2 (.a 34 1)⟩, ⟨some 4, none, .alloc [.int .i64 0, .int .i64 0]⟩, ⟨some 3, none, .asg (.p 33)⟩, ⟨none, none, .store 2 (.t 4) (.a 35 1)⟩])
 (.seq (.seq (.reg [⟨some 36, none, .faddr 0 (.t 4)⟩, ⟨some 37, none, .load false 1 (.a 36 4)⟩, ⟨some 38, none, .call n_impl_inRange [.a 37 4, .c (.int .i64 1), .c (.int .i64 20)]⟩, ⟨some 39, none, .un .not (.t 38)⟩, ⟨some 40, none, .mv (.p 39)⟩, ⟨some 41, some (40, false), .faddr 1 (.t 4)⟩, ⟨some 42, some (40, false), .load false 1 (.a 41 4)⟩, ⟨some 43, some (40, false), .call n_impl_inRange [.a 42 4, .c (.int .i64 1), .c (.int .i64 20)]⟩, ⟨some 44, some (40, false), .un .not (.t 43)⟩, ⟨some 45, none, .pick (.t 40) (.c (.bool true)) (.t 44)⟩])
 (.cond (.t 45) (.seq (.reg [⟨some 2, none, .asg (.c (.bool false))⟩])
 .ret) .skip))
 (.seq (.reg [⟨some 46, none, .mv (.p 3)⟩, ⟨some 47, none, .bin .gtr (.t 46) (.c (.int .i64 0))⟩, ⟨some 48, none, .mv (.p 47)⟩, ⟨some 49, some (48, true), .faddr 0 (.t 1)⟩, ⟨some 50, some (48, true), .load false 1 (.a 49 1)⟩, ⟨some 51, some (48, true), .mv (.p 3)⟩, ⟨some 52, some (48, true), .bin .sub (.t 51) (.c (.int .i64 1))⟩, ⟨some 53, some (48, true), .iaddr 2 (.a 50 1) (.t 52)⟩, ⟨some 54, some (48, true), .faddr 0 (.a 53 1)⟩, ⟨some 55, some (48, true), .load false 1 (.a 54 1)⟩, ⟨some 56, some (48, true), .faddr 1 (.t 4)⟩, ⟨some 57, some (48, true), .load false 1 (.a 56 4)⟩, ⟨some 58, some (48, true), .bin .mul (.a 55 1) (.a 57 4)⟩, ⟨some 59, some (48, true), .faddr 0 (.t 4)⟩, ⟨some 60, some (48, true), .load false 1 (.a 59 4)⟩, ⟨some 61, some (48, true), .faddr 0 (.t 1)⟩, ⟨some 62, some (48, true), .load false 1 (.a 61 1)⟩, ⟨some 63, some (48, true), .mv (.p 3)⟩, ⟨some 64, some (48, true), .bin .sub (.t 63) (.c (.int .i64 1))⟩, ⟨some 65, some (48, true), .iaddr 2 (.a 62 1) (.t 64)⟩, ⟨some 66, some (48, true), .faddr 1 (.a 65 1)⟩, ⟨some 67, some (48, true), .load false 1 (.a 66 1)⟩, ⟨some 68, some (48, true), .bin .mul (.a 60 4) (.a 67 1)⟩, ⟨some 69, some (48, true), .bin .geq (.t 58) (.t 68)⟩, ⟨some 70, none, .pick (.t 48) (.t 69) (.c (.bool false))⟩])
 (.cond (.t 70) (.seq (.reg [⟨some 2, none, .asg (.c (.bool false))⟩])
 .ret) .skip)))))
 (.reg [⟨some 71, none, .bin .add (.t 31) (.c (.int .i64 1))⟩, ⟨some 31, none, .mv (.p 71)⟩]))))
def b_impl_IsCombatTable_1 : AC := (.seq (.reg [⟨some 76, none, .bin .lss (.t 75) (.t 74)⟩])
 (.seq (.cond (.t 76) .skip (.exit 2))
 (.seq (.block 3 (.seq (.reg [⟨some 77, none, .iaddr 1 (.a 73 1) (.t 75)⟩, ⟨some 78, none, .load false 1 (.a 77 1)⟩, ⟨some 6, none, .asg (.a 78 1)⟩])
 (.seq (.reg [⟨some 79, none, .rf (.t 6)⟩, ⟨some 80, none, .len (.a 79 6)⟩, ⟨some 81, none, .faddr 0 (.t 1)⟩, ⟨some 82, none, .load false 1 (.a 81 1)⟩, ⟨some 83, none, .len (.a 82 1)⟩, ⟨some 84, none, .bin .neq (.t 80) (.t 83)⟩, ⟨some 85, none, .mv (.p 84)⟩, ⟨some 86, some (85, false), .rf (.t 6)⟩, ⟨some 87, some (85, false), .call n_slices_ContainsFunc_int_int [.a 86 6, .f n_impl_IsCombatTable_1]⟩, ⟨some 88, none, .pick (.t 85) (.c (.bool true)) (.t 87)⟩])
 (.cond (.t 88) (.seq (.reg [⟨some 2, none, .asg (.c (.bool false))⟩])
 .ret) .skip))))
 (.reg [⟨some 89, none, .bin .add (.t 75) (.c (.int .i64 1))⟩, ⟨some 75, none, .mv (.p 89)⟩]))))
/-- impl.IsCombatTable -/
def a_impl_IsCombatTable : AFn := ⟨1, 90, [.tmp 2], (.seq (.reg [⟨some 1, none, .box (.t 0)⟩, ⟨some 2, none, .asg (.c (.bool false))⟩])
 (.seq (.seq (.reg [⟨some 7, none, .faddr 0 (.t 1)⟩, ⟨some 8, none, .load false 1 (.a 7 1)⟩, ⟨some 9, none, .len (.a 8 1)⟩, ⟨some 10, none, .call n_impl_inRange [.t 9, .c (.int .i64 1), .c (.int .i64 8)]⟩, ⟨some 11, none, .un .not (.t 10)⟩, ⟨some 12, none, .mv (.p 11)⟩, ⟨some 13, some (12, false), .faddr 1 (.t 1)⟩, ⟨some 14, some (12, false), .load false 1 (.a 13 1)⟩, ⟨some 15, some (12, false), .call n_impl_inRange [.a 14 1, .c (.int .i64 1), .c (.int .i64 2)]⟩, ⟨some 16, some (12, false), .un .not (.t 15)⟩, ⟨some 17, none, .pick (.t 12) (.c (.bool true)) (.t 16)⟩, ⟨some 18, none, .mv (.p 17)⟩, ⟨some 19, some (18, false), .faddr 2 (.t 1)⟩, ⟨some 20, some (18, false), .load false 1 (.a 19 1)⟩, ⟨some 21, some (18, false), .len (.a 20 1)⟩, ⟨some 22, some (18, false), .faddr 1 (.t 1)⟩, ⟨some 23, some (18, false), .load false 1 (.a 22 1)⟩, ⟨some 24, some (18, false), .bin .mul (.c (.int .i64 5)) (.a 23 1)⟩, ⟨some 25, some (18, false), .bin .add (.t 24) (.c (.int .i64 1))⟩, ⟨some 26, some (18, false), .bin .neq (.t 21) (.t 25)⟩, ⟨some 27, none, .pick (.t 18) (.c (.bool true)) (.t 26)⟩])
 (.cond (.t 27) (.seq (.reg [⟨some 2, none, .asg (.c (.bool false))⟩])
 .ret) .skip))
 (.seq (.seq (.reg [⟨some 28, none, .faddr 0 (.t 1)⟩, ⟨some 29, none, .load false 1 (.a 28 1)⟩, ⟨some 30, none, .len (.a 29 1)⟩, ⟨some 31, none, .mv (.c (.int .i64 0))⟩])
 (.block 0 (.loop [1, 29, 30, 31] [1, 2] b_impl_IsCombatTable_0)))
 (.seq (.seq (.reg [⟨some 72, none, .faddr 2 (.t 1)⟩, ⟨some 73, none, .load false 1 (.a 72 1)⟩, ⟨some 74, none, .len (.a 73 1)⟩, ⟨some 75, none, .mv (.c (.int .i64 0))⟩])
 (.block 2 (.loop [1, 73, 74, 75] [2] b_impl_IsCombatTable_1)))
 (.seq (.reg [⟨some 2, none, .asg (.c (.bool true))⟩])
 .ret)))))⟩
/-- impl.battleColumn -/
def a_impl_battleColumn : AFn := ⟨4, 25, [.tmp 8], (.seq (.reg [⟨some 4, none, .box (.t 0)⟩, ⟨some 5, none, .box (.t 1)⟩, ⟨some 6, none, .box (.t 2)⟩, ⟨some 7, none, .box (.t 3)⟩, ⟨some 8, none, .asg (.c (.int .i64 0))⟩])
 (.seq (.reg [⟨some 9, none, .load true 3 (.t 6)⟩, ⟨some 10, none, .load true 3 (.t 6)⟩, ⟨some 11, none, .load true 12 (.t 4)⟩, ⟨some 12, none, .load true 3 (.t 5)⟩, ⟨some 13, none, .load true 3 (.t 7)⟩, ⟨some 14, none, .call n_impl_attackStrength [.a 11 4, .a 12 5, .a 13 7]⟩, ⟨some 15, none, .load true 12 (.t 4)⟩, ⟨some 16, none, .load true 3 (.t 5)⟩, ⟨some 17, none, .load true 3 (.t 7)⟩, ⟨some 18, none, .call n_impl_defenceStrength [.a 15 4, .a 16 5, .a 17 7]⟩, ⟨some 19, none, .call n_impl_columnFor [.a 10 6, .t 14, .t 18]⟩, ⟨some 20, none, .load true 12 (.t 4)⟩, ⟨some 21, none, .load true 3 (.t 5)⟩, ⟨some 22, none, .load true 3 (.t 7)⟩, ⟨some 23, none, .call n_impl_battleShift [.a 20 4, .a 21 5, .a 22 7]⟩, ⟨some 24, none, .call n_impl_shiftColumn [.a 9 6, .t 19, .t 23]⟩, ⟨some 8, none, .asg (.p 24)⟩])
 .ret))⟩
def b_laws_eqOddsS_0 : AC := (.seq (.seq (.reg [⟨some 11, none, .mv (.p 5)⟩, ⟨some 12, none, .rf (.t 0)⟩, ⟨some 13, none, .len (.a 12 0)⟩, ⟨some 14, none, .bin .lss (.t 11) (.t 13)⟩])
 (.cond (.t 14) .skip (.exit 0)))
 (.seq (.block 1 (.seq (.reg [⟨some 17, none, .rf (.t 0)⟩, ⟨some 18, none, .mv (.p 5)⟩, ⟨some 19, none, .iaddr 2 (.a 17 0) (.t 18)⟩, ⟨some 20, none, .load true 2 (.a 19 0)⟩, ⟨some 21, none, .rf (.t 1)⟩, ⟨some 22, none, .mv (.p 5)⟩, ⟨some 23, none, .iaddr 2 (.a 21 1) (.t 22)⟩, ⟨some 24, none, .load true 2 (.a 23 1)⟩, ⟨some 25, none, .call n_laws_eqOdds [.a 20 0, .a 24 1]⟩, ⟨some 26, none, .un .not (.t 25)⟩])
 (.cond (.t 26) (.seq (.reg [⟨some 4, none, .asg (.c (.bool false))⟩])
 .ret) .skip)))
 (.reg [⟨some 15, none, .mv (.p 5)⟩, ⟨some 16, none, .bin .add (.t 15) (.c (.int .i64 1))⟩, ⟨some 5, none, .asg (.p 16)⟩])))
/-- laws.eqOddsS -/
def a_laws_eqOddsS : AFn := ⟨2, 27, [.tmp 4], (.seq (.reg [⟨some 4, none, .asg (.c (.bool false))⟩])
 (.seq (.seq (.reg [⟨some 6, none, .rf (.t 0)⟩, ⟨some 7, none, .len (.a 6 0)⟩, ⟨some 8, none, .rf (.t 1)⟩, ⟨some 9, none, .len (.a 8 1)⟩, ⟨some 10, none, .bin .neq (.t 7) (.t 9)⟩])
 (.cond (.t 10) (.seq (.reg [⟨some 4, none, .asg (.c (.bool false))⟩])
 .ret) .skip))
 (.seq (.seq (.reg [⟨some 5, none, .asg (.c (.int .i64 0))⟩])
 (.block 0 (.loop [0, 1, 5] [4] b_laws_eqOddsS_0)))
 (.seq (.reg [⟨some 4, none, .asg (.c (.bool true))⟩])
 .ret))))⟩
def b_laws_eqIntSS_0 : AC := (.seq (.seq (.reg [⟨some 11, none, .mv (.p 5)⟩, ⟨some 12, none, .rf (.t 0)⟩, ⟨some 13, none, .len (.a 12 0)⟩, ⟨some 14, none, .bin .lss (.t 11) (.t 13)⟩])
 (.cond (.t 14) .skip (.exit 0)))
 (.seq (.block 1 (.seq (.reg [⟨some 17, none, .rf (.t 0)⟩, ⟨some 18, none, .mv (.p 5)⟩, ⟨some 19, none, .iaddr 1 (.a 17 0) (.t 18)⟩, ⟨some 20, none, .load false 1 (.a 19 0)⟩, ⟨some 21, none, .rf (.t 1)⟩, ⟨some 22, none, .mv (.p 5)⟩, ⟨some 23, none, .iaddr 1 (.a 21 1) (.t 22)⟩, ⟨some 24, none, .load false 1 (.a 23 1)⟩, ⟨some 25, none, .call n_laws_eqIntS [.a 20 0, .a 24 1]⟩, ⟨some 26, none, .un .not (.t 25)⟩])
 (.cond (.t 26) (.seq (.reg [⟨some 4, none, .asg (.c (.bool false))⟩])
 .ret) .skip)))
 (.reg [⟨some 15, none, .mv (.p 5)⟩, ⟨some 16, none, .bin .add (.t 15) (.c (.int .i64 1))⟩, ⟨some 5, none, .asg (.p 16)⟩])))
/-- laws.eqIntSS -/
def a_laws_eqIntSS : AFn := ⟨2, 27, [.tmp 4], (.seq (.reg [⟨some 4, none, .asg (.c (.bool false))⟩])
 (.seq (.seq (.reg [⟨some 6, none, .rf (.t 0)⟩, ⟨some 7, none, .len (.a 6 0)⟩, ⟨some 8, none, .rf (.t 1)⟩, ⟨some 9, none, .len (.a 8 1)⟩, ⟨some 10, none, .bin .neq (.t 7) (.t 9)⟩])
 (.cond (.t 10) (.seq (.reg [⟨some 4, none, .asg (.c (.bool false))⟩])
 .ret) .skip))
 (.seq (.seq (.reg [⟨some 5, none, .asg (.c (.int .i64 0))⟩])
 (.block 0 (.loop [0, 1, 5] [4] b_laws_eqIntSS_0)))
 (.seq (.reg [⟨some 4, none, .asg (.c (.bool true))⟩])
 .ret))))⟩
/-- spec.kResult -/
def a_spec_kResult : AFn := ⟨3, 18, [.tmp 6], (.seq (.reg [⟨some 3, none, .box (.t 0)⟩, ⟨some 6, none, .asg (.c (.int .i64 0))⟩])
 (.seq (.reg [⟨some 7, none, .faddr 2 (.t 3)⟩, ⟨some 8, none, .load false 1 (.a 7 3)⟩, ⟨some 9, none, .mv (.p 1)⟩, ⟨some 10, none, .faddr 1 (.t 3)⟩, ⟨some 11, none, .load false 1 (.a 10 3)⟩, ⟨some 12, none, .bin .sub (.t 9) (.a 11 3)⟩, ⟨some 13, none, .iaddr 1 (.a 8 3) (.t 12)⟩, ⟨some 14, none, .load false 1 (.a 13 3)⟩, ⟨some 15, none, .mv (.p 2)⟩, ⟨some 16, none, .iaddr 1 (.a 14 3) (.t 15)⟩, ⟨some 17, none, .load false 1 (.a 16 3)⟩, ⟨some 6, none, .asg (.p 17)⟩])
 .ret))⟩
/-- impl.ResultAt -/
def a_impl_ResultAt : AFn := ⟨3, 33, [.tmp 6, .tmp 7], (.seq (.reg [⟨some 3, none, .box (.t 0)⟩, ⟨some 6, none, .asg (.c (.int .i64 0))⟩, ⟨some 7, none, .asg (.c (.bool false))⟩])
 (.seq (.seq (.reg [⟨some 8, none, .load true 3 (.t 3)⟩, ⟨some 9, none, .mv (.p 2)⟩, ⟨some 10, none, .call n_impl_isColumn [.a 8 3, .t 9]⟩, ⟨some 11, none, .un .not (.t 10)⟩, ⟨some 12, none, .mv (.p 11)⟩, ⟨some 13, some (12, false), .mv (.p 1)⟩, ⟨some 14, some (12, false), .faddr 1 (.t 3)⟩, ⟨some 15, some (12, false), .load false 1 (.a 14 3)⟩, ⟨some 16, some (12, false), .faddr 1 (.t 3)⟩, ⟨some 17, some (12, false), .load false 1 (.a 16 3)⟩, ⟨some 18, some (12, false), .bin .mul (.c (.int .i64 6)) (.a 17 3)⟩, ⟨some 19, some (12, false), .call n_impl_inRange [.t 13, .a 15 3, .t 18]⟩, ⟨some 20, some (12, false), .un .not (.t 19)⟩, ⟨some 21, none, .pick (.t 12) (.c (.bool true)) (.t 20)⟩])
 (.cond (.t 21) (.seq (.reg [⟨some 6, none, .asg (.c (.int .i64 0))⟩, ⟨some 7, none, .asg (.c (.bool false))⟩])
 .ret) .skip))
 (.seq (.reg [⟨some 22, none, .faddr 2 (.t 3)⟩, ⟨some 23, none, .load false 1 (.a 22 3)⟩, ⟨some 24, none, .mv (.p 1)⟩, ⟨some 25, none, .faddr 1 (.t 3)⟩, ⟨some 26, none, .load false 1 (.a 25 3)⟩, ⟨some 27, none, .bin .sub (.t 24) (.a 26 3)⟩, ⟨some 28, none, .iaddr 1 (.a 23 3) (.t 27)⟩, ⟨some 29, none, .load false 1 (.a 28 3)⟩, ⟨some 30, none, .mv (.p 2)⟩, ⟨some 31, none, .iaddr 1 (.a 29 3) (.t 30)⟩, ⟨some 32, none, .load false 1 (.a 31 3)⟩, ⟨some 6, none, .asg (.p 32)⟩, ⟨some 7, none, .asg (.c (.bool true))⟩])
 .ret)))⟩
def b_laws_szTerrainS_0 : AC := (.seq (.seq (.reg [⟨some 12, none, .mv (.p 5)⟩, ⟨some 13, none, .rf (.t 0)⟩, ⟨some 14, none, .len (.a 13 0)⟩, ⟨some 15, none, .bin .lss (.t 12) (.t 14)⟩])
 (.cond (.t 15) .skip (.exit 0)))
 (.seq (.block 1 (.seq (.reg [⟨some 18, none, .rf (.t 0)⟩, ⟨some 19, none, .mv (.p 5)⟩, ⟨some 20, none, .iaddr 5 (.a 18 0) (.t 19)⟩, ⟨some 21, none, .load true 5 (.a 20 0)⟩, ⟨some 22, none, .mv (.p 1)⟩, ⟨some 23, none, .call n_laws_szTerrain [.a 21 0, .t 22]⟩, ⟨some 1, none, .asg (.p 23)⟩])
 (.seq (.reg [⟨some 24, none, .mv (.p 1)⟩, ⟨some 25, none, .bin .lss (.t 24) (.c (.int .i64 0))⟩])
 (.cond (.t 25) (.seq (.reg [⟨some 4, none, .asg (.c (.int .i64 (-1)))⟩])
 .ret) .skip))))
 (.reg [⟨some 16, none, .mv (.p 5)⟩, ⟨some 17, none, .bin .add (.t 16) (.c (.int .i64 1))⟩, ⟨some 5, none, .asg (.p 17)⟩])))
/-- laws.szTerrainS -/
def a_laws_szTerrainS : AFn := ⟨2, 27, [.tmp 4], (.seq (.reg [⟨some 4, none, .asg (.c (.int .i64 0))⟩])
 (.seq (.reg [⟨some 6, none, .mv (.p 1)⟩, ⟨some 7, none, .rf (.t 0)⟩, ⟨some 8, none, .len (.a 7 0)⟩, ⟨some 9, none, .bin .sub (.t 6) (.t 8)⟩, ⟨some 1, none, .asg (.p 9)⟩])
 (.seq (.seq (.reg [⟨some 10, none, .mv (.p 1)⟩, ⟨some 11, none, .bin .lss (.t 10) (.c (.int .i64 0))⟩])
 (.cond (.t 11) (.seq (.reg [⟨some 4, none, .asg (.c (.int .i64 (-1)))⟩])
 .ret) .skip))
 (.seq (.seq (.reg [⟨some 5, none, .asg (.c (.int .i64 0))⟩])
 (.block 0 (.loop [0, 1, 5] [1, 4] b_laws_szTerrainS_0)))
 (.seq (.reg [⟨some 26, none, .mv (.p 1)⟩, ⟨some 4, none, .asg (.p 26)⟩])
 .ret)))))⟩
def b_laws_szKindS_0 : AC := (.seq (.seq (.reg [⟨some 12, none, .mv (.p 5)⟩, ⟨some 13, none, .rf (.t 0)⟩, ⟨some 14, none, .len (.a 13 0)⟩, ⟨some 15, none, .bin .lss (.t 12) (.t 14)⟩])
 (.cond (.t 15) .skip (.exit 0)))
 (.seq (.block 1 (.seq (.reg [⟨some 18, none, .rf (.t 0)⟩, ⟨some 19, none, .mv (.p 5)⟩, ⟨some 20, none, .iaddr 6 (.a 18 0) (.t 19)⟩, ⟨some 21, none, .load true 6 (.a 20 0)⟩, ⟨some 22, none, .mv (.p 1)⟩, ⟨some 23, none, .call n_laws_szKind [.a 21 0, .t 22]⟩, ⟨some 1, none, .asg (.p 23)⟩])
 (.seq (.reg [⟨some 24, none, .mv (.p 1)⟩, ⟨some 25, none, .bin .lss (.t 24) (.c (.int .i64 0))⟩])
 (.cond (.t 25) (.seq (.reg [⟨some 4, none, .asg (.c (.int .i64 (-1)))⟩])
 .ret) .skip))))
 (.reg [⟨some 16, none, .mv (.p 5)⟩, ⟨some 17, none, .bin .add (.t 16) (.c (.int .i64 1))⟩, ⟨some 5, none, .asg (.p 17)⟩])))
/-- laws.szKindS -/
def a_laws_szKindS : AFn := ⟨2, 27, [.tmp 4], (.seq (.reg [⟨some 4, none, .asg (.c (.int .i64 0))⟩])
 (.seq (.reg [⟨some 6, none, .mv (.p 1)⟩, ⟨some 7, none, .rf (.t 0)⟩, ⟨some 8, none, .len (.a 7 0)⟩, ⟨some 9, none, .bin .sub (.t 6) (.t 8)⟩, ⟨some 1, none, .asg (.p 9)⟩])
 (.seq (.seq (.reg [⟨some 10, none, .mv (.p 1)⟩, ⟨some 11, none, .bin .lss (.t 10) (.c (.int .i64 0))⟩])
 (.cond (.t 11) (.seq (.reg [⟨some 4, none, .asg (.c (.int .i64 (-1)))⟩])
 .ret) .skip))
 (.seq (.seq (.reg [⟨some 5, none, .asg (.c (.int .i64 0))⟩])
 (.block 0 (.loop [0, 1, 5] [1, 4] b_laws_szKindS_0)))
 (.seq (.reg [⟨some 26, none, .mv (.p 1)⟩, ⟨some 4, none, .asg (.p 26)⟩])
 .ret)))))⟩
/-- spec.bGood -/
def a_spec_bGood : AFn := ⟨1, 22, [.tmp 2], (.seq (.reg [⟨some 1, none, .box (.t 0)⟩, ⟨some 2, none, .asg (.c (.bool false))⟩])
 (.seq (.reg [⟨some 3, none, .faddr 0 (.t 1)⟩, ⟨some 4, none, .load true 7 (.a 3 1)⟩, ⟨some 5, none, .call n_spec_rGood [.a 4 1]⟩, ⟨some 6, none, .mv (.p 5)⟩, ⟨some 7, some (6, true), .faddr 7 (.t 1)⟩, ⟨some 8, some (6, true), .load true 5 (.a 7 1)⟩, ⟨some 9, some (6, true), .call n_spec_mGood [.a 8 1]⟩, ⟨some 10, none, .pick (.t 6) (.t 9) (.c (.bool false))⟩, ⟨some 11, none, .mv (.p 10)⟩, ⟨some 12, some (11, true), .faddr 7 (.t 1)⟩, ⟨some 13, some (11, true), .faddr 2 (.a 12 1)⟩, ⟨some 14, some (11, true), .load false 1 (.a 13 1)⟩, ⟨some 15, some (11, true), .faddr 0 (.t 1)⟩, ⟨some 16, some (11, true), .faddr 0 (.a 15 1)⟩, ⟨some 17, some (11, true), .load false 1 (.a 16 1)⟩, ⟨some 18, some (11, true), .len (.a 17 1)⟩, ⟨some 19, some (11, true), .bin .sub (.t 18) (.c (.int .i64 1))⟩, ⟨some 20, some (11, true), .call n_spec_l1All [.a 14 1, .c (.int .i64 0), .t 19]⟩, ⟨some 21, none, .pick (.t 11) (.t 20) (.c (.bool false))⟩, ⟨some 2, none, .asg (.p 21)⟩])
 .ret))⟩
/-- spec.sUnit -/
def a_spec_sUnit : AFn := ⟨2, 60, [.tmp 4], (.seq (.reg [⟨some 2, none, .box (.t 0)⟩, ⟨some 3, none, .box (.t 1)⟩, ⟨some 4, none, .asg (.c (.bool false))⟩])
 (.seq (.seq (.reg [⟨some 5, none, .faddr 0 (.t 3)⟩, ⟨some 6, none, .load false 1 (.a 5 3)⟩, ⟨some 7, none, .call n_spec_l1In [.a 6 3, .c (.int .i64 0), .c (.int .i64 1)]⟩, ⟨some 8, none, .un .not (.t 7)⟩, ⟨some 9, none, .mv (.p 8)⟩, ⟨some 10, some (9, false), .faddr 1 (.t 3)⟩, ⟨some 11, some (9, false), .load false 1 (.a 10 3)⟩, ⟨some 12, some (9, false), .faddr 0 (.t 2)⟩, ⟨some 13, some (9, false), .faddr 1 (.a 12 2)⟩, ⟨some 14, some (9, false), .load false 1 (.a 13 2)⟩, ⟨some 15, some (9, false), .len (.a 14 2)⟩, ⟨some 16, some (9, false), .bin .sub (.t 15) (.c (.int .i64 1))⟩, ⟨some 17, some (9, false), .call n_spec_l1In [.a 11 3, .c (.int .i64 0), .t 16]⟩, ⟨some 18, some (9, false), .un .not (.t 17)⟩, ⟨some 19, none, .pick (.t 9) (.c (.bool true)) (.t 18)⟩, ⟨some 20, none, .mv (.p 19)⟩, ⟨some 21, some (20, false), .faddr 3 (.t 3)⟩, ⟨some 22, some (20, false), .load false 1 (.a 21 3)⟩, ⟨some 23, some (20, false), .faddr 0 (.t 2)⟩, ⟨some 24, some (20, false), .faddr 1 (.a 23 2)⟩, ⟨some 25, some (20, false), .load false 1 (.a 24 2)⟩, ⟨some 26, some (20, false), .faddr 1 (.t 3)⟩, ⟨some 27, some (20, false), .load false 1 (.a 26 3)⟩, ⟨some 28, some (20, false), .iaddr 6 (.a 25 2) (.a 27 3)⟩, ⟨some 29, some (20, false), .faddr 3 (.a 28 2)⟩, ⟨some 30, some (20, false), .load false 1 (.a 29 2)⟩, ⟨some 31, some (20, false), .call n_spec_l1In [.a 22 3, .c (.int .i64 0), .a 30 2]⟩, ⟨some 32, some (20, false), .un .not (.t 31)⟩, ⟨some 33, none, .pick (.t 20) (.c (.bool true)) (.t 32)⟩])
 (.cond (.t 33) (.seq (.reg [⟨some 4, none, .asg (.c (.bool false))⟩])
 .ret) .skip))
 (.seq (.reg [⟨some 34, none, .faddr 2 (.t 3)⟩, ⟨some 35, none, .load false 1 (.a 34 3)⟩, ⟨some 36, none, .bin .eql (.a 35 3) (.c (.int .i64 (-1)))⟩, ⟨some 37, none, .mv (.p 36)⟩, ⟨some 38, some (37, false), .faddr 3 (.t 3)⟩, ⟨some 39, some (37, false), .load false 1 (.a 38 3)⟩, ⟨some 40, some (37, false), .bin .gtr (.a 39 3) (.c (.int .i64 0))⟩, ⟨some 41, some (37, false), .mv (.p 40)⟩, ⟨some 42, some (41, true), .faddr 2 (.t 3)⟩, ⟨some 43, some (41, true), .load false 1 (.a 42 3)⟩, ⟨some 44, some (41, true), .faddr 7 (.t 2)⟩, ⟨some 45, some (41, true), .load true 5 (.a 44 2)⟩, ⟨some 46, some (41, true), .call n_spec_mSize [.a 45 2]⟩, ⟨some 47, some (41, true), .bin .sub (.t 46) (.c (.int .i64 1))⟩, ⟨some 48, some (41, true), .call n_spec_l1In [.a 43 3, .c (.int .i64 0), .t 47]⟩, ⟨some 49, some (37, false), .pick (.t 41) (.t 48) (.c (.bool false))⟩, ⟨some 50, some (37, false), .mv (.p 49)⟩, ⟨some 51, some (50, true), .load true 12 (.t 2)⟩, ⟨some 52, some (50, true), .faddr 1 (.t 3)⟩, ⟨some 53, some (50, true), .load false 1 (.a 52 3)⟩, ⟨some 54, some (50, true), .faddr 2 (.t 3)⟩, ⟨some 55, some (50, true), .load false 1 (.a 54 3)⟩, ⟨some 56, some (50, true), .call n_spec_bCost [.a 51 2, .a 53 3, .a 55 3]⟩, ⟨some 57, some (50, true), .bin .gtr (.t 56) (.c (.int .i64 0))⟩, ⟨some 58, some (37, false), .pick (.t 50) (.t 57) (.c (.bool false))⟩, ⟨some 59, none, .pick (.t 37) (.c (.bool true)) (.t 58)⟩, ⟨some 4, none, .asg (.p 59)⟩])
 .ret)))⟩
def b_spec_sAt_0 : AC := (.seq (.reg [⟨some 14, none, .bin .lss (.t 13) (.t 12)⟩])
 (.seq (.cond (.t 14) .skip (.exit 0))
 (.seq (.block 1 (.seq (.reg [⟨some 15, none, .mv (.p 13)⟩, ⟨some 16, none, .iaddr 4 (.a 11 3) (.t 13)⟩, ⟨some 17, none, .load true 4 (.a 16 3)⟩, ⟨some 9, none, .alloc [.int .i64 0, .int .i64 0, .int .i64 0, .int .i64 0]⟩, ⟨some 8, none, .asg (.p 15)⟩, ⟨none, none, .store 4 (.t 9) (.a 17 3)⟩])
 (.seq (.reg [⟨some 18, none, .faddr 2 (.t 9)⟩, ⟨some 19, none, .load false 1 (.a 18 9)⟩, ⟨some 20, none, .mv (.p 1)⟩, ⟨some 21, none, .bin .eql (.a 19 9) (.t 20)⟩, ⟨some 22, none, .mv (.p 21)⟩, ⟨some 23, some (22, true), .faddr 0 (.t 9)⟩, ⟨some 24, some (22, true), .load false 1 (.a 23 9)⟩, ⟨some 25, some (22, true), .mv (.p 2)⟩, ⟨some 26, some (22, true), .bin .eql (.a 24 9) (.t 25)⟩, ⟨some 27, none, .pick (.t 22) (.t 26) (.c (.bool false))⟩])
 (.cond (.t 27) (.reg [⟨some 28, none, .rf (.t 7)⟩, ⟨some 29, none, .mv (.p 8)⟩, ⟨some 30, none, .bslice 1 1 [.int .i64 0] [(0, .p 29)]⟩, ⟨some 31, none, .append 1 (.a 28 7) (.t 30)⟩, ⟨some 7, none, .asg (.t 31)⟩]) .skip))))
 (.reg [⟨some 32, none, .bin .add (.t 13) (.c (.int .i64 1))⟩, ⟨some 13, none, .mv (.p 32)⟩]))))
/-- spec.sAt -/
def a_spec_sAt : AFn := ⟨3, 34, [.tmp 6], (.seq (.reg [⟨some 3, none, .box (.t 0)⟩, ⟨some 6, none, .asg (.c (.list true 1 []))⟩])
 (.seq (.reg [⟨some 7, none, .asg (.c (.list true 1 []))⟩])
 (.seq (.seq (.reg [⟨some 10, none, .faddr 2 (.t 3)⟩, ⟨some 11, none, .load false 1 (.a 10 3)⟩, ⟨some 12, none, .len (.a 11 3)⟩, ⟨some 13, none, .mv (.c (.int .i64 0))⟩])
 (.block 0 (.loop [1, 2, 3, 7, 11, 12, 13] [6, 7] b_spec_sAt_0)))
 (.seq (.reg [⟨some 33, none, .rf (.t 7)⟩, ⟨some 6, none, .asg (.a 33 7)⟩])
 .ret))))⟩
/-- spec.oPlaced -/
def a_spec_oPlaced : AFn := ⟨3, 32, [.tmp 6], (.seq (.reg [⟨some 3, none, .box (.t 0)⟩, ⟨some 6, none, .asg (.c (.bool false))⟩])
 (.seq (.reg [⟨some 7, none, .mv (.p 2)⟩, ⟨some 8, none, .faddr 2 (.t 3)⟩, ⟨some 9, none, .load false 1 (.a 8 3)⟩, ⟨some 10, none, .len (.a 9 3)⟩, ⟨some 11, none, .bin .sub (.t 10) (.c (.int .i64 1))⟩, ⟨some 12, none, .call n_spec_l1In [.t 7, .c (.int .i64 0), .t 11]⟩, ⟨some 13, none, .mv (.p 12)⟩, ⟨some 14, some (13, true), .faddr 2 (.t 3)⟩, ⟨some 15, some (13, true), .load false 1 (.a 14 3)⟩, ⟨some 16, some (13, true), .mv (.p 2)⟩, ⟨some 17, some (13, true), .iaddr 4 (.a 15 3) (.t 16)⟩, ⟨some 18, some (13, true), .faddr 0 (.a 17 3)⟩, ⟨some 19, some (13, true), .load false 1 (.a 18 3)⟩, ⟨some 20, some (13, true), .mv (.p 1)⟩, ⟨some 21, some (13, true), .bin .eql (.a 19 3) (.t 20)⟩, ⟨some 22, none, .pick (.t 13) (.t 21) (.c (.bool false))⟩, ⟨some 23, none, .mv (.p 22)⟩, ⟨some 24, some (23, true), .faddr 2 (.t 3)⟩, ⟨some 25, some (23, true), .load false 1 (.a 24 3)⟩, ⟨some 26, some (23, true), .mv (.p 2)⟩, ⟨some 27, some (23, true), .iaddr 4 (.a 25 3) (.t 26)⟩, ⟨some 28, some (23, true), .faddr 2 (.a 27 3)⟩, ⟨some 29, some (23, true), .load false 1 (.a 28 3)⟩, ⟨some 30, some (23, true), .bin .geq (.a 29 3) (.c (.int .i64 0))⟩, ⟨some 31, none, .pick (.t 23) (.t 30) (.c (.bool false))⟩, ⟨some 6, none, .asg (.p 31)⟩])
 .ret))⟩
/-- spec.mNext -/
def a_spec_mNext : AFn := ⟨3, 14, [.tmp 6], (.seq (.reg [⟨some 3, none, .box (.t 0)⟩, ⟨some 6, none, .asg (.c (.int .i64 0))⟩])
 (.seq (.reg [⟨some 7, none, .load true 5 (.t 3)⟩, ⟨some 8, none, .load true 5 (.t 3)⟩, ⟨some 9, none, .mv (.p 1)⟩, ⟨some 10, none, .call n_spec_mHex [.a 8 3, .t 9]⟩, ⟨some 11, none, .mv (.p 2)⟩, ⟨some 12, none, .call n_spec_hStep [.t 10, .t 11]⟩, ⟨some 13, none, .call n_spec_mIndex [.a 7 3, .t 12]⟩, ⟨some 6, none, .asg (.p 13)⟩])
 .ret))⟩
def b_laws_toTerrainS_0 : AC := (.seq (.seq (.reg [⟨some 8, none, .mv (.p 4)⟩, ⟨some 9, none, .rf (.t 0)⟩, ⟨some 10, none, .len (.a 9 0)⟩, ⟨some 11, none, .bin .lss (.t 8) (.t 10)⟩])
 (.cond (.t 11) .skip (.exit 0)))
 (.seq (.block 1 (.reg [⟨some 14, none, .rf (.t 3)⟩, ⟨some 15, none, .mv (.p 4)⟩, ⟨some 16, none, .rf (.t 0)⟩, ⟨some 17, none, .mv (.p 4)⟩, ⟨some 18, none, .iaddr 5 (.a 16 0) (.t 17)⟩, ⟨some 19, none, .load true 5 (.a 18 0)⟩, ⟨some 20, none, .call n_laws_toTerrain [.a 19 0]⟩, ⟨some 21, none, .iaddr 5 (.a 14 3) (.t 15)⟩, ⟨none, none, .store 5 (.a 21 3) (.t 20)⟩]))
 (.reg [⟨some 12, none, .mv (.p 4)⟩, ⟨some 13, none, .bin .add (.t 12) (.c (.int .i64 1))⟩, ⟨some 4, none, .asg (.p 13)⟩])))
/-- laws.toTerrainS -/
def a_laws_toTerrainS : AFn := ⟨1, 23, [.tmp 2], (.seq (.reg [⟨some 2, none, .asg (.c (.list true 5 []))⟩])
 (.seq (.reg [⟨some 5, none, .rf (.t 0)⟩, ⟨some 6, none, .len (.a 5 0)⟩, ⟨some 7, none, .mslice 5 [.str ⟨#[]⟩, .list true 1 [], .int .i64 0, .int .i64 0, .bool false] (.t 6)⟩, ⟨some 3, none, .asg (.t 7)⟩])
 (.seq (.seq (.reg [⟨some 4, none, .asg (.c (.int .i64 0))⟩])
 (.block 0 (.loop [0, 3, 4] [2, 3] b_laws_toTerrainS_0)))
 (.seq (.reg [⟨some 22, none, .rf (.t 3)⟩, ⟨some 2, none, .asg (.a 22 3)⟩])
 .ret))))⟩
def b_laws_toKindS_0 : AC := (.seq (.seq (.reg [⟨some 8, none, .mv (.p 4)⟩, ⟨some 9, none, .rf (.t 0)⟩, ⟨some 10, none, .len (.a 9 0)⟩, ⟨some 11, none, .bin .lss (.t 8) (.t 10)⟩])
 (.cond (.t 11) .skip (.exit 0)))
 (.seq (.block 1 (.reg [⟨some 14, none, .rf (.t 3)⟩, ⟨some 15, none, .mv (.p 4)⟩, ⟨some 16, none, .rf (.t 0)⟩, ⟨some 17, none, .mv (.p 4)⟩, ⟨some 18, none, .iaddr 6 (.a 16 0) (.t 17)⟩, ⟨some 19, none, .load true 6 (.a 18 0)⟩, ⟨some 20, none, .call n_laws_toKind [.a 19 0]⟩, ⟨some 21, none, .iaddr 6 (.a 14 3) (.t 15)⟩, ⟨none, none, .store 6 (.a 21 3) (.t 20)⟩]))
 (.reg [⟨some 12, none, .mv (.p 4)⟩, ⟨some 13, none, .bin .add (.t 12) (.c (.int .i64 1))⟩, ⟨some 4, none, .asg (.p 13)⟩])))
/-- laws.toKindS -/
def a_laws_toKindS : AFn := ⟨1, 23, [.tmp 2], (.seq (.reg [⟨some 2, none, .asg (.c (.list true 6 []))⟩])
 (.seq (.reg [⟨some 5, none, .rf (.t 0)⟩, ⟨some 6, none, .len (.a 5 0)⟩, ⟨some 7, none, .mslice 6 [.str ⟨#[]⟩, .int .i64 0, .int .i64 0, .int .i64 0, .bool false, .int .i64 0] (.t 6)⟩, ⟨some 3, none, .asg (.t 7)⟩])
 (.seq (.seq (.reg [⟨some 4, none, .asg (.c (.int .i64 0))⟩])
 (.block 0 (.loop [0, 3, 4] [2, 3] b_laws_toKindS_0)))
 (.seq (.reg [⟨some 22, none, .rf (.t 3)⟩, ⟨some 2, none, .asg (.a 22 3)⟩])
 .ret))))⟩
/-- laws.toUnit -/
def a_laws_toUnit : AFn := ⟨1, 17, [.cell 2 4 true], (.seq (.reg [⟨some 1, none, .box (.t 0)⟩, ⟨some 2, none, .alloc [.int .i64 0, .int .i64 0, .int .i64 0, .int .i64 0]⟩])
 (.seq (.reg [⟨some 3, none, .alloc [.int .i64 0, .int .i64 0, .int .i64 0, .int .i64 0]⟩])
 (.seq (.reg [⟨some 4, none, .faddr 0 (.t 1)⟩, ⟨some 5, none, .load false 1 (.a 4 1)⟩, ⟨some 6, none, .faddr 0 (.t 3)⟩, ⟨none, none, .store 1 (.a 6 3) (.p 5)⟩])
 (.seq (.reg [⟨some 7, none, .faddr 1 (.t 1)⟩, ⟨some 8, none, .load false 1 (.a 7 1)⟩, ⟨some 9, none, .faddr 1 (.t 3)⟩, ⟨none, none, .store 1 (.a 9 3) (.p 8)⟩])
 (.seq (.reg [⟨some 10, none, .faddr 2 (.t 1)⟩, ⟨some 11, none, .load false 1 (.a 10 1)⟩, ⟨some 12, none, .faddr 2 (.t 3)⟩, ⟨none, none, .store 1 (.a 12 3) (.p 11)⟩])
 (.seq (.reg [⟨some 13, none, .faddr 3 (.t 1)⟩, ⟨some 14, none, .load false 1 (.a 13 1)⟩, ⟨some 15, none, .faddr 3 (.t 3)⟩, ⟨none, none, .store 1 (.a 15 3) (.p 14)⟩])
 (.seq (.reg [⟨some 16, none, .load true 4 (.t 3)⟩, ⟨none, none, .store 4 (.t 2) (.a 16 3)⟩])
 .ret)))))))⟩
/-- impl.IsBoard -/
def a_impl_IsBoard : AFn := ⟨1, 19, [.tmp 2], (.seq (.reg [⟨some 1, none, .box (.t 0)⟩, ⟨some 2, none, .asg (.c (.bool false))⟩])
 (.seq (.seq (.reg [⟨some 3, none, .faddr 0 (.t 1)⟩, ⟨some 4, none, .load true 7 (.a 3 1)⟩, ⟨some 5, none, .call n_impl_IsRules [.a 4 1]⟩, ⟨some 6, none, .un .not (.t 5)⟩, ⟨some 7, none, .mv (.p 6)⟩, ⟨some 8, some (7, false), .faddr 7 (.t 1)⟩, ⟨some 9, some (7, false), .load true 5 (.a 8 1)⟩, ⟨some 10, some (7, false), .call n_impl_IsMap [.a 9 1]⟩, ⟨some 11, some (7, false), .un .not (.t 10)⟩, ⟨some 12, none, .pick (.t 7) (.c (.bool true)) (.t 11)⟩])
 (.cond (.t 12) (.seq (.reg [⟨some 2, none, .asg (.c (.bool false))⟩])
 .ret) .skip))
 (.seq (.reg [⟨some 13, none, .faddr 7 (.t 1)⟩, ⟨some 14, none, .faddr 2 (.a 13 1)⟩, ⟨some 15, none, .load false 1 (.a 14 1)⟩, ⟨some 16, none, .mkf n_impl_IsBoard_1 [.t 1]⟩, ⟨some 17, none, .call n_slices_ContainsFunc_int_int [.a 15 1, .t 16]⟩, ⟨some 18, none, .un .not (.t 17)⟩, ⟨some 2, none, .asg (.p 18)⟩])
 .ret)))⟩
def b_impl_goodState_0 : AC := (.seq (.reg [⟨some 34, none, .bin .lss (.t 33) (.t 32)⟩])
 (.seq (.cond (.t 34) .skip (.exit 0))
 (.seq (.block 1 (.seq (.reg [⟨some 35, none, .iaddr 4 (.a 31 3) (.t 33)⟩, ⟨some 36, none, .load true 4 (.a 35 3)⟩, ⟨some 7, none, .alloc [.int .i64 0, .int .i64 0, .int .i64 0, .int .i64 0]⟩, ⟨none, none, .store 4 (.t 7) (.a 36 3)⟩])
 (.seq (.seq (.reg [⟨some 37, none, .load true 12 (.t 2)⟩, ⟨some 38, none, .load true 4 (.t 7)⟩, ⟨some 39, none, .call n_impl_goodUnit [.a 37 2, .a 38 7]⟩, ⟨some 40, none, .un .not (.t 39)⟩])
 (.cond (.t 40) (.seq (.reg [⟨some 4, none, .asg (.c (.bool false))⟩])
 .ret) .skip))
 (.seq (.seq (.reg [⟨some 41, none, .faddr 2 (.t 7)⟩, ⟨some 42, none, .load false 1 (.a 41 7)⟩, ⟨some 43, none, .bin .lss (.a 42 7) (.c (.int .i64 0))⟩])
 (.cond (.t 43) (.exit 1) .skip))
 (.seq (.reg [⟨some 44, none, .rf (.t 5)⟩, ⟨some 45, none, .faddr 2 (.t 7)⟩, ⟨some 46, none, .load false 1 (.a 45 7)⟩, ⟨some 47, none, .faddr 0 (.t 7)⟩, ⟨some 48, none, .load false 1 (.a 47 7)⟩, ⟨some 49, none, .iaddr 2 (.a 44 5) (.a 46 7)⟩, ⟨some 50, none, .aaddr 2 1 (.a 49 5) (.a 48 7)⟩, ⟨some 51, none, .load false 1 (.a 50 5)⟩, ⟨some 52, none, .bin .add (.a 51 5) (.c (.int .i64 1))⟩, ⟨some 53, none, .iaddr 2 (.a 44 5) (.a 46 7)⟩, ⟨some 54, none, .aaddr 2 1 (.a 53 5) (.a 48 7)⟩, ⟨none, none, .store 1 (.a 54 5) (.p 52)⟩])
 (.seq (.reg [⟨some 55, none, .rf (.t 5)⟩, ⟨some 56, none, .faddr 2 (.t 7)⟩, ⟨some 57, none, .load false 1 (.a 56 7)⟩, ⟨some 58, none, .faddr 0 (.t 7)⟩, ⟨some 59, none, .load false 1 (.a 58 7)⟩, ⟨some 60, none, .bin .sub (.c (.int .i64 1)) (.a 59 7)⟩, ⟨some 61, none, .iaddr 2 (.a 55 5) (.a 57 7)⟩, ⟨some 62, none, .aaddr 2 1 (.a 61 5) (.t 60)⟩, ⟨some 63, none, .load false 1 (.a 62 5)⟩, ⟨some 64, none, .bin .gtr (.a 63 5) (.c (.int .i64 0))⟩, ⟨some 65, none, .mv (.p 64)⟩, ⟨some 66, some (65, false), .rf (.t 5)⟩, ⟨some 67, some (65, false), .faddr 2 (.t 7)⟩, ⟨some 68, some (65, false), .load false 1 (.a 67 7)⟩, ⟨some 69, some (65, false), .faddr 0 (.t 7)⟩, ⟨some 70, some (65, false), .load false 1 (.a 69 7)⟩, ⟨some 71, some (65, false), .iaddr 2 (.a 66 5) (.a 68 7)⟩, ⟨some 72, some (65, false), .aaddr 2 1 (.a 71 5) (.a 70 7)⟩, ⟨some 73, some (65, false), .load false 1 (.a 72 5)⟩, ⟨some 74, some (65, false), .faddr 0 (.t 2)⟩, ⟨some 75, some (65, false), .faddr 2 (.a 74 2)⟩, ⟨some 76, some (65, false), .load false 1 (.a 75 2)⟩, ⟨some 77, some (65, false), .bin .gtr (.a 73 5) (.a 76 2)⟩, ⟨some 78, none, .pick (.t 65) (.c (.bool true)) (.t 77)⟩])
 (.cond (.t 78) (.seq (.reg [⟨some 4, none, .asg (.c (.bool false))⟩])
 .ret) .skip)))))))
 (.reg [⟨some 79, none, .bin .add (.t 33) (.c (.int .i64 1))⟩, ⟨some 33, none, .mv (.p 79)⟩]))))
/-- impl.goodState -/
def a_impl_goodState : AFn := ⟨2, 80, [.tmp 4], (.seq (.reg [⟨some 2, none, .box (.t 0)⟩, ⟨some 3, none, .box (.t 1)⟩, ⟨some 4, none, .asg (.c (.bool false))⟩])
 (.seq (.seq (.reg [⟨some 8, none, .faddr 0 (.t 3)⟩, ⟨some 9, none, .load false 1 (.a 8 3)⟩, ⟨some 10, none, .faddr 0 (.t 2)⟩, ⟨some 11, none, .faddr 6 (.a 10 2)⟩, ⟨some 12, none, .load false 1 (.a 11 2)⟩, ⟨some 13, none, .call n_impl_inRange [.a 9 3, .c (.int .i64 0), .a 12 2]⟩, ⟨some 14, none, .un .not (.t 13)⟩, ⟨some 15, none, .mv (.p 14)⟩, ⟨some 16, some (15, false), .faddr 1 (.t 3)⟩, ⟨some 17, some (15, false), .load false 1 (.a 16 3)⟩, ⟨some 18, some (15, false), .call n_impl_inRange [.a 17 3, .c (.int .i64 0), .c (.int .i64 2)]⟩, ⟨some 19, some (15, false), .un .not (.t 18)⟩, ⟨some 20, none, .pick (.t 15) (.c (.bool true)) (.t 19)⟩, ⟨some 21, none, .mv (.p 20)⟩, ⟨some 22, some (21, false), .faddr 2 (.t 3)⟩, ⟨some 23, some (21, false), .load false 1 (.a 22 3)⟩, ⟨some 24, some (21, false), .len (.a 23 3)⟩, ⟨some 25, some (21, false), .bin .gtr (.t 24) (.c (.int .i64 12))⟩, ⟨some 26, none, .pick (.t 21) (.c (.bool true)) (.t 25)⟩])
 (.cond (.t 26) (.seq (.reg [⟨some 4, none, .asg (.c (.bool false))⟩])
 .ret) .skip))
 (.seq (.reg [⟨some 27, none, .load true 12 (.t 2)⟩, ⟨some 28, none, .call n_impl_sizeOf [.a 27 2]⟩, ⟨some 29, none, .mslice 2 [.int .i64 0, .int .i64 0] (.t 28)⟩, ⟨some 5, none, .asg (.t 29)⟩])
 (.seq (.seq (.reg [⟨some 30, none, .faddr 2 (.t 3)⟩, ⟨some 31, none, .load false 1 (.a 30 3)⟩, ⟨some 32, none, .len (.a 31 3)⟩, ⟨some 33, none, .mv (.c (.int .i64 0))⟩])
 (.block 0 (.loop [2, 3, 5, 31, 32, 33] [4] b_impl_goodState_0)))
 (.seq (.reg [⟨some 4, none, .asg (.c (.bool true))⟩])
 .ret)))))⟩
/-- impl.inRange -/
def a_impl_inRange : AFn := ⟨3, 15, [.tmp 6], (.seq (.reg [⟨some 6, none, .asg (.c (.bool false))⟩])
 (.seq (.reg [⟨some 7, none, .mv (.p 1)⟩, ⟨some 8, none, .mv (.p 0)⟩, ⟨some 9, none, .bin .leq (.t 7) (.t 8)⟩, ⟨some 10, none, .mv (.p 9)⟩, ⟨some 11, some (10, true), .mv (.p 0)⟩, ⟨some 12, some (10, true), .mv (.p 2)⟩, ⟨some 13, some (10, true), .bin .leq (.t 11) (.t 12)⟩, ⟨some 14, none, .pick (.t 10) (.t 13) (.c (.bool false))⟩, ⟨some 6, none, .asg (.p 14)⟩])
 .ret))⟩
/-- impl.ownsUnit -/
def a_impl_ownsUnit : AFn := ⟨3, 31, [.tmp 6], (.seq (.reg [⟨some 3, none, .box (.t 0)⟩, ⟨some 6, none, .asg (.c (.bool false))⟩])
 (.seq (.reg [⟨some 7, none, .mv (.p 2)⟩, ⟨some 8, none, .faddr 2 (.t 3)⟩, ⟨some 9, none, .load false 1 (.a 8 3)⟩, ⟨some 10, none, .len (.a 9 3)⟩, ⟨some 11, none, .call n_impl_isIndex [.t 7, .t 10]⟩, ⟨some 12, none, .mv (.p 11)⟩, ⟨some 13, some (12, true), .faddr 2 (.t 3)⟩, ⟨some 14, some (12, true), .load false 1 (.a 13 3)⟩, ⟨some 15, some (12, true), .mv (.p 2)⟩, ⟨some 16, some (12, true), .iaddr 4 (.a 14 3) (.t 15)⟩, ⟨some 17, some (12, true), .faddr 0 (.a 16 3)⟩, ⟨some 18, some (12, true), .load false 1 (.a 17 3)⟩, ⟨some 19, some (12, true), .mv (.p 1)⟩, ⟨some 20, some (12, true), .bin .eql (.a 18 3) (.t 19)⟩, ⟨some 21, none, .pick (.t 12) (.t 20) (.c (.bool false))⟩, ⟨some 22, none, .mv (.p 21)⟩, ⟨some 23, some (22, true), .faddr 2 (.t 3)⟩, ⟨some 24, some (22, true), .load false 1 (.a 23 3)⟩, ⟨some 25, some (22, true), .mv (.p 2)⟩, ⟨some 26, some (22, true), .iaddr 4 (.a 24 3) (.t 25)⟩, ⟨some 27, some (22, true), .faddr 2 (.a 26 3)⟩, ⟨some 28, some (22, true), .load false 1 (.a 27 3)⟩, ⟨some 29, some (22, true), .bin .geq (.a 28 3) (.c (.int .i64 0))⟩, ⟨some 30, none, .pick (.t 22) (.t 29) (.c (.bool false))⟩, ⟨some 6, none, .asg (.p 30)⟩])
 .ret))⟩
/-- slices.Contains[[]int,int] -/
def a_slices_Contains_int_int : AFn := ⟨2, 9, [.tmp 4], (.seq (.reg [⟨some 4, none, .asg (.c (.bool false))⟩])
 (.seq (.reg [⟨some 5, none, .rf (.t 0)⟩, ⟨some 6, none, .mv (.p 1)⟩, ⟨some 7, none, .call n_slices_Index_int_int [.a 5 0, .t 6]⟩, ⟨some 8, none, .bin .geq (.t 7) (.c (.int .i64 0))⟩, ⟨some 4, none, .asg (.p 8)⟩])
 .ret))⟩
def b_impl_neighboursOn_0 : AC := (.seq (.reg [⟨some 10, none, .bin .lss (.t 9) (.c (.int .i64 6))⟩])
 (.seq (.cond (.t 10) .skip (.exit 0))
 (.seq (.block 1 (.seq (.reg [⟨some 11, none, .mv (.p 9)⟩, ⟨some 6, none, .asg (.p 11)⟩])
 (.seq (.reg [⟨some 12, none, .load true 5 (.t 2)⟩, ⟨some 13, none, .mv (.p 1)⟩, ⟨some 14, none, .mv (.p 6)⟩, ⟨some 15, none, .call n_impl_nextTo [.a 12 2, .t 13, .t 14]⟩, ⟨some 7, none, .asg (.p 15)⟩])
 (.seq (.reg [⟨some 16, none, .mv (.p 7)⟩, ⟨some 17, none, .bin .geq (.t 16) (.c (.int .i64 0))⟩])
 (.cond (.t 17) (.reg [⟨some 18, none, .rf (.t 5)⟩, ⟨some 19, none, .mv (.p 7)⟩, ⟨some 20, none, .bslice 1 1 [.int .i64 0] [(0, .p 19)]⟩, ⟨some 21, none, .append 1 (.a 18 5) (.t 20)⟩, ⟨some 5, none, .asg (.t 21)⟩]) .skip)))))
 (.reg [⟨some 22, none, .bin .add (.t 9) (.c (.int .i64 1))⟩, ⟨some 9, none, .mv (.p 22)⟩]))))
/-- impl.neighboursOn -/
def a_impl_neighboursOn : AFn := ⟨2, 24, [.tmp 4], (.seq (.reg [⟨some 2, none, .box (.t 0)⟩, ⟨some 4, none, .asg (.c (.list true 1 []))⟩])
 (.seq (.reg [⟨some 8, none, .bslice 1 0 [.int .i64 0] []⟩, ⟨some 5, none, .asg (.t 8)⟩])
 (.seq (.seq (.reg [⟨some 9, none, .mv (.c (.int .i64 0))⟩])
 (.block 0 (.loop [1, 2, 5, 9] [4, 5] b_impl_neighboursOn_0)))
 (.seq (.reg [⟨some 23, none, .rf (.t 5)⟩, ⟨some 4, none, .asg (.a 23 5)⟩])
 .ret))))⟩
def b_laws_eqTerrainS_0 : AC := (.seq (.seq (.reg [⟨some 11, none, .mv (.p 5)⟩, ⟨some 12, none, .rf (.t 0)⟩, ⟨some 13, none, .len (.a 12 0)⟩, ⟨some 14, none, .bin .lss (.t 11) (.t 13)⟩])
 (.cond (.t 14) .skip (.exit 0)))
 (.seq (.block 1 (.seq (.reg [⟨some 17, none, .rf (.t 0)⟩, ⟨some 18, none, .mv (.p 5)⟩, ⟨some 19, none, .iaddr 5 (.a 17 0) (.t 18)⟩, ⟨some 20, none, .load true 5 (.a 19 0)⟩, ⟨some 21, none, .rf (.t 1)⟩, ⟨some 22, none, .mv (.p 5)⟩, ⟨some 23, none, .iaddr 5 (.a 21 1) (.t 22)⟩, ⟨some 24, none, .load true 5 (.a 23 1)⟩, ⟨some 25, none, .call n_laws_eqTerrain [.a 20 0, .a 24 1]⟩, ⟨some 26, none, .un .not (.t 25)⟩])
 (.cond (.t 26) (.seq (.reg [⟨some 4, none, .asg (.c (.bool false))⟩])
 .ret) .skip)))
 (.reg [⟨some 15, none, .mv (.p 5)⟩, ⟨some 16, none, .bin .add (.t 15) (.c (.int .i64 1))⟩, ⟨some 5, none, .asg (.p 16)⟩])))
/-- laws.eqTerrainS -/
def a_laws_eqTerrainS : AFn := ⟨2, 27, [.tmp 4], (.seq (.reg [⟨some 4, none, .asg (.c (.bool false))⟩])
 (.seq (.seq (.reg [⟨some 6, none, .rf (.t 0)⟩, ⟨some 7, none, .len (.a 6 0)⟩, ⟨some 8, none, .rf (.t 1)⟩, ⟨some 9, none, .len (.a 8 1)⟩, ⟨some 10, none, .bin .neq (.t 7) (.t 9)⟩])
 (.cond (.t 10) (.seq (.reg [⟨some 4, none, .asg (.c (.bool false))⟩])
 .ret) .skip))
 (.seq (.seq (.reg [⟨some 5, none, .asg (.c (.int .i64 0))⟩])
 (.block 0 (.loop [0, 1, 5] [4] b_laws_eqTerrainS_0)))
 (.seq (.reg [⟨some 4, none, .asg (.c (.bool true))⟩])
 .ret))))⟩
def b_laws_eqKindS_0 : AC := (.seq (.seq (.reg [⟨some 11, none, .mv (.p 5)⟩, ⟨some 12, none, .rf (.t 0)⟩, ⟨some 13, none, .len (.a 12 0)⟩, ⟨some 14, none, .bin .lss (.t 11) (.t 13)⟩])
 (.cond (.t 14) .skip (.exit 0)))
 (.seq (.block 1 (.seq (.reg [⟨some 17, none, .rf (.t 0)⟩, ⟨some 18, none, .mv (.p 5)⟩, ⟨some 19, none, .iaddr 6 (.a 17 0) (.t 18)⟩, ⟨some 20, none, .load true 6 (.a 19 0)⟩, ⟨some 21, none, .rf (.t 1)⟩, ⟨some 22, none, .mv (.p 5)⟩, ⟨some 23, none, .iaddr 6 (.a 21 1) (.t 22)⟩, ⟨some 24, none, .load true 6 (.a 23 1)⟩, ⟨some 25, none, .call n_laws_eqKind [.a 20 0, .a 24 1]⟩, ⟨some 26, none, .un .not (.t 25)⟩])
 (.cond (.t 26) (.seq (.reg [⟨some 4, none, .asg (.c (.bool false))⟩])
 .ret) .skip)))
 (.reg [⟨some 15, none, .mv (.p 5)⟩, ⟨some 16, none, .bin .add (.t 15) (.c (.int .i64 1))⟩, ⟨some 5, none, .asg (.p 16)⟩])))
/-- laws.eqKindS -/
def a_laws_eqKindS : AFn := ⟨2, 27, [.tmp 4], (.seq (.reg [⟨some 4, none, .asg (.c (.bool false))⟩])
 (.seq (.seq (.reg [⟨some 6, none, .rf (.t 0)⟩, ⟨some 7, none, .len (.a 6 0)⟩, ⟨some 8, none, .rf (.t 1)⟩, ⟨some 9, none, .len (.a 8 1)⟩, ⟨some 10, none, .bin .neq (.t 7) (.t 9)⟩])
 (.cond (.t 10) (.seq (.reg [⟨some 4, none, .asg (.c (.bool false))⟩])
 .ret) .skip))
 (.seq (.seq (.reg [⟨some 5, none, .asg (.c (.int .i64 0))⟩])
 (.block 0 (.loop [0, 1, 5] [4] b_laws_eqKindS_0)))
 (.seq (.reg [⟨some 4, none, .asg (.c (.bool true))⟩])
 .ret))))⟩
/-- laws.eqUnit -/
def a_laws_eqUnit : AFn := ⟨2, 25, [.tmp 4], (.seq (.reg [⟨some 2, none, .box (.t 0)⟩, ⟨some 3, none, .box (.t 1)⟩, ⟨some 4, none, .asg (.c (.bool false))⟩])
 (.seq (.seq (.reg [⟨some 5, none, .faddr 0 (.t 2)⟩, ⟨some 6, none, .load false 1 (.a 5 2)⟩, ⟨some 7, none, .faddr 0 (.t 3)⟩, ⟨some 8, none, .load false 1 (.a 7 3)⟩, ⟨some 9, none, .bin .neq (.a 6 2) (.a 8 3)⟩])
 (.cond (.t 9) (.seq (.reg [⟨some 4, none, .asg (.c (.bool false))⟩])
 .ret) .skip))
 (.seq (.seq (.reg [⟨some 10, none, .faddr 1 (.t 2)⟩, ⟨some 11, none, .load false 1 (.a 10 2)⟩, ⟨some 12, none, .faddr 1 (.t 3)⟩, ⟨some 13, none, .load false 1 (.a 12 3)⟩, ⟨some 14, none, .bin .neq (.a 11 2) (.a 13 3)⟩])
 (.cond (.t 14) (.seq (.reg [⟨some 4, none, .asg (.c (.bool false))⟩])
 .ret) .skip))
 (.seq (.seq (.reg [⟨some 15, none, .faddr 2 (.t 2)⟩, ⟨some 16, none, .load false 1 (.a 15 2)⟩, ⟨some 17, none, .faddr 2 (.t 3)⟩, ⟨some 18, none, .load false 1 (.a 17 3)⟩, ⟨some 19, none, .bin .neq (.a 16 2) (.a 18 3)⟩])
 (.cond (.t 19) (.seq (.reg [⟨some 4, none, .asg (.c (.bool false))⟩])
 .ret) .skip))
 (.seq (.seq (.reg [⟨some 20, none, .faddr 3 (.t 2)⟩, ⟨some 21, none, .load false 1 (.a 20 2)⟩, ⟨some 22, none, .faddr 3 (.t 3)⟩, ⟨some 23, none, .load false 1 (.a 22 3)⟩, ⟨some 24, none, .bin .neq (.a 21 2) (.a 23 3)⟩])
 (.cond (.t 24) (.seq (.reg [⟨some 4, none, .asg (.c (.bool false))⟩])
 .ret) .skip))
 (.seq (.reg [⟨some 4, none, .asg (.c (.bool true))⟩])
 .ret))))))⟩
/-- spec.sHas -/
def a_spec_sHas : AFn := ⟨3, 18, [.tmp 6], (.seq (.reg [⟨some 3, none, .box (.t 0)⟩, ⟨some 4, none, .box (.t 1)⟩, ⟨some 6, none, .asg (.c (.bool false))⟩])
 (.seq (.reg [⟨some 7, none, .load true 12 (.t 3)⟩, ⟨some 8, none, .load true 3 (.t 4)⟩, ⟨some 9, none, .call n_spec_sGood [.a 7 3, .a 8 4]⟩, ⟨some 10, none, .mv (.p 9)⟩, ⟨some 11, some (10, true), .mv (.p 2)⟩, ⟨some 12, some (10, true), .faddr 2 (.t 4)⟩, ⟨some 13, some (10, true), .load false 1 (.a 12 4)⟩, ⟨some 14, some (10, true), .len (.a 13 4)⟩, ⟨some 15, some (10, true), .bin .sub (.t 14) (.c (.int .i64 1))⟩, ⟨some 16, some (10, true), .call n_spec_l1In [.t 11, .c (.int .i64 0), .t 15]⟩, ⟨some 17, none, .pick (.t 10) (.t 16) (.c (.bool false))⟩, ⟨some 6, none, .asg (.p 17)⟩])
 .ret))⟩
/-- impl.hasUnit -/
def a_impl_hasUnit : AFn := ⟨3, 17, [.tmp 6], (.seq (.reg [⟨some 3, none, .box (.t 0)⟩, ⟨some 4, none, .box (.t 1)⟩, ⟨some 6, none, .asg (.c (.bool false))⟩])
 (.seq (.reg [⟨some 7, none, .load true 12 (.t 3)⟩, ⟨some 8, none, .load true 3 (.t 4)⟩, ⟨some 9, none, .call n_impl_fits [.a 7 3, .a 8 4]⟩, ⟨some 10, none, .mv (.p 9)⟩, ⟨some 11, some (10, true), .mv (.p 2)⟩, ⟨some 12, some (10, true), .faddr 2 (.t 4)⟩, ⟨some 13, some (10, true), .load false 1 (.a 12 4)⟩, ⟨some 14, some (10, true), .len (.a 13 4)⟩, ⟨some 15, some (10, true), .call n_impl_isIndex [.t 11, .t 14]⟩, ⟨some 16, none, .pick (.t 10) (.t 15) (.c (.bool false))⟩, ⟨some 6, none, .asg (.p 16)⟩])
 .ret))⟩
def b_impl_pathHexes_0 : AC := (.seq (.reg [⟨some 15, none, .bin .lss (.t 14) (.t 13)⟩])
 (.seq (.cond (.t 15) .skip (.exit 0))
 (.seq (.block 1 (.seq (.reg [⟨some 16, none, .iaddr 1 (.a 12 2) (.t 14)⟩, ⟨some 17, none, .load false 1 (.a 16 2)⟩, ⟨some 10, none, .asg (.p 17)⟩])
 (.seq (.reg [⟨some 18, none, .load true 5 (.t 3)⟩, ⟨some 19, none, .mv (.p 1)⟩, ⟨some 20, none, .mv (.p 10)⟩, ⟨some 21, none, .call n_impl_nextTo [.a 18 3, .t 19, .t 20]⟩, ⟨some 1, none, .asg (.p 21)⟩])
 (.seq (.seq (.reg [⟨some 22, none, .mv (.p 1)⟩, ⟨some 23, none, .bin .lss (.t 22) (.c (.int .i64 0))⟩])
 (.cond (.t 23) (.seq (.reg [⟨some 6, none, .asg (.c (.list true 1 []))⟩, ⟨some 7, none, .asg (.c (.bool false))⟩])
 .ret) .skip))
 (.reg [⟨some 24, none, .rf (.t 8)⟩, ⟨some 25, none, .mv (.p 1)⟩, ⟨some 26, none, .bslice 1 1 [.int .i64 0] [(0, .p 25)]⟩, ⟨some 27, none, .append 1 (.a 24 8) (.t 26)⟩, ⟨some 8, none, .asg (.t 27)⟩])))))
 (.reg [⟨some 28, none, .bin .add (.t 14) (.c (.int .i64 1))⟩, ⟨some 14, none, .mv (.p 28)⟩]))))
/-- impl.pathHexes -/
def a_impl_pathHexes : AFn := ⟨3, 30, [.tmp 6, .tmp 7], (.seq (.reg [⟨some 3, none, .box (.t 0)⟩, ⟨some 6, none, .asg (.c (.list true 1 []))⟩, ⟨some 7, none, .asg (.c (.bool false))⟩])
 (.seq (.reg [⟨some 11, none, .bslice 1 0 [.int .i64 0] []⟩, ⟨some 8, none, .asg (.t 11)⟩])
 (.seq (.seq (.reg [⟨some 12, none, .rf (.t 2)⟩, ⟨some 13, none, .len (.a 12 2)⟩, ⟨some 14, none, .mv (.c (.int .i64 0))⟩])
 (.block 0 (.loop [1, 2, 3, 8, 12, 13, 14] [6, 7, 8] b_impl_pathHexes_0)))
 (.seq (.reg [⟨some 29, none, .rf (.t 8)⟩, ⟨some 6, none, .asg (.a 29 8)⟩, ⟨some 7, none, .asg (.c (.bool true))⟩])
 .ret))))⟩
def b_spec_fGood_0 : AC := (.seq (.reg [⟨some 12, none, .bin .lss (.t 11) (.t 10)⟩])
 (.seq (.cond (.t 12) .skip (.exit 0))
 (.seq (.block 1 (.seq (.reg [⟨some 13, none, .mv (.p 11)⟩, ⟨some 14, none, .iaddr 3 (.a 9 2) (.t 11)⟩, ⟨some 15, none, .load true 3 (.a 14 2)⟩, ⟨some 8, none, .alloc [.int .i64 0, .int .i64 0, .int .i64 0]⟩, ⟨some 7, none, .asg (.p 13)⟩, ⟨none, none, .store 3 (.t 8) (.a 15 2)⟩])
 (.seq (.reg [⟨some 16, none, .load true 12 (.t 3)⟩, ⟨some 17, none, .load true 3 (.t 4)⟩, ⟨some 18, none, .load true 3 (.t 8)⟩, ⟨some 19, none, .call n_spec_fTry [.a 16 3, .a 17 4, .a 18 8]⟩, ⟨some 20, none, .un .not (.t 19)⟩, ⟨some 21, none, .mv (.p 20)⟩, ⟨some 22, some (21, false), .mv (.p 7)⟩, ⟨some 23, some (21, false), .bin .gtr (.t 22) (.c (.int .i64 0))⟩, ⟨some 24, some (21, false), .mv (.p 23)⟩, ⟨some 25, some (24, true), .rf (.t 2)⟩, ⟨some 26, some (24, true), .mv (.p 7)⟩, ⟨some 27, some (24, true), .bin .sub (.t 26) (.c (.int .i64 1))⟩, ⟨some 28, some (24, true), .iaddr 3 (.a 25 2) (.t 27)⟩, ⟨some 29, some (24, true), .faddr 0 (.a 28 2)⟩, ⟨some 30, some (24, true), .load false 1 (.a 29 2)⟩, ⟨some 31, some (24, true), .faddr 0 (.t 8)⟩, ⟨some 32, some (24, true), .load false 1 (.a 31 8)⟩, ⟨some 33, some (24, true), .bin .geq (.a 30 2) (.a 32 8)⟩, ⟨some 34, some (21, false), .pick (.t 24) (.t 33) (.c (.bool false))⟩, ⟨some 35, none, .pick (.t 21) (.c (.bool true)) (.t 34)⟩])
 (.cond (.t 35) (.seq (.reg [⟨some 6, none, .asg (.c (.bool false))⟩])
 .ret) .skip))))
 (.reg [⟨some 36, none, .bin .add (.t 11) (.c (.int .i64 1))⟩, ⟨some 11, none, .mv (.p 36)⟩]))))
/-- spec.fGood -/
def a_spec_fGood : AFn := ⟨3, 37, [.tmp 6], (.seq (.reg [⟨some 3, none, .box (.t 0)⟩, ⟨some 4, none, .box (.t 1)⟩, ⟨some 6, none, .asg (.c (.bool false))⟩])
 (.seq (.seq (.reg [⟨some 9, none, .rf (.t 2)⟩, ⟨some 10, none, .len (.a 9 2)⟩, ⟨some 11, none, .mv (.c (.int .i64 0))⟩])
 (.block 0 (.loop [2, 3, 4, 9, 10, 11] [6] b_spec_fGood_0)))
 (.seq (.reg [⟨some 6, none, .asg (.c (.bool true))⟩])
 .ret)))⟩
def b_spec_fStays_0 : AC := (.seq (.reg [⟨some 18, none, .bin .lss (.t 17) (.t 16)⟩])
 (.seq (.cond (.t 18) .skip (.exit 0))
 (.seq (.block 1 (.seq (.reg [⟨some 19, none, .iaddr 1 (.t 15) (.t 17)⟩, ⟨some 20, none, .load false 1 (.a 19 15)⟩, ⟨some 11, none, .asg (.p 20)⟩])
 (.seq (.reg [⟨some 21, none, .rf (.t 1)⟩, ⟨some 22, none, .mv (.p 11)⟩, ⟨some 23, none, .call n_spec_fLeaves [.a 21 1, .t 22]⟩, ⟨some 24, none, .un .not (.t 23)⟩])
 (.cond (.t 24) (.reg [⟨some 25, none, .mv (.p 9)⟩, ⟨some 26, none, .bin .add (.t 25) (.c (.int .i64 1))⟩, ⟨some 9, none, .asg (.p 26)⟩]) .skip))))
 (.reg [⟨some 27, none, .bin .add (.t 17) (.c (.int .i64 1))⟩, ⟨some 17, none, .mv (.p 27)⟩]))))
/-- spec.fStays -/
def a_spec_fStays : AFn := ⟨4, 29, [.tmp 8], (.seq (.reg [⟨some 4, none, .box (.t 0)⟩, ⟨some 8, none, .asg (.c (.int .i64 0))⟩])
 (.seq (.reg [⟨some 9, none, .asg (.c (.int .i64 0))⟩])
 (.seq (.seq (.reg [⟨some 12, none, .load true 3 (.t 4)⟩, ⟨some 13, none, .mv (.p 2)⟩, ⟨some 14, none, .mv (.p 3)⟩, ⟨some 15, none, .call n_spec_sAt [.a 12 4, .t 13, .t 14]⟩, ⟨some 16, none, .len (.t 15)⟩, ⟨some 17, none, .mv (.c (.int .i64 0))⟩])
 (.block 0 (.loop [1, 9, 15, 16, 17] [8, 9] b_spec_fStays_0)))
 (.seq (.reg [⟨some 28, none, .mv (.p 9)⟩, ⟨some 8, none, .asg (.p 28)⟩])
 .ret))))⟩
end Go.Abs.W
