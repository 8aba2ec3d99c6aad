/- The abstract code of the functions. -/
import Derived.Test.YtdhkoobikheabaaGreatDoorA3
set_option maxRecDepth 100000
namespace Go.Abs.W
open Go Go.Abs
def n_laws_FnExactResolveMovement : Nat := 3
def n_laws_szBoard : Nat := 4
def n_laws_szState : Nat := 5
def n_laws_szSheet : Nat := 6
def n_spec_ResolveMovement : Nat := 7
def n_laws_toBoard : Nat := 8
def n_laws_toState : Nat := 9
def n_laws_toSheet : Nat := 10
def n_impl_ResolveMovement : Nat := 11
def n_laws_eqState : Nat := 12
def n_laws_eqMovedS : Nat := 13
def n_laws_eqBoard : Nat := 14
def n_laws_eqSheet : Nat := 15
def n_laws_markBoard : Nat := 16
def n_laws_markState : Nat := 17
def n_laws_markSheet : Nat := 18
def n_laws_markMovedS : Nat := 19
def n_laws_heldState : Nat := 20
def n_laws_heldMovedS : Nat := 21
def n_laws_szRules : Nat := 22
def n_laws_szMap : Nat := 23
def n_laws_szUnitS : Nat := 24
def n_laws_szOrderS : Nat := 25
def n_spec_fSheets : Nat := 26
def n_spec_fResolve : Nat := 27
def n_laws_toRules : Nat := 28
def n_laws_toMap : Nat := 29
def n_laws_toUnitS : Nat := 30
def n_laws_toOrderS : Nat := 31
def n_impl_areSheets : Nat := 32
def n_impl_resolveMovement : Nat := 33
def n_impl_allOrders : Nat := 34
def n_laws_eqUnitS : Nat := 35
def n_laws_eqMoved : Nat := 36
def n_laws_eqRules : Nat := 37
def n_laws_eqMap : Nat := 38
def n_laws_eqOrderS : Nat := 39
def n_laws_markRules : Nat := 40
def n_laws_markMap : Nat := 41
def n_laws_markUnitS : Nat := 42
def n_laws_markOrderS : Nat := 43
def n_laws_heldUnitS : Nat := 44
def n_laws_szTerrainS : Nat := 45
def n_laws_szKindS : Nat := 46
def n_laws_szIntS : Nat := 47
def n_laws_szOrder : Nat := 48
def n_spec_oGood : Nat := 49
def n_spec_fOrders : Nat := 50
def n_spec_fDo : Nat := 51
def n_spec_fZone : Nat := 52
def n_spec_fAttempts : Nat := 53
def n_spec_fSettle : Nat := 54
def n_spec_fLeaves : Nat := 55
def n_laws_toTerrainS : Nat := 56
def n_laws_toKindS : Nat := 57
def n_laws_toIntS : Nat := 58
def n_laws_toUnit : Nat := 59
def n_laws_toOrder : Nat := 60
def n_impl_fits : Nat := 61
def n_impl_goodSheet : Nat := 62
def n_impl_cloneState : Nat := 63
def n_impl_attemptOf : Nat := 64
def n_impl_settle : Nat := 65
def n_impl_madeAttempts : Nat := 66
def n_slices_Concat_impl_Order_impl_Order : Nat := 67
def n_slices_SortFunc_impl_Order_impl_Order : Nat := 68
def n_impl_allOrders_1 : Nat := 69
def n_laws_eqUnit : Nat := 70
def n_laws_eqTerrainS : Nat := 71
def n_laws_eqKindS : Nat := 72
def n_laws_eqIntS : Nat := 73
def n_laws_eqOrder : Nat := 74
def n_laws_markTerrainS : Nat := 75
def n_laws_markKindS : Nat := 76
def n_laws_markIntS : Nat := 77
def n_laws_szTerrain : Nat := 78
def n_laws_szKind : Nat := 79
def n_spec_sGood : Nat := 80
def n_spec_oForm : Nat := 81
def n_spec_oFirst : Nat := 82
def n_spec_zIn : Nat := 83
def n_spec_mNext : Nat := 84
def n_spec_l1In : Nat := 85
def n_spec_cStep : Nat := 86
def n_spec_fReason : Nat := 87
def n_laws_toTerrain : Nat := 88
def n_laws_toKind : Nat := 89
def n_impl_IsBoard : Nat := 90
def n_impl_goodState : Nat := 91
def n_impl_isSide : Nat := 92
def n_impl_sheetFault : Nat := 93
def n_slices_Clone_impl_Unit_impl_Unit : Nat := 94
def n_impl_inRange : Nat := 95
def n_impl_stepCost : Nat := 96
def n_impl_nextTo : Nat := 97
def n_impl_zoneReason : Nat := 98
def n_slices_Clone_impl_Attempt_impl_Attempt : Nat := 99
def n_impl_attemptReason : Nat := 100
def n_slices_Grow_impl_Order_impl_Order : Nat := 101
def n_laws_eqTerrain : Nat := 104
def n_laws_eqKind : Nat := 105
def n_laws_markText : Nat := 106
def n_spec_bGood : Nat := 107
def n_spec_sUnit : Nat := 108
def n_spec_sAt : Nat := 109
def n_spec_oPlaced : Nat := 110
def n_spec_oFault : Nat := 111
def n_spec_zSources : Nat := 112
def n_spec_mIndex : Nat := 113
def n_spec_hStep : Nat := 114
def n_spec_mHex : Nat := 115
def n_spec_bCost : Nat := 116
def n_spec_mRoad : Nat := 117
def n_spec_csWeather : Nat := 118
def n_spec_mRiver : Nat := 119
def n_spec_fStays : Nat := 120
def n_impl_IsRules : Nat := 121
def n_impl_IsMap : Nat := 122
def n_slices_ContainsFunc_int_int : Nat := 123
def n_impl_IsBoard_1 : Nat := 124
def n_impl_sizeOf : Nat := 125
def n_impl_goodUnit : Nat := 126
def n_impl_orderFault : Nat := 127
def n_impl_enterCost : Nat := 128
def n_impl_edgeOf : Nat := 129
def n_slices_Contains_int_int : Nat := 130
def n_impl_weatherCost : Nat := 131
def n_impl_indexOf : Nat := 132
def n_impl_stepBy : Nat := 133
def n_impl_hexOf : Nat := 134
def n_impl_inZone : Nat := 135
def n_impl_unitsAt : Nat := 136
def n_impl_leaves : Nat := 137
def n_spec_rGood : Nat := 148
def n_spec_mGood : Nat := 149
def n_spec_l1All : Nat := 150
def n_spec_mSize : Nat := 151
def n_spec_oCost : Nat := 152
def n_spec_oEnd : Nat := 153
def n_spec_zExerts : Nat := 154
def n_spec_bTerrain : Nat := 155
def n_spec_l1Has : Nat := 156
def n_spec_mEdge : Nat := 157
def n_impl_goodTerrain : Nat := 158
def n_impl_terrainIndex : Nat := 159
def n_impl_goodKind : Nat := 160
def n_impl_kindIndex : Nat := 161
def n_impl_isIndex : Nat := 162
def n_impl_increasing : Nat := 163
def n_impl_isEdge : Nat := 164
def n_slices_IndexFunc_int_int : Nat := 165
def n_impl_ownsUnit : Nat := 166
def n_impl_PathCost : Nat := 167
def n_impl_neighboursOn : Nat := 168
def n_impl_endOf : Nat := 169
def n_impl_terrainAt : Nat := 170
def n_slices_Index_int_int : Nat := 171
def n_impl_controls : Nat := 172
def n_slices_ContainsFunc_impl_Attempt_impl_Attempt : Nat := 173
def n_impl_leaves_1 : Nat := 174
def n_spec_rName : Nat := 180
def n_spec_rTerrain : Nat := 181
def n_spec_rKind : Nat := 182
def n_spec_mEdges : Nat := 183
def n_spec_csPath : Nat := 184
def n_spec_csCost : Nat := 185
def n_impl_isName : Nat := 186
def n_impl_goodTerrain_1 : Nat := 187
def n_slices_IndexFunc_impl_Terrain_impl_Terrain : Nat := 188
def n_impl_terrainIndex_1 : Nat := 189
def n_slices_IndexFunc_impl_Kind_impl_Kind : Nat := 190
def n_impl_kindIndex_1 : Nat := 191
def n_impl_isMover : Nat := 192
def n_impl_isPath : Nat := 193
def n_impl_costsAlong : Nat := 194
def n_impl_sumOf : Nat := 195
def n_impl_pathHexes : Nat := 196
def n_impl_crossesFreely : Nat := 197
def n_slices_IndexFunc_impl_Attempt_impl_Attempt : Nat := 198
def n_spec_l1Rising : Nat := 200
def n_impl_isKindOf : Nat := 201
def n_impl_isWeather : Nat := 202
def n_impl_isPath_1 : Nat := 203
def n_impl_isDirection : Nat := 204
/-- laws.FnExactResolveMovement -/
def a_laws_FnExactResolveMovement : AFn := ⟨4, 202, [.tmp 8], (.seq (.reg [J 4 (.box (.t 0)), J 5 (.box (.t 1)), J 6 (.box (.t 2)), J 7 (.box (.t 3)), J 8 (.asg (.c (.bool false)))])
 (.seq (.reg [J 9 (.asg (.c (.int .i64 1048576)))])
 (.seq (.reg [J 26 (.load true 12 (.t 4)), J 27 (.mv (.p 9)), J 28 (.call n_laws_szBoard [.a 26 4, .t 27]), J 9 (.asg (.p 28))])
 (.seq (.seq (.reg [J 29 (.mv (.p 9)), J 30 (.bin .lss (.t 29) (.c (.int .i64 0)))])
 (.cond (.t 30) (.seq (.reg [J 8 (.asg (.c (.bool true)))])
 .ret) .skip))
 (.seq (.reg [J 31 (.load true 3 (.t 5)), J 32 (.mv (.p 9)), J 33 (.call n_laws_szState [.a 31 5, .t 32]), J 9 (.asg (.p 33))])
 (.seq (.seq (.reg [J 34 (.mv (.p 9)), J 35 (.bin .lss (.t 34) (.c (.int .i64 0)))])
 (.cond (.t 35) (.seq (.reg [J 8 (.asg (.c (.bool true)))])
 .ret) .skip))
 (.seq (.reg [J 36 (.load true 2 (.t 6)), J 37 (.mv (.p 9)), J 38 (.call n_laws_szSheet [.a 36 6, .t 37]), J 9 (.asg (.p 38))])
 (.seq (.seq (.reg [J 39 (.mv (.p 9)), J 40 (.bin .lss (.t 39) (.c (.int .i64 0)))])
 (.cond (.t 40) (.seq (.reg [J 8 (.asg (.c (.bool true)))])
 .ret) .skip))
 (.seq (.reg [J 41 (.load true 2 (.t 7)), J 42 (.mv (.p 9)), J 43 (.call n_laws_szSheet [.a 41 7, .t 42]), J 9 (.asg (.p 43))])
 (.seq (.seq (.reg [J 44 (.mv (.p 9)), J 45 (.bin .lss (.t 44) (.c (.int .i64 0)))])
 (.cond (.t 45) (.seq (.reg [J 8 (.asg (.c (.bool true)))])
 .ret) .skip))
 (.seq (.reg [J 47 (.load true 12 (.t 4)), J 48 (.call n_laws_toBoard [.a 47 4]), J 49 (.load true 3 (.t 5)), J 50 (.call n_laws_toState [.a 49 5]), J 51 (.load true 2 (.t 6)), J 52 (.call n_laws_toSheet [.a 51 6]), J 53 (.load true 2 (.t 7)), J 54 (.call n_laws_toSheet [.a 53 7]), J 55 (.call n_spec_ResolveMovement [.t 48, .t 50, .t 52, .t 54]), J 46 (.mv (.t 55)), J 56 (.extract (.t 46) 0), J 57 (.extract (.t 46) 1), J 58 (.extract (.p 46) 2), J 10 (.alloc [.int .i64 0, .int .i64 0, .list true 4 []]), ⟨none, none, .store 3 (.t 10) (.t 56)⟩, J 11 (.asg (.t 57)), J 12 (.asg (.p 58))])
 (.seq (.reg [J 59 (.load true 12 (.t 4)), J 60 (.call n_laws_toBoard [.a 59 4]), J 13 (.alloc [.list true 5 [], .list true 6 [], .int .i64 0, .int .i64 0, .int .i64 0, .int .i64 0, .int .i64 0, .int .i64 0, .int .i64 0, .list true 1 [], .list true 1 [], .list true 1 []]), ⟨none, none, .store 12 (.t 13) (.t 60)⟩])
 (.seq (.reg [J 61 (.load true 3 (.t 5)), J 62 (.call n_laws_toState [.a 61 5]), J 14 (.alloc [.int .i64 0, .int .i64 0, .list true 4 []]), ⟨none, none, .store 3 (.t 14) (.t 62)⟩])
 (.seq (.reg [J 63 (.load true 2 (.t 6)), J 64 (.call n_laws_toSheet [.a 63 6]), J 15 (.alloc [.int .i64 0, .list true 3 []]), ⟨none, none, .store 2 (.t 15) (.t 64)⟩])
 (.seq (.reg [J 65 (.load true 2 (.t 7)), J 66 (.call n_laws_toSheet [.a 65 7]), J 16 (.alloc [.int .i64 0, .list true 3 []]), ⟨none, none, .store 2 (.t 16) (.t 66)⟩])
 (.seq (.reg [J 68 (.load true 12 (.t 13)), J 69 (.load true 3 (.t 14)), J 70 (.load true 2 (.t 15)), J 71 (.load true 2 (.t 16)), J 72 (.call n_impl_ResolveMovement [.a 68 13, .a 69 14, .a 70 15, .a 71 16]), J 67 (.mv (.t 72)), J 73 (.extract (.t 67) 0), J 74 (.extract (.t 67) 1), J 75 (.extract (.p 67) 2), J 17 (.alloc [.int .i64 0, .int .i64 0, .list true 4 []]), ⟨none, none, .store 3 (.t 17) (.t 73)⟩, J 18 (.asg (.t 74)), J 19 (.asg (.p 75))])
 (.seq (.seq (.reg [J 76 (.load true 3 (.t 17)), J 77 (.load true 3 (.t 10)), J 78 (.call n_laws_eqState [.a 76 17, .a 77 10]), J 79 (.un .not (.t 78)), J 80 (.mv (.p 79)), ⟨some 81, some (80, false), .rf (.t 18)⟩, ⟨some 82, some (80, false), .rf (.t 11)⟩, ⟨some 83, some (80, false), .call n_laws_eqMovedS [.a 81 18, .a 82 11]⟩, ⟨some 84, some (80, false), .un .not (.t 83)⟩, J 85 (.pick (.t 80) (.c (.bool true)) (.t 84)), J 86 (.mv (.p 85)), ⟨some 87, some (86, false), .mv (.p 19)⟩, ⟨some 88, some (86, false), .mv (.p 12)⟩, ⟨some 89, some (86, false), .beq true (.t 87) (.t 88)⟩, J 90 (.pick (.t 86) (.c (.bool true)) (.t 89))])
 (.cond (.t 90) (.seq (.reg [J 8 (.asg (.c (.bool false)))])
 .ret) .skip))
 (.seq (.seq (.reg [J 91 (.load true 12 (.t 13)), J 92 (.load true 12 (.t 4)), J 93 (.call n_laws_toBoard [.a 92 4]), J 94 (.call n_laws_eqBoard [.a 91 13, .t 93]), J 95 (.un .not (.t 94))])
 (.cond (.t 95) (.seq (.reg [J 8 (.asg (.c (.bool false)))])
 .ret) .skip))
 (.seq (.seq (.reg [J 96 (.load true 3 (.t 14)), J 97 (.load true 3 (.t 5)), J 98 (.call n_laws_toState [.a 97 5]), J 99 (.call n_laws_eqState [.a 96 14, .t 98]), J 100 (.un .not (.t 99))])
 (.cond (.t 100) (.seq (.reg [J 8 (.asg (.c (.bool false)))])
 .ret) .skip))
 (.seq (.seq (.reg [J 101 (.load true 2 (.t 15)), J 102 (.load true 2 (.t 6)), J 103 (.call n_laws_toSheet [.a 102 6]), J 104 (.call n_laws_eqSheet [.a 101 15, .t 103]), J 105 (.un .not (.t 104))])
 (.cond (.t 105) (.seq (.reg [J 8 (.asg (.c (.bool false)))])
 .ret) .skip))
 (.seq (.seq (.reg [J 106 (.load true 2 (.t 16)), J 107 (.load true 2 (.t 7)), J 108 (.call n_laws_toSheet [.a 107 7]), J 109 (.call n_laws_eqSheet [.a 106 16, .t 108]), J 110 (.un .not (.t 109))])
 (.cond (.t 110) (.seq (.reg [J 8 (.asg (.c (.bool false)))])
 .ret) .skip))
 (.seq (.reg [J 20 (.asg (.c (.int .i64 1)))])
 (.seq (.reg [J 111 (.load true 12 (.t 13)), J 112 (.mv (.p 20)), J 113 (.calli n_laws_markBoard 111 13 [.t 112]), J 20 (.asg (.p 113))])
 (.seq (.reg [J 114 (.load true 3 (.t 14)), J 115 (.mv (.p 20)), J 116 (.calli n_laws_markState 114 14 [.t 115]), J 20 (.asg (.p 116))])
 (.seq (.reg [J 117 (.load true 2 (.t 15)), J 118 (.mv (.p 20)), J 119 (.calli n_laws_markSheet 117 15 [.t 118]), J 20 (.asg (.p 119))])
 (.seq (.reg [J 120 (.load true 2 (.t 16)), J 121 (.mv (.p 20)), J 122 (.calli n_laws_markSheet 120 16 [.t 121]), J 20 (.asg (.p 122))])
 (.seq (.seq (.reg [J 123 (.mv (.p 20)), J 124 (.bin .lss (.t 123) (.c (.int .i64 0))), J 125 (.mv (.p 124)), ⟨some 126, some (125, false), .load true 3 (.t 17)⟩, ⟨some 127, some (125, false), .load true 3 (.t 10)⟩, ⟨some 128, some (125, false), .call n_laws_eqState [.a 126 17, .a 127 10]⟩, ⟨some 129, some (125, false), .un .not (.t 128)⟩, J 130 (.pick (.t 125) (.c (.bool true)) (.t 129)), J 131 (.mv (.p 130)), ⟨some 132, some (131, false), .rf (.t 18)⟩, ⟨some 133, some (131, false), .rf (.t 11)⟩, ⟨some 134, some (131, false), .call n_laws_eqMovedS [.a 132 18, .a 133 11]⟩, ⟨some 135, some (131, false), .un .not (.t 134)⟩, J 136 (.pick (.t 131) (.c (.bool true)) (.t 135)), J 137 (.mv (.p 136)), ⟨some 138, some (137, false), .mv (.p 19)⟩, ⟨some 139, some (137, false), .mv (.p 12)⟩, ⟨some 140, some (137, false), .beq true (.t 138) (.t 139)⟩, J 141 (.pick (.t 137) (.c (.bool true)) (.t 140))])
 (.cond (.t 141) (.seq (.reg [J 8 (.asg (.c (.bool false)))])
 .ret) .skip))
 (.seq (.reg [J 21 (.asg (.c (.int .i64 1)))])
 (.seq (.reg [J 142 (.load true 3 (.t 17)), J 143 (.mv (.p 21)), J 144 (.calli n_laws_markState 142 17 [.t 143]), J 21 (.asg (.p 144))])
 (.seq (.reg [J 145 (.rf (.t 18)), J 146 (.mv (.p 21)), J 147 (.calli n_laws_markMovedS 145 18 [.t 146]), J 21 (.asg (.p 147))])
 (.seq (.reg [J 22 (.asg (.c (.int .i64 1)))])
 (.seq (.reg [J 148 (.load true 3 (.t 17)), J 149 (.mv (.p 22)), J 150 (.call n_laws_heldState [.a 148 17, .t 149]), J 22 (.asg (.p 150))])
 (.seq (.seq (.reg [J 151 (.mv (.p 22)), J 152 (.bin .lss (.t 151) (.c (.int .i64 0)))])
 (.cond (.t 152) (.seq (.reg [J 8 (.asg (.c (.bool false)))])
 .ret) .skip))
 (.seq (.reg [J 153 (.rf (.t 18)), J 154 (.mv (.p 22)), J 155 (.call n_laws_heldMovedS [.a 153 18, .t 154]), J 22 (.asg (.p 155))])
 (.seq (.seq (.reg [J 156 (.mv (.p 22)), J 157 (.bin .lss (.t 156) (.c (.int .i64 0)))])
 (.cond (.t 157) (.seq (.reg [J 8 (.asg (.c (.bool false)))])
 .ret) .skip))
 (.seq (.seq (.reg [J 158 (.mv (.p 22)), J 159 (.mv (.p 21)), J 160 (.bin .neq (.t 158) (.t 159))])
 (.cond (.t 160) (.seq (.reg [J 8 (.asg (.c (.bool false)))])
 .ret) .skip))
 (.seq (.reg [J 162 (.load true 12 (.t 4)), J 163 (.call n_laws_toBoard [.a 162 4]), J 164 (.load true 3 (.t 5)), J 165 (.call n_laws_toState [.a 164 5]), J 166 (.load true 2 (.t 6)), J 167 (.call n_laws_toSheet [.a 166 6]), J 168 (.load true 2 (.t 7)), J 169 (.call n_laws_toSheet [.a 168 7]), J 170 (.call n_impl_ResolveMovement [.t 163, .t 165, .t 167, .t 169]), J 161 (.mv (.t 170)), J 171 (.extract (.t 161) 0), J 172 (.extract (.t 161) 1), J 173 (.extract (.p 161) 2), J 23 (.alloc [.int .i64 0, .int .i64 0, .list true 4 []]), ⟨none, none, .store 3 (.t 23) (.t 171)⟩, J 24 (.asg (.t 172)), J 25 (.asg (.p 173))])
 (.seq (.seq (.reg [J 174 (.load true 3 (.t 23)), J 175 (.load true 3 (.t 10)), J 176 (.call n_laws_eqState [.a 174 23, .a 175 10]), J 177 (.un .not (.t 176)), J 178 (.mv (.p 177)), ⟨some 179, some (178, false), .rf (.t 24)⟩, ⟨some 180, some (178, false), .rf (.t 11)⟩, ⟨some 181, some (178, false), .call n_laws_eqMovedS [.a 179 24, .a 180 11]⟩, ⟨some 182, some (178, false), .un .not (.t 181)⟩, J 183 (.pick (.t 178) (.c (.bool true)) (.t 182)), J 184 (.mv (.p 183)), ⟨some 185, some (184, false), .mv (.p 25)⟩, ⟨some 186, some (184, false), .mv (.p 12)⟩, ⟨some 187, some (184, false), .beq true (.t 185) (.t 186)⟩, J 188 (.pick (.t 184) (.c (.bool true)) (.t 187))])
 (.cond (.t 188) (.seq (.reg [J 8 (.asg (.c (.bool false)))])
 .ret) .skip))
 (.seq (.reg [J 22 (.asg (.c (.int .i64 1)))])
 (.seq (.reg [J 189 (.load true 3 (.t 17)), J 190 (.mv (.p 22)), J 191 (.call n_laws_heldState [.a 189 17, .t 190]), J 22 (.asg (.p 191))])
 (.seq (.seq (.reg [J 192 (.mv (.p 22)), J 193 (.bin .lss (.t 192) (.c (.int .i64 0)))])
 (.cond (.t 193) (.seq (.reg [J 8 (.asg (.c (.bool false)))])
 .ret) .skip))
 (.seq (.reg [J 194 (.rf (.t 18)), J 195 (.mv (.p 22)), J 196 (.call n_laws_heldMovedS [.a 194 18, .t 195]), J 22 (.asg (.p 196))])
 (.seq (.seq (.reg [J 197 (.mv (.p 22)), J 198 (.bin .lss (.t 197) (.c (.int .i64 0)))])
 (.cond (.t 198) (.seq (.reg [J 8 (.asg (.c (.bool false)))])
 .ret) .skip))
 (.seq (.seq (.reg [J 199 (.mv (.p 22)), J 200 (.mv (.p 21)), J 201 (.bin .neq (.t 199) (.t 200))])
 (.cond (.t 201) (.seq (.reg [J 8 (.asg (.c (.bool false)))])
 .ret) .skip))
 (.seq (.reg [J 8 (.asg (.c (.bool true)))])
 .ret)))))))))))))))))))))))))))))))))))))))))))))⟩
/-- laws.szBoard -/
def a_laws_szBoard : AFn := ⟨2, 18, [.tmp 4], (.seq (.reg [J 2 (.box (.t 0)), J 4 (.asg (.c (.int .i64 0)))])
 (.seq (.reg [J 5 (.faddr 0 (.t 2)), J 6 (.load true 7 (.a 5 2)), J 7 (.mv (.p 1)), J 8 (.call n_laws_szRules [.a 6 2, .t 7]), J 1 (.asg (.p 8))])
 (.seq (.seq (.reg [J 9 (.mv (.p 1)), J 10 (.bin .lss (.t 9) (.c (.int .i64 0)))])
 (.cond (.t 10) (.seq (.reg [J 4 (.asg (.c (.int .i64 (-1))))])
 .ret) .skip))
 (.seq (.reg [J 11 (.faddr 7 (.t 2)), J 12 (.load true 5 (.a 11 2)), J 13 (.mv (.p 1)), J 14 (.call n_laws_szMap [.a 12 2, .t 13]), J 1 (.asg (.p 14))])
 (.seq (.seq (.reg [J 15 (.mv (.p 1)), J 16 (.bin .lss (.t 15) (.c (.int .i64 0)))])
 (.cond (.t 16) (.seq (.reg [J 4 (.asg (.c (.int .i64 (-1))))])
 .ret) .skip))
 (.seq (.reg [J 17 (.mv (.p 1)), J 4 (.asg (.p 17))])
 .ret))))))⟩
/-- laws.szState -/
def a_laws_szState : AFn := ⟨2, 12, [.tmp 4], (.seq (.reg [J 2 (.box (.t 0)), J 4 (.asg (.c (.int .i64 0)))])
 (.seq (.reg [J 5 (.faddr 2 (.t 2)), J 6 (.load false 1 (.a 5 2)), J 7 (.mv (.p 1)), J 8 (.call n_laws_szUnitS [.a 6 2, .t 7]), J 1 (.asg (.p 8))])
 (.seq (.seq (.reg [J 9 (.mv (.p 1)), J 10 (.bin .lss (.t 9) (.c (.int .i64 0)))])
 (.cond (.t 10) (.seq (.reg [J 4 (.asg (.c (.int .i64 (-1))))])
 .ret) .skip))
 (.seq (.reg [J 11 (.mv (.p 1)), J 4 (.asg (.p 11))])
 .ret))))⟩
/-- laws.szSheet -/
def a_laws_szSheet : AFn := ⟨2, 12, [.tmp 4], (.seq (.reg [J 2 (.box (.t 0)), J 4 (.asg (.c (.int .i64 0)))])
 (.seq (.reg [J 5 (.faddr 1 (.t 2)), J 6 (.load false 1 (.a 5 2)), J 7 (.mv (.p 1)), J 8 (.call n_laws_szOrderS [.a 6 2, .t 7]), J 1 (.asg (.p 8))])
 (.seq (.seq (.reg [J 9 (.mv (.p 1)), J 10 (.bin .lss (.t 9) (.c (.int .i64 0)))])
 (.cond (.t 10) (.seq (.reg [J 4 (.asg (.c (.int .i64 (-1))))])
 .ret) .skip))
 (.seq (.reg [J 11 (.mv (.p 1)), J 4 (.asg (.p 11))])
 .ret))))⟩
/-- spec.ResolveMovement -/
def a_spec_ResolveMovement : AFn := ⟨4, 30, [.cell 8 3 true, .tmp 9, .tmp 10], (.seq (.reg [J 4 (.box (.t 0)), J 5 (.box (.t 1)), J 6 (.box (.t 2)), J 7 (.box (.t 3)), J 8 (.alloc [.int .i64 0, .int .i64 0, .list true 4 []]), J 9 (.asg (.c (.list true 3 []))), J 10 (.asg (.c (.bool false)))])
 (.seq (.seq (.reg [J 13 (.load true 12 (.t 4)), J 14 (.load true 3 (.t 5)), J 15 (.load true 2 (.t 6)), J 16 (.load true 2 (.t 7)), J 17 (.call n_spec_fSheets [.a 13 4, .a 14 5, .a 15 6, .a 16 7]), J 18 (.un .not (.t 17))])
 (.cond (.t 18) (.seq (.reg [J 19 (.build [.int .i64 0, .int .i64 0, .list true 4 []] []), ⟨none, none, .store 3 (.t 8) (.t 19)⟩, J 9 (.asg (.c (.list true 3 []))), J 10 (.asg (.c (.bool false)))])
 .ret) .skip))
 (.seq (.reg [J 21 (.load true 12 (.t 4)), J 22 (.load true 3 (.t 5)), J 23 (.load true 2 (.t 6)), J 24 (.load true 2 (.t 7)), J 25 (.call n_spec_fResolve [.a 21 4, .a 22 5, .a 23 6, .a 24 7]), J 20 (.mv (.t 25)), J 26 (.extract (.t 20) 0), J 27 (.extract (.t 20) 1), J 11 (.alloc [.int .i64 0, .int .i64 0, .list true 4 []]), ⟨none, none, .store 3 (.t 11) (.t 26)⟩, J 12 (.asg (.t 27))])
 (.seq (.reg [J 28 (.load true 3 (.t 11)), J 29 (.rf (.t 12)), ⟨none, none, .store 3 (.t 8) (.a 28 11)⟩, J 9 (.asg (.a 29 12)), J 10 (.asg (.c (.bool true)))])
 .ret))))⟩
/-- laws.toBoard -/
def a_laws_toBoard : AFn := ⟨1, 13, [.cell 2 12 true], (.seq (.reg [J 1 (.box (.t 0)), J 2 (.alloc [.list true 5 [], .list true 6 [], .int .i64 0, .int .i64 0, .int .i64 0, .int .i64 0, .int .i64 0, .int .i64 0, .int .i64 0, .list true 1 [], .list true 1 [], .list true 1 []])])
 (.seq (.reg [J 3 (.alloc [.list true 5 [], .list true 6 [], .int .i64 0, .int .i64 0, .int .i64 0, .int .i64 0, .int .i64 0, .int .i64 0, .int .i64 0, .list true 1 [], .list true 1 [], .list true 1 []])])
 (.seq (.reg [J 4 (.faddr 0 (.t 1)), J 5 (.load true 7 (.a 4 1)), J 6 (.call n_laws_toRules [.a 5 1]), J 7 (.faddr 0 (.t 3)), ⟨none, none, .store 7 (.a 7 3) (.t 6)⟩])
 (.seq (.reg [J 8 (.faddr 7 (.t 1)), J 9 (.load true 5 (.a 8 1)), J 10 (.call n_laws_toMap [.a 9 1]), J 11 (.faddr 7 (.t 3)), ⟨none, none, .store 5 (.a 11 3) (.t 10)⟩])
 (.seq (.reg [J 12 (.load true 12 (.t 3)), ⟨none, none, .store 12 (.t 2) (.a 12 3)⟩])
 .ret)))))⟩
/-- laws.toState -/
def a_laws_toState : AFn := ⟨1, 15, [.cell 2 3 true], (.seq (.reg [J 1 (.box (.t 0)), J 2 (.alloc [.int .i64 0, .int .i64 0, .list true 4 []])])
 (.seq (.reg [J 3 (.alloc [.int .i64 0, .int .i64 0, .list true 4 []])])
 (.seq (.reg [J 4 (.faddr 0 (.t 1)), J 5 (.load false 1 (.a 4 1)), J 6 (.faddr 0 (.t 3)), ⟨none, none, .store 1 (.a 6 3) (.p 5)⟩])
 (.seq (.reg [J 7 (.faddr 1 (.t 1)), J 8 (.load false 1 (.a 7 1)), J 9 (.faddr 1 (.t 3)), ⟨none, none, .store 1 (.a 9 3) (.p 8)⟩])
 (.seq (.reg [J 10 (.faddr 2 (.t 1)), J 11 (.load false 1 (.a 10 1)), J 12 (.call n_laws_toUnitS [.a 11 1]), J 13 (.faddr 2 (.t 3)), ⟨none, none, .store 1 (.a 13 3) (.t 12)⟩])
 (.seq (.reg [J 14 (.load true 3 (.t 3)), ⟨none, none, .store 3 (.t 2) (.a 14 3)⟩])
 .ret))))))⟩
/-- laws.toSheet -/
def a_laws_toSheet : AFn := ⟨1, 12, [.cell 2 2 true], (.seq (.reg [J 1 (.box (.t 0)), J 2 (.alloc [.int .i64 0, .list true 3 []])])
 (.seq (.reg [J 3 (.alloc [.int .i64 0, .list true 3 []])])
 (.seq (.reg [J 4 (.faddr 0 (.t 1)), J 5 (.load false 1 (.a 4 1)), J 6 (.faddr 0 (.t 3)), ⟨none, none, .store 1 (.a 6 3) (.p 5)⟩])
 (.seq (.reg [J 7 (.faddr 1 (.t 1)), J 8 (.load false 1 (.a 7 1)), J 9 (.call n_laws_toOrderS [.a 8 1]), J 10 (.faddr 1 (.t 3)), ⟨none, none, .store 1 (.a 10 3) (.t 9)⟩])
 (.seq (.reg [J 11 (.load true 2 (.t 3)), ⟨none, none, .store 2 (.t 2) (.a 11 3)⟩])
 .ret)))))⟩
/-- impl.ResolveMovement -/
def a_impl_ResolveMovement : AFn := ⟨4, 31, [.cell 8 3 true, .tmp 9, .tmp 10], (.seq (.reg [J 4 (.box (.t 0)), J 5 (.box (.t 1)), J 6 (.box (.t 2)), J 7 (.box (.t 3)), J 8 (.alloc [.int .i64 0, .int .i64 0, .list true 4 []]), J 9 (.asg (.c (.list true 3 []))), J 10 (.asg (.c (.bool false)))])
 (.seq (.seq (.reg [J 13 (.load true 12 (.t 4)), J 14 (.load true 3 (.t 5)), J 15 (.load true 2 (.t 6)), J 16 (.load true 2 (.t 7)), J 17 (.call n_impl_areSheets [.a 13 4, .a 14 5, .a 15 6, .a 16 7]), J 18 (.un .not (.t 17))])
 (.cond (.t 18) (.seq (.reg [J 19 (.build [.int .i64 0, .int .i64 0, .list true 4 []] []), ⟨none, none, .store 3 (.t 8) (.t 19)⟩, J 9 (.asg (.c (.list true 3 []))), J 10 (.asg (.c (.bool false)))])
 .ret) .skip))
 (.seq (.reg [J 21 (.load true 12 (.t 4)), J 22 (.load true 3 (.t 5)), J 23 (.load true 2 (.t 6)), J 24 (.load true 2 (.t 7)), J 25 (.call n_impl_allOrders [.a 23 6, .a 24 7]), J 26 (.call n_impl_resolveMovement [.a 21 4, .a 22 5, .t 25]), J 20 (.mv (.t 26)), J 27 (.extract (.t 20) 0), J 28 (.extract (.t 20) 1), J 11 (.alloc [.int .i64 0, .int .i64 0, .list true 4 []]), ⟨none, none, .store 3 (.t 11) (.t 27)⟩, J 12 (.asg (.t 28))])
 (.seq (.reg [J 29 (.load true 3 (.t 11)), J 30 (.rf (.t 12)), ⟨none, none, .store 3 (.t 8) (.a 29 11)⟩, J 9 (.asg (.a 30 12)), J 10 (.asg (.c (.bool true)))])
 .ret))))⟩
/-- laws.eqState -/
def a_laws_eqState : AFn := ⟨2, 21, [.tmp 4], (.seq (.reg [J 2 (.box (.t 0)), J 3 (.box (.t 1)), J 4 (.asg (.c (.bool false)))])
 (.seq (.seq (.reg [J 5 (.faddr 0 (.t 2)), J 6 (.load false 1 (.a 5 2)), J 7 (.faddr 0 (.t 3)), J 8 (.load false 1 (.a 7 3)), J 9 (.bin .neq (.a 6 2) (.a 8 3))])
 (.cond (.t 9) (.seq (.reg [J 4 (.asg (.c (.bool false)))])
 .ret) .skip))
 (.seq (.seq (.reg [J 10 (.faddr 1 (.t 2)), J 11 (.load false 1 (.a 10 2)), J 12 (.faddr 1 (.t 3)), J 13 (.load false 1 (.a 12 3)), J 14 (.bin .neq (.a 11 2) (.a 13 3))])
 (.cond (.t 14) (.seq (.reg [J 4 (.asg (.c (.bool false)))])
 .ret) .skip))
 (.seq (.seq (.reg [J 15 (.faddr 2 (.t 2)), J 16 (.load false 1 (.a 15 2)), J 17 (.faddr 2 (.t 3)), J 18 (.load false 1 (.a 17 3)), J 19 (.call n_laws_eqUnitS [.a 16 2, .a 18 3]), J 20 (.un .not (.t 19))])
 (.cond (.t 20) (.seq (.reg [J 4 (.asg (.c (.bool false)))])
 .ret) .skip))
 (.seq (.reg [J 4 (.asg (.c (.bool true)))])
 .ret)))))⟩
def b_laws_eqMovedS_0 : AC := (.seq (.seq (.reg [J 11 (.mv (.p 5)), J 12 (.rf (.t 0)), J 13 (.len (.a 12 0)), J 14 (.bin .lss (.t 11) (.t 13))])
 (.cond (.t 14) .skip (.exit 0)))
 (.seq (.block 1 (.seq (.reg [J 17 (.rf (.t 0)), J 18 (.mv (.p 5)), J 19 (.iaddr 3 (.a 17 0) (.t 18)), J 20 (.load true 3 (.a 19 0)), J 21 (.rf (.t 1)), J 22 (.mv (.p 5)), J 23 (.iaddr 3 (.a 21 1) (.t 22)), J 24 (.load true 3 (.a 23 1)), J 25 (.call n_laws_eqMoved [.a 20 0, .a 24 1]), J 26 (.un .not (.t 25))])
 (.cond (.t 26) (.seq (.reg [J 4 (.asg (.c (.bool false)))])
 .ret) .skip)))
 (.reg [J 15 (.mv (.p 5)), J 16 (.bin .add (.t 15) (.c (.int .i64 1))), J 5 (.asg (.p 16))])))
/-- laws.eqMovedS -/
def a_laws_eqMovedS : AFn := ⟨2, 27, [.tmp 4], (.seq (.reg [J 4 (.asg (.c (.bool false)))])
 (.seq (.seq (.reg [J 6 (.rf (.t 0)), J 7 (.len (.a 6 0)), J 8 (.rf (.t 1)), J 9 (.len (.a 8 1)), J 10 (.bin .neq (.t 7) (.t 9))])
 (.cond (.t 10) (.seq (.reg [J 4 (.asg (.c (.bool false)))])
 .ret) .skip))
 (.seq (.seq (.reg [J 5 (.asg (.c (.int .i64 0)))])
 (.block 0 (.loop [0, 1, 5] [4] b_laws_eqMovedS_0)))
 (.seq (.reg [J 4 (.asg (.c (.bool true)))])
 .ret))))⟩
/-- laws.eqBoard -/
def a_laws_eqBoard : AFn := ⟨2, 17, [.tmp 4], (.seq (.reg [J 2 (.box (.t 0)), J 3 (.box (.t 1)), J 4 (.asg (.c (.bool false)))])
 (.seq (.seq (.reg [J 5 (.faddr 0 (.t 2)), J 6 (.load true 7 (.a 5 2)), J 7 (.faddr 0 (.t 3)), J 8 (.load true 7 (.a 7 3)), J 9 (.call n_laws_eqRules [.a 6 2, .a 8 3]), J 10 (.un .not (.t 9))])
 (.cond (.t 10) (.seq (.reg [J 4 (.asg (.c (.bool false)))])
 .ret) .skip))
 (.seq (.seq (.reg [J 11 (.faddr 7 (.t 2)), J 12 (.load true 5 (.a 11 2)), J 13 (.faddr 7 (.t 3)), J 14 (.load true 5 (.a 13 3)), J 15 (.call n_laws_eqMap [.a 12 2, .a 14 3]), J 16 (.un .not (.t 15))])
 (.cond (.t 16) (.seq (.reg [J 4 (.asg (.c (.bool false)))])
 .ret) .skip))
 (.seq (.reg [J 4 (.asg (.c (.bool true)))])
 .ret))))⟩
/-- laws.eqSheet -/
def a_laws_eqSheet : AFn := ⟨2, 16, [.tmp 4], (.seq (.reg [J 2 (.box (.t 0)), J 3 (.box (.t 1)), J 4 (.asg (.c (.bool false)))])
 (.seq (.seq (.reg [J 5 (.faddr 0 (.t 2)), J 6 (.load false 1 (.a 5 2)), J 7 (.faddr 0 (.t 3)), J 8 (.load false 1 (.a 7 3)), J 9 (.bin .neq (.a 6 2) (.a 8 3))])
 (.cond (.t 9) (.seq (.reg [J 4 (.asg (.c (.bool false)))])
 .ret) .skip))
 (.seq (.seq (.reg [J 10 (.faddr 1 (.t 2)), J 11 (.load false 1 (.a 10 2)), J 12 (.faddr 1 (.t 3)), J 13 (.load false 1 (.a 12 3)), J 14 (.call n_laws_eqOrderS [.a 11 2, .a 13 3]), J 15 (.un .not (.t 14))])
 (.cond (.t 15) (.seq (.reg [J 4 (.asg (.c (.bool false)))])
 .ret) .skip))
 (.seq (.reg [J 4 (.asg (.c (.bool true)))])
 .ret))))⟩
/-- laws.markBoard -/
def a_laws_markBoard : AFn := ⟨2, 14, [.tmp 4, .io 0], (.seq (.reg [J 2 (.boxk 0), J 4 (.asg (.c (.int .i64 0)))])
 (.seq (.reg [J 5 (.faddr 0 (.t 2)), J 6 (.load true 7 (.a 5 2)), J 7 (.mv (.p 1)), J 8 (.calli n_laws_markRules 6 2 [.t 7]), J 1 (.asg (.p 8))])
 (.seq (.reg [J 9 (.faddr 7 (.t 2)), J 10 (.load true 5 (.a 9 2)), J 11 (.mv (.p 1)), J 12 (.calli n_laws_markMap 10 2 [.t 11]), J 1 (.asg (.p 12))])
 (.seq (.reg [J 13 (.mv (.p 1)), J 4 (.asg (.p 13))])
 .ret))))⟩
/-- laws.markState -/
def a_laws_markState : AFn := ⟨2, 10, [.tmp 4, .io 0], (.seq (.reg [J 2 (.boxk 0), J 4 (.asg (.c (.int .i64 0)))])
 (.seq (.reg [J 5 (.faddr 2 (.t 2)), J 6 (.load false 1 (.a 5 2)), J 7 (.mv (.p 1)), J 8 (.calli n_laws_markUnitS 6 2 [.t 7]), J 1 (.asg (.p 8))])
 (.seq (.reg [J 9 (.mv (.p 1)), J 4 (.asg (.p 9))])
 .ret)))⟩
/-- laws.markSheet -/
def a_laws_markSheet : AFn := ⟨2, 10, [.tmp 4, .io 0], (.seq (.reg [J 2 (.boxk 0), J 4 (.asg (.c (.int .i64 0)))])
 (.seq (.reg [J 5 (.faddr 1 (.t 2)), J 6 (.load false 1 (.a 5 2)), J 7 (.mv (.p 1)), J 8 (.calli n_laws_markOrderS 6 2 [.t 7]), J 1 (.asg (.p 8))])
 (.seq (.reg [J 9 (.mv (.p 1)), J 4 (.asg (.p 9))])
 .ret)))⟩
def b_laws_markMovedS_0 : AC := (.seq (.seq (.reg [J 6 (.mv (.p 5)), J 7 (.rf (.t 0)), J 8 (.len (.a 7 0)), J 9 (.bin .lss (.t 6) (.t 8))])
 (.cond (.t 9) .skip (.exit 0)))
 (.seq (.block 1 (.seq (.reg [J 12 (.rf (.t 0)), J 13 (.mv (.p 5)), J 14 (.mv (.p 1)), J 15 (.iaddr 3 (.a 12 0) (.t 13)), J 16 (.faddr 0 (.a 15 0)), ⟨none, none, .store 1 (.a 16 0) (.p 14)⟩])
 (.seq (.reg [J 17 (.mv (.p 1)), J 18 (.bin .add (.t 17) (.c (.int .i64 1))), J 1 (.asg (.p 18))])
 (.seq (.reg [J 19 (.rf (.t 0)), J 20 (.mv (.p 5)), J 21 (.mv (.p 1)), J 22 (.iaddr 3 (.a 19 0) (.t 20)), J 23 (.faddr 1 (.a 22 0)), ⟨none, none, .store 1 (.a 23 0) (.p 21)⟩])
 (.seq (.reg [J 24 (.mv (.p 1)), J 25 (.bin .add (.t 24) (.c (.int .i64 1))), J 1 (.asg (.p 25))])
 (.seq (.reg [J 26 (.rf (.t 0)), J 27 (.mv (.p 5)), J 28 (.mv (.p 1)), J 29 (.iaddr 3 (.a 26 0) (.t 27)), J 30 (.faddr 2 (.a 29 0)), ⟨none, none, .store 1 (.a 30 0) (.p 28)⟩])
 (.reg [J 31 (.mv (.p 1)), J 32 (.bin .add (.t 31) (.c (.int .i64 1))), J 1 (.asg (.p 32))])))))))
 (.reg [J 10 (.mv (.p 5)), J 11 (.bin .add (.t 10) (.c (.int .i64 1))), J 5 (.asg (.p 11))])))
/-- laws.markMovedS -/
def a_laws_markMovedS : AFn := ⟨2, 34, [.tmp 4, .io 0], (.seq (.reg [J 4 (.asg (.c (.int .i64 0)))])
 (.seq (.seq (.reg [J 5 (.asg (.c (.int .i64 0)))])
 (.block 0 (.loop [0, 1, 5] [0, 1, 4] b_laws_markMovedS_0)))
 (.seq (.reg [J 33 (.mv (.p 1)), J 4 (.asg (.p 33))])
 .ret)))⟩
/-- laws.heldState -/
def a_laws_heldState : AFn := ⟨2, 12, [.tmp 4], (.seq (.reg [J 2 (.box (.t 0)), J 4 (.asg (.c (.int .i64 0)))])
 (.seq (.reg [J 5 (.faddr 2 (.t 2)), J 6 (.load false 1 (.a 5 2)), J 7 (.mv (.p 1)), J 8 (.call n_laws_heldUnitS [.a 6 2, .t 7]), J 1 (.asg (.p 8))])
 (.seq (.seq (.reg [J 9 (.mv (.p 1)), J 10 (.bin .lss (.t 9) (.c (.int .i64 0)))])
 (.cond (.t 10) (.seq (.reg [J 4 (.asg (.c (.int .i64 (-1))))])
 .ret) .skip))
 (.seq (.reg [J 11 (.mv (.p 1)), J 4 (.asg (.p 11))])
 .ret))))⟩
def b_laws_heldMovedS_0 : AC := (.seq (.seq (.reg [J 6 (.mv (.p 5)), J 7 (.rf (.t 0)), J 8 (.len (.a 7 0)), J 9 (.bin .lss (.t 6) (.t 8))])
 (.cond (.t 9) .skip (.exit 0)))
 (.seq (.block 1 (.seq (.seq (.reg [J 12 (.rf (.t 0)), J 13 (.mv (.p 5)), J 14 (.iaddr 3 (.a 12 0) (.t 13)), J 15 (.faddr 0 (.a 14 0)), J 16 (.load false 1 (.a 15 0)), J 17 (.mv (.p 1)), J 18 (.bin .neq (.a 16 0) (.t 17))])
 (.cond (.t 18) (.seq (.reg [J 4 (.asg (.c (.int .i64 (-1))))])
 .ret) .skip))
 (.seq (.reg [J 19 (.mv (.p 1)), J 20 (.bin .add (.t 19) (.c (.int .i64 1))), J 1 (.asg (.p 20))])
 (.seq (.seq (.reg [J 21 (.rf (.t 0)), J 22 (.mv (.p 5)), J 23 (.iaddr 3 (.a 21 0) (.t 22)), J 24 (.faddr 1 (.a 23 0)), J 25 (.load false 1 (.a 24 0)), J 26 (.mv (.p 1)), J 27 (.bin .neq (.a 25 0) (.t 26))])
 (.cond (.t 27) (.seq (.reg [J 4 (.asg (.c (.int .i64 (-1))))])
 .ret) .skip))
 (.seq (.reg [J 28 (.mv (.p 1)), J 29 (.bin .add (.t 28) (.c (.int .i64 1))), J 1 (.asg (.p 29))])
 (.seq (.seq (.reg [J 30 (.rf (.t 0)), J 31 (.mv (.p 5)), J 32 (.iaddr 3 (.a 30 0) (.t 31)), J 33 (.faddr 2 (.a 32 0)), J 34 (.load false 1 (.a 33 0)), J 35 (.mv (.p 1)), J 36 (.bin .neq (.a 34 0) (.t 35))])
 (.cond (.t 36) (.seq (.reg [J 4 (.asg (.c (.int .i64 (-1))))])
 .ret) .skip))
 (.reg [J 37 (.mv (.p 1)), J 38 (.bin .add (.t 37) (.c (.int .i64 1))), J 1 (.asg (.p 38))])))))))
 (.reg [J 10 (.mv (.p 5)), J 11 (.bin .add (.t 10) (.c (.int .i64 1))), J 5 (.asg (.p 11))])))
/-- laws.heldMovedS -/
def a_laws_heldMovedS : AFn := ⟨2, 40, [.tmp 4], (.seq (.reg [J 4 (.asg (.c (.int .i64 0)))])
 (.seq (.seq (.reg [J 5 (.asg (.c (.int .i64 0)))])
 (.block 0 (.loop [0, 1, 5] [1, 4] b_laws_heldMovedS_0)))
 (.seq (.reg [J 39 (.mv (.p 1)), J 4 (.asg (.p 39))])
 .ret)))⟩
/-- laws.szRules -/
def a_laws_szRules : AFn := ⟨2, 18, [.tmp 4], (.seq (.reg [J 2 (.box (.t 0)), J 4 (.asg (.c (.int .i64 0)))])
 (.seq (.reg [J 5 (.faddr 0 (.t 2)), J 6 (.load false 1 (.a 5 2)), J 7 (.mv (.p 1)), J 8 (.call n_laws_szTerrainS [.a 6 2, .t 7]), J 1 (.asg (.p 8))])
 (.seq (.seq (.reg [J 9 (.mv (.p 1)), J 10 (.bin .lss (.t 9) (.c (.int .i64 0)))])
 (.cond (.t 10) (.seq (.reg [J 4 (.asg (.c (.int .i64 (-1))))])
 .ret) .skip))
 (.seq (.reg [J 11 (.faddr 1 (.t 2)), J 12 (.load false 1 (.a 11 2)), J 13 (.mv (.p 1)), J 14 (.call n_laws_szKindS [.a 12 2, .t 13]), J 1 (.asg (.p 14))])
 (.seq (.seq (.reg [J 15 (.mv (.p 1)), J 16 (.bin .lss (.t 15) (.c (.int .i64 0)))])
 (.cond (.t 16) (.seq (.reg [J 4 (.asg (.c (.int .i64 (-1))))])
 .ret) .skip))
 (.seq (.reg [J 17 (.mv (.p 1)), J 4 (.asg (.p 17))])
 .ret))))))⟩
/-- laws.szMap -/
def a_laws_szMap : AFn := ⟨2, 24, [.tmp 4], (.seq (.reg [J 2 (.box (.t 0)), J 4 (.asg (.c (.int .i64 0)))])
 (.seq (.reg [J 5 (.faddr 2 (.t 2)), J 6 (.load false 1 (.a 5 2)), J 7 (.mv (.p 1)), J 8 (.call n_laws_szIntS [.a 6 2, .t 7]), J 1 (.asg (.p 8))])
 (.seq (.seq (.reg [J 9 (.mv (.p 1)), J 10 (.bin .lss (.t 9) (.c (.int .i64 0)))])
 (.cond (.t 10) (.seq (.reg [J 4 (.asg (.c (.int .i64 (-1))))])
 .ret) .skip))
 (.seq (.reg [J 11 (.faddr 3 (.t 2)), J 12 (.load false 1 (.a 11 2)), J 13 (.mv (.p 1)), J 14 (.call n_laws_szIntS [.a 12 2, .t 13]), J 1 (.asg (.p 14))])
 (.seq (.seq (.reg [J 15 (.mv (.p 1)), J 16 (.bin .lss (.t 15) (.c (.int .i64 0)))])
 (.cond (.t 16) (.seq (.reg [J 4 (.asg (.c (.int .i64 (-1))))])
 .ret) .skip))
 (.seq (.reg [J 17 (.faddr 4 (.t 2)), J 18 (.load false 1 (.a 17 2)), J 19 (.mv (.p 1)), J 20 (.call n_laws_szIntS [.a 18 2, .t 19]), J 1 (.asg (.p 20))])
 (.seq (.seq (.reg [J 21 (.mv (.p 1)), J 22 (.bin .lss (.t 21) (.c (.int .i64 0)))])
 (.cond (.t 22) (.seq (.reg [J 4 (.asg (.c (.int .i64 (-1))))])
 .ret) .skip))
 (.seq (.reg [J 23 (.mv (.p 1)), J 4 (.asg (.p 23))])
 .ret))))))))⟩
/-- laws.szUnitS -/
def a_laws_szUnitS : AFn := ⟨2, 12, [.tmp 4], (.seq (.reg [J 4 (.asg (.c (.int .i64 0)))])
 (.seq (.reg [J 5 (.mv (.p 1)), J 6 (.rf (.t 0)), J 7 (.len (.a 6 0)), J 8 (.bin .sub (.t 5) (.t 7)), J 1 (.asg (.p 8))])
 (.seq (.seq (.reg [J 9 (.mv (.p 1)), J 10 (.bin .lss (.t 9) (.c (.int .i64 0)))])
 (.cond (.t 10) (.seq (.reg [J 4 (.asg (.c (.int .i64 (-1))))])
 .ret) .skip))
 (.seq (.reg [J 11 (.mv (.p 1)), J 4 (.asg (.p 11))])
 .ret))))⟩
def b_laws_szOrderS_0 : AC := (.seq (.seq (.reg [J 12 (.mv (.p 5)), J 13 (.rf (.t 0)), J 14 (.len (.a 13 0)), J 15 (.bin .lss (.t 12) (.t 14))])
 (.cond (.t 15) .skip (.exit 0)))
 (.seq (.block 1 (.seq (.reg [J 18 (.rf (.t 0)), J 19 (.mv (.p 5)), J 20 (.iaddr 3 (.a 18 0) (.t 19)), J 21 (.load true 3 (.a 20 0)), J 22 (.mv (.p 1)), J 23 (.call n_laws_szOrder [.a 21 0, .t 22]), J 1 (.asg (.p 23))])
 (.seq (.reg [J 24 (.mv (.p 1)), J 25 (.bin .lss (.t 24) (.c (.int .i64 0)))])
 (.cond (.t 25) (.seq (.reg [J 4 (.asg (.c (.int .i64 (-1))))])
 .ret) .skip))))
 (.reg [J 16 (.mv (.p 5)), J 17 (.bin .add (.t 16) (.c (.int .i64 1))), J 5 (.asg (.p 17))])))
/-- laws.szOrderS -/
def a_laws_szOrderS : AFn := ⟨2, 27, [.tmp 4], (.seq (.reg [J 4 (.asg (.c (.int .i64 0)))])
 (.seq (.reg [J 6 (.mv (.p 1)), J 7 (.rf (.t 0)), J 8 (.len (.a 7 0)), J 9 (.bin .sub (.t 6) (.t 8)), J 1 (.asg (.p 9))])
 (.seq (.seq (.reg [J 10 (.mv (.p 1)), J 11 (.bin .lss (.t 10) (.c (.int .i64 0)))])
 (.cond (.t 11) (.seq (.reg [J 4 (.asg (.c (.int .i64 (-1))))])
 .ret) .skip))
 (.seq (.seq (.reg [J 5 (.asg (.c (.int .i64 0)))])
 (.block 0 (.loop [0, 1, 5] [1, 4] b_laws_szOrderS_0)))
 (.seq (.reg [J 26 (.mv (.p 1)), J 4 (.asg (.p 26))])
 .ret)))))⟩
/-- spec.fSheets -/
def a_spec_fSheets : AFn := ⟨4, 29, [.tmp 8], (.seq (.reg [J 4 (.box (.t 0)), J 5 (.box (.t 1)), J 6 (.box (.t 2)), J 7 (.box (.t 3)), J 8 (.asg (.c (.bool false)))])
 (.seq (.reg [J 9 (.faddr 0 (.t 6)), J 10 (.load false 1 (.a 9 6)), J 11 (.bin .eql (.a 10 6) (.c (.int .i64 0))), J 12 (.mv (.p 11)), ⟨some 13, some (12, true), .faddr 0 (.t 7)⟩, ⟨some 14, some (12, true), .load false 1 (.a 13 7)⟩, ⟨some 15, some (12, true), .bin .eql (.a 14 7) (.c (.int .i64 1))⟩, J 16 (.pick (.t 12) (.t 15) (.c (.bool false))), J 17 (.mv (.p 16)), ⟨some 18, some (17, true), .load true 12 (.t 4)⟩, ⟨some 19, some (17, true), .load true 3 (.t 5)⟩, ⟨some 20, some (17, true), .load true 2 (.t 6)⟩, ⟨some 21, some (17, true), .call n_spec_oGood [.a 18 4, .a 19 5, .a 20 6]⟩, J 22 (.pick (.t 17) (.t 21) (.c (.bool false))), J 23 (.mv (.p 22)), ⟨some 24, some (23, true), .load true 12 (.t 4)⟩, ⟨some 25, some (23, true), .load true 3 (.t 5)⟩, ⟨some 26, some (23, true), .load true 2 (.t 7)⟩, ⟨some 27, some (23, true), .call n_spec_oGood [.a 24 4, .a 25 5, .a 26 7]⟩, J 28 (.pick (.t 23) (.t 27) (.c (.bool false))), J 8 (.asg (.p 28))])
 .ret))⟩
def b_spec_fResolve_0 : AC := (.seq (.reg [J 38 (.bin .lss (.t 37) (.t 36))])
 (.seq (.cond (.t 38) .skip (.exit 0))
 (.seq (.block 1 (.seq (.reg [J 39 (.mv (.p 37)), J 40 (.iaddr 3 (.a 35 10) (.t 37)), J 41 (.load true 3 (.a 40 10)), J 15 (.alloc [.int .i64 0, .list true 1 [], .int .i64 0]), J 14 (.asg (.p 39)), ⟨none, none, .store 3 (.t 15) (.a 41 10)⟩])
 (.seq (.reg [J 42 (.rf (.t 12)), J 43 (.mv (.p 14)), J 44 (.iaddr 1 (.a 42 12) (.t 43)), ⟨none, none, .store 1 (.a 44 12) (.c (.bool true))⟩])
 (.reg [J 45 (.rf (.t 13)), J 46 (.faddr 0 (.t 15)), J 47 (.load false 1 (.a 46 15)), J 48 (.build [.int .i64 0, .int .i64 0, .int .i64 0] [(0, 1, .p 47)]), J 49 (.bslice 3 1 [.int .i64 0, .int .i64 0, .int .i64 0] [(0, .t 48)]), J 50 (.append 3 (.a 45 13) (.t 49)), J 13 (.asg (.t 50))]))))
 (.reg [J 51 (.bin .add (.t 37) (.c (.int .i64 1))), J 37 (.mv (.p 51))]))))
def b_spec_fResolve_1 : AC := (.seq (.reg [J 57 (.bin .lss (.t 56) (.t 55))])
 (.seq (.cond (.t 57) .skip (.exit 4))
 (.seq (.block 5 (.seq (.reg [J 58 (.mv (.p 56)), J 59 (.iaddr 3 (.a 54 10) (.t 56)), J 60 (.load true 3 (.a 59 10)), J 17 (.alloc [.int .i64 0, .list true 1 [], .int .i64 0]), J 16 (.asg (.p 58)), ⟨none, none, .store 3 (.t 17) (.a 60 10)⟩])
 (.seq (.seq (.reg [J 61 (.rf (.t 12)), J 62 (.mv (.p 16)), J 63 (.iaddr 1 (.a 61 12) (.t 62)), J 64 (.load false 1 (.a 63 12)), J 65 (.un .not (.a 64 12))])
 (.cond (.t 65) (.exit 5) .skip))
 (.seq (.reg [J 66 (.rf (.t 11)), J 67 (.mv (.p 16)), J 68 (.iaddr 1 (.a 66 11) (.t 67)), J 69 (.load false 1 (.a 68 11)), J 70 (.faddr 1 (.t 17)), J 71 (.load false 1 (.a 70 17)), J 72 (.len (.a 71 17)), J 73 (.bin .eql (.a 69 11) (.t 72))])
 (.cond (.t 73) (.reg [J 74 (.rf (.t 12)), J 75 (.mv (.p 16)), J 76 (.iaddr 1 (.a 74 12) (.t 75)), ⟨none, none, .store 1 (.a 76 12) (.c (.bool false))⟩]) (.seq (.reg [J 77 (.load true 12 (.t 4)), J 78 (.load true 3 (.t 5)), J 79 (.faddr 0 (.t 17)), J 80 (.load false 1 (.a 79 17)), J 81 (.faddr 1 (.t 17)), J 82 (.load false 1 (.a 81 17)), J 83 (.rf (.t 11)), J 84 (.mv (.p 16)), J 85 (.iaddr 1 (.a 83 11) (.t 84)), J 86 (.load false 1 (.a 85 11)), J 87 (.iaddr 1 (.a 82 17) (.a 86 11)), J 88 (.load false 1 (.a 87 17)), J 89 (.rf (.t 11)), J 90 (.mv (.p 16)), J 91 (.iaddr 1 (.a 89 11) (.t 90)), J 92 (.load false 1 (.a 91 11)), J 93 (.bin .gtr (.a 92 11) (.c (.int .i64 0))), J 94 (.call n_spec_fZone [.a 77 4, .a 78 5, .a 80 17, .a 88 17, .t 93]), J 95 (.bin .neq (.t 94) (.c (.int .i64 0)))])
 (.cond (.t 95) (.seq (.reg [J 96 (.rf (.t 12)), J 97 (.mv (.p 16)), J 98 (.iaddr 1 (.a 96 12) (.t 97)), ⟨none, none, .store 1 (.a 98 12) (.c (.bool false))⟩])
 (.reg [J 99 (.rf (.t 13)), J 100 (.mv (.p 16)), J 101 (.iaddr 3 (.a 99 13) (.t 100)), J 102 (.faddr 2 (.a 101 13)), ⟨none, none, .store 1 (.a 102 13) (.c (.int .i64 5))⟩])) .skip)))))))
 (.reg [J 103 (.bin .add (.t 56) (.c (.int .i64 1))), J 56 (.mv (.p 103))]))))
def b_spec_fResolve_2 : AC := (.seq (.reg [J 154 (.bin .lss (.t 153) (.t 152))])
 (.seq (.cond (.t 154) .skip (.exit 8))
 (.seq (.block 9 (.seq (.reg [J 155 (.iaddr 3 (.a 151 20) (.t 153)), J 156 (.load true 3 (.a 155 20)), J 25 (.alloc [.int .i64 0, .int .i64 0, .int .i64 0]), ⟨none, none, .store 3 (.t 25) (.a 156 20)⟩])
 (.seq (.reg [J 157 (.faddr 0 (.t 25)), J 158 (.load false 1 (.a 157 25)), J 159 (.faddr 0 (.t 23)), J 160 (.load false 1 (.a 159 23)), J 161 (.bin .eql (.a 158 25) (.a 160 23))])
 (.cond (.t 161) (.seq (.reg [J 162 (.rf (.t 12)), J 163 (.mv (.p 22)), J 164 (.iaddr 1 (.a 162 12) (.t 163)), ⟨none, none, .store 1 (.a 164 12) (.c (.bool false))⟩])
 (.reg [J 165 (.rf (.t 13)), J 166 (.mv (.p 22)), J 167 (.faddr 2 (.t 25)), J 168 (.load false 1 (.a 167 25)), J 169 (.iaddr 3 (.a 165 13) (.t 166)), J 170 (.faddr 2 (.a 169 13)), ⟨none, none, .store 1 (.a 170 13) (.p 168)⟩])) .skip))))
 (.reg [J 171 (.bin .add (.t 153) (.c (.int .i64 1))), J 153 (.mv (.p 171))]))))
def b_spec_fResolve_3 : AC := (.seq (.reg [J 129 (.bin .lss (.t 128) (.t 127))])
 (.seq (.cond (.t 129) .skip (.exit 6))
 (.seq (.block 7 (.seq (.reg [J 130 (.mv (.p 128)), J 131 (.iaddr 3 (.a 126 10) (.t 128)), J 132 (.load true 3 (.a 131 10)), J 23 (.alloc [.int .i64 0, .list true 1 [], .int .i64 0]), J 22 (.asg (.p 130)), ⟨none, none, .store 3 (.t 23) (.a 132 10)⟩])
 (.seq (.seq (.reg [J 133 (.rf (.t 19)), J 134 (.faddr 0 (.t 23)), J 135 (.load false 1 (.a 134 23)), J 136 (.call n_spec_fLeaves [.a 133 19, .a 135 23])])
 (.cond (.t 136) (.seq (.reg [J 137 (.rf (.t 11)), J 138 (.mv (.p 22)), J 139 (.iaddr 1 (.a 137 11) (.t 138)), J 140 (.load false 1 (.a 139 11)), J 141 (.bin .add (.a 140 11) (.c (.int .i64 1))), J 142 (.iaddr 1 (.a 137 11) (.t 138)), ⟨none, none, .store 1 (.a 142 11) (.p 141)⟩])
 (.reg [J 143 (.rf (.t 13)), J 144 (.mv (.p 22)), J 145 (.iaddr 3 (.a 143 13) (.t 144)), J 146 (.faddr 1 (.a 145 13)), J 147 (.load false 1 (.a 146 13)), J 148 (.bin .add (.a 147 13) (.c (.int .i64 1))), J 149 (.iaddr 3 (.a 143 13) (.t 144)), J 150 (.faddr 1 (.a 149 13)), ⟨none, none, .store 1 (.a 150 13) (.p 148)⟩])) .skip))
 (.seq (.reg [J 151 (.rf (.t 20)), J 152 (.len (.a 151 20)), J 153 (.mv (.c (.int .i64 0)))])
 (.block 8 (.loop [4, 5, 8, 10, 11, 12, 13, 19, 20, 22, 23, 126, 127, 128, 151, 152, 153] [4, 5, 8, 9, 10, 11, 12, 13, 19, 20, 126, 127, 128] b_spec_fResolve_2))))))
 (.reg [J 172 (.bin .add (.t 128) (.c (.int .i64 1))), J 128 (.mv (.p 172))]))))
def b_spec_fResolve_4 : AC := (.block 3 (.seq (.seq (.reg [J 54 (.rf (.t 10)), J 55 (.len (.a 54 10)), J 56 (.mv (.c (.int .i64 0)))])
 (.block 4 (.loop [4, 5, 8, 10, 11, 12, 13, 54, 55, 56] [4, 5, 8, 9, 10, 11, 12, 13] b_spec_fResolve_1)))
 (.seq (.reg [J 104 (.load true 12 (.t 4)), J 105 (.load true 3 (.t 5)), J 106 (.rf (.t 10)), J 107 (.rf (.t 11)), J 108 (.rf (.t 12)), J 109 (.call n_spec_fAttempts [.a 104 4, .a 105 5, .a 106 10, .a 107 11, .a 108 12]), J 18 (.asg (.t 109))])
 (.seq (.seq (.reg [J 110 (.rf (.t 18)), J 111 (.len (.a 110 18)), J 112 (.bin .eql (.t 111) (.c (.int .i64 0)))])
 (.cond (.t 112) (.seq (.reg [J 113 (.load true 3 (.t 5)), J 114 (.rf (.t 13)), ⟨none, none, .store 3 (.t 8) (.a 113 5)⟩, J 9 (.asg (.a 114 13))])
 .ret) .skip))
 (.seq (.reg [J 116 (.load true 12 (.t 4)), J 117 (.load true 3 (.t 5)), J 118 (.rf (.t 18)), J 119 (.call n_spec_fSettle [.a 116 4, .a 117 5, .a 118 18]), J 115 (.mv (.t 119)), J 120 (.extract (.t 115) 0), J 121 (.extract (.t 115) 1), J 122 (.extract (.p 115) 2), J 19 (.asg (.t 120)), J 20 (.asg (.t 121)), J 21 (.asg (.p 122))])
 (.seq (.reg [J 123 (.load true 3 (.t 5)), J 124 (.rf (.t 19)), J 125 (.call n_spec_fDo [.a 123 5, .a 124 19]), ⟨none, none, .store 3 (.t 5) (.t 125)⟩])
 (.seq (.reg [J 126 (.rf (.t 10)), J 127 (.len (.a 126 10)), J 128 (.mv (.c (.int .i64 0)))])
 (.block 6 (.loop [4, 5, 8, 10, 11, 12, 13, 19, 20, 126, 127, 128] [4, 5, 8, 9, 10, 11, 12, 13] b_spec_fResolve_3)))))))))
/-- spec.fResolve -/
def a_spec_fResolve : AFn := ⟨4, 173, [.cell 8 3 true, .tmp 9], (.seq (.reg [J 4 (.box (.t 0)), J 5 (.box (.t 1)), J 6 (.box (.t 2)), J 7 (.box (.t 3)), J 8 (.alloc [.int .i64 0, .int .i64 0, .list true 4 []]), J 9 (.asg (.c (.list true 3 [])))])
 (.seq (.reg [J 26 (.load true 2 (.t 6)), J 27 (.load true 2 (.t 7)), J 28 (.call n_spec_fOrders [.a 26 6, .a 27 7]), J 10 (.asg (.t 28))])
 (.seq (.reg [J 29 (.rf (.t 10)), J 30 (.len (.a 29 10)), J 31 (.mslice 1 [.int .i64 0] (.t 30)), J 11 (.asg (.t 31))])
 (.seq (.reg [J 32 (.rf (.t 10)), J 33 (.len (.a 32 10)), J 34 (.mslice 1 [.bool false] (.t 33)), J 12 (.asg (.t 34))])
 (.seq (.reg [J 13 (.asg (.c (.list true 3 [])))])
 (.seq (.seq (.reg [J 35 (.rf (.t 10)), J 36 (.len (.a 35 10)), J 37 (.mv (.c (.int .i64 0)))])
 (.block 0 (.loop [4, 5, 8, 10, 11, 12, 13, 35, 36, 37] [4, 5, 8, 9, 10, 11, 12, 13] b_spec_fResolve_0)))
 (.seq (.reg [J 52 (.load true 3 (.t 5)), J 53 (.call n_spec_fDo [.a 52 5, .c (.list true 3 [])]), ⟨none, none, .store 3 (.t 5) (.t 53)⟩])
 (.block 2 (.loop [4, 5, 8, 10, 11, 12, 13] [8, 9] b_spec_fResolve_4)))))))))⟩
/-- laws.toRules -/
def a_laws_toRules : AFn := ⟨1, 28, [.cell 2 7 true], (.seq (.reg [J 1 (.box (.t 0)), J 2 (.alloc [.list true 5 [], .list true 6 [], .int .i64 0, .int .i64 0, .int .i64 0, .int .i64 0, .int .i64 0])])
 (.seq (.reg [J 3 (.alloc [.list true 5 [], .list true 6 [], .int .i64 0, .int .i64 0, .int .i64 0, .int .i64 0, .int .i64 0])])
 (.seq (.reg [J 4 (.faddr 0 (.t 1)), J 5 (.load false 1 (.a 4 1)), J 6 (.call n_laws_toTerrainS [.a 5 1]), J 7 (.faddr 0 (.t 3)), ⟨none, none, .store 1 (.a 7 3) (.t 6)⟩])
 (.seq (.reg [J 8 (.faddr 1 (.t 1)), J 9 (.load false 1 (.a 8 1)), J 10 (.call n_laws_toKindS [.a 9 1]), J 11 (.faddr 1 (.t 3)), ⟨none, none, .store 1 (.a 11 3) (.t 10)⟩])
 (.seq (.reg [J 12 (.faddr 2 (.t 1)), J 13 (.load false 1 (.a 12 1)), J 14 (.faddr 2 (.t 3)), ⟨none, none, .store 1 (.a 14 3) (.p 13)⟩])
 (.seq (.reg [J 15 (.faddr 3 (.t 1)), J 16 (.load false 1 (.a 15 1)), J 17 (.faddr 3 (.t 3)), ⟨none, none, .store 1 (.a 17 3) (.p 16)⟩])
 (.seq (.reg [J 18 (.faddr 4 (.t 1)), J 19 (.load false 1 (.a 18 1)), J 20 (.faddr 4 (.t 3)), ⟨none, none, .store 1 (.a 20 3) (.p 19)⟩])
 (.seq (.reg [J 21 (.faddr 5 (.t 1)), J 22 (.load false 1 (.a 21 1)), J 23 (.faddr 5 (.t 3)), ⟨none, none, .store 1 (.a 23 3) (.p 22)⟩])
 (.seq (.reg [J 24 (.faddr 6 (.t 1)), J 25 (.load false 1 (.a 24 1)), J 26 (.faddr 6 (.t 3)), ⟨none, none, .store 1 (.a 26 3) (.p 25)⟩])
 (.seq (.reg [J 27 (.load true 7 (.t 3)), ⟨none, none, .store 7 (.t 2) (.a 27 3)⟩])
 .ret))))))))))⟩
/-- laws.toMap -/
def a_laws_toMap : AFn := ⟨1, 23, [.cell 2 5 true], (.seq (.reg [J 1 (.box (.t 0)), J 2 (.alloc [.int .i64 0, .int .i64 0, .list true 1 [], .list true 1 [], .list true 1 []])])
 (.seq (.reg [J 3 (.alloc [.int .i64 0, .int .i64 0, .list true 1 [], .list true 1 [], .list true 1 []])])
 (.seq (.reg [J 4 (.faddr 0 (.t 1)), J 5 (.load false 1 (.a 4 1)), J 6 (.faddr 0 (.t 3)), ⟨none, none, .store 1 (.a 6 3) (.p 5)⟩])
 (.seq (.reg [J 7 (.faddr 1 (.t 1)), J 8 (.load false 1 (.a 7 1)), J 9 (.faddr 1 (.t 3)), ⟨none, none, .store 1 (.a 9 3) (.p 8)⟩])
 (.seq (.reg [J 10 (.faddr 2 (.t 1)), J 11 (.load false 1 (.a 10 1)), J 12 (.call n_laws_toIntS [.a 11 1]), J 13 (.faddr 2 (.t 3)), ⟨none, none, .store 1 (.a 13 3) (.t 12)⟩])
 (.seq (.reg [J 14 (.faddr 3 (.t 1)), J 15 (.load false 1 (.a 14 1)), J 16 (.call n_laws_toIntS [.a 15 1]), J 17 (.faddr 3 (.t 3)), ⟨none, none, .store 1 (.a 17 3) (.t 16)⟩])
 (.seq (.reg [J 18 (.faddr 4 (.t 1)), J 19 (.load false 1 (.a 18 1)), J 20 (.call n_laws_toIntS [.a 19 1]), J 21 (.faddr 4 (.t 3)), ⟨none, none, .store 1 (.a 21 3) (.t 20)⟩])
 (.seq (.reg [J 22 (.load true 5 (.t 3)), ⟨none, none, .store 5 (.t 2) (.a 22 3)⟩])
 .ret))))))))⟩
def b_laws_toUnitS_0 : AC := (.seq (.seq (.reg [J 8 (.mv (.p 4)), J 9 (.rf (.t 0)), J 10 (.len (.a 9 0)), J 11 (.bin .lss (.t 8) (.t 10))])
 (.cond (.t 11) .skip (.exit 0)))
 (.seq (.block 1 (.reg [J 14 (.rf (.t 3)), J 15 (.mv (.p 4)), J 16 (.rf (.t 0)), J 17 (.mv (.p 4)), J 18 (.iaddr 4 (.a 16 0) (.t 17)), J 19 (.load true 4 (.a 18 0)), J 20 (.call n_laws_toUnit [.a 19 0]), J 21 (.iaddr 4 (.a 14 3) (.t 15)), ⟨none, none, .store 4 (.a 21 3) (.t 20)⟩]))
 (.reg [J 12 (.mv (.p 4)), J 13 (.bin .add (.t 12) (.c (.int .i64 1))), J 4 (.asg (.p 13))])))
/-- laws.toUnitS -/
def a_laws_toUnitS : AFn := ⟨1, 23, [.tmp 2], (.seq (.reg [J 2 (.asg (.c (.list true 4 [])))])
 (.seq (.reg [J 5 (.rf (.t 0)), J 6 (.len (.a 5 0)), J 7 (.mslice 4 [.int .i64 0, .int .i64 0, .int .i64 0, .int .i64 0] (.t 6)), J 3 (.asg (.t 7))])
 (.seq (.seq (.reg [J 4 (.asg (.c (.int .i64 0)))])
 (.block 0 (.loop [0, 3, 4] [2, 3] b_laws_toUnitS_0)))
 (.seq (.reg [J 22 (.rf (.t 3)), J 2 (.asg (.a 22 3))])
 .ret))))⟩
def b_laws_toOrderS_0 : AC := (.seq (.seq (.reg [J 8 (.mv (.p 4)), J 9 (.rf (.t 0)), J 10 (.len (.a 9 0)), J 11 (.bin .lss (.t 8) (.t 10))])
 (.cond (.t 11) .skip (.exit 0)))
 (.seq (.block 1 (.reg [J 14 (.rf (.t 3)), J 15 (.mv (.p 4)), J 16 (.rf (.t 0)), J 17 (.mv (.p 4)), J 18 (.iaddr 3 (.a 16 0) (.t 17)), J 19 (.load true 3 (.a 18 0)), J 20 (.call n_laws_toOrder [.a 19 0]), J 21 (.iaddr 3 (.a 14 3) (.t 15)), ⟨none, none, .store 3 (.a 21 3) (.t 20)⟩]))
 (.reg [J 12 (.mv (.p 4)), J 13 (.bin .add (.t 12) (.c (.int .i64 1))), J 4 (.asg (.p 13))])))
/-- laws.toOrderS -/
def a_laws_toOrderS : AFn := ⟨1, 23, [.tmp 2], (.seq (.reg [J 2 (.asg (.c (.list true 3 [])))])
 (.seq (.reg [J 5 (.rf (.t 0)), J 6 (.len (.a 5 0)), J 7 (.mslice 3 [.int .i64 0, .list true 1 [], .int .i64 0] (.t 6)), J 3 (.asg (.t 7))])
 (.seq (.seq (.reg [J 4 (.asg (.c (.int .i64 0)))])
 (.block 0 (.loop [0, 3, 4] [2, 3] b_laws_toOrderS_0)))
 (.seq (.reg [J 22 (.rf (.t 3)), J 2 (.asg (.a 22 3))])
 .ret))))⟩
/-- impl.areSheets -/
def a_impl_areSheets : AFn := ⟨4, 34, [.tmp 8], (.seq (.reg [J 4 (.box (.t 0)), J 5 (.box (.t 1)), J 6 (.box (.t 2)), J 7 (.box (.t 3)), J 8 (.asg (.c (.bool false)))])
 (.seq (.reg [J 9 (.load true 12 (.t 4)), J 10 (.load true 3 (.t 5)), J 11 (.call n_impl_fits [.a 9 4, .a 10 5]), J 12 (.mv (.p 11)), ⟨some 13, some (12, true), .faddr 0 (.t 6)⟩, ⟨some 14, some (12, true), .load false 1 (.a 13 6)⟩, ⟨some 15, some (12, true), .bin .eql (.a 14 6) (.c (.int .i64 0))⟩, J 16 (.pick (.t 12) (.t 15) (.c (.bool false))), J 17 (.mv (.p 16)), ⟨some 18, some (17, true), .faddr 0 (.t 7)⟩, ⟨some 19, some (17, true), .load false 1 (.a 18 7)⟩, ⟨some 20, some (17, true), .bin .eql (.a 19 7) (.c (.int .i64 1))⟩, J 21 (.pick (.t 17) (.t 20) (.c (.bool false))), J 22 (.mv (.p 21)), ⟨some 23, some (22, true), .load true 12 (.t 4)⟩, ⟨some 24, some (22, true), .load true 3 (.t 5)⟩, ⟨some 25, some (22, true), .load true 2 (.t 6)⟩, ⟨some 26, some (22, true), .call n_impl_goodSheet [.a 23 4, .a 24 5, .a 25 6]⟩, J 27 (.pick (.t 22) (.t 26) (.c (.bool false))), J 28 (.mv (.p 27)), ⟨some 29, some (28, true), .load true 12 (.t 4)⟩, ⟨some 30, some (28, true), .load true 3 (.t 5)⟩, ⟨some 31, some (28, true), .load true 2 (.t 7)⟩, ⟨some 32, some (28, true), .call n_impl_goodSheet [.a 29 4, .a 30 5, .a 31 7]⟩, J 33 (.pick (.t 28) (.t 32) (.c (.bool false))), J 8 (.asg (.p 33))])
 .ret))⟩
def b_impl_resolveMovement_0 : AC := (.seq (.reg [J 31 (.bin .lss (.t 30) (.t 29))])
 (.seq (.cond (.t 31) .skip (.exit 0))
 (.seq (.block 1 (.seq (.reg [J 32 (.mv (.p 30)), J 33 (.iaddr 3 (.a 28 2) (.t 30)), J 34 (.load true 3 (.a 33 2)), J 11 (.alloc [.int .i64 0, .list true 1 [], .int .i64 0]), J 10 (.asg (.p 32)), ⟨none, none, .store 3 (.t 11) (.a 34 2)⟩])
 (.seq (.reg [J 35 (.rf (.t 8)), J 36 (.faddr 0 (.t 11)), J 37 (.load false 1 (.a 36 11)), J 38 (.build [.int .i64 0, .int .i64 0, .int .i64 0] [(0, 1, .p 37)]), J 39 (.bslice 3 1 [.int .i64 0, .int .i64 0, .int .i64 0] [(0, .t 38)]), J 40 (.append 3 (.a 35 8) (.t 39)), J 8 (.asg (.t 40))])
 (.reg [J 41 (.mrf 9), J 42 (.faddr 0 (.t 11)), J 43 (.load false 1 (.a 42 11)), J 44 (.mv (.p 10)), ⟨none, none, .mset 41 27 (.a 43 11) (.t 44)⟩]))))
 (.reg [J 45 (.bin .add (.t 30) (.c (.int .i64 1))), J 30 (.mv (.p 45))]))))
def b_impl_resolveMovement_1 : AC := (.seq (.reg [J 55 (.bin .lss (.t 54) (.t 53))])
 (.seq (.cond (.t 55) .skip (.exit 4))
 (.seq (.block 5 (.seq (.reg [J 56 (.iaddr 3 (.a 52 2) (.t 54)), J 57 (.load true 3 (.a 56 2)), J 14 (.alloc [.int .i64 0, .list true 1 [], .int .i64 0]), ⟨none, none, .store 3 (.t 14) (.a 57 2)⟩])
 (.seq (.reg [J 59 (.mrf 9), J 60 (.faddr 0 (.t 14)), J 61 (.load false 1 (.a 60 14)), J 62 (.mget true 59 27 (.a 61 14)), J 58 (.mv (.t 62)), J 63 (.extract (.p 58) 0), J 64 (.extract (.p 58) 1), J 15 (.asg (.p 63)), J 16 (.asg (.p 64))])
 (.seq (.seq (.reg [J 65 (.mv (.p 16)), J 66 (.un .not (.t 65))])
 (.cond (.t 66) (.exit 5) .skip))
 (.seq (.seq (.reg [J 68 (.load true 12 (.t 3)), J 69 (.load true 3 (.t 4)), J 70 (.load true 3 (.t 14)), J 71 (.rf (.t 8)), J 72 (.mv (.p 15)), J 73 (.iaddr 3 (.a 71 8) (.t 72)), J 74 (.faddr 1 (.a 73 8)), J 75 (.load false 1 (.a 74 8)), J 76 (.call n_impl_attemptOf [.a 68 3, .a 69 4, .a 70 14, .a 75 8]), J 67 (.mv (.t 76)), J 77 (.extract (.t 67) 0), J 78 (.extract (.p 67) 1), J 17 (.alloc [.int .i64 0, .int .i64 0, .int .i64 0]), ⟨none, none, .store 3 (.t 17) (.t 77)⟩, J 18 (.asg (.p 78))])
 (.seq (.reg [J 79 (.mv (.p 18))])
 (.cond (.t 79) (.seq (.reg [J 80 (.rf (.t 12)), J 81 (.load true 3 (.t 17)), J 82 (.bslice 3 1 [.int .i64 0, .int .i64 0, .int .i64 0] [(0, .a 81 17)]), J 83 (.append 3 (.a 80 12) (.t 82)), J 12 (.asg (.t 83))])
 (.exit 5)) .skip)))
 (.seq (.seq (.reg [J 84 (.rf (.t 8)), J 85 (.mv (.p 15)), J 86 (.iaddr 3 (.a 84 8) (.t 85)), J 87 (.faddr 1 (.a 86 8)), J 88 (.load false 1 (.a 87 8)), J 89 (.faddr 1 (.t 14)), J 90 (.load false 1 (.a 89 14)), J 91 (.len (.a 90 14)), J 92 (.bin .lss (.a 88 8) (.t 91))])
 (.cond (.t 92) (.reg [J 93 (.rf (.t 8)), J 94 (.mv (.p 15)), J 95 (.iaddr 3 (.a 93 8) (.t 94)), J 96 (.faddr 2 (.a 95 8)), ⟨none, none, .store 1 (.a 96 8) (.c (.int .i64 5))⟩]) .skip))
 (.reg [J 97 (.mrf 9), J 98 (.faddr 0 (.t 14)), J 99 (.load false 1 (.a 98 14)), ⟨none, none, .mdel 97 27 (.a 99 14)⟩])))))))
 (.reg [J 100 (.bin .add (.t 54) (.c (.int .i64 1))), J 54 (.mv (.p 100))]))))
def b_impl_resolveMovement_2 : AC := (.seq (.reg [J 116 (.rf (.t 8)), J 117 (.mrf 9), J 118 (.mv (.p 22)), J 119 (.mget false 117 27 (.t 118)), J 120 (.mv (.p 23)), J 121 (.iaddr 3 (.a 116 8) (.t 119)), J 122 (.faddr 2 (.a 121 8)), ⟨none, none, .store 1 (.a 122 8) (.p 120)⟩])
 (.reg [J 123 (.mrf 9), J 124 (.mv (.p 22)), ⟨none, none, .mdel 123 27 (.t 124)⟩]))
def b_impl_resolveMovement_3 : AC := (.seq (.reg [J 128 (.bin .lss (.t 127) (.t 126))])
 (.seq (.cond (.t 128) .skip (.exit 8))
 (.seq (.block 9 (.seq (.reg [J 129 (.iaddr 3 (.a 125 19) (.t 127)), J 130 (.load true 3 (.a 129 19)), J 25 (.alloc [.int .i64 0, .int .i64 0, .int .i64 0]), ⟨none, none, .store 3 (.t 25) (.a 130 19)⟩])
 (.reg [J 131 (.rf (.t 8)), J 132 (.mrf 9), J 133 (.faddr 0 (.t 25)), J 134 (.load false 1 (.a 133 25)), J 135 (.mget false 132 27 (.a 134 25)), J 136 (.iaddr 3 (.a 131 8) (.t 135)), J 137 (.faddr 1 (.a 136 8)), J 138 (.load false 1 (.a 137 8)), J 139 (.bin .add (.a 138 8) (.c (.int .i64 1))), J 140 (.iaddr 3 (.a 131 8) (.t 135)), J 141 (.faddr 1 (.a 140 8)), ⟨none, none, .store 1 (.a 141 8) (.p 139)⟩])))
 (.reg [J 142 (.bin .add (.t 127) (.c (.int .i64 1))), J 127 (.mv (.p 142))]))))
def b_impl_resolveMovement_4 : AC := (.seq (.seq (.reg [J 48 (.mrf 9), J 49 (.mlen 48 27), J 50 (.bin .gtr (.t 49) (.c (.int .i64 0)))])
 (.cond (.t 50) .skip (.exit 2)))
 (.block 3 (.seq (.reg [J 51 (.bslice 3 0 [.int .i64 0, .int .i64 0, .int .i64 0] []), J 12 (.asg (.t 51))])
 (.seq (.seq (.reg [J 52 (.rf (.t 2)), J 53 (.len (.a 52 2)), J 54 (.mv (.c (.int .i64 0)))])
 (.block 4 (.loop [2, 3, 4, 6, 8, 9, 12, 27, 52, 53, 54] [2, 3, 4, 6, 7, 8, 9, 12, 27] b_impl_resolveMovement_1)))
 (.seq (.reg [J 102 (.load true 12 (.t 3)), J 103 (.load true 3 (.t 4)), J 104 (.rf (.t 12)), J 105 (.call n_impl_settle [.a 102 3, .a 103 4, .a 104 12]), J 101 (.mv (.t 105)), J 106 (.extract (.t 101) 0), J 107 (.extract (.p 101) 1), J 108 (.extract (.t 101) 2), J 19 (.asg (.t 106)), J 20 (.asg (.p 107)), J 21 (.mend 108 108)])
 (.seq (.each 21 110 22 23 148 [2, 3, 4, 6, 8, 9, 19, 27] [2, 3, 4, 6, 8, 9, 19, 27] b_impl_resolveMovement_2)
 (.seq (.seq (.reg [J 125 (.rf (.t 19)), J 126 (.len (.a 125 19)), J 127 (.mv (.c (.int .i64 0)))])
 (.block 8 (.loop [2, 3, 4, 6, 8, 9, 19, 27, 125, 126, 127] [2, 3, 4, 6, 7, 8, 9, 19, 27] b_impl_resolveMovement_3)))
 (.reg [J 143 (.load true 3 (.t 4)), J 144 (.rf (.t 19)), J 145 (.call n_impl_madeAttempts [.a 143 4, .a 144 19]), ⟨none, none, .store 3 (.t 4) (.t 145)⟩]))))))))
/-- impl.resolveMovement -/
def a_impl_resolveMovement : AFn := ⟨3, 148, [.cell 6 3 true, .tmp 7], (.seq (.reg [J 3 (.box (.t 0)), J 4 (.box (.t 1)), J 6 (.alloc [.int .i64 0, .int .i64 0, .list true 4 []]), J 7 (.asg (.c (.list true 3 [])))])
 (.seq (.reg [J 26 (.bslice 3 0 [.int .i64 0, .int .i64 0, .int .i64 0] []), J 27 (.mkmap), J 8 (.asg (.t 26)), J 9 (.mrf 27)])
 (.seq (.seq (.reg [J 28 (.rf (.t 2)), J 29 (.len (.a 28 2)), J 30 (.mv (.c (.int .i64 0)))])
 (.block 0 (.loop [2, 3, 4, 6, 8, 9, 27, 28, 29, 30] [2, 3, 4, 6, 7, 8, 9, 27] b_impl_resolveMovement_0)))
 (.seq (.reg [J 46 (.load true 3 (.t 4)), J 47 (.call n_impl_cloneState [.a 46 4]), ⟨none, none, .store 3 (.t 4) (.t 47)⟩])
 (.seq (.block 2 (.loop [2, 3, 4, 6, 8, 9, 27] [4, 6, 7, 8] b_impl_resolveMovement_4))
 (.seq (.reg [J 146 (.load true 3 (.t 4)), J 147 (.rf (.t 8)), ⟨none, none, .store 3 (.t 6) (.a 146 4)⟩, J 7 (.asg (.a 147 8))])
 .ret))))))⟩
/-- impl.allOrders -/
def a_impl_allOrders : AFn := ⟨2, 15, [.tmp 4], (.seq (.reg [J 2 (.box (.t 0)), J 3 (.box (.t 1)), J 4 (.asg (.c (.list true 3 [])))])
 (.seq (.reg [J 6 (.faddr 1 (.t 2)), J 7 (.load false 1 (.a 6 2)), J 8 (.faddr 1 (.t 3)), J 9 (.load false 1 (.a 8 3)), J 10 (.bslice 1 2 [.list true 3 []] [(0, .a 7 2), (1, .a 9 3)]), J 11 (.call n_slices_Concat_impl_Order_impl_Order [.m 10 10]), J 5 (.asg (.t 11))])
 (.seq (.reg [J 12 (.rf (.t 5)), J 13 (.calli n_slices_SortFunc_impl_Order_impl_Order 12 5 [.f n_impl_allOrders_1])])
 (.seq (.reg [J 14 (.rf (.t 5)), J 4 (.asg (.a 14 5))])
 .ret))))⟩
def b_laws_eqUnitS_0 : AC := (.seq (.seq (.reg [J 11 (.mv (.p 5)), J 12 (.rf (.t 0)), J 13 (.len (.a 12 0)), J 14 (.bin .lss (.t 11) (.t 13))])
 (.cond (.t 14) .skip (.exit 0)))
 (.seq (.block 1 (.seq (.reg [J 17 (.rf (.t 0)), J 18 (.mv (.p 5)), J 19 (.iaddr 4 (.a 17 0) (.t 18)), J 20 (.load true 4 (.a 19 0)), J 21 (.rf (.t 1)), J 22 (.mv (.p 5)), J 23 (.iaddr 4 (.a 21 1) (.t 22)), J 24 (.load true 4 (.a 23 1)), J 25 (.call n_laws_eqUnit [.a 20 0, .a 24 1]), J 26 (.un .not (.t 25))])
 (.cond (.t 26) (.seq (.reg [J 4 (.asg (.c (.bool false)))])
 .ret) .skip)))
 (.reg [J 15 (.mv (.p 5)), J 16 (.bin .add (.t 15) (.c (.int .i64 1))), J 5 (.asg (.p 16))])))
/-- laws.eqUnitS -/
def a_laws_eqUnitS : AFn := ⟨2, 27, [.tmp 4], (.seq (.reg [J 4 (.asg (.c (.bool false)))])
 (.seq (.seq (.reg [J 6 (.rf (.t 0)), J 7 (.len (.a 6 0)), J 8 (.rf (.t 1)), J 9 (.len (.a 8 1)), J 10 (.bin .neq (.t 7) (.t 9))])
 (.cond (.t 10) (.seq (.reg [J 4 (.asg (.c (.bool false)))])
 .ret) .skip))
 (.seq (.seq (.reg [J 5 (.asg (.c (.int .i64 0)))])
 (.block 0 (.loop [0, 1, 5] [4] b_laws_eqUnitS_0)))
 (.seq (.reg [J 4 (.asg (.c (.bool true)))])
 .ret))))⟩
/-- laws.eqMoved -/
def a_laws_eqMoved : AFn := ⟨2, 20, [.tmp 4], (.seq (.reg [J 2 (.box (.t 0)), J 3 (.box (.t 1)), J 4 (.asg (.c (.bool false)))])
 (.seq (.seq (.reg [J 5 (.faddr 0 (.t 2)), J 6 (.load false 1 (.a 5 2)), J 7 (.faddr 0 (.t 3)), J 8 (.load false 1 (.a 7 3)), J 9 (.bin .neq (.a 6 2) (.a 8 3))])
 (.cond (.t 9) (.seq (.reg [J 4 (.asg (.c (.bool false)))])
 .ret) .skip))
 (.seq (.seq (.reg [J 10 (.faddr 1 (.t 2)), J 11 (.load false 1 (.a 10 2)), J 12 (.faddr 1 (.t 3)), J 13 (.load false 1 (.a 12 3)), J 14 (.bin .neq (.a 11 2) (.a 13 3))])
 (.cond (.t 14) (.seq (.reg [J 4 (.asg (.c (.bool false)))])
 .ret) .skip))
 (.seq (.seq (.reg [J 15 (.faddr 2 (.t 2)), J 16 (.load false 1 (.a 15 2)), J 17 (.faddr 2 (.t 3)), J 18 (.load false 1 (.a 17 3)), J 19 (.bin .neq (.a 16 2) (.a 18 3))])
 (.cond (.t 19) (.seq (.reg [J 4 (.asg (.c (.bool false)))])
 .ret) .skip))
 (.seq (.reg [J 4 (.asg (.c (.bool true)))])
 .ret)))))⟩
/-- laws.eqRules -/
def a_laws_eqRules : AFn := ⟨2, 42, [.tmp 4], (.seq (.reg [J 2 (.box (.t 0)), J 3 (.box (.t 1)), J 4 (.asg (.c (.bool false)))])
 (.seq (.seq (.reg [J 5 (.faddr 0 (.t 2)), J 6 (.load false 1 (.a 5 2)), J 7 (.faddr 0 (.t 3)), J 8 (.load false 1 (.a 7 3)), J 9 (.call n_laws_eqTerrainS [.a 6 2, .a 8 3]), J 10 (.un .not (.t 9))])
 (.cond (.t 10) (.seq (.reg [J 4 (.asg (.c (.bool false)))])
 .ret) .skip))
 (.seq (.seq (.reg [J 11 (.faddr 1 (.t 2)), J 12 (.load false 1 (.a 11 2)), J 13 (.faddr 1 (.t 3)), J 14 (.load false 1 (.a 13 3)), J 15 (.call n_laws_eqKindS [.a 12 2, .a 14 3]), J 16 (.un .not (.t 15))])
 (.cond (.t 16) (.seq (.reg [J 4 (.asg (.c (.bool false)))])
 .ret) .skip))
 (.seq (.seq (.reg [J 17 (.faddr 2 (.t 2)), J 18 (.load false 1 (.a 17 2)), J 19 (.faddr 2 (.t 3)), J 20 (.load false 1 (.a 19 3)), J 21 (.bin .neq (.a 18 2) (.a 20 3))])
 (.cond (.t 21) (.seq (.reg [J 4 (.asg (.c (.bool false)))])
 .ret) .skip))
 (.seq (.seq (.reg [J 22 (.faddr 3 (.t 2)), J 23 (.load false 1 (.a 22 2)), J 24 (.faddr 3 (.t 3)), J 25 (.load false 1 (.a 24 3)), J 26 (.bin .neq (.a 23 2) (.a 25 3))])
 (.cond (.t 26) (.seq (.reg [J 4 (.asg (.c (.bool false)))])
 .ret) .skip))
 (.seq (.seq (.reg [J 27 (.faddr 4 (.t 2)), J 28 (.load false 1 (.a 27 2)), J 29 (.faddr 4 (.t 3)), J 30 (.load false 1 (.a 29 3)), J 31 (.bin .neq (.a 28 2) (.a 30 3))])
 (.cond (.t 31) (.seq (.reg [J 4 (.asg (.c (.bool false)))])
 .ret) .skip))
 (.seq (.seq (.reg [J 32 (.faddr 5 (.t 2)), J 33 (.load false 1 (.a 32 2)), J 34 (.faddr 5 (.t 3)), J 35 (.load false 1 (.a 34 3)), J 36 (.bin .neq (.a 33 2) (.a 35 3))])
 (.cond (.t 36) (.seq (.reg [J 4 (.asg (.c (.bool false)))])
 .ret) .skip))
 (.seq (.seq (.reg [J 37 (.faddr 6 (.t 2)), J 38 (.load false 1 (.a 37 2)), J 39 (.faddr 6 (.t 3)), J 40 (.load false 1 (.a 39 3)), J 41 (.bin .neq (.a 38 2) (.a 40 3))])
 (.cond (.t 41) (.seq (.reg [J 4 (.asg (.c (.bool false)))])
 .ret) .skip))
 (.seq (.reg [J 4 (.asg (.c (.bool true)))])
 .ret)))))))))⟩
/-- laws.eqMap -/
def a_laws_eqMap : AFn := ⟨2, 33, [.tmp 4], (.seq (.reg [J 2 (.box (.t 0)), J 3 (.box (.t 1)), J 4 (.asg (.c (.bool false)))])
 (.seq (.seq (.reg [J 5 (.faddr 0 (.t 2)), J 6 (.load false 1 (.a 5 2)), J 7 (.faddr 0 (.t 3)), J 8 (.load false 1 (.a 7 3)), J 9 (.bin .neq (.a 6 2) (.a 8 3))])
 (.cond (.t 9) (.seq (.reg [J 4 (.asg (.c (.bool false)))])
 .ret) .skip))
 (.seq (.seq (.reg [J 10 (.faddr 1 (.t 2)), J 11 (.load false 1 (.a 10 2)), J 12 (.faddr 1 (.t 3)), J 13 (.load false 1 (.a 12 3)), J 14 (.bin .neq (.a 11 2) (.a 13 3))])
 (.cond (.t 14) (.seq (.reg [J 4 (.asg (.c (.bool false)))])
 .ret) .skip))
 (.seq (.seq (.reg [J 15 (.faddr 2 (.t 2)), J 16 (.load false 1 (.a 15 2)), J 17 (.faddr 2 (.t 3)), J 18 (.load false 1 (.a 17 3)), J 19 (.call n_laws_eqIntS [.a 16 2, .a 18 3]), J 20 (.un .not (.t 19))])
 (.cond (.t 20) (.seq (.reg [J 4 (.asg (.c (.bool false)))])
 .ret) .skip))
 (.seq (.seq (.reg [J 21 (.faddr 3 (.t 2)), J 22 (.load false 1 (.a 21 2)), J 23 (.faddr 3 (.t 3)), J 24 (.load false 1 (.a 23 3)), J 25 (.call n_laws_eqIntS [.a 22 2, .a 24 3]), J 26 (.un .not (.t 25))])
 (.cond (.t 26) (.seq (.reg [J 4 (.asg (.c (.bool false)))])
 .ret) .skip))
 (.seq (.seq (.reg [J 27 (.faddr 4 (.t 2)), J 28 (.load false 1 (.a 27 2)), J 29 (.faddr 4 (.t 3)), J 30 (.load false 1 (.a 29 3)), J 31 (.call n_laws_eqIntS [.a 28 2, .a 30 3]), J 32 (.un .not (.t 31))])
 (.cond (.t 32) (.seq (.reg [J 4 (.asg (.c (.bool false)))])
 .ret) .skip))
 (.seq (.reg [J 4 (.asg (.c (.bool true)))])
 .ret)))))))⟩
def b_laws_eqOrderS_0 : AC := (.seq (.seq (.reg [J 11 (.mv (.p 5)), J 12 (.rf (.t 0)), J 13 (.len (.a 12 0)), J 14 (.bin .lss (.t 11) (.t 13))])
 (.cond (.t 14) .skip (.exit 0)))
 (.seq (.block 1 (.seq (.reg [J 17 (.rf (.t 0)), J 18 (.mv (.p 5)), J 19 (.iaddr 3 (.a 17 0) (.t 18)), J 20 (.load true 3 (.a 19 0)), J 21 (.rf (.t 1)), J 22 (.mv (.p 5)), J 23 (.iaddr 3 (.a 21 1) (.t 22)), J 24 (.load true 3 (.a 23 1)), J 25 (.call n_laws_eqOrder [.a 20 0, .a 24 1]), J 26 (.un .not (.t 25))])
 (.cond (.t 26) (.seq (.reg [J 4 (.asg (.c (.bool false)))])
 .ret) .skip)))
 (.reg [J 15 (.mv (.p 5)), J 16 (.bin .add (.t 15) (.c (.int .i64 1))), J 5 (.asg (.p 16))])))
/-- laws.eqOrderS -/
def a_laws_eqOrderS : AFn := ⟨2, 27, [.tmp 4], (.seq (.reg [J 4 (.asg (.c (.bool false)))])
 (.seq (.seq (.reg [J 6 (.rf (.t 0)), J 7 (.len (.a 6 0)), J 8 (.rf (.t 1)), J 9 (.len (.a 8 1)), J 10 (.bin .neq (.t 7) (.t 9))])
 (.cond (.t 10) (.seq (.reg [J 4 (.asg (.c (.bool false)))])
 .ret) .skip))
 (.seq (.seq (.reg [J 5 (.asg (.c (.int .i64 0)))])
 (.block 0 (.loop [0, 1, 5] [4] b_laws_eqOrderS_0)))
 (.seq (.reg [J 4 (.asg (.c (.bool true)))])
 .ret))))⟩
/-- laws.markRules -/
def a_laws_markRules : AFn := ⟨2, 14, [.tmp 4, .io 0], (.seq (.reg [J 2 (.boxk 0), J 4 (.asg (.c (.int .i64 0)))])
 (.seq (.reg [J 5 (.faddr 0 (.t 2)), J 6 (.load false 1 (.a 5 2)), J 7 (.mv (.p 1)), J 8 (.calli n_laws_markTerrainS 6 2 [.t 7]), J 1 (.asg (.p 8))])
 (.seq (.reg [J 9 (.faddr 1 (.t 2)), J 10 (.load false 1 (.a 9 2)), J 11 (.mv (.p 1)), J 12 (.calli n_laws_markKindS 10 2 [.t 11]), J 1 (.asg (.p 12))])
 (.seq (.reg [J 13 (.mv (.p 1)), J 4 (.asg (.p 13))])
 .ret))))⟩
/-- laws.markMap -/
def a_laws_markMap : AFn := ⟨2, 18, [.tmp 4, .io 0], (.seq (.reg [J 2 (.boxk 0), J 4 (.asg (.c (.int .i64 0)))])
 (.seq (.reg [J 5 (.faddr 2 (.t 2)), J 6 (.load false 1 (.a 5 2)), J 7 (.mv (.p 1)), J 8 (.calli n_laws_markIntS 6 2 [.t 7]), J 1 (.asg (.p 8))])
 (.seq (.reg [J 9 (.faddr 3 (.t 2)), J 10 (.load false 1 (.a 9 2)), J 11 (.mv (.p 1)), J 12 (.calli n_laws_markIntS 10 2 [.t 11]), J 1 (.asg (.p 12))])
 (.seq (.reg [J 13 (.faddr 4 (.t 2)), J 14 (.load false 1 (.a 13 2)), J 15 (.mv (.p 1)), J 16 (.calli n_laws_markIntS 14 2 [.t 15]), J 1 (.asg (.p 16))])
 (.seq (.reg [J 17 (.mv (.p 1)), J 4 (.asg (.p 17))])
 .ret)))))⟩
def b_laws_markUnitS_0 : AC := (.seq (.seq (.reg [J 6 (.mv (.p 5)), J 7 (.rf (.t 0)), J 8 (.len (.a 7 0)), J 9 (.bin .lss (.t 6) (.t 8))])
 (.cond (.t 9) .skip (.exit 0)))
 (.seq (.block 1 (.seq (.reg [J 12 (.rf (.t 0)), J 13 (.mv (.p 5)), J 14 (.mv (.p 1)), J 15 (.iaddr 4 (.a 12 0) (.t 13)), J 16 (.faddr 0 (.a 15 0)), ⟨none, none, .store 1 (.a 16 0) (.p 14)⟩])
 (.seq (.reg [J 17 (.mv (.p 1)), J 18 (.bin .add (.t 17) (.c (.int .i64 1))), J 1 (.asg (.p 18))])
 (.seq (.reg [J 19 (.rf (.t 0)), J 20 (.mv (.p 5)), J 21 (.mv (.p 1)), J 22 (.iaddr 4 (.a 19 0) (.t 20)), J 23 (.faddr 1 (.a 22 0)), ⟨none, none, .store 1 (.a 23 0) (.p 21)⟩])
 (.seq (.reg [J 24 (.mv (.p 1)), J 25 (.bin .add (.t 24) (.c (.int .i64 1))), J 1 (.asg (.p 25))])
 (.seq (.reg [J 26 (.rf (.t 0)), J 27 (.mv (.p 5)), J 28 (.mv (.p 1)), J 29 (.iaddr 4 (.a 26 0) (.t 27)), J 30 (.faddr 2 (.a 29 0)), ⟨none, none, .store 1 (.a 30 0) (.p 28)⟩])
 (.seq (.reg [J 31 (.mv (.p 1)), J 32 (.bin .add (.t 31) (.c (.int .i64 1))), J 1 (.asg (.p 32))])
 (.seq (.reg [J 33 (.rf (.t 0)), J 34 (.mv (.p 5)), J 35 (.mv (.p 1)), J 36 (.iaddr 4 (.a 33 0) (.t 34)), J 37 (.faddr 3 (.a 36 0)), ⟨none, none, .store 1 (.a 37 0) (.p 35)⟩])
 (.reg [J 38 (.mv (.p 1)), J 39 (.bin .add (.t 38) (.c (.int .i64 1))), J 1 (.asg (.p 39))])))))))))
 (.reg [J 10 (.mv (.p 5)), J 11 (.bin .add (.t 10) (.c (.int .i64 1))), J 5 (.asg (.p 11))])))
/-- laws.markUnitS -/
def a_laws_markUnitS : AFn := ⟨2, 41, [.tmp 4, .io 0], (.seq (.reg [J 4 (.asg (.c (.int .i64 0)))])
 (.seq (.seq (.reg [J 5 (.asg (.c (.int .i64 0)))])
 (.block 0 (.loop [0, 1, 5] [0, 1, 4] b_laws_markUnitS_0)))
 (.seq (.reg [J 40 (.mv (.p 1)), J 4 (.asg (.p 40))])
 .ret)))⟩
def b_laws_markOrderS_0 : AC := (.seq (.seq (.reg [J 6 (.mv (.p 5)), J 7 (.rf (.t 0)), J 8 (.len (.a 7 0)), J 9 (.bin .lss (.t 6) (.t 8))])
 (.cond (.t 9) .skip (.exit 0)))
 (.seq (.block 1 (.seq (.reg [J 12 (.rf (.t 0)), J 13 (.mv (.p 5)), J 14 (.mv (.p 1)), J 15 (.iaddr 3 (.a 12 0) (.t 13)), J 16 (.faddr 0 (.a 15 0)), ⟨none, none, .store 1 (.a 16 0) (.p 14)⟩])
 (.seq (.reg [J 17 (.mv (.p 1)), J 18 (.bin .add (.t 17) (.c (.int .i64 1))), J 1 (.asg (.p 18))])
 (.seq (.reg [J 19 (.rf (.t 0)), J 20 (.mv (.p 5)), J 21 (.iaddr 3 (.a 19 0) (.t 20)), J 22 (.faddr 1 (.a 21 0)), J 23 (.load false 1 (.a 22 0)), J 24 (.mv (.p 1)), J 25 (.calli n_laws_markIntS 23 0 [.t 24]), J 1 (.asg (.p 25))])
 (.seq (.reg [J 26 (.rf (.t 0)), J 27 (.mv (.p 5)), J 28 (.mv (.p 1)), J 29 (.iaddr 3 (.a 26 0) (.t 27)), J 30 (.faddr 2 (.a 29 0)), ⟨none, none, .store 1 (.a 30 0) (.p 28)⟩])
 (.reg [J 31 (.mv (.p 1)), J 32 (.bin .add (.t 31) (.c (.int .i64 1))), J 1 (.asg (.p 32))]))))))
 (.reg [J 10 (.mv (.p 5)), J 11 (.bin .add (.t 10) (.c (.int .i64 1))), J 5 (.asg (.p 11))])))
/-- laws.markOrderS -/
def a_laws_markOrderS : AFn := ⟨2, 34, [.tmp 4, .io 0], (.seq (.reg [J 4 (.asg (.c (.int .i64 0)))])
 (.seq (.seq (.reg [J 5 (.asg (.c (.int .i64 0)))])
 (.block 0 (.loop [0, 1, 5] [0, 1, 4] b_laws_markOrderS_0)))
 (.seq (.reg [J 33 (.mv (.p 1)), J 4 (.asg (.p 33))])
 .ret)))⟩
def b_laws_heldUnitS_0 : AC := (.seq (.seq (.reg [J 6 (.mv (.p 5)), J 7 (.rf (.t 0)), J 8 (.len (.a 7 0)), J 9 (.bin .lss (.t 6) (.t 8))])
 (.cond (.t 9) .skip (.exit 0)))
 (.seq (.block 1 (.seq (.seq (.reg [J 12 (.rf (.t 0)), J 13 (.mv (.p 5)), J 14 (.iaddr 4 (.a 12 0) (.t 13)), J 15 (.faddr 0 (.a 14 0)), J 16 (.load false 1 (.a 15 0)), J 17 (.mv (.p 1)), J 18 (.bin .neq (.a 16 0) (.t 17))])
 (.cond (.t 18) (.seq (.reg [J 4 (.asg (.c (.int .i64 (-1))))])
 .ret) .skip))
 (.seq (.reg [J 19 (.mv (.p 1)), J 20 (.bin .add (.t 19) (.c (.int .i64 1))), J 1 (.asg (.p 20))])
 (.seq (.seq (.reg [J 21 (.rf (.t 0)), J 22 (.mv (.p 5)), J 23 (.iaddr 4 (.a 21 0) (.t 22)), J 24 (.faddr 1 (.a 23 0)), J 25 (.load false 1 (.a 24 0)), J 26 (.mv (.p 1)), J 27 (.bin .neq (.a 25 0) (.t 26))])
 (.cond (.t 27) (.seq (.reg [J 4 (.asg (.c (.int .i64 (-1))))])
 .ret) .skip))
 (.seq (.reg [J 28 (.mv (.p 1)), J 29 (.bin .add (.t 28) (.c (.int .i64 1))), J 1 (.asg (.p 29))])
 (.seq (.seq (.reg [J 30 (.rf (.t 0)), J 31 (.mv (.p 5)), J 32 (.iaddr 4 (.a 30 0) (.t 31)), J 33 (.faddr 2 (.a 32 0)), J 34 (.load false 1 (.a 33 0)), J 35 (.mv (.p 1)), J 36 (.bin .neq (.a 34 0) (.t 35))])
 (.cond (.t 36) (.seq (.reg [J 4 (.asg (.c (.int .i64 (-1))))])
 .ret) .skip))
 (.seq (.reg [J 37 (.mv (.p 1)), J 38 (.bin .add (.t 37) (.c (.int .i64 1))), J 1 (.asg (.p 38))])
 (.seq (.seq (.reg [J 39 (.rf (.t 0)), J 40 (.mv (.p 5)), J 41 (.iaddr 4 (.a 39 0) (.t 40)), J 42 (.faddr 3 (.a 41 0)), J 43 (.load false 1 (.a 42 0)), J 44 (.mv (.p 1)), J 45 (.bin .neq (.a 43 0) (.t 44))])
 (.cond (.t 45) (.seq (.reg [J 4 (.asg (.c (.int .i64 (-1))))])
 .ret) .skip))
 (.reg [J 46 (.mv (.p 1)), J 47 (.bin .add (.t 46) (.c (.int .i64 1))), J 1 (.asg (.p 47))])))))))))
 (.reg [J 10 (.mv (.p 5)), J 11 (.bin .add (.t 10) (.c (.int .i64 1))), J 5 (.asg (.p 11))])))
/-- laws.heldUnitS -/
def a_laws_heldUnitS : AFn := ⟨2, 49, [.tmp 4], (.seq (.reg [J 4 (.asg (.c (.int .i64 0)))])
 (.seq (.seq (.reg [J 5 (.asg (.c (.int .i64 0)))])
 (.block 0 (.loop [0, 1, 5] [1, 4] b_laws_heldUnitS_0)))
 (.seq (.reg [J 48 (.mv (.p 1)), J 4 (.asg (.p 48))])
 .ret)))⟩
def b_laws_szTerrainS_0 : AC := (.seq (.seq (.reg [J 12 (.mv (.p 5)), J 13 (.rf (.t 0)), J 14 (.len (.a 13 0)), J 15 (.bin .lss (.t 12) (.t 14))])
 (.cond (.t 15) .skip (.exit 0)))
 (.seq (.block 1 (.seq (.reg [J 18 (.rf (.t 0)), J 19 (.mv (.p 5)), J 20 (.iaddr 5 (.a 18 0) (.t 19)), J 21 (.load true 5 (.a 20 0)), J 22 (.mv (.p 1)), J 23 (.call n_laws_szTerrain [.a 21 0, .t 22]), J 1 (.asg (.p 23))])
 (.seq (.reg [J 24 (.mv (.p 1)), J 25 (.bin .lss (.t 24) (.c (.int .i64 0)))])
 (.cond (.t 25) (.seq (.reg [J 4 (.asg (.c (.int .i64 (-1))))])
 .ret) .skip))))
 (.reg [J 16 (.mv (.p 5)), J 17 (.bin .add (.t 16) (.c (.int .i64 1))), J 5 (.asg (.p 17))])))
/-- laws.szTerrainS -/
def a_laws_szTerrainS : AFn := ⟨2, 27, [.tmp 4], (.seq (.reg [J 4 (.asg (.c (.int .i64 0)))])
 (.seq (.reg [J 6 (.mv (.p 1)), J 7 (.rf (.t 0)), J 8 (.len (.a 7 0)), J 9 (.bin .sub (.t 6) (.t 8)), J 1 (.asg (.p 9))])
 (.seq (.seq (.reg [J 10 (.mv (.p 1)), J 11 (.bin .lss (.t 10) (.c (.int .i64 0)))])
 (.cond (.t 11) (.seq (.reg [J 4 (.asg (.c (.int .i64 (-1))))])
 .ret) .skip))
 (.seq (.seq (.reg [J 5 (.asg (.c (.int .i64 0)))])
 (.block 0 (.loop [0, 1, 5] [1, 4] b_laws_szTerrainS_0)))
 (.seq (.reg [J 26 (.mv (.p 1)), J 4 (.asg (.p 26))])
 .ret)))))⟩
def b_laws_szKindS_0 : AC := (.seq (.seq (.reg [J 12 (.mv (.p 5)), J 13 (.rf (.t 0)), J 14 (.len (.a 13 0)), J 15 (.bin .lss (.t 12) (.t 14))])
 (.cond (.t 15) .skip (.exit 0)))
 (.seq (.block 1 (.seq (.reg [J 18 (.rf (.t 0)), J 19 (.mv (.p 5)), J 20 (.iaddr 6 (.a 18 0) (.t 19)), J 21 (.load true 6 (.a 20 0)), J 22 (.mv (.p 1)), J 23 (.call n_laws_szKind [.a 21 0, .t 22]), J 1 (.asg (.p 23))])
 (.seq (.reg [J 24 (.mv (.p 1)), J 25 (.bin .lss (.t 24) (.c (.int .i64 0)))])
 (.cond (.t 25) (.seq (.reg [J 4 (.asg (.c (.int .i64 (-1))))])
 .ret) .skip))))
 (.reg [J 16 (.mv (.p 5)), J 17 (.bin .add (.t 16) (.c (.int .i64 1))), J 5 (.asg (.p 17))])))
/-- laws.szKindS -/
def a_laws_szKindS : AFn := ⟨2, 27, [.tmp 4], (.seq (.reg [J 4 (.asg (.c (.int .i64 0)))])
 (.seq (.reg [J 6 (.mv (.p 1)), J 7 (.rf (.t 0)), J 8 (.len (.a 7 0)), J 9 (.bin .sub (.t 6) (.t 8)), J 1 (.asg (.p 9))])
 (.seq (.seq (.reg [J 10 (.mv (.p 1)), J 11 (.bin .lss (.t 10) (.c (.int .i64 0)))])
 (.cond (.t 11) (.seq (.reg [J 4 (.asg (.c (.int .i64 (-1))))])
 .ret) .skip))
 (.seq (.seq (.reg [J 5 (.asg (.c (.int .i64 0)))])
 (.block 0 (.loop [0, 1, 5] [1, 4] b_laws_szKindS_0)))
 (.seq (.reg [J 26 (.mv (.p 1)), J 4 (.asg (.p 26))])
 .ret)))))⟩
/-- laws.szIntS -/
def a_laws_szIntS : AFn := ⟨2, 12, [.tmp 4], (.seq (.reg [J 4 (.asg (.c (.int .i64 0)))])
 (.seq (.reg [J 5 (.mv (.p 1)), J 6 (.rf (.t 0)), J 7 (.len (.a 6 0)), J 8 (.bin .sub (.t 5) (.t 7)), J 1 (.asg (.p 8))])
 (.seq (.seq (.reg [J 9 (.mv (.p 1)), J 10 (.bin .lss (.t 9) (.c (.int .i64 0)))])
 (.cond (.t 10) (.seq (.reg [J 4 (.asg (.c (.int .i64 (-1))))])
 .ret) .skip))
 (.seq (.reg [J 11 (.mv (.p 1)), J 4 (.asg (.p 11))])
 .ret))))⟩
/-- laws.szOrder -/
def a_laws_szOrder : AFn := ⟨2, 12, [.tmp 4], (.seq (.reg [J 2 (.box (.t 0)), J 4 (.asg (.c (.int .i64 0)))])
 (.seq (.reg [J 5 (.faddr 1 (.t 2)), J 6 (.load false 1 (.a 5 2)), J 7 (.mv (.p 1)), J 8 (.call n_laws_szIntS [.a 6 2, .t 7]), J 1 (.asg (.p 8))])
 (.seq (.seq (.reg [J 9 (.mv (.p 1)), J 10 (.bin .lss (.t 9) (.c (.int .i64 0)))])
 (.cond (.t 10) (.seq (.reg [J 4 (.asg (.c (.int .i64 (-1))))])
 .ret) .skip))
 (.seq (.reg [J 11 (.mv (.p 1)), J 4 (.asg (.p 11))])
 .ret))))⟩
/-- spec.oGood -/
def a_spec_oGood : AFn := ⟨3, 27, [.tmp 6], (.seq (.reg [J 3 (.box (.t 0)), J 4 (.box (.t 1)), J 5 (.box (.t 2)), J 6 (.asg (.c (.bool false)))])
 (.seq (.seq (.reg [J 9 (.load true 12 (.t 3)), J 10 (.load true 3 (.t 4)), J 11 (.call n_spec_sGood [.a 9 3, .a 10 4]), J 12 (.un .not (.t 11)), J 13 (.mv (.p 12)), ⟨some 14, some (13, false), .load true 2 (.t 5)⟩, ⟨some 15, some (13, false), .call n_spec_oForm [.a 14 5]⟩, ⟨some 16, some (13, false), .un .not (.t 15)⟩, J 17 (.pick (.t 13) (.c (.bool true)) (.t 16))])
 (.cond (.t 17) (.seq (.reg [J 6 (.asg (.c (.bool false)))])
 .ret) .skip))
 (.seq (.reg [J 19 (.load true 12 (.t 3)), J 20 (.load true 3 (.t 4)), J 21 (.load true 2 (.t 5)), J 22 (.call n_spec_oFirst [.a 19 3, .a 20 4, .a 21 5]), J 18 (.mv (.t 22)), J 23 (.extract (.p 18) 0), J 24 (.extract (.p 18) 1), J 7 (.asg (.p 23)), J 8 (.asg (.p 24))])
 (.seq (.reg [J 25 (.mv (.p 8)), J 26 (.bin .eql (.t 25) (.c (.int .i64 0))), J 6 (.asg (.p 26))])
 .ret))))⟩
def b_spec_fOrders_0 : AC := (.seq (.reg [J 22 (.bin .lss (.t 21) (.t 20))])
 (.seq (.cond (.t 22) .skip (.exit 2))
 (.seq (.block 3 (.seq (.reg [J 23 (.iaddr 3 (.t 19) (.t 21)), J 24 (.load true 3 (.a 23 19)), J 8 (.alloc [.int .i64 0, .list true 1 [], .int .i64 0]), ⟨none, none, .store 3 (.t 8) (.a 24 19)⟩])
 (.seq (.reg [J 25 (.faddr 0 (.t 8)), J 26 (.load false 1 (.a 25 8)), J 27 (.mv (.p 6)), J 28 (.bin .eql (.a 26 8) (.t 27))])
 (.cond (.t 28) (.reg [J 29 (.rf (.t 5)), J 30 (.load true 3 (.t 8)), J 31 (.bslice 3 1 [.int .i64 0, .list true 1 [], .int .i64 0] [(0, .a 30 8)]), J 32 (.append 3 (.a 29 5) (.t 31)), J 5 (.asg (.t 32))]) .skip))))
 (.reg [J 33 (.bin .add (.t 21) (.c (.int .i64 1))), J 21 (.mv (.p 33))]))))
def b_spec_fOrders_1 : AC := (.seq (.seq (.reg [J 9 (.mv (.p 6)), J 10 (.bin .lss (.t 9) (.c (.int .i64 12)))])
 (.cond (.t 10) .skip (.exit 0)))
 (.seq (.block 1 (.seq (.reg [J 13 (.bslice 3 0 [.int .i64 0, .list true 1 [], .int .i64 0] []), J 14 (.faddr 1 (.t 2)), J 15 (.load false 1 (.a 14 2)), J 16 (.append 3 (.t 13) (.p 15)), J 17 (.faddr 1 (.t 3)), J 18 (.load false 1 (.a 17 3)), J 19 (.append 3 (.t 16) (.p 18)), J 20 (.len (.t 19)), J 21 (.mv (.c (.int .i64 0)))])
 (.block 2 (.loop [2, 3, 5, 6, 19, 20, 21] [2, 3, 4, 5, 6] b_spec_fOrders_0))))
 (.reg [J 11 (.mv (.p 6)), J 12 (.bin .add (.t 11) (.c (.int .i64 1))), J 6 (.asg (.p 12))])))
/-- spec.fOrders -/
def a_spec_fOrders : AFn := ⟨2, 35, [.tmp 4], (.seq (.reg [J 2 (.box (.t 0)), J 3 (.box (.t 1)), J 4 (.asg (.c (.list true 3 [])))])
 (.seq (.reg [J 5 (.asg (.c (.list true 3 [])))])
 (.seq (.seq (.reg [J 6 (.asg (.c (.int .i64 0)))])
 (.block 0 (.loop [2, 3, 5, 6] [4, 5] b_spec_fOrders_1)))
 (.seq (.reg [J 34 (.rf (.t 5)), J 4 (.asg (.a 34 5))])
 .ret))))⟩
def b_spec_fDo_0 : AC := (.seq (.reg [J 20 (.bin .lss (.t 19) (.t 18))])
 (.seq (.cond (.t 20) .skip (.exit 0))
 (.seq (.block 1 (.seq (.reg [J 21 (.iaddr 3 (.a 17 1) (.t 19)), J 22 (.load true 3 (.a 21 1)), J 7 (.alloc [.int .i64 0, .int .i64 0, .int .i64 0]), ⟨none, none, .store 3 (.t 7) (.a 22 1)⟩])
 (.reg [J 23 (.faddr 2 (.t 5)), J 24 (.load false 1 (.a 23 5)), J 25 (.faddr 0 (.t 7)), J 26 (.load false 1 (.a 25 7)), J 27 (.faddr 2 (.t 7)), J 28 (.load false 1 (.a 27 7)), J 29 (.iaddr 4 (.a 24 5) (.a 26 7)), J 30 (.faddr 2 (.a 29 5)), ⟨none, none, .store 1 (.a 30 5) (.p 28)⟩])))
 (.reg [J 31 (.bin .add (.t 19) (.c (.int .i64 1))), J 19 (.mv (.p 31))]))))
/-- spec.fDo -/
def a_spec_fDo : AFn := ⟨2, 33, [.cell 4 3 true], (.seq (.reg [J 2 (.box (.t 0)), J 4 (.alloc [.int .i64 0, .int .i64 0, .list true 4 []])])
 (.seq (.reg [J 8 (.faddr 0 (.t 2)), J 9 (.load false 1 (.a 8 2)), J 10 (.faddr 1 (.t 2)), J 11 (.load false 1 (.a 10 2)), J 12 (.bslice 4 0 [.int .i64 0, .int .i64 0, .int .i64 0, .int .i64 0] []), J 13 (.faddr 2 (.t 2)), J 14 (.load false 1 (.a 13 2)), J 15 (.append 4 (.t 12) (.p 14)), J 16 (.build [.int .i64 0, .int .i64 0, .list true 4 []] [(0, 1, .p 9), (1, 1, .p 11), (2, 1, .t 15)]), J 5 (.alloc [.int .i64 0, .int .i64 0, .list true 4 []]), ⟨none, none, .store 3 (.t 5) (.t 16)⟩])
 (.seq (.seq (.reg [J 17 (.rf (.t 1)), J 18 (.len (.a 17 1)), J 19 (.mv (.c (.int .i64 0)))])
 (.block 0 (.loop [1, 4, 5, 17, 18, 19] [4, 5] b_spec_fDo_0)))
 (.seq (.reg [J 32 (.load true 3 (.t 5)), ⟨none, none, .store 3 (.t 4) (.a 32 5)⟩])
 .ret))))⟩
/-- spec.fZone -/
def a_spec_fZone : AFn := ⟨5, 44, [.tmp 10], (.seq (.reg [J 5 (.box (.t 0)), J 6 (.box (.t 1)), J 10 (.asg (.c (.int .i64 0)))])
 (.seq (.reg [J 13 (.faddr 2 (.t 6)), J 14 (.load false 1 (.a 13 6)), J 15 (.mv (.p 2)), J 16 (.iaddr 4 (.a 14 6) (.t 15)), J 17 (.load true 4 (.a 16 6)), J 11 (.alloc [.int .i64 0, .int .i64 0, .int .i64 0, .int .i64 0]), ⟨none, none, .store 4 (.t 11) (.a 17 6)⟩])
 (.seq (.reg [J 18 (.load true 12 (.t 5)), J 19 (.load true 3 (.t 6)), J 20 (.faddr 2 (.t 11)), J 21 (.load false 1 (.a 20 11)), J 22 (.faddr 0 (.t 11)), J 23 (.load false 1 (.a 22 11)), J 24 (.bin .sub (.c (.int .i64 1)) (.a 23 11)), J 25 (.call n_spec_zIn [.a 18 5, .a 19 6, .a 21 11, .t 24]), J 12 (.asg (.p 25))])
 (.seq (.seq (.reg [J 26 (.mv (.p 12)), J 27 (.mv (.p 26)), ⟨some 28, some (27, true), .mv (.p 4)⟩, ⟨some 29, some (27, true), .mv (.p 28)⟩, ⟨some 30, some (29, false), .load true 12 (.t 5)⟩, ⟨some 31, some (29, false), .load true 3 (.t 6)⟩, ⟨some 32, some (29, false), .faddr 7 (.t 5)⟩, ⟨some 33, some (29, false), .load true 5 (.a 32 5)⟩, ⟨some 34, some (29, false), .faddr 2 (.t 11)⟩, ⟨some 35, some (29, false), .load false 1 (.a 34 11)⟩, ⟨some 36, some (29, false), .mv (.p 3)⟩, ⟨some 37, some (29, false), .call n_spec_mNext [.a 33 5, .a 35 11, .t 36]⟩, ⟨some 38, some (29, false), .faddr 0 (.t 11)⟩, ⟨some 39, some (29, false), .load false 1 (.a 38 11)⟩, ⟨some 40, some (29, false), .bin .sub (.c (.int .i64 1)) (.a 39 11)⟩, ⟨some 41, some (29, false), .call n_spec_zIn [.a 30 5, .a 31 6, .t 37, .t 40]⟩, ⟨some 42, some (27, true), .pick (.t 29) (.c (.bool true)) (.t 41)⟩, J 43 (.pick (.t 27) (.t 42) (.c (.bool false)))])
 (.cond (.t 43) (.seq (.reg [J 10 (.asg (.c (.int .i64 5)))])
 .ret) .skip))
 (.seq (.reg [J 10 (.asg (.c (.int .i64 0)))])
 .ret)))))⟩
def b_spec_fAttempts_0 : AC := (.seq (.reg [J 19 (.bin .lss (.t 18) (.t 17))])
 (.seq (.cond (.t 19) .skip (.exit 0))
 (.seq (.block 1 (.seq (.reg [J 20 (.mv (.p 18)), J 21 (.iaddr 3 (.a 16 2) (.t 18)), J 22 (.load true 3 (.a 21 2)), J 13 (.alloc [.int .i64 0, .list true 1 [], .int .i64 0]), J 12 (.asg (.p 20)), ⟨none, none, .store 3 (.t 13) (.a 22 2)⟩])
 (.seq (.seq (.reg [J 23 (.rf (.t 4)), J 24 (.mv (.p 12)), J 25 (.iaddr 1 (.a 23 4) (.t 24)), J 26 (.load false 1 (.a 25 4)), J 27 (.un .not (.a 26 4)), J 28 (.mv (.p 27)), ⟨some 29, some (28, false), .rf (.t 3)⟩, ⟨some 30, some (28, false), .mv (.p 12)⟩, ⟨some 31, some (28, false), .iaddr 1 (.a 29 3) (.t 30)⟩, ⟨some 32, some (28, false), .load false 1 (.a 31 3)⟩, ⟨some 33, some (28, false), .call n_spec_l1In [.a 32 3, .c (.int .i64 0), .c (.int .i64 8)]⟩, ⟨some 34, some (28, false), .un .not (.t 33)⟩, J 35 (.pick (.t 28) (.c (.bool true)) (.t 34)), J 36 (.mv (.p 35)), ⟨some 37, some (36, false), .rf (.t 3)⟩, ⟨some 38, some (36, false), .mv (.p 12)⟩, ⟨some 39, some (36, false), .iaddr 1 (.a 37 3) (.t 38)⟩, ⟨some 40, some (36, false), .load false 1 (.a 39 3)⟩, ⟨some 41, some (36, false), .faddr 1 (.t 13)⟩, ⟨some 42, some (36, false), .load false 1 (.a 41 13)⟩, ⟨some 43, some (36, false), .len (.a 42 13)⟩, ⟨some 44, some (36, false), .bin .geq (.a 40 3) (.t 43)⟩, J 45 (.pick (.t 36) (.c (.bool true)) (.t 44))])
 (.cond (.t 45) (.exit 1) .skip))
 (.seq (.reg [J 46 (.faddr 2 (.t 6)), J 47 (.load false 1 (.a 46 6)), J 48 (.faddr 0 (.t 13)), J 49 (.load false 1 (.a 48 13)), J 50 (.iaddr 4 (.a 47 6) (.a 49 13)), J 51 (.load true 4 (.a 50 6)), J 52 (.faddr 1 (.t 13)), J 53 (.load false 1 (.a 52 13)), J 54 (.rf (.t 3)), J 55 (.mv (.p 12)), J 56 (.iaddr 1 (.a 54 3) (.t 55)), J 57 (.load false 1 (.a 56 3)), J 58 (.iaddr 1 (.a 53 13) (.a 57 3)), J 59 (.load false 1 (.a 58 13)), J 14 (.alloc [.int .i64 0, .int .i64 0, .int .i64 0, .int .i64 0]), ⟨none, none, .store 4 (.t 14) (.a 51 6)⟩, J 15 (.asg (.p 59))])
 (.seq (.seq (.reg [J 60 (.load true 12 (.t 5)), J 61 (.faddr 1 (.t 14)), J 62 (.load false 1 (.a 61 14)), J 63 (.faddr 2 (.t 14)), J 64 (.load false 1 (.a 63 14)), J 65 (.mv (.p 15)), J 66 (.faddr 1 (.t 6)), J 67 (.load false 1 (.a 66 6)), J 68 (.call n_spec_cStep [.a 60 5, .a 62 14, .a 64 14, .t 65, .a 67 6]), J 69 (.bin .eql (.t 68) (.c (.int .i64 0))), J 70 (.mv (.p 69)), ⟨some 71, some (70, false), .load true 12 (.t 5)⟩, ⟨some 72, some (70, false), .load true 3 (.t 6)⟩, ⟨some 73, some (70, false), .faddr 0 (.t 13)⟩, ⟨some 74, some (70, false), .load false 1 (.a 73 13)⟩, ⟨some 75, some (70, false), .mv (.p 15)⟩, ⟨some 76, some (70, false), .rf (.t 3)⟩, ⟨some 77, some (70, false), .mv (.p 12)⟩, ⟨some 78, some (70, false), .iaddr 1 (.a 76 3) (.t 77)⟩, ⟨some 79, some (70, false), .load false 1 (.a 78 3)⟩, ⟨some 80, some (70, false), .bin .gtr (.a 79 3) (.c (.int .i64 0))⟩, ⟨some 81, some (70, false), .call n_spec_fZone [.a 71 5, .a 72 6, .a 74 13, .t 75, .t 80]⟩, ⟨some 82, some (70, false), .bin .neq (.t 81) (.c (.int .i64 0))⟩, J 83 (.pick (.t 70) (.c (.bool true)) (.t 82))])
 (.cond (.t 83) (.exit 1) .skip))
 (.reg [J 84 (.rf (.t 11)), J 85 (.faddr 0 (.t 13)), J 86 (.load false 1 (.a 85 13)), J 87 (.faddr 2 (.t 14)), J 88 (.load false 1 (.a 87 14)), J 89 (.faddr 7 (.t 5)), J 90 (.load true 5 (.a 89 5)), J 91 (.faddr 2 (.t 14)), J 92 (.load false 1 (.a 91 14)), J 93 (.mv (.p 15)), J 94 (.call n_spec_mNext [.a 90 5, .a 92 14, .t 93]), J 95 (.build [.int .i64 0, .int .i64 0, .int .i64 0] [(0, 1, .p 86), (1, 1, .p 88), (2, 1, .p 94)]), J 96 (.bslice 3 1 [.int .i64 0, .int .i64 0, .int .i64 0] [(0, .t 95)]), J 97 (.append 3 (.a 84 11) (.t 96)), J 11 (.asg (.t 97))]))))))
 (.reg [J 98 (.bin .add (.t 18) (.c (.int .i64 1))), J 18 (.mv (.p 98))]))))
/-- spec.fAttempts -/
def a_spec_fAttempts : AFn := ⟨5, 100, [.tmp 10], (.seq (.reg [J 5 (.box (.t 0)), J 6 (.box (.t 1)), J 10 (.asg (.c (.list true 3 [])))])
 (.seq (.reg [J 11 (.asg (.c (.list true 3 [])))])
 (.seq (.seq (.reg [J 16 (.rf (.t 2)), J 17 (.len (.a 16 2)), J 18 (.mv (.c (.int .i64 0)))])
 (.block 0 (.loop [2, 3, 4, 5, 6, 11, 16, 17, 18] [10, 11] b_spec_fAttempts_0)))
 (.seq (.reg [J 99 (.rf (.t 11)), J 10 (.asg (.a 99 11))])
 .ret))))⟩
def b_spec_fSettle_0 : AC := (.seq (.reg [J 22 (.bin .lss (.t 21) (.t 20))])
 (.seq (.cond (.t 22) .skip (.exit 2))
 (.seq (.block 3 (.seq (.reg [J 23 (.mv (.p 21)), J 24 (.iaddr 3 (.a 19 9) (.t 21)), J 25 (.load true 3 (.a 24 9)), J 14 (.alloc [.int .i64 0, .int .i64 0, .int .i64 0]), J 13 (.asg (.p 23)), ⟨none, none, .store 3 (.t 14) (.a 25 9)⟩])
 (.seq (.reg [J 26 (.load true 12 (.t 3)), J 27 (.load true 3 (.t 4)), J 28 (.rf (.t 9)), J 29 (.mv (.p 13)), J 30 (.call n_spec_fReason [.a 26 3, .a 27 4, .a 28 9, .t 29]), J 15 (.asg (.p 30))])
 (.seq (.reg [J 31 (.mv (.p 15)), J 32 (.bin .neq (.t 31) (.c (.int .i64 0)))])
 (.cond (.t 32) (.reg [J 33 (.rf (.t 10)), J 34 (.faddr 0 (.t 14)), J 35 (.load false 1 (.a 34 14)), J 36 (.mv (.p 15)), J 37 (.build [.int .i64 0, .int .i64 0, .int .i64 0] [(0, 1, .p 35), (2, 1, .p 36)]), J 38 (.bslice 3 1 [.int .i64 0, .int .i64 0, .int .i64 0] [(0, .t 37)]), J 39 (.append 3 (.a 33 10) (.t 38)), J 10 (.asg (.t 39))]) (.reg [J 40 (.rf (.t 12)), J 41 (.load true 3 (.t 14)), J 42 (.bslice 3 1 [.int .i64 0, .int .i64 0, .int .i64 0] [(0, .a 41 14)]), J 43 (.append 3 (.a 40 12) (.t 42)), J 12 (.asg (.t 43))]))))))
 (.reg [J 44 (.bin .add (.t 21) (.c (.int .i64 1))), J 21 (.mv (.p 44))]))))
def b_spec_fSettle_1 : AC := (.block 1 (.seq (.reg [J 12 (.asg (.c (.list true 3 [])))])
 (.seq (.seq (.reg [J 19 (.rf (.t 9)), J 20 (.len (.a 19 9)), J 21 (.mv (.c (.int .i64 0)))])
 (.block 2 (.loop [3, 4, 9, 10, 11, 12, 19, 20, 21] [3, 4, 6, 7, 8, 9, 10, 11, 12] b_spec_fSettle_0)))
 (.seq (.seq (.reg [J 45 (.rf (.t 12)), J 46 (.len (.a 45 12)), J 47 (.rf (.t 9)), J 48 (.len (.a 47 9)), J 49 (.bin .eql (.t 46) (.t 48))])
 (.cond (.t 49) (.seq (.reg [J 50 (.rf (.t 9)), J 51 (.rf (.t 10)), J 52 (.mv (.p 11)), J 6 (.asg (.a 50 9)), J 7 (.asg (.a 51 10)), J 8 (.asg (.p 52))])
 .ret) .skip))
 (.seq (.reg [J 53 (.rf (.t 12)), J 9 (.asg (.a 53 12))])
 (.reg [J 54 (.mv (.p 11)), J 55 (.bin .add (.t 54) (.c (.int .i64 1))), J 11 (.asg (.p 55))]))))))
/-- spec.fSettle -/
def a_spec_fSettle : AFn := ⟨3, 56, [.tmp 6, .tmp 7, .tmp 8], (.seq (.reg [J 3 (.box (.t 0)), J 4 (.box (.t 1)), J 6 (.asg (.c (.list true 3 []))), J 7 (.asg (.c (.list true 3 []))), J 8 (.asg (.c (.int .i64 0)))])
 (.seq (.reg [J 16 (.bslice 3 0 [.int .i64 0, .int .i64 0, .int .i64 0] []), J 17 (.rf (.t 2)), J 18 (.append 3 (.t 16) (.p 17)), J 9 (.asg (.t 18))])
 (.seq (.reg [J 10 (.asg (.c (.list true 3 [])))])
 (.seq (.reg [J 11 (.asg (.c (.int .i64 0)))])
 (.block 0 (.loop [3, 4, 9, 10, 11] [6, 7, 8] b_spec_fSettle_1))))))⟩
def b_spec_fLeaves_0 : AC := (.seq (.reg [J 10 (.bin .lss (.t 9) (.t 8))])
 (.seq (.cond (.t 10) .skip (.exit 0))
 (.seq (.block 1 (.seq (.reg [J 11 (.iaddr 3 (.a 7 0) (.t 9)), J 12 (.load true 3 (.a 11 0)), J 6 (.alloc [.int .i64 0, .int .i64 0, .int .i64 0]), ⟨none, none, .store 3 (.t 6) (.a 12 0)⟩])
 (.seq (.reg [J 13 (.faddr 0 (.t 6)), J 14 (.load false 1 (.a 13 6)), J 15 (.mv (.p 1)), J 16 (.bin .eql (.a 14 6) (.t 15))])
 (.cond (.t 16) (.seq (.reg [J 4 (.asg (.c (.bool true)))])
 .ret) .skip))))
 (.reg [J 17 (.bin .add (.t 9) (.c (.int .i64 1))), J 9 (.mv (.p 17))]))))
/-- spec.fLeaves -/
def a_spec_fLeaves : AFn := ⟨2, 18, [.tmp 4], (.seq (.reg [J 4 (.asg (.c (.bool false)))])
 (.seq (.seq (.reg [J 7 (.rf (.t 0)), J 8 (.len (.a 7 0)), J 9 (.mv (.c (.int .i64 0)))])
 (.block 0 (.loop [0, 1, 7, 8, 9] [4] b_spec_fLeaves_0)))
 (.seq (.reg [J 4 (.asg (.c (.bool false)))])
 .ret)))⟩
def b_laws_toTerrainS_0 : AC := (.seq (.seq (.reg [J 8 (.mv (.p 4)), J 9 (.rf (.t 0)), J 10 (.len (.a 9 0)), J 11 (.bin .lss (.t 8) (.t 10))])
 (.cond (.t 11) .skip (.exit 0)))
 (.seq (.block 1 (.reg [J 14 (.rf (.t 3)), J 15 (.mv (.p 4)), J 16 (.rf (.t 0)), J 17 (.mv (.p 4)), J 18 (.iaddr 5 (.a 16 0) (.t 17)), J 19 (.load true 5 (.a 18 0)), J 20 (.call n_laws_toTerrain [.a 19 0]), J 21 (.iaddr 5 (.a 14 3) (.t 15)), ⟨none, none, .store 5 (.a 21 3) (.t 20)⟩]))
 (.reg [J 12 (.mv (.p 4)), J 13 (.bin .add (.t 12) (.c (.int .i64 1))), J 4 (.asg (.p 13))])))
/-- laws.toTerrainS -/
def a_laws_toTerrainS : AFn := ⟨1, 23, [.tmp 2], (.seq (.reg [J 2 (.asg (.c (.list true 5 [])))])
 (.seq (.reg [J 5 (.rf (.t 0)), J 6 (.len (.a 5 0)), J 7 (.mslice 5 [.str ⟨#[]⟩, .list true 1 [], .int .i64 0, .int .i64 0, .bool false] (.t 6)), J 3 (.asg (.t 7))])
 (.seq (.seq (.reg [J 4 (.asg (.c (.int .i64 0)))])
 (.block 0 (.loop [0, 3, 4] [2, 3] b_laws_toTerrainS_0)))
 (.seq (.reg [J 22 (.rf (.t 3)), J 2 (.asg (.a 22 3))])
 .ret))))⟩
def b_laws_toKindS_0 : AC := (.seq (.seq (.reg [J 8 (.mv (.p 4)), J 9 (.rf (.t 0)), J 10 (.len (.a 9 0)), J 11 (.bin .lss (.t 8) (.t 10))])
 (.cond (.t 11) .skip (.exit 0)))
 (.seq (.block 1 (.reg [J 14 (.rf (.t 3)), J 15 (.mv (.p 4)), J 16 (.rf (.t 0)), J 17 (.mv (.p 4)), J 18 (.iaddr 6 (.a 16 0) (.t 17)), J 19 (.load true 6 (.a 18 0)), J 20 (.call n_laws_toKind [.a 19 0]), J 21 (.iaddr 6 (.a 14 3) (.t 15)), ⟨none, none, .store 6 (.a 21 3) (.t 20)⟩]))
 (.reg [J 12 (.mv (.p 4)), J 13 (.bin .add (.t 12) (.c (.int .i64 1))), J 4 (.asg (.p 13))])))
/-- laws.toKindS -/
def a_laws_toKindS : AFn := ⟨1, 23, [.tmp 2], (.seq (.reg [J 2 (.asg (.c (.list true 6 [])))])
 (.seq (.reg [J 5 (.rf (.t 0)), J 6 (.len (.a 5 0)), J 7 (.mslice 6 [.str ⟨#[]⟩, .int .i64 0, .int .i64 0, .int .i64 0, .bool false, .int .i64 0] (.t 6)), J 3 (.asg (.t 7))])
 (.seq (.seq (.reg [J 4 (.asg (.c (.int .i64 0)))])
 (.block 0 (.loop [0, 3, 4] [2, 3] b_laws_toKindS_0)))
 (.seq (.reg [J 22 (.rf (.t 3)), J 2 (.asg (.a 22 3))])
 .ret))))⟩
def b_laws_toIntS_0 : AC := (.seq (.seq (.reg [J 8 (.mv (.p 4)), J 9 (.rf (.t 0)), J 10 (.len (.a 9 0)), J 11 (.bin .lss (.t 8) (.t 10))])
 (.cond (.t 11) .skip (.exit 0)))
 (.seq (.block 1 (.reg [J 14 (.rf (.t 3)), J 15 (.mv (.p 4)), J 16 (.rf (.t 0)), J 17 (.mv (.p 4)), J 18 (.iaddr 1 (.a 16 0) (.t 17)), J 19 (.load false 1 (.a 18 0)), J 20 (.iaddr 1 (.a 14 3) (.t 15)), ⟨none, none, .store 1 (.a 20 3) (.p 19)⟩]))
 (.reg [J 12 (.mv (.p 4)), J 13 (.bin .add (.t 12) (.c (.int .i64 1))), J 4 (.asg (.p 13))])))
/-- laws.toIntS -/
def a_laws_toIntS : AFn := ⟨1, 22, [.tmp 2], (.seq (.reg [J 2 (.asg (.c (.list true 1 [])))])
 (.seq (.reg [J 5 (.rf (.t 0)), J 6 (.len (.a 5 0)), J 7 (.mslice 1 [.int .i64 0] (.t 6)), J 3 (.asg (.t 7))])
 (.seq (.seq (.reg [J 4 (.asg (.c (.int .i64 0)))])
 (.block 0 (.loop [0, 3, 4] [2, 3] b_laws_toIntS_0)))
 (.seq (.reg [J 21 (.rf (.t 3)), J 2 (.asg (.a 21 3))])
 .ret))))⟩
/-- laws.toUnit -/
def a_laws_toUnit : AFn := ⟨1, 17, [.cell 2 4 true], (.seq (.reg [J 1 (.box (.t 0)), J 2 (.alloc [.int .i64 0, .int .i64 0, .int .i64 0, .int .i64 0])])
 (.seq (.reg [J 3 (.alloc [.int .i64 0, .int .i64 0, .int .i64 0, .int .i64 0])])
 (.seq (.reg [J 4 (.faddr 0 (.t 1)), J 5 (.load false 1 (.a 4 1)), J 6 (.faddr 0 (.t 3)), ⟨none, none, .store 1 (.a 6 3) (.p 5)⟩])
 (.seq (.reg [J 7 (.faddr 1 (.t 1)), J 8 (.load false 1 (.a 7 1)), J 9 (.faddr 1 (.t 3)), ⟨none, none, .store 1 (.a 9 3) (.p 8)⟩])
 (.seq (.reg [J 10 (.faddr 2 (.t 1)), J 11 (.load false 1 (.a 10 1)), J 12 (.faddr 2 (.t 3)), ⟨none, none, .store 1 (.a 12 3) (.p 11)⟩])
 (.seq (.reg [J 13 (.faddr 3 (.t 1)), J 14 (.load false 1 (.a 13 1)), J 15 (.faddr 3 (.t 3)), ⟨none, none, .store 1 (.a 15 3) (.p 14)⟩])
 (.seq (.reg [J 16 (.load true 4 (.t 3)), ⟨none, none, .store 4 (.t 2) (.a 16 3)⟩])
 .ret)))))))⟩
/-- laws.toOrder -/
def a_laws_toOrder : AFn := ⟨1, 15, [.cell 2 3 true], (.seq (.reg [J 1 (.box (.t 0)), J 2 (.alloc [.int .i64 0, .list true 1 [], .int .i64 0])])
 (.seq (.reg [J 3 (.alloc [.int .i64 0, .list true 1 [], .int .i64 0])])
 (.seq (.reg [J 4 (.faddr 0 (.t 1)), J 5 (.load false 1 (.a 4 1)), J 6 (.faddr 0 (.t 3)), ⟨none, none, .store 1 (.a 6 3) (.p 5)⟩])
 (.seq (.reg [J 7 (.faddr 1 (.t 1)), J 8 (.load false 1 (.a 7 1)), J 9 (.call n_laws_toIntS [.a 8 1]), J 10 (.faddr 1 (.t 3)), ⟨none, none, .store 1 (.a 10 3) (.t 9)⟩])
 (.seq (.reg [J 11 (.faddr 2 (.t 1)), J 12 (.load false 1 (.a 11 1)), J 13 (.faddr 2 (.t 3)), ⟨none, none, .store 1 (.a 13 3) (.p 12)⟩])
 (.seq (.reg [J 14 (.load true 3 (.t 3)), ⟨none, none, .store 3 (.t 2) (.a 14 3)⟩])
 .ret))))))⟩
/-- impl.fits -/
def a_impl_fits : AFn := ⟨2, 12, [.tmp 4], (.seq (.reg [J 2 (.box (.t 0)), J 3 (.box (.t 1)), J 4 (.asg (.c (.bool false)))])
 (.seq (.reg [J 5 (.load true 12 (.t 2)), J 6 (.call n_impl_IsBoard [.a 5 2]), J 7 (.mv (.p 6)), ⟨some 8, some (7, true), .load true 12 (.t 2)⟩, ⟨some 9, some (7, true), .load true 3 (.t 3)⟩, ⟨some 10, some (7, true), .call n_impl_goodState [.a 8 2, .a 9 3]⟩, J 11 (.pick (.t 7) (.t 10) (.c (.bool false))), J 4 (.asg (.p 11))])
 .ret))⟩
/-- impl.goodSheet -/
def a_impl_goodSheet : AFn := ⟨3, 28, [.tmp 6], (.seq (.reg [J 3 (.box (.t 0)), J 4 (.box (.t 1)), J 5 (.box (.t 2)), J 6 (.asg (.c (.bool false)))])
 (.seq (.seq (.reg [J 9 (.faddr 0 (.t 5)), J 10 (.load false 1 (.a 9 5)), J 11 (.call n_impl_isSide [.a 10 5]), J 12 (.un .not (.t 11)), J 13 (.mv (.p 12)), ⟨some 14, some (13, false), .faddr 1 (.t 5)⟩, ⟨some 15, some (13, false), .load false 1 (.a 14 5)⟩, ⟨some 16, some (13, false), .len (.a 15 5)⟩, ⟨some 17, some (13, false), .bin .gtr (.t 16) (.c (.int .i64 12))⟩, J 18 (.pick (.t 13) (.c (.bool true)) (.t 17))])
 (.cond (.t 18) (.seq (.reg [J 6 (.asg (.c (.bool false)))])
 .ret) .skip))
 (.seq (.reg [J 20 (.load true 12 (.t 3)), J 21 (.load true 3 (.t 4)), J 22 (.load true 2 (.t 5)), J 23 (.call n_impl_sheetFault [.a 20 3, .a 21 4, .a 22 5]), J 19 (.mv (.t 23)), J 24 (.extract (.p 19) 0), J 25 (.extract (.p 19) 1), J 7 (.asg (.p 24)), J 8 (.asg (.p 25))])
 (.seq (.reg [J 26 (.mv (.p 8)), J 27 (.bin .eql (.t 26) (.c (.int .i64 0))), J 6 (.asg (.p 27))])
 .ret))))⟩
/-- impl.cloneState -/
def a_impl_cloneState : AFn := ⟨1, 8, [.cell 2 3 true], (.seq (.reg [J 1 (.box (.t 0)), J 2 (.alloc [.int .i64 0, .int .i64 0, .list true 4 []])])
 (.seq (.reg [J 3 (.faddr 2 (.t 1)), J 4 (.load false 1 (.a 3 1)), J 5 (.call n_slices_Clone_impl_Unit_impl_Unit [.a 4 1]), J 6 (.faddr 2 (.t 1)), ⟨none, none, .store 1 (.a 6 1) (.t 5)⟩])
 (.seq (.reg [J 7 (.load true 3 (.t 1)), ⟨none, none, .store 3 (.t 2) (.a 7 1)⟩])
 .ret)))⟩
/-- impl.attemptOf -/
def a_impl_attemptOf : AFn := ⟨4, 66, [.cell 8 3 true, .tmp 9], (.seq (.reg [J 4 (.box (.t 0)), J 5 (.box (.t 1)), J 6 (.box (.t 2)), J 8 (.alloc [.int .i64 0, .int .i64 0, .int .i64 0]), J 9 (.asg (.c (.bool false)))])
 (.seq (.seq (.reg [J 13 (.mv (.p 3)), J 14 (.call n_impl_inRange [.t 13, .c (.int .i64 0), .c (.int .i64 8)]), J 15 (.un .not (.t 14)), J 16 (.mv (.p 15)), ⟨some 17, some (16, false), .mv (.p 3)⟩, ⟨some 18, some (16, false), .faddr 1 (.t 6)⟩, ⟨some 19, some (16, false), .load false 1 (.a 18 6)⟩, ⟨some 20, some (16, false), .len (.a 19 6)⟩, ⟨some 21, some (16, false), .bin .geq (.t 17) (.t 20)⟩, J 22 (.pick (.t 16) (.c (.bool true)) (.t 21))])
 (.cond (.t 22) (.seq (.reg [J 23 (.build [.int .i64 0, .int .i64 0, .int .i64 0] []), ⟨none, none, .store 3 (.t 8) (.t 23)⟩, J 9 (.asg (.c (.bool false)))])
 .ret) .skip))
 (.seq (.reg [J 24 (.faddr 2 (.t 5)), J 25 (.load false 1 (.a 24 5)), J 26 (.faddr 0 (.t 6)), J 27 (.load false 1 (.a 26 6)), J 28 (.iaddr 4 (.a 25 5) (.a 27 6)), J 29 (.load true 4 (.a 28 5)), J 30 (.faddr 1 (.t 6)), J 31 (.load false 1 (.a 30 6)), J 32 (.mv (.p 3)), J 33 (.iaddr 1 (.a 31 6) (.t 32)), J 34 (.load false 1 (.a 33 6)), J 10 (.alloc [.int .i64 0, .int .i64 0, .int .i64 0, .int .i64 0]), ⟨none, none, .store 4 (.t 10) (.a 29 5)⟩, J 11 (.asg (.p 34))])
 (.seq (.seq (.reg [J 35 (.load true 12 (.t 4)), J 36 (.faddr 1 (.t 10)), J 37 (.load false 1 (.a 36 10)), J 38 (.faddr 1 (.t 5)), J 39 (.load false 1 (.a 38 5)), J 40 (.faddr 2 (.t 10)), J 41 (.load false 1 (.a 40 10)), J 42 (.mv (.p 11)), J 43 (.call n_impl_stepCost [.a 35 4, .a 37 10, .a 39 5, .a 41 10, .t 42]), J 44 (.bin .eql (.t 43) (.c (.int .i64 0)))])
 (.cond (.t 44) (.seq (.reg [J 45 (.build [.int .i64 0, .int .i64 0, .int .i64 0] []), ⟨none, none, .store 3 (.t 8) (.t 45)⟩, J 9 (.asg (.c (.bool false)))])
 .ret) .skip))
 (.seq (.reg [J 46 (.faddr 7 (.t 4)), J 47 (.load true 5 (.a 46 4)), J 48 (.faddr 2 (.t 10)), J 49 (.load false 1 (.a 48 10)), J 50 (.mv (.p 11)), J 51 (.call n_impl_nextTo [.a 47 4, .a 49 10, .t 50]), J 12 (.asg (.p 51))])
 (.seq (.reg [J 52 (.faddr 0 (.t 6)), J 53 (.load false 1 (.a 52 6)), J 54 (.faddr 2 (.t 10)), J 55 (.load false 1 (.a 54 10)), J 56 (.mv (.p 12)), J 57 (.build [.int .i64 0, .int .i64 0, .int .i64 0] [(0, 1, .p 53), (1, 1, .p 55), (2, 1, .p 56)]), J 58 (.load true 12 (.t 4)), J 59 (.load true 3 (.t 5)), J 60 (.load true 4 (.t 10)), J 61 (.mv (.p 12)), J 62 (.mv (.p 3)), J 63 (.bin .gtr (.t 62) (.c (.int .i64 0))), J 64 (.call n_impl_zoneReason [.a 58 4, .a 59 5, .a 60 10, .t 61, .t 63]), J 65 (.bin .eql (.t 64) (.c (.int .i64 0))), ⟨none, none, .store 3 (.t 8) (.t 57)⟩, J 9 (.asg (.p 65))])
 .ret))))))⟩
def b_impl_settle_0 : AC := (.seq (.reg [J 23 (.bin .lss (.t 22) (.t 21))])
 (.seq (.cond (.t 23) .skip (.exit 2))
 (.seq (.block 3 (.seq (.reg [J 24 (.mv (.p 22)), J 25 (.iaddr 3 (.a 20 9) (.t 22)), J 26 (.load true 3 (.a 25 9)), J 14 (.alloc [.int .i64 0, .int .i64 0, .int .i64 0]), J 13 (.asg (.p 24)), ⟨none, none, .store 3 (.t 14) (.a 26 9)⟩])
 (.seq (.reg [J 27 (.load true 12 (.t 3)), J 28 (.load true 3 (.t 4)), J 29 (.rf (.t 9)), J 30 (.mv (.p 13)), J 31 (.call n_impl_attemptReason [.a 27 3, .a 28 4, .a 29 9, .t 30]), J 15 (.asg (.p 31))])
 (.seq (.reg [J 32 (.mv (.p 15)), J 33 (.bin .neq (.t 32) (.c (.int .i64 0)))])
 (.cond (.t 33) (.reg [J 34 (.mrf 11), J 35 (.faddr 0 (.t 14)), J 36 (.load false 1 (.a 35 14)), J 37 (.mv (.p 15)), ⟨none, none, .mset 34 18 (.a 36 14) (.t 37)⟩]) (.reg [J 38 (.rf (.t 12)), J 39 (.load true 3 (.t 14)), J 40 (.bslice 3 1 [.int .i64 0, .int .i64 0, .int .i64 0] [(0, .a 39 14)]), J 41 (.append 3 (.a 38 12) (.t 40)), J 12 (.asg (.t 41))]))))))
 (.reg [J 42 (.bin .add (.t 22) (.c (.int .i64 1))), J 22 (.mv (.p 42))]))))
def b_impl_settle_1 : AC := (.block 1 (.seq (.reg [J 19 (.bslice 3 0 [.int .i64 0, .int .i64 0, .int .i64 0] []), J 12 (.asg (.t 19))])
 (.seq (.seq (.reg [J 20 (.rf (.t 9)), J 21 (.len (.a 20 9)), J 22 (.mv (.c (.int .i64 0)))])
 (.block 2 (.loop [3, 4, 9, 10, 11, 12, 18, 20, 21, 22] [3, 4, 6, 7, 8, 9, 10, 11, 12, 18] b_impl_settle_0)))
 (.seq (.seq (.reg [J 43 (.rf (.t 12)), J 44 (.len (.a 43 12)), J 45 (.rf (.t 9)), J 46 (.len (.a 45 9)), J 47 (.bin .eql (.t 44) (.t 46))])
 (.cond (.t 47) (.seq (.reg [J 48 (.rf (.t 9)), J 49 (.mv (.p 10)), J 50 (.mrf 11), J 6 (.asg (.a 48 9)), J 7 (.asg (.p 49)), J 8 (.mend 50 18)])
 .ret) .skip))
 (.seq (.reg [J 51 (.rf (.t 12)), J 9 (.asg (.a 51 12))])
 (.reg [J 52 (.mv (.p 10)), J 53 (.bin .add (.t 52) (.c (.int .i64 1))), J 10 (.asg (.p 53))]))))))
/-- impl.settle -/
def a_impl_settle : AFn := ⟨3, 54, [.tmp 6, .tmp 7, .tmp 8], (.seq (.reg [J 3 (.box (.t 0)), J 4 (.box (.t 1)), J 6 (.asg (.c (.list true 3 []))), J 7 (.asg (.c (.int .i64 0))), J 8 (.junk)])
 (.seq (.reg [J 16 (.rf (.t 2)), J 17 (.call n_slices_Clone_impl_Attempt_impl_Attempt [.a 16 2]), J 18 (.mkmap), J 9 (.asg (.t 17)), J 10 (.asg (.c (.int .i64 0))), J 11 (.mrf 18)])
 (.block 0 (.loop [3, 4, 9, 10, 11, 18] [6, 7, 8] b_impl_settle_1))))⟩
def b_impl_madeAttempts_0 : AC := (.seq (.reg [J 13 (.bin .lss (.t 12) (.t 11))])
 (.seq (.cond (.t 13) .skip (.exit 0))
 (.seq (.block 1 (.seq (.reg [J 14 (.iaddr 3 (.a 10 1) (.t 12)), J 15 (.load true 3 (.a 14 1)), J 7 (.alloc [.int .i64 0, .int .i64 0, .int .i64 0]), ⟨none, none, .store 3 (.t 7) (.a 15 1)⟩])
 (.reg [J 16 (.faddr 2 (.t 5)), J 17 (.load false 1 (.a 16 5)), J 18 (.faddr 0 (.t 7)), J 19 (.load false 1 (.a 18 7)), J 20 (.faddr 2 (.t 7)), J 21 (.load false 1 (.a 20 7)), J 22 (.iaddr 4 (.a 17 5) (.a 19 7)), J 23 (.faddr 2 (.a 22 5)), ⟨none, none, .store 1 (.a 23 5) (.p 21)⟩])))
 (.reg [J 24 (.bin .add (.t 12) (.c (.int .i64 1))), J 12 (.mv (.p 24))]))))
/-- impl.madeAttempts -/
def a_impl_madeAttempts : AFn := ⟨2, 26, [.cell 4 3 true], (.seq (.reg [J 2 (.box (.t 0)), J 4 (.alloc [.int .i64 0, .int .i64 0, .list true 4 []])])
 (.seq (.reg [J 8 (.load true 3 (.t 2)), J 9 (.call n_impl_cloneState [.a 8 2]), J 5 (.alloc [.int .i64 0, .int .i64 0, .list true 4 []]), ⟨none, none, .store 3 (.t 5) (.t 9)⟩])
 (.seq (.seq (.reg [J 10 (.rf (.t 1)), J 11 (.len (.a 10 1)), J 12 (.mv (.c (.int .i64 0)))])
 (.block 0 (.loop [1, 4, 5, 10, 11, 12] [4, 5] b_impl_madeAttempts_0)))
 (.seq (.reg [J 25 (.load true 3 (.t 5)), ⟨none, none, .store 3 (.t 4) (.a 25 5)⟩])
 .ret))))⟩
def b_slices_Concat_impl_Order_impl_Order_0 : AC := (.seq (.reg [J 12 (.bin .lss (.t 11) (.t 10))])
 (.seq (.cond (.t 12) .skip (.exit 0))
 (.seq (.block 1 (.seq (.reg [J 13 (.iaddr 1 (.a 9 0) (.t 11)), J 14 (.load false 1 (.a 13 0)), J 5 (.asg (.a 14 0))])
 (.seq (.reg [J 15 (.mv (.p 3)), J 16 (.rf (.t 5)), J 17 (.len (.a 16 5)), J 18 (.bin .add (.t 15) (.t 17)), J 3 (.asg (.p 18))])
 (.seq (.reg [J 19 (.mv (.p 3)), J 20 (.bin .lss (.t 19) (.c (.int .i64 0)))])
 (.condf (.t 20) .skip)))))
 (.reg [J 22 (.bin .add (.t 11) (.c (.int .i64 1))), J 11 (.mv (.p 22))]))))
def b_slices_Concat_impl_Order_impl_Order_1 : AC := (.seq (.reg [J 28 (.bin .lss (.t 27) (.t 26))])
 (.seq (.cond (.t 28) .skip (.exit 2))
 (.seq (.block 3 (.seq (.reg [J 29 (.iaddr 1 (.a 25 0) (.t 27)), J 30 (.load false 1 (.a 29 0)), J 8 (.asg (.a 30 0))])
 (.reg [J 31 (.rf (.t 6)), J 32 (.rf (.t 8)), J 33 (.append 3 (.a 31 6) (.p 32)), J 6 (.asg (.t 33))])))
 (.reg [J 34 (.bin .add (.t 27) (.c (.int .i64 1))), J 27 (.mv (.p 34))]))))
/-- slices.Concat[[]impl.Order,impl.Order] -/
def a_slices_Concat_impl_Order_impl_Order : AFn := ⟨1, 36, [.tmp 2], (.seq (.reg [J 2 (.asg (.c (.list true 3 [])))])
 (.seq (.reg [J 3 (.asg (.c (.int .i64 0)))])
 (.seq (.seq (.reg [J 9 (.rf (.t 0)), J 10 (.len (.a 9 0)), J 11 (.mv (.c (.int .i64 0)))])
 (.block 0 (.loop [0, 3, 9, 10, 11] [0, 2, 3] b_slices_Concat_impl_Order_impl_Order_0)))
 (.seq (.reg [J 23 (.mv (.p 3)), J 24 (.call n_slices_Grow_impl_Order_impl_Order [.k (.list true 3 []), .t 23]), J 6 (.asg (.t 24))])
 (.seq (.seq (.reg [J 25 (.rf (.t 0)), J 26 (.len (.a 25 0)), J 27 (.mv (.c (.int .i64 0)))])
 (.block 2 (.loop [0, 6, 25, 26, 27] [2, 6] b_slices_Concat_impl_Order_impl_Order_1)))
 (.seq (.reg [J 35 (.rf (.t 6)), J 2 (.asg (.a 35 6))])
 .ret))))))⟩
/-- impl.allOrders$1 -/
def a_impl_allOrders_1 : AFn := ⟨2, 10, [.tmp 4], (.seq (.reg [J 2 (.box (.t 0)), J 3 (.box (.t 1)), J 4 (.asg (.c (.int .i64 0)))])
 (.seq (.reg [J 5 (.faddr 0 (.t 2)), J 6 (.load false 1 (.a 5 2)), J 7 (.faddr 0 (.t 3)), J 8 (.load false 1 (.a 7 3)), J 9 (.bin .sub (.a 6 2) (.a 8 3)), J 4 (.asg (.p 9))])
 .ret))⟩
/-- laws.eqUnit -/
def a_laws_eqUnit : AFn := ⟨2, 25, [.tmp 4], (.seq (.reg [J 2 (.box (.t 0)), J 3 (.box (.t 1)), J 4 (.asg (.c (.bool false)))])
 (.seq (.seq (.reg [J 5 (.faddr 0 (.t 2)), J 6 (.load false 1 (.a 5 2)), J 7 (.faddr 0 (.t 3)), J 8 (.load false 1 (.a 7 3)), J 9 (.bin .neq (.a 6 2) (.a 8 3))])
 (.cond (.t 9) (.seq (.reg [J 4 (.asg (.c (.bool false)))])
 .ret) .skip))
 (.seq (.seq (.reg [J 10 (.faddr 1 (.t 2)), J 11 (.load false 1 (.a 10 2)), J 12 (.faddr 1 (.t 3)), J 13 (.load false 1 (.a 12 3)), J 14 (.bin .neq (.a 11 2) (.a 13 3))])
 (.cond (.t 14) (.seq (.reg [J 4 (.asg (.c (.bool false)))])
 .ret) .skip))
 (.seq (.seq (.reg [J 15 (.faddr 2 (.t 2)), J 16 (.load false 1 (.a 15 2)), J 17 (.faddr 2 (.t 3)), J 18 (.load false 1 (.a 17 3)), J 19 (.bin .neq (.a 16 2) (.a 18 3))])
 (.cond (.t 19) (.seq (.reg [J 4 (.asg (.c (.bool false)))])
 .ret) .skip))
 (.seq (.seq (.reg [J 20 (.faddr 3 (.t 2)), J 21 (.load false 1 (.a 20 2)), J 22 (.faddr 3 (.t 3)), J 23 (.load false 1 (.a 22 3)), J 24 (.bin .neq (.a 21 2) (.a 23 3))])
 (.cond (.t 24) (.seq (.reg [J 4 (.asg (.c (.bool false)))])
 .ret) .skip))
 (.seq (.reg [J 4 (.asg (.c (.bool true)))])
 .ret))))))⟩
def b_laws_eqTerrainS_0 : AC := (.seq (.seq (.reg [J 11 (.mv (.p 5)), J 12 (.rf (.t 0)), J 13 (.len (.a 12 0)), J 14 (.bin .lss (.t 11) (.t 13))])
 (.cond (.t 14) .skip (.exit 0)))
 (.seq (.block 1 (.seq (.reg [J 17 (.rf (.t 0)), J 18 (.mv (.p 5)), J 19 (.iaddr 5 (.a 17 0) (.t 18)), J 20 (.load true 5 (.a 19 0)), J 21 (.rf (.t 1)), J 22 (.mv (.p 5)), J 23 (.iaddr 5 (.a 21 1) (.t 22)), J 24 (.load true 5 (.a 23 1)), J 25 (.call n_laws_eqTerrain [.a 20 0, .a 24 1]), J 26 (.un .not (.t 25))])
 (.cond (.t 26) (.seq (.reg [J 4 (.asg (.c (.bool false)))])
 .ret) .skip)))
 (.reg [J 15 (.mv (.p 5)), J 16 (.bin .add (.t 15) (.c (.int .i64 1))), J 5 (.asg (.p 16))])))
/-- laws.eqTerrainS -/
def a_laws_eqTerrainS : AFn := ⟨2, 27, [.tmp 4], (.seq (.reg [J 4 (.asg (.c (.bool false)))])
 (.seq (.seq (.reg [J 6 (.rf (.t 0)), J 7 (.len (.a 6 0)), J 8 (.rf (.t 1)), J 9 (.len (.a 8 1)), J 10 (.bin .neq (.t 7) (.t 9))])
 (.cond (.t 10) (.seq (.reg [J 4 (.asg (.c (.bool false)))])
 .ret) .skip))
 (.seq (.seq (.reg [J 5 (.asg (.c (.int .i64 0)))])
 (.block 0 (.loop [0, 1, 5] [4] b_laws_eqTerrainS_0)))
 (.seq (.reg [J 4 (.asg (.c (.bool true)))])
 .ret))))⟩
def b_laws_eqKindS_0 : AC := (.seq (.seq (.reg [J 11 (.mv (.p 5)), J 12 (.rf (.t 0)), J 13 (.len (.a 12 0)), J 14 (.bin .lss (.t 11) (.t 13))])
 (.cond (.t 14) .skip (.exit 0)))
 (.seq (.block 1 (.seq (.reg [J 17 (.rf (.t 0)), J 18 (.mv (.p 5)), J 19 (.iaddr 6 (.a 17 0) (.t 18)), J 20 (.load true 6 (.a 19 0)), J 21 (.rf (.t 1)), J 22 (.mv (.p 5)), J 23 (.iaddr 6 (.a 21 1) (.t 22)), J 24 (.load true 6 (.a 23 1)), J 25 (.call n_laws_eqKind [.a 20 0, .a 24 1]), J 26 (.un .not (.t 25))])
 (.cond (.t 26) (.seq (.reg [J 4 (.asg (.c (.bool false)))])
 .ret) .skip)))
 (.reg [J 15 (.mv (.p 5)), J 16 (.bin .add (.t 15) (.c (.int .i64 1))), J 5 (.asg (.p 16))])))
/-- laws.eqKindS -/
def a_laws_eqKindS : AFn := ⟨2, 27, [.tmp 4], (.seq (.reg [J 4 (.asg (.c (.bool false)))])
 (.seq (.seq (.reg [J 6 (.rf (.t 0)), J 7 (.len (.a 6 0)), J 8 (.rf (.t 1)), J 9 (.len (.a 8 1)), J 10 (.bin .neq (.t 7) (.t 9))])
 (.cond (.t 10) (.seq (.reg [J 4 (.asg (.c (.bool false)))])
 .ret) .skip))
 (.seq (.seq (.reg [J 5 (.asg (.c (.int .i64 0)))])
 (.block 0 (.loop [0, 1, 5] [4] b_laws_eqKindS_0)))
 (.seq (.reg [J 4 (.asg (.c (.bool true)))])
 .ret))))⟩
def b_laws_eqIntS_0 : AC := (.seq (.seq (.reg [J 11 (.mv (.p 5)), J 12 (.rf (.t 0)), J 13 (.len (.a 12 0)), J 14 (.bin .lss (.t 11) (.t 13))])
 (.cond (.t 14) .skip (.exit 0)))
 (.seq (.block 1 (.seq (.reg [J 17 (.rf (.t 0)), J 18 (.mv (.p 5)), J 19 (.iaddr 1 (.a 17 0) (.t 18)), J 20 (.load false 1 (.a 19 0)), J 21 (.rf (.t 1)), J 22 (.mv (.p 5)), J 23 (.iaddr 1 (.a 21 1) (.t 22)), J 24 (.load false 1 (.a 23 1)), J 25 (.bin .neq (.a 20 0) (.a 24 1))])
 (.cond (.t 25) (.seq (.reg [J 4 (.asg (.c (.bool false)))])
 .ret) .skip)))
 (.reg [J 15 (.mv (.p 5)), J 16 (.bin .add (.t 15) (.c (.int .i64 1))), J 5 (.asg (.p 16))])))
/-- laws.eqIntS -/
def a_laws_eqIntS : AFn := ⟨2, 26, [.tmp 4], (.seq (.reg [J 4 (.asg (.c (.bool false)))])
 (.seq (.seq (.reg [J 6 (.rf (.t 0)), J 7 (.len (.a 6 0)), J 8 (.rf (.t 1)), J 9 (.len (.a 8 1)), J 10 (.bin .neq (.t 7) (.t 9))])
 (.cond (.t 10) (.seq (.reg [J 4 (.asg (.c (.bool false)))])
 .ret) .skip))
 (.seq (.seq (.reg [J 5 (.asg (.c (.int .i64 0)))])
 (.block 0 (.loop [0, 1, 5] [4] b_laws_eqIntS_0)))
 (.seq (.reg [J 4 (.asg (.c (.bool true)))])
 .ret))))⟩
/-- laws.eqOrder -/
def a_laws_eqOrder : AFn := ⟨2, 21, [.tmp 4], (.seq (.reg [J 2 (.box (.t 0)), J 3 (.box (.t 1)), J 4 (.asg (.c (.bool false)))])
 (.seq (.seq (.reg [J 5 (.faddr 0 (.t 2)), J 6 (.load false 1 (.a 5 2)), J 7 (.faddr 0 (.t 3)), J 8 (.load false 1 (.a 7 3)), J 9 (.bin .neq (.a 6 2) (.a 8 3))])
 (.cond (.t 9) (.seq (.reg [J 4 (.asg (.c (.bool false)))])
 .ret) .skip))
 (.seq (.seq (.reg [J 10 (.faddr 1 (.t 2)), J 11 (.load false 1 (.a 10 2)), J 12 (.faddr 1 (.t 3)), J 13 (.load false 1 (.a 12 3)), J 14 (.call n_laws_eqIntS [.a 11 2, .a 13 3]), J 15 (.un .not (.t 14))])
 (.cond (.t 15) (.seq (.reg [J 4 (.asg (.c (.bool false)))])
 .ret) .skip))
 (.seq (.seq (.reg [J 16 (.faddr 2 (.t 2)), J 17 (.load false 1 (.a 16 2)), J 18 (.faddr 2 (.t 3)), J 19 (.load false 1 (.a 18 3)), J 20 (.bin .neq (.a 17 2) (.a 19 3))])
 (.cond (.t 20) (.seq (.reg [J 4 (.asg (.c (.bool false)))])
 .ret) .skip))
 (.seq (.reg [J 4 (.asg (.c (.bool true)))])
 .ret)))))⟩
def b_laws_markTerrainS_0 : AC := (.seq (.seq (.reg [J 6 (.mv (.p 5)), J 7 (.rf (.t 0)), J 8 (.len (.a 7 0)), J 9 (.bin .lss (.t 6) (.t 8))])
 (.cond (.t 9) .skip (.exit 0)))
 (.seq (.block 1 (.seq (.reg [J 12 (.rf (.t 0)), J 13 (.mv (.p 5)), J 14 (.mv (.p 1)), J 15 (.call n_laws_markText [.t 14]), J 16 (.iaddr 5 (.a 12 0) (.t 13)), J 17 (.faddr 0 (.a 16 0)), ⟨none, none, .store 1 (.a 17 0) (.p 15)⟩])
 (.seq (.reg [J 18 (.mv (.p 1)), J 19 (.bin .add (.t 18) (.c (.int .i64 1))), J 1 (.asg (.p 19))])
 (.seq (.reg [J 20 (.rf (.t 0)), J 21 (.mv (.p 5)), J 22 (.iaddr 5 (.a 20 0) (.t 21)), J 23 (.faddr 1 (.a 22 0)), J 24 (.load false 1 (.a 23 0)), J 25 (.mv (.p 1)), J 26 (.calli n_laws_markIntS 24 0 [.t 25]), J 1 (.asg (.p 26))])
 (.seq (.reg [J 27 (.rf (.t 0)), J 28 (.mv (.p 5)), J 29 (.mv (.p 1)), J 30 (.iaddr 5 (.a 27 0) (.t 28)), J 31 (.faddr 2 (.a 30 0)), ⟨none, none, .store 1 (.a 31 0) (.p 29)⟩])
 (.seq (.reg [J 32 (.mv (.p 1)), J 33 (.bin .add (.t 32) (.c (.int .i64 1))), J 1 (.asg (.p 33))])
 (.seq (.reg [J 34 (.rf (.t 0)), J 35 (.mv (.p 5)), J 36 (.mv (.p 1)), J 37 (.iaddr 5 (.a 34 0) (.t 35)), J 38 (.faddr 3 (.a 37 0)), ⟨none, none, .store 1 (.a 38 0) (.p 36)⟩])
 (.seq (.reg [J 39 (.mv (.p 1)), J 40 (.bin .add (.t 39) (.c (.int .i64 1))), J 1 (.asg (.p 40))])
 (.seq (.reg [J 41 (.rf (.t 0)), J 42 (.mv (.p 5)), J 43 (.mv (.p 1)), J 44 (.bin .rem (.t 43) (.c (.int .i64 3))), J 45 (.bin .eql (.t 44) (.c (.int .i64 0))), J 46 (.iaddr 5 (.a 41 0) (.t 42)), J 47 (.faddr 4 (.a 46 0)), ⟨none, none, .store 1 (.a 47 0) (.p 45)⟩])
 (.reg [J 48 (.mv (.p 1)), J 49 (.bin .add (.t 48) (.c (.int .i64 1))), J 1 (.asg (.p 49))]))))))))))
 (.reg [J 10 (.mv (.p 5)), J 11 (.bin .add (.t 10) (.c (.int .i64 1))), J 5 (.asg (.p 11))])))
/-- laws.markTerrainS -/
def a_laws_markTerrainS : AFn := ⟨2, 51, [.tmp 4, .io 0], (.seq (.reg [J 4 (.asg (.c (.int .i64 0)))])
 (.seq (.seq (.reg [J 5 (.asg (.c (.int .i64 0)))])
 (.block 0 (.loop [0, 1, 5] [0, 1, 4] b_laws_markTerrainS_0)))
 (.seq (.reg [J 50 (.mv (.p 1)), J 4 (.asg (.p 50))])
 .ret)))⟩
def b_laws_markKindS_0 : AC := (.seq (.seq (.reg [J 6 (.mv (.p 5)), J 7 (.rf (.t 0)), J 8 (.len (.a 7 0)), J 9 (.bin .lss (.t 6) (.t 8))])
 (.cond (.t 9) .skip (.exit 0)))
 (.seq (.block 1 (.seq (.reg [J 12 (.rf (.t 0)), J 13 (.mv (.p 5)), J 14 (.mv (.p 1)), J 15 (.call n_laws_markText [.t 14]), J 16 (.iaddr 6 (.a 12 0) (.t 13)), J 17 (.faddr 0 (.a 16 0)), ⟨none, none, .store 1 (.a 17 0) (.p 15)⟩])
 (.seq (.reg [J 18 (.mv (.p 1)), J 19 (.bin .add (.t 18) (.c (.int .i64 1))), J 1 (.asg (.p 19))])
 (.seq (.reg [J 20 (.rf (.t 0)), J 21 (.mv (.p 5)), J 22 (.mv (.p 1)), J 23 (.iaddr 6 (.a 20 0) (.t 21)), J 24 (.faddr 1 (.a 23 0)), ⟨none, none, .store 1 (.a 24 0) (.p 22)⟩])
 (.seq (.reg [J 25 (.mv (.p 1)), J 26 (.bin .add (.t 25) (.c (.int .i64 1))), J 1 (.asg (.p 26))])
 (.seq (.reg [J 27 (.rf (.t 0)), J 28 (.mv (.p 5)), J 29 (.mv (.p 1)), J 30 (.iaddr 6 (.a 27 0) (.t 28)), J 31 (.faddr 2 (.a 30 0)), ⟨none, none, .store 1 (.a 31 0) (.p 29)⟩])
 (.seq (.reg [J 32 (.mv (.p 1)), J 33 (.bin .add (.t 32) (.c (.int .i64 1))), J 1 (.asg (.p 33))])
 (.seq (.reg [J 34 (.rf (.t 0)), J 35 (.mv (.p 5)), J 36 (.mv (.p 1)), J 37 (.iaddr 6 (.a 34 0) (.t 35)), J 38 (.faddr 3 (.a 37 0)), ⟨none, none, .store 1 (.a 38 0) (.p 36)⟩])
 (.seq (.reg [J 39 (.mv (.p 1)), J 40 (.bin .add (.t 39) (.c (.int .i64 1))), J 1 (.asg (.p 40))])
 (.seq (.reg [J 41 (.rf (.t 0)), J 42 (.mv (.p 5)), J 43 (.mv (.p 1)), J 44 (.bin .rem (.t 43) (.c (.int .i64 3))), J 45 (.bin .eql (.t 44) (.c (.int .i64 0))), J 46 (.iaddr 6 (.a 41 0) (.t 42)), J 47 (.faddr 4 (.a 46 0)), ⟨none, none, .store 1 (.a 47 0) (.p 45)⟩])
 (.seq (.reg [J 48 (.mv (.p 1)), J 49 (.bin .add (.t 48) (.c (.int .i64 1))), J 1 (.asg (.p 49))])
 (.seq (.reg [J 50 (.rf (.t 0)), J 51 (.mv (.p 5)), J 52 (.mv (.p 1)), J 53 (.iaddr 6 (.a 50 0) (.t 51)), J 54 (.faddr 5 (.a 53 0)), ⟨none, none, .store 1 (.a 54 0) (.p 52)⟩])
 (.reg [J 55 (.mv (.p 1)), J 56 (.bin .add (.t 55) (.c (.int .i64 1))), J 1 (.asg (.p 56))])))))))))))))
 (.reg [J 10 (.mv (.p 5)), J 11 (.bin .add (.t 10) (.c (.int .i64 1))), J 5 (.asg (.p 11))])))
/-- laws.markKindS -/
def a_laws_markKindS : AFn := ⟨2, 58, [.tmp 4, .io 0], (.seq (.reg [J 4 (.asg (.c (.int .i64 0)))])
 (.seq (.seq (.reg [J 5 (.asg (.c (.int .i64 0)))])
 (.block 0 (.loop [0, 1, 5] [0, 1, 4] b_laws_markKindS_0)))
 (.seq (.reg [J 57 (.mv (.p 1)), J 4 (.asg (.p 57))])
 .ret)))⟩
def b_laws_markIntS_0 : AC := (.seq (.seq (.reg [J 6 (.mv (.p 5)), J 7 (.rf (.t 0)), J 8 (.len (.a 7 0)), J 9 (.bin .lss (.t 6) (.t 8))])
 (.cond (.t 9) .skip (.exit 0)))
 (.seq (.block 1 (.seq (.reg [J 12 (.rf (.t 0)), J 13 (.mv (.p 5)), J 14 (.mv (.p 1)), J 15 (.iaddr 1 (.a 12 0) (.t 13)), ⟨none, none, .store 1 (.a 15 0) (.p 14)⟩])
 (.reg [J 16 (.mv (.p 1)), J 17 (.bin .add (.t 16) (.c (.int .i64 1))), J 1 (.asg (.p 17))])))
 (.reg [J 10 (.mv (.p 5)), J 11 (.bin .add (.t 10) (.c (.int .i64 1))), J 5 (.asg (.p 11))])))
/-- laws.markIntS -/
def a_laws_markIntS : AFn := ⟨2, 19, [.tmp 4, .io 0], (.seq (.reg [J 4 (.asg (.c (.int .i64 0)))])
 (.seq (.seq (.reg [J 5 (.asg (.c (.int .i64 0)))])
 (.block 0 (.loop [0, 1, 5] [0, 1, 4] b_laws_markIntS_0)))
 (.seq (.reg [J 18 (.mv (.p 1)), J 4 (.asg (.p 18))])
 .ret)))⟩
/-- laws.szTerrain -/
def a_laws_szTerrain : AFn := ⟨2, 19, [.tmp 4], (.seq (.reg [J 2 (.box (.t 0)), J 4 (.asg (.c (.int .i64 0)))])
 (.seq (.reg [J 5 (.mv (.p 1)), J 6 (.faddr 0 (.t 2)), J 7 (.load false 1 (.a 6 2)), J 8 (.slen (.a 7 2)), J 9 (.bin .sub (.t 5) (.t 8)), J 1 (.asg (.p 9))])
 (.seq (.seq (.reg [J 10 (.mv (.p 1)), J 11 (.bin .lss (.t 10) (.c (.int .i64 0)))])
 (.cond (.t 11) (.seq (.reg [J 4 (.asg (.c (.int .i64 (-1))))])
 .ret) .skip))
 (.seq (.reg [J 12 (.faddr 1 (.t 2)), J 13 (.load false 1 (.a 12 2)), J 14 (.mv (.p 1)), J 15 (.call n_laws_szIntS [.a 13 2, .t 14]), J 1 (.asg (.p 15))])
 (.seq (.seq (.reg [J 16 (.mv (.p 1)), J 17 (.bin .lss (.t 16) (.c (.int .i64 0)))])
 (.cond (.t 17) (.seq (.reg [J 4 (.asg (.c (.int .i64 (-1))))])
 .ret) .skip))
 (.seq (.reg [J 18 (.mv (.p 1)), J 4 (.asg (.p 18))])
 .ret))))))⟩
/-- laws.szKind -/
def a_laws_szKind : AFn := ⟨2, 13, [.tmp 4], (.seq (.reg [J 2 (.box (.t 0)), J 4 (.asg (.c (.int .i64 0)))])
 (.seq (.reg [J 5 (.mv (.p 1)), J 6 (.faddr 0 (.t 2)), J 7 (.load false 1 (.a 6 2)), J 8 (.slen (.a 7 2)), J 9 (.bin .sub (.t 5) (.t 8)), J 1 (.asg (.p 9))])
 (.seq (.seq (.reg [J 10 (.mv (.p 1)), J 11 (.bin .lss (.t 10) (.c (.int .i64 0)))])
 (.cond (.t 11) (.seq (.reg [J 4 (.asg (.c (.int .i64 (-1))))])
 .ret) .skip))
 (.seq (.reg [J 12 (.mv (.p 1)), J 4 (.asg (.p 12))])
 .ret))))⟩
def b_spec_sGood_0 : AC := (.seq (.reg [J 37 (.bin .lss (.t 36) (.t 35))])
 (.seq (.cond (.t 37) .skip (.exit 0))
 (.seq (.block 1 (.seq (.reg [J 38 (.iaddr 4 (.a 34 3) (.t 36)), J 39 (.load true 4 (.a 38 3)), J 6 (.alloc [.int .i64 0, .int .i64 0, .int .i64 0, .int .i64 0]), ⟨none, none, .store 4 (.t 6) (.a 39 3)⟩])
 (.seq (.reg [J 40 (.load true 12 (.t 2)), J 41 (.load true 4 (.t 6)), J 42 (.call n_spec_sUnit [.a 40 2, .a 41 6]), J 43 (.un .not (.t 42))])
 (.cond (.t 43) (.seq (.reg [J 4 (.asg (.c (.bool false)))])
 .ret) .skip))))
 (.reg [J 44 (.bin .add (.t 36) (.c (.int .i64 1))), J 36 (.mv (.p 44))]))))
def b_spec_sGood_1 : AC := (.seq (.reg [J 49 (.bin .lss (.t 48) (.t 47))])
 (.seq (.cond (.t 49) .skip (.exit 2))
 (.seq (.block 3 (.seq (.reg [J 50 (.iaddr 4 (.a 46 3) (.t 48)), J 51 (.load true 4 (.a 50 3)), J 8 (.alloc [.int .i64 0, .int .i64 0, .int .i64 0, .int .i64 0]), ⟨none, none, .store 4 (.t 8) (.a 51 3)⟩])
 (.seq (.reg [J 52 (.faddr 2 (.t 8)), J 53 (.load false 1 (.a 52 8)), J 54 (.bin .geq (.a 53 8) (.c (.int .i64 0))), J 55 (.mv (.p 54)), ⟨some 56, some (55, true), .load true 3 (.t 3)⟩, ⟨some 57, some (55, true), .faddr 2 (.t 8)⟩, ⟨some 58, some (55, true), .load false 1 (.a 57 8)⟩, ⟨some 59, some (55, true), .faddr 0 (.t 8)⟩, ⟨some 60, some (55, true), .load false 1 (.a 59 8)⟩, ⟨some 61, some (55, true), .bin .sub (.c (.int .i64 1)) (.a 60 8)⟩, ⟨some 62, some (55, true), .call n_spec_sAt [.a 56 3, .a 58 8, .t 61]⟩, ⟨some 63, some (55, true), .len (.t 62)⟩, ⟨some 64, some (55, true), .bin .gtr (.t 63) (.c (.int .i64 0))⟩, ⟨some 65, some (55, true), .mv (.p 64)⟩, ⟨some 66, some (65, false), .load true 3 (.t 3)⟩, ⟨some 67, some (65, false), .faddr 2 (.t 8)⟩, ⟨some 68, some (65, false), .load false 1 (.a 67 8)⟩, ⟨some 69, some (65, false), .faddr 0 (.t 8)⟩, ⟨some 70, some (65, false), .load false 1 (.a 69 8)⟩, ⟨some 71, some (65, false), .call n_spec_sAt [.a 66 3, .a 68 8, .a 70 8]⟩, ⟨some 72, some (65, false), .len (.t 71)⟩, ⟨some 73, some (65, false), .faddr 0 (.t 2)⟩, ⟨some 74, some (65, false), .faddr 2 (.a 73 2)⟩, ⟨some 75, some (65, false), .load false 1 (.a 74 2)⟩, ⟨some 76, some (65, false), .bin .gtr (.t 72) (.a 75 2)⟩, ⟨some 77, some (55, true), .pick (.t 65) (.c (.bool true)) (.t 76)⟩, J 78 (.pick (.t 55) (.t 77) (.c (.bool false)))])
 (.cond (.t 78) (.seq (.reg [J 4 (.asg (.c (.bool false)))])
 .ret) .skip))))
 (.reg [J 79 (.bin .add (.t 48) (.c (.int .i64 1))), J 48 (.mv (.p 79))]))))
/-- spec.sGood -/
def a_spec_sGood : AFn := ⟨2, 80, [.tmp 4], (.seq (.reg [J 2 (.box (.t 0)), J 3 (.box (.t 1)), J 4 (.asg (.c (.bool false)))])
 (.seq (.seq (.reg [J 9 (.load true 12 (.t 2)), J 10 (.call n_spec_bGood [.a 9 2]), J 11 (.un .not (.t 10)), J 12 (.mv (.p 11)), ⟨some 13, some (12, false), .faddr 0 (.t 3)⟩, ⟨some 14, some (12, false), .load false 1 (.a 13 3)⟩, ⟨some 15, some (12, false), .faddr 0 (.t 2)⟩, ⟨some 16, some (12, false), .faddr 6 (.a 15 2)⟩, ⟨some 17, some (12, false), .load false 1 (.a 16 2)⟩, ⟨some 18, some (12, false), .call n_spec_l1In [.a 14 3, .c (.int .i64 0), .a 17 2]⟩, ⟨some 19, some (12, false), .un .not (.t 18)⟩, J 20 (.pick (.t 12) (.c (.bool true)) (.t 19)), J 21 (.mv (.p 20)), ⟨some 22, some (21, false), .faddr 1 (.t 3)⟩, ⟨some 23, some (21, false), .load false 1 (.a 22 3)⟩, ⟨some 24, some (21, false), .call n_spec_l1In [.a 23 3, .c (.int .i64 0), .c (.int .i64 2)]⟩, ⟨some 25, some (21, false), .un .not (.t 24)⟩, J 26 (.pick (.t 21) (.c (.bool true)) (.t 25)), J 27 (.mv (.p 26)), ⟨some 28, some (27, false), .faddr 2 (.t 3)⟩, ⟨some 29, some (27, false), .load false 1 (.a 28 3)⟩, ⟨some 30, some (27, false), .len (.a 29 3)⟩, ⟨some 31, some (27, false), .bin .gtr (.t 30) (.c (.int .i64 12))⟩, J 32 (.pick (.t 27) (.c (.bool true)) (.t 31))])
 (.cond (.t 32) (.seq (.reg [J 4 (.asg (.c (.bool false)))])
 .ret) .skip))
 (.seq (.seq (.reg [J 33 (.faddr 2 (.t 3)), J 34 (.load false 1 (.a 33 3)), J 35 (.len (.a 34 3)), J 36 (.mv (.c (.int .i64 0)))])
 (.block 0 (.loop [2, 3, 34, 35, 36] [2, 3, 4] b_spec_sGood_0)))
 (.seq (.seq (.reg [J 45 (.faddr 2 (.t 3)), J 46 (.load false 1 (.a 45 3)), J 47 (.len (.a 46 3)), J 48 (.mv (.c (.int .i64 0)))])
 (.block 2 (.loop [2, 3, 46, 47, 48] [4] b_spec_sGood_1)))
 (.seq (.reg [J 4 (.asg (.c (.bool true)))])
 .ret)))))⟩
/-- spec.oForm -/
def a_spec_oForm : AFn := ⟨1, 12, [.tmp 2], (.seq (.reg [J 1 (.box (.t 0)), J 2 (.asg (.c (.bool false)))])
 (.seq (.reg [J 3 (.faddr 0 (.t 1)), J 4 (.load false 1 (.a 3 1)), J 5 (.call n_spec_l1In [.a 4 1, .c (.int .i64 0), .c (.int .i64 1)]), J 6 (.mv (.p 5)), ⟨some 7, some (6, true), .faddr 1 (.t 1)⟩, ⟨some 8, some (6, true), .load false 1 (.a 7 1)⟩, ⟨some 9, some (6, true), .len (.a 8 1)⟩, ⟨some 10, some (6, true), .bin .leq (.t 9) (.c (.int .i64 12))⟩, J 11 (.pick (.t 6) (.t 10) (.c (.bool false))), J 2 (.asg (.p 11))])
 .ret))⟩
def b_spec_oFirst_0 : AC := (.seq (.reg [J 15 (.bin .lss (.t 14) (.t 13))])
 (.seq (.cond (.t 15) .skip (.exit 0))
 (.seq (.block 1 (.seq (.reg [J 16 (.mv (.p 14)), J 17 (.iaddr 3 (.a 12 5) (.t 14)), J 18 (.load true 3 (.a 17 5)), J 9 (.alloc [.int .i64 0, .list true 1 [], .int .i64 0]), J 8 (.asg (.p 16)), ⟨none, none, .store 3 (.t 9) (.a 18 5)⟩])
 (.seq (.seq (.reg [J 19 (.load true 3 (.t 4)), J 20 (.faddr 0 (.t 5)), J 21 (.load false 1 (.a 20 5)), J 22 (.faddr 0 (.t 9)), J 23 (.load false 1 (.a 22 9)), J 24 (.call n_spec_oPlaced [.a 19 4, .a 21 5, .a 23 9]), J 25 (.mv (.p 24)), ⟨some 26, some (25, true), .mv (.p 8)⟩, ⟨some 27, some (25, true), .bin .gtr (.t 26) (.c (.int .i64 0))⟩, J 28 (.pick (.t 25) (.t 27) (.c (.bool false))), J 29 (.mv (.p 28)), ⟨some 30, some (29, true), .faddr 1 (.t 5)⟩, ⟨some 31, some (29, true), .load false 1 (.a 30 5)⟩, ⟨some 32, some (29, true), .mv (.p 8)⟩, ⟨some 33, some (29, true), .bin .sub (.t 32) (.c (.int .i64 1))⟩, ⟨some 34, some (29, true), .iaddr 3 (.a 31 5) (.t 33)⟩, ⟨some 35, some (29, true), .faddr 0 (.a 34 5)⟩, ⟨some 36, some (29, true), .load false 1 (.a 35 5)⟩, ⟨some 37, some (29, true), .faddr 0 (.t 9)⟩, ⟨some 38, some (29, true), .load false 1 (.a 37 9)⟩, ⟨some 39, some (29, true), .bin .geq (.a 36 5) (.a 38 9)⟩, J 40 (.pick (.t 29) (.t 39) (.c (.bool false)))])
 (.cond (.t 40) (.seq (.reg [J 41 (.mv (.p 8)), J 6 (.asg (.p 41)), J 7 (.asg (.c (.int .i64 2)))])
 .ret) .skip))
 (.seq (.reg [J 42 (.load true 12 (.t 3)), J 43 (.load true 3 (.t 4)), J 44 (.faddr 0 (.t 5)), J 45 (.load false 1 (.a 44 5)), J 46 (.load true 3 (.t 9)), J 47 (.call n_spec_oFault [.a 42 3, .a 43 4, .a 45 5, .a 46 9]), J 10 (.asg (.p 47))])
 (.seq (.reg [J 48 (.mv (.p 10)), J 49 (.bin .neq (.t 48) (.c (.int .i64 0)))])
 (.cond (.t 49) (.seq (.reg [J 50 (.mv (.p 8)), J 51 (.mv (.p 10)), J 6 (.asg (.p 50)), J 7 (.asg (.p 51))])
 .ret) .skip))))))
 (.reg [J 52 (.bin .add (.t 14) (.c (.int .i64 1))), J 14 (.mv (.p 52))]))))
/-- spec.oFirst -/
def a_spec_oFirst : AFn := ⟨3, 56, [.tmp 6, .tmp 7], (.seq (.reg [J 3 (.box (.t 0)), J 4 (.box (.t 1)), J 5 (.box (.t 2)), J 6 (.asg (.c (.int .i64 0))), J 7 (.asg (.c (.int .i64 0)))])
 (.seq (.seq (.reg [J 11 (.faddr 1 (.t 5)), J 12 (.load false 1 (.a 11 5)), J 13 (.len (.a 12 5)), J 14 (.mv (.c (.int .i64 0)))])
 (.block 0 (.loop [3, 4, 5, 12, 13, 14] [5, 6, 7] b_spec_oFirst_0)))
 (.seq (.reg [J 53 (.faddr 1 (.t 5)), J 54 (.load false 1 (.a 53 5)), J 55 (.len (.a 54 5)), J 6 (.asg (.p 55)), J 7 (.asg (.c (.int .i64 0)))])
 .ret)))⟩
/-- spec.zIn -/
def a_spec_zIn : AFn := ⟨4, 16, [.tmp 8], (.seq (.reg [J 4 (.box (.t 0)), J 5 (.box (.t 1)), J 8 (.asg (.c (.bool false)))])
 (.seq (.reg [J 9 (.load true 12 (.t 4)), J 10 (.load true 3 (.t 5)), J 11 (.mv (.p 3)), J 12 (.mv (.p 2)), J 13 (.call n_spec_zSources [.a 9 4, .a 10 5, .t 11, .t 12]), J 14 (.len (.t 13)), J 15 (.bin .gtr (.t 14) (.c (.int .i64 0))), J 8 (.asg (.p 15))])
 .ret))⟩
/-- spec.mNext -/
def a_spec_mNext : AFn := ⟨3, 14, [.tmp 6], (.seq (.reg [J 3 (.box (.t 0)), J 6 (.asg (.c (.int .i64 0)))])
 (.seq (.reg [J 7 (.load true 5 (.t 3)), J 8 (.load true 5 (.t 3)), J 9 (.mv (.p 1)), J 10 (.call n_spec_mHex [.a 8 3, .t 9]), J 11 (.mv (.p 2)), J 12 (.call n_spec_hStep [.t 10, .t 11]), J 13 (.call n_spec_mIndex [.a 7 3, .t 12]), J 6 (.asg (.p 13))])
 .ret))⟩
/-- spec.l1In -/
def a_spec_l1In : AFn := ⟨3, 15, [.tmp 6], (.seq (.reg [J 6 (.asg (.c (.bool false)))])
 (.seq (.reg [J 7 (.mv (.p 0)), J 8 (.mv (.p 1)), J 9 (.bin .geq (.t 7) (.t 8)), J 10 (.mv (.p 9)), ⟨some 11, some (10, true), .mv (.p 0)⟩, ⟨some 12, some (10, true), .mv (.p 2)⟩, ⟨some 13, some (10, true), .bin .leq (.t 11) (.t 12)⟩, J 14 (.pick (.t 10) (.t 13) (.c (.bool false))), J 6 (.asg (.p 14))])
 .ret))⟩
/-- spec.cStep -/
def a_spec_cStep : AFn := ⟨5, 56, [.tmp 10], (.seq (.reg [J 5 (.box (.t 0)), J 10 (.asg (.c (.int .i64 0)))])
 (.seq (.reg [J 13 (.faddr 7 (.t 5)), J 14 (.load true 5 (.a 13 5)), J 15 (.mv (.p 2)), J 16 (.mv (.p 3)), J 17 (.call n_spec_mNext [.a 14 5, .t 15, .t 16]), J 11 (.asg (.p 17))])
 (.seq (.seq (.reg [J 18 (.mv (.p 11)), J 19 (.bin .lss (.t 18) (.c (.int .i64 0))), J 20 (.mv (.p 19)), ⟨some 21, some (20, false), .load true 12 (.t 5)⟩, ⟨some 22, some (20, false), .mv (.p 1)⟩, ⟨some 23, some (20, false), .mv (.p 11)⟩, ⟨some 24, some (20, false), .call n_spec_bCost [.a 21 5, .t 22, .t 23]⟩, ⟨some 25, some (20, false), .bin .eql (.t 24) (.c (.int .i64 0))⟩, J 26 (.pick (.t 20) (.c (.bool true)) (.t 25))])
 (.cond (.t 26) (.seq (.reg [J 10 (.asg (.c (.int .i64 0)))])
 .ret) .skip))
 (.seq (.seq (.reg [J 27 (.faddr 7 (.t 5)), J 28 (.load true 5 (.a 27 5)), J 29 (.mv (.p 2)), J 30 (.mv (.p 3)), J 31 (.call n_spec_mRoad [.a 28 5, .t 29, .t 30])])
 (.cond (.t 31) (.seq (.reg [J 32 (.faddr 0 (.t 5)), J 33 (.faddr 4 (.a 32 5)), J 34 (.load false 1 (.a 33 5)), J 35 (.mv (.p 4)), J 36 (.call n_spec_csWeather [.t 35, .c (.bool true)]), J 37 (.bin .add (.a 34 5) (.t 36)), J 10 (.asg (.p 37))])
 .ret) .skip))
 (.seq (.reg [J 38 (.load true 12 (.t 5)), J 39 (.mv (.p 1)), J 40 (.mv (.p 11)), J 41 (.call n_spec_bCost [.a 38 5, .t 39, .t 40]), J 42 (.mv (.p 4)), J 43 (.call n_spec_csWeather [.t 42, .c (.bool false)]), J 44 (.bin .add (.t 41) (.t 43)), J 12 (.asg (.p 44))])
 (.seq (.seq (.reg [J 45 (.faddr 7 (.t 5)), J 46 (.load true 5 (.a 45 5)), J 47 (.mv (.p 2)), J 48 (.mv (.p 3)), J 49 (.call n_spec_mRiver [.a 46 5, .t 47, .t 48])])
 (.cond (.t 49) (.reg [J 50 (.mv (.p 12)), J 51 (.faddr 0 (.t 5)), J 52 (.faddr 3 (.a 51 5)), J 53 (.load false 1 (.a 52 5)), J 54 (.bin .add (.t 50) (.a 53 5)), J 12 (.asg (.p 54))]) .skip))
 (.seq (.reg [J 55 (.mv (.p 12)), J 10 (.asg (.p 55))])
 .ret)))))))⟩
def b_spec_fReason_0 : AC := (.seq (.reg [J 48 (.bin .lss (.t 47) (.t 46))])
 (.seq (.cond (.t 48) .skip (.exit 0))
 (.seq (.block 1 (.seq (.reg [J 49 (.iaddr 3 (.a 45 2) (.t 47)), J 50 (.load true 3 (.a 49 2)), J 15 (.alloc [.int .i64 0, .int .i64 0, .int .i64 0]), ⟨none, none, .store 3 (.t 15) (.a 50 2)⟩])
 (.seq (.reg [J 51 (.faddr 2 (.t 5)), J 52 (.load false 1 (.a 51 5)), J 53 (.faddr 0 (.t 15)), J 54 (.load false 1 (.a 53 15)), J 55 (.iaddr 4 (.a 52 5) (.a 54 15)), J 56 (.faddr 0 (.a 55 5)), J 57 (.load false 1 (.a 56 5)), J 58 (.mv (.p 10)), J 59 (.bin .neq (.a 57 5) (.t 58))])
 (.cond (.t 59) (.seq (.reg [J 60 (.mv (.p 11)), J 61 (.mv (.p 60)), ⟨some 62, some (61, false), .faddr 1 (.t 15)⟩, ⟨some 63, some (61, false), .load false 1 (.a 62 15)⟩, ⟨some 64, some (61, false), .faddr 2 (.t 9)⟩, ⟨some 65, some (61, false), .load false 1 (.a 64 9)⟩, ⟨some 66, some (61, false), .bin .eql (.a 63 15) (.a 65 9)⟩, ⟨some 67, some (61, false), .mv (.p 66)⟩, ⟨some 68, some (67, true), .faddr 2 (.t 15)⟩, ⟨some 69, some (67, true), .load false 1 (.a 68 15)⟩, ⟨some 70, some (67, true), .faddr 1 (.t 9)⟩, ⟨some 71, some (67, true), .load false 1 (.a 70 9)⟩, ⟨some 72, some (67, true), .bin .eql (.a 69 15) (.a 71 9)⟩, ⟨some 73, some (61, false), .pick (.t 67) (.t 72) (.c (.bool false))⟩, J 74 (.pick (.t 61) (.c (.bool true)) (.t 73)), J 11 (.asg (.p 74))])
 (.reg [J 75 (.mv (.p 12)), J 76 (.mv (.p 75)), ⟨some 77, some (76, false), .faddr 2 (.t 15)⟩, ⟨some 78, some (76, false), .load false 1 (.a 77 15)⟩, ⟨some 79, some (76, false), .faddr 2 (.t 9)⟩, ⟨some 80, some (76, false), .load false 1 (.a 79 9)⟩, ⟨some 81, some (76, false), .bin .eql (.a 78 15) (.a 80 9)⟩, J 82 (.pick (.t 76) (.c (.bool true)) (.t 81)), J 12 (.asg (.p 82))])) (.seq (.reg [J 83 (.faddr 2 (.t 15)), J 84 (.load false 1 (.a 83 15)), J 85 (.faddr 2 (.t 9)), J 86 (.load false 1 (.a 85 9)), J 87 (.bin .eql (.a 84 15) (.a 86 9)), J 88 (.mv (.p 87)), ⟨some 89, some (88, true), .faddr 0 (.t 15)⟩, ⟨some 90, some (88, true), .load false 1 (.a 89 15)⟩, ⟨some 91, some (88, true), .faddr 0 (.t 9)⟩, ⟨some 92, some (88, true), .load false 1 (.a 91 9)⟩, ⟨some 93, some (88, true), .bin .lss (.a 90 15) (.a 92 9)⟩, J 94 (.pick (.t 88) (.t 93) (.c (.bool false)))])
 (.cond (.t 94) (.reg [J 95 (.mv (.p 13)), J 96 (.bin .sub (.t 95) (.c (.int .i64 1))), J 13 (.asg (.p 96))]) .skip))))))
 (.reg [J 97 (.bin .add (.t 47) (.c (.int .i64 1))), J 47 (.mv (.p 97))]))))
/-- spec.fReason -/
def a_spec_fReason : AFn := ⟨4, 105, [.tmp 8], (.seq (.reg [J 4 (.box (.t 0)), J 5 (.box (.t 1)), J 8 (.asg (.c (.int .i64 0)))])
 (.seq (.reg [J 16 (.rf (.t 2)), J 17 (.mv (.p 3)), J 18 (.iaddr 3 (.a 16 2) (.t 17)), J 19 (.load true 3 (.a 18 2)), J 9 (.alloc [.int .i64 0, .int .i64 0, .int .i64 0]), ⟨none, none, .store 3 (.t 9) (.a 19 2)⟩])
 (.seq (.reg [J 20 (.faddr 2 (.t 5)), J 21 (.load false 1 (.a 20 5)), J 22 (.faddr 0 (.t 9)), J 23 (.load false 1 (.a 22 9)), J 24 (.iaddr 4 (.a 21 5) (.a 23 9)), J 25 (.faddr 0 (.a 24 5)), J 26 (.load false 1 (.a 25 5)), J 10 (.asg (.p 26))])
 (.seq (.seq (.reg [J 27 (.load true 3 (.t 5)), J 28 (.rf (.t 2)), J 29 (.faddr 2 (.t 9)), J 30 (.load false 1 (.a 29 9)), J 31 (.mv (.p 10)), J 32 (.bin .sub (.c (.int .i64 1)) (.t 31)), J 33 (.call n_spec_fStays [.a 27 5, .a 28 2, .a 30 9, .t 32]), J 34 (.bin .gtr (.t 33) (.c (.int .i64 0)))])
 (.cond (.t 34) (.seq (.reg [J 8 (.asg (.c (.int .i64 1)))])
 .ret) .skip))
 (.seq (.reg [J 11 (.asg (.c (.bool false))), J 12 (.asg (.c (.bool false)))])
 (.seq (.reg [J 35 (.faddr 0 (.t 4)), J 36 (.faddr 2 (.a 35 4)), J 37 (.load false 1 (.a 36 4)), J 38 (.load true 3 (.t 5)), J 39 (.rf (.t 2)), J 40 (.faddr 2 (.t 9)), J 41 (.load false 1 (.a 40 9)), J 42 (.mv (.p 10)), J 43 (.call n_spec_fStays [.a 38 5, .a 39 2, .a 41 9, .t 42]), J 44 (.bin .sub (.a 37 4) (.t 43)), J 13 (.asg (.p 44))])
 (.seq (.seq (.reg [J 45 (.rf (.t 2)), J 46 (.len (.a 45 2)), J 47 (.mv (.c (.int .i64 0)))])
 (.block 0 (.loop [2, 5, 9, 10, 11, 12, 13, 45, 46, 47] [8, 11, 12, 13] b_spec_fReason_0)))
 (.seq (.block 2 (.seq (.reg [J 99 (.mv (.p 11)), J 98 (.asg (.p 99))])
 (.cond (.t 98) (.seq (.reg [J 8 (.asg (.c (.int .i64 2)))])
 .ret) (.seq (.reg [J 101 (.mv (.p 12)), J 100 (.asg (.p 101))])
 (.cond (.t 100) (.seq (.reg [J 8 (.asg (.c (.int .i64 3)))])
 .ret) (.seq (.reg [J 103 (.mv (.p 13)), J 104 (.bin .leq (.t 103) (.c (.int .i64 0))), J 102 (.asg (.p 104))])
 (.cond (.t 102) (.seq (.reg [J 8 (.asg (.c (.int .i64 4)))])
 .ret) .skip)))))))
 (.seq (.reg [J 8 (.asg (.c (.int .i64 0)))])
 .ret)))))))))⟩
/-- laws.toTerrain -/
def a_laws_toTerrain : AFn := ⟨1, 21, [.cell 2 5 true], (.seq (.reg [J 1 (.box (.t 0)), J 2 (.alloc [.str ⟨#[]⟩, .list true 1 [], .int .i64 0, .int .i64 0, .bool false])])
 (.seq (.reg [J 3 (.alloc [.str ⟨#[]⟩, .list true 1 [], .int .i64 0, .int .i64 0, .bool false])])
 (.seq (.reg [J 4 (.faddr 0 (.t 1)), J 5 (.load false 1 (.a 4 1)), J 6 (.faddr 0 (.t 3)), ⟨none, none, .store 1 (.a 6 3) (.p 5)⟩])
 (.seq (.reg [J 7 (.faddr 1 (.t 1)), J 8 (.load false 1 (.a 7 1)), J 9 (.call n_laws_toIntS [.a 8 1]), J 10 (.faddr 1 (.t 3)), ⟨none, none, .store 1 (.a 10 3) (.t 9)⟩])
 (.seq (.reg [J 11 (.faddr 2 (.t 1)), J 12 (.load false 1 (.a 11 1)), J 13 (.faddr 2 (.t 3)), ⟨none, none, .store 1 (.a 13 3) (.p 12)⟩])
 (.seq (.reg [J 14 (.faddr 3 (.t 1)), J 15 (.load false 1 (.a 14 1)), J 16 (.faddr 3 (.t 3)), ⟨none, none, .store 1 (.a 16 3) (.p 15)⟩])
 (.seq (.reg [J 17 (.faddr 4 (.t 1)), J 18 (.load false 1 (.a 17 1)), J 19 (.faddr 4 (.t 3)), ⟨none, none, .store 1 (.a 19 3) (.p 18)⟩])
 (.seq (.reg [J 20 (.load true 5 (.t 3)), ⟨none, none, .store 5 (.t 2) (.a 20 3)⟩])
 .ret))))))))⟩
/-- laws.toKind -/
def a_laws_toKind : AFn := ⟨1, 23, [.cell 2 6 true], (.seq (.reg [J 1 (.box (.t 0)), J 2 (.alloc [.str ⟨#[]⟩, .int .i64 0, .int .i64 0, .int .i64 0, .bool false, .int .i64 0])])
 (.seq (.reg [J 3 (.alloc [.str ⟨#[]⟩, .int .i64 0, .int .i64 0, .int .i64 0, .bool false, .int .i64 0])])
 (.seq (.reg [J 4 (.faddr 0 (.t 1)), J 5 (.load false 1 (.a 4 1)), J 6 (.faddr 0 (.t 3)), ⟨none, none, .store 1 (.a 6 3) (.p 5)⟩])
 (.seq (.reg [J 7 (.faddr 1 (.t 1)), J 8 (.load false 1 (.a 7 1)), J 9 (.faddr 1 (.t 3)), ⟨none, none, .store 1 (.a 9 3) (.p 8)⟩])
 (.seq (.reg [J 10 (.faddr 2 (.t 1)), J 11 (.load false 1 (.a 10 1)), J 12 (.faddr 2 (.t 3)), ⟨none, none, .store 1 (.a 12 3) (.p 11)⟩])
 (.seq (.reg [J 13 (.faddr 3 (.t 1)), J 14 (.load false 1 (.a 13 1)), J 15 (.faddr 3 (.t 3)), ⟨none, none, .store 1 (.a 15 3) (.p 14)⟩])
 (.seq (.reg [J 16 (.faddr 4 (.t 1)), J 17 (.load false 1 (.a 16 1)), J 18 (.faddr 4 (.t 3)), ⟨none, none, .store 1 (.a 18 3) (.p 17)⟩])
 (.seq (.reg [J 19 (.faddr 5 (.t 1)), J 20 (.load false 1 (.a 19 1)), J 21 (.faddr 5 (.t 3)), ⟨none, none, .store 1 (.a 21 3) (.p 20)⟩])
 (.seq (.reg [J 22 (.load true 6 (.t 3)), ⟨none, none, .store 6 (.t 2) (.a 22 3)⟩])
 .ret)))))))))⟩
/-- impl.IsBoard -/
def a_impl_IsBoard : AFn := ⟨1, 19, [.tmp 2], (.seq (.reg [J 1 (.box (.t 0)), J 2 (.asg (.c (.bool false)))])
 (.seq (.seq (.reg [J 3 (.faddr 0 (.t 1)), J 4 (.load true 7 (.a 3 1)), J 5 (.call n_impl_IsRules [.a 4 1]), J 6 (.un .not (.t 5)), J 7 (.mv (.p 6)), ⟨some 8, some (7, false), .faddr 7 (.t 1)⟩, ⟨some 9, some (7, false), .load true 5 (.a 8 1)⟩, ⟨some 10, some (7, false), .call n_impl_IsMap [.a 9 1]⟩, ⟨some 11, some (7, false), .un .not (.t 10)⟩, J 12 (.pick (.t 7) (.c (.bool true)) (.t 11))])
 (.cond (.t 12) (.seq (.reg [J 2 (.asg (.c (.bool false)))])
 .ret) .skip))
 (.seq (.reg [J 13 (.faddr 7 (.t 1)), J 14 (.faddr 2 (.a 13 1)), J 15 (.load false 1 (.a 14 1)), J 16 (.mkf n_impl_IsBoard_1 [.t 1]), J 17 (.call n_slices_ContainsFunc_int_int [.a 15 1, .t 16]), J 18 (.un .not (.t 17)), J 2 (.asg (.p 18))])
 .ret)))⟩
def b_impl_goodState_0 : AC := (.seq (.reg [J 34 (.bin .lss (.t 33) (.t 32))])
 (.seq (.cond (.t 34) .skip (.exit 0))
 (.seq (.block 1 (.seq (.reg [J 35 (.iaddr 4 (.a 31 3) (.t 33)), J 36 (.load true 4 (.a 35 3)), J 7 (.alloc [.int .i64 0, .int .i64 0, .int .i64 0, .int .i64 0]), ⟨none, none, .store 4 (.t 7) (.a 36 3)⟩])
 (.seq (.seq (.reg [J 37 (.load true 12 (.t 2)), J 38 (.load true 4 (.t 7)), J 39 (.call n_impl_goodUnit [.a 37 2, .a 38 7]), J 40 (.un .not (.t 39))])
 (.cond (.t 40) (.seq (.reg [J 4 (.asg (.c (.bool false)))])
 .ret) .skip))
 (.seq (.seq (.reg [J 41 (.faddr 2 (.t 7)), J 42 (.load false 1 (.a 41 7)), J 43 (.bin .lss (.a 42 7) (.c (.int .i64 0)))])
 (.cond (.t 43) (.exit 1) .skip))
 (.seq (.reg [J 44 (.rf (.t 5)), J 45 (.faddr 2 (.t 7)), J 46 (.load false 1 (.a 45 7)), J 47 (.faddr 0 (.t 7)), J 48 (.load false 1 (.a 47 7)), J 49 (.iaddr 2 (.a 44 5) (.a 46 7)), J 50 (.aaddr 2 1 (.a 49 5) (.a 48 7)), J 51 (.load false 1 (.a 50 5)), J 52 (.bin .add (.a 51 5) (.c (.int .i64 1))), J 53 (.iaddr 2 (.a 44 5) (.a 46 7)), J 54 (.aaddr 2 1 (.a 53 5) (.a 48 7)), ⟨none, none, .store 1 (.a 54 5) (.p 52)⟩])
 (.seq (.reg [J 55 (.rf (.t 5)), J 56 (.faddr 2 (.t 7)), J 57 (.load false 1 (.a 56 7)), J 58 (.faddr 0 (.t 7)), J 59 (.load false 1 (.a 58 7)), J 60 (.bin .sub (.c (.int .i64 1)) (.a 59 7)), J 61 (.iaddr 2 (.a 55 5) (.a 57 7)), J 62 (.aaddr 2 1 (.a 61 5) (.t 60)), J 63 (.load false 1 (.a 62 5)), J 64 (.bin .gtr (.a 63 5) (.c (.int .i64 0))), J 65 (.mv (.p 64)), ⟨some 66, some (65, false), .rf (.t 5)⟩, ⟨some 67, some (65, false), .faddr 2 (.t 7)⟩, ⟨some 68, some (65, false), .load false 1 (.a 67 7)⟩, ⟨some 69, some (65, false), .faddr 0 (.t 7)⟩, ⟨some 70, some (65, false), .load false 1 (.a 69 7)⟩, ⟨some 71, some (65, false), .iaddr 2 (.a 66 5) (.a 68 7)⟩, ⟨some 72, some (65, false), .aaddr 2 1 (.a 71 5) (.a 70 7)⟩, ⟨some 73, some (65, false), .load false 1 (.a 72 5)⟩, ⟨some 74, some (65, false), .faddr 0 (.t 2)⟩, ⟨some 75, some (65, false), .faddr 2 (.a 74 2)⟩, ⟨some 76, some (65, false), .load false 1 (.a 75 2)⟩, ⟨some 77, some (65, false), .bin .gtr (.a 73 5) (.a 76 2)⟩, J 78 (.pick (.t 65) (.c (.bool true)) (.t 77))])
 (.cond (.t 78) (.seq (.reg [J 4 (.asg (.c (.bool false)))])
 .ret) .skip)))))))
 (.reg [J 79 (.bin .add (.t 33) (.c (.int .i64 1))), J 33 (.mv (.p 79))]))))
/-- impl.goodState -/
def a_impl_goodState : AFn := ⟨2, 80, [.tmp 4], (.seq (.reg [J 2 (.box (.t 0)), J 3 (.box (.t 1)), J 4 (.asg (.c (.bool false)))])
 (.seq (.seq (.reg [J 8 (.faddr 0 (.t 3)), J 9 (.load false 1 (.a 8 3)), J 10 (.faddr 0 (.t 2)), J 11 (.faddr 6 (.a 10 2)), J 12 (.load false 1 (.a 11 2)), J 13 (.call n_impl_inRange [.a 9 3, .c (.int .i64 0), .a 12 2]), J 14 (.un .not (.t 13)), J 15 (.mv (.p 14)), ⟨some 16, some (15, false), .faddr 1 (.t 3)⟩, ⟨some 17, some (15, false), .load false 1 (.a 16 3)⟩, ⟨some 18, some (15, false), .call n_impl_inRange [.a 17 3, .c (.int .i64 0), .c (.int .i64 2)]⟩, ⟨some 19, some (15, false), .un .not (.t 18)⟩, J 20 (.pick (.t 15) (.c (.bool true)) (.t 19)), J 21 (.mv (.p 20)), ⟨some 22, some (21, false), .faddr 2 (.t 3)⟩, ⟨some 23, some (21, false), .load false 1 (.a 22 3)⟩, ⟨some 24, some (21, false), .len (.a 23 3)⟩, ⟨some 25, some (21, false), .bin .gtr (.t 24) (.c (.int .i64 12))⟩, J 26 (.pick (.t 21) (.c (.bool true)) (.t 25))])
 (.cond (.t 26) (.seq (.reg [J 4 (.asg (.c (.bool false)))])
 .ret) .skip))
 (.seq (.reg [J 27 (.load true 12 (.t 2)), J 28 (.call n_impl_sizeOf [.a 27 2]), J 29 (.mslice 2 [.int .i64 0, .int .i64 0] (.t 28)), J 5 (.asg (.t 29))])
 (.seq (.seq (.reg [J 30 (.faddr 2 (.t 3)), J 31 (.load false 1 (.a 30 3)), J 32 (.len (.a 31 3)), J 33 (.mv (.c (.int .i64 0)))])
 (.block 0 (.loop [2, 3, 5, 31, 32, 33] [4] b_impl_goodState_0)))
 (.seq (.reg [J 4 (.asg (.c (.bool true)))])
 .ret)))))⟩
/-- impl.isSide -/
def a_impl_isSide : AFn := ⟨1, 5, [.tmp 2], (.seq (.reg [J 2 (.asg (.c (.bool false)))])
 (.seq (.reg [J 3 (.mv (.p 0)), J 4 (.call n_impl_inRange [.t 3, .c (.int .i64 0), .c (.int .i64 1)]), J 2 (.asg (.p 4))])
 .ret))⟩
def b_impl_sheetFault_0 : AC := (.seq (.reg [J 15 (.bin .lss (.t 14) (.t 13))])
 (.seq (.cond (.t 15) .skip (.exit 0))
 (.seq (.block 1 (.seq (.reg [J 16 (.mv (.p 14)), J 17 (.iaddr 3 (.a 12 5) (.t 14)), J 18 (.load true 3 (.a 17 5)), J 9 (.alloc [.int .i64 0, .list true 1 [], .int .i64 0]), J 8 (.asg (.p 16)), ⟨none, none, .store 3 (.t 9) (.a 18 5)⟩])
 (.seq (.reg [J 19 (.load true 12 (.t 3)), J 20 (.load true 3 (.t 4)), J 21 (.faddr 0 (.t 5)), J 22 (.load false 1 (.a 21 5)), J 23 (.load true 3 (.t 9)), J 24 (.call n_impl_orderFault [.a 19 3, .a 20 4, .a 22 5, .a 23 9]), J 10 (.asg (.p 24))])
 (.seq (.seq (.reg [J 25 (.mv (.p 10)), J 26 (.bin .neq (.t 25) (.c (.int .i64 1))), J 27 (.mv (.p 26)), ⟨some 28, some (27, true), .mv (.p 8)⟩, ⟨some 29, some (27, true), .bin .gtr (.t 28) (.c (.int .i64 0))⟩, J 30 (.pick (.t 27) (.t 29) (.c (.bool false))), J 31 (.mv (.p 30)), ⟨some 32, some (31, true), .faddr 0 (.t 9)⟩, ⟨some 33, some (31, true), .load false 1 (.a 32 9)⟩, ⟨some 34, some (31, true), .faddr 1 (.t 5)⟩, ⟨some 35, some (31, true), .load false 1 (.a 34 5)⟩, ⟨some 36, some (31, true), .mv (.p 8)⟩, ⟨some 37, some (31, true), .bin .sub (.t 36) (.c (.int .i64 1))⟩, ⟨some 38, some (31, true), .iaddr 3 (.a 35 5) (.t 37)⟩, ⟨some 39, some (31, true), .faddr 0 (.a 38 5)⟩, ⟨some 40, some (31, true), .load false 1 (.a 39 5)⟩, ⟨some 41, some (31, true), .bin .leq (.a 33 9) (.a 40 5)⟩, J 42 (.pick (.t 31) (.t 41) (.c (.bool false)))])
 (.cond (.t 42) (.reg [J 10 (.asg (.c (.int .i64 2)))]) .skip))
 (.seq (.reg [J 43 (.mv (.p 10)), J 44 (.bin .neq (.t 43) (.c (.int .i64 0)))])
 (.cond (.t 44) (.seq (.reg [J 45 (.mv (.p 8)), J 46 (.mv (.p 10)), J 6 (.asg (.p 45)), J 7 (.asg (.p 46))])
 .ret) .skip))))))
 (.reg [J 47 (.bin .add (.t 14) (.c (.int .i64 1))), J 14 (.mv (.p 47))]))))
/-- impl.sheetFault -/
def a_impl_sheetFault : AFn := ⟨3, 51, [.tmp 6, .tmp 7], (.seq (.reg [J 3 (.box (.t 0)), J 4 (.box (.t 1)), J 5 (.box (.t 2)), J 6 (.asg (.c (.int .i64 0))), J 7 (.asg (.c (.int .i64 0)))])
 (.seq (.seq (.reg [J 11 (.faddr 1 (.t 5)), J 12 (.load false 1 (.a 11 5)), J 13 (.len (.a 12 5)), J 14 (.mv (.c (.int .i64 0)))])
 (.block 0 (.loop [3, 4, 5, 12, 13, 14] [5, 6, 7] b_impl_sheetFault_0)))
 (.seq (.reg [J 48 (.faddr 1 (.t 5)), J 49 (.load false 1 (.a 48 5)), J 50 (.len (.a 49 5)), J 6 (.asg (.p 50)), J 7 (.asg (.c (.int .i64 0)))])
 .ret)))⟩
/-- slices.Clone[[]impl.Unit,impl.Unit] -/
def a_slices_Clone_impl_Unit_impl_Unit : AFn := ⟨1, 8, [.tmp 2], (.seq (.reg [J 2 (.asg (.c (.list true 4 [])))])
 (.seq (.seq (.reg [J 3 (.rf (.t 0)), J 4 (.isnil (.a 3 0))])
 (.condn 4 (.seq (.reg [J 2 (.asg (.c (.list true 4 [])))])
 .ret) .skip))
 (.seq (.reg [J 5 (.bslice 4 0 [.int .i64 0, .int .i64 0, .int .i64 0, .int .i64 0] []), J 6 (.rf (.t 0)), J 7 (.append 4 (.t 5) (.p 6)), J 2 (.asg (.t 7))])
 .ret)))⟩
/-- impl.inRange -/
def a_impl_inRange : AFn := ⟨3, 15, [.tmp 6], (.seq (.reg [J 6 (.asg (.c (.bool false)))])
 (.seq (.reg [J 7 (.mv (.p 1)), J 8 (.mv (.p 0)), J 9 (.bin .leq (.t 7) (.t 8)), J 10 (.mv (.p 9)), ⟨some 11, some (10, true), .mv (.p 0)⟩, ⟨some 12, some (10, true), .mv (.p 2)⟩, ⟨some 13, some (10, true), .bin .leq (.t 11) (.t 12)⟩, J 14 (.pick (.t 10) (.t 13) (.c (.bool false))), J 6 (.asg (.p 14))])
 .ret))⟩
/-- impl.stepCost -/
def a_impl_stepCost : AFn := ⟨5, 62, [.tmp 10], (.seq (.reg [J 5 (.box (.t 0)), J 10 (.asg (.c (.int .i64 0)))])
 (.seq (.reg [J 14 (.faddr 7 (.t 5)), J 15 (.load true 5 (.a 14 5)), J 16 (.mv (.p 3)), J 17 (.mv (.p 4)), J 18 (.call n_impl_nextTo [.a 15 5, .t 16, .t 17]), J 11 (.asg (.p 18))])
 (.seq (.seq (.reg [J 19 (.mv (.p 11)), J 20 (.bin .lss (.t 19) (.c (.int .i64 0))), J 21 (.mv (.p 20)), ⟨some 22, some (21, false), .load true 12 (.t 5)⟩, ⟨some 23, some (21, false), .mv (.p 1)⟩, ⟨some 24, some (21, false), .mv (.p 11)⟩, ⟨some 25, some (21, false), .call n_impl_enterCost [.a 22 5, .t 23, .t 24]⟩, ⟨some 26, some (21, false), .bin .eql (.t 25) (.c (.int .i64 0))⟩, J 27 (.pick (.t 21) (.c (.bool true)) (.t 26))])
 (.cond (.t 27) (.seq (.reg [J 10 (.asg (.c (.int .i64 0)))])
 .ret) .skip))
 (.seq (.reg [J 28 (.faddr 7 (.t 5)), J 29 (.load true 5 (.a 28 5)), J 30 (.mv (.p 3)), J 31 (.mv (.p 4)), J 32 (.call n_impl_edgeOf [.a 29 5, .t 30, .t 31]), J 12 (.asg (.p 32))])
 (.seq (.seq (.reg [J 33 (.faddr 7 (.t 5)), J 34 (.faddr 4 (.a 33 5)), J 35 (.load false 1 (.a 34 5)), J 36 (.mv (.p 12)), J 37 (.call n_slices_Contains_int_int [.a 35 5, .t 36])])
 (.cond (.t 37) (.seq (.reg [J 38 (.faddr 0 (.t 5)), J 39 (.faddr 4 (.a 38 5)), J 40 (.load false 1 (.a 39 5)), J 41 (.mv (.p 2)), J 42 (.call n_impl_weatherCost [.t 41, .c (.bool true)]), J 43 (.bin .add (.a 40 5) (.t 42)), J 10 (.asg (.p 43))])
 .ret) .skip))
 (.seq (.reg [J 44 (.load true 12 (.t 5)), J 45 (.mv (.p 1)), J 46 (.mv (.p 11)), J 47 (.call n_impl_enterCost [.a 44 5, .t 45, .t 46]), J 48 (.mv (.p 2)), J 49 (.call n_impl_weatherCost [.t 48, .c (.bool false)]), J 50 (.bin .add (.t 47) (.t 49)), J 13 (.asg (.p 50))])
 (.seq (.seq (.reg [J 51 (.faddr 7 (.t 5)), J 52 (.faddr 3 (.a 51 5)), J 53 (.load false 1 (.a 52 5)), J 54 (.mv (.p 12)), J 55 (.call n_slices_Contains_int_int [.a 53 5, .t 54])])
 (.cond (.t 55) (.reg [J 56 (.mv (.p 13)), J 57 (.faddr 0 (.t 5)), J 58 (.faddr 3 (.a 57 5)), J 59 (.load false 1 (.a 58 5)), J 60 (.bin .add (.t 56) (.a 59 5)), J 13 (.asg (.p 60))]) .skip))
 (.seq (.reg [J 61 (.mv (.p 13)), J 10 (.asg (.p 61))])
 .ret))))))))⟩
/-- impl.nextTo -/
def a_impl_nextTo : AFn := ⟨3, 14, [.tmp 6], (.seq (.reg [J 3 (.box (.t 0)), J 6 (.asg (.c (.int .i64 0)))])
 (.seq (.reg [J 7 (.load true 5 (.t 3)), J 8 (.load true 5 (.t 3)), J 9 (.mv (.p 1)), J 10 (.call n_impl_hexOf [.a 8 3, .t 9]), J 11 (.mv (.p 2)), J 12 (.call n_impl_stepBy [.t 10, .t 11, .c (.int .i64 1)]), J 13 (.call n_impl_indexOf [.a 7 3, .t 12]), J 6 (.asg (.p 13))])
 .ret))⟩
/-- impl.zoneReason -/
def a_impl_zoneReason : AFn := ⟨5, 31, [.tmp 10], (.seq (.reg [J 5 (.box (.t 0)), J 6 (.box (.t 1)), J 7 (.box (.t 2)), J 10 (.asg (.c (.int .i64 0)))])
 (.seq (.reg [J 12 (.faddr 0 (.t 7)), J 13 (.load false 1 (.a 12 7)), J 14 (.bin .sub (.c (.int .i64 1)) (.a 13 7)), J 11 (.asg (.p 14))])
 (.seq (.seq (.reg [J 15 (.load true 12 (.t 5)), J 16 (.load true 3 (.t 6)), J 17 (.mv (.p 11)), J 18 (.faddr 2 (.t 7)), J 19 (.load false 1 (.a 18 7)), J 20 (.call n_impl_inZone [.a 15 5, .a 16 6, .t 17, .a 19 7]), J 21 (.mv (.p 20)), ⟨some 22, some (21, true), .mv (.p 4)⟩, ⟨some 23, some (21, true), .mv (.p 22)⟩, ⟨some 24, some (23, false), .load true 12 (.t 5)⟩, ⟨some 25, some (23, false), .load true 3 (.t 6)⟩, ⟨some 26, some (23, false), .mv (.p 11)⟩, ⟨some 27, some (23, false), .mv (.p 3)⟩, ⟨some 28, some (23, false), .call n_impl_inZone [.a 24 5, .a 25 6, .t 26, .t 27]⟩, ⟨some 29, some (21, true), .pick (.t 23) (.c (.bool true)) (.t 28)⟩, J 30 (.pick (.t 21) (.t 29) (.c (.bool false)))])
 (.cond (.t 30) (.seq (.reg [J 10 (.asg (.c (.int .i64 5)))])
 .ret) .skip))
 (.seq (.reg [J 10 (.asg (.c (.int .i64 0)))])
 .ret))))⟩
/-- slices.Clone[[]impl.Attempt,impl.Attempt] -/
def a_slices_Clone_impl_Attempt_impl_Attempt : AFn := ⟨1, 8, [.tmp 2], (.seq (.reg [J 2 (.asg (.c (.list true 3 [])))])
 (.seq (.seq (.reg [J 3 (.rf (.t 0)), J 4 (.isnil (.a 3 0))])
 (.condn 4 (.seq (.reg [J 2 (.asg (.c (.list true 3 [])))])
 .ret) .skip))
 (.seq (.reg [J 5 (.bslice 3 0 [.int .i64 0, .int .i64 0, .int .i64 0] []), J 6 (.rf (.t 0)), J 7 (.append 3 (.t 5) (.p 6)), J 2 (.asg (.t 7))])
 .ret)))⟩
def b_impl_attemptReason_0 : AC := (.seq (.reg [J 36 (.bin .lss (.t 35) (.t 34))])
 (.seq (.cond (.t 36) .skip (.exit 0))
 (.seq (.block 1 (.seq (.reg [J 37 (.iaddr 1 (.t 33) (.t 35)), J 38 (.load false 1 (.a 37 33)), J 13 (.asg (.p 38))])
 (.seq (.seq (.reg [J 39 (.rf (.t 2)), J 40 (.mv (.p 13)), J 41 (.call n_impl_leaves [.a 39 2, .t 40])])
 (.cond (.t 41) (.exit 1) .skip))
 (.seq (.seq (.reg [J 42 (.faddr 2 (.t 5)), J 43 (.load false 1 (.a 42 5)), J 44 (.mv (.p 13)), J 45 (.iaddr 4 (.a 43 5) (.t 44)), J 46 (.faddr 0 (.a 45 5)), J 47 (.load false 1 (.a 46 5)), J 48 (.mv (.p 10)), J 49 (.bin .neq (.a 47 5) (.t 48))])
 (.cond (.t 49) (.seq (.reg [J 8 (.asg (.c (.int .i64 1)))])
 .ret) .skip))
 (.reg [J 50 (.mv (.p 11)), J 51 (.bin .add (.t 50) (.c (.int .i64 1))), J 11 (.asg (.p 51))])))))
 (.reg [J 52 (.bin .add (.t 35) (.c (.int .i64 1))), J 35 (.mv (.p 52))]))))
def b_impl_attemptReason_1 : AC := (.seq (.reg [J 56 (.bin .lss (.t 55) (.t 54))])
 (.seq (.cond (.t 56) .skip (.exit 2))
 (.seq (.block 3 (.seq (.reg [J 57 (.iaddr 3 (.a 53 2) (.t 55)), J 58 (.load true 3 (.a 57 2)), J 17 (.alloc [.int .i64 0, .int .i64 0, .int .i64 0]), ⟨none, none, .store 3 (.t 17) (.a 58 2)⟩])
 (.seq (.reg [J 59 (.faddr 2 (.t 5)), J 60 (.load false 1 (.a 59 5)), J 61 (.faddr 0 (.t 17)), J 62 (.load false 1 (.a 61 17)), J 63 (.iaddr 4 (.a 60 5) (.a 62 17)), J 64 (.faddr 0 (.a 63 5)), J 65 (.load false 1 (.a 64 5)), J 66 (.mv (.p 10)), J 67 (.bin .neq (.a 65 5) (.t 66)), J 18 (.asg (.p 67))])
 (.seq (.reg [J 68 (.mv (.p 14)), J 69 (.mv (.p 68)), ⟨some 70, some (69, false), .mv (.p 18)⟩, ⟨some 71, some (69, false), .mv (.p 70)⟩, ⟨some 72, some (71, true), .faddr 1 (.t 17)⟩, ⟨some 73, some (71, true), .load false 1 (.a 72 17)⟩, ⟨some 74, some (71, true), .faddr 2 (.t 9)⟩, ⟨some 75, some (71, true), .load false 1 (.a 74 9)⟩, ⟨some 76, some (71, true), .bin .eql (.a 73 17) (.a 75 9)⟩, ⟨some 77, some (69, false), .pick (.t 71) (.t 76) (.c (.bool false))⟩, ⟨some 78, some (69, false), .mv (.p 77)⟩, ⟨some 79, some (78, true), .faddr 2 (.t 17)⟩, ⟨some 80, some (78, true), .load false 1 (.a 79 17)⟩, ⟨some 81, some (78, true), .faddr 1 (.t 9)⟩, ⟨some 82, some (78, true), .load false 1 (.a 81 9)⟩, ⟨some 83, some (78, true), .bin .eql (.a 80 17) (.a 82 9)⟩, ⟨some 84, some (69, false), .pick (.t 78) (.t 83) (.c (.bool false))⟩, J 85 (.pick (.t 69) (.c (.bool true)) (.t 84)), J 14 (.asg (.p 85))])
 (.seq (.reg [J 86 (.mv (.p 15)), J 87 (.mv (.p 86)), ⟨some 88, some (87, false), .mv (.p 18)⟩, ⟨some 89, some (87, false), .mv (.p 88)⟩, ⟨some 90, some (89, true), .faddr 2 (.t 17)⟩, ⟨some 91, some (89, true), .load false 1 (.a 90 17)⟩, ⟨some 92, some (89, true), .faddr 2 (.t 9)⟩, ⟨some 93, some (89, true), .load false 1 (.a 92 9)⟩, ⟨some 94, some (89, true), .bin .eql (.a 91 17) (.a 93 9)⟩, ⟨some 95, some (87, false), .pick (.t 89) (.t 94) (.c (.bool false))⟩, J 96 (.pick (.t 87) (.c (.bool true)) (.t 95)), J 15 (.asg (.p 96))])
 (.seq (.reg [J 97 (.mv (.p 18)), J 98 (.un .not (.t 97)), J 99 (.mv (.p 98)), ⟨some 100, some (99, true), .faddr 2 (.t 17)⟩, ⟨some 101, some (99, true), .load false 1 (.a 100 17)⟩, ⟨some 102, some (99, true), .faddr 2 (.t 9)⟩, ⟨some 103, some (99, true), .load false 1 (.a 102 9)⟩, ⟨some 104, some (99, true), .bin .eql (.a 101 17) (.a 103 9)⟩, J 105 (.pick (.t 99) (.t 104) (.c (.bool false))), J 106 (.mv (.p 105)), ⟨some 107, some (106, true), .faddr 0 (.t 17)⟩, ⟨some 108, some (106, true), .load false 1 (.a 107 17)⟩, ⟨some 109, some (106, true), .faddr 0 (.t 9)⟩, ⟨some 110, some (106, true), .load false 1 (.a 109 9)⟩, ⟨some 111, some (106, true), .bin .lss (.a 108 17) (.a 110 9)⟩, J 112 (.pick (.t 106) (.t 111) (.c (.bool false)))])
 (.cond (.t 112) (.reg [J 113 (.mv (.p 11)), J 114 (.bin .add (.t 113) (.c (.int .i64 1))), J 11 (.asg (.p 114))]) .skip)))))))
 (.reg [J 115 (.bin .add (.t 55) (.c (.int .i64 1))), J 55 (.mv (.p 115))]))))
/-- impl.attemptReason -/
def a_impl_attemptReason : AFn := ⟨4, 126, [.tmp 8], (.seq (.reg [J 4 (.box (.t 0)), J 5 (.box (.t 1)), J 8 (.asg (.c (.int .i64 0)))])
 (.seq (.reg [J 19 (.rf (.t 2)), J 20 (.mv (.p 3)), J 21 (.iaddr 3 (.a 19 2) (.t 20)), J 22 (.load true 3 (.a 21 2)), J 9 (.alloc [.int .i64 0, .int .i64 0, .int .i64 0]), ⟨none, none, .store 3 (.t 9) (.a 22 2)⟩])
 (.seq (.reg [J 23 (.faddr 2 (.t 5)), J 24 (.load false 1 (.a 23 5)), J 25 (.faddr 0 (.t 9)), J 26 (.load false 1 (.a 25 9)), J 27 (.iaddr 4 (.a 24 5) (.a 26 9)), J 28 (.faddr 0 (.a 27 5)), J 29 (.load false 1 (.a 28 5)), J 10 (.asg (.p 29)), J 11 (.asg (.c (.int .i64 0)))])
 (.seq (.seq (.reg [J 30 (.load true 3 (.t 5)), J 31 (.faddr 2 (.t 9)), J 32 (.load false 1 (.a 31 9)), J 33 (.call n_impl_unitsAt [.a 30 5, .a 32 9]), J 34 (.len (.t 33)), J 35 (.mv (.c (.int .i64 0)))])
 (.block 0 (.loop [2, 4, 5, 9, 10, 11, 33, 34, 35] [2, 4, 5, 8, 9, 10, 11] b_impl_attemptReason_0)))
 (.seq (.reg [J 14 (.asg (.c (.bool false))), J 15 (.asg (.c (.bool false)))])
 (.seq (.seq (.reg [J 53 (.rf (.t 2)), J 54 (.len (.a 53 2)), J 55 (.mv (.c (.int .i64 0)))])
 (.block 2 (.loop [2, 4, 5, 9, 10, 11, 14, 15, 53, 54, 55] [4, 8, 11, 14, 15] b_impl_attemptReason_1)))
 (.seq (.block 4 (.seq (.reg [J 117 (.mv (.p 14)), J 116 (.asg (.p 117))])
 (.cond (.t 116) (.seq (.reg [J 8 (.asg (.c (.int .i64 2)))])
 .ret) (.seq (.reg [J 119 (.mv (.p 15)), J 118 (.asg (.p 119))])
 (.cond (.t 118) (.seq (.reg [J 8 (.asg (.c (.int .i64 3)))])
 .ret) (.seq (.reg [J 121 (.mv (.p 11)), J 122 (.faddr 0 (.t 4)), J 123 (.faddr 2 (.a 122 4)), J 124 (.load false 1 (.a 123 4)), J 125 (.bin .geq (.t 121) (.a 124 4)), J 120 (.asg (.p 125))])
 (.cond (.t 120) (.seq (.reg [J 8 (.asg (.c (.int .i64 4)))])
 .ret) .skip)))))))
 (.seq (.reg [J 8 (.asg (.c (.int .i64 0)))])
 .ret))))))))⟩
/-- laws.eqTerrain -/
def a_laws_eqTerrain : AFn := ⟨2, 31, [.tmp 4], (.seq (.reg [J 2 (.box (.t 0)), J 3 (.box (.t 1)), J 4 (.asg (.c (.bool false)))])
 (.seq (.seq (.reg [J 5 (.faddr 0 (.t 2)), J 6 (.load false 1 (.a 5 2)), J 7 (.faddr 0 (.t 3)), J 8 (.load false 1 (.a 7 3)), J 9 (.bin .neq (.a 6 2) (.a 8 3))])
 (.cond (.t 9) (.seq (.reg [J 4 (.asg (.c (.bool false)))])
 .ret) .skip))
 (.seq (.seq (.reg [J 10 (.faddr 1 (.t 2)), J 11 (.load false 1 (.a 10 2)), J 12 (.faddr 1 (.t 3)), J 13 (.load false 1 (.a 12 3)), J 14 (.call n_laws_eqIntS [.a 11 2, .a 13 3]), J 15 (.un .not (.t 14))])
 (.cond (.t 15) (.seq (.reg [J 4 (.asg (.c (.bool false)))])
 .ret) .skip))
 (.seq (.seq (.reg [J 16 (.faddr 2 (.t 2)), J 17 (.load false 1 (.a 16 2)), J 18 (.faddr 2 (.t 3)), J 19 (.load false 1 (.a 18 3)), J 20 (.bin .neq (.a 17 2) (.a 19 3))])
 (.cond (.t 20) (.seq (.reg [J 4 (.asg (.c (.bool false)))])
 .ret) .skip))
 (.seq (.seq (.reg [J 21 (.faddr 3 (.t 2)), J 22 (.load false 1 (.a 21 2)), J 23 (.faddr 3 (.t 3)), J 24 (.load false 1 (.a 23 3)), J 25 (.bin .neq (.a 22 2) (.a 24 3))])
 (.cond (.t 25) (.seq (.reg [J 4 (.asg (.c (.bool false)))])
 .ret) .skip))
 (.seq (.seq (.reg [J 26 (.faddr 4 (.t 2)), J 27 (.load false 1 (.a 26 2)), J 28 (.faddr 4 (.t 3)), J 29 (.load false 1 (.a 28 3)), J 30 (.beq true (.a 27 2) (.a 29 3))])
 (.cond (.t 30) (.seq (.reg [J 4 (.asg (.c (.bool false)))])
 .ret) .skip))
 (.seq (.reg [J 4 (.asg (.c (.bool true)))])
 .ret)))))))⟩
/-- laws.eqKind -/
def a_laws_eqKind : AFn := ⟨2, 35, [.tmp 4], (.seq (.reg [J 2 (.box (.t 0)), J 3 (.box (.t 1)), J 4 (.asg (.c (.bool false)))])
 (.seq (.seq (.reg [J 5 (.faddr 0 (.t 2)), J 6 (.load false 1 (.a 5 2)), J 7 (.faddr 0 (.t 3)), J 8 (.load false 1 (.a 7 3)), J 9 (.bin .neq (.a 6 2) (.a 8 3))])
 (.cond (.t 9) (.seq (.reg [J 4 (.asg (.c (.bool false)))])
 .ret) .skip))
 (.seq (.seq (.reg [J 10 (.faddr 1 (.t 2)), J 11 (.load false 1 (.a 10 2)), J 12 (.faddr 1 (.t 3)), J 13 (.load false 1 (.a 12 3)), J 14 (.bin .neq (.a 11 2) (.a 13 3))])
 (.cond (.t 14) (.seq (.reg [J 4 (.asg (.c (.bool false)))])
 .ret) .skip))
 (.seq (.seq (.reg [J 15 (.faddr 2 (.t 2)), J 16 (.load false 1 (.a 15 2)), J 17 (.faddr 2 (.t 3)), J 18 (.load false 1 (.a 17 3)), J 19 (.bin .neq (.a 16 2) (.a 18 3))])
 (.cond (.t 19) (.seq (.reg [J 4 (.asg (.c (.bool false)))])
 .ret) .skip))
 (.seq (.seq (.reg [J 20 (.faddr 3 (.t 2)), J 21 (.load false 1 (.a 20 2)), J 22 (.faddr 3 (.t 3)), J 23 (.load false 1 (.a 22 3)), J 24 (.bin .neq (.a 21 2) (.a 23 3))])
 (.cond (.t 24) (.seq (.reg [J 4 (.asg (.c (.bool false)))])
 .ret) .skip))
 (.seq (.seq (.reg [J 25 (.faddr 4 (.t 2)), J 26 (.load false 1 (.a 25 2)), J 27 (.faddr 4 (.t 3)), J 28 (.load false 1 (.a 27 3)), J 29 (.beq true (.a 26 2) (.a 28 3))])
 (.cond (.t 29) (.seq (.reg [J 4 (.asg (.c (.bool false)))])
 .ret) .skip))
 (.seq (.seq (.reg [J 30 (.faddr 5 (.t 2)), J 31 (.load false 1 (.a 30 2)), J 32 (.faddr 5 (.t 3)), J 33 (.load false 1 (.a 32 3)), J 34 (.bin .neq (.a 31 2) (.a 33 3))])
 (.cond (.t 34) (.seq (.reg [J 4 (.asg (.c (.bool false)))])
 .ret) .skip))
 (.seq (.reg [J 4 (.asg (.c (.bool true)))])
 .ret))))))))⟩
def b_laws_markText_0 : AC := (.seq (.seq (.reg [J 6 (.mv (.p 0)), J 7 (.bin .gtr (.t 6) (.c (.int .i64 0)))])
 (.cond (.t 7) .skip (.exit 0)))
 (.block 1 (.seq (.reg [J 8 (.mv (.p 0)), J 9 (.bin .rem (.t 8) (.c (.int .i64 10))), J 10 (.bin .add (.c (.int .i64 48)) (.t 9)), J 11 (.conv .u8 (.t 10)), J 12 (.bslice 1 1 [.int .u8 0] [(0, .p 11)]), J 13 (.bstr 12), J 14 (.mv (.p 3)), J 15 (.bin .add (.t 13) (.t 14)), J 3 (.asg (.p 15))])
 (.reg [J 16 (.mv (.p 0)), J 17 (.bin .quo (.t 16) (.c (.int .i64 10))), J 0 (.asg (.p 17))]))))
/-- laws.markText -/
def a_laws_markText : AFn := ⟨1, 20, [.tmp 2], (.seq (.reg [J 2 (.asg (.c (.str ⟨#[]⟩)))])
 (.seq (.seq (.reg [J 4 (.mv (.p 0)), J 5 (.bin .leq (.t 4) (.c (.int .i64 0)))])
 (.cond (.t 5) (.seq (.reg [J 2 (.asg (.c (.str ⟨#[109, 48]⟩)))])
 .ret) .skip))
 (.seq (.reg [J 3 (.asg (.c (.str ⟨#[]⟩)))])
 (.seq (.block 0 (.loop [0, 3] [2, 3] b_laws_markText_0))
 (.seq (.reg [J 18 (.mv (.p 3)), J 19 (.bin .add (.c (.str ⟨#[109]⟩)) (.t 18)), J 2 (.asg (.p 19))])
 .ret)))))⟩
/-- spec.bGood -/
def a_spec_bGood : AFn := ⟨1, 22, [.tmp 2], (.seq (.reg [J 1 (.box (.t 0)), J 2 (.asg (.c (.bool false)))])
 (.seq (.reg [J 3 (.faddr 0 (.t 1)), J 4 (.load true 7 (.a 3 1)), J 5 (.call n_spec_rGood [.a 4 1]), J 6 (.mv (.p 5)), ⟨some 7, some (6, true), .faddr 7 (.t 1)⟩, ⟨some 8, some (6, true), .load true 5 (.a 7 1)⟩, ⟨some 9, some (6, true), .call n_spec_mGood [.a 8 1]⟩, J 10 (.pick (.t 6) (.t 9) (.c (.bool false))), J 11 (.mv (.p 10)), ⟨some 12, some (11, true), .faddr 7 (.t 1)⟩, ⟨some 13, some (11, true), .faddr 2 (.a 12 1)⟩, ⟨some 14, some (11, true), .load false 1 (.a 13 1)⟩, ⟨some 15, some (11, true), .faddr 0 (.t 1)⟩, ⟨some 16, some (11, true), .faddr 0 (.a 15 1)⟩, ⟨some 17, some (11, true), .load false 1 (.a 16 1)⟩, ⟨some 18, some (11, true), .len (.a 17 1)⟩, ⟨some 19, some (11, true), .bin .sub (.t 18) (.c (.int .i64 1))⟩, ⟨some 20, some (11, true), .call n_spec_l1All [.a 14 1, .c (.int .i64 0), .t 19]⟩, J 21 (.pick (.t 11) (.t 20) (.c (.bool false))), J 2 (.asg (.p 21))])
 .ret))⟩
/-- spec.sUnit -/
def a_spec_sUnit : AFn := ⟨2, 60, [.tmp 4], (.seq (.reg [J 2 (.box (.t 0)), J 3 (.box (.t 1)), J 4 (.asg (.c (.bool false)))])
 (.seq (.seq (.reg [J 5 (.faddr 0 (.t 3)), J 6 (.load false 1 (.a 5 3)), J 7 (.call n_spec_l1In [.a 6 3, .c (.int .i64 0), .c (.int .i64 1)]), J 8 (.un .not (.t 7)), J 9 (.mv (.p 8)), ⟨some 10, some (9, false), .faddr 1 (.t 3)⟩, ⟨some 11, some (9, false), .load false 1 (.a 10 3)⟩, ⟨some 12, some (9, false), .faddr 0 (.t 2)⟩, ⟨some 13, some (9, false), .faddr 1 (.a 12 2)⟩, ⟨some 14, some (9, false), .load false 1 (.a 13 2)⟩, ⟨some 15, some (9, false), .len (.a 14 2)⟩, ⟨some 16, some (9, false), .bin .sub (.t 15) (.c (.int .i64 1))⟩, ⟨some 17, some (9, false), .call n_spec_l1In [.a 11 3, .c (.int .i64 0), .t 16]⟩, ⟨some 18, some (9, false), .un .not (.t 17)⟩, J 19 (.pick (.t 9) (.c (.bool true)) (.t 18)), J 20 (.mv (.p 19)), ⟨some 21, some (20, false), .faddr 3 (.t 3)⟩, ⟨some 22, some (20, false), .load false 1 (.a 21 3)⟩, ⟨some 23, some (20, false), .faddr 0 (.t 2)⟩, ⟨some 24, some (20, false), .faddr 1 (.a 23 2)⟩, ⟨some 25, some (20, false), .load false 1 (.a 24 2)⟩, ⟨some 26, some (20, false), .faddr 1 (.t 3)⟩, ⟨some 27, some (20, false), .load false 1 (.a 26 3)⟩, ⟨some 28, some (20, false), .iaddr 6 (.a 25 2) (.a 27 3)⟩, ⟨some 29, some (20, false), .faddr 3 (.a 28 2)⟩, ⟨some 30, some (20, false), .load false 1 (.a 29 2)⟩, ⟨some 31, some (20, false), .call n_spec_l1In [.a 22 3, .c (.int .i64 0), .a 30 2]⟩, ⟨some 32, some (20, false), .un .not (.t 31)⟩, J 33 (.pick (.t 20) (.c (.bool true)) (.t 32))])
 (.cond (.t 33) (.seq (.reg [J 4 (.asg (.c (.bool false)))])
 .ret) .skip))
 (.seq (.reg [J 34 (.faddr 2 (.t 3)), J 35 (.load false 1 (.a 34 3)), J 36 (.bin .eql (.a 35 3) (.c (.int .i64 (-1)))), J 37 (.mv (.p 36)), ⟨some 38, some (37, false), .faddr 3 (.t 3)⟩, ⟨some 39, some (37, false), .load false 1 (.a 38 3)⟩, ⟨some 40, some (37, false), .bin .gtr (.a 39 3) (.c (.int .i64 0))⟩, ⟨some 41, some (37, false), .mv (.p 40)⟩, ⟨some 42, some (41, true), .faddr 2 (.t 3)⟩, ⟨some 43, some (41, true), .load false 1 (.a 42 3)⟩, ⟨some 44, some (41, true), .faddr 7 (.t 2)⟩, ⟨some 45, some (41, true), .load true 5 (.a 44 2)⟩, ⟨some 46, some (41, true), .call n_spec_mSize [.a 45 2]⟩, ⟨some 47, some (41, true), .bin .sub (.t 46) (.c (.int .i64 1))⟩, ⟨some 48, some (41, true), .call n_spec_l1In [.a 43 3, .c (.int .i64 0), .t 47]⟩, ⟨some 49, some (37, false), .pick (.t 41) (.t 48) (.c (.bool false))⟩, ⟨some 50, some (37, false), .mv (.p 49)⟩, ⟨some 51, some (50, true), .load true 12 (.t 2)⟩, ⟨some 52, some (50, true), .faddr 1 (.t 3)⟩, ⟨some 53, some (50, true), .load false 1 (.a 52 3)⟩, ⟨some 54, some (50, true), .faddr 2 (.t 3)⟩, ⟨some 55, some (50, true), .load false 1 (.a 54 3)⟩, ⟨some 56, some (50, true), .call n_spec_bCost [.a 51 2, .a 53 3, .a 55 3]⟩, ⟨some 57, some (50, true), .bin .gtr (.t 56) (.c (.int .i64 0))⟩, ⟨some 58, some (37, false), .pick (.t 50) (.t 57) (.c (.bool false))⟩, J 59 (.pick (.t 37) (.c (.bool true)) (.t 58)), J 4 (.asg (.p 59))])
 .ret)))⟩
def b_spec_sAt_0 : AC := (.seq (.reg [J 14 (.bin .lss (.t 13) (.t 12))])
 (.seq (.cond (.t 14) .skip (.exit 0))
 (.seq (.block 1 (.seq (.reg [J 15 (.mv (.p 13)), J 16 (.iaddr 4 (.a 11 3) (.t 13)), J 17 (.load true 4 (.a 16 3)), J 9 (.alloc [.int .i64 0, .int .i64 0, .int .i64 0, .int .i64 0]), J 8 (.asg (.p 15)), ⟨none, none, .store 4 (.t 9) (.a 17 3)⟩])
 (.seq (.reg [J 18 (.faddr 2 (.t 9)), J 19 (.load false 1 (.a 18 9)), J 20 (.mv (.p 1)), J 21 (.bin .eql (.a 19 9) (.t 20)), J 22 (.mv (.p 21)), ⟨some 23, some (22, true), .faddr 0 (.t 9)⟩, ⟨some 24, some (22, true), .load false 1 (.a 23 9)⟩, ⟨some 25, some (22, true), .mv (.p 2)⟩, ⟨some 26, some (22, true), .bin .eql (.a 24 9) (.t 25)⟩, J 27 (.pick (.t 22) (.t 26) (.c (.bool false)))])
 (.cond (.t 27) (.reg [J 28 (.rf (.t 7)), J 29 (.mv (.p 8)), J 30 (.bslice 1 1 [.int .i64 0] [(0, .p 29)]), J 31 (.append 1 (.a 28 7) (.t 30)), J 7 (.asg (.t 31))]) .skip))))
 (.reg [J 32 (.bin .add (.t 13) (.c (.int .i64 1))), J 13 (.mv (.p 32))]))))
/-- spec.sAt -/
def a_spec_sAt : AFn := ⟨3, 34, [.tmp 6], (.seq (.reg [J 3 (.box (.t 0)), J 6 (.asg (.c (.list true 1 [])))])
 (.seq (.reg [J 7 (.asg (.c (.list true 1 [])))])
 (.seq (.seq (.reg [J 10 (.faddr 2 (.t 3)), J 11 (.load false 1 (.a 10 3)), J 12 (.len (.a 11 3)), J 13 (.mv (.c (.int .i64 0)))])
 (.block 0 (.loop [1, 2, 3, 7, 11, 12, 13] [6, 7] b_spec_sAt_0)))
 (.seq (.reg [J 33 (.rf (.t 7)), J 6 (.asg (.a 33 7))])
 .ret))))⟩
/-- spec.oPlaced -/
def a_spec_oPlaced : AFn := ⟨3, 32, [.tmp 6], (.seq (.reg [J 3 (.box (.t 0)), J 6 (.asg (.c (.bool false)))])
 (.seq (.reg [J 7 (.mv (.p 2)), J 8 (.faddr 2 (.t 3)), J 9 (.load false 1 (.a 8 3)), J 10 (.len (.a 9 3)), J 11 (.bin .sub (.t 10) (.c (.int .i64 1))), J 12 (.call n_spec_l1In [.t 7, .c (.int .i64 0), .t 11]), J 13 (.mv (.p 12)), ⟨some 14, some (13, true), .faddr 2 (.t 3)⟩, ⟨some 15, some (13, true), .load false 1 (.a 14 3)⟩, ⟨some 16, some (13, true), .mv (.p 2)⟩, ⟨some 17, some (13, true), .iaddr 4 (.a 15 3) (.t 16)⟩, ⟨some 18, some (13, true), .faddr 0 (.a 17 3)⟩, ⟨some 19, some (13, true), .load false 1 (.a 18 3)⟩, ⟨some 20, some (13, true), .mv (.p 1)⟩, ⟨some 21, some (13, true), .bin .eql (.a 19 3) (.t 20)⟩, J 22 (.pick (.t 13) (.t 21) (.c (.bool false))), J 23 (.mv (.p 22)), ⟨some 24, some (23, true), .faddr 2 (.t 3)⟩, ⟨some 25, some (23, true), .load false 1 (.a 24 3)⟩, ⟨some 26, some (23, true), .mv (.p 2)⟩, ⟨some 27, some (23, true), .iaddr 4 (.a 25 3) (.t 26)⟩, ⟨some 28, some (23, true), .faddr 2 (.a 27 3)⟩, ⟨some 29, some (23, true), .load false 1 (.a 28 3)⟩, ⟨some 30, some (23, true), .bin .geq (.a 29 3) (.c (.int .i64 0))⟩, J 31 (.pick (.t 23) (.t 30) (.c (.bool false))), J 6 (.asg (.p 31))])
 .ret))⟩
def b_spec_oFault_0 : AC := (.seq (.seq (.reg [J 45 (.mv (.p 10)), J 46 (.bin .lss (.t 45) (.c (.int .i64 6)))])
 (.cond (.t 46) .skip (.exit 1)))
 (.seq (.block 2 (.seq (.reg [J 49 (.faddr 7 (.t 4)), J 50 (.load true 5 (.a 49 4)), J 51 (.load true 12 (.t 4)), J 52 (.load true 3 (.t 5)), J 53 (.load true 3 (.t 7)), J 54 (.call n_spec_oEnd [.a 51 4, .a 52 5, .a 53 7]), J 55 (.mv (.p 10)), J 56 (.call n_spec_mNext [.a 50 4, .t 54, .t 55]), J 11 (.asg (.p 56))])
 (.seq (.reg [J 57 (.mv (.p 11)), J 58 (.bin .geq (.t 57) (.c (.int .i64 0))), J 59 (.mv (.p 58)), ⟨some 60, some (59, true), .mv (.p 11)⟩, ⟨some 61, some (59, true), .faddr 2 (.t 7)⟩, ⟨some 62, some (59, true), .load false 1 (.a 61 7)⟩, ⟨some 63, some (59, true), .bin .eql (.t 60) (.a 62 7)⟩, J 64 (.pick (.t 59) (.t 63) (.c (.bool false)))])
 (.cond (.t 64) (.seq (.reg [J 8 (.asg (.c (.int .i64 0)))])
 .ret) .skip))))
 (.reg [J 47 (.mv (.p 10)), J 48 (.bin .add (.t 47) (.c (.int .i64 1))), J 10 (.asg (.p 48))])))
/-- spec.oFault -/
def a_spec_oFault : AFn := ⟨4, 65, [.tmp 8], (.seq (.reg [J 4 (.box (.t 0)), J 5 (.box (.t 1)), J 7 (.box (.t 3)), J 8 (.asg (.c (.int .i64 0)))])
 (.seq (.seq (.reg [J 12 (.load true 3 (.t 5)), J 13 (.mv (.p 2)), J 14 (.faddr 0 (.t 7)), J 15 (.load false 1 (.a 14 7)), J 16 (.call n_spec_oPlaced [.a 12 5, .t 13, .a 15 7]), J 17 (.un .not (.t 16))])
 (.cond (.t 17) (.seq (.reg [J 8 (.asg (.c (.int .i64 1)))])
 .ret) .skip))
 (.seq (.reg [J 18 (.load true 12 (.t 4)), J 19 (.load true 3 (.t 5)), J 20 (.load true 3 (.t 7)), J 21 (.call n_spec_oCost [.a 18 4, .a 19 5, .a 20 7]), J 9 (.asg (.p 21))])
 (.seq (.block 0 (.seq (.reg [J 23 (.mv (.p 9)), J 24 (.bin .lss (.t 23) (.c (.int .i64 0))), J 22 (.asg (.p 24))])
 (.cond (.t 22) (.seq (.reg [J 8 (.asg (.c (.int .i64 3)))])
 .ret) (.seq (.reg [J 26 (.mv (.p 9)), J 27 (.faddr 0 (.t 4)), J 28 (.faddr 1 (.a 27 4)), J 29 (.load false 1 (.a 28 4)), J 30 (.faddr 2 (.t 5)), J 31 (.load false 1 (.a 30 5)), J 32 (.faddr 0 (.t 7)), J 33 (.load false 1 (.a 32 7)), J 34 (.iaddr 4 (.a 31 5) (.a 33 7)), J 35 (.faddr 1 (.a 34 5)), J 36 (.load false 1 (.a 35 5)), J 37 (.iaddr 6 (.a 29 4) (.a 36 5)), J 38 (.faddr 2 (.a 37 4)), J 39 (.load false 1 (.a 38 4)), J 40 (.bin .gtr (.t 26) (.a 39 4)), J 25 (.asg (.p 40))])
 (.cond (.t 25) (.seq (.reg [J 8 (.asg (.c (.int .i64 4)))])
 .ret) (.seq (.reg [J 42 (.faddr 2 (.t 7)), J 43 (.load false 1 (.a 42 7)), J 44 (.bin .eql (.a 43 7) (.c (.int .i64 (-1)))), J 41 (.asg (.p 44))])
 (.cond (.t 41) (.seq (.reg [J 8 (.asg (.c (.int .i64 0)))])
 .ret) .skip)))))))
 (.seq (.seq (.reg [J 10 (.asg (.c (.int .i64 0)))])
 (.block 1 (.loop [4, 5, 7, 10] [8] b_spec_oFault_0)))
 (.seq (.reg [J 8 (.asg (.c (.int .i64 5)))])
 .ret))))))⟩
def b_spec_zSources_0 : AC := (.seq (.reg [J 16 (.bin .lss (.t 15) (.t 14))])
 (.seq (.cond (.t 16) .skip (.exit 0))
 (.seq (.block 1 (.seq (.reg [J 17 (.mv (.p 15)), J 18 (.iaddr 4 (.a 13 5) (.t 15)), J 19 (.load true 4 (.a 18 5)), J 11 (.alloc [.int .i64 0, .int .i64 0, .int .i64 0, .int .i64 0]), J 10 (.asg (.p 17)), ⟨none, none, .store 4 (.t 11) (.a 19 5)⟩])
 (.seq (.reg [J 20 (.faddr 0 (.t 11)), J 21 (.load false 1 (.a 20 11)), J 22 (.mv (.p 2)), J 23 (.bin .eql (.a 21 11) (.t 22)), J 24 (.mv (.p 23)), ⟨some 25, some (24, true), .load true 12 (.t 4)⟩, ⟨some 26, some (24, true), .load true 3 (.t 5)⟩, ⟨some 27, some (24, true), .mv (.p 10)⟩, ⟨some 28, some (24, true), .mv (.p 3)⟩, ⟨some 29, some (24, true), .call n_spec_zExerts [.a 25 4, .a 26 5, .t 27, .t 28]⟩, J 30 (.pick (.t 24) (.t 29) (.c (.bool false)))])
 (.cond (.t 30) (.reg [J 31 (.rf (.t 9)), J 32 (.mv (.p 10)), J 33 (.bslice 1 1 [.int .i64 0] [(0, .p 32)]), J 34 (.append 1 (.a 31 9) (.t 33)), J 9 (.asg (.t 34))]) .skip))))
 (.reg [J 35 (.bin .add (.t 15) (.c (.int .i64 1))), J 15 (.mv (.p 35))]))))
/-- spec.zSources -/
def a_spec_zSources : AFn := ⟨4, 37, [.tmp 8], (.seq (.reg [J 4 (.box (.t 0)), J 5 (.box (.t 1)), J 8 (.asg (.c (.list true 1 [])))])
 (.seq (.reg [J 9 (.asg (.c (.list true 1 [])))])
 (.seq (.seq (.reg [J 12 (.faddr 2 (.t 5)), J 13 (.load false 1 (.a 12 5)), J 14 (.len (.a 13 5)), J 15 (.mv (.c (.int .i64 0)))])
 (.block 0 (.loop [2, 3, 4, 5, 9, 13, 14, 15] [8, 9] b_spec_zSources_0)))
 (.seq (.reg [J 36 (.rf (.t 9)), J 8 (.asg (.a 36 9))])
 .ret))))⟩
/-- spec.mIndex -/
def a_spec_mIndex : AFn := ⟨2, 29, [.tmp 4], (.seq (.reg [J 2 (.box (.t 0)), J 3 (.box (.t 1)), J 4 (.asg (.c (.int .i64 0)))])
 (.seq (.seq (.reg [J 5 (.faddr 0 (.t 3)), J 6 (.load false 1 (.a 5 3)), J 7 (.faddr 0 (.t 2)), J 8 (.load false 1 (.a 7 2)), J 9 (.bin .sub (.a 8 2) (.c (.int .i64 1))), J 10 (.call n_spec_l1In [.a 6 3, .c (.int .i64 0), .t 9]), J 11 (.un .not (.t 10)), J 12 (.mv (.p 11)), ⟨some 13, some (12, false), .faddr 1 (.t 3)⟩, ⟨some 14, some (12, false), .load false 1 (.a 13 3)⟩, ⟨some 15, some (12, false), .faddr 1 (.t 2)⟩, ⟨some 16, some (12, false), .load false 1 (.a 15 2)⟩, ⟨some 17, some (12, false), .bin .sub (.a 16 2) (.c (.int .i64 1))⟩, ⟨some 18, some (12, false), .call n_spec_l1In [.a 14 3, .c (.int .i64 0), .t 17]⟩, ⟨some 19, some (12, false), .un .not (.t 18)⟩, J 20 (.pick (.t 12) (.c (.bool true)) (.t 19))])
 (.cond (.t 20) (.seq (.reg [J 4 (.asg (.c (.int .i64 (-1))))])
 .ret) .skip))
 (.seq (.reg [J 21 (.faddr 1 (.t 3)), J 22 (.load false 1 (.a 21 3)), J 23 (.faddr 0 (.t 2)), J 24 (.load false 1 (.a 23 2)), J 25 (.bin .mul (.a 22 3) (.a 24 2)), J 26 (.faddr 0 (.t 3)), J 27 (.load false 1 (.a 26 3)), J 28 (.bin .add (.t 25) (.a 27 3)), J 4 (.asg (.p 28))])
 .ret)))⟩
/-- spec.hStep -/
def a_spec_hStep : AFn := ⟨2, 20, [.cell 4 2 true], (.seq (.reg [J 2 (.box (.t 0)), J 4 (.alloc [.int .i64 0, .int .i64 0])])
 (.seq (.reg [J 5 (.faddr 0 (.t 2)), J 6 (.load false 1 (.a 5 2)), J 7 (.bslice 1 6 [.int .i64 0] [(0, .c (.int .i64 1)), (1, .c (.int .i64 1)), (2, .c (.int .i64 0)), (3, .c (.int .i64 (-1))), (4, .c (.int .i64 (-1))), (5, .c (.int .i64 0))]), J 8 (.mv (.p 1)), J 9 (.iaddr 1 (.t 7) (.t 8)), J 10 (.load false 1 (.a 9 7)), J 11 (.bin .add (.a 6 2) (.a 10 7)), J 12 (.faddr 1 (.t 2)), J 13 (.load false 1 (.a 12 2)), J 14 (.bslice 1 6 [.int .i64 0] [(0, .c (.int .i64 0)), (1, .c (.int .i64 (-1))), (2, .c (.int .i64 (-1))), (3, .c (.int .i64 0)), (4, .c (.int .i64 1)), (5, .c (.int .i64 1))]), J 15 (.mv (.p 1)), J 16 (.iaddr 1 (.t 14) (.t 15)), J 17 (.load false 1 (.a 16 14)), J 18 (.bin .add (.a 13 2) (.a 17 14)), J 19 (.build [.int .i64 0, .int .i64 0] [(0, 1, .p 11), (1, 1, .p 18)]), ⟨none, none, .store 2 (.t 4) (.t 19)⟩])
 .ret))⟩
/-- spec.mHex -/
def a_spec_mHex : AFn := ⟨2, 14, [.cell 4 2 true], (.seq (.reg [J 2 (.box (.t 0)), J 4 (.alloc [.int .i64 0, .int .i64 0])])
 (.seq (.reg [J 5 (.mv (.p 1)), J 6 (.faddr 0 (.t 2)), J 7 (.load false 1 (.a 6 2)), J 8 (.bin .rem (.t 5) (.a 7 2)), J 9 (.mv (.p 1)), J 10 (.faddr 0 (.t 2)), J 11 (.load false 1 (.a 10 2)), J 12 (.bin .quo (.t 9) (.a 11 2)), J 13 (.build [.int .i64 0, .int .i64 0] [(0, 1, .p 8), (1, 1, .p 12)]), ⟨none, none, .store 2 (.t 4) (.t 13)⟩])
 .ret))⟩
/-- spec.bCost -/
def a_spec_bCost : AFn := ⟨3, 14, [.tmp 6], (.seq (.reg [J 3 (.box (.t 0)), J 6 (.asg (.c (.int .i64 0)))])
 (.seq (.reg [J 7 (.load true 12 (.t 3)), J 8 (.mv (.p 2)), J 9 (.call n_spec_bTerrain [.a 7 3, .t 8]), J 10 (.field false 1 1 (.t 9)), J 11 (.mv (.p 1)), J 12 (.iaddr 1 (.t 10) (.t 11)), J 13 (.load false 1 (.a 12 10)), J 6 (.asg (.p 13))])
 .ret))⟩
/-- spec.mRoad -/
def a_spec_mRoad : AFn := ⟨3, 14, [.tmp 6], (.seq (.reg [J 3 (.box (.t 0)), J 6 (.asg (.c (.bool false)))])
 (.seq (.reg [J 7 (.faddr 4 (.t 3)), J 8 (.load false 1 (.a 7 3)), J 9 (.load true 5 (.t 3)), J 10 (.mv (.p 1)), J 11 (.mv (.p 2)), J 12 (.call n_spec_mEdge [.a 9 3, .t 10, .t 11]), J 13 (.call n_spec_l1Has [.a 8 3, .t 12]), J 6 (.asg (.p 13))])
 .ret))⟩
/-- spec.csWeather -/
def a_spec_csWeather : AFn := ⟨2, 9, [.tmp 4], (.seq (.reg [J 4 (.asg (.c (.int .i64 0)))])
 (.seq (.seq (.reg [J 5 (.mv (.p 1))])
 (.cond (.t 5) (.seq (.reg [J 6 (.mv (.p 0)), J 7 (.bin .quo (.t 6) (.c (.int .i64 2))), J 4 (.asg (.p 7))])
 .ret) .skip))
 (.seq (.reg [J 8 (.mv (.p 0)), J 4 (.asg (.p 8))])
 .ret)))⟩
/-- spec.mRiver -/
def a_spec_mRiver : AFn := ⟨3, 14, [.tmp 6], (.seq (.reg [J 3 (.box (.t 0)), J 6 (.asg (.c (.bool false)))])
 (.seq (.reg [J 7 (.faddr 3 (.t 3)), J 8 (.load false 1 (.a 7 3)), J 9 (.load true 5 (.t 3)), J 10 (.mv (.p 1)), J 11 (.mv (.p 2)), J 12 (.call n_spec_mEdge [.a 9 3, .t 10, .t 11]), J 13 (.call n_spec_l1Has [.a 8 3, .t 12]), J 6 (.asg (.p 13))])
 .ret))⟩
def b_spec_fStays_0 : AC := (.seq (.reg [J 18 (.bin .lss (.t 17) (.t 16))])
 (.seq (.cond (.t 18) .skip (.exit 0))
 (.seq (.block 1 (.seq (.reg [J 19 (.iaddr 1 (.t 15) (.t 17)), J 20 (.load false 1 (.a 19 15)), J 11 (.asg (.p 20))])
 (.seq (.reg [J 21 (.rf (.t 1)), J 22 (.mv (.p 11)), J 23 (.call n_spec_fLeaves [.a 21 1, .t 22]), J 24 (.un .not (.t 23))])
 (.cond (.t 24) (.reg [J 25 (.mv (.p 9)), J 26 (.bin .add (.t 25) (.c (.int .i64 1))), J 9 (.asg (.p 26))]) .skip))))
 (.reg [J 27 (.bin .add (.t 17) (.c (.int .i64 1))), J 17 (.mv (.p 27))]))))
/-- spec.fStays -/
def a_spec_fStays : AFn := ⟨4, 29, [.tmp 8], (.seq (.reg [J 4 (.box (.t 0)), J 8 (.asg (.c (.int .i64 0)))])
 (.seq (.reg [J 9 (.asg (.c (.int .i64 0)))])
 (.seq (.seq (.reg [J 12 (.load true 3 (.t 4)), J 13 (.mv (.p 2)), J 14 (.mv (.p 3)), J 15 (.call n_spec_sAt [.a 12 4, .t 13, .t 14]), J 16 (.len (.t 15)), J 17 (.mv (.c (.int .i64 0)))])
 (.block 0 (.loop [1, 9, 15, 16, 17] [8, 9] b_spec_fStays_0)))
 (.seq (.reg [J 28 (.mv (.p 9)), J 8 (.asg (.p 28))])
 .ret))))⟩
def b_impl_IsRules_0 : AC := (.seq (.reg [J 23 (.bin .lss (.t 22) (.t 21))])
 (.seq (.cond (.t 23) .skip (.exit 0))
 (.seq (.block 1 (.seq (.reg [J 24 (.mv (.p 22)), J 25 (.iaddr 5 (.a 20 1) (.t 22)), J 26 (.load true 5 (.a 25 1)), J 4 (.alloc [.str ⟨#[]⟩, .list true 1 [], .int .i64 0, .int .i64 0, .bool false]), J 3 (.asg (.p 24)), ⟨none, none, .store 5 (.t 4) (.a 26 1)⟩])
 (.seq (.reg [J 27 (.load true 5 (.t 4)), J 28 (.faddr 1 (.t 1)), J 29 (.load false 1 (.a 28 1)), J 30 (.len (.a 29 1)), J 31 (.call n_impl_goodTerrain [.a 27 4, .t 30]), J 32 (.un .not (.t 31)), J 33 (.mv (.p 32)), ⟨some 34, some (33, false), .faddr 0 (.t 1)⟩, ⟨some 35, some (33, false), .load false 1 (.a 34 1)⟩, ⟨some 36, some (33, false), .faddr 0 (.t 4)⟩, ⟨some 37, some (33, false), .load false 1 (.a 36 4)⟩, ⟨some 38, some (33, false), .call n_impl_terrainIndex [.a 35 1, .a 37 4]⟩, ⟨some 39, some (33, false), .mv (.p 3)⟩, ⟨some 40, some (33, false), .bin .neq (.t 38) (.t 39)⟩, J 41 (.pick (.t 33) (.c (.bool true)) (.t 40))])
 (.cond (.t 41) (.seq (.reg [J 2 (.asg (.c (.bool false)))])
 .ret) .skip))))
 (.reg [J 42 (.bin .add (.t 22) (.c (.int .i64 1))), J 22 (.mv (.p 42))]))))
def b_impl_IsRules_1 : AC := (.seq (.reg [J 47 (.bin .lss (.t 46) (.t 45))])
 (.seq (.cond (.t 47) .skip (.exit 2))
 (.seq (.block 3 (.seq (.reg [J 48 (.mv (.p 46)), J 49 (.iaddr 6 (.a 44 1) (.t 46)), J 50 (.load true 6 (.a 49 1)), J 6 (.alloc [.str ⟨#[]⟩, .int .i64 0, .int .i64 0, .int .i64 0, .bool false, .int .i64 0]), J 5 (.asg (.p 48)), ⟨none, none, .store 6 (.t 6) (.a 50 1)⟩])
 (.seq (.reg [J 51 (.load true 6 (.t 6)), J 52 (.call n_impl_goodKind [.a 51 6]), J 53 (.un .not (.t 52)), J 54 (.mv (.p 53)), ⟨some 55, some (54, false), .faddr 1 (.t 1)⟩, ⟨some 56, some (54, false), .load false 1 (.a 55 1)⟩, ⟨some 57, some (54, false), .faddr 0 (.t 6)⟩, ⟨some 58, some (54, false), .load false 1 (.a 57 6)⟩, ⟨some 59, some (54, false), .call n_impl_kindIndex [.a 56 1, .a 58 6]⟩, ⟨some 60, some (54, false), .mv (.p 5)⟩, ⟨some 61, some (54, false), .bin .neq (.t 59) (.t 60)⟩, J 62 (.pick (.t 54) (.c (.bool true)) (.t 61))])
 (.cond (.t 62) (.seq (.reg [J 2 (.asg (.c (.bool false)))])
 .ret) .skip))))
 (.reg [J 63 (.bin .add (.t 46) (.c (.int .i64 1))), J 46 (.mv (.p 63))]))))
/-- impl.IsRules -/
def a_impl_IsRules : AFn := ⟨1, 87, [.tmp 2], (.seq (.reg [J 1 (.box (.t 0)), J 2 (.asg (.c (.bool false)))])
 (.seq (.seq (.reg [J 7 (.faddr 0 (.t 1)), J 8 (.load false 1 (.a 7 1)), J 9 (.len (.a 8 1)), J 10 (.call n_impl_inRange [.t 9, .c (.int .i64 1), .c (.int .i64 6)]), J 11 (.un .not (.t 10)), J 12 (.mv (.p 11)), ⟨some 13, some (12, false), .faddr 1 (.t 1)⟩, ⟨some 14, some (12, false), .load false 1 (.a 13 1)⟩, ⟨some 15, some (12, false), .len (.a 14 1)⟩, ⟨some 16, some (12, false), .call n_impl_inRange [.t 15, .c (.int .i64 1), .c (.int .i64 4)]⟩, ⟨some 17, some (12, false), .un .not (.t 16)⟩, J 18 (.pick (.t 12) (.c (.bool true)) (.t 17))])
 (.cond (.t 18) (.seq (.reg [J 2 (.asg (.c (.bool false)))])
 .ret) .skip))
 (.seq (.seq (.reg [J 19 (.faddr 0 (.t 1)), J 20 (.load false 1 (.a 19 1)), J 21 (.len (.a 20 1)), J 22 (.mv (.c (.int .i64 0)))])
 (.block 0 (.loop [1, 20, 21, 22] [1, 2] b_impl_IsRules_0)))
 (.seq (.seq (.reg [J 43 (.faddr 1 (.t 1)), J 44 (.load false 1 (.a 43 1)), J 45 (.len (.a 44 1)), J 46 (.mv (.c (.int .i64 0)))])
 (.block 2 (.loop [1, 44, 45, 46] [1, 2] b_impl_IsRules_1)))
 (.seq (.reg [J 64 (.faddr 2 (.t 1)), J 65 (.load false 1 (.a 64 1)), J 66 (.call n_impl_inRange [.a 65 1, .c (.int .i64 1), .c (.int .i64 4)]), J 67 (.mv (.p 66)), ⟨some 68, some (67, true), .faddr 3 (.t 1)⟩, ⟨some 69, some (67, true), .load false 1 (.a 68 1)⟩, ⟨some 70, some (67, true), .call n_impl_inRange [.a 69 1, .c (.int .i64 0), .c (.int .i64 9)]⟩, J 71 (.pick (.t 67) (.t 70) (.c (.bool false))), J 72 (.mv (.p 71)), ⟨some 73, some (72, true), .faddr 4 (.t 1)⟩, ⟨some 74, some (72, true), .load false 1 (.a 73 1)⟩, ⟨some 75, some (72, true), .call n_impl_inRange [.a 74 1, .c (.int .i64 1), .c (.int .i64 9)]⟩, J 76 (.pick (.t 72) (.t 75) (.c (.bool false))), J 77 (.mv (.p 76)), ⟨some 78, some (77, true), .faddr 5 (.t 1)⟩, ⟨some 79, some (77, true), .load false 1 (.a 78 1)⟩, ⟨some 80, some (77, true), .call n_impl_inRange [.a 79 1, .c (.int .i64 0), .c (.int .i64 20)]⟩, J 81 (.pick (.t 77) (.t 80) (.c (.bool false))), J 82 (.mv (.p 81)), ⟨some 83, some (82, true), .faddr 6 (.t 1)⟩, ⟨some 84, some (82, true), .load false 1 (.a 83 1)⟩, ⟨some 85, some (82, true), .call n_impl_inRange [.a 84 1, .c (.int .i64 1), .c (.int .i64 30)]⟩, J 86 (.pick (.t 82) (.t 85) (.c (.bool false))), J 2 (.asg (.p 86))])
 .ret)))))⟩
def b_impl_IsMap_0 : AC := (.seq (.reg [J 34 (.bin .lss (.t 33) (.t 32))])
 (.seq (.cond (.t 34) .skip (.exit 0))
 (.seq (.block 1 (.seq (.reg [J 35 (.iaddr 1 (.a 31 1) (.t 33)), J 36 (.load false 1 (.a 35 1)), J 4 (.asg (.p 36))])
 (.seq (.reg [J 37 (.mv (.p 4)), J 38 (.call n_impl_isIndex [.t 37, .c (.int .i64 6)]), J 39 (.un .not (.t 38))])
 (.cond (.t 39) (.seq (.reg [J 2 (.asg (.c (.bool false)))])
 .ret) .skip))))
 (.reg [J 40 (.bin .add (.t 33) (.c (.int .i64 1))), J 33 (.mv (.p 40))]))))
def b_impl_IsMap_1 : AC := (.seq (.reg [J 57 (.bin .lss (.t 56) (.t 55))])
 (.seq (.cond (.t 57) .skip (.exit 4))
 (.seq (.block 5 (.seq (.reg [J 58 (.iaddr 1 (.a 54 6) (.t 56)), J 59 (.load false 1 (.a 58 6)), J 8 (.asg (.p 59))])
 (.seq (.reg [J 60 (.load true 5 (.t 1)), J 61 (.mv (.p 8)), J 62 (.call n_impl_isEdge [.a 60 1, .t 61]), J 63 (.un .not (.t 62))])
 (.cond (.t 63) (.seq (.reg [J 2 (.asg (.c (.bool false)))])
 .ret) .skip))))
 (.reg [J 64 (.bin .add (.t 56) (.c (.int .i64 1))), J 56 (.mv (.p 64))]))))
def b_impl_IsMap_2 : AC := (.seq (.reg [J 48 (.bin .lss (.t 47) (.t 46))])
 (.seq (.cond (.t 48) .skip (.exit 2))
 (.seq (.block 3 (.seq (.reg [J 49 (.iaddr 1 (.t 45) (.t 47)), J 50 (.load false 1 (.a 49 45)), J 6 (.asg (.a 50 45))])
 (.seq (.seq (.reg [J 51 (.rf (.t 6)), J 52 (.call n_impl_increasing [.a 51 6]), J 53 (.un .not (.t 52))])
 (.cond (.t 53) (.seq (.reg [J 2 (.asg (.c (.bool false)))])
 .ret) .skip))
 (.seq (.reg [J 54 (.rf (.t 6)), J 55 (.len (.a 54 6)), J 56 (.mv (.c (.int .i64 0)))])
 (.block 4 (.loop [1, 6, 45, 46, 47, 54, 55, 56] [1, 2, 45, 46, 47] b_impl_IsMap_1))))))
 (.reg [J 65 (.bin .add (.t 47) (.c (.int .i64 1))), J 47 (.mv (.p 65))]))))
/-- impl.IsMap -/
def a_impl_IsMap : AFn := ⟨1, 66, [.tmp 2], (.seq (.reg [J 1 (.box (.t 0)), J 2 (.asg (.c (.bool false)))])
 (.seq (.seq (.reg [J 9 (.faddr 0 (.t 1)), J 10 (.load false 1 (.a 9 1)), J 11 (.call n_impl_inRange [.a 10 1, .c (.int .i64 1), .c (.int .i64 10)]), J 12 (.un .not (.t 11)), J 13 (.mv (.p 12)), ⟨some 14, some (13, false), .faddr 1 (.t 1)⟩, ⟨some 15, some (13, false), .load false 1 (.a 14 1)⟩, ⟨some 16, some (13, false), .call n_impl_inRange [.a 15 1, .c (.int .i64 1), .c (.int .i64 10)]⟩, ⟨some 17, some (13, false), .un .not (.t 16)⟩, J 18 (.pick (.t 13) (.c (.bool true)) (.t 17)), J 19 (.mv (.p 18)), ⟨some 20, some (19, false), .faddr 2 (.t 1)⟩, ⟨some 21, some (19, false), .load false 1 (.a 20 1)⟩, ⟨some 22, some (19, false), .len (.a 21 1)⟩, ⟨some 23, some (19, false), .faddr 0 (.t 1)⟩, ⟨some 24, some (19, false), .load false 1 (.a 23 1)⟩, ⟨some 25, some (19, false), .faddr 1 (.t 1)⟩, ⟨some 26, some (19, false), .load false 1 (.a 25 1)⟩, ⟨some 27, some (19, false), .bin .mul (.a 24 1) (.a 26 1)⟩, ⟨some 28, some (19, false), .bin .neq (.t 22) (.t 27)⟩, J 29 (.pick (.t 19) (.c (.bool true)) (.t 28))])
 (.cond (.t 29) (.seq (.reg [J 2 (.asg (.c (.bool false)))])
 .ret) .skip))
 (.seq (.seq (.reg [J 30 (.faddr 2 (.t 1)), J 31 (.load false 1 (.a 30 1)), J 32 (.len (.a 31 1)), J 33 (.mv (.c (.int .i64 0)))])
 (.block 0 (.loop [1, 31, 32, 33] [1, 2] b_impl_IsMap_0)))
 (.seq (.seq (.reg [J 41 (.faddr 3 (.t 1)), J 42 (.load false 1 (.a 41 1)), J 43 (.faddr 4 (.t 1)), J 44 (.load false 1 (.a 43 1)), J 45 (.bslice 1 2 [.list true 1 []] [(0, .a 42 1), (1, .a 44 1)]), J 46 (.len (.t 45)), J 47 (.mv (.c (.int .i64 0)))])
 (.block 2 (.loop [1, 45, 46, 47] [2] b_impl_IsMap_2)))
 (.seq (.reg [J 2 (.asg (.c (.bool true)))])
 .ret)))))⟩
/-- slices.ContainsFunc[[]int,int] -/
def a_slices_ContainsFunc_int_int : AFn := ⟨2, 9, [.tmp 4], (.seq (.reg [J 4 (.asg (.c (.bool false)))])
 (.seq (.reg [J 5 (.rf (.t 0)), J 6 (.rf (.t 1)), J 7 (.call n_slices_IndexFunc_int_int [.a 5 0, .a 6 1]), J 8 (.bin .geq (.t 7) (.c (.int .i64 0))), J 4 (.asg (.p 8))])
 .ret))⟩
/-- impl.IsBoard$1 -/
def a_impl_IsBoard_1 : AFn := ⟨2, 10, [.tmp 3], (.seq (.reg [J 3 (.asg (.c (.bool false)))])
 (.seq (.reg [J 4 (.mv (.p 0)), J 5 (.faddr 0 (.t 1)), J 6 (.faddr 0 (.a 5 1)), J 7 (.load false 1 (.a 6 1)), J 8 (.len (.a 7 1)), J 9 (.bin .geq (.t 4) (.t 8)), J 3 (.asg (.p 9))])
 .ret))⟩
/-- impl.sizeOf -/
def a_impl_sizeOf : AFn := ⟨1, 7, [.tmp 2], (.seq (.reg [J 1 (.box (.t 0)), J 2 (.asg (.c (.int .i64 0)))])
 (.seq (.reg [J 3 (.faddr 7 (.t 1)), J 4 (.faddr 2 (.a 3 1)), J 5 (.load false 1 (.a 4 1)), J 6 (.len (.a 5 1)), J 2 (.asg (.p 6))])
 .ret))⟩
/-- impl.goodUnit -/
def a_impl_goodUnit : AFn := ⟨2, 55, [.tmp 4], (.seq (.reg [J 2 (.box (.t 0)), J 3 (.box (.t 1)), J 4 (.asg (.c (.bool false)))])
 (.seq (.seq (.reg [J 5 (.faddr 0 (.t 3)), J 6 (.load false 1 (.a 5 3)), J 7 (.call n_impl_isSide [.a 6 3]), J 8 (.un .not (.t 7)), J 9 (.mv (.p 8)), ⟨some 10, some (9, false), .faddr 1 (.t 3)⟩, ⟨some 11, some (9, false), .load false 1 (.a 10 3)⟩, ⟨some 12, some (9, false), .faddr 0 (.t 2)⟩, ⟨some 13, some (9, false), .faddr 1 (.a 12 2)⟩, ⟨some 14, some (9, false), .load false 1 (.a 13 2)⟩, ⟨some 15, some (9, false), .len (.a 14 2)⟩, ⟨some 16, some (9, false), .call n_impl_isIndex [.a 11 3, .t 15]⟩, ⟨some 17, some (9, false), .un .not (.t 16)⟩, J 18 (.pick (.t 9) (.c (.bool true)) (.t 17)), J 19 (.mv (.p 18)), ⟨some 20, some (19, false), .faddr 3 (.t 3)⟩, ⟨some 21, some (19, false), .load false 1 (.a 20 3)⟩, ⟨some 22, some (19, false), .faddr 0 (.t 2)⟩, ⟨some 23, some (19, false), .faddr 1 (.a 22 2)⟩, ⟨some 24, some (19, false), .load false 1 (.a 23 2)⟩, ⟨some 25, some (19, false), .faddr 1 (.t 3)⟩, ⟨some 26, some (19, false), .load false 1 (.a 25 3)⟩, ⟨some 27, some (19, false), .iaddr 6 (.a 24 2) (.a 26 3)⟩, ⟨some 28, some (19, false), .faddr 3 (.a 27 2)⟩, ⟨some 29, some (19, false), .load false 1 (.a 28 2)⟩, ⟨some 30, some (19, false), .call n_impl_inRange [.a 21 3, .c (.int .i64 0), .a 29 2]⟩, ⟨some 31, some (19, false), .un .not (.t 30)⟩, J 32 (.pick (.t 19) (.c (.bool true)) (.t 31))])
 (.cond (.t 32) (.seq (.reg [J 4 (.asg (.c (.bool false)))])
 .ret) .skip))
 (.seq (.seq (.reg [J 33 (.faddr 2 (.t 3)), J 34 (.load false 1 (.a 33 3)), J 35 (.bin .eql (.a 34 3) (.c (.int .i64 (-1))))])
 (.cond (.t 35) (.seq (.reg [J 4 (.asg (.c (.bool true)))])
 .ret) .skip))
 (.seq (.reg [J 36 (.faddr 3 (.t 3)), J 37 (.load false 1 (.a 36 3)), J 38 (.bin .gtr (.a 37 3) (.c (.int .i64 0))), J 39 (.mv (.p 38)), ⟨some 40, some (39, true), .faddr 2 (.t 3)⟩, ⟨some 41, some (39, true), .load false 1 (.a 40 3)⟩, ⟨some 42, some (39, true), .load true 12 (.t 2)⟩, ⟨some 43, some (39, true), .call n_impl_sizeOf [.a 42 2]⟩, ⟨some 44, some (39, true), .call n_impl_isIndex [.a 41 3, .t 43]⟩, J 45 (.pick (.t 39) (.t 44) (.c (.bool false))), J 46 (.mv (.p 45)), ⟨some 47, some (46, true), .load true 12 (.t 2)⟩, ⟨some 48, some (46, true), .faddr 1 (.t 3)⟩, ⟨some 49, some (46, true), .load false 1 (.a 48 3)⟩, ⟨some 50, some (46, true), .faddr 2 (.t 3)⟩, ⟨some 51, some (46, true), .load false 1 (.a 50 3)⟩, ⟨some 52, some (46, true), .call n_impl_enterCost [.a 47 2, .a 49 3, .a 51 3]⟩, ⟨some 53, some (46, true), .bin .neq (.t 52) (.c (.int .i64 0))⟩, J 54 (.pick (.t 46) (.t 53) (.c (.bool false))), J 4 (.asg (.p 54))])
 .ret))))⟩
/-- impl.orderFault -/
def a_impl_orderFault : AFn := ⟨4, 65, [.tmp 8], (.seq (.reg [J 4 (.box (.t 0)), J 5 (.box (.t 1)), J 7 (.box (.t 3)), J 8 (.asg (.c (.int .i64 0)))])
 (.seq (.seq (.reg [J 12 (.load true 3 (.t 5)), J 13 (.mv (.p 2)), J 14 (.faddr 0 (.t 7)), J 15 (.load false 1 (.a 14 7)), J 16 (.call n_impl_ownsUnit [.a 12 5, .t 13, .a 15 7]), J 17 (.un .not (.t 16))])
 (.cond (.t 17) (.seq (.reg [J 8 (.asg (.c (.int .i64 1)))])
 .ret) .skip))
 (.seq (.reg [J 18 (.faddr 2 (.t 5)), J 19 (.load false 1 (.a 18 5)), J 20 (.faddr 0 (.t 7)), J 21 (.load false 1 (.a 20 7)), J 22 (.iaddr 4 (.a 19 5) (.a 21 7)), J 23 (.load true 4 (.a 22 5)), J 9 (.alloc [.int .i64 0, .int .i64 0, .int .i64 0, .int .i64 0]), ⟨none, none, .store 4 (.t 9) (.a 23 5)⟩])
 (.seq (.reg [J 25 (.load true 12 (.t 4)), J 26 (.faddr 1 (.t 9)), J 27 (.load false 1 (.a 26 9)), J 28 (.faddr 1 (.t 5)), J 29 (.load false 1 (.a 28 5)), J 30 (.faddr 2 (.t 9)), J 31 (.load false 1 (.a 30 9)), J 32 (.faddr 1 (.t 7)), J 33 (.load false 1 (.a 32 7)), J 34 (.call n_impl_PathCost [.a 25 4, .a 27 9, .a 29 5, .a 31 9, .a 33 7]), J 24 (.mv (.t 34)), J 35 (.extract (.p 24) 0), J 36 (.extract (.p 24) 1), J 10 (.asg (.p 35)), J 11 (.asg (.p 36))])
 (.seq (.seq (.reg [J 37 (.mv (.p 11)), J 38 (.un .not (.t 37))])
 (.cond (.t 38) (.seq (.reg [J 8 (.asg (.c (.int .i64 3)))])
 .ret) .skip))
 (.seq (.seq (.reg [J 39 (.mv (.p 10)), J 40 (.faddr 0 (.t 4)), J 41 (.faddr 1 (.a 40 4)), J 42 (.load false 1 (.a 41 4)), J 43 (.faddr 1 (.t 9)), J 44 (.load false 1 (.a 43 9)), J 45 (.iaddr 6 (.a 42 4) (.a 44 9)), J 46 (.faddr 2 (.a 45 4)), J 47 (.load false 1 (.a 46 4)), J 48 (.bin .gtr (.t 39) (.a 47 4))])
 (.cond (.t 48) (.seq (.reg [J 8 (.asg (.c (.int .i64 4)))])
 .ret) .skip))
 (.seq (.seq (.reg [J 49 (.faddr 2 (.t 7)), J 50 (.load false 1 (.a 49 7)), J 51 (.bin .neq (.a 50 7) (.c (.int .i64 (-1)))), J 52 (.mv (.p 51)), ⟨some 53, some (52, true), .faddr 7 (.t 4)⟩, ⟨some 54, some (52, true), .load true 5 (.a 53 4)⟩, ⟨some 55, some (52, true), .load true 12 (.t 4)⟩, ⟨some 56, some (52, true), .load true 3 (.t 5)⟩, ⟨some 57, some (52, true), .load true 3 (.t 7)⟩, ⟨some 58, some (52, true), .call n_impl_endOf [.a 55 4, .a 56 5, .a 57 7]⟩, ⟨some 59, some (52, true), .call n_impl_neighboursOn [.a 54 4, .t 58]⟩, ⟨some 60, some (52, true), .faddr 2 (.t 7)⟩, ⟨some 61, some (52, true), .load false 1 (.a 60 7)⟩, ⟨some 62, some (52, true), .call n_slices_Contains_int_int [.t 59, .a 61 7]⟩, ⟨some 63, some (52, true), .un .not (.t 62)⟩, J 64 (.pick (.t 52) (.t 63) (.c (.bool false)))])
 (.cond (.t 64) (.seq (.reg [J 8 (.asg (.c (.int .i64 5)))])
 .ret) .skip))
 (.seq (.reg [J 8 (.asg (.c (.int .i64 0)))])
 .ret))))))))⟩
/-- impl.enterCost -/
def a_impl_enterCost : AFn := ⟨3, 14, [.tmp 6], (.seq (.reg [J 3 (.box (.t 0)), J 6 (.asg (.c (.int .i64 0)))])
 (.seq (.reg [J 7 (.load true 12 (.t 3)), J 8 (.mv (.p 2)), J 9 (.call n_impl_terrainAt [.a 7 3, .t 8]), J 10 (.field false 1 1 (.t 9)), J 11 (.mv (.p 1)), J 12 (.iaddr 1 (.t 10) (.t 11)), J 13 (.load false 1 (.a 12 10)), J 6 (.asg (.p 13))])
 .ret))⟩
/-- impl.edgeOf -/
def a_impl_edgeOf : AFn := ⟨3, 27, [.tmp 6], (.seq (.reg [J 3 (.box (.t 0)), J 6 (.asg (.c (.int .i64 0)))])
 (.seq (.reg [J 8 (.load true 5 (.t 3)), J 9 (.mv (.p 1)), J 10 (.mv (.p 2)), J 11 (.call n_impl_nextTo [.a 8 3, .t 9, .t 10]), J 7 (.asg (.p 11))])
 (.seq (.block 0 (.seq (.reg [J 13 (.mv (.p 7)), J 14 (.bin .lss (.t 13) (.c (.int .i64 0))), J 12 (.asg (.p 14))])
 (.cond (.t 12) (.seq (.reg [J 6 (.asg (.c (.int .i64 (-1))))])
 .ret) (.seq (.reg [J 16 (.mv (.p 2)), J 17 (.bin .lss (.t 16) (.c (.int .i64 3))), J 15 (.asg (.p 17))])
 (.cond (.t 15) (.seq (.reg [J 18 (.mv (.p 1)), J 19 (.bin .mul (.c (.int .i64 3)) (.t 18)), J 20 (.mv (.p 2)), J 21 (.bin .add (.t 19) (.t 20)), J 6 (.asg (.p 21))])
 .ret) .skip)))))
 (.seq (.reg [J 22 (.mv (.p 7)), J 23 (.bin .mul (.c (.int .i64 3)) (.t 22)), J 24 (.mv (.p 2)), J 25 (.bin .add (.t 23) (.t 24)), J 26 (.bin .sub (.t 25) (.c (.int .i64 3))), J 6 (.asg (.p 26))])
 .ret))))⟩
/-- slices.Contains[[]int,int] -/
def a_slices_Contains_int_int : AFn := ⟨2, 9, [.tmp 4], (.seq (.reg [J 4 (.asg (.c (.bool false)))])
 (.seq (.reg [J 5 (.rf (.t 0)), J 6 (.mv (.p 1)), J 7 (.call n_slices_Index_int_int [.a 5 0, .t 6]), J 8 (.bin .geq (.t 7) (.c (.int .i64 0))), J 4 (.asg (.p 8))])
 .ret))⟩
/-- impl.weatherCost -/
def a_impl_weatherCost : AFn := ⟨2, 13, [.tmp 4], (.seq (.reg [J 4 (.asg (.c (.int .i64 0)))])
 (.seq (.seq (.reg [J 5 (.mv (.p 1)), J 6 (.mv (.p 5)), ⟨some 7, some (6, true), .mv (.p 0)⟩, ⟨some 8, some (6, true), .bin .gtr (.t 7) (.c (.int .i64 0))⟩, J 9 (.pick (.t 6) (.t 8) (.c (.bool false)))])
 (.cond (.t 9) (.seq (.reg [J 10 (.mv (.p 0)), J 11 (.bin .sub (.t 10) (.c (.int .i64 1))), J 4 (.asg (.p 11))])
 .ret) .skip))
 (.seq (.reg [J 12 (.mv (.p 0)), J 4 (.asg (.p 12))])
 .ret)))⟩
/-- impl.indexOf -/
def a_impl_indexOf : AFn := ⟨2, 27, [.tmp 4], (.seq (.reg [J 2 (.box (.t 0)), J 3 (.box (.t 1)), J 4 (.asg (.c (.int .i64 0)))])
 (.seq (.seq (.reg [J 5 (.faddr 0 (.t 3)), J 6 (.load false 1 (.a 5 3)), J 7 (.faddr 0 (.t 2)), J 8 (.load false 1 (.a 7 2)), J 9 (.call n_impl_isIndex [.a 6 3, .a 8 2]), J 10 (.un .not (.t 9)), J 11 (.mv (.p 10)), ⟨some 12, some (11, false), .faddr 1 (.t 3)⟩, ⟨some 13, some (11, false), .load false 1 (.a 12 3)⟩, ⟨some 14, some (11, false), .faddr 1 (.t 2)⟩, ⟨some 15, some (11, false), .load false 1 (.a 14 2)⟩, ⟨some 16, some (11, false), .call n_impl_isIndex [.a 13 3, .a 15 2]⟩, ⟨some 17, some (11, false), .un .not (.t 16)⟩, J 18 (.pick (.t 11) (.c (.bool true)) (.t 17))])
 (.cond (.t 18) (.seq (.reg [J 4 (.asg (.c (.int .i64 (-1))))])
 .ret) .skip))
 (.seq (.reg [J 19 (.faddr 1 (.t 3)), J 20 (.load false 1 (.a 19 3)), J 21 (.faddr 0 (.t 2)), J 22 (.load false 1 (.a 21 2)), J 23 (.bin .mul (.a 20 3) (.a 22 2)), J 24 (.faddr 0 (.t 3)), J 25 (.load false 1 (.a 24 3)), J 26 (.bin .add (.t 23) (.a 25 3)), J 4 (.asg (.p 26))])
 .ret)))⟩
/-- impl.stepBy -/
def a_impl_stepBy : AFn := ⟨3, 26, [.cell 6 2 true], (.seq (.reg [J 3 (.box (.t 0)), J 6 (.alloc [.int .i64 0, .int .i64 0])])
 (.seq (.reg [J 7 (.faddr 0 (.t 3)), J 8 (.load false 1 (.a 7 3)), J 9 (.mv (.p 2)), J 10 (.mv (.p 1)), J 11 (.aaddr 6 2 (.g 0) (.t 10)), J 12 (.faddr 0 (.t 11)), J 13 (.load false 1 (.a 12 11)), J 14 (.bin .mul (.t 9) (.a 13 11)), J 15 (.bin .add (.a 8 3) (.t 14)), J 16 (.faddr 1 (.t 3)), J 17 (.load false 1 (.a 16 3)), J 18 (.mv (.p 2)), J 19 (.mv (.p 1)), J 20 (.aaddr 6 2 (.g 0) (.t 19)), J 21 (.faddr 1 (.t 20)), J 22 (.load false 1 (.a 21 20)), J 23 (.bin .mul (.t 18) (.a 22 20)), J 24 (.bin .add (.a 17 3) (.t 23)), J 25 (.build [.int .i64 0, .int .i64 0] [(0, 1, .p 15), (1, 1, .p 24)]), ⟨none, none, .store 2 (.t 6) (.t 25)⟩])
 .ret))⟩
/-- impl.hexOf -/
def a_impl_hexOf : AFn := ⟨2, 14, [.cell 4 2 true], (.seq (.reg [J 2 (.box (.t 0)), J 4 (.alloc [.int .i64 0, .int .i64 0])])
 (.seq (.reg [J 5 (.mv (.p 1)), J 6 (.faddr 0 (.t 2)), J 7 (.load false 1 (.a 6 2)), J 8 (.bin .rem (.t 5) (.a 7 2)), J 9 (.mv (.p 1)), J 10 (.faddr 0 (.t 2)), J 11 (.load false 1 (.a 10 2)), J 12 (.bin .quo (.t 9) (.a 11 2)), J 13 (.build [.int .i64 0, .int .i64 0] [(0, 1, .p 8), (1, 1, .p 12)]), ⟨none, none, .store 2 (.t 4) (.t 13)⟩])
 .ret))⟩
def b_impl_inZone_0 : AC := (.seq (.reg [J 15 (.bin .lss (.t 14) (.t 13))])
 (.seq (.cond (.t 15) .skip (.exit 0))
 (.seq (.block 1 (.seq (.reg [J 16 (.iaddr 4 (.a 12 5) (.t 14)), J 17 (.load true 4 (.a 16 5)), J 10 (.alloc [.int .i64 0, .int .i64 0, .int .i64 0, .int .i64 0]), ⟨none, none, .store 4 (.t 10) (.a 17 5)⟩])
 (.seq (.reg [J 18 (.faddr 0 (.t 10)), J 19 (.load false 1 (.a 18 10)), J 20 (.mv (.p 2)), J 21 (.bin .eql (.a 19 10) (.t 20)), J 22 (.mv (.p 21)), ⟨some 23, some (22, true), .load true 12 (.t 4)⟩, ⟨some 24, some (22, true), .load true 4 (.t 10)⟩, ⟨some 25, some (22, true), .mv (.p 3)⟩, ⟨some 26, some (22, true), .call n_impl_controls [.a 23 4, .a 24 10, .t 25]⟩, J 27 (.pick (.t 22) (.t 26) (.c (.bool false)))])
 (.cond (.t 27) (.seq (.reg [J 8 (.asg (.c (.bool true)))])
 .ret) .skip))))
 (.reg [J 28 (.bin .add (.t 14) (.c (.int .i64 1))), J 14 (.mv (.p 28))]))))
/-- impl.inZone -/
def a_impl_inZone : AFn := ⟨4, 29, [.tmp 8], (.seq (.reg [J 4 (.box (.t 0)), J 5 (.box (.t 1)), J 8 (.asg (.c (.bool false)))])
 (.seq (.seq (.reg [J 11 (.faddr 2 (.t 5)), J 12 (.load false 1 (.a 11 5)), J 13 (.len (.a 12 5)), J 14 (.mv (.c (.int .i64 0)))])
 (.block 0 (.loop [2, 3, 4, 5, 12, 13, 14] [8] b_impl_inZone_0)))
 (.seq (.reg [J 8 (.asg (.c (.bool false)))])
 .ret)))⟩
def b_impl_unitsAt_0 : AC := (.seq (.reg [J 13 (.bin .lss (.t 12) (.t 11))])
 (.seq (.cond (.t 13) .skip (.exit 0))
 (.seq (.block 1 (.seq (.reg [J 14 (.mv (.p 12)), J 15 (.iaddr 4 (.a 10 2) (.t 12)), J 16 (.load true 4 (.a 15 2)), J 7 (.alloc [.int .i64 0, .int .i64 0, .int .i64 0, .int .i64 0]), J 6 (.asg (.p 14)), ⟨none, none, .store 4 (.t 7) (.a 16 2)⟩])
 (.seq (.reg [J 17 (.faddr 2 (.t 7)), J 18 (.load false 1 (.a 17 7)), J 19 (.mv (.p 1)), J 20 (.bin .eql (.a 18 7) (.t 19))])
 (.cond (.t 20) (.reg [J 21 (.rf (.t 5)), J 22 (.mv (.p 6)), J 23 (.bslice 1 1 [.int .i64 0] [(0, .p 22)]), J 24 (.append 1 (.a 21 5) (.t 23)), J 5 (.asg (.t 24))]) .skip))))
 (.reg [J 25 (.bin .add (.t 12) (.c (.int .i64 1))), J 12 (.mv (.p 25))]))))
/-- impl.unitsAt -/
def a_impl_unitsAt : AFn := ⟨2, 27, [.tmp 4], (.seq (.reg [J 2 (.box (.t 0)), J 4 (.asg (.c (.list true 1 [])))])
 (.seq (.reg [J 8 (.bslice 1 0 [.int .i64 0] []), J 5 (.asg (.t 8))])
 (.seq (.seq (.reg [J 9 (.faddr 2 (.t 2)), J 10 (.load false 1 (.a 9 2)), J 11 (.len (.a 10 2)), J 12 (.mv (.c (.int .i64 0)))])
 (.block 0 (.loop [1, 2, 5, 10, 11, 12] [4, 5] b_impl_unitsAt_0)))
 (.seq (.reg [J 26 (.rf (.t 5)), J 4 (.asg (.a 26 5))])
 .ret))))⟩
/-- impl.leaves -/
def a_impl_leaves : AFn := ⟨2, 8, [.tmp 4], (.seq (.reg [J 3 (.box (.p 1)), J 4 (.asg (.c (.bool false)))])
 (.seq (.reg [J 5 (.rf (.t 0)), J 6 (.mkf n_impl_leaves_1 [.t 3]), J 7 (.call n_slices_ContainsFunc_impl_Attempt_impl_Attempt [.a 5 0, .t 6]), J 4 (.asg (.p 7))])
 .ret))⟩
def b_spec_rGood_0 : AC := (.seq (.reg [J 23 (.bin .lss (.t 22) (.t 21))])
 (.seq (.cond (.t 23) .skip (.exit 0))
 (.seq (.block 1 (.seq (.reg [J 24 (.mv (.p 22)), J 25 (.iaddr 5 (.a 20 1) (.t 22)), J 26 (.load true 5 (.a 25 1)), J 4 (.alloc [.str ⟨#[]⟩, .list true 1 [], .int .i64 0, .int .i64 0, .bool false]), J 3 (.asg (.p 24)), ⟨none, none, .store 5 (.t 4) (.a 26 1)⟩])
 (.seq (.reg [J 27 (.faddr 0 (.t 4)), J 28 (.load false 1 (.a 27 4)), J 29 (.call n_spec_rName [.a 28 4]), J 30 (.un .not (.t 29)), J 31 (.mv (.p 30)), ⟨some 32, some (31, false), .faddr 0 (.t 1)⟩, ⟨some 33, some (31, false), .load false 1 (.a 32 1)⟩, ⟨some 34, some (31, false), .faddr 0 (.t 4)⟩, ⟨some 35, some (31, false), .load false 1 (.a 34 4)⟩, ⟨some 36, some (31, false), .call n_spec_rTerrain [.a 33 1, .a 35 4]⟩, ⟨some 37, some (31, false), .mv (.p 3)⟩, ⟨some 38, some (31, false), .bin .neq (.t 36) (.t 37)⟩, J 39 (.pick (.t 31) (.c (.bool true)) (.t 38)), J 40 (.mv (.p 39)), ⟨some 41, some (40, false), .faddr 1 (.t 4)⟩, ⟨some 42, some (40, false), .load false 1 (.a 41 4)⟩, ⟨some 43, some (40, false), .len (.a 42 4)⟩, ⟨some 44, some (40, false), .faddr 1 (.t 1)⟩, ⟨some 45, some (40, false), .load false 1 (.a 44 1)⟩, ⟨some 46, some (40, false), .len (.a 45 1)⟩, ⟨some 47, some (40, false), .bin .neq (.t 43) (.t 46)⟩, J 48 (.pick (.t 40) (.c (.bool true)) (.t 47)), J 49 (.mv (.p 48)), ⟨some 50, some (49, false), .faddr 1 (.t 4)⟩, ⟨some 51, some (49, false), .load false 1 (.a 50 4)⟩, ⟨some 52, some (49, false), .call n_spec_l1All [.a 51 4, .c (.int .i64 0), .c (.int .i64 9)]⟩, ⟨some 53, some (49, false), .un .not (.t 52)⟩, J 54 (.pick (.t 49) (.c (.bool true)) (.t 53)), J 55 (.mv (.p 54)), ⟨some 56, some (55, false), .faddr 2 (.t 4)⟩, ⟨some 57, some (55, false), .load false 1 (.a 56 4)⟩, ⟨some 58, some (55, false), .call n_spec_l1In [.a 57 4, .c (.int .i64 (-3)), .c (.int .i64 3)]⟩, ⟨some 59, some (55, false), .un .not (.t 58)⟩, J 60 (.pick (.t 55) (.c (.bool true)) (.t 59)), J 61 (.mv (.p 60)), ⟨some 62, some (61, false), .faddr 3 (.t 4)⟩, ⟨some 63, some (61, false), .load false 1 (.a 62 4)⟩, ⟨some 64, some (61, false), .call n_spec_l1In [.a 63 4, .c (.int .i64 0), .c (.int .i64 3)]⟩, ⟨some 65, some (61, false), .un .not (.t 64)⟩, J 66 (.pick (.t 61) (.c (.bool true)) (.t 65))])
 (.cond (.t 66) (.seq (.reg [J 2 (.asg (.c (.bool false)))])
 .ret) .skip))))
 (.reg [J 67 (.bin .add (.t 22) (.c (.int .i64 1))), J 22 (.mv (.p 67))]))))
def b_spec_rGood_1 : AC := (.seq (.reg [J 72 (.bin .lss (.t 71) (.t 70))])
 (.seq (.cond (.t 72) .skip (.exit 2))
 (.seq (.block 3 (.seq (.reg [J 73 (.mv (.p 71)), J 74 (.iaddr 6 (.a 69 1) (.t 71)), J 75 (.load true 6 (.a 74 1)), J 6 (.alloc [.str ⟨#[]⟩, .int .i64 0, .int .i64 0, .int .i64 0, .bool false, .int .i64 0]), J 5 (.asg (.p 73)), ⟨none, none, .store 6 (.t 6) (.a 75 1)⟩])
 (.seq (.reg [J 76 (.faddr 0 (.t 6)), J 77 (.load false 1 (.a 76 6)), J 78 (.call n_spec_rName [.a 77 6]), J 79 (.un .not (.t 78)), J 80 (.mv (.p 79)), ⟨some 81, some (80, false), .faddr 1 (.t 1)⟩, ⟨some 82, some (80, false), .load false 1 (.a 81 1)⟩, ⟨some 83, some (80, false), .faddr 0 (.t 6)⟩, ⟨some 84, some (80, false), .load false 1 (.a 83 6)⟩, ⟨some 85, some (80, false), .call n_spec_rKind [.a 82 1, .a 84 6]⟩, ⟨some 86, some (80, false), .mv (.p 5)⟩, ⟨some 87, some (80, false), .bin .neq (.t 85) (.t 86)⟩, J 88 (.pick (.t 80) (.c (.bool true)) (.t 87)), J 89 (.mv (.p 88)), ⟨some 90, some (89, false), .faddr 1 (.t 6)⟩, ⟨some 91, some (89, false), .load false 1 (.a 90 6)⟩, ⟨some 92, some (89, false), .call n_spec_l1In [.a 91 6, .c (.int .i64 1), .c (.int .i64 9)]⟩, ⟨some 93, some (89, false), .un .not (.t 92)⟩, J 94 (.pick (.t 89) (.c (.bool true)) (.t 93)), J 95 (.mv (.p 94)), ⟨some 96, some (95, false), .faddr 2 (.t 6)⟩, ⟨some 97, some (95, false), .load false 1 (.a 96 6)⟩, ⟨some 98, some (95, false), .call n_spec_l1In [.a 97 6, .c (.int .i64 0), .c (.int .i64 9)]⟩, ⟨some 99, some (95, false), .un .not (.t 98)⟩, J 100 (.pick (.t 95) (.c (.bool true)) (.t 99)), J 101 (.mv (.p 100)), ⟨some 102, some (101, false), .faddr 3 (.t 6)⟩, ⟨some 103, some (101, false), .load false 1 (.a 102 6)⟩, ⟨some 104, some (101, false), .call n_spec_l1In [.a 103 6, .c (.int .i64 1), .c (.int .i64 4)]⟩, ⟨some 105, some (101, false), .un .not (.t 104)⟩, J 106 (.pick (.t 101) (.c (.bool true)) (.t 105)), J 107 (.mv (.p 106)), ⟨some 108, some (107, false), .faddr 5 (.t 6)⟩, ⟨some 109, some (107, false), .load false 1 (.a 108 6)⟩, ⟨some 110, some (107, false), .call n_spec_l1In [.a 109 6, .c (.int .i64 0), .c (.int .i64 4)]⟩, ⟨some 111, some (107, false), .un .not (.t 110)⟩, J 112 (.pick (.t 107) (.c (.bool true)) (.t 111))])
 (.cond (.t 112) (.seq (.reg [J 2 (.asg (.c (.bool false)))])
 .ret) .skip))))
 (.reg [J 113 (.bin .add (.t 71) (.c (.int .i64 1))), J 71 (.mv (.p 113))]))))
/-- spec.rGood -/
def a_spec_rGood : AFn := ⟨1, 137, [.tmp 2], (.seq (.reg [J 1 (.box (.t 0)), J 2 (.asg (.c (.bool false)))])
 (.seq (.seq (.reg [J 7 (.faddr 0 (.t 1)), J 8 (.load false 1 (.a 7 1)), J 9 (.len (.a 8 1)), J 10 (.call n_spec_l1In [.t 9, .c (.int .i64 1), .c (.int .i64 6)]), J 11 (.un .not (.t 10)), J 12 (.mv (.p 11)), ⟨some 13, some (12, false), .faddr 1 (.t 1)⟩, ⟨some 14, some (12, false), .load false 1 (.a 13 1)⟩, ⟨some 15, some (12, false), .len (.a 14 1)⟩, ⟨some 16, some (12, false), .call n_spec_l1In [.t 15, .c (.int .i64 1), .c (.int .i64 4)]⟩, ⟨some 17, some (12, false), .un .not (.t 16)⟩, J 18 (.pick (.t 12) (.c (.bool true)) (.t 17))])
 (.cond (.t 18) (.seq (.reg [J 2 (.asg (.c (.bool false)))])
 .ret) .skip))
 (.seq (.seq (.reg [J 19 (.faddr 0 (.t 1)), J 20 (.load false 1 (.a 19 1)), J 21 (.len (.a 20 1)), J 22 (.mv (.c (.int .i64 0)))])
 (.block 0 (.loop [1, 20, 21, 22] [1, 2] b_spec_rGood_0)))
 (.seq (.seq (.reg [J 68 (.faddr 1 (.t 1)), J 69 (.load false 1 (.a 68 1)), J 70 (.len (.a 69 1)), J 71 (.mv (.c (.int .i64 0)))])
 (.block 2 (.loop [1, 69, 70, 71] [1, 2] b_spec_rGood_1)))
 (.seq (.reg [J 114 (.faddr 2 (.t 1)), J 115 (.load false 1 (.a 114 1)), J 116 (.call n_spec_l1In [.a 115 1, .c (.int .i64 1), .c (.int .i64 4)]), J 117 (.mv (.p 116)), ⟨some 118, some (117, true), .faddr 3 (.t 1)⟩, ⟨some 119, some (117, true), .load false 1 (.a 118 1)⟩, ⟨some 120, some (117, true), .call n_spec_l1In [.a 119 1, .c (.int .i64 0), .c (.int .i64 9)]⟩, J 121 (.pick (.t 117) (.t 120) (.c (.bool false))), J 122 (.mv (.p 121)), ⟨some 123, some (122, true), .faddr 4 (.t 1)⟩, ⟨some 124, some (122, true), .load false 1 (.a 123 1)⟩, ⟨some 125, some (122, true), .call n_spec_l1In [.a 124 1, .c (.int .i64 1), .c (.int .i64 9)]⟩, J 126 (.pick (.t 122) (.t 125) (.c (.bool false))), J 127 (.mv (.p 126)), ⟨some 128, some (127, true), .faddr 5 (.t 1)⟩, ⟨some 129, some (127, true), .load false 1 (.a 128 1)⟩, ⟨some 130, some (127, true), .call n_spec_l1In [.a 129 1, .c (.int .i64 0), .c (.int .i64 20)]⟩, J 131 (.pick (.t 127) (.t 130) (.c (.bool false))), J 132 (.mv (.p 131)), ⟨some 133, some (132, true), .faddr 6 (.t 1)⟩, ⟨some 134, some (132, true), .load false 1 (.a 133 1)⟩, ⟨some 135, some (132, true), .call n_spec_l1In [.a 134 1, .c (.int .i64 1), .c (.int .i64 30)]⟩, J 136 (.pick (.t 132) (.t 135) (.c (.bool false))), J 2 (.asg (.p 136))])
 .ret)))))⟩
/-- spec.mGood -/
def a_spec_mGood : AFn := ⟨1, 36, [.tmp 2], (.seq (.reg [J 1 (.box (.t 0)), J 2 (.asg (.c (.bool false)))])
 (.seq (.reg [J 3 (.faddr 0 (.t 1)), J 4 (.load false 1 (.a 3 1)), J 5 (.call n_spec_l1In [.a 4 1, .c (.int .i64 1), .c (.int .i64 10)]), J 6 (.mv (.p 5)), ⟨some 7, some (6, true), .faddr 1 (.t 1)⟩, ⟨some 8, some (6, true), .load false 1 (.a 7 1)⟩, ⟨some 9, some (6, true), .call n_spec_l1In [.a 8 1, .c (.int .i64 1), .c (.int .i64 10)]⟩, J 10 (.pick (.t 6) (.t 9) (.c (.bool false))), J 11 (.mv (.p 10)), ⟨some 12, some (11, true), .faddr 2 (.t 1)⟩, ⟨some 13, some (11, true), .load false 1 (.a 12 1)⟩, ⟨some 14, some (11, true), .len (.a 13 1)⟩, ⟨some 15, some (11, true), .load true 5 (.t 1)⟩, ⟨some 16, some (11, true), .call n_spec_mSize [.a 15 1]⟩, ⟨some 17, some (11, true), .bin .eql (.t 14) (.t 16)⟩, J 18 (.pick (.t 11) (.t 17) (.c (.bool false))), J 19 (.mv (.p 18)), ⟨some 20, some (19, true), .faddr 2 (.t 1)⟩, ⟨some 21, some (19, true), .load false 1 (.a 20 1)⟩, ⟨some 22, some (19, true), .call n_spec_l1All [.a 21 1, .c (.int .i64 0), .c (.int .i64 5)]⟩, J 23 (.pick (.t 19) (.t 22) (.c (.bool false))), J 24 (.mv (.p 23)), ⟨some 25, some (24, true), .load true 5 (.t 1)⟩, ⟨some 26, some (24, true), .faddr 3 (.t 1)⟩, ⟨some 27, some (24, true), .load false 1 (.a 26 1)⟩, ⟨some 28, some (24, true), .call n_spec_mEdges [.a 25 1, .a 27 1]⟩, J 29 (.pick (.t 24) (.t 28) (.c (.bool false))), J 30 (.mv (.p 29)), ⟨some 31, some (30, true), .load true 5 (.t 1)⟩, ⟨some 32, some (30, true), .faddr 4 (.t 1)⟩, ⟨some 33, some (30, true), .load false 1 (.a 32 1)⟩, ⟨some 34, some (30, true), .call n_spec_mEdges [.a 31 1, .a 33 1]⟩, J 35 (.pick (.t 30) (.t 34) (.c (.bool false))), J 2 (.asg (.p 35))])
 .ret))⟩
def b_spec_l1All_0 : AC := (.seq (.reg [J 12 (.bin .lss (.t 11) (.t 10))])
 (.seq (.cond (.t 12) .skip (.exit 0))
 (.seq (.block 1 (.seq (.reg [J 13 (.iaddr 1 (.a 9 0) (.t 11)), J 14 (.load false 1 (.a 13 0)), J 8 (.asg (.p 14))])
 (.seq (.reg [J 15 (.mv (.p 8)), J 16 (.mv (.p 1)), J 17 (.mv (.p 2)), J 18 (.call n_spec_l1In [.t 15, .t 16, .t 17]), J 19 (.un .not (.t 18))])
 (.cond (.t 19) (.seq (.reg [J 6 (.asg (.c (.bool false)))])
 .ret) .skip))))
 (.reg [J 20 (.bin .add (.t 11) (.c (.int .i64 1))), J 11 (.mv (.p 20))]))))
/-- spec.l1All -/
def a_spec_l1All : AFn := ⟨3, 21, [.tmp 6], (.seq (.reg [J 6 (.asg (.c (.bool false)))])
 (.seq (.seq (.reg [J 9 (.rf (.t 0)), J 10 (.len (.a 9 0)), J 11 (.mv (.c (.int .i64 0)))])
 (.block 0 (.loop [0, 1, 2, 9, 10, 11] [6] b_spec_l1All_0)))
 (.seq (.reg [J 6 (.asg (.c (.bool true)))])
 .ret)))⟩
/-- spec.mSize -/
def a_spec_mSize : AFn := ⟨1, 8, [.tmp 2], (.seq (.reg [J 1 (.box (.t 0)), J 2 (.asg (.c (.int .i64 0)))])
 (.seq (.reg [J 3 (.faddr 0 (.t 1)), J 4 (.load false 1 (.a 3 1)), J 5 (.faddr 1 (.t 1)), J 6 (.load false 1 (.a 5 1)), J 7 (.bin .mul (.a 4 1) (.a 6 1)), J 2 (.asg (.p 7))])
 .ret))⟩
/-- spec.oCost -/
def a_spec_oCost : AFn := ⟨3, 31, [.tmp 6], (.seq (.reg [J 3 (.box (.t 0)), J 4 (.box (.t 1)), J 5 (.box (.t 2)), J 6 (.asg (.c (.int .i64 0)))])
 (.seq (.seq (.reg [J 7 (.faddr 1 (.t 5)), J 8 (.load false 1 (.a 7 5)), J 9 (.call n_spec_csPath [.a 8 5]), J 10 (.un .not (.t 9))])
 (.cond (.t 10) (.seq (.reg [J 6 (.asg (.c (.int .i64 (-1))))])
 .ret) .skip))
 (.seq (.reg [J 11 (.load true 12 (.t 3)), J 12 (.faddr 2 (.t 4)), J 13 (.load false 1 (.a 12 4)), J 14 (.faddr 0 (.t 5)), J 15 (.load false 1 (.a 14 5)), J 16 (.iaddr 4 (.a 13 4) (.a 15 5)), J 17 (.faddr 1 (.a 16 4)), J 18 (.load false 1 (.a 17 4)), J 19 (.faddr 1 (.t 4)), J 20 (.load false 1 (.a 19 4)), J 21 (.faddr 2 (.t 4)), J 22 (.load false 1 (.a 21 4)), J 23 (.faddr 0 (.t 5)), J 24 (.load false 1 (.a 23 5)), J 25 (.iaddr 4 (.a 22 4) (.a 24 5)), J 26 (.faddr 2 (.a 25 4)), J 27 (.load false 1 (.a 26 4)), J 28 (.faddr 1 (.t 5)), J 29 (.load false 1 (.a 28 5)), J 30 (.call n_spec_csCost [.a 11 3, .a 18 4, .a 20 4, .a 27 4, .a 29 5]), J 6 (.asg (.p 30))])
 .ret)))⟩
def b_spec_oEnd_0 : AC := (.seq (.reg [J 21 (.bin .lss (.t 20) (.t 19))])
 (.seq (.cond (.t 21) .skip (.exit 0))
 (.seq (.block 1 (.seq (.reg [J 22 (.iaddr 1 (.a 18 5) (.t 20)), J 23 (.load false 1 (.a 22 5)), J 9 (.asg (.p 23))])
 (.reg [J 24 (.faddr 7 (.t 3)), J 25 (.load true 5 (.a 24 3)), J 26 (.mv (.p 7)), J 27 (.mv (.p 9)), J 28 (.call n_spec_mNext [.a 25 3, .t 26, .t 27]), J 7 (.asg (.p 28))])))
 (.reg [J 29 (.bin .add (.t 20) (.c (.int .i64 1))), J 20 (.mv (.p 29))]))))
/-- spec.oEnd -/
def a_spec_oEnd : AFn := ⟨3, 31, [.tmp 6], (.seq (.reg [J 3 (.box (.t 0)), J 4 (.box (.t 1)), J 5 (.box (.t 2)), J 6 (.asg (.c (.int .i64 0)))])
 (.seq (.reg [J 10 (.faddr 2 (.t 4)), J 11 (.load false 1 (.a 10 4)), J 12 (.faddr 0 (.t 5)), J 13 (.load false 1 (.a 12 5)), J 14 (.iaddr 4 (.a 11 4) (.a 13 5)), J 15 (.faddr 2 (.a 14 4)), J 16 (.load false 1 (.a 15 4)), J 7 (.asg (.p 16))])
 (.seq (.seq (.reg [J 17 (.faddr 1 (.t 5)), J 18 (.load false 1 (.a 17 5)), J 19 (.len (.a 18 5)), J 20 (.mv (.c (.int .i64 0)))])
 (.block 0 (.loop [3, 5, 7, 18, 19, 20] [6, 7] b_spec_oEnd_0)))
 (.seq (.reg [J 30 (.mv (.p 7)), J 6 (.asg (.p 30))])
 .ret))))⟩
def b_spec_zExerts_0 : AC := (.seq (.seq (.reg [J 38 (.mv (.p 10)), J 39 (.bin .lss (.t 38) (.c (.int .i64 6)))])
 (.cond (.t 39) .skip (.exit 0)))
 (.seq (.block 1 (.seq (.reg [J 42 (.faddr 7 (.t 4)), J 43 (.load true 5 (.a 42 4)), J 44 (.faddr 2 (.t 9)), J 45 (.load false 1 (.a 44 9)), J 46 (.mv (.p 10)), J 47 (.call n_spec_mNext [.a 43 4, .a 45 9, .t 46]), J 48 (.mv (.p 3)), J 49 (.bin .eql (.t 47) (.t 48))])
 (.cond (.t 49) (.seq (.reg [J 50 (.faddr 7 (.t 4)), J 51 (.load true 5 (.a 50 4)), J 52 (.faddr 2 (.t 9)), J 53 (.load false 1 (.a 52 9)), J 54 (.mv (.p 10)), J 55 (.call n_spec_mRiver [.a 51 4, .a 53 9, .t 54]), J 56 (.un .not (.t 55)), J 57 (.mv (.p 56)), ⟨some 58, some (57, false), .faddr 7 (.t 4)⟩, ⟨some 59, some (57, false), .load true 5 (.a 58 4)⟩, ⟨some 60, some (57, false), .faddr 2 (.t 9)⟩, ⟨some 61, some (57, false), .load false 1 (.a 60 9)⟩, ⟨some 62, some (57, false), .mv (.p 10)⟩, ⟨some 63, some (57, false), .call n_spec_mRoad [.a 59 4, .a 61 9, .t 62]⟩, J 64 (.pick (.t 57) (.c (.bool true)) (.t 63)), J 8 (.asg (.p 64))])
 .ret) .skip)))
 (.reg [J 40 (.mv (.p 10)), J 41 (.bin .add (.t 40) (.c (.int .i64 1))), J 10 (.asg (.p 41))])))
/-- spec.zExerts -/
def a_spec_zExerts : AFn := ⟨4, 65, [.tmp 8], (.seq (.reg [J 4 (.box (.t 0)), J 5 (.box (.t 1)), J 8 (.asg (.c (.bool false)))])
 (.seq (.reg [J 11 (.faddr 2 (.t 5)), J 12 (.load false 1 (.a 11 5)), J 13 (.mv (.p 2)), J 14 (.iaddr 4 (.a 12 5) (.t 13)), J 15 (.load true 4 (.a 14 5)), J 9 (.alloc [.int .i64 0, .int .i64 0, .int .i64 0, .int .i64 0]), ⟨none, none, .store 4 (.t 9) (.a 15 5)⟩])
 (.seq (.seq (.reg [J 16 (.faddr 2 (.t 9)), J 17 (.load false 1 (.a 16 9)), J 18 (.bin .lss (.a 17 9) (.c (.int .i64 0))), J 19 (.mv (.p 18)), ⟨some 20, some (19, false), .faddr 0 (.t 4)⟩, ⟨some 21, some (19, false), .faddr 1 (.a 20 4)⟩, ⟨some 22, some (19, false), .load false 1 (.a 21 4)⟩, ⟨some 23, some (19, false), .faddr 1 (.t 9)⟩, ⟨some 24, some (19, false), .load false 1 (.a 23 9)⟩, ⟨some 25, some (19, false), .iaddr 6 (.a 22 4) (.a 24 9)⟩, ⟨some 26, some (19, false), .faddr 4 (.a 25 4)⟩, ⟨some 27, some (19, false), .load false 1 (.a 26 4)⟩, ⟨some 28, some (19, false), .un .not (.a 27 4)⟩, J 29 (.pick (.t 19) (.c (.bool true)) (.t 28)), J 30 (.mv (.p 29)), ⟨some 31, some (30, false), .load true 12 (.t 4)⟩, ⟨some 32, some (30, false), .faddr 1 (.t 9)⟩, ⟨some 33, some (30, false), .load false 1 (.a 32 9)⟩, ⟨some 34, some (30, false), .mv (.p 3)⟩, ⟨some 35, some (30, false), .call n_spec_bCost [.a 31 4, .a 33 9, .t 34]⟩, ⟨some 36, some (30, false), .bin .eql (.t 35) (.c (.int .i64 0))⟩, J 37 (.pick (.t 30) (.c (.bool true)) (.t 36))])
 (.cond (.t 37) (.seq (.reg [J 8 (.asg (.c (.bool false)))])
 .ret) .skip))
 (.seq (.seq (.reg [J 10 (.asg (.c (.int .i64 0)))])
 (.block 0 (.loop [3, 4, 9, 10] [8] b_spec_zExerts_0)))
 (.seq (.reg [J 8 (.asg (.c (.bool false)))])
 .ret)))))⟩
/-- spec.bTerrain -/
def a_spec_bTerrain : AFn := ⟨2, 16, [.cell 4 5 true], (.seq (.reg [J 2 (.box (.t 0)), J 4 (.alloc [.str ⟨#[]⟩, .list true 1 [], .int .i64 0, .int .i64 0, .bool false])])
 (.seq (.reg [J 5 (.faddr 0 (.t 2)), J 6 (.faddr 0 (.a 5 2)), J 7 (.load false 1 (.a 6 2)), J 8 (.faddr 7 (.t 2)), J 9 (.faddr 2 (.a 8 2)), J 10 (.load false 1 (.a 9 2)), J 11 (.mv (.p 1)), J 12 (.iaddr 1 (.a 10 2) (.t 11)), J 13 (.load false 1 (.a 12 2)), J 14 (.iaddr 5 (.a 7 2) (.a 13 2)), J 15 (.load true 5 (.a 14 2)), ⟨none, none, .store 5 (.t 4) (.a 15 2)⟩])
 .ret))⟩
def b_spec_l1Has_0 : AC := (.seq (.reg [J 10 (.bin .lss (.t 9) (.t 8))])
 (.seq (.cond (.t 10) .skip (.exit 0))
 (.seq (.block 1 (.seq (.reg [J 11 (.iaddr 1 (.a 7 0) (.t 9)), J 12 (.load false 1 (.a 11 0)), J 6 (.asg (.p 12))])
 (.seq (.reg [J 13 (.mv (.p 6)), J 14 (.mv (.p 1)), J 15 (.bin .eql (.t 13) (.t 14))])
 (.cond (.t 15) (.seq (.reg [J 4 (.asg (.c (.bool true)))])
 .ret) .skip))))
 (.reg [J 16 (.bin .add (.t 9) (.c (.int .i64 1))), J 9 (.mv (.p 16))]))))
/-- spec.l1Has -/
def a_spec_l1Has : AFn := ⟨2, 17, [.tmp 4], (.seq (.reg [J 4 (.asg (.c (.bool false)))])
 (.seq (.seq (.reg [J 7 (.rf (.t 0)), J 8 (.len (.a 7 0)), J 9 (.mv (.c (.int .i64 0)))])
 (.block 0 (.loop [0, 1, 7, 8, 9] [4] b_spec_l1Has_0)))
 (.seq (.reg [J 4 (.asg (.c (.bool false)))])
 .ret)))⟩
/-- spec.mEdge -/
def a_spec_mEdge : AFn := ⟨3, 21, [.tmp 6], (.seq (.reg [J 3 (.box (.t 0)), J 6 (.asg (.c (.int .i64 0)))])
 (.seq (.seq (.reg [J 7 (.mv (.p 2)), J 8 (.bin .lss (.t 7) (.c (.int .i64 3)))])
 (.cond (.t 8) (.seq (.reg [J 9 (.mv (.p 1)), J 10 (.bin .mul (.c (.int .i64 3)) (.t 9)), J 11 (.mv (.p 2)), J 12 (.bin .add (.t 10) (.t 11)), J 6 (.asg (.p 12))])
 .ret) .skip))
 (.seq (.reg [J 13 (.load true 5 (.t 3)), J 14 (.mv (.p 1)), J 15 (.mv (.p 2)), J 16 (.call n_spec_mNext [.a 13 3, .t 14, .t 15]), J 17 (.bin .mul (.c (.int .i64 3)) (.t 16)), J 18 (.mv (.p 2)), J 19 (.bin .add (.t 17) (.t 18)), J 20 (.bin .sub (.t 19) (.c (.int .i64 3))), J 6 (.asg (.p 20))])
 .ret)))⟩
/-- impl.goodTerrain -/
def a_impl_goodTerrain : AFn := ⟨2, 32, [.tmp 4], (.seq (.reg [J 2 (.box (.t 0)), J 4 (.asg (.c (.bool false)))])
 (.seq (.seq (.reg [J 5 (.faddr 0 (.t 2)), J 6 (.load false 1 (.a 5 2)), J 7 (.call n_impl_isName [.a 6 2]), J 8 (.un .not (.t 7)), J 9 (.mv (.p 8)), ⟨some 10, some (9, false), .faddr 1 (.t 2)⟩, ⟨some 11, some (9, false), .load false 1 (.a 10 2)⟩, ⟨some 12, some (9, false), .len (.a 11 2)⟩, ⟨some 13, some (9, false), .mv (.p 1)⟩, ⟨some 14, some (9, false), .bin .neq (.t 12) (.t 13)⟩, J 15 (.pick (.t 9) (.c (.bool true)) (.t 14)), J 16 (.mv (.p 15)), ⟨some 17, some (16, false), .faddr 2 (.t 2)⟩, ⟨some 18, some (16, false), .load false 1 (.a 17 2)⟩, ⟨some 19, some (16, false), .call n_impl_inRange [.a 18 2, .c (.int .i64 (-3)), .c (.int .i64 3)]⟩, ⟨some 20, some (16, false), .un .not (.t 19)⟩, J 21 (.pick (.t 16) (.c (.bool true)) (.t 20)), J 22 (.mv (.p 21)), ⟨some 23, some (22, false), .faddr 3 (.t 2)⟩, ⟨some 24, some (22, false), .load false 1 (.a 23 2)⟩, ⟨some 25, some (22, false), .call n_impl_inRange [.a 24 2, .c (.int .i64 0), .c (.int .i64 3)]⟩, ⟨some 26, some (22, false), .un .not (.t 25)⟩, J 27 (.pick (.t 22) (.c (.bool true)) (.t 26))])
 (.cond (.t 27) (.seq (.reg [J 4 (.asg (.c (.bool false)))])
 .ret) .skip))
 (.seq (.reg [J 28 (.faddr 1 (.t 2)), J 29 (.load false 1 (.a 28 2)), J 30 (.call n_slices_ContainsFunc_int_int [.a 29 2, .f n_impl_goodTerrain_1]), J 31 (.un .not (.t 30)), J 4 (.asg (.p 31))])
 .ret)))⟩
/-- impl.terrainIndex -/
def a_impl_terrainIndex : AFn := ⟨2, 8, [.tmp 4], (.seq (.reg [J 3 (.box (.p 1)), J 4 (.asg (.c (.int .i64 0)))])
 (.seq (.reg [J 5 (.rf (.t 0)), J 6 (.mkf n_impl_terrainIndex_1 [.t 3]), J 7 (.call n_slices_IndexFunc_impl_Terrain_impl_Terrain [.a 5 0, .t 6]), J 4 (.asg (.p 7))])
 .ret))⟩
/-- impl.goodKind -/
def a_impl_goodKind : AFn := ⟨1, 26, [.tmp 2], (.seq (.reg [J 1 (.box (.t 0)), J 2 (.asg (.c (.bool false)))])
 (.seq (.reg [J 3 (.faddr 0 (.t 1)), J 4 (.load false 1 (.a 3 1)), J 5 (.call n_impl_isName [.a 4 1]), J 6 (.mv (.p 5)), ⟨some 7, some (6, true), .faddr 1 (.t 1)⟩, ⟨some 8, some (6, true), .load false 1 (.a 7 1)⟩, ⟨some 9, some (6, true), .call n_impl_inRange [.a 8 1, .c (.int .i64 1), .c (.int .i64 9)]⟩, J 10 (.pick (.t 6) (.t 9) (.c (.bool false))), J 11 (.mv (.p 10)), ⟨some 12, some (11, true), .faddr 2 (.t 1)⟩, ⟨some 13, some (11, true), .load false 1 (.a 12 1)⟩, ⟨some 14, some (11, true), .call n_impl_inRange [.a 13 1, .c (.int .i64 0), .c (.int .i64 9)]⟩, J 15 (.pick (.t 11) (.t 14) (.c (.bool false))), J 16 (.mv (.p 15)), ⟨some 17, some (16, true), .faddr 3 (.t 1)⟩, ⟨some 18, some (16, true), .load false 1 (.a 17 1)⟩, ⟨some 19, some (16, true), .call n_impl_inRange [.a 18 1, .c (.int .i64 1), .c (.int .i64 4)]⟩, J 20 (.pick (.t 16) (.t 19) (.c (.bool false))), J 21 (.mv (.p 20)), ⟨some 22, some (21, true), .faddr 5 (.t 1)⟩, ⟨some 23, some (21, true), .load false 1 (.a 22 1)⟩, ⟨some 24, some (21, true), .call n_impl_inRange [.a 23 1, .c (.int .i64 0), .c (.int .i64 4)]⟩, J 25 (.pick (.t 21) (.t 24) (.c (.bool false))), J 2 (.asg (.p 25))])
 .ret))⟩
/-- impl.kindIndex -/
def a_impl_kindIndex : AFn := ⟨2, 8, [.tmp 4], (.seq (.reg [J 3 (.box (.p 1)), J 4 (.asg (.c (.int .i64 0)))])
 (.seq (.reg [J 5 (.rf (.t 0)), J 6 (.mkf n_impl_kindIndex_1 [.t 3]), J 7 (.call n_slices_IndexFunc_impl_Kind_impl_Kind [.a 5 0, .t 6]), J 4 (.asg (.p 7))])
 .ret))⟩
/-- impl.isIndex -/
def a_impl_isIndex : AFn := ⟨2, 9, [.tmp 4], (.seq (.reg [J 4 (.asg (.c (.bool false)))])
 (.seq (.reg [J 5 (.mv (.p 0)), J 6 (.mv (.p 1)), J 7 (.bin .sub (.t 6) (.c (.int .i64 1))), J 8 (.call n_impl_inRange [.t 5, .c (.int .i64 0), .t 7]), J 4 (.asg (.p 8))])
 .ret))⟩
def b_impl_increasing_0 : AC := (.seq (.seq (.reg [J 4 (.mv (.p 3)), J 5 (.rf (.t 0)), J 6 (.len (.a 5 0)), J 7 (.bin .lss (.t 4) (.t 6))])
 (.cond (.t 7) .skip (.exit 0)))
 (.seq (.block 1 (.seq (.reg [J 10 (.rf (.t 0)), J 11 (.mv (.p 3)), J 12 (.bin .sub (.t 11) (.c (.int .i64 1))), J 13 (.iaddr 1 (.a 10 0) (.t 12)), J 14 (.load false 1 (.a 13 0)), J 15 (.rf (.t 0)), J 16 (.mv (.p 3)), J 17 (.iaddr 1 (.a 15 0) (.t 16)), J 18 (.load false 1 (.a 17 0)), J 19 (.bin .geq (.a 14 0) (.a 18 0))])
 (.cond (.t 19) (.seq (.reg [J 2 (.asg (.c (.bool false)))])
 .ret) .skip)))
 (.reg [J 8 (.mv (.p 3)), J 9 (.bin .add (.t 8) (.c (.int .i64 1))), J 3 (.asg (.p 9))])))
/-- impl.increasing -/
def a_impl_increasing : AFn := ⟨1, 20, [.tmp 2], (.seq (.reg [J 2 (.asg (.c (.bool false)))])
 (.seq (.seq (.reg [J 3 (.asg (.c (.int .i64 1)))])
 (.block 0 (.loop [0, 3] [2] b_impl_increasing_0)))
 (.seq (.reg [J 2 (.asg (.c (.bool true)))])
 .ret)))⟩
/-- impl.isEdge -/
def a_impl_isEdge : AFn := ⟨2, 23, [.tmp 4], (.seq (.reg [J 2 (.box (.t 0)), J 4 (.asg (.c (.bool false)))])
 (.seq (.reg [J 5 (.mv (.p 1)), J 6 (.faddr 0 (.t 2)), J 7 (.load false 1 (.a 6 2)), J 8 (.bin .mul (.c (.int .i64 3)) (.a 7 2)), J 9 (.faddr 1 (.t 2)), J 10 (.load false 1 (.a 9 2)), J 11 (.bin .mul (.t 8) (.a 10 2)), J 12 (.bin .sub (.t 11) (.c (.int .i64 1))), J 13 (.call n_impl_inRange [.t 5, .c (.int .i64 0), .t 12]), J 14 (.mv (.p 13)), ⟨some 15, some (14, true), .load true 5 (.t 2)⟩, ⟨some 16, some (14, true), .mv (.p 1)⟩, ⟨some 17, some (14, true), .bin .quo (.t 16) (.c (.int .i64 3))⟩, ⟨some 18, some (14, true), .mv (.p 1)⟩, ⟨some 19, some (14, true), .bin .rem (.t 18) (.c (.int .i64 3))⟩, ⟨some 20, some (14, true), .call n_impl_nextTo [.a 15 2, .t 17, .t 19]⟩, ⟨some 21, some (14, true), .bin .geq (.t 20) (.c (.int .i64 0))⟩, J 22 (.pick (.t 14) (.t 21) (.c (.bool false))), J 4 (.asg (.p 22))])
 .ret))⟩
def b_slices_IndexFunc_int_int_0 : AC := (.seq (.reg [J 9 (.bin .lss (.t 8) (.t 7))])
 (.seq (.cond (.t 9) .skip (.exit 0))
 (.seq (.block 1 (.seq (.reg [J 10 (.mv (.p 8)), J 5 (.asg (.p 10))])
 (.seq (.reg [J 11 (.rf (.t 1)), J 12 (.rf (.t 0)), J 13 (.mv (.p 5)), J 14 (.iaddr 1 (.a 12 0) (.t 13)), J 15 (.load false 1 (.a 14 0)), J 16 (.callv (.a 11 1) [.a 15 0])])
 (.cond (.t 16) (.seq (.reg [J 17 (.mv (.p 5)), J 4 (.asg (.p 17))])
 .ret) .skip))))
 (.reg [J 18 (.bin .add (.t 8) (.c (.int .i64 1))), J 8 (.mv (.p 18))]))))
/-- slices.IndexFunc[[]int,int] -/
def a_slices_IndexFunc_int_int : AFn := ⟨2, 19, [.tmp 4], (.seq (.reg [J 4 (.asg (.c (.int .i64 0)))])
 (.seq (.seq (.reg [J 6 (.rf (.t 0)), J 7 (.len (.a 6 0)), J 8 (.mv (.c (.int .i64 0)))])
 (.block 0 (.loop [0, 1, 7, 8] [4] b_slices_IndexFunc_int_int_0)))
 (.seq (.reg [J 4 (.asg (.c (.int .i64 (-1))))])
 .ret)))⟩
/-- impl.ownsUnit -/
def a_impl_ownsUnit : AFn := ⟨3, 31, [.tmp 6], (.seq (.reg [J 3 (.box (.t 0)), J 6 (.asg (.c (.bool false)))])
 (.seq (.reg [J 7 (.mv (.p 2)), J 8 (.faddr 2 (.t 3)), J 9 (.load false 1 (.a 8 3)), J 10 (.len (.a 9 3)), J 11 (.call n_impl_isIndex [.t 7, .t 10]), J 12 (.mv (.p 11)), ⟨some 13, some (12, true), .faddr 2 (.t 3)⟩, ⟨some 14, some (12, true), .load false 1 (.a 13 3)⟩, ⟨some 15, some (12, true), .mv (.p 2)⟩, ⟨some 16, some (12, true), .iaddr 4 (.a 14 3) (.t 15)⟩, ⟨some 17, some (12, true), .faddr 0 (.a 16 3)⟩, ⟨some 18, some (12, true), .load false 1 (.a 17 3)⟩, ⟨some 19, some (12, true), .mv (.p 1)⟩, ⟨some 20, some (12, true), .bin .eql (.a 18 3) (.t 19)⟩, J 21 (.pick (.t 12) (.t 20) (.c (.bool false))), J 22 (.mv (.p 21)), ⟨some 23, some (22, true), .faddr 2 (.t 3)⟩, ⟨some 24, some (22, true), .load false 1 (.a 23 3)⟩, ⟨some 25, some (22, true), .mv (.p 2)⟩, ⟨some 26, some (22, true), .iaddr 4 (.a 24 3) (.t 25)⟩, ⟨some 27, some (22, true), .faddr 2 (.a 26 3)⟩, ⟨some 28, some (22, true), .load false 1 (.a 27 3)⟩, ⟨some 29, some (22, true), .bin .geq (.a 28 3) (.c (.int .i64 0))⟩, J 30 (.pick (.t 22) (.t 29) (.c (.bool false))), J 6 (.asg (.p 30))])
 .ret))⟩
/-- impl.PathCost -/
def a_impl_PathCost : AFn := ⟨5, 37, [.tmp 10, .tmp 11], (.seq (.reg [J 5 (.box (.t 0)), J 10 (.asg (.c (.int .i64 0))), J 11 (.asg (.c (.bool false)))])
 (.seq (.seq (.reg [J 13 (.load true 12 (.t 5)), J 14 (.mv (.p 1)), J 15 (.mv (.p 2)), J 16 (.mv (.p 3)), J 17 (.call n_impl_isMover [.a 13 5, .t 14, .t 15, .t 16]), J 18 (.un .not (.t 17)), J 19 (.mv (.p 18)), ⟨some 20, some (19, false), .rf (.t 4)⟩, ⟨some 21, some (19, false), .call n_impl_isPath [.a 20 4]⟩, ⟨some 22, some (19, false), .un .not (.t 21)⟩, J 23 (.pick (.t 19) (.c (.bool true)) (.t 22))])
 (.cond (.t 23) (.seq (.reg [J 10 (.asg (.c (.int .i64 0))), J 11 (.asg (.c (.bool false)))])
 .ret) .skip))
 (.seq (.reg [J 24 (.load true 12 (.t 5)), J 25 (.mv (.p 1)), J 26 (.mv (.p 2)), J 27 (.mv (.p 3)), J 28 (.rf (.t 4)), J 29 (.call n_impl_costsAlong [.a 24 5, .t 25, .t 26, .t 27, .a 28 4]), J 12 (.asg (.t 29))])
 (.seq (.seq (.reg [J 30 (.rf (.t 12)), J 31 (.len (.a 30 12)), J 32 (.rf (.t 4)), J 33 (.len (.a 32 4)), J 34 (.bin .lss (.t 31) (.t 33))])
 (.cond (.t 34) (.seq (.reg [J 10 (.asg (.c (.int .i64 0))), J 11 (.asg (.c (.bool false)))])
 .ret) .skip))
 (.seq (.reg [J 35 (.rf (.t 12)), J 36 (.call n_impl_sumOf [.a 35 12]), J 10 (.asg (.p 36)), J 11 (.asg (.c (.bool true)))])
 .ret)))))⟩
def b_impl_neighboursOn_0 : AC := (.seq (.reg [J 10 (.bin .lss (.t 9) (.c (.int .i64 6)))])
 (.seq (.cond (.t 10) .skip (.exit 0))
 (.seq (.block 1 (.seq (.reg [J 11 (.mv (.p 9)), J 6 (.asg (.p 11))])
 (.seq (.reg [J 12 (.load true 5 (.t 2)), J 13 (.mv (.p 1)), J 14 (.mv (.p 6)), J 15 (.call n_impl_nextTo [.a 12 2, .t 13, .t 14]), J 7 (.asg (.p 15))])
 (.seq (.reg [J 16 (.mv (.p 7)), J 17 (.bin .geq (.t 16) (.c (.int .i64 0)))])
 (.cond (.t 17) (.reg [J 18 (.rf (.t 5)), J 19 (.mv (.p 7)), J 20 (.bslice 1 1 [.int .i64 0] [(0, .p 19)]), J 21 (.append 1 (.a 18 5) (.t 20)), J 5 (.asg (.t 21))]) .skip)))))
 (.reg [J 22 (.bin .add (.t 9) (.c (.int .i64 1))), J 9 (.mv (.p 22))]))))
/-- impl.neighboursOn -/
def a_impl_neighboursOn : AFn := ⟨2, 24, [.tmp 4], (.seq (.reg [J 2 (.box (.t 0)), J 4 (.asg (.c (.list true 1 [])))])
 (.seq (.reg [J 8 (.bslice 1 0 [.int .i64 0] []), J 5 (.asg (.t 8))])
 (.seq (.seq (.reg [J 9 (.mv (.c (.int .i64 0)))])
 (.block 0 (.loop [1, 2, 5, 9] [4, 5] b_impl_neighboursOn_0)))
 (.seq (.reg [J 23 (.rf (.t 5)), J 4 (.asg (.a 23 5))])
 .ret))))⟩
/-- impl.endOf -/
def a_impl_endOf : AFn := ⟨3, 36, [.tmp 6], (.seq (.reg [J 3 (.box (.t 0)), J 4 (.box (.t 1)), J 5 (.box (.t 2)), J 6 (.asg (.c (.int .i64 0)))])
 (.seq (.reg [J 10 (.faddr 2 (.t 4)), J 11 (.load false 1 (.a 10 4)), J 12 (.faddr 0 (.t 5)), J 13 (.load false 1 (.a 12 5)), J 14 (.iaddr 4 (.a 11 4) (.a 13 5)), J 15 (.faddr 2 (.a 14 4)), J 16 (.load false 1 (.a 15 4)), J 7 (.asg (.p 16))])
 (.seq (.seq (.reg [J 18 (.faddr 7 (.t 3)), J 19 (.load true 5 (.a 18 3)), J 20 (.mv (.p 7)), J 21 (.faddr 1 (.t 5)), J 22 (.load false 1 (.a 21 5)), J 23 (.call n_impl_pathHexes [.a 19 3, .t 20, .a 22 5]), J 17 (.mv (.t 23)), J 24 (.extract (.t 17) 0), J 25 (.extract (.p 17) 1), J 8 (.asg (.t 24)), J 9 (.asg (.p 25))])
 (.seq (.reg [J 26 (.rf (.t 8)), J 27 (.len (.a 26 8)), J 28 (.bin .gtr (.t 27) (.c (.int .i64 0)))])
 (.cond (.t 28) (.seq (.reg [J 29 (.rf (.t 8)), J 30 (.rf (.t 8)), J 31 (.len (.a 30 8)), J 32 (.bin .sub (.t 31) (.c (.int .i64 1))), J 33 (.iaddr 1 (.a 29 8) (.t 32)), J 34 (.load false 1 (.a 33 8)), J 6 (.asg (.p 34))])
 .ret) .skip)))
 (.seq (.reg [J 35 (.mv (.p 7)), J 6 (.asg (.p 35))])
 .ret))))⟩
/-- impl.terrainAt -/
def a_impl_terrainAt : AFn := ⟨2, 16, [.cell 4 5 true], (.seq (.reg [J 2 (.box (.t 0)), J 4 (.alloc [.str ⟨#[]⟩, .list true 1 [], .int .i64 0, .int .i64 0, .bool false])])
 (.seq (.reg [J 5 (.faddr 0 (.t 2)), J 6 (.faddr 0 (.a 5 2)), J 7 (.load false 1 (.a 6 2)), J 8 (.faddr 7 (.t 2)), J 9 (.faddr 2 (.a 8 2)), J 10 (.load false 1 (.a 9 2)), J 11 (.mv (.p 1)), J 12 (.iaddr 1 (.a 10 2) (.t 11)), J 13 (.load false 1 (.a 12 2)), J 14 (.iaddr 5 (.a 7 2) (.a 13 2)), J 15 (.load true 5 (.a 14 2)), ⟨none, none, .store 5 (.t 4) (.a 15 2)⟩])
 .ret))⟩
def b_slices_Index_int_int_0 : AC := (.seq (.reg [J 9 (.bin .lss (.t 8) (.t 7))])
 (.seq (.cond (.t 9) .skip (.exit 0))
 (.seq (.block 1 (.seq (.reg [J 10 (.mv (.p 8)), J 5 (.asg (.p 10))])
 (.seq (.reg [J 11 (.mv (.p 1)), J 12 (.rf (.t 0)), J 13 (.mv (.p 5)), J 14 (.iaddr 1 (.a 12 0) (.t 13)), J 15 (.load false 1 (.a 14 0)), J 16 (.bin .eql (.t 11) (.a 15 0))])
 (.cond (.t 16) (.seq (.reg [J 17 (.mv (.p 5)), J 4 (.asg (.p 17))])
 .ret) .skip))))
 (.reg [J 18 (.bin .add (.t 8) (.c (.int .i64 1))), J 8 (.mv (.p 18))]))))
/-- slices.Index[[]int,int] -/
def a_slices_Index_int_int : AFn := ⟨2, 19, [.tmp 4], (.seq (.reg [J 4 (.asg (.c (.int .i64 0)))])
 (.seq (.seq (.reg [J 6 (.rf (.t 0)), J 7 (.len (.a 6 0)), J 8 (.mv (.c (.int .i64 0)))])
 (.block 0 (.loop [0, 1, 7, 8] [4] b_slices_Index_int_int_0)))
 (.seq (.reg [J 4 (.asg (.c (.int .i64 (-1))))])
 .ret)))⟩
def b_impl_controls_0 : AC := (.seq (.reg [J 31 (.bin .lss (.t 30) (.c (.int .i64 6)))])
 (.seq (.cond (.t 31) .skip (.exit 0))
 (.seq (.block 1 (.seq (.reg [J 32 (.mv (.p 30)), J 7 (.asg (.p 32))])
 (.seq (.reg [J 33 (.faddr 7 (.t 3)), J 34 (.load true 5 (.a 33 3)), J 35 (.faddr 2 (.t 4)), J 36 (.load false 1 (.a 35 4)), J 37 (.mv (.p 7)), J 38 (.call n_impl_nextTo [.a 34 3, .a 36 4, .t 37]), J 39 (.mv (.p 2)), J 40 (.bin .eql (.t 38) (.t 39))])
 (.cond (.t 40) (.seq (.reg [J 41 (.faddr 7 (.t 3)), J 42 (.load true 5 (.a 41 3)), J 43 (.faddr 7 (.t 3)), J 44 (.load true 5 (.a 43 3)), J 45 (.faddr 2 (.t 4)), J 46 (.load false 1 (.a 45 4)), J 47 (.mv (.p 7)), J 48 (.call n_impl_edgeOf [.a 44 3, .a 46 4, .t 47]), J 49 (.call n_impl_crossesFreely [.a 42 3, .t 48]), J 6 (.asg (.p 49))])
 .ret) .skip))))
 (.reg [J 50 (.bin .add (.t 30) (.c (.int .i64 1))), J 30 (.mv (.p 50))]))))
/-- impl.controls -/
def a_impl_controls : AFn := ⟨3, 51, [.tmp 6], (.seq (.reg [J 3 (.box (.t 0)), J 4 (.box (.t 1)), J 6 (.asg (.c (.bool false)))])
 (.seq (.seq (.reg [J 8 (.faddr 2 (.t 4)), J 9 (.load false 1 (.a 8 4)), J 10 (.bin .lss (.a 9 4) (.c (.int .i64 0))), J 11 (.mv (.p 10)), ⟨some 12, some (11, false), .faddr 0 (.t 3)⟩, ⟨some 13, some (11, false), .faddr 1 (.a 12 3)⟩, ⟨some 14, some (11, false), .load false 1 (.a 13 3)⟩, ⟨some 15, some (11, false), .faddr 1 (.t 4)⟩, ⟨some 16, some (11, false), .load false 1 (.a 15 4)⟩, ⟨some 17, some (11, false), .iaddr 6 (.a 14 3) (.a 16 4)⟩, ⟨some 18, some (11, false), .faddr 4 (.a 17 3)⟩, ⟨some 19, some (11, false), .load false 1 (.a 18 3)⟩, ⟨some 20, some (11, false), .un .not (.a 19 3)⟩, J 21 (.pick (.t 11) (.c (.bool true)) (.t 20)), J 22 (.mv (.p 21)), ⟨some 23, some (22, false), .load true 12 (.t 3)⟩, ⟨some 24, some (22, false), .faddr 1 (.t 4)⟩, ⟨some 25, some (22, false), .load false 1 (.a 24 4)⟩, ⟨some 26, some (22, false), .mv (.p 2)⟩, ⟨some 27, some (22, false), .call n_impl_enterCost [.a 23 3, .a 25 4, .t 26]⟩, ⟨some 28, some (22, false), .bin .eql (.t 27) (.c (.int .i64 0))⟩, J 29 (.pick (.t 22) (.c (.bool true)) (.t 28))])
 (.cond (.t 29) (.seq (.reg [J 6 (.asg (.c (.bool false)))])
 .ret) .skip))
 (.seq (.seq (.reg [J 30 (.mv (.c (.int .i64 0)))])
 (.block 0 (.loop [2, 3, 4, 30] [6] b_impl_controls_0)))
 (.seq (.reg [J 6 (.asg (.c (.bool false)))])
 .ret))))⟩
/-- slices.ContainsFunc[[]impl.Attempt,impl.Attempt] -/
def a_slices_ContainsFunc_impl_Attempt_impl_Attempt : AFn := ⟨2, 9, [.tmp 4], (.seq (.reg [J 4 (.asg (.c (.bool false)))])
 (.seq (.reg [J 5 (.rf (.t 0)), J 6 (.rf (.t 1)), J 7 (.call n_slices_IndexFunc_impl_Attempt_impl_Attempt [.a 5 0, .a 6 1]), J 8 (.bin .geq (.t 7) (.c (.int .i64 0))), J 4 (.asg (.p 8))])
 .ret))⟩
/-- impl.leaves$1 -/
def a_impl_leaves_1 : AFn := ⟨2, 8, [.tmp 3], (.seq (.reg [J 2 (.box (.t 0)), J 3 (.asg (.c (.bool false)))])
 (.seq (.reg [J 4 (.faddr 0 (.t 2)), J 5 (.load false 1 (.a 4 2)), J 6 (.load false 1 (.t 1)), J 7 (.bin .eql (.a 5 2) (.a 6 1)), J 3 (.asg (.p 7))])
 .ret))⟩
def b_spec_rName_0 : AC := (.seq (.seq (.reg [J 4 (.mv (.p 3)), J 5 (.mv (.p 0)), J 6 (.slen (.t 5)), J 7 (.bin .lss (.t 4) (.t 6))])
 (.cond (.t 7) .skip (.exit 0)))
 (.seq (.block 1 (.seq (.reg [J 10 (.mv (.p 0)), J 11 (.mv (.p 3)), J 12 (.sidx (.t 10) (.t 11)), J 13 (.bin .lss (.t 12) (.c (.int .u8 97))), J 14 (.mv (.p 13)), ⟨some 15, some (14, false), .mv (.p 0)⟩, ⟨some 16, some (14, false), .mv (.p 3)⟩, ⟨some 17, some (14, false), .sidx (.t 15) (.t 16)⟩, ⟨some 18, some (14, false), .bin .gtr (.t 17) (.c (.int .u8 122))⟩, J 19 (.pick (.t 14) (.c (.bool true)) (.t 18))])
 (.cond (.t 19) (.seq (.reg [J 2 (.asg (.c (.bool false)))])
 .ret) .skip)))
 (.reg [J 8 (.mv (.p 3)), J 9 (.bin .add (.t 8) (.c (.int .i64 1))), J 3 (.asg (.p 9))])))
/-- spec.rName -/
def a_spec_rName : AFn := ⟨1, 23, [.tmp 2], (.seq (.reg [J 2 (.asg (.c (.bool false)))])
 (.seq (.seq (.reg [J 3 (.asg (.c (.int .i64 0)))])
 (.block 0 (.loop [0, 3] [0, 2] b_spec_rName_0)))
 (.seq (.reg [J 20 (.mv (.p 0)), J 21 (.slen (.t 20)), J 22 (.call n_spec_l1In [.t 21, .c (.int .i64 1), .c (.int .i64 8)]), J 2 (.asg (.p 22))])
 .ret)))⟩
def b_spec_rTerrain_0 : AC := (.seq (.reg [J 10 (.bin .lss (.t 9) (.t 8))])
 (.seq (.cond (.t 10) .skip (.exit 0))
 (.seq (.block 1 (.seq (.reg [J 11 (.mv (.p 9)), J 12 (.iaddr 5 (.a 7 0) (.t 9)), J 13 (.load true 5 (.a 12 0)), J 6 (.alloc [.str ⟨#[]⟩, .list true 1 [], .int .i64 0, .int .i64 0, .bool false]), J 5 (.asg (.p 11)), ⟨none, none, .store 5 (.t 6) (.a 13 0)⟩])
 (.seq (.reg [J 14 (.faddr 0 (.t 6)), J 15 (.load false 1 (.a 14 6)), J 16 (.mv (.p 1)), J 17 (.bin .eql (.a 15 6) (.t 16))])
 (.cond (.t 17) (.seq (.reg [J 18 (.mv (.p 5)), J 4 (.asg (.p 18))])
 .ret) .skip))))
 (.reg [J 19 (.bin .add (.t 9) (.c (.int .i64 1))), J 9 (.mv (.p 19))]))))
/-- spec.rTerrain -/
def a_spec_rTerrain : AFn := ⟨2, 20, [.tmp 4], (.seq (.reg [J 4 (.asg (.c (.int .i64 0)))])
 (.seq (.seq (.reg [J 7 (.rf (.t 0)), J 8 (.len (.a 7 0)), J 9 (.mv (.c (.int .i64 0)))])
 (.block 0 (.loop [0, 1, 7, 8, 9] [4] b_spec_rTerrain_0)))
 (.seq (.reg [J 4 (.asg (.c (.int .i64 (-1))))])
 .ret)))⟩
def b_spec_rKind_0 : AC := (.seq (.reg [J 10 (.bin .lss (.t 9) (.t 8))])
 (.seq (.cond (.t 10) .skip (.exit 0))
 (.seq (.block 1 (.seq (.reg [J 11 (.mv (.p 9)), J 12 (.iaddr 6 (.a 7 0) (.t 9)), J 13 (.load true 6 (.a 12 0)), J 6 (.alloc [.str ⟨#[]⟩, .int .i64 0, .int .i64 0, .int .i64 0, .bool false, .int .i64 0]), J 5 (.asg (.p 11)), ⟨none, none, .store 6 (.t 6) (.a 13 0)⟩])
 (.seq (.reg [J 14 (.faddr 0 (.t 6)), J 15 (.load false 1 (.a 14 6)), J 16 (.mv (.p 1)), J 17 (.bin .eql (.a 15 6) (.t 16))])
 (.cond (.t 17) (.seq (.reg [J 18 (.mv (.p 5)), J 4 (.asg (.p 18))])
 .ret) .skip))))
 (.reg [J 19 (.bin .add (.t 9) (.c (.int .i64 1))), J 9 (.mv (.p 19))]))))
/-- spec.rKind -/
def a_spec_rKind : AFn := ⟨2, 20, [.tmp 4], (.seq (.reg [J 4 (.asg (.c (.int .i64 0)))])
 (.seq (.seq (.reg [J 7 (.rf (.t 0)), J 8 (.len (.a 7 0)), J 9 (.mv (.c (.int .i64 0)))])
 (.block 0 (.loop [0, 1, 7, 8, 9] [4] b_spec_rKind_0)))
 (.seq (.reg [J 4 (.asg (.c (.int .i64 (-1))))])
 .ret)))⟩
def b_spec_mEdges_0 : AC := (.seq (.reg [J 10 (.bin .lss (.t 9) (.t 8))])
 (.seq (.cond (.t 10) .skip (.exit 0))
 (.seq (.block 1 (.seq (.reg [J 11 (.iaddr 1 (.a 7 1) (.t 9)), J 12 (.load false 1 (.a 11 1)), J 6 (.asg (.p 12))])
 (.seq (.reg [J 13 (.mv (.p 6)), J 14 (.load true 5 (.t 2)), J 15 (.call n_spec_mSize [.a 14 2]), J 16 (.bin .mul (.c (.int .i64 3)) (.t 15)), J 17 (.bin .sub (.t 16) (.c (.int .i64 1))), J 18 (.call n_spec_l1In [.t 13, .c (.int .i64 0), .t 17]), J 19 (.un .not (.t 18)), J 20 (.mv (.p 19)), ⟨some 21, some (20, false), .load true 5 (.t 2)⟩, ⟨some 22, some (20, false), .mv (.p 6)⟩, ⟨some 23, some (20, false), .bin .quo (.t 22) (.c (.int .i64 3))⟩, ⟨some 24, some (20, false), .mv (.p 6)⟩, ⟨some 25, some (20, false), .bin .rem (.t 24) (.c (.int .i64 3))⟩, ⟨some 26, some (20, false), .call n_spec_mNext [.a 21 2, .t 23, .t 25]⟩, ⟨some 27, some (20, false), .bin .lss (.t 26) (.c (.int .i64 0))⟩, J 28 (.pick (.t 20) (.c (.bool true)) (.t 27))])
 (.cond (.t 28) (.seq (.reg [J 4 (.asg (.c (.bool false)))])
 .ret) .skip))))
 (.reg [J 29 (.bin .add (.t 9) (.c (.int .i64 1))), J 9 (.mv (.p 29))]))))
/-- spec.mEdges -/
def a_spec_mEdges : AFn := ⟨2, 36, [.tmp 4], (.seq (.reg [J 2 (.box (.t 0)), J 4 (.asg (.c (.bool false)))])
 (.seq (.seq (.reg [J 7 (.rf (.t 1)), J 8 (.len (.a 7 1)), J 9 (.mv (.c (.int .i64 0)))])
 (.block 0 (.loop [1, 2, 7, 8, 9] [1, 2, 4] b_spec_mEdges_0)))
 (.seq (.reg [J 30 (.rf (.t 1)), J 31 (.load true 5 (.t 2)), J 32 (.call n_spec_mSize [.a 31 2]), J 33 (.bin .mul (.c (.int .i64 3)) (.t 32)), J 34 (.bin .sub (.t 33) (.c (.int .i64 1))), J 35 (.call n_spec_l1Rising [.a 30 1, .c (.int .i64 0), .t 34]), J 4 (.asg (.p 35))])
 .ret)))⟩
/-- spec.csPath -/
def a_spec_csPath : AFn := ⟨1, 10, [.tmp 2], (.seq (.reg [J 2 (.asg (.c (.bool false)))])
 (.seq (.reg [J 3 (.rf (.t 0)), J 4 (.len (.a 3 0)), J 5 (.bin .leq (.t 4) (.c (.int .i64 9))), J 6 (.mv (.p 5)), ⟨some 7, some (6, true), .rf (.t 0)⟩, ⟨some 8, some (6, true), .call n_spec_l1All [.a 7 0, .c (.int .i64 0), .c (.int .i64 5)]⟩, J 9 (.pick (.t 6) (.t 8) (.c (.bool false))), J 2 (.asg (.p 9))])
 .ret))⟩
def b_spec_csCost_0 : AC := (.seq (.reg [J 18 (.bin .lss (.t 17) (.t 16))])
 (.seq (.cond (.t 18) .skip (.exit 0))
 (.seq (.block 1 (.seq (.reg [J 19 (.iaddr 1 (.a 15 4) (.t 17)), J 20 (.load false 1 (.a 19 4)), J 13 (.asg (.p 20))])
 (.seq (.reg [J 21 (.load true 12 (.t 5)), J 22 (.mv (.p 1)), J 23 (.mv (.p 3)), J 24 (.mv (.p 13)), J 25 (.mv (.p 2)), J 26 (.call n_spec_cStep [.a 21 5, .t 22, .t 23, .t 24, .t 25]), J 14 (.asg (.p 26))])
 (.seq (.seq (.reg [J 27 (.mv (.p 14)), J 28 (.bin .eql (.t 27) (.c (.int .i64 0)))])
 (.cond (.t 28) (.seq (.reg [J 10 (.asg (.c (.int .i64 (-1))))])
 .ret) .skip))
 (.seq (.reg [J 29 (.mv (.p 11)), J 30 (.mv (.p 14)), J 31 (.bin .add (.t 29) (.t 30)), J 11 (.asg (.p 31))])
 (.reg [J 32 (.faddr 7 (.t 5)), J 33 (.load true 5 (.a 32 5)), J 34 (.mv (.p 3)), J 35 (.mv (.p 13)), J 36 (.call n_spec_mNext [.a 33 5, .t 34, .t 35]), J 3 (.asg (.p 36))]))))))
 (.reg [J 37 (.bin .add (.t 17) (.c (.int .i64 1))), J 17 (.mv (.p 37))]))))
/-- spec.csCost -/
def a_spec_csCost : AFn := ⟨5, 39, [.tmp 10], (.seq (.reg [J 5 (.box (.t 0)), J 10 (.asg (.c (.int .i64 0)))])
 (.seq (.reg [J 11 (.asg (.c (.int .i64 0)))])
 (.seq (.seq (.reg [J 15 (.rf (.t 4)), J 16 (.len (.a 15 4)), J 17 (.mv (.c (.int .i64 0)))])
 (.block 0 (.loop [1, 2, 3, 4, 5, 11, 15, 16, 17] [10, 11] b_spec_csCost_0)))
 (.seq (.reg [J 38 (.mv (.p 11)), J 10 (.asg (.p 38))])
 .ret))))⟩
def b_impl_isName_0 : AC := (.seq (.seq (.reg [J 4 (.mv (.p 3)), J 5 (.mv (.p 0)), J 6 (.slen (.t 5)), J 7 (.bin .lss (.t 4) (.t 6))])
 (.cond (.t 7) .skip (.exit 0)))
 (.seq (.block 1 (.seq (.reg [J 10 (.mv (.p 0)), J 11 (.mv (.p 3)), J 12 (.sidx (.t 10) (.t 11)), J 13 (.bin .lss (.t 12) (.c (.int .u8 97))), J 14 (.mv (.p 13)), ⟨some 15, some (14, false), .mv (.p 0)⟩, ⟨some 16, some (14, false), .mv (.p 3)⟩, ⟨some 17, some (14, false), .sidx (.t 15) (.t 16)⟩, ⟨some 18, some (14, false), .bin .gtr (.t 17) (.c (.int .u8 122))⟩, J 19 (.pick (.t 14) (.c (.bool true)) (.t 18))])
 (.cond (.t 19) (.seq (.reg [J 2 (.asg (.c (.bool false)))])
 .ret) .skip)))
 (.reg [J 8 (.mv (.p 3)), J 9 (.bin .add (.t 8) (.c (.int .i64 1))), J 3 (.asg (.p 9))])))
/-- impl.isName -/
def a_impl_isName : AFn := ⟨1, 23, [.tmp 2], (.seq (.reg [J 2 (.asg (.c (.bool false)))])
 (.seq (.seq (.reg [J 3 (.asg (.c (.int .i64 0)))])
 (.block 0 (.loop [0, 3] [0, 2] b_impl_isName_0)))
 (.seq (.reg [J 20 (.mv (.p 0)), J 21 (.slen (.t 20)), J 22 (.call n_impl_inRange [.t 21, .c (.int .i64 1), .c (.int .i64 8)]), J 2 (.asg (.p 22))])
 .ret)))⟩
/-- impl.goodTerrain$1 -/
def a_impl_goodTerrain_1 : AFn := ⟨1, 6, [.tmp 2], (.seq (.reg [J 2 (.asg (.c (.bool false)))])
 (.seq (.reg [J 3 (.mv (.p 0)), J 4 (.call n_impl_inRange [.t 3, .c (.int .i64 0), .c (.int .i64 9)]), J 5 (.un .not (.t 4)), J 2 (.asg (.p 5))])
 .ret))⟩
def b_slices_IndexFunc_impl_Terrain_impl_Terrain_0 : AC := (.seq (.reg [J 9 (.bin .lss (.t 8) (.t 7))])
 (.seq (.cond (.t 9) .skip (.exit 0))
 (.seq (.block 1 (.seq (.reg [J 10 (.mv (.p 8)), J 5 (.asg (.p 10))])
 (.seq (.reg [J 11 (.rf (.t 1)), J 12 (.rf (.t 0)), J 13 (.mv (.p 5)), J 14 (.iaddr 5 (.a 12 0) (.t 13)), J 15 (.load true 5 (.a 14 0)), J 16 (.callv (.a 11 1) [.a 15 0])])
 (.cond (.t 16) (.seq (.reg [J 17 (.mv (.p 5)), J 4 (.asg (.p 17))])
 .ret) .skip))))
 (.reg [J 18 (.bin .add (.t 8) (.c (.int .i64 1))), J 8 (.mv (.p 18))]))))
/-- slices.IndexFunc[[]impl.Terrain,impl.Terrain] -/
def a_slices_IndexFunc_impl_Terrain_impl_Terrain : AFn := ⟨2, 19, [.tmp 4], (.seq (.reg [J 4 (.asg (.c (.int .i64 0)))])
 (.seq (.seq (.reg [J 6 (.rf (.t 0)), J 7 (.len (.a 6 0)), J 8 (.mv (.c (.int .i64 0)))])
 (.block 0 (.loop [0, 1, 7, 8] [4] b_slices_IndexFunc_impl_Terrain_impl_Terrain_0)))
 (.seq (.reg [J 4 (.asg (.c (.int .i64 (-1))))])
 .ret)))⟩
/-- impl.terrainIndex$1 -/
def a_impl_terrainIndex_1 : AFn := ⟨2, 8, [.tmp 3], (.seq (.reg [J 2 (.box (.t 0)), J 3 (.asg (.c (.bool false)))])
 (.seq (.reg [J 4 (.faddr 0 (.t 2)), J 5 (.load false 1 (.a 4 2)), J 6 (.load false 1 (.t 1)), J 7 (.bin .eql (.a 5 2) (.a 6 1)), J 3 (.asg (.p 7))])
 .ret))⟩
def b_slices_IndexFunc_impl_Kind_impl_Kind_0 : AC := (.seq (.reg [J 9 (.bin .lss (.t 8) (.t 7))])
 (.seq (.cond (.t 9) .skip (.exit 0))
 (.seq (.block 1 (.seq (.reg [J 10 (.mv (.p 8)), J 5 (.asg (.p 10))])
 (.seq (.reg [J 11 (.rf (.t 1)), J 12 (.rf (.t 0)), J 13 (.mv (.p 5)), J 14 (.iaddr 6 (.a 12 0) (.t 13)), J 15 (.load true 6 (.a 14 0)), J 16 (.callv (.a 11 1) [.a 15 0])])
 (.cond (.t 16) (.seq (.reg [J 17 (.mv (.p 5)), J 4 (.asg (.p 17))])
 .ret) .skip))))
 (.reg [J 18 (.bin .add (.t 8) (.c (.int .i64 1))), J 8 (.mv (.p 18))]))))
/-- slices.IndexFunc[[]impl.Kind,impl.Kind] -/
def a_slices_IndexFunc_impl_Kind_impl_Kind : AFn := ⟨2, 19, [.tmp 4], (.seq (.reg [J 4 (.asg (.c (.int .i64 0)))])
 (.seq (.seq (.reg [J 6 (.rf (.t 0)), J 7 (.len (.a 6 0)), J 8 (.mv (.c (.int .i64 0)))])
 (.block 0 (.loop [0, 1, 7, 8] [4] b_slices_IndexFunc_impl_Kind_impl_Kind_0)))
 (.seq (.reg [J 4 (.asg (.c (.int .i64 (-1))))])
 .ret)))⟩
/-- impl.kindIndex$1 -/
def a_impl_kindIndex_1 : AFn := ⟨2, 8, [.tmp 3], (.seq (.reg [J 2 (.box (.t 0)), J 3 (.asg (.c (.bool false)))])
 (.seq (.reg [J 4 (.faddr 0 (.t 2)), J 5 (.load false 1 (.a 4 2)), J 6 (.load false 1 (.t 1)), J 7 (.bin .eql (.a 5 2) (.a 6 1)), J 3 (.asg (.p 7))])
 .ret))⟩
/-- impl.isMover -/
def a_impl_isMover : AFn := ⟨4, 22, [.tmp 8], (.seq (.reg [J 4 (.box (.t 0)), J 8 (.asg (.c (.bool false)))])
 (.seq (.reg [J 9 (.load true 12 (.t 4)), J 10 (.mv (.p 1)), J 11 (.call n_impl_isKindOf [.a 9 4, .t 10]), J 12 (.mv (.p 11)), ⟨some 13, some (12, true), .mv (.p 2)⟩, ⟨some 14, some (12, true), .call n_impl_isWeather [.t 13]⟩, J 15 (.pick (.t 12) (.t 14) (.c (.bool false))), J 16 (.mv (.p 15)), ⟨some 17, some (16, true), .mv (.p 3)⟩, ⟨some 18, some (16, true), .load true 12 (.t 4)⟩, ⟨some 19, some (16, true), .call n_impl_sizeOf [.a 18 4]⟩, ⟨some 20, some (16, true), .call n_impl_isIndex [.t 17, .t 19]⟩, J 21 (.pick (.t 16) (.t 20) (.c (.bool false))), J 8 (.asg (.p 21))])
 .ret))⟩
/-- impl.isPath -/
def a_impl_isPath : AFn := ⟨1, 11, [.tmp 2], (.seq (.reg [J 2 (.asg (.c (.bool false)))])
 (.seq (.reg [J 3 (.rf (.t 0)), J 4 (.len (.a 3 0)), J 5 (.bin .leq (.t 4) (.c (.int .i64 9))), J 6 (.mv (.p 5)), ⟨some 7, some (6, true), .rf (.t 0)⟩, ⟨some 8, some (6, true), .call n_slices_ContainsFunc_int_int [.a 7 0, .f n_impl_isPath_1]⟩, ⟨some 9, some (6, true), .un .not (.t 8)⟩, J 10 (.pick (.t 6) (.t 9) (.c (.bool false))), J 2 (.asg (.p 10))])
 .ret))⟩
def b_impl_costsAlong_0 : AC := (.seq (.reg [J 19 (.bin .lss (.t 18) (.t 17))])
 (.seq (.cond (.t 19) .skip (.exit 0))
 (.seq (.block 1 (.seq (.reg [J 20 (.iaddr 1 (.a 16 4) (.t 18)), J 21 (.load false 1 (.a 20 4)), J 13 (.asg (.p 21))])
 (.seq (.reg [J 22 (.load true 12 (.t 5)), J 23 (.mv (.p 1)), J 24 (.mv (.p 2)), J 25 (.mv (.p 3)), J 26 (.mv (.p 13)), J 27 (.call n_impl_stepCost [.a 22 5, .t 23, .t 24, .t 25, .t 26]), J 14 (.asg (.p 27))])
 (.seq (.seq (.reg [J 28 (.mv (.p 14)), J 29 (.bin .eql (.t 28) (.c (.int .i64 0)))])
 (.cond (.t 29) (.exit 0) .skip))
 (.seq (.reg [J 30 (.rf (.t 11)), J 31 (.mv (.p 14)), J 32 (.bslice 1 1 [.int .i64 0] [(0, .p 31)]), J 33 (.append 1 (.a 30 11) (.t 32)), J 11 (.asg (.t 33))])
 (.reg [J 34 (.faddr 7 (.t 5)), J 35 (.load true 5 (.a 34 5)), J 36 (.mv (.p 3)), J 37 (.mv (.p 13)), J 38 (.call n_impl_nextTo [.a 35 5, .t 36, .t 37]), J 3 (.asg (.p 38))]))))))
 (.reg [J 39 (.bin .add (.t 18) (.c (.int .i64 1))), J 18 (.mv (.p 39))]))))
/-- impl.costsAlong -/
def a_impl_costsAlong : AFn := ⟨5, 41, [.tmp 10], (.seq (.reg [J 5 (.box (.t 0)), J 10 (.asg (.c (.list true 1 [])))])
 (.seq (.reg [J 15 (.bslice 1 0 [.int .i64 0] []), J 11 (.asg (.t 15))])
 (.seq (.seq (.reg [J 16 (.rf (.t 4)), J 17 (.len (.a 16 4)), J 18 (.mv (.c (.int .i64 0)))])
 (.block 0 (.loop [1, 2, 3, 4, 5, 11, 16, 17, 18] [10, 11] b_impl_costsAlong_0)))
 (.seq (.reg [J 40 (.rf (.t 11)), J 10 (.asg (.a 40 11))])
 .ret))))⟩
def b_impl_sumOf_0 : AC := (.seq (.reg [J 9 (.bin .lss (.t 8) (.t 7))])
 (.seq (.cond (.t 9) .skip (.exit 0))
 (.seq (.block 1 (.seq (.reg [J 10 (.iaddr 1 (.a 6 0) (.t 8)), J 11 (.load false 1 (.a 10 0)), J 5 (.asg (.p 11))])
 (.reg [J 12 (.mv (.p 3)), J 13 (.mv (.p 5)), J 14 (.bin .add (.t 12) (.t 13)), J 3 (.asg (.p 14))])))
 (.reg [J 15 (.bin .add (.t 8) (.c (.int .i64 1))), J 8 (.mv (.p 15))]))))
/-- impl.sumOf -/
def a_impl_sumOf : AFn := ⟨1, 17, [.tmp 2], (.seq (.reg [J 2 (.asg (.c (.int .i64 0)))])
 (.seq (.reg [J 3 (.asg (.c (.int .i64 0)))])
 (.seq (.seq (.reg [J 6 (.rf (.t 0)), J 7 (.len (.a 6 0)), J 8 (.mv (.c (.int .i64 0)))])
 (.block 0 (.loop [0, 3, 6, 7, 8] [2, 3] b_impl_sumOf_0)))
 (.seq (.reg [J 16 (.mv (.p 3)), J 2 (.asg (.p 16))])
 .ret))))⟩
def b_impl_pathHexes_0 : AC := (.seq (.reg [J 15 (.bin .lss (.t 14) (.t 13))])
 (.seq (.cond (.t 15) .skip (.exit 0))
 (.seq (.block 1 (.seq (.reg [J 16 (.iaddr 1 (.a 12 2) (.t 14)), J 17 (.load false 1 (.a 16 2)), J 10 (.asg (.p 17))])
 (.seq (.reg [J 18 (.load true 5 (.t 3)), J 19 (.mv (.p 1)), J 20 (.mv (.p 10)), J 21 (.call n_impl_nextTo [.a 18 3, .t 19, .t 20]), J 1 (.asg (.p 21))])
 (.seq (.seq (.reg [J 22 (.mv (.p 1)), J 23 (.bin .lss (.t 22) (.c (.int .i64 0)))])
 (.cond (.t 23) (.seq (.reg [J 6 (.asg (.c (.list true 1 []))), J 7 (.asg (.c (.bool false)))])
 .ret) .skip))
 (.reg [J 24 (.rf (.t 8)), J 25 (.mv (.p 1)), J 26 (.bslice 1 1 [.int .i64 0] [(0, .p 25)]), J 27 (.append 1 (.a 24 8) (.t 26)), J 8 (.asg (.t 27))])))))
 (.reg [J 28 (.bin .add (.t 14) (.c (.int .i64 1))), J 14 (.mv (.p 28))]))))
/-- impl.pathHexes -/
def a_impl_pathHexes : AFn := ⟨3, 30, [.tmp 6, .tmp 7], (.seq (.reg [J 3 (.box (.t 0)), J 6 (.asg (.c (.list true 1 []))), J 7 (.asg (.c (.bool false)))])
 (.seq (.reg [J 11 (.bslice 1 0 [.int .i64 0] []), J 8 (.asg (.t 11))])
 (.seq (.seq (.reg [J 12 (.rf (.t 2)), J 13 (.len (.a 12 2)), J 14 (.mv (.c (.int .i64 0)))])
 (.block 0 (.loop [1, 2, 3, 8, 12, 13, 14] [6, 7, 8] b_impl_pathHexes_0)))
 (.seq (.reg [J 29 (.rf (.t 8)), J 6 (.asg (.a 29 8)), J 7 (.asg (.c (.bool true)))])
 .ret))))⟩
/-- impl.crossesFreely -/
def a_impl_crossesFreely : AFn := ⟨2, 16, [.tmp 4], (.seq (.reg [J 2 (.box (.t 0)), J 4 (.asg (.c (.bool false)))])
 (.seq (.reg [J 5 (.faddr 3 (.t 2)), J 6 (.load false 1 (.a 5 2)), J 7 (.mv (.p 1)), J 8 (.call n_slices_Contains_int_int [.a 6 2, .t 7]), J 9 (.un .not (.t 8)), J 10 (.mv (.p 9)), ⟨some 11, some (10, false), .faddr 4 (.t 2)⟩, ⟨some 12, some (10, false), .load false 1 (.a 11 2)⟩, ⟨some 13, some (10, false), .mv (.p 1)⟩, ⟨some 14, some (10, false), .call n_slices_Contains_int_int [.a 12 2, .t 13]⟩, J 15 (.pick (.t 10) (.c (.bool true)) (.t 14)), J 4 (.asg (.p 15))])
 .ret))⟩
def b_slices_IndexFunc_impl_Attempt_impl_Attempt_0 : AC := (.seq (.reg [J 9 (.bin .lss (.t 8) (.t 7))])
 (.seq (.cond (.t 9) .skip (.exit 0))
 (.seq (.block 1 (.seq (.reg [J 10 (.mv (.p 8)), J 5 (.asg (.p 10))])
 (.seq (.reg [J 11 (.rf (.t 1)), J 12 (.rf (.t 0)), J 13 (.mv (.p 5)), J 14 (.iaddr 3 (.a 12 0) (.t 13)), J 15 (.load true 3 (.a 14 0)), J 16 (.callv (.a 11 1) [.a 15 0])])
 (.cond (.t 16) (.seq (.reg [J 17 (.mv (.p 5)), J 4 (.asg (.p 17))])
 .ret) .skip))))
 (.reg [J 18 (.bin .add (.t 8) (.c (.int .i64 1))), J 8 (.mv (.p 18))]))))
/-- slices.IndexFunc[[]impl.Attempt,impl.Attempt] -/
def a_slices_IndexFunc_impl_Attempt_impl_Attempt : AFn := ⟨2, 19, [.tmp 4], (.seq (.reg [J 4 (.asg (.c (.int .i64 0)))])
 (.seq (.seq (.reg [J 6 (.rf (.t 0)), J 7 (.len (.a 6 0)), J 8 (.mv (.c (.int .i64 0)))])
 (.block 0 (.loop [0, 1, 7, 8] [4] b_slices_IndexFunc_impl_Attempt_impl_Attempt_0)))
 (.seq (.reg [J 4 (.asg (.c (.int .i64 (-1))))])
 .ret)))⟩
def b_spec_l1Rising_0 : AC := (.seq (.reg [J 12 (.bin .lss (.t 11) (.t 10))])
 (.seq (.cond (.t 12) .skip (.exit 0))
 (.seq (.block 1 (.seq (.reg [J 13 (.mv (.p 11)), J 14 (.iaddr 1 (.a 9 0) (.t 11)), J 15 (.load false 1 (.a 14 0)), J 7 (.asg (.p 13)), J 8 (.asg (.p 15))])
 (.seq (.reg [J 16 (.mv (.p 8)), J 17 (.mv (.p 1)), J 18 (.mv (.p 2)), J 19 (.call n_spec_l1In [.t 16, .t 17, .t 18]), J 20 (.un .not (.t 19)), J 21 (.mv (.p 20)), ⟨some 22, some (21, false), .mv (.p 7)⟩, ⟨some 23, some (21, false), .bin .gtr (.t 22) (.c (.int .i64 0))⟩, ⟨some 24, some (21, false), .mv (.p 23)⟩, ⟨some 25, some (24, true), .rf (.t 0)⟩, ⟨some 26, some (24, true), .mv (.p 7)⟩, ⟨some 27, some (24, true), .bin .sub (.t 26) (.c (.int .i64 1))⟩, ⟨some 28, some (24, true), .iaddr 1 (.a 25 0) (.t 27)⟩, ⟨some 29, some (24, true), .load false 1 (.a 28 0)⟩, ⟨some 30, some (24, true), .mv (.p 8)⟩, ⟨some 31, some (24, true), .bin .geq (.a 29 0) (.t 30)⟩, ⟨some 32, some (21, false), .pick (.t 24) (.t 31) (.c (.bool false))⟩, J 33 (.pick (.t 21) (.c (.bool true)) (.t 32))])
 (.cond (.t 33) (.seq (.reg [J 6 (.asg (.c (.bool false)))])
 .ret) .skip))))
 (.reg [J 34 (.bin .add (.t 11) (.c (.int .i64 1))), J 11 (.mv (.p 34))]))))
/-- spec.l1Rising -/
def a_spec_l1Rising : AFn := ⟨3, 35, [.tmp 6], (.seq (.reg [J 6 (.asg (.c (.bool false)))])
 (.seq (.seq (.reg [J 9 (.rf (.t 0)), J 10 (.len (.a 9 0)), J 11 (.mv (.c (.int .i64 0)))])
 (.block 0 (.loop [0, 1, 2, 9, 10, 11] [6] b_spec_l1Rising_0)))
 (.seq (.reg [J 6 (.asg (.c (.bool true)))])
 .ret)))⟩
/-- impl.isKindOf -/
def a_impl_isKindOf : AFn := ⟨2, 15, [.tmp 4], (.seq (.reg [J 2 (.box (.t 0)), J 4 (.asg (.c (.bool false)))])
 (.seq (.reg [J 5 (.load true 12 (.t 2)), J 6 (.call n_impl_IsBoard [.a 5 2]), J 7 (.mv (.p 6)), ⟨some 8, some (7, true), .mv (.p 1)⟩, ⟨some 9, some (7, true), .faddr 0 (.t 2)⟩, ⟨some 10, some (7, true), .faddr 1 (.a 9 2)⟩, ⟨some 11, some (7, true), .load false 1 (.a 10 2)⟩, ⟨some 12, some (7, true), .len (.a 11 2)⟩, ⟨some 13, some (7, true), .call n_impl_isIndex [.t 8, .t 12]⟩, J 14 (.pick (.t 7) (.t 13) (.c (.bool false))), J 4 (.asg (.p 14))])
 .ret))⟩
/-- impl.isWeather -/
def a_impl_isWeather : AFn := ⟨1, 5, [.tmp 2], (.seq (.reg [J 2 (.asg (.c (.bool false)))])
 (.seq (.reg [J 3 (.mv (.p 0)), J 4 (.call n_impl_inRange [.t 3, .c (.int .i64 0), .c (.int .i64 2)]), J 2 (.asg (.p 4))])
 .ret))⟩
/-- impl.isPath$1 -/
def a_impl_isPath_1 : AFn := ⟨1, 6, [.tmp 2], (.seq (.reg [J 2 (.asg (.c (.bool false)))])
 (.seq (.reg [J 3 (.mv (.p 0)), J 4 (.call n_impl_isDirection [.t 3]), J 5 (.un .not (.t 4)), J 2 (.asg (.p 5))])
 .ret))⟩
/-- impl.isDirection -/
def a_impl_isDirection : AFn := ⟨1, 5, [.tmp 2], (.seq (.reg [J 2 (.asg (.c (.bool false)))])
 (.seq (.reg [J 3 (.mv (.p 0)), J 4 (.call n_impl_inRange [.t 3, .c (.int .i64 0), .c (.int .i64 5)]), J 2 (.asg (.p 4))])
 .ret))⟩
end Go.Abs.W
