/- The abstract code of the functions. -/
import Derived.Test.YtijnjfcblkbdbaaGreatDoorA2
set_option maxRecDepth 100000
namespace Go.Abs.W
open Go Go.Abs
def n_laws_FnExactParseSheet : Nat := 6
def n_laws_szBoard : Nat := 8
def n_laws_szState : Nat := 9
def n_laws_toBoard : Nat := 12
def n_laws_toState : Nat := 13
def n_laws_eqSheet : Nat := 16
def n_laws_eqBoard : Nat := 17
def n_laws_eqState : Nat := 18
def n_laws_markBoard : Nat := 19
def n_laws_markState : Nat := 20
def n_laws_markSheet : Nat := 21
def n_laws_heldSheet : Nat := 22
def n_laws_eqOrder : Nat := 27
def n_spec_ParseSheet : Nat := 31
def n_impl_ParseSheet : Nat := 32
def n_laws_szRules : Nat := 39
def n_laws_szMap : Nat := 40
def n_laws_szUnitS : Nat := 41
def n_spec_oGood : Nat := 44
def n_laws_toRules : Nat := 46
def n_laws_toMap : Nat := 47
def n_laws_toUnitS : Nat := 48
def n_laws_eqOrderS : Nat := 54
def n_laws_eqRules : Nat := 55
def n_laws_eqMap : Nat := 56
def n_laws_eqUnitS : Nat := 57
def n_laws_markRules : Nat := 58
def n_laws_markMap : Nat := 59
def n_laws_markUnitS : Nat := 60
def n_laws_markOrderS : Nat := 61
def n_laws_heldOrderS : Nat := 62
def n_laws_szIntS : Nat := 63
def n_laws_toIntS : Nat := 64
def n_impl_goodSheet : Nat := 67
def n_laws_eqIntS : Nat := 68
def n_laws_markIntS : Nat := 69
def n_spec_oText : Nat := 70
def n_impl_sheetText : Nat := 71
def n_spec_sGood : Nat := 72
def n_spec_oParse : Nat := 73
def n_strings_Split : Nat := 74
def n_impl_readWords : Nat := 75
def n_impl_fits : Nat := 76
def n_impl_readOrder : Nat := 77
def n_laws_szTerrainS : Nat := 85
def n_laws_szKindS : Nat := 86
def n_spec_oForm : Nat := 87
def n_spec_oFirst : Nat := 88
def n_laws_toTerrainS : Nat := 90
def n_laws_toKindS : Nat := 91
def n_laws_toUnit : Nat := 92
def n_laws_eqTerrainS : Nat := 95
def n_laws_eqKindS : Nat := 96
def n_laws_eqUnit : Nat := 97
def n_laws_markTerrainS : Nat := 98
def n_laws_markKindS : Nat := 99
def n_laws_heldIntS : Nat := 100
def n_impl_isSide : Nat := 104
def n_impl_sheetFault : Nat := 105
def n_spec_l1Num : Nat := 106
def n_impl_wordsText : Nat := 107
def n_strconv_Itoa : Nat := 108
def n_impl_digitsText : Nat := 109
def n_impl_placeText : Nat := 110
def n_spec_bGood : Nat := 111
def n_spec_l1In : Nat := 112
def n_spec_sUnit : Nat := 113
def n_spec_sAt : Nat := 114
def n_spec_l1Split : Nat := 115
def n_spec_l1Read : Nat := 116
def n_impl_readInt : Nat := 118
def n_impl_IsBoard : Nat := 119
def n_impl_goodState : Nat := 120
def n_laws_szTerrain : Nat := 134
def n_laws_szKind : Nat := 135
def n_spec_oPlaced : Nat := 136
def n_spec_oFault : Nat := 137
def n_laws_toTerrain : Nat := 138
def n_laws_toKind : Nat := 139
def n_laws_eqTerrain : Nat := 140
def n_laws_eqKind : Nat := 141
def n_laws_markText : Nat := 142
def n_impl_inRange : Nat := 144
def n_impl_orderFault : Nat := 145
def n_strings_Join : Nat := 146
def n_spec_rGood : Nat := 148
def n_spec_mGood : Nat := 149
def n_spec_l1All : Nat := 150
def n_spec_mSize : Nat := 151
def n_spec_bCost : Nat := 152
def n_strconv_Atoi : Nat := 156
def n_impl_IsRules : Nat := 157
def n_impl_IsMap : Nat := 158
def n_slices_ContainsFunc_int_int : Nat := 159
def n_impl_IsBoard_1 : Nat := 160
def n_impl_sizeOf : Nat := 161
def n_impl_goodUnit : Nat := 162
def n_spec_mNext : Nat := 164
def n_spec_cStep : Nat := 165
def n_impl_stepCost : Nat := 168
def n_impl_nextTo : Nat := 169
def n_spec_oCost : Nat := 176
def n_spec_oEnd : Nat := 177
def n_impl_ownsUnit : Nat := 179
def n_impl_PathCost : Nat := 180
def n_slices_Contains_int_int : Nat := 181
def n_impl_neighboursOn : Nat := 182
def n_impl_endOf : Nat := 183
def n_spec_rName : Nat := 188
def n_spec_rTerrain : Nat := 189
def n_spec_rKind : Nat := 190
def n_spec_mEdges : Nat := 191
def n_spec_bTerrain : Nat := 192
def n_impl_goodTerrain : Nat := 199
def n_impl_terrainIndex : Nat := 200
def n_impl_goodKind : Nat := 201
def n_impl_kindIndex : Nat := 202
def n_impl_isIndex : Nat := 203
def n_impl_increasing : Nat := 204
def n_impl_isEdge : Nat := 205
def n_slices_IndexFunc_int_int : Nat := 206
def n_impl_enterCost : Nat := 207
def n_spec_mIndex : Nat := 209
def n_spec_hStep : Nat := 210
def n_spec_mHex : Nat := 211
def n_spec_mRoad : Nat := 212
def n_spec_csWeather : Nat := 213
def n_spec_mRiver : Nat := 214
def n_impl_edgeOf : Nat := 216
def n_impl_weatherCost : Nat := 217
def n_impl_indexOf : Nat := 218
def n_impl_stepBy : Nat := 219
def n_impl_hexOf : Nat := 220
def n_spec_csPath : Nat := 234
def n_spec_csCost : Nat := 235
def n_impl_isMover : Nat := 236
def n_impl_isPath : Nat := 237
def n_impl_costsAlong : Nat := 238
def n_impl_sumOf : Nat := 239
def n_slices_Index_int_int : Nat := 240
def n_impl_pathHexes : Nat := 241
def n_spec_l1Rising : Nat := 248
def n_impl_isName : Nat := 259
def n_impl_goodTerrain_1 : Nat := 260
def n_slices_IndexFunc_impl_Terrain_impl_Terrain : Nat := 261
def n_impl_terrainIndex_1 : Nat := 262
def n_slices_IndexFunc_impl_Kind_impl_Kind : Nat := 263
def n_impl_kindIndex_1 : Nat := 264
def n_impl_terrainAt : Nat := 265
def n_spec_l1Has : Nat := 267
def n_spec_mEdge : Nat := 268
def n_impl_isKindOf : Nat := 277
def n_impl_isWeather : Nat := 278
def n_impl_isPath_1 : Nat := 279
def n_impl_isDirection : Nat := 280
/-- laws.FnExactParseSheet -/
def a_laws_FnExactParseSheet : AFn := ⟨3, 127, [.tmp 6], (.seq (.reg [⟨some 3, none, .box (.t 0)⟩, ⟨some 4, none, .box (.t 1)⟩, ⟨some 6, none, .asg (.c (.bool false))⟩])
 (.seq (.seq (.reg [⟨some 19, none, .mv (.p 2)⟩, ⟨some 20, none, .slen (.t 19)⟩, ⟨some 21, none, .bin .gtr (.t 20) (.c (.int .i64 1048576))⟩])
 (.cond (.t 21) (.seq (.reg [⟨some 6, none, .asg (.c (.bool true))⟩])
 .ret) .skip))
 (.seq (.reg [⟨some 7, none, .asg (.c (.int .i64 1048576))⟩])
 (.seq (.reg [⟨some 22, none, .load true 12 (.t 3)⟩, ⟨some 23, none, .mv (.p 7)⟩, ⟨some 24, none, .call n_laws_szBoard [.a 22 3, .t 23]⟩, ⟨some 7, none, .asg (.p 24)⟩])
 (.seq (.seq (.reg [⟨some 25, none, .mv (.p 7)⟩, ⟨some 26, none, .bin .lss (.t 25) (.c (.int .i64 0))⟩])
 (.cond (.t 26) (.seq (.reg [⟨some 6, none, .asg (.c (.bool true))⟩])
 .ret) .skip))
 (.seq (.reg [⟨some 27, none, .load true 3 (.t 4)⟩, ⟨some 28, none, .mv (.p 7)⟩, ⟨some 29, none, .call n_laws_szState [.a 27 4, .t 28]⟩, ⟨some 7, none, .asg (.p 29)⟩])
 (.seq (.seq (.reg [⟨some 30, none, .mv (.p 7)⟩, ⟨some 31, none, .bin .lss (.t 30) (.c (.int .i64 0))⟩])
 (.cond (.t 31) (.seq (.reg [⟨some 6, none, .asg (.c (.bool true))⟩])
 .ret) .skip))
 (.seq (.reg [⟨some 33, none, .load true 12 (.t 3)⟩, ⟨some 34, none, .call n_laws_toBoard [.a 33 3]⟩, ⟨some 35, none, .load true 3 (.t 4)⟩, ⟨some 36, none, .call n_laws_toState [.a 35 4]⟩, ⟨some 37, none, .mv (.p 2)⟩, ⟨some 38, none, .call n_spec_ParseSheet [.t 34, .t 36, .t 37]⟩, ⟨some 32, none, .mv (.t 38)⟩, ⟨some 39, none, .extract (.t 32) 0⟩, ⟨some 40, none, .extract (.p 32) 1⟩, ⟨some 8, none, .alloc [.int .i64 0, .list true 3 []]⟩, ⟨none, none, .store 2 (.t 8) (.t 39)⟩, ⟨some 9, none, .asg (.p 40)⟩])
 (.seq (.reg [⟨some 41, none, .load true 12 (.t 3)⟩, ⟨some 42, none, .call n_laws_toBoard [.a 41 3]⟩, ⟨some 10, none, .alloc [.list true 5 [], .list true 6 [], .int .i64 0, .int .i64 0, .int .i64 0, .int .i64 0, .int .i64 0, .int .i64 0, .int .i64 0, .list true 1 [], .list true 1 [], .list true 1 []]⟩, ⟨none, none, .store 12 (.t 10) (.t 42)⟩])
 (.seq (.reg [⟨some 43, none, .load true 3 (.t 4)⟩, ⟨some 44, none, .call n_laws_toState [.a 43 4]⟩, ⟨some 11, none, .alloc [.int .i64 0, .int .i64 0, .list true 4 []]⟩, ⟨none, none, .store 3 (.t 11) (.t 44)⟩])
 (.seq (.reg [⟨some 46, none, .load true 12 (.t 10)⟩, ⟨some 47, none, .load true 3 (.t 11)⟩, ⟨some 48, none, .mv (.p 2)⟩, ⟨some 49, none, .call n_impl_ParseSheet [.a 46 10, .a 47 11, .t 48]⟩, ⟨some 45, none, .mv (.t 49)⟩, ⟨some 50, none, .extract (.t 45) 0⟩, ⟨some 51, none, .extract (.p 45) 1⟩, ⟨some 12, none, .alloc [.int .i64 0, .list true 3 []]⟩, ⟨none, none, .store 2 (.t 12) (.t 50)⟩, ⟨some 13, none, .asg (.p 51)⟩])
 (.seq (.seq (.reg [⟨some 52, none, .load true 2 (.t 12)⟩, ⟨some 53, none, .load true 2 (.t 8)⟩, ⟨some 54, none, .call n_laws_eqSheet [.a 52 12, .a 53 8]⟩, ⟨some 55, none, .un .not (.t 54)⟩, ⟨some 56, none, .mv (.p 55)⟩, ⟨some 57, some (56, false), .mv (.p 13)⟩, ⟨some 58, some (56, false), .mv (.p 9)⟩, ⟨some 59, some (56, false), .beq true (.t 57) (.t 58)⟩, ⟨some 60, none, .pick (.t 56) (.c (.bool true)) (.t 59)⟩])
 (.cond (.t 60) (.seq (.reg [⟨some 6, none, .asg (.c (.bool false))⟩])
 .ret) .skip))
 (.seq (.seq (.reg [⟨some 61, none, .load true 12 (.t 10)⟩, ⟨some 62, none, .load true 12 (.t 3)⟩, ⟨some 63, none, .call n_laws_toBoard [.a 62 3]⟩, ⟨some 64, none, .call n_laws_eqBoard [.a 61 10, .t 63]⟩, ⟨some 65, none, .un .not (.t 64)⟩])
 (.cond (.t 65) (.seq (.reg [⟨some 6, none, .asg (.c (.bool false))⟩])
 .ret) .skip))
 (.seq (.seq (.reg [⟨some 66, none, .load true 3 (.t 11)⟩, ⟨some 67, none, .load true 3 (.t 4)⟩, ⟨some 68, none, .call n_laws_toState [.a 67 4]⟩, ⟨some 69, none, .call n_laws_eqState [.a 66 11, .t 68]⟩, ⟨some 70, none, .un .not (.t 69)⟩])
 (.cond (.t 70) (.seq (.reg [⟨some 6, none, .asg (.c (.bool false))⟩])
 .ret) .skip))
 (.seq (.reg [⟨some 14, none, .asg (.c (.int .i64 1))⟩])
 (.seq (.reg [⟨some 71, none, .load true 12 (.t 10)⟩, ⟨some 72, none, .mv (.p 14)⟩, ⟨some 73, none, .calli n_laws_markBoard 71 10 [.t 72]⟩, ⟨some 14, none, .asg (.p 73)⟩])
 (.seq (.reg [⟨some 74, none, .load true 3 (.t 11)⟩, ⟨some 75, none, .mv (.p 14)⟩, ⟨some 76, none, .calli n_laws_markState 74 11 [.t 75]⟩, ⟨some 14, none, .asg (.p 76)⟩])
 (.seq (.seq (.reg [⟨some 77, none, .mv (.p 14)⟩, ⟨some 78, none, .bin .lss (.t 77) (.c (.int .i64 0))⟩, ⟨some 79, none, .mv (.p 78)⟩, ⟨some 80, some (79, false), .load true 2 (.t 12)⟩, ⟨some 81, some (79, false), .load true 2 (.t 8)⟩, ⟨some 82, some (79, false), .call n_laws_eqSheet [.a 80 12, .a 81 8]⟩, ⟨some 83, some (79, false), .un .not (.t 82)⟩, ⟨some 84, none, .pick (.t 79) (.c (.bool true)) (.t 83)⟩, ⟨some 85, none, .mv (.p 84)⟩, ⟨some 86, some (85, false), .mv (.p 13)⟩, ⟨some 87, some (85, false), .mv (.p 9)⟩, ⟨some 88, some (85, false), .beq true (.t 86) (.t 87)⟩, ⟨some 89, none, .pick (.t 85) (.c (.bool true)) (.t 88)⟩])
 (.cond (.t 89) (.seq (.reg [⟨some 6, none, .asg (.c (.bool false))⟩])
 .ret) .skip))
 (.seq (.reg [⟨some 15, none, .asg (.c (.int .i64 1))⟩])
 (.seq (.reg [⟨some 90, none, .load true 2 (.t 12)⟩, ⟨some 91, none, .mv (.p 15)⟩, ⟨some 92, none, .calli n_laws_markSheet 90 12 [.t 91]⟩, ⟨some 15, none, .asg (.p 92)⟩])
 (.seq (.reg [⟨some 16, none, .asg (.c (.int .i64 1))⟩])
 (.seq (.reg [⟨some 93, none, .load true 2 (.t 12)⟩, ⟨some 94, none, .mv (.p 16)⟩, ⟨some 95, none, .call n_laws_heldSheet [.a 93 12, .t 94]⟩, ⟨some 16, none, .asg (.p 95)⟩])
 (.seq (.seq (.reg [⟨some 96, none, .mv (.p 16)⟩, ⟨some 97, none, .bin .lss (.t 96) (.c (.int .i64 0))⟩])
 (.cond (.t 97) (.seq (.reg [⟨some 6, none, .asg (.c (.bool false))⟩])
 .ret) .skip))
 (.seq (.seq (.reg [⟨some 98, none, .mv (.p 16)⟩, ⟨some 99, none, .mv (.p 15)⟩, ⟨some 100, none, .bin .neq (.t 98) (.t 99)⟩])
 (.cond (.t 100) (.seq (.reg [⟨some 6, none, .asg (.c (.bool false))⟩])
 .ret) .skip))
 (.seq (.reg [⟨some 102, none, .load true 12 (.t 3)⟩, ⟨some 103, none, .call n_laws_toBoard [.a 102 3]⟩, ⟨some 104, none, .load true 3 (.t 4)⟩, ⟨some 105, none, .call n_laws_toState [.a 104 4]⟩, ⟨some 106, none, .mv (.p 2)⟩, ⟨some 107, none, .call n_impl_ParseSheet [.t 103, .t 105, .t 106]⟩, ⟨some 101, none, .mv (.t 107)⟩, ⟨some 108, none, .extract (.t 101) 0⟩, ⟨some 109, none, .extract (.p 101) 1⟩, ⟨some 17, none, .alloc [.int .i64 0, .list true 3 []]⟩, ⟨none, none, .store 2 (.t 17) (.t 108)⟩, ⟨some 18, none, .asg (.p 109)⟩])
 (.seq (.seq (.reg [⟨some 110, none, .load true 2 (.t 17)⟩, ⟨some 111, none, .load true 2 (.t 8)⟩, ⟨some 112, none, .call n_laws_eqSheet [.a 110 17, .a 111 8]⟩, ⟨some 113, none, .un .not (.t 112)⟩, ⟨some 114, none, .mv (.p 113)⟩, ⟨some 115, some (114, false), .mv (.p 18)⟩, ⟨some 116, some (114, false), .mv (.p 9)⟩, ⟨some 117, some (114, false), .beq true (.t 115) (.t 116)⟩, ⟨some 118, none, .pick (.t 114) (.c (.bool true)) (.t 117)⟩])
 (.cond (.t 118) (.seq (.reg [⟨some 6, none, .asg (.c (.bool false))⟩])
 .ret) .skip))
 (.seq (.reg [⟨some 16, none, .asg (.c (.int .i64 1))⟩])
 (.seq (.reg [⟨some 119, none, .load true 2 (.t 12)⟩, ⟨some 120, none, .mv (.p 16)⟩, ⟨some 121, none, .call n_laws_heldSheet [.a 119 12, .t 120]⟩, ⟨some 16, none, .asg (.p 121)⟩])
 (.seq (.seq (.reg [⟨some 122, none, .mv (.p 16)⟩, ⟨some 123, none, .bin .lss (.t 122) (.c (.int .i64 0))⟩])
 (.cond (.t 123) (.seq (.reg [⟨some 6, none, .asg (.c (.bool false))⟩])
 .ret) .skip))
 (.seq (.seq (.reg [⟨some 124, none, .mv (.p 16)⟩, ⟨some 125, none, .mv (.p 15)⟩, ⟨some 126, none, .bin .neq (.t 124) (.t 125)⟩])
 (.cond (.t 126) (.seq (.reg [⟨some 6, none, .asg (.c (.bool false))⟩])
 .ret) .skip))
 (.seq (.reg [⟨some 6, none, .asg (.c (.bool true))⟩])
 .ret)))))))))))))))))))))))))))))))⟩
/-- laws.szBoard -/
def a_laws_szBoard : AFn := ⟨2, 18, [.tmp 4], (.seq (.reg [⟨some 2, none, .box (.t 0)⟩, ⟨some 4, none, .asg (.c (.int .i64 0))⟩])
 (.seq (.reg [⟨some 5, none, .faddr 0 (.t 2)⟩, ⟨some 6, none, .load true 7 (.a 5 2)⟩, ⟨some 7, none, .mv (.p 1)⟩, ⟨some 8, none, .call n_laws_szRules [.a 6 2, .t 7]⟩, ⟨some 1, none, .asg (.p 8)⟩])
 (.seq (.seq (.reg [⟨some 9, none, .mv (.p 1)⟩, ⟨some 10, none, .bin .lss (.t 9) (.c (.int .i64 0))⟩])
 (.cond (.t 10) (.seq (.reg [⟨some 4, none, .asg (.c (.int .i64 (-1)))⟩])
 .ret) .skip))
 (.seq (.reg [⟨some 11, none, .faddr 7 (.t 2)⟩, ⟨some 12, none, .load true 5 (.a 11 2)⟩, ⟨some 13, none, .mv (.p 1)⟩, ⟨some 14, none, .call n_laws_szMap [.a 12 2, .t 13]⟩, ⟨some 1, none, .asg (.p 14)⟩])
 (.seq (.seq (.reg [⟨some 15, none, .mv (.p 1)⟩, ⟨some 16, none, .bin .lss (.t 15) (.c (.int .i64 0))⟩])
 (.cond (.t 16) (.seq (.reg [⟨some 4, none, .asg (.c (.int .i64 (-1)))⟩])
 .ret) .skip))
 (.seq (.reg [⟨some 17, none, .mv (.p 1)⟩, ⟨some 4, none, .asg (.p 17)⟩])
 .ret))))))⟩
/-- laws.szState -/
def a_laws_szState : AFn := ⟨2, 12, [.tmp 4], (.seq (.reg [⟨some 2, none, .box (.t 0)⟩, ⟨some 4, none, .asg (.c (.int .i64 0))⟩])
 (.seq (.reg [⟨some 5, none, .faddr 2 (.t 2)⟩, ⟨some 6, none, .load false 1 (.a 5 2)⟩, ⟨some 7, none, .mv (.p 1)⟩, ⟨some 8, none, .call n_laws_szUnitS [.a 6 2, .t 7]⟩, ⟨some 1, none, .asg (.p 8)⟩])
 (.seq (.seq (.reg [⟨some 9, none, .mv (.p 1)⟩, ⟨some 10, none, .bin .lss (.t 9) (.c (.int .i64 0))⟩])
 (.cond (.t 10) (.seq (.reg [⟨some 4, none, .asg (.c (.int .i64 (-1)))⟩])
 .ret) .skip))
 (.seq (.reg [⟨some 11, none, .mv (.p 1)⟩, ⟨some 4, none, .asg (.p 11)⟩])
 .ret))))⟩
/-- laws.toBoard -/
def a_laws_toBoard : AFn := ⟨1, 13, [.cell 2 12 true], (.seq (.reg [⟨some 1, none, .box (.t 0)⟩, ⟨some 2, none, .alloc [.list true 5 [], .list true 6 [], .int .i64 0, .int .i64 0, .int .i64 0, .int .i64 0, .int .i64 0, .int .i64 0, .int .i64 0, .list true 1 [], .list true 1 [], .list true 1 []]⟩])
 (.seq (.reg [⟨some 3, none, .alloc [.list true 5 [], .list true 6 [], .int .i64 0, .int .i64 0, .int .i64 0, .int .i64 0, .int .i64 0, .int .i64 0, .int .i64 0, .list true 1 [], .list true 1 [], .list true 1 []]⟩])
 (.seq (.reg [⟨some 4, none, .faddr 0 (.t 1)⟩, ⟨some 5, none, .load true 7 (.a 4 1)⟩, ⟨some 6, none, .call n_laws_toRules [.a 5 1]⟩, ⟨some 7, none, .faddr 0 (.t 3)⟩, ⟨none, none, .store 7 (.a 7 3) (.t 6)⟩])
 (.seq (.reg [⟨some 8, none, .faddr 7 (.t 1)⟩, ⟨some 9, none, .load true 5 (.a 8 1)⟩, ⟨some 10, none, .call n_laws_toMap [.a 9 1]⟩, ⟨some 11, none, .faddr 7 (.t 3)⟩, ⟨none, none, .store 5 (.a 11 3) (.t 10)⟩])
 (.seq (.reg [⟨some 12, none, .load true 12 (.t 3)⟩, ⟨none, none, .store 12 (.t 2) (.a 12 3)⟩])
 .ret)))))⟩
/-- laws.toState -/
def a_laws_toState : AFn := ⟨1, 15, [.cell 2 3 true], (.seq (.reg [⟨some 1, none, .box (.t 0)⟩, ⟨some 2, none, .alloc [.int .i64 0, .int .i64 0, .list true 4 []]⟩])
 (.seq (.reg [⟨some 3, none, .alloc [.int .i64 0, .int .i64 0, .list true 4 []]⟩])
 (.seq (.reg [⟨some 4, none, .faddr 0 (.t 1)⟩, ⟨some 5, none, .load false 1 (.a 4 1)⟩, ⟨some 6, none, .faddr 0 (.t 3)⟩, ⟨none, none, .store 1 (.a 6 3) (.p 5)⟩])
 (.seq (.reg [⟨some 7, none, .faddr 1 (.t 1)⟩, ⟨some 8, none, .load false 1 (.a 7 1)⟩, ⟨some 9, none, .faddr 1 (.t 3)⟩, ⟨none, none, .store 1 (.a 9 3) (.p 8)⟩])
 (.seq (.reg [⟨some 10, none, .faddr 2 (.t 1)⟩, ⟨some 11, none, .load false 1 (.a 10 1)⟩, ⟨some 12, none, .call n_laws_toUnitS [.a 11 1]⟩, ⟨some 13, none, .faddr 2 (.t 3)⟩, ⟨none, none, .store 1 (.a 13 3) (.t 12)⟩])
 (.seq (.reg [⟨some 14, none, .load true 3 (.t 3)⟩, ⟨none, none, .store 3 (.t 2) (.a 14 3)⟩])
 .ret))))))⟩
/-- laws.eqSheet -/
def a_laws_eqSheet : AFn := ⟨2, 16, [.tmp 4], (.seq (.reg [⟨some 2, none, .box (.t 0)⟩, ⟨some 3, none, .box (.t 1)⟩, ⟨some 4, none, .asg (.c (.bool false))⟩])
 (.seq (.seq (.reg [⟨some 5, none, .faddr 0 (.t 2)⟩, ⟨some 6, none, .load false 1 (.a 5 2)⟩, ⟨some 7, none, .faddr 0 (.t 3)⟩, ⟨some 8, none, .load false 1 (.a 7 3)⟩, ⟨some 9, none, .bin .neq (.a 6 2) (.a 8 3)⟩])
 (.cond (.t 9) (.seq (.reg [⟨some 4, none, .asg (.c (.bool false))⟩])
 .ret) .skip))
 (.seq (.seq (.reg [⟨some 10, none, .faddr 1 (.t 2)⟩, ⟨some 11, none, .load false 1 (.a 10 2)⟩, ⟨some 12, none, .faddr 1 (.t 3)⟩, ⟨some 13, none, .load false 1 (.a 12 3)⟩, ⟨some 14, none, .call n_laws_eqOrderS [.a 11 2, .a 13 3]⟩, ⟨some 15, none, .un .not (.t 14)⟩])
 (.cond (.t 15) (.seq (.reg [⟨some 4, none, .asg (.c (.bool false))⟩])
 .ret) .skip))
 (.seq (.reg [⟨some 4, none, .asg (.c (.bool true))⟩])
 .ret))))⟩
/-- laws.eqBoard -/
def a_laws_eqBoard : AFn := ⟨2, 17, [.tmp 4], (.seq (.reg [⟨some 2, none, .box (.t 0)⟩, ⟨some 3, none, .box (.t 1)⟩, ⟨some 4, none, .asg (.c (.bool false))⟩])
 (.seq (.seq (.reg [⟨some 5, none, .faddr 0 (.t 2)⟩, ⟨some 6, none, .load true 7 (.a 5 2)⟩, ⟨some 7, none, .faddr 0 (.t 3)⟩, ⟨some 8, none, .load true 7 (.a 7 3)⟩, ⟨some 9, none, .call n_laws_eqRules [.a 6 2, .a 8 3]⟩, ⟨some 10, none, .un .not (.t 9)⟩])
 (.cond (.t 10) (.seq (.reg [⟨some 4, none, .asg (.c (.bool false))⟩])
 .ret) .skip))
 (.seq (.seq (.reg [⟨some 11, none, .faddr 7 (.t 2)⟩, ⟨some 12, none, .load true 5 (.a 11 2)⟩, ⟨some 13, none, .faddr 7 (.t 3)⟩, ⟨some 14, none, .load true 5 (.a 13 3)⟩, ⟨some 15, none, .call n_laws_eqMap [.a 12 2, .a 14 3]⟩, ⟨some 16, none, .un .not (.t 15)⟩])
 (.cond (.t 16) (.seq (.reg [⟨some 4, none, .asg (.c (.bool false))⟩])
 .ret) .skip))
 (.seq (.reg [⟨some 4, none, .asg (.c (.bool true))⟩])
 .ret))))⟩
/-- laws.eqState -/
def a_laws_eqState : AFn := ⟨2, 21, [.tmp 4], (.seq (.reg [⟨some 2, none, .box (.t 0)⟩, ⟨some 3, none, .box (.t 1)⟩, ⟨some 4, none, .asg (.c (.bool false))⟩])
 (.seq (.seq (.reg [⟨some 5, none, .faddr 0 (.t 2)⟩, ⟨some 6, none, .load false 1 (.a 5 2)⟩, ⟨some 7, none, .faddr 0 (.t 3)⟩, ⟨some 8, none, .load false 1 (.a 7 3)⟩, ⟨some 9, none, .bin .neq (.a 6 2) (.a 8 3)⟩])
 (.cond (.t 9) (.seq (.reg [⟨some 4, none, .asg (.c (.bool false))⟩])
 .ret) .skip))
 (.seq (.seq (.reg [⟨some 10, none, .faddr 1 (.t 2)⟩, ⟨some 11, none, .load false 1 (.a 10 2)⟩, ⟨some 12, none, .faddr 1 (.t 3)⟩, ⟨some 13, none, .load false 1 (.a 12 3)⟩, ⟨some 14, none, .bin .neq (.a 11 2) (.a 13 3)⟩])
 (.cond (.t 14) (.seq (.reg [⟨some 4, none, .asg (.c (.bool false))⟩])
 .ret) .skip))
 (.seq (.seq (.reg [⟨some 15, none, .faddr 2 (.t 2)⟩, ⟨some 16, none, .load false 1 (.a 15 2)⟩, ⟨some 17, none, .faddr 2 (.t 3)⟩, ⟨some 18, none, .load false 1 (.a 17 3)⟩, ⟨some 19, none, .call n_laws_eqUnitS [.a 16 2, .a 18 3]⟩, ⟨some 20, none, .un .not (.t 19)⟩])
 (.cond (.t 20) (.seq (.reg [⟨some 4, none, .asg (.c (.bool false))⟩])
 .ret) .skip))
 (.seq (.reg [⟨some 4, none, .asg (.c (.bool true))⟩])
 .ret)))))⟩
/-- laws.markBoard -/
def a_laws_markBoard : AFn := ⟨2, 14, [.tmp 4, .io 0], (.seq (.reg [⟨some 2, none, .boxk 0⟩, ⟨some 4, none, .asg (.c (.int .i64 0))⟩])
 (.seq (.reg [⟨some 5, none, .faddr 0 (.t 2)⟩, ⟨some 6, none, .load true 7 (.a 5 2)⟩, ⟨some 7, none, .mv (.p 1)⟩, ⟨some 8, none, .calli n_laws_markRules 6 2 [.t 7]⟩, ⟨some 1, none, .asg (.p 8)⟩])
 (.seq (.reg [⟨some 9, none, .faddr 7 (.t 2)⟩, ⟨some 10, none, .load true 5 (.a 9 2)⟩, ⟨some 11, none, .mv (.p 1)⟩, ⟨some 12, none, .calli n_laws_markMap 10 2 [.t 11]⟩, ⟨some 1, none, .asg (.p 12)⟩])
 (.seq (.reg [⟨some 13, none, .mv (.p 1)⟩, ⟨some 4, none, .asg (.p 13)⟩])
 .ret))))⟩
/-- laws.markState -/
def a_laws_markState : AFn := ⟨2, 10, [.tmp 4, .io 0], (.seq (.reg [⟨some 2, none, .boxk 0⟩, ⟨some 4, none, .asg (.c (.int .i64 0))⟩])
 (.seq (.reg [⟨some 5, none, .faddr 2 (.t 2)⟩, ⟨some 6, none, .load false 1 (.a 5 2)⟩, ⟨some 7, none, .mv (.p 1)⟩, ⟨some 8, none, .calli n_laws_markUnitS 6 2 [.t 7]⟩, ⟨some 1, none, .asg (.p 8)⟩])
 (.seq (.reg [⟨some 9, none, .mv (.p 1)⟩, ⟨some 4, none, .asg (.p 9)⟩])
 .ret)))⟩
/-- laws.markSheet -/
def a_laws_markSheet : AFn := ⟨2, 10, [.tmp 4, .io 0], (.seq (.reg [⟨some 2, none, .boxk 0⟩, ⟨some 4, none, .asg (.c (.int .i64 0))⟩])
 (.seq (.reg [⟨some 5, none, .faddr 1 (.t 2)⟩, ⟨some 6, none, .load false 1 (.a 5 2)⟩, ⟨some 7, none, .mv (.p 1)⟩, ⟨some 8, none, .calli n_laws_markOrderS 6 2 [.t 7]⟩, ⟨some 1, none, .asg (.p 8)⟩])
 (.seq (.reg [⟨some 9, none, .mv (.p 1)⟩, ⟨some 4, none, .asg (.p 9)⟩])
 .ret)))⟩
/-- laws.heldSheet -/
def a_laws_heldSheet : AFn := ⟨2, 12, [.tmp 4], (.seq (.reg [⟨some 2, none, .box (.t 0)⟩, ⟨some 4, none, .asg (.c (.int .i64 0))⟩])
 (.seq (.reg [⟨some 5, none, .faddr 1 (.t 2)⟩, ⟨some 6, none, .load false 1 (.a 5 2)⟩, ⟨some 7, none, .mv (.p 1)⟩, ⟨some 8, none, .call n_laws_heldOrderS [.a 6 2, .t 7]⟩, ⟨some 1, none, .asg (.p 8)⟩])
 (.seq (.seq (.reg [⟨some 9, none, .mv (.p 1)⟩, ⟨some 10, none, .bin .lss (.t 9) (.c (.int .i64 0))⟩])
 (.cond (.t 10) (.seq (.reg [⟨some 4, none, .asg (.c (.int .i64 (-1)))⟩])
 .ret) .skip))
 (.seq (.reg [⟨some 11, none, .mv (.p 1)⟩, ⟨some 4, none, .asg (.p 11)⟩])
 .ret))))⟩
/-- laws.eqOrder -/
def a_laws_eqOrder : AFn := ⟨2, 21, [.tmp 4], (.seq (.reg [⟨some 2, none, .box (.t 0)⟩, ⟨some 3, none, .box (.t 1)⟩, ⟨some 4, none, .asg (.c (.bool false))⟩])
 (.seq (.seq (.reg [⟨some 5, none, .faddr 0 (.t 2)⟩, ⟨some 6, none, .load false 1 (.a 5 2)⟩, ⟨some 7, none, .faddr 0 (.t 3)⟩, ⟨some 8, none, .load false 1 (.a 7 3)⟩, ⟨some 9, none, .bin .neq (.a 6 2) (.a 8 3)⟩])
 (.cond (.t 9) (.seq (.reg [⟨some 4, none, .asg (.c (.bool false))⟩])
 .ret) .skip))
 (.seq (.seq (.reg [⟨some 10, none, .faddr 1 (.t 2)⟩, ⟨some 11, none, .load false 1 (.a 10 2)⟩, ⟨some 12, none, .faddr 1 (.t 3)⟩, ⟨some 13, none, .load false 1 (.a 12 3)⟩, ⟨some 14, none, .call n_laws_eqIntS [.a 11 2, .a 13 3]⟩, ⟨some 15, none, .un .not (.t 14)⟩])
 (.cond (.t 15) (.seq (.reg [⟨some 4, none, .asg (.c (.bool false))⟩])
 .ret) .skip))
 (.seq (.seq (.reg [⟨some 16, none, .faddr 2 (.t 2)⟩, ⟨some 17, none, .load false 1 (.a 16 2)⟩, ⟨some 18, none, .faddr 2 (.t 3)⟩, ⟨some 19, none, .load false 1 (.a 18 3)⟩, ⟨some 20, none, .bin .neq (.a 17 2) (.a 19 3)⟩])
 (.cond (.t 20) (.seq (.reg [⟨some 4, none, .asg (.c (.bool false))⟩])
 .ret) .skip))
 (.seq (.reg [⟨some 4, none, .asg (.c (.bool true))⟩])
 .ret)))))⟩
/-- spec.ParseSheet -/
def a_spec_ParseSheet : AFn := ⟨3, 19, [.cell 6 2 true, .tmp 7], (.seq (.reg [⟨some 3, none, .box (.t 0)⟩, ⟨some 4, none, .box (.t 1)⟩, ⟨some 6, none, .alloc [.int .i64 0, .list true 3 []]⟩, ⟨some 7, none, .asg (.c (.bool false))⟩])
 (.seq (.seq (.reg [⟨some 8, none, .load true 12 (.t 3)⟩, ⟨some 9, none, .load true 3 (.t 4)⟩, ⟨some 10, none, .call n_spec_sGood [.a 8 3, .a 9 4]⟩, ⟨some 11, none, .un .not (.t 10)⟩])
 (.cond (.t 11) (.seq (.reg [⟨some 12, none, .build [.int .i64 0, .list true 3 []] []⟩, ⟨none, none, .store 2 (.t 6) (.t 12)⟩, ⟨some 7, none, .asg (.c (.bool false))⟩])
 .ret) .skip))
 (.seq (.reg [⟨some 13, none, .load true 12 (.t 3)⟩, ⟨some 14, none, .load true 3 (.t 4)⟩, ⟨some 15, none, .mv (.p 2)⟩, ⟨some 16, none, .call n_spec_oParse [.a 13 3, .a 14 4, .t 15]⟩, ⟨some 17, none, .extract (.t 16) 0⟩, ⟨some 18, none, .extract (.p 16) 1⟩, ⟨none, none, .store 2 (.t 6) (.t 17)⟩, ⟨some 7, none, .asg (.p 18)⟩])
 .ret)))⟩
def b_impl_ParseSheet_0 : AC := (.seq (.reg [⟨some 51, none, .bin .lss (.t 50) (.t 49)⟩])
 (.seq (.cond (.t 51) .skip (.exit 0))
 (.seq (.block 1 (.seq (.reg [⟨some 52, none, .iaddr 1 (.t 48) (.t 50)⟩, ⟨some 53, none, .load false 1 (.a 52 48)⟩, ⟨some 13, none, .asg (.p 53)⟩])
 (.seq (.reg [⟨some 55, none, .mv (.p 13)⟩, ⟨some 56, none, .call n_impl_readOrder [.t 55]⟩, ⟨some 54, none, .mv (.t 56)⟩, ⟨some 57, none, .extract (.t 54) 0⟩, ⟨some 58, none, .extract (.p 54) 1⟩, ⟨some 14, none, .alloc [.int .i64 0, .list true 1 [], .int .i64 0]⟩, ⟨none, none, .store 3 (.t 14) (.t 57)⟩, ⟨some 15, none, .asg (.p 58)⟩])
 (.seq (.seq (.reg [⟨some 59, none, .mv (.p 15)⟩, ⟨some 60, none, .un .not (.t 59)⟩])
 (.cond (.t 60) (.seq (.reg [⟨some 61, none, .build [.int .i64 0, .list true 3 []] []⟩, ⟨none, none, .store 2 (.t 6) (.t 61)⟩, ⟨some 7, none, .asg (.c (.bool false))⟩])
 .ret) .skip))
 (.reg [⟨some 62, none, .faddr 1 (.t 11)⟩, ⟨some 63, none, .load false 1 (.a 62 11)⟩, ⟨some 64, none, .load true 3 (.t 14)⟩, ⟨some 65, none, .bslice 3 1 [.int .i64 0, .list true 1 [], .int .i64 0] [(0, .a 64 14)]⟩, ⟨some 66, none, .append 3 (.a 63 11) (.t 65)⟩, ⟨some 67, none, .faddr 1 (.t 11)⟩, ⟨none, none, .store 1 (.a 67 11) (.t 66)⟩])))))
 (.reg [⟨some 68, none, .bin .add (.t 50) (.c (.int .i64 1))⟩, ⟨some 50, none, .mv (.p 68)⟩]))))
/-- impl.ParseSheet -/
def a_impl_ParseSheet : AFn := ⟨3, 82, [.cell 6 2 true, .tmp 7], (.seq (.reg [⟨some 3, none, .box (.t 0)⟩, ⟨some 4, none, .box (.t 1)⟩, ⟨some 6, none, .alloc [.int .i64 0, .list true 3 []]⟩, ⟨some 7, none, .asg (.c (.bool false))⟩])
 (.seq (.reg [⟨some 16, none, .mv (.p 2)⟩, ⟨some 17, none, .call n_strings_Split [.t 16, .c (.str ⟨#[10]⟩)]⟩, ⟨some 8, none, .asg (.t 17)⟩])
 (.seq (.reg [⟨some 19, none, .rf (.t 8)⟩, ⟨some 20, none, .iaddr 1 (.a 19 8) (.c (.int .i64 0))⟩, ⟨some 21, none, .load false 1 (.a 20 8)⟩, ⟨some 22, none, .call n_impl_readWords [.a 21 8, .c (.str ⟨#[115, 105, 100, 101]⟩)]⟩, ⟨some 18, none, .mv (.t 22)⟩, ⟨some 23, none, .extract (.t 18) 0⟩, ⟨some 24, none, .extract (.p 18) 1⟩, ⟨some 9, none, .asg (.t 23)⟩, ⟨some 10, none, .asg (.p 24)⟩])
 (.seq (.seq (.reg [⟨some 25, none, .load true 12 (.t 3)⟩, ⟨some 26, none, .load true 3 (.t 4)⟩, ⟨some 27, none, .call n_impl_fits [.a 25 3, .a 26 4]⟩, ⟨some 28, none, .un .not (.t 27)⟩, ⟨some 29, none, .mv (.p 28)⟩, ⟨some 30, some (29, false), .mv (.p 10)⟩, ⟨some 31, some (29, false), .un .not (.t 30)⟩, ⟨some 32, none, .pick (.t 29) (.c (.bool true)) (.t 31)⟩, ⟨some 33, none, .mv (.p 32)⟩, ⟨some 34, some (33, false), .rf (.t 9)⟩, ⟨some 35, some (33, false), .len (.a 34 9)⟩, ⟨some 36, some (33, false), .bin .neq (.t 35) (.c (.int .i64 1))⟩, ⟨some 37, none, .pick (.t 33) (.c (.bool true)) (.t 36)⟩])
 (.cond (.t 37) (.seq (.reg [⟨some 38, none, .build [.int .i64 0, .list true 3 []] []⟩, ⟨none, none, .store 2 (.t 6) (.t 38)⟩, ⟨some 7, none, .asg (.c (.bool false))⟩])
 .ret) .skip))
 (.seq (.reg [⟨some 39, none, .rf (.t 9)⟩, ⟨some 40, none, .iaddr 1 (.a 39 9) (.c (.int .i64 0))⟩, ⟨some 41, none, .load false 1 (.a 40 9)⟩, ⟨some 42, none, .build [.int .i64 0, .list true 3 []] [(0, 1, .p 41)]⟩, ⟨some 11, none, .alloc [.int .i64 0, .list true 3 []]⟩, ⟨none, none, .store 2 (.t 11) (.t 42)⟩])
 (.seq (.seq (.reg [⟨some 43, none, .frk 8⟩, ⟨some 44, none, .rf (.t 8)⟩, ⟨some 45, none, .len (.a 44 8)⟩, ⟨some 46, none, .bin .sub (.t 45) (.c (.int .i64 1))⟩, ⟨some 47, none, .mm true (.t 46) (.c (.int .i64 1))⟩, ⟨some 48, none, .sub 1 (.t 43) (some (.c (.int .i64 1))) (some (.t 47))⟩, ⟨some 49, none, .len (.t 48)⟩, ⟨some 50, none, .mv (.c (.int .i64 0))⟩])
 (.block 0 (.loop [2, 3, 4, 6, 11, 48, 49, 50] [2, 3, 4, 6, 7, 11] b_impl_ParseSheet_0)))
 (.seq (.seq (.reg [⟨some 69, none, .load true 12 (.t 3)⟩, ⟨some 70, none, .load true 3 (.t 4)⟩, ⟨some 71, none, .load true 2 (.t 11)⟩, ⟨some 72, none, .call n_impl_goodSheet [.a 69 3, .a 70 4, .a 71 11]⟩, ⟨some 73, none, .un .not (.t 72)⟩, ⟨some 74, none, .mv (.p 73)⟩, ⟨some 75, some (74, false), .load true 2 (.t 11)⟩, ⟨some 76, some (74, false), .call n_impl_sheetText [.a 75 11]⟩, ⟨some 77, some (74, false), .mv (.p 2)⟩, ⟨some 78, some (74, false), .bin .neq (.t 76) (.t 77)⟩, ⟨some 79, none, .pick (.t 74) (.c (.bool true)) (.t 78)⟩])
 (.cond (.t 79) (.seq (.reg [⟨some 80, none, .build [.int .i64 0, .list true 3 []] []⟩, ⟨none, none, .store 2 (.t 6) (.t 80)⟩, ⟨some 7, none, .asg (.c (.bool false))⟩])
 .ret) .skip))
 (.seq (.reg [⟨some 81, none, .load true 2 (.t 11)⟩, ⟨none, none, .store 2 (.t 6) (.a 81 11)⟩, ⟨some 7, none, .asg (.c (.bool true))⟩])
 .ret))))))))⟩
/-- laws.szRules -/
def a_laws_szRules : AFn := ⟨2, 18, [.tmp 4], (.seq (.reg [⟨some 2, none, .box (.t 0)⟩, ⟨some 4, none, .asg (.c (.int .i64 0))⟩])
 (.seq (.reg [⟨some 5, none, .faddr 0 (.t 2)⟩, ⟨some 6, none, .load false 1 (.a 5 2)⟩, ⟨some 7, none, .mv (.p 1)⟩, ⟨some 8, none, .call n_laws_szTerrainS [.a 6 2, .t 7]⟩, ⟨some 1, none, .asg (.p 8)⟩])
 (.seq (.seq (.reg [⟨some 9, none, .mv (.p 1)⟩, ⟨some 10, none, .bin .lss (.t 9) (.c (.int .i64 0))⟩])
 (.cond (.t 10) (.seq (.reg [⟨some 4, none, .asg (.c (.int .i64 (-1)))⟩])
 .ret) .skip))
 (.seq (.reg [⟨some 11, none, .faddr 1 (.t 2)⟩, ⟨some 12, none, .load false 1 (.a 11 2)⟩, ⟨some 13, none, .mv (.p 1)⟩, ⟨some 14, none, .call n_laws_szKindS [.a 12 2, .t 13]⟩, ⟨some 1, none, .asg (.p 14)⟩])
 (.seq (.seq (.reg [⟨some 15, none, .mv (.p 1)⟩, ⟨some 16, none, .bin .lss (.t 15) (.c (.int .i64 0))⟩])
 (.cond (.t 16) (.seq (.reg [⟨some 4, none, .asg (.c (.int .i64 (-1)))⟩])
 .ret) .skip))
 (.seq (.reg [⟨some 17, none, .mv (.p 1)⟩, ⟨some 4, none, .asg (.p 17)⟩])
 .ret))))))⟩
/-- laws.szMap -/
def a_laws_szMap : AFn := ⟨2, 24, [.tmp 4], (.seq (.reg [⟨some 2, none, .box (.t 0)⟩, ⟨some 4, none, .asg (.c (.int .i64 0))⟩])
 (.seq (.reg [⟨some 5, none, .faddr 2 (.t 2)⟩, ⟨some 6, none, .load false 1 (.a 5 2)⟩, ⟨some 7, none, .mv (.p 1)⟩, ⟨some 8, none, .call n_laws_szIntS [.a 6 2, .t 7]⟩, ⟨some 1, none, .asg (.p 8)⟩])
 (.seq (.seq (.reg [⟨some 9, none, .mv (.p 1)⟩, ⟨some 10, none, .bin .lss (.t 9) (.c (.int .i64 0))⟩])
 (.cond (.t 10) (.seq (.reg [⟨some 4, none, .asg (.c (.int .i64 (-1)))⟩])
 .ret) .skip))
 (.seq (.reg [⟨some 11, none, .faddr 3 (.t 2)⟩, ⟨some 12, none, .load false 1 (.a 11 2)⟩, ⟨some 13, none, .mv (.p 1)⟩, ⟨some 14, none, .call n_laws_szIntS [.a 12 2, .t 13]⟩, ⟨some 1, none, .asg (.p 14)⟩])
 (.seq (.seq (.reg [⟨some 15, none, .mv (.p 1)⟩, ⟨some 16, none, .bin .lss (.t 15) (.c (.int .i64 0))⟩])
 (.cond (.t 16) (.seq (.reg [⟨some 4, none, .asg (.c (.int .i64 (-1)))⟩])
 .ret) .skip))
 (.seq (.reg [⟨some 17, none, .faddr 4 (.t 2)⟩, ⟨some 18, none, .load false 1 (.a 17 2)⟩, ⟨some 19, none, .mv (.p 1)⟩, ⟨some 20, none, .call n_laws_szIntS [.a 18 2, .t 19]⟩, ⟨some 1, none, .asg (.p 20)⟩])
 (.seq (.seq (.reg [⟨some 21, none, .mv (.p 1)⟩, ⟨some 22, none, .bin .lss (.t 21) (.c (.int .i64 0))⟩])
 (.cond (.t 22) (.seq (.reg [⟨some 4, none, .asg (.c (.int .i64 (-1)))⟩])
 .ret) .skip))
 (.seq (.reg [⟨some 23, none, .mv (.p 1)⟩, ⟨some 4, none, .asg (.p 23)⟩])
 .ret))))))))⟩
/-- laws.szUnitS -/
def a_laws_szUnitS : AFn := ⟨2, 12, [.tmp 4], (.seq (.reg [⟨some 4, none, .asg (.c (.int .i64 0))⟩])
 (.seq (.reg [⟨some 5, none, .mv (.p 1)⟩, ⟨some 6, none, .rf (.t 0)⟩, ⟨some 7, none, .len (.a 6 0)⟩, ⟨some 8, none, .bin .sub (.t 5) (.t 7)⟩, ⟨some 1, none, .asg (.p 8)⟩])
 (.seq (.seq (.reg [⟨some 9, none, .mv (.p 1)⟩, ⟨some 10, none, .bin .lss (.t 9) (.c (.int .i64 0))⟩])
 (.cond (.t 10) (.seq (.reg [⟨some 4, none, .asg (.c (.int .i64 (-1)))⟩])
 .ret) .skip))
 (.seq (.reg [⟨some 11, none, .mv (.p 1)⟩, ⟨some 4, none, .asg (.p 11)⟩])
 .ret))))⟩
/-- spec.oGood -/
def a_spec_oGood : AFn := ⟨3, 27, [.tmp 6], (.seq (.reg [⟨some 3, none, .box (.t 0)⟩, ⟨some 4, none, .box (.t 1)⟩, ⟨some 5, none, .box (.t 2)⟩, ⟨some 6, none, .asg (.c (.bool false))⟩])
 (.seq (.seq (.reg [⟨some 9, none, .load true 12 (.t 3)⟩, ⟨some 10, none, .load true 3 (.t 4)⟩, ⟨some 11, none, .call n_spec_sGood [.a 9 3, .a 10 4]⟩, ⟨some 12, none, .un .not (.t 11)⟩, ⟨some 13, none, .mv (.p 12)⟩, ⟨some 14, some (13, false), .load true 2 (.t 5)⟩, ⟨some 15, some (13, false), .call n_spec_oForm [.a 14 5]⟩, ⟨some 16, some (13, false), .un .not (.t 15)⟩, ⟨some 17, none, .pick (.t 13) (.c (.bool true)) (.t 16)⟩])
 (.cond (.t 17) (.seq (.reg [⟨some 6, none, .asg (.c (.bool false))⟩])
 .ret) .skip))
 (.seq (.reg [⟨some 19, none, .load true 12 (.t 3)⟩, ⟨some 20, none, .load true 3 (.t 4)⟩, ⟨some 21, none, .load true 2 (.t 5)⟩, ⟨some 22, none, .call n_spec_oFirst [.a 19 3, .a 20 4, .a 21 5]⟩, ⟨some 18, none, .mv (.t 22)⟩, ⟨some 23, none, .extract (.p 18) 0⟩, ⟨some 24, none, .extract (.p 18) 1⟩, ⟨some 7, none, .asg (.p 23)⟩, ⟨some 8, none, .asg (.p 24)⟩])
 (.seq (.reg [⟨some 25, none, .mv (.p 8)⟩, ⟨some 26, none, .bin .eql (.t 25) (.c (.int .i64 0))⟩, ⟨some 6, none, .asg (.p 26)⟩])
 .ret))))⟩
/-- laws.toRules -/
def a_laws_toRules : AFn := ⟨1, 28, [.cell 2 7 true], (.seq (.reg [⟨some 1, none, .box (.t 0)⟩, ⟨some 2, none, .alloc [.list true 5 [], .list true 6 [], .int .i64 0, .int .i64 0, .int .i64 0, .int .i64 0, .int .i64 0]⟩])
 (.seq (.reg [⟨some 3, none, .alloc [.list true 5 [], .list true 6 [], .int .i64 0, .int .i64 0, .int .i64 0, .int .i64 0, .int .i64 0]⟩])
 (.seq (.reg [⟨some 4, none, .faddr 0 (.t 1)⟩, ⟨some 5, none, .load false 1 (.a 4 1)⟩, ⟨some 6, none, .call n_laws_toTerrainS [.a 5 1]⟩, ⟨some 7, none, .faddr 0 (.t 3)⟩, ⟨none, none, .store 1 (.a 7 3) (.t 6)⟩])
 (.seq (.reg [⟨some 8, none, .faddr 1 (.t 1)⟩, ⟨some 9, none, .load false 1 (.a 8 1)⟩, ⟨some 10, none, .call n_laws_toKindS [.a 9 1]⟩, ⟨some 11, none, .faddr 1 (.t 3)⟩, ⟨none, none, .store 1 (.a 11 3) (.t 10)⟩])
 (.seq (.reg [⟨some 12, none, .faddr 2 (.t 1)⟩, ⟨some 13, none, .load false 1 (.a 12 1)⟩, ⟨some 14, none, .faddr 2 (.t 3)⟩, ⟨none, none, .store 1 (.a 14 3) (.p 13)⟩])
 (.seq (.reg [⟨some 15, none, .faddr 3 (.t 1)⟩, ⟨some 16, none, .load false 1 (.a 15 1)⟩, ⟨some 17, none, .faddr 3 (.t 3)⟩, ⟨none, none, .store 1 (.a 17 3) (.p 16)⟩])
 (.seq (.reg [⟨some 18, none, .faddr 4 (.t 1)⟩, ⟨some 19, none, .load false 1 (.a 18 1)⟩, ⟨some 20, none, .faddr 4 (.t 3)⟩, ⟨none, none, .store 1 (.a 20 3) (.p 19)⟩])
 (.seq (.reg [⟨some 21, none, .faddr 5 (.t 1)⟩, ⟨some 22, none, .load false 1 (.a 21 1)⟩, ⟨some 23, none, .faddr 5 (.t 3)⟩, ⟨none, none, .store 1 (.a 23 3) (.p 22)⟩])
 (.seq (.reg [⟨some 24, none, .faddr 6 (.t 1)⟩, ⟨some 25, none, .load false 1 (.a 24 1)⟩, ⟨some 26, none, .faddr 6 (.t 3)⟩, ⟨none, none, .store 1 (.a 26 3) (.p 25)⟩])
 (.seq (.reg [⟨some 27, none, .load true 7 (.t 3)⟩, ⟨none, none, .store 7 (.t 2) (.a 27 3)⟩])
 .ret))))))))))⟩
/-- laws.toMap -/
def a_laws_toMap : AFn := ⟨1, 23, [.cell 2 5 true], (.seq (.reg [⟨some 1, none, .box (.t 0)⟩, ⟨some 2, none, .alloc [.int .i64 0, .int .i64 0, .list true 1 [], .list true 1 [], .list true 1 []]⟩])
 (.seq (.reg [⟨some 3, none, .alloc [.int .i64 0, .int .i64 0, .list true 1 [], .list true 1 [], .list true 1 []]⟩])
 (.seq (.reg [⟨some 4, none, .faddr 0 (.t 1)⟩, ⟨some 5, none, .load false 1 (.a 4 1)⟩, ⟨some 6, none, .faddr 0 (.t 3)⟩, ⟨none, none, .store 1 (.a 6 3) (.p 5)⟩])
 (.seq (.reg [⟨some 7, none, .faddr 1 (.t 1)⟩, ⟨some 8, none, .load false 1 (.a 7 1)⟩, ⟨some 9, none, .faddr 1 (.t 3)⟩, ⟨none, none, .store 1 (.a 9 3) (.p 8)⟩])
 (.seq (.reg [⟨some 10, none, .faddr 2 (.t 1)⟩, ⟨some 11, none, .load false 1 (.a 10 1)⟩, ⟨some 12, none, .call n_laws_toIntS [.a 11 1]⟩, ⟨some 13, none, .faddr 2 (.t 3)⟩, ⟨none, none, .store 1 (.a 13 3) (.t 12)⟩])
 (.seq (.reg [⟨some 14, none, .faddr 3 (.t 1)⟩, ⟨some 15, none, .load false 1 (.a 14 1)⟩, ⟨some 16, none, .call n_laws_toIntS [.a 15 1]⟩, ⟨some 17, none, .faddr 3 (.t 3)⟩, ⟨none, none, .store 1 (.a 17 3) (.t 16)⟩])
 (.seq (.reg [⟨some 18, none, .faddr 4 (.t 1)⟩, ⟨some 19, none, .load false 1 (.a 18 1)⟩, ⟨some 20, none, .call n_laws_toIntS [.a 19 1]⟩, ⟨some 21, none, .faddr 4 (.t 3)⟩, ⟨none, none, .store 1 (.a 21 3) (.t 20)⟩])
 (.seq (.reg [⟨some 22, none, .load true 5 (.t 3)⟩, ⟨none, none, .store 5 (.t 2) (.a 22 3)⟩])
 .ret))))))))⟩
def b_laws_toUnitS_0 : AC := (.seq (.seq (.reg [⟨some 8, none, .mv (.p 4)⟩, ⟨some 9, none, .rf (.t 0)⟩, ⟨some 10, none, .len (.a 9 0)⟩, ⟨some 11, none, .bin .lss (.t 8) (.t 10)⟩])
 (.cond (.t 11) .skip (.exit 0)))
 (.seq (.block 1 (.reg [⟨some 14, none, .rf (.t 3)⟩, ⟨some 15, none, .mv (.p 4)⟩, ⟨some 16, none, .rf (.t 0)⟩, ⟨some 17, none, .mv (.p 4)⟩, ⟨some 18, none, .iaddr 4 (.a 16 0) (.t 17)⟩, ⟨some 19, none, .load true 4 (.a 18 0)⟩, ⟨some 20, none, .call n_laws_toUnit [.a 19 0]⟩, ⟨some 21, none, .iaddr 4 (.a 14 3) (.t 15)⟩, ⟨none, none, .store 4 (.a 21 3) (.t 20)⟩]))
 (.reg [⟨some 12, none, .mv (.p 4)⟩, ⟨some 13, none, .bin .add (.t 12) (.c (.int .i64 1))⟩, ⟨some 4, none, .asg (.p 13)⟩])))
/-- laws.toUnitS -/
def a_laws_toUnitS : AFn := ⟨1, 23, [.tmp 2], (.seq (.reg [⟨some 2, none, .asg (.c (.list true 4 []))⟩])
 (.seq (.reg [⟨some 5, none, .rf (.t 0)⟩, ⟨some 6, none, .len (.a 5 0)⟩, ⟨some 7, none, .mslice 4 [.int .i64 0, .int .i64 0, .int .i64 0, .int .i64 0] (.t 6)⟩, ⟨some 3, none, .asg (.t 7)⟩])
 (.seq (.seq (.reg [⟨some 4, none, .asg (.c (.int .i64 0))⟩])
 (.block 0 (.loop [0, 3, 4] [2, 3] b_laws_toUnitS_0)))
 (.seq (.reg [⟨some 22, none, .rf (.t 3)⟩, ⟨some 2, none, .asg (.a 22 3)⟩])
 .ret))))⟩
def b_laws_eqOrderS_0 : AC := (.seq (.seq (.reg [⟨some 11, none, .mv (.p 5)⟩, ⟨some 12, none, .rf (.t 0)⟩, ⟨some 13, none, .len (.a 12 0)⟩, ⟨some 14, none, .bin .lss (.t 11) (.t 13)⟩])
 (.cond (.t 14) .skip (.exit 0)))
 (.seq (.block 1 (.seq (.reg [⟨some 17, none, .rf (.t 0)⟩, ⟨some 18, none, .mv (.p 5)⟩, ⟨some 19, none, .iaddr 3 (.a 17 0) (.t 18)⟩, ⟨some 20, none, .load true 3 (.a 19 0)⟩, ⟨some 21, none, .rf (.t 1)⟩, ⟨some 22, none, .mv (.p 5)⟩, ⟨some 23, none, .iaddr 3 (.a 21 1) (.t 22)⟩, ⟨some 24, none, .load true 3 (.a 23 1)⟩, ⟨some 25, none, .call n_laws_eqOrder [.a 20 0, .a 24 1]⟩, ⟨some 26, none, .un .not (.t 25)⟩])
 (.cond (.t 26) (.seq (.reg [⟨some 4, none, .asg (.c (.bool false))⟩])
 .ret) .skip)))
 (.reg [⟨some 15, none, .mv (.p 5)⟩, ⟨some 16, none, .bin .add (.t 15) (.c (.int .i64 1))⟩, ⟨some 5, none, .asg (.p 16)⟩])))
/-- laws.eqOrderS -/
def a_laws_eqOrderS : AFn := ⟨2, 27, [.tmp 4], (.seq (.reg [⟨some 4, none, .asg (.c (.bool false))⟩])
 (.seq (.seq (.reg [⟨some 6, none, .rf (.t 0)⟩, ⟨some 7, none, .len (.a 6 0)⟩, ⟨some 8, none, .rf (.t 1)⟩, ⟨some 9, none, .len (.a 8 1)⟩, ⟨some 10, none, .bin .neq (.t 7) (.t 9)⟩])
 (.cond (.t 10) (.seq (.reg [⟨some 4, none, .asg (.c (.bool false))⟩])
 .ret) .skip))
 (.seq (.seq (.reg [⟨some 5, none, .asg (.c (.int .i64 0))⟩])
 (.block 0 (.loop [0, 1, 5] [4] b_laws_eqOrderS_0)))
 (.seq (.reg [⟨some 4, none, .asg (.c (.bool true))⟩])
 .ret))))⟩
/-- laws.eqRules -/
def a_laws_eqRules : AFn := ⟨2, 42, [.tmp 4], (.seq (.reg [⟨some 2, none, .box (.t 0)⟩, ⟨some 3, none, .box (.t 1)⟩, ⟨some 4, none, .asg (.c (.bool false))⟩])
 (.seq (.seq (.reg [⟨some 5, none, .faddr 0 (.t 2)⟩, ⟨some 6, none, .load false 1 (.a 5 2)⟩, ⟨some 7, none, .faddr 0 (.t 3)⟩, ⟨some 8, none, .load false 1 (.a 7 3)⟩, ⟨some 9, none, .call n_laws_eqTerrainS [.a 6 2, .a 8 3]⟩, ⟨some 10, none, .un .not (.t 9)⟩])
 (.cond (.t 10) (.seq (.reg [⟨some 4, none, .asg (.c (.bool false))⟩])
 .ret) .skip))
 (.seq (.seq (.reg [⟨some 11, none, .faddr 1 (.t 2)⟩, ⟨some 12, none, .load false 1 (.a 11 2)⟩, ⟨some 13, none, .faddr 1 (.t 3)⟩, ⟨some 14, none, .load false 1 (.a 13 3)⟩, ⟨some 15, none, .call n_laws_eqKindS [.a 12 2, .a 14 3]⟩, ⟨some 16, none, .un .not (.t 15)⟩])
 (.cond (.t 16) (.seq (.reg [⟨some 4, none, .asg (.c (.bool false))⟩])
 .ret) .skip))
 (.seq (.seq (.reg [⟨some 17, none, .faddr 2 (.t 2)⟩, ⟨some 18, none, .load false 1 (.a 17 2)⟩, ⟨some 19, none, .faddr 2 (.t 3)⟩, ⟨some 20, none, .load false 1 (.a 19 3)⟩, ⟨some 21, none, .bin .neq (.a 18 2) (.a 20 3)⟩])
 (.cond (.t 21) (.seq (.reg [⟨some 4, none, .asg (.c (.bool false))⟩])
 .ret) .skip))
 (.seq (.seq (.reg [⟨some 22, none, .faddr 3 (.t 2)⟩, ⟨some 23, none, .load false 1 (.a 22 2)⟩, ⟨some 24, none, .faddr 3 (.t 3)⟩, ⟨some 25, none, .load false 1 (.a 24 3)⟩, ⟨some 26, none, .bin .neq (.a 23 2) (.a 25 3)⟩])
 (.cond (.t 26) (.seq (.reg [⟨some 4, none, .asg (.c (.bool false))⟩])
 .ret) .skip))
 (.seq (.seq (.reg [⟨some 27, none, .faddr 4 (.t 2)⟩, ⟨some 28, none, .load false 1 (.a 27 2)⟩, ⟨some 29, none, .faddr 4 (.t 3)⟩, ⟨some 30, none, .load false 1 (.a 29 3)⟩, ⟨some 31, none, .bin .neq (.a 28 2) (.a 30 3)⟩])
 (.cond (.t 31) (.seq (.reg [⟨some 4, none, .asg (.c (.bool false))⟩])
 .ret) .skip))
 (.seq (.seq (.reg [⟨some 32, none, .faddr 5 (.t 2)⟩, ⟨some 33, none, .load false 1 (.a 32 2)⟩, ⟨some 34, none, .faddr 5 (.t 3)⟩, ⟨some 35, none, .load false 1 (.a 34 3)⟩, ⟨some 36, none, .bin .neq (.a 33 2) (.a 35 3)⟩])
 (.cond (.t 36) (.seq (.reg [⟨some 4, none, .asg (.c (.bool false))⟩])
 .ret) .skip))
 (.seq (.seq (.reg [⟨some 37, none, .faddr 6 (.t 2)⟩, ⟨some 38, none, .load false 1 (.a 37 2)⟩, ⟨some 39, none, .faddr 6 (.t 3)⟩, ⟨some 40, none, .load false 1 (.a 39 3)⟩, ⟨some 41, none, .bin .neq (.a 38 2) (.a 40 3)⟩])
 (.cond (.t 41) (.seq (.reg [⟨some 4, none, .asg (.c (.bool false))⟩])
 .ret) .skip))
 (.seq (.reg [⟨some 4, none, .asg (.c (.bool true))⟩])
 .ret)))))))))⟩
/-- laws.eqMap -/
def a_laws_eqMap : AFn := ⟨2, 33, [.tmp 4], (.seq (.reg [⟨some 2, none, .box (.t 0)⟩, ⟨some 3, none, .box (.t 1)⟩, ⟨some 4, none, .asg (.c (.bool false))⟩])
 (.seq (.seq (.reg [⟨some 5, none, .faddr 0 (.t 2)⟩, ⟨some 6, none, .load false 1 (.a 5 2)⟩, ⟨some 7, none, .faddr 0 (.t 3)⟩, ⟨some 8, none, .load false 1 (.a 7 3)⟩, ⟨some 9, none, .bin .neq (.a 6 2) (.a 8 3)⟩])
 (.cond (.t 9) (.seq (.reg [⟨some 4, none, .asg (.c (.bool false))⟩])
 .ret) .skip))
 (.seq (.seq (.reg [⟨some 10, none, .faddr 1 (.t 2)⟩, ⟨some 11, none, .load false 1 (.a 10 2)⟩, ⟨some 12, none, .faddr 1 (.t 3)⟩, ⟨some 13, none, .load false 1 (.a 12 3)⟩, ⟨some 14, none, .bin .neq (.a 11 2) (.a 13 3)⟩])
 (.cond (.t 14) (.seq (.reg [⟨some 4, none, .asg (.c (.bool false))⟩])
 .ret) .skip))
 (.seq (.seq (.reg [⟨some 15, none, .faddr 2 (.t 2)⟩, ⟨some 16, none, .load false 1 (.a 15 2)⟩, ⟨some 17, none, .faddr 2 (.t 3)⟩, ⟨some 18, none, .load false 1 (.a 17 3)⟩, ⟨some 19, none, .call n_laws_eqIntS [.a 16 2, .a 18 3]⟩, ⟨some 20, none, .un .not (.t 19)⟩])
 (.cond (.t 20) (.seq (.reg [⟨some 4, none, .asg (.c (.bool false))⟩])
 .ret) .skip))
 (.seq (.seq (.reg [⟨some 21, none, .faddr 3 (.t 2)⟩, ⟨some 22, none, .load false 1 (.a 21 2)⟩, ⟨some 23, none, .faddr 3 (.t 3)⟩, ⟨some 24, none, .load false 1 (.a 23 3)⟩, ⟨some 25, none, .call n_laws_eqIntS [.a 22 2, .a 24 3]⟩, ⟨some 26, none, .un .not (.t 25)⟩])
 (.cond (.t 26) (.seq (.reg [⟨some 4, none, .asg (.c (.bool false))⟩])
 .ret) .skip))
 (.seq (.seq (.reg [⟨some 27, none, .faddr 4 (.t 2)⟩, ⟨some 28, none, .load false 1 (.a 27 2)⟩, ⟨some 29, none, .faddr 4 (.t 3)⟩, ⟨some 30, none, .load false 1 (.a 29 3)⟩, ⟨some 31, none, .call n_laws_eqIntS [.a 28 2, .a 30 3]⟩, ⟨some 32, none, .un .not (.t 31)⟩])
 (.cond (.t 32) (.seq (.reg [⟨some 4, none, .asg (.c (.bool false))⟩])
 .ret) .skip))
 (.seq (.reg [⟨some 4, none, .asg (.c (.bool true))⟩])
 .ret)))))))⟩
def b_laws_eqUnitS_0 : AC := (.seq (.seq (.reg [⟨some 11, none, .mv (.p 5)⟩, ⟨some 12, none, .rf (.t 0)⟩, ⟨some 13, none, .len (.a 12 0)⟩, ⟨some 14, none, .bin .lss (.t 11) (.t 13)⟩])
 (.cond (.t 14) .skip (.exit 0)))
 (.seq (.block 1 (.seq (.reg [⟨some 17, none, .rf (.t 0)⟩, ⟨some 18, none, .mv (.p 5)⟩, ⟨some 19, none, .iaddr 4 (.a 17 0) (.t 18)⟩, ⟨some 20, none, .load true 4 (.a 19 0)⟩, ⟨some 21, none, .rf (.t 1)⟩, ⟨some 22, none, .mv (.p 5)⟩, ⟨some 23, none, .iaddr 4 (.a 21 1) (.t 22)⟩, ⟨some 24, none, .load true 4 (.a 23 1)⟩, ⟨some 25, none, .call n_laws_eqUnit [.a 20 0, .a 24 1]⟩, ⟨some 26, none, .un .not (.t 25)⟩])
 (.cond (.t 26) (.seq (.reg [⟨some 4, none, .asg (.c (.bool false))⟩])
 .ret) .skip)))
 (.reg [⟨some 15, none, .mv (.p 5)⟩, ⟨some 16, none, .bin .add (.t 15) (.c (.int .i64 1))⟩, ⟨some 5, none, .asg (.p 16)⟩])))
/-- laws.eqUnitS -/
def a_laws_eqUnitS : AFn := ⟨2, 27, [.tmp 4], (.seq (.reg [⟨some 4, none, .asg (.c (.bool false))⟩])
 (.seq (.seq (.reg [⟨some 6, none, .rf (.t 0)⟩, ⟨some 7, none, .len (.a 6 0)⟩, ⟨some 8, none, .rf (.t 1)⟩, ⟨some 9, none, .len (.a 8 1)⟩, ⟨some 10, none, .bin .neq (.t 7) (.t 9)⟩])
 (.cond (.t 10) (.seq (.reg [⟨some 4, none, .asg (.c (.bool false))⟩])
 .ret) .skip))
 (.seq (.seq (.reg [⟨some 5, none, .asg (.c (.int .i64 0))⟩])
 (.block 0 (.loop [0, 1, 5] [4] b_laws_eqUnitS_0)))
 (.seq (.reg [⟨some 4, none, .asg (.c (.bool true))⟩])
 .ret))))⟩
/-- laws.markRules -/
def a_laws_markRules : AFn := ⟨2, 14, [.tmp 4, .io 0], (.seq (.reg [⟨some 2, none, .boxk 0⟩, ⟨some 4, none, .asg (.c (.int .i64 0))⟩])
 (.seq (.reg [⟨some 5, none, .faddr 0 (.t 2)⟩, ⟨some 6, none, .load false 1 (.a 5 2)⟩, ⟨some 7, none, .mv (.p 1)⟩, ⟨some 8, none, .calli n_laws_markTerrainS 6 2 [.t 7]⟩, ⟨some 1, none, .asg (.p 8)⟩])
 (.seq (.reg [⟨some 9, none, .faddr 1 (.t 2)⟩, ⟨some 10, none, .load false 1 (.a 9 2)⟩, ⟨some 11, none, .mv (.p 1)⟩, ⟨some 12, none, .calli n_laws_markKindS 10 2 [.t 11]⟩, ⟨some 1, none, .asg (.p 12)⟩])
 (.seq (.reg [⟨some 13, none, .mv (.p 1)⟩, ⟨some 4, none, .asg (.p 13)⟩])
 .ret))))⟩
/-- laws.markMap -/
def a_laws_markMap : AFn := ⟨2, 18, [.tmp 4, .io 0], (.seq (.reg [⟨some 2, none, .boxk 0⟩, ⟨some 4, none, .asg (.c (.int .i64 0))⟩])
 (.seq (.reg [⟨some 5, none, .faddr 2 (.t 2)⟩, ⟨some 6, none, .load false 1 (.a 5 2)⟩, ⟨some 7, none, .mv (.p 1)⟩, ⟨some 8, none, .calli n_laws_markIntS 6 2 [.t 7]⟩, ⟨some 1, none, .asg (.p 8)⟩])
 (.seq (.reg [⟨some 9, none, .faddr 3 (.t 2)⟩, ⟨some 10, none, .load false 1 (.a 9 2)⟩, ⟨some 11, none, .mv (.p 1)⟩, ⟨some 12, none, .calli n_laws_markIntS 10 2 [.t 11]⟩, ⟨some 1, none, .asg (.p 12)⟩])
 (.seq (.reg [⟨some 13, none, .faddr 4 (.t 2)⟩, ⟨some 14, none, .load false 1 (.a 13 2)⟩, ⟨some 15, none, .mv (.p 1)⟩, ⟨some 16, none, .calli n_laws_markIntS 14 2 [.t 15]⟩, ⟨some 1, none, .asg (.p 16)⟩])
 (.seq (.reg [⟨some 17, none, .mv (.p 1)⟩, ⟨some 4, none, .asg (.p 17)⟩])
 .ret)))))⟩
def b_laws_markUnitS_0 : AC := (.seq (.seq (.reg [⟨some 6, none, .mv (.p 5)⟩, ⟨some 7, none, .rf (.t 0)⟩, ⟨some 8, none, .len (.a 7 0)⟩, ⟨some 9, none, .bin .lss (.t 6) (.t 8)⟩])
 (.cond (.t 9) .skip (.exit 0)))
 (.seq (.block 1 (.seq (.reg [⟨some 12, none, .rf (.t 0)⟩, ⟨some 13, none, .mv (.p 5)⟩, ⟨some 14, none, .mv (.p 1)⟩, ⟨some 15, none, .iaddr 4 (.a 12 0) (.t 13)⟩, ⟨some 16, none, .faddr 0 (.a 15 0)⟩, ⟨none, none, .store 1 (.a 16 0) (.p 14)⟩])
 (.seq (.reg [⟨some 17, none, .mv (.p 1)⟩, ⟨some 18, none, .bin .add (.t 17) (.c (.int .i64 1))⟩, ⟨some 1, none, .asg (.p 18)⟩])
 (.seq (.reg [⟨some 19, none, .rf (.t 0)⟩, ⟨some 20, none, .mv (.p 5)⟩, ⟨some 21, none, .mv (.p 1)⟩, ⟨some 22, none, .iaddr 4 (.a 19 0) (.t 20)⟩, ⟨some 23, none, .faddr 1 (.a 22 0)⟩, ⟨none, none, .store 1 (.a 23 0) (.p 21)⟩])
 (.seq (.reg [⟨some 24, none, .mv (.p 1)⟩, ⟨some 25, none, .bin .add (.t 24) (.c (.int .i64 1))⟩, ⟨some 1, none, .asg (.p 25)⟩])
 (.seq (.reg [⟨some 26, none, .rf (.t 0)⟩, ⟨some 27, none, .mv (.p 5)⟩, ⟨some 28, none, .mv (.p 1)⟩, ⟨some 29, none, .iaddr 4 (.a 26 0) (.t 27)⟩, ⟨some 30, none, .faddr 2 (.a 29 0)⟩, ⟨none, none, .store 1 (.a 30 0) (.p 28)⟩])
 (.seq (.reg [⟨some 31, none, .mv (.p 1)⟩, ⟨some 32, none, .bin .add (.t 31) (.c (.int .i64 1))⟩, ⟨some 1, none, .asg (.p 32)⟩])
 (.seq (.reg [⟨some 33, none, .rf (.t 0)⟩, ⟨some 34, none, .mv (.p 5)⟩, ⟨some 35, none, .mv (.p 1)⟩, ⟨some 36, none, .iaddr 4 (.a 33 0) (.t 34)⟩, ⟨some 37, none, .faddr 3 (.a 36 0)⟩, ⟨none, none, .store 1 (.a 37 0) (.p 35)⟩])
 (.reg [⟨some 38, none, .mv (.p 1)⟩, ⟨some 39, none, .bin .add (.t 38) (.c (.int .i64 1))⟩, ⟨some 1, none, .asg (.p 39)⟩])))))))))
 (.reg [⟨some 10, none, .mv (.p 5)⟩, ⟨some 11, none, .bin .add (.t 10) (.c (.int .i64 1))⟩, ⟨some 5, none, .asg (.p 11)⟩])))
/-- laws.markUnitS -/
def a_laws_markUnitS : AFn := ⟨2, 41, [.tmp 4, .io 0], (.seq (.reg [⟨some 4, none, .asg (.c (.int .i64 0))⟩])
 (.seq (.seq (.reg [⟨some 5, none, .asg (.c (.int .i64 0))⟩])
 (.block 0 (.loop [0, 1, 5] [0, 1, 4] b_laws_markUnitS_0)))
 (.seq (.reg [⟨some 40, none, .mv (.p 1)⟩, ⟨some 4, none, .asg (.p 40)⟩])
 .ret)))⟩
def b_laws_markOrderS_0 : AC := (.seq (.seq (.reg [⟨some 6, none, .mv (.p 5)⟩, ⟨some 7, none, .rf (.t 0)⟩, ⟨some 8, none, .len (.a 7 0)⟩, ⟨some 9, none, .bin .lss (.t 6) (.t 8)⟩])
 (.cond (.t 9) .skip (.exit 0)))
 (.seq (.block 1 (.seq (.reg [⟨some 12, none, .rf (.t 0)⟩, ⟨some 13, none, .mv (.p 5)⟩, ⟨some 14, none, .mv (.p 1)⟩, ⟨some 15, none, .iaddr 3 (.a 12 0) (.t 13)⟩, ⟨some 16, none, .faddr 0 (.a 15 0)⟩, ⟨none, none, .store 1 (.a 16 0) (.p 14)⟩])
 (.seq (.reg [⟨some 17, none, .mv (.p 1)⟩, ⟨some 18, none, .bin .add (.t 17) (.c (.int .i64 1))⟩, ⟨some 1, none, .asg (.p 18)⟩])
 (.seq (.reg [⟨some 19, none, .rf (.t 0)⟩, ⟨some 20, none, .mv (.p 5)⟩, ⟨some 21, none, .iaddr 3 (.a 19 0) (.t 20)⟩, ⟨some 22, none, .faddr 1 (.a 21 0)⟩, ⟨some 23, none, .load false 1 (.a 22 0)⟩, ⟨some 24, none, .mv (.p 1)⟩, ⟨some 25, none, .calli n_laws_markIntS 23 0 [.t 24]⟩, ⟨some 1, none, .asg (.p 25)⟩])
 (.seq (.reg [⟨some 26, none, .rf (.t 0)⟩, ⟨some 27, none, .mv (.p 5)⟩, ⟨some 28, none, .mv (.p 1)⟩, ⟨some 29, none, .iaddr 3 (.a 26 0) (.t 27)⟩, ⟨some 30, none, .faddr 2 (.a 29 0)⟩, ⟨none, none, .store 1 (.a 30 0) (.p 28)⟩])
 (.reg [⟨some 31, none, .mv (.p 1)⟩, ⟨some 32, none, .bin .add (.t 31) (.c (.int .i64 1))⟩, ⟨some 1, none, .asg (.p 32)⟩]))))))
 (.reg [⟨some 10, none, .mv (.p 5)⟩, ⟨some 11, none, .bin .add (.t 10) (.c (.int .i64 1))⟩, ⟨some 5, none, .asg (.p 11)⟩])))
/-- laws.markOrderS -/
def a_laws_markOrderS : AFn := ⟨2, 34, [.tmp 4, .io 0], (.seq (.reg [⟨some 4, none, .asg (.c (.int .i64 0))⟩])
 (.seq (.seq (.reg [⟨some 5, none, .asg (.c (.int .i64 0))⟩])
 (.block 0 (.loop [0, 1, 5] [0, 1, 4] b_laws_markOrderS_0)))
 (.seq (.reg [⟨some 33, none, .mv (.p 1)⟩, ⟨some 4, none, .asg (.p 33)⟩])
 .ret)))⟩
def b_laws_heldOrderS_0 : AC := (.seq (.seq (.reg [⟨some 6, none, .mv (.p 5)⟩, ⟨some 7, none, .rf (.t 0)⟩, ⟨some 8, none, .len (.a 7 0)⟩, ⟨some 9, none, .bin .lss (.t 6) (.t 8)⟩])
 (.cond (.t 9) .skip (.exit 0)))
 (.seq (.block 1 (.seq (.seq (.reg [⟨some 12, none, .rf (.t 0)⟩, ⟨some 13, none, .mv (.p 5)⟩, ⟨some 14, none, .iaddr 3 (.a 12 0) (.t 13)⟩, ⟨some 15, none, .faddr 0 (.a 14 0)⟩, ⟨some 16, none, .load false 1 (.a 15 0)⟩, ⟨some 17, none, .mv (.p 1)⟩, ⟨some 18, none, .bin .neq (.a 16 0) (.t 17)⟩])
 (.cond (.t 18) (.seq (.reg [⟨some 4, none, .asg (.c (.int .i64 (-1)))⟩])
 .ret) .skip))
 (.seq (.reg [⟨some 19, none, .mv (.p 1)⟩, ⟨some 20, none, .bin .add (.t 19) (.c (.int .i64 1))⟩, ⟨some 1, none, .asg (.p 20)⟩])
 (.seq (.reg [⟨some 21, none, .rf (.t 0)⟩, ⟨some 22, none, .mv (.p 5)⟩, ⟨some 23, none, .iaddr 3 (.a 21 0) (.t 22)⟩, ⟨some 24, none, .faddr 1 (.a 23 0)⟩, ⟨some 25, none, .load false 1 (.a 24 0)⟩, ⟨some 26, none, .mv (.p 1)⟩, ⟨some 27, none, .call n_laws_heldIntS [.a 25 0, .t 26]⟩, ⟨some 1, none, .asg (.p 27)⟩])
 (.seq (.seq (.reg [⟨some 28, none, .mv (.p 1)⟩, ⟨some 29, none, .bin .lss (.t 28) (.c (.int .i64 0))⟩])
 (.cond (.t 29) (.seq (.reg [⟨some 4, none, .asg (.c (.int .i64 (-1)))⟩])
 .ret) .skip))
 (.seq (.seq (.reg [⟨some 30, none, .rf (.t 0)⟩, ⟨some 31, none, .mv (.p 5)⟩, ⟨some 32, none, .iaddr 3 (.a 30 0) (.t 31)⟩, ⟨some 33, none, .faddr 2 (.a 32 0)⟩, ⟨some 34, none, .load false 1 (.a 33 0)⟩, ⟨some 35, none, .mv (.p 1)⟩, ⟨some 36, none, .bin .neq (.a 34 0) (.t 35)⟩])
 (.cond (.t 36) (.seq (.reg [⟨some 4, none, .asg (.c (.int .i64 (-1)))⟩])
 .ret) .skip))
 (.reg [⟨some 37, none, .mv (.p 1)⟩, ⟨some 38, none, .bin .add (.t 37) (.c (.int .i64 1))⟩, ⟨some 1, none, .asg (.p 38)⟩])))))))
 (.reg [⟨some 10, none, .mv (.p 5)⟩, ⟨some 11, none, .bin .add (.t 10) (.c (.int .i64 1))⟩, ⟨some 5, none, .asg (.p 11)⟩])))
/-- laws.heldOrderS -/
def a_laws_heldOrderS : AFn := ⟨2, 40, [.tmp 4], (.seq (.reg [⟨some 4, none, .asg (.c (.int .i64 0))⟩])
 (.seq (.seq (.reg [⟨some 5, none, .asg (.c (.int .i64 0))⟩])
 (.block 0 (.loop [0, 1, 5] [1, 4] b_laws_heldOrderS_0)))
 (.seq (.reg [⟨some 39, none, .mv (.p 1)⟩, ⟨some 4, none, .asg (.p 39)⟩])
 .ret)))⟩
/-- laws.szIntS -/
def a_laws_szIntS : AFn := ⟨2, 12, [.tmp 4], (.seq (.reg [⟨some 4, none, .asg (.c (.int .i64 0))⟩])
 (.seq (.reg [⟨some 5, none, .mv (.p 1)⟩, ⟨some 6, none, .rf (.t 0)⟩, ⟨some 7, none, .len (.a 6 0)⟩, ⟨some 8, none, .bin .sub (.t 5) (.t 7)⟩, ⟨some 1, none, .asg (.p 8)⟩])
 (.seq (.seq (.reg [⟨some 9, none, .mv (.p 1)⟩, ⟨some 10, none, .bin .lss (.t 9) (.c (.int .i64 0))⟩])
 (.cond (.t 10) (.seq (.reg [⟨some 4, none, .asg (.c (.int .i64 (-1)))⟩])
 .ret) .skip))
 (.seq (.reg [⟨some 11, none, .mv (.p 1)⟩, ⟨some 4, none, .asg (.p 11)⟩])
 .ret))))⟩
def b_laws_toIntS_0 : AC := (.seq (.seq (.reg [⟨some 8, none, .mv (.p 4)⟩, ⟨some 9, none, .rf (.t 0)⟩, ⟨some 10, none, .len (.a 9 0)⟩, ⟨some 11, none, .bin .lss (.t 8) (.t 10)⟩])
 (.cond (.t 11) .skip (.exit 0)))
 (.seq (.block 1 (.reg [⟨some 14, none, .rf (.t 3)⟩, ⟨some 15, none, .mv (.p 4)⟩, ⟨some 16, none, .rf (.t 0)⟩, ⟨some 17, none, .mv (.p 4)⟩, ⟨some 18, none, .iaddr 1 (.a 16 0) (.t 17)⟩, ⟨some 19, none, .load false 1 (.a 18 0)⟩, ⟨some 20, none, .iaddr 1 (.a 14 3) (.t 15)⟩, ⟨none, none, .store 1 (.a 20 3) (.p 19)⟩]))
 (.reg [⟨some 12, none, .mv (.p 4)⟩, ⟨some 13, none, .bin .add (.t 12) (.c (.int .i64 1))⟩, ⟨some 4, none, .asg (.p 13)⟩])))
/-- laws.toIntS -/
def a_laws_toIntS : AFn := ⟨1, 22, [.tmp 2], (.seq (.reg [⟨some 2, none, .asg (.c (.list true 1 []))⟩])
 (.seq (.reg [⟨some 5, none, .rf (.t 0)⟩, ⟨some 6, none, .len (.a 5 0)⟩, ⟨some 7, none, .mslice 1 [.int .i64 0] (.t 6)⟩, ⟨some 3, none, .asg (.t 7)⟩])
 (.seq (.seq (.reg [⟨some 4, none, .asg (.c (.int .i64 0))⟩])
 (.block 0 (.loop [0, 3, 4] [2, 3] b_laws_toIntS_0)))
 (.seq (.reg [⟨some 21, none, .rf (.t 3)⟩, ⟨some 2, none, .asg (.a 21 3)⟩])
 .ret))))⟩
/-- impl.goodSheet -/
def a_impl_goodSheet : AFn := ⟨3, 28, [.tmp 6], (.seq (.reg [⟨some 3, none, .box (.t 0)⟩, ⟨some 4, none, .box (.t 1)⟩, ⟨some 5, none, .box (.t 2)⟩, ⟨some 6, none, .asg (.c (.bool false))⟩])
 (.seq (.seq (.reg [⟨some 9, none, .faddr 0 (.t 5)⟩, ⟨some 10, none, .load false 1 (.a 9 5)⟩, ⟨some 11, none, .call n_impl_isSide [.a 10 5]⟩, ⟨some 12, none, .un .not (.t 11)⟩, ⟨some 13, none, .mv (.p 12)⟩, ⟨some 14, some (13, false), .faddr 1 (.t 5)⟩, ⟨some 15, some (13, false), .load false 1 (.a 14 5)⟩, ⟨some 16, some (13, false), .len (.a 15 5)⟩, ⟨some 17, some (13, false), .bin .gtr (.t 16) (.c (.int .i64 12))⟩, ⟨some 18, none, .pick (.t 13) (.c (.bool true)) (.t 17)⟩])
 (.cond (.t 18) (.seq (.reg [⟨some 6, none, .asg (.c (.bool false))⟩])
 .ret) .skip))
 (.seq (.reg [⟨some 20, none, .load true 12 (.t 3)⟩, ⟨some 21, none, .load true 3 (.t 4)⟩, ⟨some 22, none, .load true 2 (.t 5)⟩, ⟨some 23, none, .call n_impl_sheetFault [.a 20 3, .a 21 4, .a 22 5]⟩, ⟨some 19, none, .mv (.t 23)⟩, ⟨some 24, none, .extract (.p 19) 0⟩, ⟨some 25, none, .extract (.p 19) 1⟩, ⟨some 7, none, .asg (.p 24)⟩, ⟨some 8, none, .asg (.p 25)⟩])
 (.seq (.reg [⟨some 26, none, .mv (.p 8)⟩, ⟨some 27, none, .bin .eql (.t 26) (.c (.int .i64 0))⟩, ⟨some 6, none, .asg (.p 27)⟩])
 .ret))))⟩
def b_laws_eqIntS_0 : AC := (.seq (.seq (.reg [⟨some 11, none, .mv (.p 5)⟩, ⟨some 12, none, .rf (.t 0)⟩, ⟨some 13, none, .len (.a 12 0)⟩, ⟨some 14, none, .bin .lss (.t 11) (.t 13)⟩])
 (.cond (.t 14) .skip (.exit 0)))
 (.seq (.block 1 (.seq (.reg [⟨some 17, none, .rf (.t 0)⟩, ⟨some 18, none, .mv (.p 5)⟩, ⟨some 19, none, .iaddr 1 (.a 17 0) (.t 18)⟩, ⟨some 20, none, .load false 1 (.a 19 0)⟩, ⟨some 21, none, .rf (.t 1)⟩, ⟨some 22, none, .mv (.p 5)⟩, ⟨some 23, none, .iaddr 1 (.a 21 1) (.t 22)⟩, ⟨some 24, none, .load false 1 (.a 23 1)⟩, ⟨some 25, none, .bin .neq (.a 20 0) (.a 24 1)⟩])
 (.cond (.t 25) (.seq (.reg [⟨some 4, none, .asg (.c (.bool false))⟩])
 .ret) .skip)))
 (.reg [⟨some 15, none, .mv (.p 5)⟩, ⟨some 16, none, .bin .add (.t 15) (.c (.int .i64 1))⟩, ⟨some 5, none, .asg (.p 16)⟩])))
/-- laws.eqIntS -/
def a_laws_eqIntS : AFn := ⟨2, 26, [.tmp 4], (.seq (.reg [⟨some 4, none, .asg (.c (.bool false))⟩])
 (.seq (.seq (.reg [⟨some 6, none, .rf (.t 0)⟩, ⟨some 7, none, .len (.a 6 0)⟩, ⟨some 8, none, .rf (.t 1)⟩, ⟨some 9, none, .len (.a 8 1)⟩, ⟨some 10, none, .bin .neq (.t 7) (.t 9)⟩])
 (.cond (.t 10) (.seq (.reg [⟨some 4, none, .asg (.c (.bool false))⟩])
 .ret) .skip))
 (.seq (.seq (.reg [⟨some 5, none, .asg (.c (.int .i64 0))⟩])
 (.block 0 (.loop [0, 1, 5] [4] b_laws_eqIntS_0)))
 (.seq (.reg [⟨some 4, none, .asg (.c (.bool true))⟩])
 .ret))))⟩
def b_laws_markIntS_0 : AC := (.seq (.seq (.reg [⟨some 6, none, .mv (.p 5)⟩, ⟨some 7, none, .rf (.t 0)⟩, ⟨some 8, none, .len (.a 7 0)⟩, ⟨some 9, none, .bin .lss (.t 6) (.t 8)⟩])
 (.cond (.t 9) .skip (.exit 0)))
 (.seq (.block 1 (.seq (.reg [⟨some 12, none, .rf (.t 0)⟩, ⟨some 13, none, .mv (.p 5)⟩, ⟨some 14, none, .mv (.p 1)⟩, ⟨some 15, none, .iaddr 1 (.a 12 0) (.t 13)⟩, ⟨none, none, .store 1 (.a 15 0) (.p 14)⟩])
 (.reg [⟨some 16, none, .mv (.p 1)⟩, ⟨some 17, none, .bin .add (.t 16) (.c (.int .i64 1))⟩, ⟨some 1, none, .asg (.p 17)⟩])))
 (.reg [⟨some 10, none, .mv (.p 5)⟩, ⟨some 11, none, .bin .add (.t 10) (.c (.int .i64 1))⟩, ⟨some 5, none, .asg (.p 11)⟩])))
/-- laws.markIntS -/
def a_laws_markIntS : AFn := ⟨2, 19, [.tmp 4, .io 0], (.seq (.reg [⟨some 4, none, .asg (.c (.int .i64 0))⟩])
 (.seq (.seq (.reg [⟨some 5, none, .asg (.c (.int .i64 0))⟩])
 (.block 0 (.loop [0, 1, 5] [0, 1, 4] b_laws_markIntS_0)))
 (.seq (.reg [⟨some 18, none, .mv (.p 1)⟩, ⟨some 4, none, .asg (.p 18)⟩])
 .ret)))⟩
def b_spec_oText_0 : AC := (.seq (.reg [⟨some 26, none, .bin .lss (.t 25) (.t 24)⟩])
 (.seq (.cond (.t 26) .skip (.exit 2))
 (.seq (.block 3 (.seq (.reg [⟨some 27, none, .iaddr 1 (.a 23 5) (.t 25)⟩, ⟨some 28, none, .load false 1 (.a 27 5)⟩, ⟨some 9, none, .asg (.p 28)⟩])
 (.reg [⟨some 29, none, .mv (.p 6)⟩, ⟨some 30, none, .mv (.p 9)⟩, ⟨some 31, none, .call n_spec_l1Num [.t 30]⟩, ⟨some 32, none, .bin .add (.t 29) (.t 31)⟩, ⟨some 6, none, .asg (.p 32)⟩])))
 (.reg [⟨some 33, none, .bin .add (.t 25) (.c (.int .i64 1))⟩, ⟨some 25, none, .mv (.p 33)⟩]))))
def b_spec_oText_1 : AC := (.seq (.reg [⟨some 19, none, .bin .lss (.t 18) (.t 17)⟩])
 (.seq (.cond (.t 19) .skip (.exit 0))
 (.seq (.block 1 (.seq (.reg [⟨some 20, none, .iaddr 3 (.a 16 1) (.t 18)⟩, ⟨some 21, none, .load true 3 (.a 20 1)⟩, ⟨some 5, none, .alloc [.int .i64 0, .list true 1 [], .int .i64 0]⟩, ⟨none, none, .store 3 (.t 5) (.a 21 1)⟩])
 (.seq (.reg [⟨some 6, none, .asg (.c (.str ⟨#[]⟩))⟩, ⟨some 7, none, .asg (.c (.str ⟨#[45]⟩))⟩])
 (.seq (.seq (.reg [⟨some 22, none, .faddr 1 (.t 5)⟩, ⟨some 23, none, .load false 1 (.a 22 5)⟩, ⟨some 24, none, .len (.a 23 5)⟩, ⟨some 25, none, .mv (.c (.int .i64 0))⟩])
 (.block 2 (.loop [1, 3, 5, 6, 7, 16, 17, 18, 23, 24, 25] [1, 2, 3, 5, 6, 7, 16, 17, 18] b_spec_oText_0)))
 (.seq (.seq (.reg [⟨some 34, none, .mv (.p 6)⟩, ⟨some 35, none, .bin .eql (.t 34) (.c (.str ⟨#[]⟩))⟩])
 (.cond (.t 35) (.reg [⟨some 6, none, .asg (.c (.str ⟨#[45]⟩))⟩]) .skip))
 (.seq (.seq (.reg [⟨some 36, none, .faddr 2 (.t 5)⟩, ⟨some 37, none, .load false 1 (.a 36 5)⟩, ⟨some 38, none, .bin .geq (.a 37 5) (.c (.int .i64 0))⟩])
 (.cond (.t 38) (.reg [⟨some 39, none, .faddr 2 (.t 5)⟩, ⟨some 40, none, .load false 1 (.a 39 5)⟩, ⟨some 41, none, .call n_spec_l1Num [.a 40 5]⟩, ⟨some 7, none, .asg (.p 41)⟩]) .skip))
 (.reg [⟨some 42, none, .mv (.p 3)⟩, ⟨some 43, none, .faddr 0 (.t 5)⟩, ⟨some 44, none, .load false 1 (.a 43 5)⟩, ⟨some 45, none, .call n_spec_l1Num [.a 44 5]⟩, ⟨some 46, none, .bin .add (.t 45) (.c (.str ⟨#[32]⟩))⟩, ⟨some 47, none, .mv (.p 6)⟩, ⟨some 48, none, .bin .add (.t 46) (.t 47)⟩, ⟨some 49, none, .bin .add (.t 48) (.c (.str ⟨#[32]⟩))⟩, ⟨some 50, none, .mv (.p 7)⟩, ⟨some 51, none, .bin .add (.t 49) (.t 50)⟩, ⟨some 52, none, .bin .add (.t 51) (.c (.str ⟨#[10]⟩))⟩, ⟨some 53, none, .bin .add (.t 42) (.t 52)⟩, ⟨some 3, none, .asg (.p 53)⟩])))))))
 (.reg [⟨some 54, none, .bin .add (.t 18) (.c (.int .i64 1))⟩, ⟨some 18, none, .mv (.p 54)⟩]))))
/-- spec.oText -/
def a_spec_oText : AFn := ⟨1, 56, [.tmp 2], (.seq (.reg [⟨some 1, none, .box (.t 0)⟩, ⟨some 2, none, .asg (.c (.str ⟨#[]⟩))⟩])
 (.seq (.reg [⟨some 10, none, .faddr 0 (.t 1)⟩, ⟨some 11, none, .load false 1 (.a 10 1)⟩, ⟨some 12, none, .call n_spec_l1Num [.a 11 1]⟩, ⟨some 13, none, .bin .add (.c (.str ⟨#[115, 105, 100, 101, 32]⟩)) (.t 12)⟩, ⟨some 14, none, .bin .add (.t 13) (.c (.str ⟨#[10]⟩))⟩, ⟨some 3, none, .asg (.p 14)⟩])
 (.seq (.seq (.reg [⟨some 15, none, .faddr 1 (.t 1)⟩, ⟨some 16, none, .load false 1 (.a 15 1)⟩, ⟨some 17, none, .len (.a 16 1)⟩, ⟨some 18, none, .mv (.c (.int .i64 0))⟩])
 (.block 0 (.loop [1, 3, 16, 17, 18] [2, 3] b_spec_oText_1)))
 (.seq (.reg [⟨some 55, none, .mv (.p 3)⟩, ⟨some 2, none, .asg (.p 55)⟩])
 .ret))))⟩
def b_impl_sheetText_0 : AC := (.seq (.reg [⟨some 15, none, .bin .lss (.t 14) (.t 13)⟩])
 (.seq (.cond (.t 15) .skip (.exit 0))
 (.seq (.block 1 (.seq (.reg [⟨some 16, none, .iaddr 3 (.a 12 1) (.t 14)⟩, ⟨some 17, none, .load true 3 (.a 16 1)⟩, ⟨some 5, none, .alloc [.int .i64 0, .list true 1 [], .int .i64 0]⟩, ⟨none, none, .store 3 (.t 5) (.a 17 1)⟩])
 (.reg [⟨some 18, none, .mv (.p 3)⟩, ⟨some 19, none, .faddr 0 (.t 5)⟩, ⟨some 20, none, .load false 1 (.a 19 5)⟩, ⟨some 21, none, .call n_strconv_Itoa [.a 20 5]⟩, ⟨some 22, none, .bin .add (.t 21) (.c (.str ⟨#[32]⟩))⟩, ⟨some 23, none, .faddr 1 (.t 5)⟩, ⟨some 24, none, .load false 1 (.a 23 5)⟩, ⟨some 25, none, .call n_impl_digitsText [.a 24 5]⟩, ⟨some 26, none, .bin .add (.t 22) (.t 25)⟩, ⟨some 27, none, .bin .add (.t 26) (.c (.str ⟨#[32]⟩))⟩, ⟨some 28, none, .faddr 2 (.t 5)⟩, ⟨some 29, none, .load false 1 (.a 28 5)⟩, ⟨some 30, none, .call n_impl_placeText [.a 29 5]⟩, ⟨some 31, none, .bin .add (.t 27) (.t 30)⟩, ⟨some 32, none, .bin .add (.t 31) (.c (.str ⟨#[10]⟩))⟩, ⟨some 33, none, .bin .add (.t 18) (.t 32)⟩, ⟨some 3, none, .asg (.p 33)⟩])))
 (.reg [⟨some 34, none, .bin .add (.t 14) (.c (.int .i64 1))⟩, ⟨some 14, none, .mv (.p 34)⟩]))))
/-- impl.sheetText -/
def a_impl_sheetText : AFn := ⟨1, 36, [.tmp 2], (.seq (.reg [⟨some 1, none, .box (.t 0)⟩, ⟨some 2, none, .asg (.c (.str ⟨#[]⟩))⟩])
 (.seq (.reg [⟨some 6, none, .faddr 0 (.t 1)⟩, ⟨some 7, none, .load false 1 (.a 6 1)⟩, ⟨some 8, none, .bslice 1 1 [.int .i64 0] [(0, .p 7)]⟩, ⟨some 9, none, .call n_impl_wordsText [.c (.str ⟨#[115, 105, 100, 101]⟩), .t 8]⟩, ⟨some 10, none, .bin .add (.t 9) (.c (.str ⟨#[10]⟩))⟩, ⟨some 3, none, .asg (.p 10)⟩])
 (.seq (.seq (.reg [⟨some 11, none, .faddr 1 (.t 1)⟩, ⟨some 12, none, .load false 1 (.a 11 1)⟩, ⟨some 13, none, .len (.a 12 1)⟩, ⟨some 14, none, .mv (.c (.int .i64 0))⟩])
 (.block 0 (.loop [1, 3, 12, 13, 14] [2, 3] b_impl_sheetText_0)))
 (.seq (.reg [⟨some 35, none, .mv (.p 3)⟩, ⟨some 2, none, .asg (.p 35)⟩])
 .ret))))⟩
def b_spec_sGood_0 : AC := (.seq (.reg [⟨some 37, none, .bin .lss (.t 36) (.t 35)⟩])
 (.seq (.cond (.t 37) .skip (.exit 0))
 (.seq (.block 1 (.seq (.reg [⟨some 38, none, .iaddr 4 (.a 34 3) (.t 36)⟩, ⟨some 39, none, .load true 4 (.a 38 3)⟩, ⟨some 6, none, .alloc [.int .i64 0, .int .i64 0, .int .i64 0, .int .i64 0]⟩, ⟨none, none, .store 4 (.t 6) (.a 39 3)⟩])
 (.seq (.reg [⟨some 40, none, .load true 12 (.t 2)⟩, ⟨some 41, none, .load true 4 (.t 6)⟩, ⟨some 42, none, .call n_spec_sUnit [.a 40 2, .a 41 6]⟩, ⟨some 43, none, .un .not (.t 42)⟩])
 (.cond (.t 43) (.seq (.reg [⟨some 4, none, .asg (.c (.bool false))⟩])
 .ret) .skip))))
 (.reg [⟨some 44, none, .bin .add (.t 36) (.c (.int .i64 1))⟩, ⟨some 36, none, .mv (.p 44)⟩]))))
def b_spec_sGood_1 : AC := (.seq (.reg [⟨some 49, none, .bin .lss (.t 48) (.t 47)⟩])
 (.seq (.cond (.t 49) .skip (.exit 2))
 (.seq (.block 3 (.seq (.reg [⟨some 50, none, .iaddr 4 (.a 46 3) (.t 48)⟩, ⟨some 51, none, .load true 4 (.a 50 3)⟩, ⟨some 8, none, .alloc [.int .i64 0, .int .i64 0, .int .i64 0, .int .i64 0]⟩, ⟨none, none, .store 4 (.t 8) (.a 51 3)⟩])
 (.seq (.reg [⟨some 52, none, .faddr 2 (.t 8)⟩, ⟨some 53, none, .load false 1 (.a 52 8)⟩, ⟨some 54, none, .bin .geq (.a 53 8) (.c (.int .i64 0))⟩, ⟨some 55, none, .mv (.p 54)⟩, ⟨some 56, some (55, true), .load true 3 (.t 3)⟩, ⟨some 57, some (55, true), .faddr 2 (.t 8)⟩, ⟨some 58, some (55, true), .load false 1 (.a 57 8)⟩, ⟨some 59, some (55, true), .faddr 0 (.t 8)⟩, ⟨some 60, some (55, true), .load false 1 (.a 59 8)⟩, ⟨some 61, some (55, true), .bin .sub (.c (.int .i64 1)) (.a 60 8)⟩, ⟨some 62, some (55, true), .call n_spec_sAt [.a 56 3, .a 58 8, .t 61]⟩, ⟨some 63, some (55, true), .len (.t 62)⟩, ⟨some 64, some (55, true), .bin .gtr (.t 63) (.c (.int .i64 0))⟩, ⟨some 65, some (55, true), .mv (.p 64)⟩, ⟨some 66, some (65, false), .load true 3 (.t 3)⟩, ⟨some 67, some (65, false), .faddr 2 (.t 8)⟩, ⟨some 68, some (65, false), .load false 1 (.a 67 8)⟩, ⟨some 69, some (65, false), .faddr 0 (.t 8)⟩, ⟨some 70, some (65, false), .load false 1 (.a 69 8)⟩, ⟨some 71, some (65, false), .call n_spec_sAt [.a 66 3, .a 68 8, .a 70 8]⟩, ⟨some 72, some (65, false), .len (.t 71)⟩, ⟨some 73, some (65, false), .faddr 0 (.t 2)⟩, ⟨some 74, some (65, false), .faddr 2 (.a 73 2)⟩, ⟨some 75, some (65, false), .load false 1 (.a 74 2)⟩, ⟨some 76, some (65, false), .bin .gtr (.t 72) (.a 75 2)⟩, ⟨some 77, some (55, true), .pick (.t 65) (.c (.bool true)) (.t 76)⟩, ⟨some 78, none, .pick (.t 55) (.t 77) (.c (.bool false))⟩])
 (.cond (.t 78) (.seq (.reg [⟨some 4, none, .asg (.c (.bool false))⟩])
 .ret) .skip))))
 (.reg [⟨some 79, none, .bin .add (.t 48) (.c (.int .i64 1))⟩, ⟨some 48, none, .mv (.p 79)⟩]))))
/-- spec.sGood -/
def a_spec_sGood : AFn := ⟨2, 80, [.tmp 4], (.seq (.reg [⟨some 2, none, .box (.t 0)⟩, ⟨some 3, none, .box (.t 1)⟩, ⟨some 4, none, .asg (.c (.bool false))⟩])
 (.seq (.seq (.reg [⟨some 9, none, .load true 12 (.t 2)⟩, ⟨some 10, none, .call n_spec_bGood [.a 9 2]⟩, ⟨some 11, none, .un .not (.t 10)⟩, ⟨some 12, none, .mv (.p 11)⟩, ⟨some 13, some (12, false), .faddr 0 (.t 3)⟩, ⟨some 14, some (12, false), .load false 1 (.a 13 3)⟩, ⟨some 15, some (12, false), .faddr 0 (.t 2)⟩, ⟨some 16, some (12, false), .faddr 6 (.a 15 2)⟩, ⟨some 17, some (12, false), .load false 1 (.a 16 2)⟩, ⟨some 18, some (12, false), .call n_spec_l1In [.a 14 3, .c (.int .i64 0), .a 17 2]⟩, ⟨some 19, some (12, false), .un .not (.t 18)⟩, ⟨some 20, none, .pick (.t 12) (.c (.bool true)) (.t 19)⟩, ⟨some 21, none, .mv (.p 20)⟩, ⟨some 22, some (21, false), .faddr 1 (.t 3)⟩, ⟨some 23, some (21, false), .load false 1 (.a 22 3)⟩, ⟨some 24, some (21, false), .call n_spec_l1In [.a 23 3, .c (.int .i64 0), .c (.int .i64 2)]⟩, ⟨some 25, some (21, false), .un .not (.t 24)⟩, ⟨some 26, none, .pick (.t 21) (.c (.bool true)) (.t 25)⟩, ⟨some 27, none, .mv (.p 26)⟩, ⟨some 28, some (27, false), .faddr 2 (.t 3)⟩, ⟨some 29, some (27, false), .load false 1 (.a 28 3)⟩, ⟨some 30, some (27, false), .len (.a 29 3)⟩, ⟨some 31, some (27, false), .bin .gtr (.t 30) (.c (.int .i64 12))⟩, ⟨some 32, none, .pick (.t 27) (.c (.bool true)) (.t 31)⟩])
 (.cond (.t 32) (.seq (.reg [⟨some 4, none, .asg (.c (.bool false))⟩])
 .ret) .skip))
 (.seq (.seq (.reg [⟨some 33, none, .faddr 2 (.t 3)⟩, ⟨some 34, none, .load false 1 (.a 33 3)⟩, ⟨some 35, none, .len (.a 34 3)⟩, ⟨some 36, none, .mv (.c (.int .i64 0))⟩])
 (.block 0 (.loop [2, 3, 34, 35, 36] [2, 3, 4] b_spec_sGood_0)))
 (.seq (.seq (.reg [⟨some 45, none, .faddr 2 (.t 3)⟩, ⟨some 46, none, .load false 1 (.a 45 3)⟩, ⟨some 47, none, .len (.a 46 3)⟩, ⟨some 48, none, .mv (.c (.int .i64 0))⟩])
 (.block 2 (.loop [2, 3, 46, 47, 48] [4] b_spec_sGood_1)))
 (.seq (.reg [⟨some 4, none, .asg (.c (.bool true))⟩])
 .ret)))))⟩
def b_spec_oParse_0 : AC := (.seq (.seq (.reg [⟨some 60, none, .mv (.p 14)⟩, ⟨some 61, none, .rf (.t 9)⟩, ⟨some 62, none, .iaddr 1 (.a 61 9) (.c (.int .i64 1))⟩, ⟨some 63, none, .load false 1 (.a 62 9)⟩, ⟨some 64, none, .slen (.a 63 9)⟩, ⟨some 65, none, .bin .lss (.t 60) (.t 64)⟩, ⟨some 66, none, .mv (.p 65)⟩, ⟨some 67, some (66, true), .rf (.t 9)⟩, ⟨some 68, some (66, true), .iaddr 1 (.a 67 9) (.c (.int .i64 1))⟩, ⟨some 69, some (66, true), .load false 1 (.a 68 9)⟩, ⟨some 70, some (66, true), .bin .neq (.a 69 9) (.c (.str ⟨#[45]⟩))⟩, ⟨some 71, none, .pick (.t 66) (.t 70) (.c (.bool false))⟩])
 (.cond (.t 71) .skip (.exit 2)))
 (.seq (.block 3 (.reg [⟨some 74, none, .faddr 1 (.t 13)⟩, ⟨some 75, none, .load false 1 (.a 74 13)⟩, ⟨some 76, none, .rf (.t 9)⟩, ⟨some 77, none, .iaddr 1 (.a 76 9) (.c (.int .i64 1))⟩, ⟨some 78, none, .load false 1 (.a 77 9)⟩, ⟨some 79, none, .mv (.p 14)⟩, ⟨some 80, none, .sidx (.a 78 9) (.t 79)⟩, ⟨some 81, none, .conv .i64 (.t 80)⟩, ⟨some 82, none, .bin .sub (.t 81) (.c (.int .i64 48))⟩, ⟨some 83, none, .bslice 1 1 [.int .i64 0] [(0, .p 82)]⟩, ⟨some 84, none, .append 1 (.a 75 13) (.t 83)⟩, ⟨some 85, none, .faddr 1 (.t 13)⟩, ⟨none, none, .store 1 (.a 85 13) (.t 84)⟩]))
 (.reg [⟨some 72, none, .mv (.p 14)⟩, ⟨some 73, none, .bin .add (.t 72) (.c (.int .i64 1))⟩, ⟨some 14, none, .asg (.p 73)⟩])))
def b_spec_oParse_1 : AC := (.seq (.reg [⟨some 32, none, .bin .lss (.t 31) (.t 30)⟩])
 (.seq (.cond (.t 32) .skip (.exit 0))
 (.seq (.block 1 (.seq (.reg [⟨some 33, none, .mv (.p 31)⟩, ⟨some 34, none, .iaddr 1 (.a 29 8) (.t 31)⟩, ⟨some 35, none, .load false 1 (.a 34 8)⟩, ⟨some 11, none, .asg (.p 33)⟩, ⟨some 12, none, .asg (.p 35)⟩])
 (.seq (.seq (.reg [⟨some 36, none, .mv (.p 11)⟩, ⟨some 37, none, .bin .eql (.t 36) (.c (.int .i64 0))⟩, ⟨some 38, none, .mv (.p 37)⟩, ⟨some 39, some (38, false), .mv (.p 11)⟩, ⟨some 40, some (38, false), .rf (.t 8)⟩, ⟨some 41, some (38, false), .len (.a 40 8)⟩, ⟨some 42, some (38, false), .bin .sub (.t 41) (.c (.int .i64 1))⟩, ⟨some 43, some (38, false), .bin .eql (.t 39) (.t 42)⟩, ⟨some 44, none, .pick (.t 38) (.c (.bool true)) (.t 43)⟩])
 (.cond (.t 44) (.exit 1) .skip))
 (.seq (.reg [⟨some 45, none, .mv (.p 12)⟩, ⟨some 46, none, .call n_spec_l1Split [.t 45, .c (.int .u8 32)]⟩, ⟨some 9, none, .asg (.t 46)⟩])
 (.seq (.seq (.reg [⟨some 47, none, .rf (.t 9)⟩, ⟨some 48, none, .len (.a 47 9)⟩, ⟨some 49, none, .bin .neq (.t 48) (.c (.int .i64 3))⟩])
 (.cond (.t 49) (.seq (.reg [⟨some 50, none, .build [.int .i64 0, .list true 3 []] []⟩, ⟨none, none, .store 2 (.t 6) (.t 50)⟩, ⟨some 7, none, .asg (.c (.bool false))⟩])
 .ret) .skip))
 (.seq (.reg [⟨some 51, none, .rf (.t 9)⟩, ⟨some 52, none, .iaddr 1 (.a 51 9) (.c (.int .i64 0))⟩, ⟨some 53, none, .load false 1 (.a 52 9)⟩, ⟨some 54, none, .call n_spec_l1Read [.a 53 9]⟩, ⟨some 55, none, .rf (.t 9)⟩, ⟨some 56, none, .iaddr 1 (.a 55 9) (.c (.int .i64 2))⟩, ⟨some 57, none, .load false 1 (.a 56 9)⟩, ⟨some 58, none, .call n_spec_l1Read [.a 57 9]⟩, ⟨some 59, none, .build [.int .i64 0, .list true 1 [], .int .i64 0] [(0, 1, .p 54), (2, 1, .p 58)]⟩, ⟨some 13, none, .alloc [.int .i64 0, .list true 1 [], .int .i64 0]⟩, ⟨none, none, .store 3 (.t 13) (.t 59)⟩])
 (.seq (.seq (.reg [⟨some 14, none, .asg (.c (.int .i64 0))⟩])
 (.block 2 (.loop [2, 3, 4, 6, 8, 9, 10, 13, 14, 29, 30, 31] [2, 3, 4, 6, 7, 8, 10, 13, 29, 30, 31] b_spec_oParse_0)))
 (.reg [⟨some 86, none, .faddr 1 (.t 10)⟩, ⟨some 87, none, .load false 1 (.a 86 10)⟩, ⟨some 88, none, .load true 3 (.t 13)⟩, ⟨some 89, none, .bslice 3 1 [.int .i64 0, .list true 1 [], .int .i64 0] [(0, .a 88 13)]⟩, ⟨some 90, none, .append 3 (.a 87 10) (.t 89)⟩, ⟨some 91, none, .faddr 1 (.t 10)⟩, ⟨none, none, .store 1 (.a 91 10) (.t 90)⟩]))))))))
 (.reg [⟨some 92, none, .bin .add (.t 31) (.c (.int .i64 1))⟩, ⟨some 31, none, .mv (.p 92)⟩]))))
/-- spec.oParse -/
def a_spec_oParse : AFn := ⟨3, 106, [.cell 6 2 true, .tmp 7], (.seq (.reg [⟨some 3, none, .box (.t 0)⟩, ⟨some 4, none, .box (.t 1)⟩, ⟨some 6, none, .alloc [.int .i64 0, .list true 3 []]⟩, ⟨some 7, none, .asg (.c (.bool false))⟩])
 (.seq (.reg [⟨some 15, none, .mv (.p 2)⟩, ⟨some 16, none, .call n_spec_l1Split [.t 15, .c (.int .u8 10)]⟩, ⟨some 8, none, .asg (.t 16)⟩])
 (.seq (.reg [⟨some 17, none, .rf (.t 8)⟩, ⟨some 18, none, .iaddr 1 (.a 17 8) (.c (.int .i64 0))⟩, ⟨some 19, none, .load false 1 (.a 18 8)⟩, ⟨some 20, none, .call n_spec_l1Split [.a 19 8, .c (.int .u8 32)]⟩, ⟨some 9, none, .asg (.t 20)⟩])
 (.seq (.reg [⟨some 21, none, .rf (.t 9)⟩, ⟨some 22, none, .rf (.t 9)⟩, ⟨some 23, none, .len (.a 22 9)⟩, ⟨some 24, none, .bin .sub (.t 23) (.c (.int .i64 1))⟩, ⟨some 25, none, .iaddr 1 (.a 21 9) (.t 24)⟩, ⟨some 26, none, .load false 1 (.a 25 9)⟩, ⟨some 27, none, .call n_spec_l1Read [.a 26 9]⟩, ⟨some 28, none, .build [.int .i64 0, .list true 3 []] [(0, 1, .p 27)]⟩, ⟨some 10, none, .alloc [.int .i64 0, .list true 3 []]⟩, ⟨none, none, .store 2 (.t 10) (.t 28)⟩])
 (.seq (.seq (.reg [⟨some 29, none, .rf (.t 8)⟩, ⟨some 30, none, .len (.a 29 8)⟩, ⟨some 31, none, .mv (.c (.int .i64 0))⟩])
 (.block 0 (.loop [2, 3, 4, 6, 8, 10, 29, 30, 31] [2, 3, 4, 6, 7, 10] b_spec_oParse_1)))
 (.seq (.seq (.reg [⟨some 93, none, .load true 12 (.t 3)⟩, ⟨some 94, none, .load true 3 (.t 4)⟩, ⟨some 95, none, .load true 2 (.t 10)⟩, ⟨some 96, none, .call n_spec_oGood [.a 93 3, .a 94 4, .a 95 10]⟩, ⟨some 97, none, .un .not (.t 96)⟩, ⟨some 98, none, .mv (.p 97)⟩, ⟨some 99, some (98, false), .load true 2 (.t 10)⟩, ⟨some 100, some (98, false), .call n_spec_oText [.a 99 10]⟩, ⟨some 101, some (98, false), .mv (.p 2)⟩, ⟨some 102, some (98, false), .bin .neq (.t 100) (.t 101)⟩, ⟨some 103, none, .pick (.t 98) (.c (.bool true)) (.t 102)⟩])
 (.cond (.t 103) (.seq (.reg [⟨some 104, none, .build [.int .i64 0, .list true 3 []] []⟩, ⟨none, none, .store 2 (.t 6) (.t 104)⟩, ⟨some 7, none, .asg (.c (.bool false))⟩])
 .ret) .skip))
 (.seq (.reg [⟨some 105, none, .load true 2 (.t 10)⟩, ⟨none, none, .store 2 (.t 6) (.a 105 10)⟩, ⟨some 7, none, .asg (.c (.bool true))⟩])
 .ret)))))))⟩
def b_impl_readWords_0 : AC := (.seq (.reg [⟨some 24, none, .bin .lss (.t 23) (.t 22)⟩])
 (.seq (.cond (.t 24) .skip (.exit 0))
 (.seq (.block 1 (.seq (.reg [⟨some 25, none, .iaddr 1 (.t 21) (.t 23)⟩, ⟨some 26, none, .load false 1 (.a 25 21)⟩, ⟨some 9, none, .asg (.p 26)⟩])
 (.seq (.reg [⟨some 28, none, .mv (.p 9)⟩, ⟨some 29, none, .call n_impl_readInt [.t 28]⟩, ⟨some 27, none, .mv (.t 29)⟩, ⟨some 30, none, .extract (.p 27) 0⟩, ⟨some 31, none, .extract (.p 27) 1⟩, ⟨some 10, none, .asg (.p 30)⟩, ⟨some 11, none, .asg (.p 31)⟩])
 (.seq (.seq (.reg [⟨some 32, none, .mv (.p 11)⟩, ⟨some 33, none, .un .not (.t 32)⟩])
 (.cond (.t 33) (.seq (.reg [⟨some 4, none, .asg (.c (.list true 1 []))⟩, ⟨some 5, none, .asg (.c (.bool false))⟩])
 .ret) .skip))
 (.reg [⟨some 34, none, .rf (.t 7)⟩, ⟨some 35, none, .mv (.p 10)⟩, ⟨some 36, none, .bslice 1 1 [.int .i64 0] [(0, .p 35)]⟩, ⟨some 37, none, .append 1 (.a 34 7) (.t 36)⟩, ⟨some 7, none, .asg (.t 37)⟩])))))
 (.reg [⟨some 38, none, .bin .add (.t 23) (.c (.int .i64 1))⟩, ⟨some 23, none, .mv (.p 38)⟩]))))
/-- impl.readWords -/
def a_impl_readWords : AFn := ⟨2, 40, [.tmp 4, .tmp 5], (.seq (.reg [⟨some 4, none, .asg (.c (.list true 1 []))⟩, ⟨some 5, none, .asg (.c (.bool false))⟩])
 (.seq (.reg [⟨some 12, none, .mv (.p 0)⟩, ⟨some 13, none, .call n_strings_Split [.t 12, .c (.str ⟨#[32]⟩)]⟩, ⟨some 6, none, .asg (.t 13)⟩])
 (.seq (.seq (.reg [⟨some 14, none, .rf (.t 6)⟩, ⟨some 15, none, .iaddr 1 (.a 14 6) (.c (.int .i64 0))⟩, ⟨some 16, none, .load false 1 (.a 15 6)⟩, ⟨some 17, none, .mv (.p 1)⟩, ⟨some 18, none, .bin .neq (.a 16 6) (.t 17)⟩])
 (.cond (.t 18) (.seq (.reg [⟨some 4, none, .asg (.c (.list true 1 []))⟩, ⟨some 5, none, .asg (.c (.bool false))⟩])
 .ret) .skip))
 (.seq (.reg [⟨some 19, none, .bslice 1 0 [.int .i64 0] []⟩, ⟨some 7, none, .asg (.t 19)⟩])
 (.seq (.seq (.reg [⟨some 20, none, .frk 6⟩, ⟨some 21, none, .sub 1 (.t 20) (some (.c (.int .i64 1))) none⟩, ⟨some 22, none, .len (.t 21)⟩, ⟨some 23, none, .mv (.c (.int .i64 0))⟩])
 (.block 0 (.loop [7, 21, 22, 23] [4, 5, 7] b_impl_readWords_0)))
 (.seq (.reg [⟨some 39, none, .rf (.t 7)⟩, ⟨some 4, none, .asg (.a 39 7)⟩, ⟨some 5, none, .asg (.c (.bool true))⟩])
 .ret))))))⟩
/-- impl.fits -/
def a_impl_fits : AFn := ⟨2, 12, [.tmp 4], (.seq (.reg [⟨some 2, none, .box (.t 0)⟩, ⟨some 3, none, .box (.t 1)⟩, ⟨some 4, none, .asg (.c (.bool false))⟩])
 (.seq (.reg [⟨some 5, none, .load true 12 (.t 2)⟩, ⟨some 6, none, .call n_impl_IsBoard [.a 5 2]⟩, ⟨some 7, none, .mv (.p 6)⟩, ⟨some 8, some (7, true), .load true 12 (.t 2)⟩, ⟨some 9, some (7, true), .load true 3 (.t 3)⟩, ⟨some 10, some (7, true), .call n_impl_goodState [.a 8 2, .a 9 3]⟩, ⟨some 11, none, .pick (.t 7) (.t 10) (.c (.bool false))⟩, ⟨some 4, none, .asg (.p 11)⟩])
 .ret))⟩
def b_impl_readOrder_0 : AC := (.seq (.seq (.reg [⟨some 29, none, .mv (.p 8)⟩, ⟨some 30, none, .rf (.t 4)⟩, ⟨some 31, none, .iaddr 1 (.a 30 4) (.c (.int .i64 1))⟩, ⟨some 32, none, .load false 1 (.a 31 4)⟩, ⟨some 33, none, .slen (.a 32 4)⟩, ⟨some 34, none, .bin .lss (.t 29) (.t 33)⟩])
 (.cond (.t 34) .skip (.exit 0)))
 (.seq (.block 1 (.reg [⟨some 37, none, .faddr 1 (.t 7)⟩, ⟨some 38, none, .load false 1 (.a 37 7)⟩, ⟨some 39, none, .rf (.t 4)⟩, ⟨some 40, none, .iaddr 1 (.a 39 4) (.c (.int .i64 1))⟩, ⟨some 41, none, .load false 1 (.a 40 4)⟩, ⟨some 42, none, .mv (.p 8)⟩, ⟨some 43, none, .sidx (.a 41 4) (.t 42)⟩, ⟨some 44, none, .conv .i64 (.t 43)⟩, ⟨some 45, none, .bin .sub (.t 44) (.c (.int .i64 48))⟩, ⟨some 46, none, .bslice 1 1 [.int .i64 0] [(0, .p 45)]⟩, ⟨some 47, none, .append 1 (.a 38 7) (.t 46)⟩, ⟨some 48, none, .faddr 1 (.t 7)⟩, ⟨none, none, .store 1 (.a 48 7) (.t 47)⟩]))
 (.reg [⟨some 35, none, .mv (.p 8)⟩, ⟨some 36, none, .bin .add (.t 35) (.c (.int .i64 1))⟩, ⟨some 8, none, .asg (.p 36)⟩])))
/-- impl.readOrder -/
def a_impl_readOrder : AFn := ⟨1, 66, [.cell 2 3 true, .tmp 3], (.seq (.reg [⟨some 2, none, .alloc [.int .i64 0, .list true 1 [], .int .i64 0]⟩, ⟨some 3, none, .asg (.c (.bool false))⟩])
 (.seq (.reg [⟨some 10, none, .mv (.p 0)⟩, ⟨some 11, none, .call n_strings_Split [.t 10, .c (.str ⟨#[32]⟩)]⟩, ⟨some 4, none, .asg (.t 11)⟩])
 (.seq (.seq (.reg [⟨some 12, none, .rf (.t 4)⟩, ⟨some 13, none, .len (.a 12 4)⟩, ⟨some 14, none, .bin .neq (.t 13) (.c (.int .i64 3))⟩])
 (.cond (.t 14) (.seq (.reg [⟨some 15, none, .build [.int .i64 0, .list true 1 [], .int .i64 0] []⟩, ⟨none, none, .store 3 (.t 2) (.t 15)⟩, ⟨some 3, none, .asg (.c (.bool false))⟩])
 .ret) .skip))
 (.seq (.reg [⟨some 17, none, .rf (.t 4)⟩, ⟨some 18, none, .iaddr 1 (.a 17 4) (.c (.int .i64 0))⟩, ⟨some 19, none, .load false 1 (.a 18 4)⟩, ⟨some 20, none, .call n_impl_readInt [.a 19 4]⟩, ⟨some 16, none, .mv (.t 20)⟩, ⟨some 21, none, .extract (.p 16) 0⟩, ⟨some 22, none, .extract (.p 16) 1⟩, ⟨some 5, none, .asg (.p 21)⟩, ⟨some 6, none, .asg (.p 22)⟩])
 (.seq (.reg [⟨some 23, none, .mv (.p 5)⟩, ⟨some 24, none, .build [.int .i64 0, .list true 1 [], .int .i64 0] [(0, 1, .p 23), (2, 1, .c (.int .i64 (-1)))]⟩, ⟨some 7, none, .alloc [.int .i64 0, .list true 1 [], .int .i64 0]⟩, ⟨none, none, .store 3 (.t 7) (.t 24)⟩])
 (.seq (.seq (.reg [⟨some 25, none, .rf (.t 4)⟩, ⟨some 26, none, .iaddr 1 (.a 25 4) (.c (.int .i64 1))⟩, ⟨some 27, none, .load false 1 (.a 26 4)⟩, ⟨some 28, none, .bin .neq (.a 27 4) (.c (.str ⟨#[45]⟩))⟩])
 (.cond (.t 28) (.seq (.reg [⟨some 8, none, .asg (.c (.int .i64 0))⟩])
 (.block 0 (.loop [2, 4, 6, 7, 8] [2, 3, 4, 6, 7] b_impl_readOrder_0))) .skip))
 (.seq (.reg [⟨some 9, none, .asg (.c (.bool true))⟩])
 (.seq (.seq (.reg [⟨some 49, none, .rf (.t 4)⟩, ⟨some 50, none, .iaddr 1 (.a 49 4) (.c (.int .i64 2))⟩, ⟨some 51, none, .load false 1 (.a 50 4)⟩, ⟨some 52, none, .bin .neq (.a 51 4) (.c (.str ⟨#[45]⟩))⟩])
 (.cond (.t 52) (.reg [⟨some 54, none, .rf (.t 4)⟩, ⟨some 55, none, .iaddr 1 (.a 54 4) (.c (.int .i64 2))⟩, ⟨some 56, none, .load false 1 (.a 55 4)⟩, ⟨some 57, none, .call n_impl_readInt [.a 56 4]⟩, ⟨some 53, none, .mv (.t 57)⟩, ⟨some 58, none, .extract (.p 53) 0⟩, ⟨some 59, none, .extract (.p 53) 1⟩, ⟨some 60, none, .faddr 2 (.t 7)⟩, ⟨none, none, .store 1 (.a 60 7) (.p 58)⟩, ⟨some 9, none, .asg (.p 59)⟩]) .skip))
 (.seq (.reg [⟨some 61, none, .load true 3 (.t 7)⟩, ⟨some 62, none, .mv (.p 6)⟩, ⟨some 63, none, .mv (.p 62)⟩, ⟨some 64, some (63, true), .mv (.p 9)⟩, ⟨some 65, none, .pick (.t 63) (.t 64) (.c (.bool false))⟩, ⟨none, none, .store 3 (.t 2) (.a 61 7)⟩, ⟨some 3, none, .asg (.p 65)⟩])
 .ret)))))))))⟩
def b_laws_szTerrainS_0 : AC := (.seq (.seq (.reg [⟨some 12, none, .mv (.p 5)⟩, ⟨some 13, none, .rf (.t 0)⟩, ⟨some 14, none, .len (.a 13 0)⟩, ⟨some 15, none, .bin .lss (.t 12) (.t 14)⟩])
 (.cond (.t 15) .skip (.exit 0)))
 (.seq (.block 1 (.seq (.reg [⟨some 18, none, .rf (.t 0)⟩, ⟨some 19, none, .mv (.p 5)⟩, ⟨some 20, none, .iaddr 5 (.a 18 0) (.t 19)⟩, ⟨some 21, none, .load true 5 (.a 20 0)⟩, ⟨some 22, none, .mv (.p 1)⟩, ⟨some 23, none, .call n_laws_szTerrain [.a 21 0, .t 22]⟩, ⟨some 1, none, .asg (.p 23)⟩])
 (.seq (.reg [⟨some 24, none, .mv (.p 1)⟩, ⟨some 25, none, .bin .lss (.t 24) (.c (.int .i64 0))⟩])
 (.cond (.t 25) (.seq (.reg [⟨some 4, none, .asg (.c (.int .i64 (-1)))⟩])
 .ret) .skip))))
 (.reg [⟨some 16, none, .mv (.p 5)⟩, ⟨some 17, none, .bin .add (.t 16) (.c (.int .i64 1))⟩, ⟨some 5, none, .asg (.p 17)⟩])))
/-- laws.szTerrainS -/
def a_laws_szTerrainS : AFn := ⟨2, 27, [.tmp 4], (.seq (.reg [⟨some 4, none, .asg (.c (.int .i64 0))⟩])
 (.seq (.reg [⟨some 6, none, .mv (.p 1)⟩, ⟨some 7, none, .rf (.t 0)⟩, ⟨some 8, none, .len (.a 7 0)⟩, ⟨some 9, none, .bin .sub (.t 6) (.t 8)⟩, ⟨some 1, none, .asg (.p 9)⟩])
 (.seq (.seq (.reg [⟨some 10, none, .mv (.p 1)⟩, ⟨some 11, none, .bin .lss (.t 10) (.c (.int .i64 0))⟩])
 (.cond (.t 11) (.seq (.reg [⟨some 4, none, .asg (.c (.int .i64 (-1)))⟩])
 .ret) .skip))
 (.seq (.seq (.reg [⟨some 5, none, .asg (.c (.int .i64 0))⟩])
 (.block 0 (.loop [0, 1, 5] [1, 4] b_laws_szTerrainS_0)))
 (.seq (.reg [⟨some 26, none, .mv (.p 1)⟩, ⟨some 4, none, .asg (.p 26)⟩])
 .ret)))))⟩
def b_laws_szKindS_0 : AC := (.seq (.seq (.reg [⟨some 12, none, .mv (.p 5)⟩, ⟨some 13, none, .rf (.t 0)⟩, ⟨some 14, none, .len (.a 13 0)⟩, ⟨some 15, none, .bin .lss (.t 12) (.t 14)⟩])
 (.cond (.t 15) .skip (.exit 0)))
 (.seq (.block 1 (.seq (.reg [⟨some 18, none, .rf (.t 0)⟩, ⟨some 19, none, .mv (.p 5)⟩, ⟨some 20, none, .iaddr 6 (.a 18 0) (.t 19)⟩, ⟨some 21, none, .load true 6 (.a 20 0)⟩, ⟨some 22, none, .mv (.p 1)⟩, ⟨some 23, none, .call n_laws_szKind [.a 21 0, .t 22]⟩, ⟨some 1, none, .asg (.p 23)⟩])
 (.seq (.reg [⟨some 24, none, .mv (.p 1)⟩, ⟨some 25, none, .bin .lss (.t 24) (.c (.int .i64 0))⟩])
 (.cond (.t 25) (.seq (.reg [⟨some 4, none, .asg (.c (.int .i64 (-1)))⟩])
 .ret) .skip))))
 (.reg [⟨some 16, none, .mv (.p 5)⟩, ⟨some 17, none, .bin .add (.t 16) (.c (.int .i64 1))⟩, ⟨some 5, none, .asg (.p 17)⟩])))
/-- laws.szKindS -/
def a_laws_szKindS : AFn := ⟨2, 27, [.tmp 4], (.seq (.reg [⟨some 4, none, .asg (.c (.int .i64 0))⟩])
 (.seq (.reg [⟨some 6, none, .mv (.p 1)⟩, ⟨some 7, none, .rf (.t 0)⟩, ⟨some 8, none, .len (.a 7 0)⟩, ⟨some 9, none, .bin .sub (.t 6) (.t 8)⟩, ⟨some 1, none, .asg (.p 9)⟩])
 (.seq (.seq (.reg [⟨some 10, none, .mv (.p 1)⟩, ⟨some 11, none, .bin .lss (.t 10) (.c (.int .i64 0))⟩])
 (.cond (.t 11) (.seq (.reg [⟨some 4, none, .asg (.c (.int .i64 (-1)))⟩])
 .ret) .skip))
 (.seq (.seq (.reg [⟨some 5, none, .asg (.c (.int .i64 0))⟩])
 (.block 0 (.loop [0, 1, 5] [1, 4] b_laws_szKindS_0)))
 (.seq (.reg [⟨some 26, none, .mv (.p 1)⟩, ⟨some 4, none, .asg (.p 26)⟩])
 .ret)))))⟩
/-- spec.oForm -/
def a_spec_oForm : AFn := ⟨1, 12, [.tmp 2], (.seq (.reg [⟨some 1, none, .box (.t 0)⟩, ⟨some 2, none, .asg (.c (.bool false))⟩])
 (.seq (.reg [⟨some 3, none, .faddr 0 (.t 1)⟩, ⟨some 4, none, .load false 1 (.a 3 1)⟩, ⟨some 5, none, .call n_spec_l1In [.a 4 1, .c (.int .i64 0), .c (.int .i64 1)]⟩, ⟨some 6, none, .mv (.p 5)⟩, ⟨some 7, some (6, true), .faddr 1 (.t 1)⟩, ⟨some 8, some (6, true), .load false 1 (.a 7 1)⟩, ⟨some 9, some (6, true), .len (.a 8 1)⟩, ⟨some 10, some (6, true), .bin .leq (.t 9) (.c (.int .i64 12))⟩, ⟨some 11, none, .pick (.t 6) (.t 10) (.c (.bool false))⟩, ⟨some 2, none, .asg (.p 11)⟩])
 .ret))⟩
def b_spec_oFirst_0 : AC := (.seq (.reg [⟨some 15, none, .bin .lss (.t 14) (.t 13)⟩])
 (.seq (.cond (.t 15) .skip (.exit 0))
 (.seq (.block 1 (.seq (.reg [⟨some 16, none, .mv (.p 14)⟩, ⟨some 17, none, .iaddr 3 (.a 12 5) (.t 14)⟩, ⟨some 18, none, .load true 3 (.a 17 5)⟩, ⟨some 9, none, .alloc [.int .i64 0, .list true 1 [], .int .i64 0]⟩, ⟨some 8, none, .asg (.p 16)⟩, ⟨none, none, .store 3 (.t 9) (.a 18 5)⟩])
 (.seq (.seq (.reg [⟨some 19, none, .load true 3 (.t 4)⟩, ⟨some 20, none, .faddr 0 (.t 5)⟩, ⟨some 21, none, .load false 1 (.a 20 5)⟩, ⟨some 22, none, .faddr 0 (.t 9)⟩, ⟨some 23, none, .load false 1 (.a 22 9)⟩, ⟨some 24, none, .call n_spec_oPlaced [.a 19 4, .a 21 5, .a 23 9]⟩, ⟨some 25, none, .mv (.p 24)⟩, ⟨some 26, some (25, true), .mv (.p 8)⟩, ⟨some 27, some (25, true), .bin .gtr (.t 26) (.c (.int .i64 0))⟩, ⟨some 28, none, .pick (.t 25) (.t 27) (.c (.bool false))⟩, ⟨some 29, none, .mv (.p 28)⟩, ⟨some 30, some (29, true), .faddr 1 (.t 5)⟩, ⟨some 31, some (29, true), .load false 1 (.a 30 5)⟩, ⟨some 32, some (29, true), .mv (.p 8)⟩, ⟨some 33, some (29, true), .bin .sub (.t 32) (.c (.int .i64 1))⟩, ⟨some 34, some (29, true), .iaddr 3 (.a 31 5) (.t 33)⟩, ⟨some 35, some (29, true), .faddr 0 (.a 34 5)⟩, ⟨some 36, some (29, true), .load false 1 (.a 35 5)⟩, ⟨some 37, some (29, true), .faddr 0 (.t 9)⟩, ⟨some 38, some (29, true), .load false 1 (.a 37 9)⟩, ⟨some 39, some (29, true), .bin .geq (.a 36 5) (.a 38 9)⟩, ⟨some 40, none, .pick (.t 29) (.t 39) (.c (.bool false))⟩])
 (.cond (.t 40) (.seq (.reg [⟨some 41, none, .mv (.p 8)⟩, ⟨some 6, none, .asg (.p 41)⟩, ⟨some 7, none, .asg (.c (.int .i64 2))⟩])
 .ret) .skip))
 (.seq (.reg [⟨some 42, none, .load true 12 (.t 3)⟩, ⟨some 43, none, .load true 3 (.t 4)⟩, ⟨some 44, none, .faddr 0 (.t 5)⟩, ⟨some 45, none, .load false 1 (.a 44 5)⟩, ⟨some 46, none, .load true 3 (.t 9)⟩, ⟨some 47, none, .call n_spec_oFault [.a 42 3, .a 43 4, .a 45 5, .a 46 9]⟩, ⟨some 10, none, .asg (.p 47)⟩])
 (.seq (.reg [⟨some 48, none, .mv (.p 10)⟩, ⟨some 49, none, .bin .neq (.t 48) (.c (.int .i64 0))⟩])
 (.cond (.t 49) (.seq (.reg [⟨some 50, none, .mv (.p 8)⟩, ⟨some 51, none, .mv (.p 10)⟩, ⟨some 6, none, .asg (.p 50)⟩, ⟨some 7, none, .asg (.p 51)⟩])
 .ret) .skip))))))
 (.reg [⟨some 52, none, .bin .add (.t 14) (.c (.int .i64 1))⟩, ⟨some 14, none, .mv (.p 52)⟩]))))
/-- spec.oFirst -/
def a_spec_oFirst : AFn := ⟨3, 56, [.tmp 6, .tmp 7], (.seq (.reg [⟨some 3, none, .box (.t 0)⟩, ⟨some 4, none, .box (.t 1)⟩, ⟨some 5, none, .box (.t 2)⟩, ⟨some 6, none, .asg (.c (.int .i64 0))⟩, ⟨some 7, none, .asg (.c (.int .i64 0))⟩])
 (.seq (.seq (.reg [⟨some 11, none, .faddr 1 (.t 5)⟩, ⟨some 12, none, .load false 1 (.a 11 5)⟩, ⟨some 13, none, .len (.a 12 5)⟩, ⟨some 14, none, .mv (.c (.int .i64 0))⟩])
 (.block 0 (.loop [3, 4, 5, 12, 13, 14] [5, 6, 7] b_spec_oFirst_0)))
 (.seq (.reg [⟨some 53, none, .faddr 1 (.t 5)⟩, ⟨some 54, none, .load false 1 (.a 53 5)⟩, ⟨some 55, none, .len (.a 54 5)⟩, ⟨some 6, none, .asg (.p 55)⟩, ⟨some 7, none, .asg (.c (.int .i64 0))⟩])
 .ret)))⟩
def b_laws_toTerrainS_0 : AC := (.seq (.seq (.reg [⟨some 8, none, .mv (.p 4)⟩, ⟨some 9, none, .rf (.t 0)⟩, ⟨some 10, none, .len (.a 9 0)⟩, ⟨some 11, none, .bin .lss (.t 8) (.t 10)⟩])
 (.cond (.t 11) .skip (.exit 0)))
 (.seq (.block 1 (.reg [⟨some 14, none, .rf (.t 3)⟩, ⟨some 15, none, .mv (.p 4)⟩, ⟨some 16, none, .rf (.t 0)⟩, ⟨some 17, none, .mv (.p 4)⟩, ⟨some 18, none, .iaddr 5 (.a 16 0) (.t 17)⟩, ⟨some 19, none, .load true 5 (.a 18 0)⟩, ⟨some 20, none, .call n_laws_toTerrain [.a 19 0]⟩, ⟨some 21, none, .iaddr 5 (.a 14 3) (.t 15)⟩, ⟨none, none, .store 5 (.a 21 3) (.t 20)⟩]))
 (.reg [⟨some 12, none, .mv (.p 4)⟩, ⟨some 13, none, .bin .add (.t 12) (.c (.int .i64 1))⟩, ⟨some 4, none, .asg (.p 13)⟩])))
/-- laws.toTerrainS -/
def a_laws_toTerrainS : AFn := ⟨1, 23, [.tmp 2], (.seq (.reg [⟨some 2, none, .asg (.c (.list true 5 []))⟩])
 (.seq (.reg [⟨some 5, none, .rf (.t 0)⟩, ⟨some 6, none, .len (.a 5 0)⟩, ⟨some 7, none, .mslice 5 [.str ⟨#[]⟩, .list true 1 [], .int .i64 0, .int .i64 0, .bool false] (.t 6)⟩, ⟨some 3, none, .asg (.t 7)⟩])
 (.seq (.seq (.reg [⟨some 4, none, .asg (.c (.int .i64 0))⟩])
 (.block 0 (.loop [0, 3, 4] [2, 3] b_laws_toTerrainS_0)))
 (.seq (.reg [⟨some 22, none, .rf (.t 3)⟩, ⟨some 2, none, .asg (.a 22 3)⟩])
 .ret))))⟩
def b_laws_toKindS_0 : AC := (.seq (.seq (.reg [⟨some 8, none, .mv (.p 4)⟩, ⟨some 9, none, .rf (.t 0)⟩, ⟨some 10, none, .len (.a 9 0)⟩, ⟨some 11, none, .bin .lss (.t 8) (.t 10)⟩])
 (.cond (.t 11) .skip (.exit 0)))
 (.seq (.block 1 (.reg [⟨some 14, none, .rf (.t 3)⟩, ⟨some 15, none, .mv (.p 4)⟩, ⟨some 16, none, .rf (.t 0)⟩, ⟨some 17, none, .mv (.p 4)⟩, ⟨some 18, none, .iaddr 6 (.a 16 0) (.t 17)⟩, ⟨some 19, none, .load true 6 (.a 18 0)⟩, ⟨some 20, none, .call n_laws_toKind [.a 19 0]⟩, ⟨some 21, none, .iaddr 6 (.a 14 3) (.t 15)⟩, ⟨none, none, .store 6 (.a 21 3) (.t 20)⟩]))
 (.reg [⟨some 12, none, .mv (.p 4)⟩, ⟨some 13, none, .bin .add (.t 12) (.c (.int .i64 1))⟩, ⟨some 4, none, .asg (.p 13)⟩])))
/-- laws.toKindS -/
def a_laws_toKindS : AFn := ⟨1, 23, [.tmp 2], (.seq (.reg [⟨some 2, none, .asg (.c (.list true 6 []))⟩])
 (.seq (.reg [⟨some 5, none, .rf (.t 0)⟩, ⟨some 6, none, .len (.a 5 0)⟩, ⟨some 7, none, .mslice 6 [.str ⟨#[]⟩, .int .i64 0, .int .i64 0, .int .i64 0, .bool false, .int .i64 0] (.t 6)⟩, ⟨some 3, none, .asg (.t 7)⟩])
 (.seq (.seq (.reg [⟨some 4, none, .asg (.c (.int .i64 0))⟩])
 (.block 0 (.loop [0, 3, 4] [2, 3] b_laws_toKindS_0)))
 (.seq (.reg [⟨some 22, none, .rf (.t 3)⟩, ⟨some 2, none, .asg (.a 22 3)⟩])
 .ret))))⟩
/-- laws.toUnit -/
def a_laws_toUnit : AFn := ⟨1, 17, [.cell 2 4 true], (.seq (.reg [⟨some 1, none, .box (.t 0)⟩, ⟨some 2, none, .alloc [.int .i64 0, .int .i64 0, .int .i64 0, .int .i64 0]⟩])
 (.seq (.reg [⟨some 3, none, .alloc [.int .i64 0, .int .i64 0, .int .i64 0, .int .i64 0]⟩])
 (.seq (.reg [⟨some 4, none, .faddr 0 (.t 1)⟩, ⟨some 5, none, .load false 1 (.a 4 1)⟩, ⟨some 6, none, .faddr 0 (.t 3)⟩, ⟨none, none, .store 1 (.a 6 3) (.p 5)⟩])
 (.seq (.reg [⟨some 7, none, .faddr 1 (.t 1)⟩, ⟨some 8, none, .load false 1 (.a 7 1)⟩, ⟨some 9, none, .faddr 1 (.t 3)⟩, ⟨none, none, .store 1 (.a 9 3) (.p 8)⟩])
 (.seq (.reg [⟨some 10, none, .faddr 2 (.t 1)⟩, ⟨some 11, none, .load false 1 (.a 10 1)⟩, ⟨some 12, none, .faddr 2 (.t 3)⟩, ⟨none, none, .store 1 (.a 12 3) (.p 11)⟩])
 (.seq (.reg [⟨some 13, none, .faddr 3 (.t 1)⟩, ⟨some 14, none, .load false 1 (.a 13 1)⟩, ⟨some 15, none, .faddr 3 (.t 3)⟩, ⟨none, none, .store 1 (.a 15 3) (.p 14)⟩])
 (.seq (.reg [⟨some 16, none, .load true 4 (.t 3)⟩, ⟨none, none, .store 4 (.t 2) (.a 16 3)⟩])
 .ret)))))))⟩
def b_laws_eqTerrainS_0 : AC := (.seq (.seq (.reg [⟨some 11, none, .mv (.p 5)⟩, ⟨some 12, none, .rf (.t 0)⟩, ⟨some 13, none, .len (.a 12 0)⟩, ⟨some 14, none, .bin .lss (.t 11) (.t 13)⟩])
 (.cond (.t 14) .skip (.exit 0)))
 (.seq (.block 1 (.seq (.reg [⟨some 17, none, .rf (.t 0)⟩, ⟨some 18, none, .mv (.p 5)⟩, ⟨some 19, none, .iaddr 5 (.a 17 0) (.t 18)⟩, ⟨some 20, none, .load true 5 (.a 19 0)⟩, ⟨some 21, none, .rf (.t 1)⟩, ⟨some 22, none, .mv (.p 5)⟩, ⟨some 23, none, .iaddr 5 (.a 21 1) (.t 22)⟩, ⟨some 24, none, .load true 5 (.a 23 1)⟩, ⟨some 25, none, .call n_laws_eqTerrain [.a 20 0, .a 24 1]⟩, ⟨some 26, none, .un .not (.t 25)⟩])
 (.cond (.t 26) (.seq (.reg [⟨some 4, none, .asg (.c (.bool false))⟩])
 .ret) .skip)))
 (.reg [⟨some 15, none, .mv (.p 5)⟩, ⟨some 16, none, .bin .add (.t 15) (.c (.int .i64 1))⟩, ⟨some 5, none, .asg (.p 16)⟩])))
/-- laws.eqTerrainS -/
def a_laws_eqTerrainS : AFn := ⟨2, 27, [.tmp 4], (.seq (.reg [⟨some 4, none, .asg (.c (.bool false))⟩])
 (.seq (.seq (.reg [⟨some 6, none, .rf (.t 0)⟩, ⟨some 7, none, .len (.a 6 0)⟩, ⟨some 8, none, .rf (.t 1)⟩, ⟨some 9, none, .len (.a 8 1)⟩, ⟨some 10, none, .bin .neq (.t 7) (.t 9)⟩])
 (.cond (.t 10) (.seq (.reg [⟨some 4, none, .asg (.c (.bool false))⟩])
 .ret) .skip))
 (.seq (.seq (.reg [⟨some 5, none, .asg (.c (.int .i64 0))⟩])
 (.block 0 (.loop [0, 1, 5] [4] b_laws_eqTerrainS_0)))
 (.seq (.reg [⟨some 4, none, .asg (.c (.bool true))⟩])
 .ret))))⟩
def b_laws_eqKindS_0 : AC := (.seq (.seq (.reg [⟨some 11, none, .mv (.p 5)⟩, ⟨some 12, none, .rf (.t 0)⟩, ⟨some 13, none, .len (.a 12 0)⟩, ⟨some 14, none, .bin .lss (.t 11) (.t 13)⟩])
 (.cond (.t 14) .skip (.exit 0)))
 (.seq (.block 1 (.seq (.reg [⟨some 17, none, .rf (.t 0)⟩, ⟨some 18, none, .mv (.p 5)⟩, ⟨some 19, none, .iaddr 6 (.a 17 0) (.t 18)⟩, ⟨some 20, none, .load true 6 (.a 19 0)⟩, ⟨some 21, none, .rf (.t 1)⟩, ⟨some 22, none, .mv (.p 5)⟩, ⟨some 23, none, .iaddr 6 (.a 21 1) (.t 22)⟩, ⟨some 24, none, .load true 6 (.a 23 1)⟩, ⟨some 25, none, .call n_laws_eqKind [.a 20 0, .a 24 1]⟩, ⟨some 26, none, .un .not (.t 25)⟩])
 (.cond (.t 26) (.seq (.reg [⟨some 4, none, .asg (.c (.bool false))⟩])
 .ret) .skip)))
 (.reg [⟨some 15, none, .mv (.p 5)⟩, ⟨some 16, none, .bin .add (.t 15) (.c (.int .i64 1))⟩, ⟨some 5, none, .asg (.p 16)⟩])))
/-- laws.eqKindS -/
def a_laws_eqKindS : AFn := ⟨2, 27, [.tmp 4], (.seq (.reg [⟨some 4, none, .asg (.c (.bool false))⟩])
 (.seq (.seq (.reg [⟨some 6, none, .rf (.t 0)⟩, ⟨some 7, none, .len (.a 6 0)⟩, ⟨some 8, none, .rf (.t 1)⟩, ⟨some 9, none, .len (.a 8 1)⟩, ⟨some 10, none, .bin .neq (.t 7) (.t 9)⟩])
 (.cond (.t 10) (.seq (.reg [⟨some 4, none, .asg (.c (.bool false))⟩])
 .ret) .skip))
 (.seq (.seq (.reg [⟨some 5, none, .asg (.c (.int .i64 0))⟩])
 (.block 0 (.loop [0, 1, 5] [4] b_laws_eqKindS_0)))
 (.seq (.reg [⟨some 4, none, .asg (.c (.bool true))⟩])
 .ret))))⟩
/-- laws.eqUnit -/
def a_laws_eqUnit : AFn := ⟨2, 25, [.tmp 4], (.seq (.reg [⟨some 2, none, .box (.t 0)⟩, ⟨some 3, none, .box (.t 1)⟩, ⟨some 4, none, .asg (.c (.bool false))⟩])
 (.seq (.seq (.reg [⟨some 5, none, .faddr 0 (.t 2)⟩, ⟨some 6, none, .load false 1 (.a 5 2)⟩, ⟨some 7, none, .faddr 0 (.t 3)⟩, ⟨some 8, none, .load false 1 (.a 7 3)⟩, ⟨some 9, none, .bin .neq (.a 6 2) (.a 8 3)⟩])
 (.cond (.t 9) (.seq (.reg [⟨some 4, none, .asg (.c (.bool false))⟩])
 .ret) .skip))
 (.seq (.seq (.reg [⟨some 10, none, .faddr 1 (.t 2)⟩, ⟨some 11, none, .load false 1 (.a 10 2)⟩, ⟨some 12, none, .faddr 1 (.t 3)⟩, ⟨some 13, none, .load false 1 (.a 12 3)⟩, ⟨some 14, none, .bin .neq (.a 11 2) (.a 13 3)⟩])
 (.cond (.t 14) (.seq (.reg [⟨some 4, none, .asg (.c (.bool false))⟩])
 .ret) .skip))
 (.seq (.seq (.reg [⟨some 15, none, .faddr 2 (.t 2)⟩, ⟨some 16, none, .load false 1 (.a 15 2)⟩, ⟨some 17, none, .faddr 2 (.t 3)⟩, ⟨some 18, none, .load false 1 (.a 17 3)⟩, ⟨some 19, none, .bin .neq (.a 16 2) (.a 18 3)⟩])
 (.cond (.t 19) (.seq (.reg [⟨some 4, none, .asg (.c (.bool false))⟩])
 .ret) .skip))
 (.seq (.seq (.reg [⟨some 20, none, .faddr 3 (.t 2)⟩, ⟨some 21, none, .load false 1 (.a 20 2)⟩, ⟨some 22, none, .faddr 3 (.t 3)⟩, ⟨some 23, none, .load false 1 (.a 22 3)⟩, ⟨some 24, none, .bin .neq (.a 21 2) (.a 23 3)⟩])
 (.cond (.t 24) (.seq (.reg [⟨some 4, none, .asg (.c (.bool false))⟩])
 .ret) .skip))
 (.seq (.reg [⟨some 4, none, .asg (.c (.bool true))⟩])
 .ret))))))⟩
def b_laws_markTerrainS_0 : AC := (.seq (.seq (.reg [⟨some 6, none, .mv (.p 5)⟩, ⟨some 7, none, .rf (.t 0)⟩, ⟨some 8, none, .len (.a 7 0)⟩, ⟨some 9, none, .bin .lss (.t 6) (.t 8)⟩])
 (.cond (.t 9) .skip (.exit 0)))
 (.seq (.block 1 (.seq (.reg [⟨some 12, none, .rf (.t 0)⟩, ⟨some 13, none, .mv (.p 5)⟩, ⟨some 14, none, .mv (.p 1)⟩, ⟨some 15, none, .call n_laws_markText [.t 14]⟩, ⟨some 16, none, .iaddr 5 (.a 12 0) (.t 13)⟩, ⟨some 17, none, .faddr 0 (.a 16 0)⟩, ⟨none, none, .store 1 (.a 17 0) (.p 15)⟩])
 (.seq (.reg [⟨some 18, none, .mv (.p 1)⟩, ⟨some 19, none, .bin .add (.t 18) (.c (.int .i64 1))⟩, ⟨some 1, none, .asg (.p 19)⟩])
 (.seq (.reg [⟨some 20, none, .rf (.t 0)⟩, ⟨some 21, none, .mv (.p 5)⟩, ⟨some 22, none, .iaddr 5 (.a 20 0) (.t 21)⟩, ⟨some 23, none, .faddr 1 (.a 22 0)⟩, ⟨some 24, none, .load false 1 (.a 23 0)⟩, ⟨some 25, none, .mv (.p 1)⟩, ⟨some 26, none, .calli n_laws_markIntS 24 0 [.t 25]⟩, ⟨some 1, none, .asg (.p 26)⟩])
 (.seq (.reg [⟨some 27, none, .rf (.t 0)⟩, ⟨some 28, none, .mv (.p 5)⟩, ⟨some 29, none, .mv (.p 1)⟩, ⟨some 30, none, .iaddr 5 (.a 27 0) (.t 28)⟩, ⟨some 31, none, .faddr 2 (.a 30 0)⟩, ⟨none, none, .store 1 (.a 31 0) (.p 29)⟩])
 (.seq (.reg [⟨some 32, none, .mv (.p 1)⟩, ⟨some 33, none, .bin .add (.t 32) (.c (.int .i64 1))⟩, ⟨some 1, none, .asg (.p 33)⟩])
 (.seq (.reg [⟨some 34, none, .rf (.t 0)⟩, ⟨some 35, none, .mv (.p 5)⟩, ⟨some 36, none, .mv (.p 1)⟩, ⟨some 37, none, .iaddr 5 (.a 34 0) (.t 35)⟩, ⟨some 38, none, .faddr 3 (.a 37 0)⟩, ⟨none, none, .store 1 (.a 38 0) (.p 36)⟩])
 (.seq (.reg [⟨some 39, none, .mv (.p 1)⟩, ⟨some 40, none, .bin .add (.t 39) (.c (.int .i64 1))⟩, ⟨some 1, none, .asg (.p 40)⟩])
 (.seq (.reg [⟨some 41, none, .rf (.t 0)⟩, ⟨some 42, none, .mv (.p 5)⟩, ⟨some 43, none, .mv (.p 1)⟩, ⟨some 44, none, .bin .rem (.t 43) (.c (.int .i64 3))⟩, ⟨some 45, none, .bin .eql (.t 44) (.c (.int .i64 0))⟩, ⟨some 46, none, .iaddr 5 (.a 41 0) (.t 42)⟩, ⟨some 47, none, .faddr 4 (.a 46 0)⟩, ⟨none, none, .store 1 (.a 47 0) (.p 45)⟩])
 (.reg [⟨some 48, none, .mv (.p 1)⟩, ⟨some 49, none, .bin .add (.t 48) (.c (.int .i64 1))⟩, ⟨some 1, none, .asg (.p 49)⟩]))))))))))
 (.reg [⟨some 10, none, .mv (.p 5)⟩, ⟨some 11, none, .bin .add (.t 10) (.c (.int .i64 1))⟩, ⟨some 5, none, .asg (.p 11)⟩])))
/-- laws.markTerrainS -/
def a_laws_markTerrainS : AFn := ⟨2, 51, [.tmp 4, .io 0], (.seq (.reg [⟨some 4, none, .asg (.c (.int .i64 0))⟩])
 (.seq (.seq (.reg [⟨some 5, none, .asg (.c (.int .i64 0))⟩])
 (.block 0 (.loop [0, 1, 5] [0, 1, 4] b_laws_markTerrainS_0)))
 (.seq (.reg [⟨some 50, none, .mv (.p 1)⟩, ⟨some 4, none, .asg (.p 50)⟩])
 .ret)))⟩
def b_laws_markKindS_0 : AC := (.seq (.seq (.reg [⟨some 6, none, .mv (.p 5)⟩, ⟨some 7, none, .rf (.t 0)⟩, ⟨some 8, none, .len (.a 7 0)⟩, ⟨some 9, none, .bin .lss (.t 6) (.t 8)⟩])
 (.cond (.t 9) .skip (.exit 0)))
 (.seq (.block 1 (.seq (.reg [⟨some 12, none, .rf (.t 0)⟩, ⟨some 13, none, .mv (.p 5)⟩, ⟨some 14, none, .mv (.p 1)⟩, ⟨some 15, none, .call n_laws_markText [.t 14]⟩, ⟨some 16, none, .iaddr 6 (.a 12 0) (.t 13)⟩, ⟨some 17, none, .faddr 0 (.a 16 0)⟩, ⟨none, none, .store 1 (.a 17 0) (.p 15)⟩])
 (.seq (.reg [⟨some 18, none, .mv (.p 1)⟩, ⟨some 19, none, .bin .add (.t 18) (.c (.int .i64 1))⟩, ⟨some 1, none, .asg (.p 19)⟩])
 (.seq (.reg [⟨some 20, none, .rf (.t 0)⟩, ⟨some 21, none, .mv (.p 5)⟩, ⟨some 22, none, .mv (.p 1)⟩, ⟨some 23, none, .iaddr 6 (.a 20 0) (.t 21)⟩, ⟨some 24, none, .faddr 1 (.a 23 0)⟩, ⟨none, none, .store 1 (.a 24 0) (.p 22)⟩])
 (.seq (.reg [⟨some 25, none, .mv (.p 1)⟩, ⟨some 26, none, .bin .add (.t 25) (.c (.int .i64 1))⟩, ⟨some 1, none, .asg (.p 26)⟩])
 (.seq (.reg [⟨some 27, none, .rf (.t 0)⟩, ⟨some 28, none, .mv (.p 5)⟩, ⟨some 29, none, .mv (.p 1)⟩, ⟨some 30, none, .iaddr 6 (.a 27 0) (.t 28)⟩, ⟨some 31, none, .faddr 2 (.a 30 0)⟩, ⟨none, none, .store 1 (.a 31 0) (.p 29)⟩])
 (.seq (.reg [⟨some 32, none, .mv (.p 1)⟩, ⟨some 33, none, .bin .add (.t 32) (.c (.int .i64 1))⟩, ⟨some 1, none, .asg (.p 33)⟩])
 (.seq (.reg [⟨some 34, none, .rf (.t 0)⟩, ⟨some 35, none, .mv (.p 5)⟩, ⟨some 36, none, .mv (.p 1)⟩, ⟨some 37, none, .iaddr 6 (.a 34 0) (.t 35)⟩, ⟨some 38, none, .faddr 3 (.a 37 0)⟩, ⟨none, none, .store 1 (.a 38 0) (.p 36)⟩])
 (.seq (.reg [⟨some 39, none, .mv (.p 1)⟩, ⟨some 40, none, .bin .add (.t 39) (.c (.int .i64 1))⟩, ⟨some 1, none, .asg (.p 40)⟩])
 (.seq (.reg [⟨some 41, none, .rf (.t 0)⟩, ⟨some 42, none, .mv (.p 5)⟩, ⟨some 43, none, .mv (.p 1)⟩, ⟨some 44, none, .bin .rem (.t 43) (.c (.int .i64 3))⟩, ⟨some 45, none, .bin .eql (.t 44) (.c (.int .i64 0))⟩, ⟨some 46, none, .iaddr 6 (.a 41 0) (.t 42)⟩, ⟨some 47, none, .faddr 4 (.a 46 0)⟩, ⟨none, none, .store 1 (.a 47 0) (.p 45)⟩])
 (.seq (.reg [⟨some 48, none, .mv (.p 1)⟩, ⟨some 49, none, .bin .add (.t 48) (.c (.int .i64 1))⟩, ⟨some 1, none, .asg (.p 49)⟩])
 (.seq (.reg [⟨some 50, none, .rf (.t 0)⟩, ⟨some 51, none, .mv (.p 5)⟩, ⟨some 52, none, .mv (.p 1)⟩, ⟨some 53, none, .iaddr 6 (.a 50 0) (.t 51)⟩, ⟨some 54, none, .faddr 5 (.a 53 0)⟩, ⟨none, none, .store 1 (.a 54 0) (.p 52)⟩])
 (.reg [⟨some 55, none, .mv (.p 1)⟩, ⟨some 56, none, .bin .add (.t 55) (.c (.int .i64 1))⟩, ⟨some 1, none, .asg (.p 56)⟩])))))))))))))
 (.reg [⟨some 10, none, .mv (.p 5)⟩, ⟨some 11, none, .bin .add (.t 10) (.c (.int .i64 1))⟩, ⟨some 5, none, .asg (.p 11)⟩])))
/-- laws.markKindS -/
def a_laws_markKindS : AFn := ⟨2, 58, [.tmp 4, .io 0], (.seq (.reg [⟨some 4, none, .asg (.c (.int .i64 0))⟩])
 (.seq (.seq (.reg [⟨some 5, none, .asg (.c (.int .i64 0))⟩])
 (.block 0 (.loop [0, 1, 5] [0, 1, 4] b_laws_markKindS_0)))
 (.seq (.reg [⟨some 57, none, .mv (.p 1)⟩, ⟨some 4, none, .asg (.p 57)⟩])
 .ret)))⟩
def b_laws_heldIntS_0 : AC := (.seq (.seq (.reg [⟨some 6, none, .mv (.p 5)⟩, ⟨some 7, none, .rf (.t 0)⟩, ⟨some 8, none, .len (.a 7 0)⟩, ⟨some 9, none, .bin .lss (.t 6) (.t 8)⟩])
 (.cond (.t 9) .skip (.exit 0)))
 (.seq (.block 1 (.seq (.seq (.reg [⟨some 12, none, .rf (.t 0)⟩, ⟨some 13, none, .mv (.p 5)⟩, ⟨some 14, none, .iaddr 1 (.a 12 0) (.t 13)⟩, ⟨some 15, none, .load false 1 (.a 14 0)⟩, ⟨some 16, none, .mv (.p 1)⟩, ⟨some 17, none, .bin .neq (.a 15 0) (.t 16)⟩])
 (.cond (.t 17) (.seq (.reg [⟨some 4, none, .asg (.c (.int .i64 (-1)))⟩])
 .ret) .skip))
 (.reg [⟨some 18, none, .mv (.p 1)⟩, ⟨some 19, none, .bin .add (.t 18) (.c (.int .i64 1))⟩, ⟨some 1, none, .asg (.p 19)⟩])))
 (.reg [⟨some 10, none, .mv (.p 5)⟩, ⟨some 11, none, .bin .add (.t 10) (.c (.int .i64 1))⟩, ⟨some 5, none, .asg (.p 11)⟩])))
/-- laws.heldIntS -/
def a_laws_heldIntS : AFn := ⟨2, 21, [.tmp 4], (.seq (.reg [⟨some 4, none, .asg (.c (.int .i64 0))⟩])
 (.seq (.seq (.reg [⟨some 5, none, .asg (.c (.int .i64 0))⟩])
 (.block 0 (.loop [0, 1, 5] [1, 4] b_laws_heldIntS_0)))
 (.seq (.reg [⟨some 20, none, .mv (.p 1)⟩, ⟨some 4, none, .asg (.p 20)⟩])
 .ret)))⟩
/-- impl.isSide -/
def a_impl_isSide : AFn := ⟨1, 5, [.tmp 2], (.seq (.reg [⟨some 2, none, .asg (.c (.bool false))⟩])
 (.seq (.reg [⟨some 3, none, .mv (.p 0)⟩, ⟨some 4, none, .call n_impl_inRange [.t 3, .c (.int .i64 0), .c (.int .i64 1)]⟩, ⟨some 2, none, .asg (.p 4)⟩])
 .ret))⟩
def b_impl_sheetFault_0 : AC := (.seq (.reg [⟨some 15, none, .bin .lss (.t 14) (.t 13)⟩])
 (.seq (.cond (.t 15) .skip (.exit 0))
 (.seq (.block 1 (.seq (.reg [⟨some 16, none, .mv (.p 14)⟩, ⟨some 17, none, .iaddr 3 (.a 12 5) (.t 14)⟩, ⟨some 18, none, .load true 3 (.a 17 5)⟩, ⟨some 9, none, .alloc [.int .i64 0, .list true 1 [], .int .i64 0]⟩, ⟨some 8, none, .asg (.p 16)⟩, ⟨none, none, .store 3 (.t 9) (.a 18 5)⟩])
 (.seq (.reg [⟨some 19, none, .load true 12 (.t 3)⟩, ⟨some 20, none, .load true 3 (.t 4)⟩, ⟨some 21, none, .faddr 0 (.t 5)⟩, ⟨some 22, none, .load false 1 (.a 21 5)⟩, ⟨some 23, none, .load true 3 (.t 9)⟩, ⟨some 24, none, .call n_impl_orderFault [.a 19 3, .a 20 4, .a 22 5, .a 23 9]⟩, ⟨some 10, none, .asg (.p 24)⟩])
 (.seq (.seq (.reg [⟨some 25, none, .mv (.p 10)⟩, ⟨some 26, none, .bin .neq (.t 25) (.c (.int .i64 1))⟩, ⟨some 27, none, .mv (.p 26)⟩, ⟨some 28, some (27, true), .mv (.p 8)⟩, ⟨some 29, some (27, true), .bin .gtr (.t 28) (.c (.int .i64 0))⟩, ⟨some 30, none, .pick (.t 27) (.t 29) (.c (.bool false))⟩, ⟨some 31, none, .mv (.p 30)⟩, ⟨some 32, some (31, true), .faddr 0 (.t 9)⟩, ⟨some 33, some (31, true), .load false 1 (.a 32 9)⟩, ⟨some 34, some (31, true), .faddr 1 (.t 5)⟩, ⟨some 35, some (31, true), .load false 1 (.a 34 5)⟩, ⟨some 36, some (31, true), .mv (.p 8)⟩, ⟨some 37, some (31, true), .bin .sub (.t 36) (.c (.int .i64 1))⟩, ⟨some 38, some (31, true), .iaddr 3 (.a 35 5) (.t 37)⟩, ⟨some 39, some (31, true), .faddr 0 (.a 38 5)⟩, ⟨some 40, some (31, true), .load false 1 (.a 39 5)⟩, ⟨some 41, some (31, true), .bin .leq (.a 33 9) (.a 40 5)⟩, ⟨some 42, none, .pick (.t 31) (.t 41) (.c (.bool false))⟩])
 (.cond (.t 42) (.reg [⟨some 10, none, .asg (.c (.int .i64 2))⟩]) .skip))
 (.seq (.reg [⟨some 43, none, .mv (.p 10)⟩, ⟨some 44, none, .bin .neq (.t 43) (.c (.int .i64 0))⟩])
 (.cond (.t 44) (.seq (.reg [⟨some 45, none, .mv (.p 8)⟩, ⟨some 46, none, .mv (.p 10)⟩, ⟨some 6, none, .asg (.p 45)⟩, ⟨some 7, none, .asg (.p 46)⟩])
 .ret) .skip))))))
 (.reg [⟨some 47, none, .bin .add (.t 14) (.c (.int .i64 1))⟩, ⟨some 14, none, .mv (.p 47)⟩]))))
/-- impl.sheetFault -/
def a_impl_sheetFault : AFn := ⟨3, 51, [.tmp 6, .tmp 7], (.seq (.reg [⟨some 3, none, .box (.t 0)⟩, ⟨some 4, none, .box (.t 1)⟩, ⟨some 5, none, .box (.t 2)⟩, ⟨some 6, none, .asg (.c (.int .i64 0))⟩, ⟨some 7, none, .asg (.c (.int .i64 0))⟩])
 (.seq (.seq (.reg [⟨some 11, none, .faddr 1 (.t 5)⟩, ⟨some 12, none, .load false 1 (.a 11 5)⟩, ⟨some 13, none, .len (.a 12 5)⟩, ⟨some 14, none, .mv (.c (.int .i64 0))⟩])
 (.block 0 (.loop [3, 4, 5, 12, 13, 14] [5, 6, 7] b_impl_sheetFault_0)))
 (.seq (.reg [⟨some 48, none, .faddr 1 (.t 5)⟩, ⟨some 49, none, .load false 1 (.a 48 5)⟩, ⟨some 50, none, .len (.a 49 5)⟩, ⟨some 6, none, .asg (.p 50)⟩, ⟨some 7, none, .asg (.c (.int .i64 0))⟩])
 .ret)))⟩
/-- spec.l1Num -/
def a_spec_l1Num : AFn := ⟨1, 20, [.tmp 2], (.seq (.reg [⟨some 2, none, .asg (.c (.str ⟨#[]⟩))⟩])
 (.seq (.seq (.reg [⟨some 3, none, .mv (.p 0)⟩, ⟨some 4, none, .bin .lss (.t 3) (.c (.int .i64 10))⟩])
 (.cond (.t 4) (.seq (.reg [⟨some 5, none, .mv (.p 0)⟩, ⟨some 6, none, .bin .add (.c (.int .i64 48)) (.t 5)⟩, ⟨some 7, none, .conv .u8 (.t 6)⟩, ⟨some 8, none, .bslice 1 1 [.int .u8 0] [(0, .p 7)]⟩, ⟨some 9, none, .bstr 8⟩, ⟨some 2, none, .asg (.p 9)⟩])
 .ret) .skip))
 (.seq (.reg [⟨some 10, none, .mv (.p 0)⟩, ⟨some 11, none, .bin .quo (.t 10) (.c (.int .i64 10))⟩, ⟨some 12, none, .call n_spec_l1Num [.t 11]⟩, ⟨some 13, none, .mv (.p 0)⟩, ⟨some 14, none, .bin .rem (.t 13) (.c (.int .i64 10))⟩, ⟨some 15, none, .bin .add (.c (.int .i64 48)) (.t 14)⟩, ⟨some 16, none, .conv .u8 (.t 15)⟩, ⟨some 17, none, .bslice 1 1 [.int .u8 0] [(0, .p 16)]⟩, ⟨some 18, none, .bstr 17⟩, ⟨some 19, none, .bin .add (.t 12) (.t 18)⟩, ⟨some 2, none, .asg (.p 19)⟩])
 .ret)))⟩
def b_impl_wordsText_0 : AC := (.seq (.reg [⟨some 13, none, .bin .lss (.t 12) (.t 11)⟩])
 (.seq (.cond (.t 13) .skip (.exit 0))
 (.seq (.block 1 (.seq (.reg [⟨some 14, none, .iaddr 1 (.a 10 1) (.t 12)⟩, ⟨some 15, none, .load false 1 (.a 14 1)⟩, ⟨some 7, none, .asg (.p 15)⟩])
 (.reg [⟨some 16, none, .rf (.t 5)⟩, ⟨some 17, none, .mv (.p 7)⟩, ⟨some 18, none, .call n_strconv_Itoa [.t 17]⟩, ⟨some 19, none, .bslice 1 1 [.str ⟨#[]⟩] [(0, .p 18)]⟩, ⟨some 20, none, .append 1 (.a 16 5) (.t 19)⟩, ⟨some 5, none, .asg (.t 20)⟩])))
 (.reg [⟨some 21, none, .bin .add (.t 12) (.c (.int .i64 1))⟩, ⟨some 12, none, .mv (.p 21)⟩]))))
/-- impl.wordsText -/
def a_impl_wordsText : AFn := ⟨2, 24, [.tmp 4], (.seq (.reg [⟨some 4, none, .asg (.c (.str ⟨#[]⟩))⟩])
 (.seq (.reg [⟨some 8, none, .mv (.p 0)⟩, ⟨some 9, none, .bslice 1 1 [.str ⟨#[]⟩] [(0, .p 8)]⟩, ⟨some 5, none, .asg (.t 9)⟩])
 (.seq (.seq (.reg [⟨some 10, none, .rf (.t 1)⟩, ⟨some 11, none, .len (.a 10 1)⟩, ⟨some 12, none, .mv (.c (.int .i64 0))⟩])
 (.block 0 (.loop [1, 5, 10, 11, 12] [4, 5] b_impl_wordsText_0)))
 (.seq (.reg [⟨some 22, none, .rf (.t 5)⟩, ⟨some 23, none, .call n_strings_Join [.a 22 5, .c (.str ⟨#[32]⟩)]⟩, ⟨some 4, none, .asg (.p 23)⟩])
 .ret))))⟩
def b_impl_digitsText_0 : AC := (.seq (.reg [⟨some 12, none, .bin .lss (.t 11) (.t 10)⟩])
 (.seq (.cond (.t 12) .skip (.exit 0))
 (.seq (.block 1 (.seq (.reg [⟨some 13, none, .iaddr 1 (.a 9 0) (.t 11)⟩, ⟨some 14, none, .load false 1 (.a 13 0)⟩, ⟨some 5, none, .asg (.p 14)⟩])
 (.reg [⟨some 15, none, .mv (.p 3)⟩, ⟨some 16, none, .mv (.p 5)⟩, ⟨some 17, none, .call n_strconv_Itoa [.t 16]⟩, ⟨some 18, none, .bin .add (.t 15) (.t 17)⟩, ⟨some 3, none, .asg (.p 18)⟩])))
 (.reg [⟨some 19, none, .bin .add (.t 11) (.c (.int .i64 1))⟩, ⟨some 11, none, .mv (.p 19)⟩]))))
/-- impl.digitsText -/
def a_impl_digitsText : AFn := ⟨1, 21, [.tmp 2], (.seq (.reg [⟨some 2, none, .asg (.c (.str ⟨#[]⟩))⟩])
 (.seq (.seq (.reg [⟨some 6, none, .rf (.t 0)⟩, ⟨some 7, none, .len (.a 6 0)⟩, ⟨some 8, none, .bin .eql (.t 7) (.c (.int .i64 0))⟩])
 (.cond (.t 8) (.seq (.reg [⟨some 2, none, .asg (.c (.str ⟨#[45]⟩))⟩])
 .ret) .skip))
 (.seq (.reg [⟨some 3, none, .asg (.c (.str ⟨#[]⟩))⟩])
 (.seq (.seq (.reg [⟨some 9, none, .rf (.t 0)⟩, ⟨some 10, none, .len (.a 9 0)⟩, ⟨some 11, none, .mv (.c (.int .i64 0))⟩])
 (.block 0 (.loop [0, 3, 9, 10, 11] [2, 3] b_impl_digitsText_0)))
 (.seq (.reg [⟨some 20, none, .mv (.p 3)⟩, ⟨some 2, none, .asg (.p 20)⟩])
 .ret)))))⟩
/-- impl.placeText -/
def a_impl_placeText : AFn := ⟨1, 7, [.tmp 2], (.seq (.reg [⟨some 2, none, .asg (.c (.str ⟨#[]⟩))⟩])
 (.seq (.seq (.reg [⟨some 3, none, .mv (.p 0)⟩, ⟨some 4, none, .bin .lss (.t 3) (.c (.int .i64 0))⟩])
 (.cond (.t 4) (.seq (.reg [⟨some 2, none, .asg (.c (.str ⟨#[45]⟩))⟩])
 .ret) .skip))
 (.seq (.reg [⟨some 5, none, .mv (.p 0)⟩, ⟨some 6, none, .call n_strconv_Itoa [.t 5]⟩, ⟨some 2, none, .asg (.p 6)⟩])
 .ret)))⟩
/-- spec.bGood -/
def a_spec_bGood : AFn := ⟨1, 22, [.tmp 2], (.seq (.reg [⟨some 1, none, .box (.t 0)⟩, ⟨some 2, none, .asg (.c (.bool false))⟩])
 (.seq (.reg [⟨some 3, none, .faddr 0 (.t 1)⟩, ⟨some 4, none, .load true 7 (.a 3 1)⟩, ⟨some 5, none, .call n_spec_rGood [.a 4 1]⟩, ⟨some 6, none, .mv (.p 5)⟩, ⟨some 7, some (6, true), .faddr 7 (.t 1)⟩, ⟨some 8, some (6, true), .load true 5 (.a 7 1)⟩, ⟨some 9, some (6, true), .call n_spec_mGood [.a 8 1]⟩, ⟨some 10, none, .pick (.t 6) (.t 9) (.c (.bool false))⟩, ⟨some 11, none, .mv (.p 10)⟩, ⟨some 12, some (11, true), .faddr 7 (.t 1)⟩, ⟨some 13, some (11, true), .faddr 2 (.a 12 1)⟩, ⟨some 14, some (11, true), .load false 1 (.a 13 1)⟩, ⟨some 15, some (11, true), .faddr 0 (.t 1)⟩, ⟨some 16, some (11, true), .faddr 0 (.a 15 1)⟩, ⟨some 17, some (11, true), .load false 1 (.a 16 1)⟩, ⟨some 18, some (11, true), .len (.a 17 1)⟩, ⟨some 19, some (11, true), .bin .sub (.t 18) (.c (.int .i64 1))⟩, ⟨some 20, some (11, true), .call n_spec_l1All [.a 14 1, .c (.int .i64 0), .t 19]⟩, ⟨some 21, none, .pick (.t 11) (.t 20) (.c (.bool false))⟩, ⟨some 2, none, .asg (.p 21)⟩])
 .ret))⟩
/-- spec.l1In -/
def a_spec_l1In : AFn := ⟨3, 15, [.tmp 6], (.seq (.reg [⟨some 6, none, .asg (.c (.bool false))⟩])
 (.seq (.reg [⟨some 7, none, .mv (.p 0)⟩, ⟨some 8, none, .mv (.p 1)⟩, ⟨some 9, none, .bin .geq (.t 7) (.t 8)⟩, ⟨some 10, none, .mv (.p 9)⟩, ⟨some 11, some (10, true), .mv (.p 0)⟩, ⟨some 12, some (10, true), .mv (.p 2)⟩, ⟨some 13, some (10, true), .bin .leq (.t 11) (.t 12)⟩, ⟨some 14, none, .pick (.t 10) (.t 13) (.c (.bool false))⟩, ⟨some 6, none, .asg (.p 14)⟩])
 .ret))⟩
/-- spec.sUnit -/
def a_spec_sUnit : AFn := ⟨2, 60, [.tmp 4], (.seq (.reg [⟨some 2, none, .box (.t 0)⟩, ⟨some 3, none, .box (.t 1)⟩, ⟨some 4, none, .asg (.c (.bool false))⟩])
 (.seq (.seq (.reg [⟨some 5, none, .faddr 0 (.t 3)⟩, ⟨some 6, none, .load false 1 (.a 5 3)⟩, ⟨some 7, none, .call n_spec_l1In [.a 6 3, .c (.int .i64 0), .c (.int .i64 1)]⟩, ⟨some 8, none, .un .not (.t 7)⟩, ⟨some 9, none, .mv (.p 8)⟩, ⟨some 10, some (9, false), .faddr 1 (.t 3)⟩, ⟨some 11, some (9, false), .load false 1 (.a 10 3)⟩, ⟨some 12, some (9, false), .faddr 0 (.t 2)⟩, ⟨some 13, some (9, false), .faddr 1 (.a 12 2)⟩, ⟨some 14, some (9, false), .load false 1 (.a 13 2)⟩, ⟨some 15, some (9, false), .len (.a 14 2)⟩, ⟨some 16, some (9, false), .bin .sub (.t 15) (.c (.int .i64 1))⟩, ⟨some 17, some (9, false), .call n_spec_l1In [.a 11 3, .c (.int .i64 0), .t 16]⟩, ⟨some 18, some (9, false), .un .not (.t 17)⟩, ⟨some 19, none, .pick (.t 9) (.c (.bool true)) (.t 18)⟩, ⟨some 20, none, .mv (.p 19)⟩, ⟨some 21, some (20, false), .faddr 3 (.t 3)⟩, ⟨some 22, some (20, false), .load false 1 (.a 21 3)⟩, ⟨some 23, some (20, false), .faddr 0 (.t 2)⟩, ⟨some 24, some (20, false), .faddr 1 (.a 23 2)⟩, ⟨some 25, some (20, false), .load false 1 (.a 24 2)⟩, ⟨some 26, some (20, false), .faddr 1 (.t 3)⟩, ⟨some 27, some (20, false), .load false 1 (.a 26 3)⟩, ⟨some 28, some (20, false), .iaddr 6 (.a 25 2) (.a 27 3)⟩, ⟨some 29, some (20, false), .faddr 3 (.a 28 2)⟩, ⟨some 30, some (20, false), .load false 1 (.a 29 2)⟩, ⟨some 31, some (20, false), .call n_spec_l1In [.a 22 3, .c (.int .i64 0), .a 30 2]⟩, ⟨some 32, some (20, false), .un .not (.t 31)⟩, ⟨some 33, none, .pick (.t 20) (.c (.bool true)) (.t 32)⟩])
 (.cond (.t 33) (.seq (.reg [⟨some 4, none, .asg (.c (.bool false))⟩])
 .ret) .skip))
 (.seq (.reg [⟨some 34, none, .faddr 2 (.t 3)⟩, ⟨some 35, none, .load false 1 (.a 34 3)⟩, ⟨some 36, none, .bin .eql (.a 35 3) (.c (.int .i64 (-1)))⟩, ⟨some 37, none, .mv (.p 36)⟩, ⟨some 38, some (37, false), .faddr 3 (.t 3)⟩, ⟨some 39, some (37, false), .load false 1 (.a 38 3)⟩, ⟨some 40, some (37, false), .bin .gtr (.a 39 3) (.c (.int .i64 0))⟩, ⟨some 41, some (37, false), .mv (.p 40)⟩, ⟨some 42, some (41, true), .faddr 2 (.t 3)⟩, ⟨some 43, some (41, true), .load false 1 (.a 42 3)⟩, ⟨some 44, some (41, true), .faddr 7 (.t 2)⟩, ⟨some 45, some (41, true), .load true 5 (.a 44 2)⟩, ⟨some 46, some (41, true), .call n_spec_mSize [.a 45 2]⟩, ⟨some 47, some (41, true), .bin .sub (.t 46) (.c (.int .i64 1))⟩, ⟨some 48, some (41, true), .call n_spec_l1In [.a 43 3, .c (.int .i64 0), .t 47]⟩, ⟨some 49, some (37, false), .pick (.t 41) (.t 48) (.c (.bool false))⟩, ⟨some 50, some (37, false), .mv (.p 49)⟩, ⟨some 51, some (50, true), .load true 12 (.t 2)⟩, ⟨some 52, some (50, true), .faddr 1 (.t 3)⟩, ⟨some 53, some (50, true), .load false 1 (.a 52 3)⟩, ⟨some 54, some (50, true), .faddr 2 (.t 3)⟩, ⟨some 55, some (50, true), .load false 1 (.a 54 3)⟩, ⟨some 56, some (50, true), .call n_spec_bCost [.a 51 2, .a 53 3, .a 55 3]⟩, ⟨some 57, some (50, true), .bin .gtr (.t 56) (.c (.int .i64 0))⟩, ⟨some 58, some (37, false), .pick (.t 50) (.t 57) (.c (.bool false))⟩, ⟨some 59, none, .pick (.t 37) (.c (.bool true)) (.t 58)⟩, ⟨some 4, none, .asg (.p 59)⟩])
 .ret)))⟩
def b_spec_sAt_0 : AC := (.seq (.reg [⟨some 14, none, .bin .lss (.t 13) (.t 12)⟩])
 (.seq (.cond (.t 14) .skip (.exit 0))
 (.seq (.block 1 (.seq (.reg [⟨some 15, none, .mv (.p 13)⟩, ⟨some 16, none, .iaddr 4 (.a 11 3) (.t 13)⟩, ⟨some 17, none, .load true 4 (.a 16 3)⟩, ⟨some 9, none, .alloc [.int .i64 0, .int .i64 0, .int .i64 0, .int .i64 0]⟩, ⟨some 8, none, .asg (.p 15)⟩, ⟨none, none, .store 4 (.t 9) (.a 17 3)⟩])
 (.seq (.reg [⟨some 18, none, .faddr 2 (.t 9)⟩, ⟨some 19, none, .load false 1 (.a 18 9)⟩, ⟨some 20, none, .mv (.p 1)⟩, ⟨some 21, none, .bin .eql (.a 19 9) (.t 20)⟩, ⟨some 22, none, .mv (.p 21)⟩, ⟨some 23, some (22, true), .faddr 0 (.t 9)⟩, ⟨some 24, some (22, true), .load false 1 (.a 23 9)⟩, ⟨some 25, some (22, true), .mv (.p 2)⟩, ⟨some 26, some (22, true), .bin .eql (.a 24 9) (.t 25)⟩, ⟨some 27, none, .pick (.t 22) (.t 26) (.c (.bool false))⟩])
 (.cond (.t 27) (.reg [⟨some 28, none, .rf (.t 7)⟩, ⟨some 29, none, .mv (.p 8)⟩, ⟨some 30, none, .bslice 1 1 [.int .i64 0] [(0, .p 29)]⟩, ⟨some 31, none, .append 1 (.a 28 7) (.t 30)⟩, ⟨some 7, none, .asg (.t 31)⟩]) .skip))))
 (.reg [⟨some 32, none, .bin .add (.t 13) (.c (.int .i64 1))⟩, ⟨some 13, none, .mv (.p 32)⟩]))))
/-- spec.sAt -/
def a_spec_sAt : AFn := ⟨3, 34, [.tmp 6], (.seq (.reg [⟨some 3, none, .box (.t 0)⟩, ⟨some 6, none, .asg (.c (.list true 1 []))⟩])
 (.seq (.reg [⟨some 7, none, .asg (.c (.list true 1 []))⟩])
 (.seq (.seq (.reg [⟨some 10, none, .faddr 2 (.t 3)⟩, ⟨some 11, none, .load false 1 (.a 10 3)⟩, ⟨some 12, none, .len (.a 11 3)⟩, ⟨some 13, none, .mv (.c (.int .i64 0))⟩])
 (.block 0 (.loop [1, 2, 3, 7, 11, 12, 13] [6, 7] b_spec_sAt_0)))
 (.seq (.reg [⟨some 33, none, .rf (.t 7)⟩, ⟨some 6, none, .asg (.a 33 7)⟩])
 .ret))))⟩
def b_spec_l1Split_0 : AC := (.seq (.seq (.reg [⟨some 8, none, .mv (.p 7)⟩, ⟨some 9, none, .mv (.p 0)⟩, ⟨some 10, none, .slen (.t 9)⟩, ⟨some 11, none, .bin .lss (.t 8) (.t 10)⟩])
 (.cond (.t 11) .skip (.exit 0)))
 (.seq (.block 1 (.seq (.reg [⟨some 14, none, .mv (.p 0)⟩, ⟨some 15, none, .mv (.p 7)⟩, ⟨some 16, none, .sidx (.t 14) (.t 15)⟩, ⟨some 17, none, .mv (.p 1)⟩, ⟨some 18, none, .bin .eql (.t 16) (.t 17)⟩])
 (.cond (.t 18) (.seq (.reg [⟨some 19, none, .rf (.t 5)⟩, ⟨some 20, none, .mv (.p 0)⟩, ⟨some 21, none, .mv (.p 6)⟩, ⟨some 22, none, .mv (.p 7)⟩, ⟨some 23, none, .ssub (.t 20) (some (.t 21)) (some (.t 22))⟩, ⟨some 24, none, .bslice 1 1 [.str ⟨#[]⟩] [(0, .p 23)]⟩, ⟨some 25, none, .append 1 (.a 19 5) (.t 24)⟩, ⟨some 5, none, .asg (.t 25)⟩])
 (.reg [⟨some 26, none, .mv (.p 7)⟩, ⟨some 27, none, .bin .add (.t 26) (.c (.int .i64 1))⟩, ⟨some 6, none, .asg (.p 27)⟩])) .skip)))
 (.reg [⟨some 12, none, .mv (.p 7)⟩, ⟨some 13, none, .bin .add (.t 12) (.c (.int .i64 1))⟩, ⟨some 7, none, .asg (.p 13)⟩])))
/-- spec.l1Split -/
def a_spec_l1Split : AFn := ⟨2, 34, [.tmp 4], (.seq (.reg [⟨some 4, none, .asg (.c (.list true 1 []))⟩])
 (.seq (.reg [⟨some 5, none, .asg (.c (.list true 1 []))⟩])
 (.seq (.reg [⟨some 6, none, .asg (.c (.int .i64 0))⟩])
 (.seq (.seq (.reg [⟨some 7, none, .asg (.c (.int .i64 0))⟩])
 (.block 0 (.loop [0, 1, 5, 6, 7] [0, 4, 5, 6] b_spec_l1Split_0)))
 (.seq (.reg [⟨some 28, none, .rf (.t 5)⟩, ⟨some 29, none, .mv (.p 0)⟩, ⟨some 30, none, .mv (.p 6)⟩, ⟨some 31, none, .ssub (.t 29) (some (.t 30)) none⟩, ⟨some 32, none, .bslice 1 1 [.str ⟨#[]⟩] [(0, .p 31)]⟩, ⟨some 33, none, .append 1 (.a 28 5) (.t 32)⟩, ⟨some 4, none, .asg (.t 33)⟩])
 .ret)))))⟩
def b_spec_l1Read_0 : AC := (.seq (.seq (.reg [⟨some 19, none, .mv (.p 4)⟩, ⟨some 20, none, .mv (.p 0)⟩, ⟨some 21, none, .slen (.t 20)⟩, ⟨some 22, none, .bin .lss (.t 19) (.t 21)⟩])
 (.cond (.t 22) .skip (.exit 0)))
 (.seq (.block 1 (.seq (.seq (.reg [⟨some 25, none, .mv (.p 0)⟩, ⟨some 26, none, .mv (.p 4)⟩, ⟨some 27, none, .sidx (.t 25) (.t 26)⟩, ⟨some 28, none, .bin .lss (.t 27) (.c (.int .u8 48))⟩, ⟨some 29, none, .mv (.p 28)⟩, ⟨some 30, some (29, false), .mv (.p 0)⟩, ⟨some 31, some (29, false), .mv (.p 4)⟩, ⟨some 32, some (29, false), .sidx (.t 30) (.t 31)⟩, ⟨some 33, some (29, false), .bin .gtr (.t 32) (.c (.int .u8 57))⟩, ⟨some 34, none, .pick (.t 29) (.c (.bool true)) (.t 33)⟩])
 (.cond (.t 34) (.seq (.reg [⟨some 2, none, .asg (.c (.int .i64 (-1)))⟩])
 .ret) .skip))
 (.reg [⟨some 35, none, .mv (.p 3)⟩, ⟨some 36, none, .bin .mul (.c (.int .i64 10)) (.t 35)⟩, ⟨some 37, none, .mv (.p 0)⟩, ⟨some 38, none, .mv (.p 4)⟩, ⟨some 39, none, .sidx (.t 37) (.t 38)⟩, ⟨some 40, none, .bin .sub (.t 39) (.c (.int .u8 48))⟩, ⟨some 41, none, .conv .i64 (.t 40)⟩, ⟨some 42, none, .bin .add (.t 36) (.t 41)⟩, ⟨some 3, none, .asg (.p 42)⟩])))
 (.reg [⟨some 23, none, .mv (.p 4)⟩, ⟨some 24, none, .bin .add (.t 23) (.c (.int .i64 1))⟩, ⟨some 4, none, .asg (.p 24)⟩])))
/-- spec.l1Read -/
def a_spec_l1Read : AFn := ⟨1, 44, [.tmp 2], (.seq (.reg [⟨some 2, none, .asg (.c (.int .i64 0))⟩])
 (.seq (.seq (.reg [⟨some 5, none, .mv (.p 0)⟩, ⟨some 6, none, .slen (.t 5)⟩, ⟨some 7, none, .call n_spec_l1In [.t 6, .c (.int .i64 1), .c (.int .i64 6)]⟩, ⟨some 8, none, .un .not (.t 7)⟩, ⟨some 9, none, .mv (.p 8)⟩, ⟨some 10, some (9, false), .mv (.p 0)⟩, ⟨some 11, some (9, false), .sidx (.t 10) (.c (.int .i64 0))⟩, ⟨some 12, some (9, false), .bin .eql (.t 11) (.c (.int .u8 48))⟩, ⟨some 13, some (9, false), .mv (.p 12)⟩, ⟨some 14, some (13, true), .mv (.p 0)⟩, ⟨some 15, some (13, true), .slen (.t 14)⟩, ⟨some 16, some (13, true), .bin .gtr (.t 15) (.c (.int .i64 1))⟩, ⟨some 17, some (9, false), .pick (.t 13) (.t 16) (.c (.bool false))⟩, ⟨some 18, none, .pick (.t 9) (.c (.bool true)) (.t 17)⟩])
 (.cond (.t 18) (.seq (.reg [⟨some 2, none, .asg (.c (.int .i64 (-1)))⟩])
 .ret) .skip))
 (.seq (.reg [⟨some 3, none, .asg (.c (.int .i64 0))⟩])
 (.seq (.seq (.reg [⟨some 4, none, .asg (.c (.int .i64 0))⟩])
 (.block 0 (.loop [0, 3, 4] [2, 3] b_spec_l1Read_0)))
 (.seq (.reg [⟨some 43, none, .mv (.p 3)⟩, ⟨some 2, none, .asg (.p 43)⟩])
 .ret)))))⟩
/-- impl.readInt -/
def a_impl_readInt : AFn := ⟨1, 25, [.tmp 2, .tmp 3], (.seq (.reg [⟨some 2, none, .asg (.c (.int .i64 0))⟩, ⟨some 3, none, .asg (.c (.bool false))⟩])
 (.seq (.reg [⟨some 7, none, .mv (.p 0)⟩, ⟨some 8, none, .call n_strconv_Atoi [.t 7]⟩, ⟨some 6, none, .mv (.t 8)⟩, ⟨some 9, none, .extract (.p 6) 0⟩, ⟨some 10, none, .extract (.p 6) 1⟩, ⟨some 4, none, .asg (.p 9)⟩, ⟨some 5, none, .asg (.p 10)⟩])
 (.seq (.seq (.reg [⟨some 11, none, .mv (.p 5)⟩, ⟨some 12, none, .errq true (.t 11)⟩, ⟨some 13, none, .mv (.p 12)⟩, ⟨some 14, some (13, false), .mv (.p 0)⟩, ⟨some 15, some (13, false), .slen (.t 14)⟩, ⟨some 16, some (13, false), .bin .gtr (.t 15) (.c (.int .i64 10))⟩, ⟨some 17, none, .pick (.t 13) (.c (.bool true)) (.t 16)⟩, ⟨some 18, none, .mv (.p 17)⟩, ⟨some 19, some (18, false), .mv (.p 4)⟩, ⟨some 20, some (18, false), .call n_strconv_Itoa [.t 19]⟩, ⟨some 21, some (18, false), .mv (.p 0)⟩, ⟨some 22, some (18, false), .bin .neq (.t 20) (.t 21)⟩, ⟨some 23, none, .pick (.t 18) (.c (.bool true)) (.t 22)⟩])
 (.cond (.t 23) (.seq (.reg [⟨some 2, none, .asg (.c (.int .i64 0))⟩, ⟨some 3, none, .asg (.c (.bool false))⟩])
 .ret) .skip))
 (.seq (.reg [⟨some 24, none, .mv (.p 4)⟩, ⟨some 2, none, .asg (.p 24)⟩, ⟨some 3, none, .asg (.c (.bool true))⟩])
 .ret))))⟩
/-- impl.IsBoard -/
def a_impl_IsBoard : AFn := ⟨1, 19, [.tmp 2], (.seq (.reg [⟨some 1, none, .box (.t 0)⟩, ⟨some 2, none, .asg (.c (.bool false))⟩])
 (.seq (.seq (.reg [⟨some 3, none, .faddr 0 (.t 1)⟩, ⟨some 4, none, .load true 7 (.a 3 1)⟩, ⟨some 5, none, .call n_impl_IsRules [.a 4 1]⟩, ⟨some 6, none, .un .not (.t 5)⟩, ⟨some 7, none, .mv (.p 6)⟩, ⟨some 8, some (7, false), .faddr 7 (.t 1)⟩, ⟨some 9, some (7, false), .load true 5 (.a 8 1)⟩, ⟨some 10, some (7, false), .call n_impl_IsMap [.a 9 1]⟩, ⟨some 11, some (7, false), .un .not (.t 10)⟩, ⟨some 12, none, .pick (.t 7) (.c (.bool true)) (.t 11)⟩])
 (.cond (.t 12) (.seq (.reg [⟨some 2, none, .asg (.c (.bool false))⟩])
 .ret) .skip))
 (.seq (.reg [⟨some 13, none, .faddr 7 (.t 1)⟩, ⟨some 14, none, .faddr 2 (.a 13 1)⟩, ⟨some 15, none, .load false 1 (.a 14 1)⟩, ⟨some 16, none, .mkf n_impl_IsBoard_1 [.t 1]⟩, ⟨some 17, none, .call n_slices_ContainsFunc_int_int [.a 15 1, .t 16]⟩, ⟨some 18, none, .un .not (.t 17)⟩, ⟨some 2, none, .asg (.p 18)⟩])
 .ret)))⟩
def b_impl_goodState_0 : AC := (.seq (.reg [⟨some 34, none, .bin .lss (.t 33) (.t 32)⟩])
 (.seq (.cond (.t 34) .skip (.exit 0))
 (.seq (.block 1 (.seq (.reg [⟨some 35, none, .iaddr 4 (.a 31 3) (.t 33)⟩, ⟨some 36, none, .load true 4 (.a 35 3)⟩, ⟨some 7, none, .alloc [.int .i64 0, .int .i64 0, .int .i64 0, .int .i64 0]⟩, ⟨none, none, .store 4 (.t 7) (.a 36 3)⟩])
 (.seq (.seq (.reg [⟨some 37, none, .load true 12 (.t 2)⟩, ⟨some 38, none, .load true 4 (.t 7)⟩, ⟨some 39, none, .call n_impl_goodUnit [.a 37 2, .a 38 7]⟩, ⟨some 40, none, .un .not (.t 39)⟩])
 (.cond (.t 40) (.seq (.reg [⟨some 4, none, .asg (.c (.bool false))⟩])
 .ret) .skip))
 (.seq (.seq (.reg [⟨some 41, none, .faddr 2 (.t 7)⟩, ⟨some 42, none, .load false 1 (.a 41 7)⟩, ⟨some 43, none, .bin .lss (.a 42 7) (.c (.int .i64 0))⟩])
 (.cond (.t 43) (.exit 1) .skip))
 (.seq (.reg [⟨some 44, none, .rf (.t 5)⟩, ⟨some 45, none, .faddr 2 (.t 7)⟩, ⟨some 46, none, .load false 1 (.a 45 7)⟩, ⟨some 47, none, .faddr 0 (.t 7)⟩, ⟨some 48, none, .load false 1 (.a 47 7)⟩, ⟨some 49, none, .iaddr 2 (.a 44 5) (.a 46 7)⟩, ⟨some 50, none, .aaddr 2 1 (.a 49 5) (.a 48 7)⟩, ⟨some 51, none, .load false 1 (.a 50 5)⟩, ⟨some 52, none, .bin .add (.a 51 5) (.c (.int .i64 1))⟩, ⟨some 53, none, .iaddr 2 (.a 44 5) (.a 46 7)⟩, ⟨some 54, none, .aaddr 2 1 (.a 53 5) (.a 48 7)⟩, ⟨none, none, .store 1 (.a 54 5) (.p 52)⟩])
 (.seq (.reg [⟨some 55, none, .rf (.t 5)⟩, ⟨some 56, none, .faddr 2 (.t 7)⟩, ⟨some 57, none, .load false 1 (.a 56 7)⟩, ⟨some 58, none, .faddr 0 (.t 7)⟩, ⟨some 59, none, .load false 1 (.a 58 7)⟩, ⟨some 60, none, .bin .sub (.c (.int .i64 1)) (.a 59 7)⟩, ⟨some 61, none, .iaddr 2 (.a 55 5) (.a 57 7)⟩, ⟨some 62, none, .aaddr 2 1 (.a 61 5) (.t 60)⟩, ⟨some 63, none, .load false 1 (.a 62 5)⟩, ⟨some 64, none, .bin .gtr (.a 63 5) (.c (.int .i64 0))⟩, ⟨some 65, none, .mv (.p 64)⟩, ⟨some 66, some (65, false), .rf (.t 5)⟩, ⟨some 67, some (65, false), .faddr 2 (.t 7)⟩, ⟨some 68, some (65, false), .load false 1 (.a 67 7)⟩, ⟨some 69, some (65, false), .faddr 0 (.t 7)⟩, ⟨some 70, some (65, false), .load false 1 (.a 69 7)⟩, ⟨some 71, some (65, false), .iaddr 2 (.a 66 5) (.a 68 7)⟩, ⟨some 72, some (65, false), .aaddr 2 1 (.a 71 5) (.a 70 7)⟩, ⟨some 73, some (65, false), .load false 1 (.a 72 5)⟩, ⟨some 74, some (65, false), .faddr 0 (.t 2)⟩, ⟨some 75, some (65, false), .faddr 2 (.a 74 2)⟩, ⟨some 76, some (65, false), .load false 1 (.a 75 2)⟩, ⟨some 77, some (65, false), .bin .gtr (.a 73 5) (.a 76 2)⟩, ⟨some 78, none, .pick (.t 65) (.c (.bool true)) (.t 77)⟩])
 (.cond (.t 78) (.seq (.reg [⟨some 4, none, .asg (.c (.bool false))⟩])
 .ret) .skip)))))))
 (.reg [⟨some 79, none, .bin .add (.t 33) (.c (.int .i64 1))⟩, ⟨some 33, none, .mv (.p 79)⟩]))))
/-- impl.goodState -/
def a_impl_goodState : AFn := ⟨2, 80, [.tmp 4], (.seq (.reg [⟨some 2, none, .box (.t 0)⟩, ⟨some 3, none, .box (.t 1)⟩, ⟨some 4, none, .asg (.c (.bool false))⟩])
 (.seq (.seq (.reg [⟨some 8, none, .faddr 0 (.t 3)⟩, ⟨some 9, none, .load false 1 (.a 8 3)⟩, ⟨some 10, none, .faddr 0 (.t 2)⟩, ⟨some 11, none, .faddr 6 (.a 10 2)⟩, ⟨some 12, none, .load false 1 (.a 11 2)⟩, ⟨some 13, none, .call n_impl_inRange [.a 9 3, .c (.int .i64 0), .a 12 2]⟩, ⟨some 14, none, .un .not (.t 13)⟩, ⟨some 15, none, .mv (.p 14)⟩, ⟨some 16, some (15, false), .faddr 1 (.t 3)⟩, ⟨some 17, some (15, false), .load false 1 (.a 16 3)⟩, ⟨some 18, some (15, false), .call n_impl_inRange [.a 17 3, .c (.int .i64 0), .c (.int .i64 2)]⟩, ⟨some 19, some (15, false), .un .not (.t 18)⟩, ⟨some 20, none, .pick (.t 15) (.c (.bool true)) (.t 19)⟩, ⟨some 21, none, .mv (.p 20)⟩, ⟨some 22, some (21, false), .faddr 2 (.t 3)⟩, ⟨some 23, some (21, false), .load false 1 (.a 22 3)⟩, ⟨some 24, some (21, false), .len (.a 23 3)⟩, ⟨some 25, some (21, false), .bin .gtr (.t 24) (.c (.int .i64 12))⟩, ⟨some 26, none, .pick (.t 21) (.c (.bool true)) (.t 25)⟩])
 (.cond (.t 26) (.seq (.reg [⟨some 4, none, .asg (.c (.bool false))⟩])
 .ret) .skip))
 (.seq (.reg [⟨some 27, none, .load true 12 (.t 2)⟩, ⟨some 28, none, .call n_impl_sizeOf [.a 27 2]⟩, ⟨some 29, none, .mslice 2 [.int .i64 0, .int .i64 0] (.t 28)⟩, ⟨some 5, none, .asg (.t 29)⟩])
 (.seq (.seq (.reg [⟨some 30, none, .faddr 2 (.t 3)⟩, ⟨some 31, none, .load false 1 (.a 30 3)⟩, ⟨some 32, none, .len (.a 31 3)⟩, ⟨some 33, none, .mv (.c (.int .i64 0))⟩])
 (.block 0 (.loop [2, 3, 5, 31, 32, 33] [4] b_impl_goodState_0)))
 (.seq (.reg [⟨some 4, none, .asg (.c (.bool true))⟩])
 .ret)))))⟩
/-- laws.szTerrain -/
def a_laws_szTerrain : AFn := ⟨2, 19, [.tmp 4], (.seq (.reg [⟨some 2, none, .box (.t 0)⟩, ⟨some 4, none, .asg (.c (.int .i64 0))⟩])
 (.seq (.reg [⟨some 5, none, .mv (.p 1)⟩, ⟨some 6, none, .faddr 0 (.t 2)⟩, ⟨some 7, none, .load false 1 (.a 6 2)⟩, ⟨some 8, none, .slen (.a 7 2)⟩, ⟨some 9, none, .bin .sub (.t 5) (.t 8)⟩, ⟨some 1, none, .asg (.p 9)⟩])
 (.seq (.seq (.reg [⟨some 10, none, .mv (.p 1)⟩, ⟨some 11, none, .bin .lss (.t 10) (.c (.int .i64 0))⟩])
 (.cond (.t 11) (.seq (.reg [⟨some 4, none, .asg (.c (.int .i64 (-1)))⟩])
 .ret) .skip))
 (.seq (.reg [⟨some 12, none, .faddr 1 (.t 2)⟩, ⟨some 13, none, .load false 1 (.a 12 2)⟩, ⟨some 14, none, .mv (.p 1)⟩, ⟨some 15, none, .call n_laws_szIntS [.a 13 2, .t 14]⟩, ⟨some 1, none, .asg (.p 15)⟩])
 (.seq (.seq (.reg [⟨some 16, none, .mv (.p 1)⟩, ⟨some 17, none, .bin .lss (.t 16) (.c (.int .i64 0))⟩])
 (.cond (.t 17) (.seq (.reg [⟨some 4, none, .asg (.c (.int .i64 (-1)))⟩])
 .ret) .skip))
 (.seq (.reg [⟨some 18, none, .mv (.p 1)⟩, ⟨some 4, none, .asg (.p 18)⟩])
 .ret))))))⟩
/-- laws.szKind -/
def a_laws_szKind : AFn := ⟨2, 13, [.tmp 4], (.seq (.reg [⟨some 2, none, .box (.t 0)⟩, ⟨some 4, none, .asg (.c (.int .i64 0))⟩])
 (.seq (.reg [⟨some 5, none, .mv (.p 1)⟩, ⟨some 6, none, .faddr 0 (.t 2)⟩, ⟨some 7, none, .load false 1 (.a 6 2)⟩, ⟨some 8, none, .slen (.a 7 2)⟩, ⟨some 9, none, .bin .sub (.t 5) (.t 8)⟩, ⟨some 1, none, .asg (.p 9)⟩])
 (.seq (.seq (.reg [⟨some 10, none, .mv (.p 1)⟩, ⟨some 11, none, .bin .lss (.t 10) (.c (.int .i64 0))⟩])
 (.cond (.t 11) (.seq (.reg [⟨some 4, none, .asg (.c (.int .i64 (-1)))⟩])
 .ret) .skip))
 (.seq (.reg [⟨some 12, none, .mv (.p 1)⟩, ⟨some 4, none, .asg (.p 12)⟩])
 .ret))))⟩
/-- spec.oPlaced -/
def a_spec_oPlaced : AFn := ⟨3, 32, [.tmp 6], (.seq (.reg [⟨some 3, none, .box (.t 0)⟩, ⟨some 6, none, .asg (.c (.bool false))⟩])
 (.seq (.reg [⟨some 7, none, .mv (.p 2)⟩, ⟨some 8, none, .faddr 2 (.t 3)⟩, ⟨some 9, none, .load false 1 (.a 8 3)⟩, ⟨some 10, none, .len (.a 9 3)⟩, ⟨some 11, none, .bin .sub (.t 10) (.c (.int .i64 1))⟩, ⟨some 12, none, .call n_spec_l1In [.t 7, .c (.int .i64 0), .t 11]⟩, ⟨some 13, none, .mv (.p 12)⟩, ⟨some 14, some (13, true), .faddr 2 (.t 3)⟩, ⟨some 15, some (13, true), .load false 1 (.a 14 3)⟩, ⟨some 16, some (13, true), .mv (.p 2)⟩, ⟨some 17, some (13, true), .iaddr 4 (.a 15 3) (.t 16)⟩, ⟨some 18, some (13, true), .faddr 0 (.a 17 3)⟩, ⟨some 19, some (13, true), .load false 1 (.a 18 3)⟩, ⟨some 20, some (13, true), .mv (.p 1)⟩, ⟨some 21, some (13, true), .bin .eql (.a 19 3) (.t 20)⟩, ⟨some 22, none, .pick (.t 13) (.t 21) (.c (.bool false))⟩, ⟨some 23, none, .mv (.p 22)⟩, ⟨some 24, some (23, true), .faddr 2 (.t 3)⟩, ⟨some 25, some (23, true), .load false 1 (.a 24 3)⟩, ⟨some 26, some (23, true), .mv (.p 2)⟩, ⟨some 27, some (23, true), .iaddr 4 (.a 25 3) (.t 26)⟩, ⟨some 28, some (23, true), .faddr 2 (.a 27 3)⟩, ⟨some 29, some (23, true), .load false 1 (.a 28 3)⟩, ⟨some 30, some (23, true), .bin .geq (.a 29 3) (.c (.int .i64 0))⟩, ⟨some 31, none, .pick (.t 23) (.t 30) (.c (.bool false))⟩, ⟨some 6, none, .asg (.p 31)⟩])
 .ret))⟩
def b_spec_oFault_0 : AC := (.seq (.seq (.reg [⟨some 45, none, .mv (.p 10)⟩, ⟨some 46, none, .bin .lss (.t 45) (.c (.int .i64 6))⟩])
 (.cond (.t 46) .skip (.exit 1)))
 (.seq (.block 2 (.seq (.reg [⟨some 49, none, .faddr 7 (.t 4)⟩, ⟨some 50, none, .load true 5 (.a 49 4)⟩, ⟨some 51, none, .load true 12 (.t 4)⟩, ⟨some 52, none, .load true 3 (.t 5)⟩, ⟨some 53, none, .load true 3 (.t 7)⟩, ⟨some 54, none, .call n_spec_oEnd [.a 51 4, .a 52 5, .a 53 7]⟩, ⟨some 55, none, .mv (.p 10)⟩, ⟨some 56, none, .call n_spec_mNext [.a 50 4, .t 54, .t 55]⟩, ⟨some 11, none, .asg (.p 56)⟩])
 (.seq (.reg [⟨some 57, none, .mv (.p 11)⟩, ⟨some 58, none, .bin .geq (.t 57) (.c (.int .i64 0))⟩, ⟨some 59, none, .mv (.p 58)⟩, ⟨some 60, some (59, true), .mv (.p 11)⟩, ⟨some 61, some (59, true), .faddr 2 (.t 7)⟩, ⟨some 62, some (59, true), .load false 1 (.a 61 7)⟩, ⟨some 63, some (59, true), .bin .eql (.t 60) (.a 62 7)⟩, ⟨some 64, none, .pick (.t 59) (.t 63) (.c (.bool false))⟩])
 (.cond (.t 64) (.seq (.reg [⟨some 8, none, .asg (.c (.int .i64 0))⟩])
 .ret) .skip))))
 (.reg [⟨some 47, none, .mv (.p 10)⟩, ⟨some 48, none, .bin .add (.t 47) (.c (.int .i64 1))⟩, ⟨some 10, none, .asg (.p 48)⟩])))
/-- spec.oFault -/
def a_spec_oFault : AFn := ⟨4, 65, [.tmp 8], (.seq (.reg [⟨some 4, none, .box (.t 0)⟩, ⟨some 5, none, .box (.t 1)⟩, ⟨some 7, none, .box (.t 3)⟩, ⟨some 8, none, .asg (.c (.int .i64 0))⟩])
 (.seq (.seq (.reg [⟨some 12, none, .load true 3 (.t 5)⟩, ⟨some 13, none, .mv (.p 2)⟩, ⟨some 14, none, .faddr 0 (.t 7)⟩, ⟨some 15, none, .load false 1 (.a 14 7)⟩, ⟨some 16, none, .call n_spec_oPlaced [.a 12 5, .t 13, .a 15 7]⟩, ⟨some 17, none, .un .not (.t 16)⟩])
 (.cond (.t 17) (.seq (.reg [⟨some 8, none, .asg (.c (.int .i64 1))⟩])
 .ret) .skip))
 (.seq (.reg [⟨some 18, none, .load true 12 (.t 4)⟩, ⟨some 19, none, .load true 3 (.t 5)⟩, ⟨some 20, none, .load true 3 (.t 7)⟩, ⟨some 21, none, .call n_spec_oCost [.a 18 4, .a 19 5, .a 20 7]⟩, ⟨some 9, none, .asg (.p 21)⟩])
 (.seq (.block 0 (.seq (.reg [⟨some 23, none, .mv (.p 9)⟩, ⟨some 24, none, .bin .lss (.t 23) (.c (.int .i64 0))⟩, ⟨some 22, none, .asg (.p 24)⟩])
 (.cond (.t 22) (.seq (.reg [⟨some 8, none, .asg (.c (.int .i64 3))⟩])
 .ret) (.seq (.reg [⟨some 26, none, .mv (.p 9)⟩, ⟨some 27, none, .faddr 0 (.t 4)⟩, ⟨some 28, none, .faddr 1 (.a 27 4)⟩, ⟨some 29, none, .load false 1 (.a 28 4)⟩, ⟨some 30, none, .faddr 2 (.t 5)⟩, ⟨some 31, none, .load false 1 (.a 30 5)⟩, ⟨some 32, none, .faddr 0 (.t 7)⟩, ⟨some 33, none, .load false 1 (.a 32 7)⟩, ⟨some 34, none, .iaddr 4 (.a 31 5) (.a 33 7)⟩, ⟨some 35, none, .faddr 1 (.a 34 5)⟩, ⟨some 36, none, .load false 1 (.a 35 5)⟩, ⟨some 37, none, .iaddr 6 (.a 29 4) (.a 36 5)⟩, ⟨some 38, none, .faddr 2 (.a 37 4)⟩, ⟨some 39, none, .load false 1 (.a 38 4)⟩, ⟨some 40, none, .bin .gtr (.t 26) (.a 39 4)⟩, ⟨some 25, none, .asg (.p 40)⟩])
 (.cond (.t 25) (.seq (.reg [⟨some 8, none, .asg (.c (.int .i64 4))⟩])
 .ret) (.seq (.reg [⟨some 42, none, .faddr 2 (.t 7)⟩, ⟨some 43, none, .load false 1 (.a 42 7)⟩, ⟨some 44, none, .bin .eql (.a 43 7) (.c (.int .i64 (-1)))⟩, ⟨some 41, none, .asg (.p 44)⟩])
 (.cond (.t 41) (.seq (.reg [⟨some 8, none, .asg (.c (.int .i64 0))⟩])
 .ret) .skip)))))))
 (.seq (.seq (.reg [⟨some 10, none, .asg (.c (.int .i64 0))⟩])
 (.block 1 (.loop [4, 5, 7, 10] [8] b_spec_oFault_0)))
 (.seq (.reg [⟨some 8, none, .asg (.c (.int .i64 5))⟩])
 .ret))))))⟩
/-- laws.toTerrain -/
def a_laws_toTerrain : AFn := ⟨1, 21, [.cell 2 5 true], (.seq (.reg [⟨some 1, none, .box (.t 0)⟩, ⟨some 2, none, .alloc [.str ⟨#[]⟩, .list true 1 [], .int .i64 0, .int .i64 0, .bool false]⟩])
 (.seq (.reg [⟨some 3, none, .alloc [.str ⟨#[]⟩, .list true 1 [], .int .i64 0, .int .i64 0, .bool false]⟩])
 (.seq (.reg [⟨some 4, none, .faddr 0 (.t 1)⟩, ⟨some 5, none, .load false 1 (.a 4 1)⟩, ⟨some 6, none, .faddr 0 (.t 3)⟩, ⟨none, none, .store 1 (.a 6 3) (.p 5)⟩])
 (.seq (.reg [⟨some 7, none, .faddr 1 (.t 1)⟩, ⟨some 8, none, .load false 1 (.a 7 1)⟩, ⟨some 9, none, .call n_laws_toIntS [.a 8 1]⟩, ⟨some 10, none, .faddr 1 (.t 3)⟩, ⟨none, none, .store 1 (.a 10 3) (.t 9)⟩])
 (.seq (.reg [⟨some 11, none, .faddr 2 (.t 1)⟩, ⟨some 12, none, .load false 1 (.a 11 1)⟩, ⟨some 13, none, .faddr 2 (.t 3)⟩, ⟨none, none, .store 1 (.a 13 3) (.p 12)⟩])
 (.seq (.reg [⟨some 14, none, .faddr 3 (.t 1)⟩, ⟨some 15, none, .load false 1 (.a 14 1)⟩, ⟨some 16, none, .faddr 3 (.t 3)⟩, ⟨none, none, .store 1 (.a 16 3) (.p 15)⟩])
 (.seq (.reg [⟨some 17, none, .faddr 4 (.t 1)⟩, ⟨some 18, none, .load false 1 (.a 17 1)⟩, ⟨some 19, none, .faddr 4 (.t 3)⟩, ⟨none, none, .store 1 (.a 19 3) (.p 18)⟩])
 (.seq (.reg [⟨some 20, none, .load true 5 (.t 3)⟩, ⟨none, none, .store 5 (.t 2) (.a 20 3)⟩])
 .ret))))))))⟩
/-- laws.toKind -/
def a_laws_toKind : AFn := ⟨1, 23, [.cell 2 6 true], (.seq (.reg [⟨some 1, none, .box (.t 0)⟩, ⟨some 2, none, .alloc [.str ⟨#[]⟩, .int .i64 0, .int .i64 0, .int .i64 0, .bool false, .int .i64 0]⟩])
 (.seq (.reg [⟨some 3, none, .alloc [.str ⟨#[]⟩, .int .i64 0, .int .i64 0, .int .i64 0, .bool false, .int .i64 0]⟩])
 (.seq (.reg [⟨some 4, none, .faddr 0 (.t 1)⟩, ⟨some 5, none, .load false 1 (.a 4 1)⟩, ⟨some 6, none, .faddr 0 (.t 3)⟩, ⟨none, none, .store 1 (.a 6 3) (.p 5)⟩])
 (.seq (.reg [⟨some 7, none, .faddr 1 (.t 1)⟩, ⟨some 8, none, .load false 1 (.a 7 1)⟩, ⟨some 9, none, .faddr 1 (.t 3)⟩, ⟨none, none, .store 1 (.a 9 3) (.p 8)⟩])
 (.seq (.reg [⟨some 10, none, .faddr 2 (.t 1)⟩, ⟨some 11, none, .load false 1 (.a 10 1)⟩, ⟨some 12, none, .faddr 2 (.t 3)⟩, ⟨none, none, .store 1 (.a 12 3) (.p 11)⟩])
 (.seq (.reg [⟨some 13, none, .faddr 3 (.t 1)⟩, ⟨some 14, none, .load false 1 (.a 13 1)⟩, ⟨some 15, none, .faddr 3 (.t 3)⟩, ⟨none, none, .store 1 (.a 15 3) (.p 14)⟩])
 (.seq (.reg [⟨some 16, none, .faddr 4 (.t 1)⟩, ⟨some 17, none, .load false 1 (.a 16 1)⟩, ⟨some 18, none, .faddr 4 (.t 3)⟩, ⟨none, none, .store 1 (.a 18 3) (.p 17)⟩])
 (.seq (.reg [⟨some 19, none, .faddr 5 (.t 1)⟩, ⟨some 20, none, .load false 1 (.a 19 1)⟩, ⟨some 21, none, .faddr 5 (.t 3)⟩, ⟨none, none, .store 1 (.a 21 3) (.p 20)⟩])
 (.seq (.reg [⟨some 22, none, .load true 6 (.t 3)⟩, ⟨none, none, .store 6 (.t 2) (.a 22 3)⟩])
 .ret)))))))))⟩
/-- laws.eqTerrain -/
def a_laws_eqTerrain : AFn := ⟨2, 31, [.tmp 4], (.seq (.reg [⟨some 2, none, .box (.t 0)⟩, ⟨some 3, none, .box (.t 1)⟩, ⟨some 4, none, .asg (.c (.bool false))⟩])
 (.seq (.seq (.reg [⟨some 5, none, .faddr 0 (.t 2)⟩, ⟨some 6, none, .load false 1 (.a 5 2)⟩, ⟨some 7, none, .faddr 0 (.t 3)⟩, ⟨some 8, none, .load false 1 (.a 7 3)⟩, ⟨some 9, none, .bin .neq (.a 6 2) (.a 8 3)⟩])
 (.cond (.t 9) (.seq (.reg [⟨some 4, none, .asg (.c (.bool false))⟩])
 .ret) .skip))
 (.seq (.seq (.reg [⟨some 10, none, .faddr 1 (.t 2)⟩, ⟨some 11, none, .load false 1 (.a 10 2)⟩, ⟨some 12, none, .faddr 1 (.t 3)⟩, ⟨some 13, none, .load false 1 (.a 12 3)⟩, ⟨some 14, none, .call n_laws_eqIntS [.a 11 2, .a 13 3]⟩, ⟨some 15, none, .un .not (.t 14)⟩])
 (.cond (.t 15) (.seq (.reg [⟨some 4, none, .asg (.c (.bool false))⟩])
 .ret) .skip))
 (.seq (.seq (.reg [⟨some 16, none, .faddr 2 (.t 2)⟩, ⟨some 17, none, .load false 1 (.a 16 2)⟩, ⟨some 18, none, .faddr 2 (.t 3)⟩, ⟨some 19, none, .load false 1 (.a 18 3)⟩, ⟨some 20, none, .bin .neq (.a 17 2) (.a 19 3)⟩])
 (.cond (.t 20) (.seq (.reg [⟨some 4, none, .asg (.c (.bool false))⟩])
 .ret) .skip))
 (.seq (.seq (.reg [⟨some 21, none, .faddr 3 (.t 2)⟩, ⟨some 22, none, .load false 1 (.a 21 2)⟩, ⟨some 23, none, .faddr 3 (.t 3)⟩, ⟨some 24, none, .load false 1 (.a 23 3)⟩, ⟨some 25, none, .bin .neq (.a 22 2) (.a 24 3)⟩])
 (.cond (.t 25) (.seq (.reg [⟨some 4, none, .asg (.c (.bool false))⟩])
 .ret) .skip))
 (.seq (.seq (.reg [⟨some 26, none, .faddr 4 (.t 2)⟩, ⟨some 27, none, .load false 1 (.a 26 2)⟩, ⟨some 28, none, .faddr 4 (.t 3)⟩, ⟨some 29, none, .load false 1 (.a 28 3)⟩, ⟨some 30, none, .beq true (.a 27 2) (.a 29 3)⟩])
 (.cond (.t 30) (.seq (.reg [⟨some 4, none, .asg (.c (.bool false))⟩])
 .ret) .skip))
 (.seq (.reg [⟨some 4, none, .asg (.c (.bool true))⟩])
 .ret)))))))⟩
/-- laws.eqKind -/
def a_laws_eqKind : AFn := ⟨2, 35, [.tmp 4], (.seq (.reg [⟨some 2, none, .box (.t 0)⟩, ⟨some 3, none, .box (.t 1)⟩, ⟨some 4, none, .asg (.c (.bool false))⟩])
 (.seq (.seq (.reg [⟨some 5, none, .faddr 0 (.t 2)⟩, ⟨some 6, none, .load false 1 (.a 5 2)⟩, ⟨some 7, none, .faddr 0 (.t 3)⟩, ⟨some 8, none, .load false 1 (.a 7 3)⟩, ⟨some 9, none, .bin .neq (.a 6 2) (.a 8 3)⟩])
 (.cond (.t 9) (.seq (.reg [⟨some 4, none, .asg (.c (.bool false))⟩])
 .ret) .skip))
 (.seq (.seq (.reg [⟨some 10, none, .faddr 1 (.t 2)⟩, ⟨some 11, none, .load false 1 (.a 10 2)⟩, ⟨some 12, none, .faddr 1 (.t 3)⟩, ⟨some 13, none, .load false 1 (.a 12 3)⟩, ⟨some 14, none, .bin .neq (.a 11 2) (.a 13 3)⟩])
 (.cond (.t 14) (.seq (.reg [⟨some 4, none, .asg (.c (.bool false))⟩])
 .ret) .skip))
 (.seq (.seq (.reg [⟨some 15, none, .faddr 2 (.t 2)⟩, ⟨some 16, none, .load false 1 (.a 15 2)⟩, ⟨some 17, none, .faddr 2 (.t 3)⟩, ⟨some 18, none, .load false 1 (.a 17 3)⟩, ⟨some 19, none, .bin .neq (.a 16 2) (.a 18 3)⟩])
 (.cond (.t 19) (.seq (.reg [⟨some 4, none, .asg (.c (.bool false))⟩])
 .ret) .skip))
 (.seq (.seq (.reg [⟨some 20, none, .faddr 3 (.t 2)⟩, ⟨some 21, none, .load false 1 (.a 20 2)⟩, ⟨some 22, none, .faddr 3 (.t 3)⟩, ⟨some 23, none, .load false 1 (.a 22 3)⟩, ⟨some 24, none, .bin .neq (.a 21 2) (.a 23 3)⟩])
 (.cond (.t 24) (.seq (.reg [⟨some 4, none, .asg (.c (.bool false))⟩])
 .ret) .skip))
 (.seq (.seq (.reg [⟨some 25, none, .faddr 4 (.t 2)⟩, ⟨some 26, none, .load false 1 (.a 25 2)⟩, ⟨some 27, none, .faddr 4 (.t 3)⟩, ⟨some 28, none, .load false 1 (.a 27 3)⟩, ⟨some 29, none, .beq true (.a 26 2) (.a 28 3)⟩])
 (.cond (.t 29) (.seq (.reg [⟨some 4, none, .asg (.c (.bool false))⟩])
 .ret) .skip))
 (.seq (.seq (.reg [⟨some 30, none, .faddr 5 (.t 2)⟩, ⟨some 31, none, .load false 1 (.a 30 2)⟩, ⟨some 32, none, .faddr 5 (.t 3)⟩, ⟨some 33, none, .load false 1 (.a 32 3)⟩, ⟨some 34, none, .bin .neq (.a 31 2) (.a 33 3)⟩])
 (.cond (.t 34) (.seq (.reg [⟨some 4, none, .asg (.c (.bool false))⟩])
 .ret) .skip))
 (.seq (.reg [⟨some 4, none, .asg (.c (.bool true))⟩])
 .ret))))))))⟩
def b_laws_markText_0 : AC := (.seq (.seq (.reg [⟨some 6, none, .mv (.p 0)⟩, ⟨some 7, none, .bin .gtr (.t 6) (.c (.int .i64 0))⟩])
 (.cond (.t 7) .skip (.exit 0)))
 (.block 1 (.seq (.reg [⟨some 8, none, .mv (.p 0)⟩, ⟨some 9, none, .bin .rem (.t 8) (.c (.int .i64 10))⟩, ⟨some 10, none, .bin .add (.c (.int .i64 48)) (.t 9)⟩, ⟨some 11, none, .conv .u8 (.t 10)⟩, ⟨some 12, none, .bslice 1 1 [.int .u8 0] [(0, .p 11)]⟩, ⟨some 13, none, .bstr 12⟩, ⟨some 14, none, .mv (.p 3)⟩, ⟨some 15, none, .bin .add (.t 13) (.t 14)⟩, ⟨some 3, none, .asg (.p 15)⟩])
 (.reg [⟨some 16, none, .mv (.p 0)⟩, ⟨some 17, none, .bin .quo (.t 16) (.c (.int .i64 10))⟩, ⟨some 0, none, .asg (.p 17)⟩]))))
/-- laws.markText -/
def a_laws_markText : AFn := ⟨1, 20, [.tmp 2], (.seq (.reg [⟨some 2, none, .asg (.c (.str ⟨#[]⟩))⟩])
 (.seq (.seq (.reg [⟨some 4, none, .mv (.p 0)⟩, ⟨some 5, none, .bin .leq (.t 4) (.c (.int .i64 0))⟩])
 (.cond (.t 5) (.seq (.reg [⟨some 2, none, .asg (.c (.str ⟨#[109, 48]⟩))⟩])
 .ret) .skip))
 (.seq (.reg [⟨some 3, none, .asg (.c (.str ⟨#[]⟩))⟩])
 (.seq (.block 0 (.loop [0, 3] [2, 3] b_laws_markText_0))
 (.seq (.reg [⟨some 18, none, .mv (.p 3)⟩, ⟨some 19, none, .bin .add (.c (.str ⟨#[109]⟩)) (.t 18)⟩, ⟨some 2, none, .asg (.p 19)⟩])
 .ret)))))⟩
/-- impl.inRange -/
def a_impl_inRange : AFn := ⟨3, 15, [.tmp 6], (.seq (.reg [⟨some 6, none, .asg (.c (.bool false))⟩])
 (.seq (.reg [⟨some 7, none, .mv (.p 1)⟩, ⟨some 8, none, .mv (.p 0)⟩, ⟨some 9, none, .bin .leq (.t 7) (.t 8)⟩, ⟨some 10, none, .mv (.p 9)⟩, ⟨some 11, some (10, true), .mv (.p 0)⟩, ⟨some 12, some (10, true), .mv (.p 2)⟩, ⟨some 13, some (10, true), .bin .leq (.t 11) (.t 12)⟩, ⟨some 14, none, .pick (.t 10) (.t 13) (.c (.bool false))⟩, ⟨some 6, none, .asg (.p 14)⟩])
 .ret))⟩
/-- impl.orderFault -/
def a_impl_orderFault : AFn := ⟨4, 65, [.tmp 8], (.seq (.reg [⟨some 4, none, .box (.t 0)⟩, ⟨some 5, none, .box (.t 1)⟩, ⟨some 7, none, .box (.t 3)⟩, ⟨some 8, none, .asg (.c (.int .i64 0))⟩])
 (.seq (.seq (.reg [⟨some 12, none, .load true 3 (.t 5)⟩, ⟨some 13, none, .mv (.p 2)⟩, ⟨some 14, none, .faddr 0 (.t 7)⟩, ⟨some 15, none, .load false 1 (.a 14 7)⟩, ⟨some 16, none, .call n_impl_ownsUnit [.a 12 5, .t 13, .a 15 7]⟩, ⟨some 17, none, .un .not (.t 16)⟩])
 (.cond (.t 17) (.seq (.reg [⟨some 8, none, .asg (.c (.int .i64 1))⟩])
 .ret) .skip))
 (.seq (.reg [⟨some 18, none, .faddr 2 (.t 5)⟩, ⟨some 19, none, .load false 1 (.a 18 5)⟩, ⟨some 20, none, .faddr 0 (.t 7)⟩, ⟨some 21, none, .load false 1 (.a 20 7)⟩, ⟨some 22, none, .iaddr 4 (.a 19 5) (.a 21 7)⟩, ⟨some 23, none, .load true 4 (.a 22 5)⟩, ⟨some 9, none, .alloc [.int .i64 0, .int .i64 0, .int .i64 0, .int .i64 0]⟩, ⟨none, none, .store 4 (.t 9) (.a 23 5)⟩])
 (.seq (.reg [⟨some 25, none, .load true 12 (.t 4)⟩, ⟨some 26, none, .faddr 1 (.t 9)⟩, ⟨some 27, none, .load false 1 (.a 26 9)⟩, ⟨some 28, none, .faddr 1 (.t 5)⟩, ⟨some 29, none, .load false 1 (.a 28 5)⟩, ⟨some 30, none, .faddr 2 (.t 9)⟩, ⟨some 31, none, .load false 1 (.a 30 9)⟩, ⟨some 32, none, .faddr 1 (.t 7)⟩, ⟨some 33, none, .load false 1 (.a 32 7)⟩, ⟨some 34, none, .call n_impl_PathCost [.a 25 4, .a 27 9, .a 29 5, .a 31 9, .a 33 7]⟩, ⟨some 24, none, .mv (.t 34)⟩, ⟨some 35, none, .extract (.p 24) 0⟩, ⟨some 36, none, .extract (.p 24) 1⟩, ⟨some 10, none, .asg (.p 35)⟩, ⟨some 11, none, .asg (.p 36)⟩])
 (.seq (.seq (.reg [⟨some 37, none, .mv (.p 11)⟩, ⟨some 38, none, .un .not (.t 37)⟩])
 (.cond (.t 38) (.seq (.reg [⟨some 8, none, .asg (.c (.int .i64 3))⟩])
 .ret) .skip))
 (.seq (.seq (.reg [⟨some 39, none, .mv (.p 10)⟩, ⟨some 40, none, .faddr 0 (.t 4)⟩, ⟨some 41, none, .faddr 1 (.a 40 4)⟩, ⟨some 42, none, .load false 1 (.a 41 4)⟩, ⟨some 43, none, .faddr 1 (.t 9)⟩, ⟨some 44, none, .load false 1 (.a 43 9)⟩, ⟨some 45, none, .iaddr 6 (.a 42 4) (.a 44 9)⟩, ⟨some 46, none, .faddr 2 (.a 45 4)⟩, ⟨some 47, none, .load false 1 (.a 46 4)⟩, ⟨some 48, none, .bin .gtr (.t 39) (.a 47 4)⟩])
 (.cond (.t 48) (.seq (.reg [⟨some 8, none, .asg (.c (.int .i64 4))⟩])
 .ret) .skip))
 (.seq (.seq (.reg [⟨some 49, none, .faddr 2 (.t 7)⟩, ⟨some 50, none, .load false 1 (.a 49 7)⟩, ⟨some 51, none, .bin .neq (.a 50 7) (.c (.int .i64 (-1)))⟩, ⟨some 52, none, .mv (.p 51)⟩, ⟨some 53, some (52, true), .faddr 7 (.t 4)⟩, ⟨some 54, some (52, true), .load true 5 (.a 53 4)⟩, ⟨some 55, some (52, true), .load true 12 (.t 4)⟩, ⟨some 56, some (52, true), .load true 3 (.t 5)⟩, ⟨some 57, some (52, true), .load true 3 (.t 7)⟩, ⟨some 58, some (52, true), .call n_impl_endOf [.a 55 4, .a 56 5, .a 57 7]⟩, ⟨some 59, some (52, true), .call n_impl_neighboursOn [.a 54 4, .t 58]⟩, ⟨some 60, some (52, true), .faddr 2 (.t 7)⟩, ⟨some 61, some (52, true), .load false 1 (.a 60 7)⟩, ⟨some 62, some (52, true), .call n_slices_Contains_int_int [.t 59, .a 61 7]⟩, ⟨some 63, some (52, true), .un .not (.t 62)⟩, ⟨some 64, none, .pick (.t 52) (.t 63) (.c (.bool false))⟩])
 (.cond (.t 64) (.seq (.reg [⟨some 8, none, .asg (.c (.int .i64 5))⟩])
 .ret) .skip))
 (.seq (.reg [⟨some 8, none, .asg (.c (.int .i64 0))⟩])
 .ret))))))))⟩
def b_spec_rGood_0 : AC := (.seq (.reg [⟨some 23, none, .bin .lss (.t 22) (.t 21)⟩])
 (.seq (.cond (.t 23) .skip (.exit 0))
 (.seq (.block 1 (.seq (.reg [⟨some 24, none, .mv (.p 22)⟩, ⟨some 25, none, .iaddr 5 (.a 20 1) (.t 22)⟩, ⟨some 26, none, .load true 5 (.a 25 1)⟩, ⟨some 4, none, .alloc [.str ⟨#[]⟩, .list true 1 [], .int .i64 0, .int .i64 0, .bool false]⟩, ⟨some 3, none, .asg (.p 24)⟩, ⟨none, none, .store 5 (.t 4) (.a 26 1)⟩])
 (.seq (.reg [⟨some 27, none, .faddr 0 (.t 4)⟩, ⟨some 28, none, .load false 1 (.a 27 4)⟩, ⟨some 29, none, .call n_spec_rName [.a 28 4]⟩, ⟨some 30, none, .un .not (.t 29)⟩, ⟨some 31, none, .mv (.p 30)⟩, ⟨some 32, some (31, false), .faddr 0 (.t 1)⟩, ⟨some 33, some (31, false), .load false 1 (.a 32 1)⟩, ⟨some 34, some (31, false), .faddr 0 (.t 4)⟩, ⟨some 35, some (31, false), .load false 1 (.a 34 4)⟩, ⟨some 36, some (31, false), .call n_spec_rTerrain [.a 33 1, .a 35 4]⟩, ⟨some 37, some (31, false), .mv (.p 3)⟩, ⟨some 38, some (31, false), .bin .neq (.t 36) (.t 37)⟩, ⟨some 39, none, .pick (.t 31) (.c (.bool true)) (.t 38)⟩, ⟨some 40, none, .mv (.p 39)⟩, ⟨some 41, some (40, false), .faddr 1 (.t 4)⟩, ⟨some 42, some (40, false), .load false 1 (.a 41 4)⟩, ⟨some 43, some (40, false), .len (.a 42 4)⟩, ⟨some 44, some (40, false), .faddr 1 (.t 1)⟩, ⟨some 45, some (40, false), .load false 1 (.a 44 1)⟩, ⟨some 46, some (40, false), .len (.a 45 1)⟩, ⟨some 47, some (40, false), .bin .neq (.t 43) (.t 46)⟩, ⟨some 48, none, .pick (.t 40) (.c (.bool true)) (.t 47)⟩, ⟨some 49, none, .mv (.p 48)⟩, ⟨some 50, some (49, false), .faddr 1 (.t 4)⟩, ⟨some 51, some (49, false), .load false 1 (.a 50 4)⟩, ⟨some 52, some (49, false), .call n_spec_l1All [.a 51 4, .c (.int .i64 0), .c (.int .i64 9)]⟩, ⟨some 53, some (49, false), .un .not (.t 52)⟩, ⟨some 54, none, .pick (.t 49) (.c (.bool true)) (.t 53)⟩, ⟨some 55, none, .mv (.p 54)⟩, ⟨some 56, some (55, false), .faddr 2 (.t 4)⟩, ⟨some 57, some (55, false), .load false 1 (.a 56 4)⟩, ⟨some 58, some (55, false), .call n_spec_l1In [.a 57 4, .c (.int .i64 (-3)), .c (.int .i64 3)]⟩, ⟨some 59, some (55, false), .un .not (.t 58)⟩, ⟨some 60, none, .pick (.t 55) (.c (.bool true)) (.t 59)⟩, ⟨some 61, none, .mv (.p 60)⟩, ⟨some 62, some (61, false), .faddr 3 (.t 4)⟩, ⟨some 63, some (61, false), .load false 1 (.a 62 4)⟩, ⟨some 64, some (61, false), .call n_spec_l1In [.a 63 4, .c (.int .i64 0), .c (.int .i64 3)]⟩, ⟨some 65, some (61, false), .un .not (.t 64)⟩, ⟨some 66, none, .pick (.t 61) (.c (.bool true)) (.t 65)⟩])
 (.cond (.t 66) (.seq (.reg [⟨some 2, none, .asg (.c (.bool false))⟩])
 .ret) .skip))))
 (.reg [⟨some 67, none, .bin .add (.t 22) (.c (.int .i64 1))⟩, ⟨some 22, none, .mv (.p 67)⟩]))))
def b_spec_rGood_1 : AC := (.seq (.reg [⟨some 72, none, .bin .lss (.t 71) (.t 70)⟩])
 (.seq (.cond (.t 72) .skip (.exit 2))
 (.seq (.block 3 (.seq (.reg [⟨some 73, none, .mv (.p 71)⟩, ⟨some 74, none, .iaddr 6 (.a 69 1) (.t 71)⟩, ⟨some 75, none, .load true 6 (.a 74 1)⟩, ⟨some 6, none, .alloc [.str ⟨#[]⟩, .int .i64 0, .int .i64 0, .int .i64 0, .bool false, .int .i64 0]⟩, ⟨some 5, none, .asg (.p 73)⟩, ⟨none, none, .store 6 (.t 6) (.a 75 1)⟩])
 (.seq (.reg [⟨some 76, none, .faddr 0 (.t 6)⟩, ⟨some 77, none, .load false 1 (.a 76 6)⟩, ⟨some 78, none, .call n_spec_rName [.a 77 6]⟩, ⟨some 79, none, .un .not (.t 78)⟩, ⟨some 80, none, .mv (.p 79)⟩, ⟨some 81, some (80, false), .faddr 1 (.t 1)⟩, ⟨some 82, some (80, false), .load false 1 (.a 81 1)⟩, ⟨some 83, some (80, false), .faddr 0 (.t 6)⟩, ⟨some 84, some (80, false), .load false 1 (.a 83 6)⟩, ⟨some 85, some (80, false), .call n_spec_rKind [.a 82 1, .a 84 6]⟩, ⟨some 86, some (80, false), .mv (.p 5)⟩, ⟨some 87, some (80, false), .bin .neq (.t 85) (.t 86)⟩, ⟨some 88, none, .pick (.t 80) (.c (.bool true)) (.t 87)⟩, ⟨some 89, none, .mv (.p 88)⟩, ⟨some 90, some (89, false), .faddr 1 (.t 6)⟩, ⟨some 91, some (89, false), .load false 1 (.a 90 6)⟩, ⟨some 92, some (89, false), .call n_spec_l1In [.a 91 6, .c (.int .i64 1), .c (.int .i64 9)]⟩, ⟨some 93, some (89, false), .un .not (.t 92)⟩, ⟨some 94, none, .pick (.t 89) (.c (.bool true)) (.t 93)⟩, ⟨some 95, none, .mv (.p 94)⟩, ⟨some 96, some (95, false), .faddr 2 (.t 6)⟩, ⟨some 97, some (95, false), .load false 1 (.a 96 6)⟩, ⟨some 98, some (95, false), .call n_spec_l1In [.a 97 6, .c (.int .i64 0), .c (.int .i64 9)]⟩, ⟨some 99, some (95, false), .un .not (.t 98)⟩, ⟨some 100, none, .pick (.t 95) (.c (.bool true)) (.t 99)⟩, ⟨some 101, none, .mv (.p 100)⟩, ⟨some 102, some (101, false), .faddr 3 (.t 6)⟩, ⟨some 103, some (101, false), .load false 1 (.a 102 6)⟩, ⟨some 104, some (101, false), .call n_spec_l1In [.a 103 6, .c (.int .i64 1), .c (.int .i64 4)]⟩, ⟨some 105, some (101, false), .un .not (.t 104)⟩, ⟨some 106, none, .pick (.t 101) (.c (.bool true)) (.t 105)⟩, ⟨some 107, none, .mv (.p 106)⟩, ⟨some 108, some (107, false), .faddr 5 (.t 6)⟩, ⟨some 109, some (107, false), .load false 1 (.a 108 6)⟩, ⟨some 110, some (107, false), .call n_spec_l1In [.a 109 6, .c (.int .i64 0), .c (.int .i64 4)]⟩, ⟨some 111, some (107, false), .un .not (.t 110)⟩, ⟨some 112, none, .pick (.t 107) (.c (.bool true)) (.t 111)⟩])
 (.cond (.t 112) (.seq (.reg [⟨some 2, none, .asg (.c (.bool false))⟩])
 .ret) .skip))))
 (.reg [⟨some 113, none, .bin .add (.t 71) (.c (.int .i64 1))⟩, ⟨some 71, none, .mv (.p 113)⟩]))))
/-- spec.rGood -/
def a_spec_rGood : AFn := ⟨1, 137, [.tmp 2], (.seq (.reg [⟨some 1, none, .box (.t 0)⟩, ⟨some 2, none, .asg (.c (.bool false))⟩])
 (.seq (.seq (.reg [⟨some 7, none, .faddr 0 (.t 1)⟩, ⟨some 8, none, .load false 1 (.a 7 1)⟩, ⟨some 9, none, .len (.a 8 1)⟩, ⟨some 10, none, .call n_spec_l1In [.t 9, .c (.int .i64 1), .c (.int .i64 6)]⟩, ⟨some 11, none, .un .not (.t 10)⟩, ⟨some 12, none, .mv (.p 11)⟩, ⟨some 13, some (12, false), .faddr 1 (.t 1)⟩, ⟨some 14, some (12, false), .load false 1 (.a 13 1)⟩, ⟨some 15, some (12, false), .len (.a 14 1)⟩, ⟨some 16, some (12, false), .call n_spec_l1In [.t 15, .c (.int .i64 1), .c (.int .i64 4)]⟩, ⟨some 17, some (12, false), .un .not (.t 16)⟩, ⟨some 18, none, .pick (.t 12) (.c (.bool true)) (.t 17)⟩])
 (.cond (.t 18) (.seq (.reg [⟨some 2, none, .asg (.c (.bool false))⟩])
 .ret) .skip))
 (.seq (.seq (.reg [⟨some 19, none, .faddr 0 (.t 1)⟩, ⟨some 20, none, .load false 1 (.a 19 1)⟩, ⟨some 21, none, .len (.a 20 1)⟩, ⟨some 22, none, .mv (.c (.int .i64 0))⟩])
 (.block 0 (.loop [1, 20, 21, 22] [1, 2] b_spec_rGood_0)))
 (.seq (.seq (.reg [⟨some 68, none, .faddr 1 (.t 1)⟩, ⟨some 69, none, .load false 1 (.a 68 1)⟩, ⟨some 70, none, .len (.a 69 1)⟩, ⟨some 71, none, .mv (.c (.int .i64 0))⟩])
 (.block 2 (.loop [1, 69, 70, 71] [1, 2] b_spec_rGood_1)))
 (.seq (.reg [⟨some 114, none, .faddr 2 (.t 1)⟩, ⟨some 115, none, .load false 1 (.a 114 1)⟩, ⟨some 116, none, .call n_spec_l1In [.a 115 1, .c (.int .i64 1), .c (.int .i64 4)]⟩, ⟨some 117, none, .mv (.p 116)⟩, ⟨some 118, some (117, true), .faddr 3 (.t 1)⟩, ⟨some 119, some (117, true), .load false 1 (.a 118 1)⟩, ⟨some 120, some (117, true), .call n_spec_l1In [.a 119 1, .c (.int .i64 0), .c (.int .i64 9)]⟩, ⟨some 121, none, .pick (.t 117) (.t 120) (.c (.bool false))⟩, ⟨some 122, none, .mv (.p 121)⟩, ⟨some 123, some (122, true), .faddr 4 (.t 1)⟩, ⟨some 124, some (122, true), .load false 1 (.a 123 1)⟩, ⟨some 125, some (122, true), .call n_spec_l1In [.a 124 1, .c (.int .i64 1), .c (.int .i64 9)]⟩, ⟨some 126, none, .pick (.t 122) (.t 125) (.c (.bool false))⟩, ⟨some 127, none, .mv (.p 126)⟩, ⟨some 128, some (127, true), .faddr 5 (.t 1)⟩, ⟨some 129, some (127, true), .load false 1 (.a 128 1)⟩, ⟨some 130, some (127, true), .call n_spec_l1In [.a 129 1, .c (.int .i64 0), .c (.int .i64 20)]⟩, ⟨some 131, none, .pick (.t 127) (.t 130) (.c (.bool false))⟩, ⟨some 132, none, .mv (.p 131)⟩, ⟨some 133, some (132, true), .faddr 6 (.t 1)⟩, ⟨some 134, some (132, true), .load false 1 (.a 133 1)⟩, ⟨some 135, some (132, true), .call n_spec_l1In [.a 134 1, .c (.int .i64 1), .c (.int .i64 30)]⟩, ⟨some 136, none, .pick (.t 132) (.t 135) (.c (.bool false))⟩, ⟨some 2, none, .asg (.p 136)⟩])
 .ret)))))⟩
/-- spec.mGood -/
def a_spec_mGood : AFn := ⟨1, 36, [.tmp 2], (.seq (.reg [⟨some 1, none, .box (.t 0)⟩, ⟨some 2, none, .asg (.c (.bool false))⟩])
 (.seq (.reg [⟨some 3, none, .faddr 0 (.t 1)⟩, ⟨some 4, none, .load false 1 (.a 3 1)⟩, ⟨some 5, none, .call n_spec_l1In [.a 4 1, .c (.int .i64 1), .c (.int .i64 10)]⟩, ⟨some 6, none, .mv (.p 5)⟩, ⟨some 7, some (6, true), .faddr 1 (.t 1)⟩, ⟨some 8, some (6, true), .load false 1 (.a 7 1)⟩, ⟨some 9, some (6, true), .call n_spec_l1In [.a 8 1, .c (.int .i64 1), .c (.int .i64 10)]⟩, ⟨some 10, none, .pick (.t 6) (.t 9) (.c (.bool false))⟩, ⟨some 11, none, .mv (.p 10)⟩, ⟨some 12, some (11, true), .faddr 2 (.t 1)⟩, ⟨some 13, some (11, true), .load false 1 (.a 12 1)⟩, ⟨some 14, some (11, true), .len (.a 13 1)⟩, ⟨some 15, some (11, true), .load true 5 (.t 1)⟩, ⟨some 16, some (11, true), .call n_spec_mSize [.a 15 1]⟩, ⟨some 17, some (11, true), .bin .eql (.t 14) (.t 16)⟩, ⟨some 18, none, .pick (.t 11) (.t 17) (.c (.bool false))⟩, ⟨some 19, none, .mv (.p 18)⟩, ⟨some 20, some (19, true), .faddr 2 (.t 1)⟩, ⟨some 21, some (19, true), .load false 1 (.a 20 1)⟩, ⟨some 22, some (19, true), .call n_spec_l1All [.a 21 1, .c (.int .i64 0), .c (.int .i64 5)]⟩, ⟨some 23, none, .pick (.t 19) (.t 22) (.c (.bool false))⟩, ⟨some 24, none, .mv (.p 23)⟩, ⟨some 25, some (24, true), .load true 5 (.t 1)⟩, ⟨some 26, some (24, true), .faddr 3 (.t 1)⟩, ⟨some 27, some (24, true), .load false 1 (.a 26 1)⟩, ⟨some 28, some (24, true), .call n_spec_mEdges [.a 25 1, .a 27 1]⟩, ⟨some 29, none, .pick (.t 24) (.t 28) (.c (.bool false))⟩, ⟨some 30, none, .mv (.p 29)⟩, ⟨some 31, some (30, true), .load true 5 (.t 1)⟩, ⟨some 32, some (30, true), .faddr 4 (.t 1)⟩, ⟨some 33, some (30, true), .load false 1 (.a 32 1)⟩, ⟨some 34, some (30, true), .call n_spec_mEdges [.a 31 1, .a 33 1]⟩, ⟨some 35, none, .pick (.t 30) (.t 34) (.c (.bool false))⟩, ⟨some 2, none, .asg (.p 35)⟩])
 .ret))⟩
def b_spec_l1All_0 : AC := (.seq (.reg [⟨some 12, none, .bin .lss (.t 11) (.t 10)⟩])
 (.seq (.cond (.t 12) .skip (.exit 0))
 (.seq (.block 1 (.seq (.reg [⟨some 13, none, .iaddr 1 (.a 9 0) (.t 11)⟩, ⟨some 14, none, .load false 1 (.a 13 0)⟩, ⟨some 8, none, .asg (.p 14)⟩])
 (.seq (.reg [⟨some 15, none, .mv (.p 8)⟩, ⟨some 16, none, .mv (.p 1)⟩, ⟨some 17, none, .mv (.p 2)⟩, ⟨some 18, none, .call n_spec_l1In [.t 15, .t 16, .t 17]⟩, ⟨some 19, none, .un .not (.t 18)⟩])
 (.cond (.t 19) (.seq (.reg [⟨some 6, none, .asg (.c (.bool false))⟩])
 .ret) .skip))))
 (.reg [⟨some 20, none, .bin .add (.t 11) (.c (.int .i64 1))⟩, ⟨some 11, none, .mv (.p 20)⟩]))))
/-- spec.l1All -/
def a_spec_l1All : AFn := ⟨3, 21, [.tmp 6], (.seq (.reg [⟨some 6, none, .asg (.c (.bool false))⟩])
 (.seq (.seq (.reg [⟨some 9, none, .rf (.t 0)⟩, ⟨some 10, none, .len (.a 9 0)⟩, ⟨some 11, none, .mv (.c (.int .i64 0))⟩])
 (.block 0 (.loop [0, 1, 2, 9, 10, 11] [6] b_spec_l1All_0)))
 (.seq (.reg [⟨some 6, none, .asg (.c (.bool true))⟩])
 .ret)))⟩
/-- spec.mSize -/
def a_spec_mSize : AFn := ⟨1, 8, [.tmp 2], (.seq (.reg [⟨some 1, none, .box (.t 0)⟩, ⟨some 2, none, .asg (.c (.int .i64 0))⟩])
 (.seq (.reg [⟨some 3, none, .faddr 0 (.t 1)⟩, ⟨some 4, none, .load false 1 (.a 3 1)⟩, ⟨some 5, none, .faddr 1 (.t 1)⟩, ⟨some 6, none, .load false 1 (.a 5 1)⟩, ⟨some 7, none, .bin .mul (.a 4 1) (.a 6 1)⟩, ⟨some 2, none, .asg (.p 7)⟩])
 .ret))⟩
/-- spec.bCost -/
def a_spec_bCost : AFn := ⟨3, 14, [.tmp 6], (.seq (.reg [⟨some 3, none, .box (.t 0)⟩, ⟨some 6, none, .asg (.c (.int .i64 0))⟩])
 (.seq (.reg [⟨some 7, none, .load true 12 (.t 3)⟩, ⟨some 8, none, .mv (.p 2)⟩, ⟨some 9, none, .call n_spec_bTerrain [.a 7 3, .t 8]⟩, ⟨some 10, none, .field false 1 1 (.t 9)⟩, ⟨some 11, none, .mv (.p 1)⟩, ⟨some 12, none, .iaddr 1 (.t 10) (.t 11)⟩, ⟨some 13, none, .load false 1 (.a 12 10)⟩, ⟨some 6, none, .asg (.p 13)⟩])
 .ret))⟩
def b_impl_IsRules_0 : AC := (.seq (.reg [⟨some 23, none, .bin .lss (.t 22) (.t 21)⟩])
 (.seq (.cond (.t 23) .skip (.exit 0))
 (.seq (.block 1 (.seq (.reg [⟨some 24, none, .mv (.p 22)⟩, ⟨some 25, none, .iaddr 5 (.a 20 1) (.t 22)⟩, ⟨some 26, none, .load true 5 (.a 25 1)⟩, ⟨some 4, none, .alloc [.str ⟨#[]⟩, .list true 1 [], .int .i64 0, .int .i64 0, .bool false]⟩, ⟨some 3, none, .asg (.p 24)⟩, ⟨none, none, .store 5 (.t 4) (.a 26 1)⟩])
 (.seq (.reg [⟨some 27, none, .load true 5 (.t 4)⟩, ⟨some 28, none, .faddr 1 (.t 1)⟩, ⟨some 29, none, .load false 1 (.a 28 1)⟩, ⟨some 30, none, .len (.a 29 1)⟩, ⟨some 31, none, .call n_impl_goodTerrain [.a 27 4, .t 30]⟩, ⟨some 32, none, .un .not (.t 31)⟩, ⟨some 33, none, .mv (.p 32)⟩, ⟨some 34, some (33, false), .faddr 0 (.t 1)⟩, ⟨some 35, some (33, false), .load false 1 (.a 34 1)⟩, ⟨some 36, some (33, false), .faddr 0 (.t 4)⟩, ⟨some 37, some (33, false), .load false 1 (.a 36 4)⟩, ⟨some 38, some (33, false), .call n_impl_terrainIndex [.a 35 1, .a 37 4]⟩, ⟨some 39, some (33, false), .mv (.p 3)⟩, ⟨some 40, some (33, false), .bin .neq (.t 38) (.t 39)⟩, ⟨some 41, none, .pick (.t 33) (.c (.bool true)) (.t 40)⟩])
 (.cond (.t 41) (.seq (.reg [⟨some 2, none, .asg (.c (.bool false))⟩])
 .ret) .skip))))
 (.reg [⟨some 42, none, .bin .add (.t 22) (.c (.int .i64 1))⟩, ⟨some 22, none, .mv (.p 42)⟩]))))
def b_impl_IsRules_1 : AC := (.seq (.reg [⟨some 47, none, .bin .lss (.t 46) (.t 45)⟩])
 (.seq (.cond (.t 47) .skip (.exit 2))
 (.seq (.block 3 (.seq (.reg [⟨some 48, none, .mv (.p 46)⟩, ⟨some 49, none, .iaddr 6 (.a 44 1) (.t 46)⟩, ⟨some 50, none, .load true 6 (.a 49 1)⟩, ⟨some 6, none, .alloc [.str ⟨#[]⟩, .int .i64 0, .int .i64 0, .int .i64 0, .bool false, .int .i64 0]⟩, ⟨some 5, none, .asg (.p 48)⟩, ⟨none, none, .store 6 (.t 6) (.a 50 1)⟩])
 (.seq (.reg [⟨some 51, none, .load true 6 (.t 6)⟩, ⟨some 52, none, .call n_impl_goodKind [.a 51 6]⟩, ⟨some 53, none, .un .not (.t 52)⟩, ⟨some 54, none, .mv (.p 53)⟩, ⟨some 55, some (54, false), .faddr 1 (.t 1)⟩, ⟨some 56, some (54, false), .load false 1 (.a 55 1)⟩, ⟨some 57, some (54, false), .faddr 0 (.t 6)⟩, ⟨some 58, some (54, false), .load false 1 (.a 57 6)⟩, ⟨some 59, some (54, false), .call n_impl_kindIndex [.a 56 1, .a 58 6]⟩, ⟨some 60, some (54, false), .mv (.p 5)⟩, ⟨some 61, some (54, false), .bin .neq (.t 59) (.t 60)⟩, ⟨some 62, none, .pick (.t 54) (.c (.bool true)) (.t 61)⟩])
 (.cond (.t 62) (.seq (.reg [⟨some 2, none, .asg (.c (.bool false))⟩])
 .ret) .skip))))
 (.reg [⟨some 63, none, .bin .add (.t 46) (.c (.int .i64 1))⟩, ⟨some 46, none, .mv (.p 63)⟩]))))
/-- impl.IsRules -/
def a_impl_IsRules : AFn := ⟨1, 87, [.tmp 2], (.seq (.reg [⟨some 1, none, .box (.t 0)⟩, ⟨some 2, none, .asg (.c (.bool false))⟩])
 (.seq (.seq (.reg [⟨some 7, none, .faddr 0 (.t 1)⟩, ⟨some 8, none, .load false 1 (.a 7 1)⟩, ⟨some 9, none, .len (.a 8 1)⟩, ⟨some 10, none, .call n_impl_inRange [.t 9, .c (.int .i64 1), .c (.int .i64 6)]⟩, ⟨some 11, none, .un .not (.t 10)⟩, ⟨some 12, none, .mv (.p 11)⟩, ⟨some 13, some (12, false), .faddr 1 (.t 1)⟩, ⟨some 14, some (12, false), .load false 1 (.a 13 1)⟩, ⟨some 15, some (12, false), .len (.a 14 1)⟩, ⟨some 16, some (12, false), .call n_impl_inRange [.t 15, .c (.int .i64 1), .c (.int .i64 4)]⟩, ⟨some 17, some (12, false), .un .not (.t 16)⟩, ⟨some 18, none, .pick (.t 12) (.c (.bool true)) (.t 17)⟩])
 (.cond (.t 18) (.seq (.reg [⟨some 2, none, .asg (.c (.bool false))⟩])
 .ret) .skip))
 (.seq (.seq (.reg [⟨some 19, none, .faddr 0 (.t 1)⟩, ⟨some 20, none, .load false 1 (.a 19 1)⟩, ⟨some 21, none, .len (.a 20 1)⟩, ⟨some 22, none, .mv (.c (.int .i64 0))⟩])
 (.block 0 (.loop [1, 20, 21, 22] [1, 2] b_impl_IsRules_0)))
 (.seq (.seq (.reg [⟨some 43, none, .faddr 1 (.t 1)⟩, ⟨some 44, none, .load false 1 (.a 43 1)⟩, ⟨some 45, none, .len (.a 44 1)⟩, ⟨some 46, none, .mv (.c (.int .i64 0))⟩])
 (.block 2 (.loop [1, 44, 45, 46] [1, 2] b_impl_IsRules_1)))
 (.seq (.reg [⟨some 64, none, .faddr 2 (.t 1)⟩, ⟨some 65, none, .load false 1 (.a 64 1)⟩, ⟨some 66, none, .call n_impl_inRange [.a 65 1, .c (.int .i64 1), .c (.int .i64 4)]⟩, ⟨some 67, none, .mv (.p 66)⟩, ⟨some 68, some (67, true), .faddr 3 (.t 1)⟩, ⟨some 69, some (67, true), .load false 1 (.a 68 1)⟩, ⟨some 70, some (67, true), .call n_impl_inRange [.a 69 1, .c (.int .i64 0), .c (.int .i64 9)]⟩, ⟨some 71, none, .pick (.t 67) (.t 70) (.c (.bool false))⟩, ⟨some 72, none, .mv (.p 71)⟩, ⟨some 73, some (72, true), .faddr 4 (.t 1)⟩, ⟨some 74, some (72, true), .load false 1 (.a 73 1)⟩, ⟨some 75, some (72, true), .call n_impl_inRange [.a 74 1, .c (.int .i64 1), .c (.int .i64 9)]⟩, ⟨some 76, none, .pick (.t 72) (.t 75) (.c (.bool false))⟩, ⟨some 77, none, .mv (.p 76)⟩, ⟨some 78, some (77, true), .faddr 5 (.t 1)⟩, ⟨some 79, some (77, true), .load false 1 (.a 78 1)⟩, ⟨some 80, some (77, true), .call n_impl_inRange [.a 79 1, .c (.int .i64 0), .c (.int .i64 20)]⟩, ⟨some 81, none, .pick (.t 77) (.t 80) (.c (.bool false))⟩, ⟨some 82, none, .mv (.p 81)⟩, ⟨some 83, some (82, true), .faddr 6 (.t 1)⟩, ⟨some 84, some (82, true), .load false 1 (.a 83 1)⟩, ⟨some 85, some (82, true), .call n_impl_inRange [.a 84 1, .c (.int .i64 1), .c (.int .i64 30)]⟩, ⟨some 86, none, .pick (.t 82) (.t 85) (.c (.bool false))⟩, ⟨some 2, none, .asg (.p 86)⟩])
 .ret)))))⟩
def b_impl_IsMap_0 : AC := (.seq (.reg [⟨some 34, none, .bin .lss (.t 33) (.t 32)⟩])
 (.seq (.cond (.t 34) .skip (.exit 0))
 (.seq (.block 1 (.seq (.reg [⟨some 35, none, .iaddr 1 (.a 31 1) (.t 33)⟩, ⟨some 36, none, .load false 1 (.a 35 1)⟩, ⟨some 4, none, .asg (.p 36)⟩])
 (.seq (.reg [⟨some 37, none, .mv (.p 4)⟩, ⟨some 38, none, .call n_impl_isIndex [.t 37, .c (.int .i64 6)]⟩, ⟨some 39, none, .un .not (.t 38)⟩])
 (.cond (.t 39) (.seq (.reg [⟨some 2, none, .asg (.c (.bool false))⟩])
 .ret) .skip))))
 (.reg [⟨some 40, none, .bin .add (.t 33) (.c (.int .i64 1))⟩, ⟨some 33, none, .mv (.p 40)⟩]))))
def b_impl_IsMap_1 : AC := (.seq (.reg [⟨some 57, none, .bin .lss (.t 56) (.t 55)⟩])
 (.seq (.cond (.t 57) .skip (.exit 4))
 (.seq (.block 5 (.seq (.reg [⟨some 58, none, .iaddr 1 (.a 54 6) (.t 56)⟩, ⟨some 59, none, .load false 1 (.a 58 6)⟩, ⟨some 8, none, .asg (.p 59)⟩])
 (.seq (.reg [⟨some 60, none, .load true 5 (.t 1)⟩, ⟨some 61, none, .mv (.p 8)⟩, ⟨some 62, none, .call n_impl_isEdge [.a 60 1, .t 61]⟩, ⟨some 63, none, .un .not (.t 62)⟩])
 (.cond (.t 63) (.seq (.reg [⟨some 2, none, .asg (.c (.bool false))⟩])
 .ret) .skip))))
 (.reg [⟨some 64, none, .bin .add (.t 56) (.c (.int .i64 1))⟩, ⟨some 56, none, .mv (.p 64)⟩]))))
def b_impl_IsMap_2 : AC := (.seq (.reg [⟨some 48, none, .bin .lss (.t 47) (.t 46)⟩])
 (.seq (.cond (.t 48) .skip (.exit 2))
 (.seq (.block 3 (.seq (.reg [⟨some 49, none, .iaddr 1 (.t 45) (.t 47)⟩, ⟨some 50, none, .load false 1 (.a 49 45)⟩, ⟨some 6, none, .asg (.a 50 45)⟩])
 (.seq (.seq (.reg [⟨some 51, none, .rf (.t 6)⟩, ⟨some 52, none, .call n_impl_increasing [.a 51 6]⟩, ⟨some 53, none, .un .not (.t 52)⟩])
 (.cond (.t 53) (.seq (.reg [⟨some 2, none, .asg (.c (.bool false))⟩])
 .ret) .skip))
 (.seq (.reg [⟨some 54, none, .rf (.t 6)⟩, ⟨some 55, none, .len (.a 54 6)⟩, ⟨some 56, none, .mv (.c (.int .i64 0))⟩])
 (.block 4 (.loop [1, 6, 45, 46, 47, 54, 55, 56] [1, 2, 45, 46, 47] b_impl_IsMap_1))))))
 (.reg [⟨some 65, none, .bin .add (.t 47) (.c (.int .i64 1))⟩, ⟨some 47, none, .mv (.p 65)⟩]))))
/-- impl.IsMap -/
def a_impl_IsMap : AFn := ⟨1, 66, [.tmp 2], (.seq (.reg [⟨some 1, none, .box (.t 0)⟩, ⟨some 2, none, .asg (.c (.bool false))⟩])
 (.seq (.seq (.reg [⟨some 9, none, .faddr 0 (.t 1)⟩, ⟨some 10, none, .load false 1 (.a 9 1)⟩, ⟨some 11, none, .call n_impl_inRange [.a 10 1, .c (.int .i64 1), .c (.int .i64 10)]⟩, ⟨some 12, none, .un .not (.t 11)⟩, ⟨some 13, none, .mv (.p 12)⟩, ⟨some 14, some (13, false), .faddr 1 (.t 1)⟩, ⟨some 15, some (13, false), .load false 1 (.a 14 1)⟩, ⟨some 16, some (13, false), .call n_impl_inRange [.a 15 1, .c (.int .i64 1), .c (.int .i64 10)]⟩, ⟨some 17, some (13, false), .un .not (.t 16)⟩, ⟨some 18, none, .pick (.t 13) (.c (.bool true)) (.t 17)⟩, ⟨some 19, none, .mv (.p 18)⟩, ⟨some 20, some (19, false), .faddr 2 (.t 1)⟩, ⟨some 21, some (19, false), .load false 1 (.a 20 1)⟩, ⟨some 22, some (19, false), .len (.a 21 1)⟩, ⟨some 23, some (19, false), .faddr 0 (.t 1)⟩, ⟨some 24, some (19, false), .load false 1 (.a 23 1)⟩, ⟨some 25, some (19, false), .faddr 1 (.t 1)⟩, ⟨some 26, some (19, false), .load false 1 (.a 25 1)⟩, ⟨some 27, some (19, false), .bin .mul (.a 24 1) (.a 26 1)⟩, ⟨some 28, some (19, false), .bin .neq (.t 22) (.t 27)⟩, ⟨some 29, none, .pick (.t 19) (.c (.bool true)) (.t 28)⟩])
 (.cond (.t 29) (.seq (.reg [⟨some 2, none, .asg (.c (.bool false))⟩])
 .ret) .skip))
 (.seq (.seq (.reg [⟨some 30, none, .faddr 2 (.t 1)⟩, ⟨some 31, none, .load false 1 (.a 30 1)⟩, ⟨some 32, none, .len (.a 31 1)⟩, ⟨some 33, none, .mv (.c (.int .i64 0))⟩])
 (.block 0 (.loop [1, 31, 32, 33] [1, 2] b_impl_IsMap_0)))
 (.seq (.seq (.reg [⟨some 41, none, .faddr 3 (.t 1)⟩, ⟨some 42, none, .load false 1 (.a 41 1)⟩, ⟨some 43, none, .faddr 4 (.t 1)⟩, ⟨some 44, none, .load false 1 (.a 43 1)⟩, ⟨some 45, none, .bslice 1 2 [.list true 1 []] [(0, .a 42 1), (1, .a 44 1)]⟩, ⟨some 46, none, .len (.t 45)⟩, ⟨some 47, none, .mv (.c (.int .i64 0))⟩])
 (.block 2 (.loop [1, 45, 46, 47] [2] b_impl_IsMap_2)))
 (.seq (.reg [⟨some 2, none, .asg (.c (.bool true))⟩])
 .ret)))))⟩
/-- slices.ContainsFunc[[]int,int] -/
def a_slices_ContainsFunc_int_int : AFn := ⟨2, 9, [.tmp 4], (.seq (.reg [⟨some 4, none, .asg (.c (.bool false))⟩])
 (.seq (.reg [⟨some 5, none, .rf (.t 0)⟩, ⟨some 6, none, .rf (.t 1)⟩, ⟨some 7, none, .call n_slices_IndexFunc_int_int [.a 5 0, .a 6 1]⟩, ⟨some 8, none, .bin .geq (.t 7) (.c (.int .i64 0))⟩, ⟨some 4, none, .asg (.p 8)⟩])
 .ret))⟩
/-- impl.IsBoard$1 -/
def a_impl_IsBoard_1 : AFn := ⟨2, 10, [.tmp 3], (.seq (.reg [⟨some 3, none, .asg (.c (.bool false))⟩])
 (.seq (.reg [⟨some 4, none, .mv (.p 0)⟩, ⟨some 5, none, .faddr 0 (.t 1)⟩, ⟨some 6, none, .faddr 0 (.a 5 1)⟩, ⟨some 7, none, .load false 1 (.a 6 1)⟩, ⟨some 8, none, .len (.a 7 1)⟩, ⟨some 9, none, .bin .geq (.t 4) (.t 8)⟩, ⟨some 3, none, .asg (.p 9)⟩])
 .ret))⟩
/-- impl.sizeOf -/
def a_impl_sizeOf : AFn := ⟨1, 7, [.tmp 2], (.seq (.reg [⟨some 1, none, .box (.t 0)⟩, ⟨some 2, none, .asg (.c (.int .i64 0))⟩])
 (.seq (.reg [⟨some 3, none, .faddr 7 (.t 1)⟩, ⟨some 4, none, .faddr 2 (.a 3 1)⟩, ⟨some 5, none, .load false 1 (.a 4 1)⟩, ⟨some 6, none, .len (.a 5 1)⟩, ⟨some 2, none, .asg (.p 6)⟩])
 .ret))⟩
/-- impl.goodUnit -/
def a_impl_goodUnit : AFn := ⟨2, 55, [.tmp 4], (.seq (.reg [⟨some 2, none, .box (.t 0)⟩, ⟨some 3, none, .box (.t 1)⟩, ⟨some 4, none, .asg (.c (.bool false))⟩])
 (.seq (.seq (.reg [⟨some 5, none, .faddr 0 (.t 3)⟩, ⟨some 6, none, .load false 1 (.a 5 3)⟩, ⟨some 7, none, .call n_impl_isSide [.a 6 3]⟩, ⟨some 8, none, .un .not (.t 7)⟩, ⟨some 9, none, .mv (.p 8)⟩, ⟨some 10, some (9, false), .faddr 1 (.t 3)⟩, ⟨some 11, some (9, false), .load false 1 (.a 10 3)⟩, ⟨some 12, some (9, false), .faddr 0 (.t 2)⟩, ⟨some 13, some (9, false), .faddr 1 (.a 12 2)⟩, ⟨some 14, some (9, false), .load false 1 (.a 13 2)⟩, ⟨some 15, some (9, false), .len (.a 14 2)⟩, ⟨some 16, some (9, false), .call n_impl_isIndex [.a 11 3, .t 15]⟩, ⟨some 17, some (9, false), .un .not (.t 16)⟩, ⟨some 18, none, .pick (.t 9) (.c (.bool true)) (.t 17)⟩, ⟨some 19, none, .mv (.p 18)⟩, ⟨some 20, some (19, false), .faddr 3 (.t 3)⟩, ⟨some 21, some (19, false), .load false 1 (.a 20 3)⟩, ⟨some 22, some (19, false), .faddr 0 (.t 2)⟩, ⟨some 23, some (19, false), .faddr 1 (.a 22 2)⟩, ⟨some 24, some (19, false), .load false 1 (.a 23 2)⟩, ⟨some 25, some (19, false), .faddr 1 (.t 3)⟩, ⟨some 26, some (19, false), .load false 1 (.a 25 3)⟩, ⟨some 27, some (19, false), .iaddr 6 (.a 24 2) (.a 26 3)⟩, ⟨some 28, some (19, false), .faddr 3 (.a 27 2)⟩, ⟨some 29, some (19, false), .load false 1 (.a 28 2)⟩, ⟨some 30, some (19, false), .call n_impl_inRange [.a 21 3, .c (.int .i64 0), .a 29 2]⟩, ⟨some 31, some (19, false), .un .not (.t 30)⟩, ⟨some 32, none, .pick (.t 19) (.c (.bool true)) (.t 31)⟩])
 (.cond (.t 32) (.seq (.reg [⟨some 4, none, .asg (.c (.bool false))⟩])
 .ret) .skip))
 (.seq (.seq (.reg [⟨some 33, none, .faddr 2 (.t 3)⟩, ⟨some 34, none, .load false 1 (.a 33 3)⟩, ⟨some 35, none, .bin .eql (.a 34 3) (.c (.int .i64 (-1)))⟩])
 (.cond (.t 35) (.seq (.reg [⟨some 4, none, .asg (.c (.bool true))⟩])
 .ret) .skip))
 (.seq (.reg [⟨some 36, none, .faddr 3 (.t 3)⟩, ⟨some 37, none, .load false 1 (.a 36 3)⟩, ⟨some 38, none, .bin .gtr (.a 37 3) (.c (.int .i64 0))⟩, ⟨some 39, none, .mv (.p 38)⟩, ⟨some 40, some (39, true), .faddr 2 (.t 3)⟩, ⟨some 41, some (39, true), .load false 1 (.a 40 3)⟩, ⟨some 42, some (39, true), .load true 12 (.t 2)⟩, ⟨some 43, some (39, true), .call n_impl_sizeOf [.a 42 2]⟩, ⟨some 44, some (39, true), .call n_impl_isIndex [.a 41 3, .t 43]⟩, ⟨some 45, none, .pick (.t 39) (.t 44) (.c (.bool false))⟩, ⟨some 46, none, .mv (.p 45)⟩, ⟨some 47, some (46, true), .load true 12 (.t 2)⟩, ⟨some 48, some (46, true), .faddr 1 (.t 3)⟩, ⟨some 49, some (46, true), .load false 1 (.a 48 3)⟩, ⟨some 50, some (46, true), .faddr 2 (.t 3)⟩, ⟨some 51, some (46, true), .load false 1 (.a 50 3)⟩, ⟨some 52, some (46, true), .call n_impl_enterCost [.a 47 2, .a 49 3, .a 51 3]⟩, ⟨some 53, some (46, true), .bin .neq (.t 52) (.c (.int .i64 0))⟩, ⟨some 54, none, .pick (.t 46) (.t 53) (.c (.bool false))⟩, ⟨some 4, none, .asg (.p 54)⟩])
 .ret))))⟩
/-- spec.mNext -/
def a_spec_mNext : AFn := ⟨3, 14, [.tmp 6], (.seq (.reg [⟨some 3, none, .box (.t 0)⟩, ⟨some 6, none, .asg (.c (.int .i64 0))⟩])
 (.seq (.reg [⟨some 7, none, .load true 5 (.t 3)⟩, ⟨some 8, none, .load true 5 (.t 3)⟩, ⟨some 9, none, .mv (.p 1)⟩, ⟨some 10, none, .call n_spec_mHex [.a 8 3, .t 9]⟩, ⟨some 11, none, .mv (.p 2)⟩, ⟨some 12, none, .call n_spec_hStep [.t 10, .t 11]⟩, ⟨some 13, none, .call n_spec_mIndex [.a 7 3, .t 12]⟩, ⟨some 6, none, .asg (.p 13)⟩])
 .ret))⟩
/-- spec.cStep -/
def a_spec_cStep : AFn := ⟨5, 56, [.tmp 10], (.seq (.reg [⟨some 5, none, .box (.t 0)⟩, ⟨some 10, none, .asg (.c (.int .i64 0))⟩])
 (.seq (.reg [⟨some 13, none, .faddr 7 (.t 5)⟩, ⟨some 14, none, .load true 5 (.a 13 5)⟩, ⟨some 15, none, .mv (.p 2)⟩, ⟨some 16, none, .mv (.p 3)⟩, ⟨some 17, none, .call n_spec_mNext [.a 14 5, .t 15, .t 16]⟩, ⟨some 11, none, .asg (.p 17)⟩])
 (.seq (.seq (.reg [⟨some 18, none, .mv (.p 11)⟩, ⟨some 19, none, .bin .lss (.t 18) (.c (.int .i64 0))⟩, ⟨some 20, none, .mv (.p 19)⟩, ⟨some 21, some (20, false), .load true 12 (.t 5)⟩, ⟨some 22, some (20, false), .mv (.p 1)⟩, ⟨some 23, some (20, false), .mv (.p 11)⟩, ⟨some 24, some (20, false), .call n_spec_bCost [.a 21 5, .t 22, .t 23]⟩, ⟨some 25, some (20, false), .bin .eql (.t 24) (.c (.int .i64 0))⟩, ⟨some 26, none, .pick (.t 20) (.c (.bool true)) (.t 25)⟩])
 (.cond (.t 26) (.seq (.reg [⟨some 10, none, .asg (.c (.int .i64 0))⟩])
 .ret) .skip))
 (.seq (.seq (.reg [⟨some 27, none, .faddr 7 (.t 5)⟩, ⟨some 28, none, .load true 5 (.a 27 5)⟩, ⟨some 29, none, .mv (.p 2)⟩, ⟨some 30, none, .mv (.p 3)⟩, ⟨some 31, none, .call n_spec_mRoad [.a 28 5, .t 29, .t 30]⟩])
 (.cond (.t 31) (.seq (.reg [⟨some 32, none, .faddr 0 (.t 5)⟩, ⟨some 33, none, .faddr 4 (.a 32 5)⟩, ⟨some 34, none, .load false 1 (.a 33 5)⟩, ⟨some 35, none, .mv (.p 4)⟩, ⟨some 36, none, .call n_spec_csWeather [.t 35, .c (.bool true)]⟩, ⟨some 37, none, .bin .add (.a 34 5) (.t 36)⟩, ⟨some 10, none, .asg (.p 37)⟩])
 .ret) .skip))
 (.seq (.reg [⟨some 38, none, .load true 12 (.t 5)⟩, ⟨some 39, none, .mv (.p 1)⟩, ⟨some 40, none, .mv (.p 11)⟩, ⟨some 41, none, .call n_spec_bCost [.a 38 5, .t 39, .t 40]⟩, ⟨some 42, none, .mv (.p 4)⟩, ⟨some 43, none, .call n_spec_csWeather [.t 42, .c (.bool false)]⟩, ⟨some 44, none, .bin .add (.t 41) (.t 43)⟩, ⟨some 12, none, .asg (.p 44)⟩])
 (.seq (.seq (.reg [⟨some 45, none, .faddr 7 (.t 5)⟩, ⟨some 46, none, .load true 5 (.a 45 5)⟩, ⟨some 47, none, .mv (.p 2)⟩, ⟨some 48, none, .mv (.p 3)⟩, ⟨some 49, none, .call n_spec_mRiver [.a 46 5, .t 47, .t 48]⟩])
 (.cond (.t 49) (.reg [⟨some 50, none, .mv (.p 12)⟩, ⟨some 51, none, .faddr 0 (.t 5)⟩, ⟨some 52, none, .faddr 3 (.a 51 5)⟩, ⟨some 53, none, .load false 1 (.a 52 5)⟩, ⟨some 54, none, .bin .add (.t 50) (.a 53 5)⟩, ⟨some 12, none, .asg (.p 54)⟩]) .skip))
 (.seq (.reg [⟨some 55, none, .mv (.p 12)⟩, ⟨some 10, none, .asg (.p 55)⟩])
 .ret)))))))⟩
/-- impl.stepCost -/
def a_impl_stepCost : AFn := ⟨5, 62, [.tmp 10], (.seq (.reg [⟨some 5, none, .box (.t 0)⟩, ⟨some 10, none, .asg (.c (.int .i64 0))⟩])
 (.seq (.reg [⟨some 14, none, .faddr 7 (.t 5)⟩, ⟨some 15, none, .load true 5 (.a 14 5)⟩, ⟨some 16, none, .mv (.p 3)⟩, ⟨some 17, none, .mv (.p 4)⟩, ⟨some 18, none, .call n_impl_nextTo [.a 15 5, .t 16, .t 17]⟩, ⟨some 11, none, .asg (.p 18)⟩])
 (.seq (.seq (.reg [⟨some 19, none, .mv (.p 11)⟩, ⟨some 20, none, .bin .lss (.t 19) (.c (.int .i64 0))⟩, ⟨some 21, none, .mv (.p 20)⟩, ⟨some 22, some (21, false), .load true 12 (.t 5)⟩, ⟨some 23, some (21, false), .mv (.p 1)⟩, ⟨some 24, some (21, false), .mv (.p 11)⟩, ⟨some 25, some (21, false), .call n_impl_enterCost [.a 22 5, .t 23, .t 24]⟩, ⟨some 26, some (21, false), .bin .eql (.t 25) (.c (.int .i64 0))⟩, ⟨some 27, none, .pick (.t 21) (.c (.bool true)) (.t 26)⟩])
 (.cond (.t 27) (.seq (.reg [⟨some 10, none, .asg (.c (.int .i64 0))⟩])
 .ret) .skip))
 (.seq (.reg [⟨some 28, none, .faddr 7 (.t 5)⟩, ⟨some 29, none, .load true 5 (.a 28 5)⟩, ⟨some 30, none, .mv (.p 3)⟩, ⟨some 31, none, .mv (.p 4)⟩, ⟨some 32, none, .call n_impl_edgeOf [.a 29 5, .t 30, .t 31]⟩, ⟨some 12, none, .asg (.p 32)⟩])
 (.seq (.seq (.reg [⟨some 33, none, .faddr 7 (.t 5)⟩, ⟨some 34, none, .faddr 4 (.a 33 5)⟩, ⟨some 35, none, .load false 1 (.a 34 5)⟩, ⟨some 36, none, .mv (.p 12)⟩, ⟨some 37, none, .call n_slices_Contains_int_int [.a 35 5, .t 36]⟩])
 (.cond (.t 37) (.seq (.reg [⟨some 38, none, .faddr 0 (.t 5)⟩, ⟨some 39, none, .faddr 4 (.a 38 5)⟩, ⟨some 40, none, .load false 1 (.a 39 5)⟩, ⟨some 41, none, .mv (.p 2)⟩, ⟨some 42, none, .call n_impl_weatherCost [.t 41, .c (.bool true)]⟩, ⟨some 43, none, .bin .add (.a 40 5) (.t 42)⟩, ⟨some 10, none, .asg (.p 43)⟩])
 .ret) .skip))
 (.seq (.reg [⟨some 44, none, .load true 12 (.t 5)⟩, ⟨some 45, none, .mv (.p 1)⟩, ⟨some 46, none, .mv (.p 11)⟩, ⟨some 47, none, .call n_impl_enterCost [.a 44 5, .t 45, .t 46]⟩, ⟨some 48, none, .mv (.p 2)⟩, ⟨some 49, none, .call n_impl_weatherCost [.t 48, .c (.bool false)]⟩, ⟨some 50, none, .bin .add (.t 47) (.t 49)⟩, ⟨some 13, none, .asg (.p 50)⟩])
 (.seq (.seq (.reg [⟨some 51, none, .faddr 7 (.t 5)⟩, ⟨some 52, none, .faddr 3 (.a 51 5)⟩, ⟨some 53, none, .load false 1 (.a 52 5)⟩, ⟨some 54, none, .mv (.p 12)⟩, ⟨some 55, none, .call n_slices_Contains_int_int [.a 53 5, .t 54]⟩])
 (.cond (.t 55) (.reg [⟨some 56, none, .mv (.p 13)⟩, ⟨some 57, none, .faddr 0 (.t 5)⟩, ⟨some 58, none, .faddr 3 (.a 57 5)⟩, ⟨some 59, none, .load false 1 (.a 58 5)⟩, ⟨some 60, none, .bin .add (.t 56) (.a 59 5)⟩, ⟨some 13, none, .asg (.p 60)⟩]) .skip))
 (.seq (.reg [⟨some 61, none, .mv (.p 13)⟩, ⟨some 10, none, .asg (.p 61)⟩])
 .ret))))))))⟩
/-- impl.nextTo -/
def a_impl_nextTo : AFn := ⟨3, 14, [.tmp 6], (.seq (.reg [⟨some 3, none, .box (.t 0)⟩, ⟨some 6, none, .asg (.c (.int .i64 0))⟩])
 (.seq (.reg [⟨some 7, none, .load true 5 (.t 3)⟩, ⟨some 8, none, .load true 5 (.t 3)⟩, ⟨some 9, none, .mv (.p 1)⟩, ⟨some 10, none, .call n_impl_hexOf [.a 8 3, .t 9]⟩, ⟨some 11, none, .mv (.p 2)⟩, ⟨some 12, none, .call n_impl_stepBy [.t 10, .t 11, .c (.int .i64 1)]⟩, ⟨some 13, none, .call n_impl_indexOf [.a 7 3, .t 12]⟩, ⟨some 6, none, .asg (.p 13)⟩])
 .ret))⟩
/-- spec.oCost -/
def a_spec_oCost : AFn := ⟨3, 31, [.tmp 6], (.seq (.reg [⟨some 3, none, .box (.t 0)⟩, ⟨some 4, none, .box (.t 1)⟩, ⟨some 5, none, .box (.t 2)⟩, ⟨some 6, none, .asg (.c (.int .i64 0))⟩])
 (.seq (.seq (.reg [⟨some 7, none, .faddr 1 (.t 5)⟩, ⟨some 8, none, .load false 1 (.a 7 5)⟩, ⟨some 9, none, .call n_spec_csPath [.a 8 5]⟩, ⟨some 10, none, .un .not (.t 9)⟩])
 (.cond (.t 10) (.seq (.reg [⟨some 6, none, .asg (.c (.int .i64 (-1)))⟩])
 .ret) .skip))
 (.seq (.reg [⟨some 11, none, .load true 12 (.t 3)⟩, ⟨some 12, none, .faddr 2 (.t 4)⟩, ⟨some 13, none, .load false 1 (.a 12 4)⟩, ⟨some 14, none, .faddr 0 (.t 5)⟩, ⟨some 15, none, .load false 1 (.a 14 5)⟩, ⟨some 16, none, .iaddr 4 (.a 13 4) (.a 15 5)⟩, ⟨some 17, none, .faddr 1 (.a 16 4)⟩, ⟨some 18, none, .load false 1 (.a 17 4)⟩, ⟨some 19, none, .faddr 1 (.t 4)⟩, ⟨some 20, none, .load false 1 (.a 19 4)⟩, ⟨some 21, none, .faddr 2 (.t 4)⟩, ⟨some 22, none, .load false 1 (.a 21 4)⟩, ⟨some 23, none, .faddr 0 (.t 5)⟩, ⟨some 24, none, .load false 1 (.a 23 5)⟩, ⟨some 25, none, .iaddr 4 (.a 22 4) (.a 24 5)⟩, ⟨some 26, none, .faddr 2 (.a 25 4)⟩, ⟨some 27, none, .load false 1 (.a 26 4)⟩, ⟨some 28, none, .faddr 1 (.t 5)⟩, ⟨some 29, none, .load false 1 (.a 28 5)⟩, ⟨some 30, none, .call n_spec_csCost [.a 11 3, .a 18 4, .a 20 4, .a 27 4, .a 29 5]⟩, ⟨some 6, none, .asg (.p 30)⟩])
 .ret)))⟩
def b_spec_oEnd_0 : AC := (.seq (.reg [⟨some 21, none, .bin .lss (.t 20) (.t 19)⟩])
 (.seq (.cond (.t 21) .skip (.exit 0))
 (.seq (.block 1 (.seq (.reg [⟨some 22, none, .iaddr 1 (.a 18 5) (.t 20)⟩, ⟨some 23, none, .load false 1 (.a 22 5)⟩, ⟨some 9, none, .asg (.p 23)⟩])
 (.reg [⟨some 24, none, .faddr 7 (.t 3)⟩, ⟨some 25, none, .load true 5 (.a 24 3)⟩, ⟨some 26, none, .mv (.p 7)⟩, ⟨some 27, none, .mv (.p 9)⟩, ⟨some 28, none, .call n_spec_mNext [.a 25 3, .t 26, .t 27]⟩, ⟨some 7, none, .asg (.p 28)⟩])))
 (.reg [⟨some 29, none, .bin .add (.t 20) (.c (.int .i64 1))⟩, ⟨some 20, none, .mv (.p 29)⟩]))))
/-- spec.oEnd -/
def a_spec_oEnd : AFn := ⟨3, 31, [.tmp 6], (.seq (.reg [⟨some 3, none, .box (.t 0)⟩, ⟨some 4, none, .box (.t 1)⟩, ⟨some 5, none, .box (.t 2)⟩, ⟨some 6, none, .asg (.c (.int .i64 0))⟩])
 (.seq (.reg [⟨some 10, none, .faddr 2 (.t 4)⟩, ⟨some 11, none, .load false 1 (.a 10 4)⟩, ⟨some 12, none, .faddr 0 (.t 5)⟩, ⟨some 13, none, .load false 1 (.a 12 5)⟩, ⟨some 14, none, .iaddr 4 (.a 11 4) (.a 13 5)⟩, ⟨some 15, none, .faddr 2 (.a 14 4)⟩, ⟨some 16, none, .load false 1 (.a 15 4)⟩, ⟨some 7, none, .asg (.p 16)⟩])
 (.seq (.seq (.reg [⟨some 17, none, .faddr 1 (.t 5)⟩, ⟨some 18, none, .load false 1 (.a 17 5)⟩, ⟨some 19, none, .len (.a 18 5)⟩, ⟨some 20, none, .mv (.c (.int .i64 0))⟩])
 (.block 0 (.loop [3, 5, 7, 18, 19, 20] [6, 7] b_spec_oEnd_0)))
 (.seq (.reg [⟨some 30, none, .mv (.p 7)⟩, ⟨some 6, none, .asg (.p 30)⟩])
 .ret))))⟩
/-- impl.ownsUnit -/
def a_impl_ownsUnit : AFn := ⟨3, 31, [.tmp 6], (.seq (.reg [⟨some 3, none, .box (.t 0)⟩, ⟨some 6, none, .asg (.c (.bool false))⟩])
 (.seq (.reg [⟨some 7, none, .mv (.p 2)⟩, ⟨some 8, none, .faddr 2 (.t 3)⟩, ⟨some 9, none, .load false 1 (.a 8 3)⟩, ⟨some 10, none, .len (.a 9 3)⟩, ⟨some 11, none, .call n_impl_isIndex [.t 7, .t 10]⟩, ⟨some 12, none, .mv (.p 11)⟩, ⟨some 13, some (12, true), .faddr 2 (.t 3)⟩, ⟨some 14, some (12, true), .load false 1 (.a 13 3)⟩, ⟨some 15, some (12, true), .mv (.p 2)⟩, ⟨some 16, some (12, true), .iaddr 4 (.a 14 3) (.t 15)⟩, ⟨some 17, some (12, true), .faddr 0 (.a 16 3)⟩, ⟨some 18, some (12, true), .load false 1 (.a 17 3)⟩, ⟨some 19, some (12, true), .mv (.p 1)⟩, ⟨some 20, some (12, true), .bin .eql (.a 18 3) (.t 19)⟩, ⟨some 21, none, .pick (.t 12) (.t 20) (.c (.bool false))⟩, ⟨some 22, none, .mv (.p 21)⟩, ⟨some 23, some (22, true), .faddr 2 (.t 3)⟩, ⟨some 24, some (22, true), .load false 1 (.a 23 3)⟩, ⟨some 25, some (22, true), .mv (.p 2)⟩, ⟨some 26, some (22, true), .iaddr 4 (.a 24 3) (.t 25)⟩, ⟨some 27, some (22, true), .faddr 2 (.a 26 3)⟩, ⟨some 28, some (22, true), .load false 1 (.a 27 3)⟩, ⟨some 29, some (22, true), .bin .geq (.a 28 3) (.c (.int .i64 0))⟩, ⟨some 30, none, .pick (.t 22) (.t 29) (.c (.bool false))⟩, ⟨some 6, none, .asg (.p 30)⟩])
 .ret))⟩
/-- impl.PathCost -/
def a_impl_PathCost : AFn := ⟨5, 37, [.tmp 10, .tmp 11], (.seq (.reg [⟨some 5, none, .box (.t 0)⟩, ⟨some 10, none, .asg (.c (.int .i64 0))⟩, ⟨some 11, none, .asg (.c (.bool false))⟩])
 (.seq (.seq (.reg [⟨some 13, none, .load true 12 (.t 5)⟩, ⟨some 14, none, .mv (.p 1)⟩, ⟨some 15, none, .mv (.p 2)⟩, ⟨some 16, none, .mv (.p 3)⟩, ⟨some 17, none, .call n_impl_isMover [.a 13 5, .t 14, .t 15, .t 16]⟩, ⟨some 18, none, .un .not (.t 17)⟩, ⟨some 19, none, .mv (.p 18)⟩, ⟨some 20, some (19, false), .rf (.t 4)⟩, ⟨some 21, some (19, false), .call n_impl_isPath [.a 20 4]⟩, ⟨some 22, some (19, false), .un .not (.t 21)⟩, ⟨some 23, none, .pick (.t 19) (.c (.bool true)) (.t 22)⟩])
 (.cond (.t 23) (.seq (.reg [⟨some 10, none, .asg (.c (.int .i64 0))⟩, ⟨some 11, none, .asg (.c (.bool false))⟩])
 .ret) .skip))
 (.seq (.reg [⟨some 24, none, .load true 12 (.t 5)⟩, ⟨some 25, none, .mv (.p 1)⟩, ⟨some 26, none, .mv (.p 2)⟩, ⟨some 27, none, .mv (.p 3)⟩, ⟨some 28, none, .rf (.t 4)⟩, ⟨some 29, none, .call n_impl_costsAlong [.a 24 5, .t 25, .t 26, .t 27, .a 28 4]⟩, ⟨some 12, none, .asg (.t 29)⟩])
 (.seq (.seq (.reg [⟨some 30, none, .rf (.t 12)⟩, ⟨some 31, none, .len (.a 30 12)⟩, ⟨some 32, none, .rf (.t 4)⟩, ⟨some 33, none, .len (.a 32 4)⟩, ⟨some 34, none, .bin .lss (.t 31) (.t 33)⟩])
 (.cond (.t 34) (.seq (.reg [⟨some 10, none, .asg (.c (.int .i64 0))⟩, ⟨some 11, none, .asg (.c (.bool false))⟩])
 .ret) .skip))
 (.seq (.reg [⟨some 35, none, .rf (.t 12)⟩, ⟨some 36, none, .call n_impl_sumOf [.a 35 12]⟩, ⟨some 10, none, .asg (.p 36)⟩, ⟨some 11, none, .asg (.c (.bool true))⟩])
 .ret)))))⟩
/-- slices.Contains[[]int,int] -/
def a_slices_Contains_int_int : AFn := ⟨2, 9, [.tmp 4], (.seq (.reg [⟨some 4, none, .asg (.c (.bool false))⟩])
 (.seq (.reg [⟨some 5, none, .rf (.t 0)⟩, ⟨some 6, none, .mv (.p 1)⟩, ⟨some 7, none, .call n_slices_Index_int_int [.a 5 0, .t 6]⟩, ⟨some 8, none, .bin .geq (.t 7) (.c (.int .i64 0))⟩, ⟨some 4, none, .asg (.p 8)⟩])
 .ret))⟩
def b_impl_neighboursOn_0 : AC := (.seq (.reg [⟨some 10, none, .bin .lss (.t 9) (.c (.int .i64 6))⟩])
 (.seq (.cond (.t 10) .skip (.exit 0))
 (.seq (.block 1 (.seq (.reg [⟨some 11, none, .mv (.p 9)⟩, ⟨some 6, none, .asg (.p 11)⟩])
 (.seq (.reg [⟨some 12, none, .load true 5 (.t 2)⟩, ⟨some 13, none, .mv (.p 1)⟩, ⟨some 14, none, .mv (.p 6)⟩, ⟨some 15, none, .call n_impl_nextTo [.a 12 2, .t 13, .t 14]⟩, ⟨some 7, none, .asg (.p 15)⟩])
 (.seq (.reg [⟨some 16, none, .mv (.p 7)⟩, ⟨some 17, none, .bin .geq (.t 16) (.c (.int .i64 0))⟩])
 (.cond (.t 17) (.reg [⟨some 18, none, .rf (.t 5)⟩, ⟨some 19, none, .mv (.p 7)⟩, ⟨some 20, none, .bslice 1 1 [.int .i64 0] [(0, .p 19)]⟩, ⟨some 21, none, .append 1 (.a 18 5) (.t 20)⟩, ⟨some 5, none, .asg (.t 21)⟩]) .skip)))))
 (.reg [⟨some 22, none, .bin .add (.t 9) (.c (.int .i64 1))⟩, ⟨some 9, none, .mv (.p 22)⟩]))))
/-- impl.neighboursOn -/
def a_impl_neighboursOn : AFn := ⟨2, 24, [.tmp 4], (.seq (.reg [⟨some 2, none, .box (.t 0)⟩, ⟨some 4, none, .asg (.c (.list true 1 []))⟩])
 (.seq (.reg [⟨some 8, none, .bslice 1 0 [.int .i64 0] []⟩, ⟨some 5, none, .asg (.t 8)⟩])
 (.seq (.seq (.reg [⟨some 9, none, .mv (.c (.int .i64 0))⟩])
 (.block 0 (.loop [1, 2, 5, 9] [4, 5] b_impl_neighboursOn_0)))
 (.seq (.reg [⟨some 23, none, .rf (.t 5)⟩, ⟨some 4, none, .asg (.a 23 5)⟩])
 .ret))))⟩
/-- impl.endOf -/
def a_impl_endOf : AFn := ⟨3, 36, [.tmp 6], (.seq (.reg [⟨some 3, none, .box (.t 0)⟩, ⟨some 4, none, .box (.t 1)⟩, ⟨some 5, none, .box (.t 2)⟩, ⟨some 6, none, .asg (.c (.int .i64 0))⟩])
 (.seq (.reg [⟨some 10, none, .faddr 2 (.t 4)⟩, ⟨some 11, none, .load false 1 (.a 10 4)⟩, ⟨some 12, none, .faddr 0 (.t 5)⟩, ⟨some 13, none, .load false 1 (.a 12 5)⟩, ⟨some 14, none, .iaddr 4 (.a 11 4) (.a 13 5)⟩, ⟨some 15, none, .faddr 2 (.a 14 4)⟩, ⟨some 16, none, .load false 1 (.a 15 4)⟩, ⟨some 7, none, .asg (.p 16)⟩])
 (.seq (.seq (.reg [⟨some 18, none, .faddr 7 (.t 3)⟩, ⟨some 19, none, .load true 5 (.a 18 3)⟩, ⟨some 20, none, .mv (.p 7)⟩, ⟨some 21, none, .faddr 1 (.t 5)⟩, ⟨some 22, none, .load false 1 (.a 21 5)⟩, ⟨some 23, none, .call n_impl_pathHexes [.a 19 3, .t 20, .a 22 5]⟩, ⟨some 17, none, .mv (.t 23)⟩, ⟨some 24, none, .extract (.t 17) 0⟩, ⟨some 25, none, .extract (.p 17) 1⟩, ⟨some 8, none, .asg (.t 24)⟩, ⟨some 9, none, .asg (.p 25)⟩])
 (.seq (.reg [⟨some 26, none, .rf (.t 8)⟩, ⟨some 27, none, .len (.a 26 8)⟩, ⟨some 28, none, .bin .gtr (.t 27) (.c (.int .i64 0))⟩])
 (.cond (.t 28) (.seq (.reg [⟨some 29, none, .rf (.t 8)⟩, ⟨some 30, none, .rf (.t 8)⟩, ⟨some 31, none, .len (.a 30 8)⟩, ⟨some 32, none, .bin .sub (.t 31) (.c (.int .i64 1))⟩, ⟨some 33, none, .iaddr 1 (.a 29 8) (.t 32)⟩, ⟨some 34, none, .load false 1 (.a 33 8)⟩, ⟨some 6, none, .asg (.p 34)⟩])
 .ret) .skip)))
 (.seq (.reg [⟨some 35, none, .mv (.p 7)⟩, ⟨some 6, none, .asg (.p 35)⟩])
 .ret))))⟩
def b_spec_rName_0 : AC := (.seq (.seq (.reg [⟨some 4, none, .mv (.p 3)⟩, ⟨some 5, none, .mv (.p 0)⟩, ⟨some 6, none, .slen (.t 5)⟩, ⟨some 7, none, .bin .lss (.t 4) (.t 6)⟩])
 (.cond (.t 7) .skip (.exit 0)))
 (.seq (.block 1 (.seq (.reg [⟨some 10, none, .mv (.p 0)⟩, ⟨some 11, none, .mv (.p 3)⟩, ⟨some 12, none, .sidx (.t 10) (.t 11)⟩, ⟨some 13, none, .bin .lss (.t 12) (.c (.int .u8 97))⟩, ⟨some 14, none, .mv (.p 13)⟩, ⟨some 15, some (14, false), .mv (.p 0)⟩, ⟨some 16, some (14, false), .mv (.p 3)⟩, ⟨some 17, some (14, false), .sidx (.t 15) (.t 16)⟩, ⟨some 18, some (14, false), .bin .gtr (.t 17) (.c (.int .u8 122))⟩, ⟨some 19, none, .pick (.t 14) (.c (.bool true)) (.t 18)⟩])
 (.cond (.t 19) (.seq (.reg [⟨some 2, none, .asg (.c (.bool false))⟩])
 .ret) .skip)))
 (.reg [⟨some 8, none, .mv (.p 3)⟩, ⟨some 9, none, .bin .add (.t 8) (.c (.int .i64 1))⟩, ⟨some 3, none, .asg (.p 9)⟩])))
/-- spec.rName -/
def a_spec_rName : AFn := ⟨1, 23, [.tmp 2], (.seq (.reg [⟨some 2, none, .asg (.c (.bool false))⟩])
 (.seq (.seq (.reg [⟨some 3, none, .asg (.c (.int .i64 0))⟩])
 (.block 0 (.loop [0, 3] [0, 2] b_spec_rName_0)))
 (.seq (.reg [⟨some 20, none, .mv (.p 0)⟩, ⟨some 21, none, .slen (.t 20)⟩, ⟨some 22, none, .call n_spec_l1In [.t 21, .c (.int .i64 1), .c (.int .i64 8)]⟩, ⟨some 2, none, .asg (.p 22)⟩])
 .ret)))⟩
def b_spec_rTerrain_0 : AC := (.seq (.reg [⟨some 10, none, .bin .lss (.t 9) (.t 8)⟩])
 (.seq (.cond (.t 10) .skip (.exit 0))
 (.seq (.block 1 (.seq (.reg [⟨some 11, none, .mv (.p 9)⟩, ⟨some 12, none, .iaddr 5 (.a 7 0) (.t 9)⟩, ⟨some 13, none, .load true 5 (.a 12 0)⟩, ⟨some 6, none, .alloc [.str ⟨#[]⟩, .list true 1 [], .int .i64 0, .int .i64 0, .bool false]⟩, ⟨some 5, none, .asg (.p 11)⟩, ⟨none, none, .store 5 (.t 6) (.a 13 0)⟩])
 (.seq (.reg [⟨some 14, none, .faddr 0 (.t 6)⟩, ⟨some 15, none, .load false 1 (.a 14 6)⟩, ⟨some 16, none, .mv (.p 1)⟩, ⟨some 17, none, .bin .eql (.a 15 6) (.t 16)⟩])
 (.cond (.t 17) (.seq (.reg [⟨some 18, none, .mv (.p 5)⟩, ⟨some 4, none, .asg (.p 18)⟩])
 .ret) .skip))))
 (.reg [⟨some 19, none, .bin .add (.t 9) (.c (.int .i64 1))⟩, ⟨some 9, none, .mv (.p 19)⟩]))))
/-- spec.rTerrain -/
def a_spec_rTerrain : AFn := ⟨2, 20, [.tmp 4], (.seq (.reg [⟨some 4, none, .asg (.c (.int .i64 0))⟩])
 (.seq (.seq (.reg [⟨some 7, none, .rf (.t 0)⟩, ⟨some 8, none, .len (.a 7 0)⟩, ⟨some 9, none, .mv (.c (.int .i64 0))⟩])
 (.block 0 (.loop [0, 1, 7, 8, 9] [4] b_spec_rTerrain_0)))
 (.seq (.reg [⟨some 4, none, .asg (.c (.int .i64 (-1)))⟩])
 .ret)))⟩
def b_spec_rKind_0 : AC := (.seq (.reg [⟨some 10, none, .bin .lss (.t 9) (.t 8)⟩])
 (.seq (.cond (.t 10) .skip (.exit 0))
 (.seq (.block 1 (.seq (.reg [⟨some 11, none, .mv (.p 9)⟩, ⟨some 12, none, .iaddr 6 (.a 7 0) (.t 9)⟩, ⟨some 13, none, .load true 6 (.a 12 0)⟩, ⟨some 6, none, .alloc [.str ⟨#[]⟩, .int .i64 0, .int .i64 0, .int .i64 0, .bool false, .int .i64 0]⟩, ⟨some 5, none, .asg (.p 11)⟩, ⟨none, none, .store 6 (.t 6) (.a 13 0)⟩])
 (.seq (.reg [⟨some 14, none, .faddr 0 (.t 6)⟩, ⟨some 15, none, .load false 1 (.a 14 6)⟩, ⟨some 16, none, .mv (.p 1)⟩, ⟨some 17, none, .bin .eql (.a 15 6) (.t 16)⟩])
 (.cond (.t 17) (.seq (.reg [⟨some 18, none, .mv (.p 5)⟩, ⟨some 4, none, .asg (.p 18)⟩])
 .ret) .skip))))
 (.reg [⟨some 19, none, .bin .add (.t 9) (.c (.int .i64 1))⟩, ⟨some 9, none, .mv (.p 19)⟩]))))
/-- spec.rKind -/
def a_spec_rKind : AFn := ⟨2, 20, [.tmp 4], (.seq (.reg [⟨some 4, none, .asg (.c (.int .i64 0))⟩])
 (.seq (.seq (.reg [⟨some 7, none, .rf (.t 0)⟩, ⟨some 8, none, .len (.a 7 0)⟩, ⟨some 9, none, .mv (.c (.int .i64 0))⟩])
 (.block 0 (.loop [0, 1, 7, 8, 9] [4] b_spec_rKind_0)))
 (.seq (.reg [⟨some 4, none, .asg (.c (.int .i64 (-1)))⟩])
 .ret)))⟩
def b_spec_mEdges_0 : AC := (.seq (.reg [⟨some 10, none, .bin .lss (.t 9) (.t 8)⟩])
 (.seq (.cond (.t 10) .skip (.exit 0))
 (.seq (.block 1 (.seq (.reg [⟨some 11, none, .iaddr 1 (.a 7 1) (.t 9)⟩, ⟨some 12, none, .load false 1 (.a 11 1)⟩, ⟨some 6, none, .asg (.p 12)⟩])
 (.seq (.reg [⟨some 13, none, .mv (.p 6)⟩, ⟨some 14, none, .load true 5 (.t 2)⟩, ⟨some 15, none, .call n_spec_mSize [.a 14 2]⟩, ⟨some 16, none, .bin .mul (.c (.int .i64 3)) (.t 15)⟩, ⟨some 17, none, .bin .sub (.t 16) (.c (.int .i64 1))⟩, ⟨some 18, none, .call n_spec_l1In [.t 13, .c (.int .i64 0), .t 17]⟩, ⟨some 19, none, .un .not (.t 18)⟩, ⟨some 20, none, .mv (.p 19)⟩, ⟨some 21, some (20, false), .load true 5 (.t 2)⟩, ⟨some 22, some (20, false), .mv (.p 6)⟩, ⟨some 23, some (20, false), .bin .quo (.t 22) (.c (.int .i64 3))⟩, ⟨some 24, some (20, false), .mv (.p 6)⟩, ⟨some 25, some (20, false), .bin .rem (.t 24) (.c (.int .i64 3))⟩, ⟨some 26, some (20, false), .call n_spec_mNext [.a 21 2, .t 23, .t 25]⟩, ⟨some 27, some (20, false), .bin .lss (.t 26) (.c (.int .i64 0))⟩, ⟨some 28, none, .pick (.t 20) (.c (.bool true)) (.t 27)⟩])
 (.cond (.t 28) (.seq (.reg [⟨some 4, none, .asg (.c (.bool false))⟩])
 .ret) .skip))))
 (.reg [⟨some 29, none, .bin .add (.t 9) (.c (.int .i64 1))⟩, ⟨some 9, none, .mv (.p 29)⟩]))))
/-- spec.mEdges -/
def a_spec_mEdges : AFn := ⟨2, 36, [.tmp 4], (.seq (.reg [⟨some 2, none, .box (.t 0)⟩, ⟨some 4, none, .asg (.c (.bool false))⟩])
 (.seq (.seq (.reg [⟨some 7, none, .rf (.t 1)⟩, ⟨some 8, none, .len (.a 7 1)⟩, ⟨some 9, none, .mv (.c (.int .i64 0))⟩])
 (.block 0 (.loop [1, 2, 7, 8, 9] [1, 2, 4] b_spec_mEdges_0)))
 (.seq (.reg [⟨some 30, none, .rf (.t 1)⟩, ⟨some 31, none, .load true 5 (.t 2)⟩, ⟨some 32, none, .call n_spec_mSize [.a 31 2]⟩, ⟨some 33, none, .bin .mul (.c (.int .i64 3)) (.t 32)⟩, ⟨some 34, none, .bin .sub (.t 33) (.c (.int .i64 1))⟩, ⟨some 35, none, .call n_spec_l1Rising [.a 30 1, .c (.int .i64 0), .t 34]⟩, ⟨some 4, none, .asg (.p 35)⟩])
 .ret)))⟩
/-- spec.bTerrain -/
def a_spec_bTerrain : AFn := ⟨2, 16, [.cell 4 5 true], (.seq (.reg [⟨some 2, none, .box (.t 0)⟩, ⟨some 4, none, .alloc [.str ⟨#[]⟩, .list true 1 [], .int .i64 0, .int .i64 0, .bool false]⟩])
 (.seq (.reg [⟨some 5, none, .faddr 0 (.t 2)⟩, ⟨some 6, none, .faddr 0 (.a 5 2)⟩, ⟨some 7, none, .load false 1 (.a 6 2)⟩, ⟨some 8, none, .faddr 7 (.t 2)⟩, ⟨some 9, none, .faddr 2 (.a 8 2)⟩, ⟨some 10, none, .load false 1 (.a 9 2)⟩, ⟨some 11, none, .mv (.p 1)⟩, ⟨some 12, none, .iaddr 1 (.a 10 2) (.t 11)⟩, ⟨some 13, none, .load false 1 (.a 12 2)⟩, ⟨some 14, none, .iaddr 5 (.a 7 2) (.a 13 2)⟩, ⟨some 15, none, .load true 5 (.a 14 2)⟩, ⟨none, none, .store 5 (.t 4) (.a 15 2)⟩])
 .ret))⟩
/-- impl.goodTerrain -/
def a_impl_goodTerrain : AFn := ⟨2, 32, [.tmp 4], (.seq (.reg [⟨some 2, none, .box (.t 0)⟩, ⟨some 4, none, .asg (.c (.bool false))⟩])
 (.seq (.seq (.reg [⟨some 5, none, .faddr 0 (.t 2)⟩, ⟨some 6, none, .load false 1 (.a 5 2)⟩, ⟨some 7, none, .call n_impl_isName [.a 6 2]⟩, ⟨some 8, none, .un .not (.t 7)⟩, ⟨some 9, none, .mv (.p 8)⟩, ⟨some 10, some (9, false), .faddr 1 (.t 2)⟩, ⟨some 11, some (9, false), .load false 1 (.a 10 2)⟩, ⟨some 12, some (9, false), .len (.a 11 2)⟩, ⟨some 13, some (9, false), .mv (.p 1)⟩, ⟨some 14, some (9, false), .bin .neq (.t 12) (.t 13)⟩, ⟨some 15, none, .pick (.t 9) (.c (.bool true)) (.t 14)⟩, ⟨some 16, none, .mv (.p 15)⟩, ⟨some 17, some (16, false), .faddr 2 (.t 2)⟩, ⟨some 18, some (16, false), .load false 1 (.a 17 2)⟩, ⟨some 19, some (16, false), .call n_impl_inRange [.a 18 2, .c (.int .i64 (-3)), .c (.int .i64 3)]⟩, ⟨some 20, some (16, false), .un .not (.t 19)⟩, ⟨some 21, none, .pick (.t 16) (.c (.bool true)) (.t 20)⟩, ⟨some 22, none, .mv (.p 21)⟩, ⟨some 23, some (22, false), .faddr 3 (.t 2)⟩, ⟨some 24, some (22, false), .load false 1 (.a 23 2)⟩, ⟨some 25, some (22, false), .call n_impl_inRange [.a 24 2, .c (.int .i64 0), .c (.int .i64 3)]⟩, ⟨some 26, some (22, false), .un .not (.t 25)⟩, ⟨some 27, none, .pick (.t 22) (.c (.bool true)) (.t 26)⟩])
 (.cond (.t 27) (.seq (.reg [⟨some 4, none, .asg (.c (.bool false))⟩])
 .ret) .skip))
 (.seq (.reg [⟨some 28, none, .faddr 1 (.t 2)⟩, ⟨some 29, none, .load false 1 (.a 28 2)⟩, ⟨some 30, none, .call n_slices_ContainsFunc_int_int [.a 29 2, .f n_impl_goodTerrain_1]⟩, ⟨some 31, none, .un .not (.t 30)⟩, ⟨some 4, none, .asg (.p 31)⟩])
 .ret)))⟩
/-- impl.terrainIndex -/
def a_impl_terrainIndex : AFn := ⟨2, 8, [.tmp 4], (.seq (.reg [⟨some 3, none, .box (.p 1)⟩, ⟨some 4, none, .asg (.c (.int .i64 0))⟩])
 (.seq (.reg [⟨some 5, none, .rf (.t 0)⟩, ⟨some 6, none, .mkf n_impl_terrainIndex_1 [.t 3]⟩, ⟨some 7, none, .call n_slices_IndexFunc_impl_Terrain_impl_Terrain [.a 5 0, .t 6]⟩, ⟨some 4, none, .asg (.p 7)⟩])
 .ret))⟩
/-- impl.goodKind -/
def a_impl_goodKind : AFn := ⟨1, 26, [.tmp 2], (.seq (.reg [⟨some 1, none, .box (.t 0)⟩, ⟨some 2, none, .asg (.c (.bool false))⟩])
 (.seq (.reg [⟨some 3, none, .faddr 0 (.t 1)⟩, ⟨some 4, none, .load false 1 (.a 3 1)⟩, ⟨some 5, none, .call n_impl_isName [.a 4 1]⟩, ⟨some 6, none, .mv (.p 5)⟩, ⟨some 7, some (6, true), .faddr 1 (.t 1)⟩, ⟨some 8, some (6, true), .load false 1 (.a 7 1)⟩, ⟨some 9, some (6, true), .call n_impl_inRange [.a 8 1, .c (.int .i64 1), .c (.int .i64 9)]⟩, ⟨some 10, none, .pick (.t 6) (.t 9) (.c (.bool false))⟩, ⟨some 11, none, .mv (.p 10)⟩, ⟨some 12, some (11, true), .faddr 2 (.t 1)⟩, ⟨some 13, some (11, true), .load false 1 (.a 12 1)⟩, ⟨some 14, some (11, true), .call n_impl_inRange [.a 13 1, .c (.int .i64 0), .c (.int .i64 9)]⟩, ⟨some 15, none, .pick (.t 11) (.t 14) (.c (.bool false))⟩, ⟨some 16, none, .mv (.p 15)⟩, ⟨some 17, some (16, true), .faddr 3 (.t 1)⟩, ⟨some 18, some (16, true), .load false 1 (.a 17 1)⟩, ⟨some 19, some (16, true), .call n_impl_inRange [.a 18 1, .c (.int .i64 1), .c (.int .i64 4)]⟩, ⟨some 20, none, .pick (.t 16) (.t 19) (.c (.bool false))⟩, ⟨some 21, none, .mv (.p 20)⟩, ⟨some 22, some (21, true), .faddr 5 (.t 1)⟩, ⟨some 23, some (21, true), .load false 1 (.a 22 1)⟩, ⟨some 24, some (21, true), .call n_impl_inRange [.a 23 1, .c (.int .i64 0), .c (.int .i64 4)]⟩, ⟨some 25, none, .pick (.t 21) (.t 24) (.c (.bool false))⟩, ⟨some 2, none, .asg (.p 25)⟩])
 .ret))⟩
/-- impl.kindIndex -/
def a_impl_kindIndex : AFn := ⟨2, 8, [.tmp 4], (.seq (.reg [⟨some 3, none, .box (.p 1)⟩, ⟨some 4, none, .asg (.c (.int .i64 0))⟩])
 (.seq (.reg [⟨some 5, none, .rf (.t 0)⟩, ⟨some 6, none, .mkf n_impl_kindIndex_1 [.t 3]⟩, ⟨some 7, none, .call n_slices_IndexFunc_impl_Kind_impl_Kind [.a 5 0, .t 6]⟩, ⟨some 4, none, .asg (.p 7)⟩])
 .ret))⟩
/-- impl.isIndex -/
def a_impl_isIndex : AFn := ⟨2, 9, [.tmp 4], (.seq (.reg [⟨some 4, none, .asg (.c (.bool false))⟩])
 (.seq (.reg [⟨some 5, none, .mv (.p 0)⟩, ⟨some 6, none, .mv (.p 1)⟩, ⟨some 7, none, .bin .sub (.t 6) (.c (.int .i64 1))⟩, ⟨some 8, none, .call n_impl_inRange [.t 5, .c (.int .i64 0), .t 7]⟩, ⟨some 4, none, .asg (.p 8)⟩])
 .ret))⟩
def b_impl_increasing_0 : AC := (.seq (.seq (.reg [⟨some 4, none, .mv (.p 3)⟩, ⟨some 5, none, .rf (.t 0)⟩, ⟨some 6, none, .len (.a 5 0)⟩, ⟨some 7, none, .bin .lss (.t 4) (.t 6)⟩])
 (.cond (.t 7) .skip (.exit 0)))
 (.seq (.block 1 (.seq (.reg [⟨some 10, none, .rf (.t 0)⟩, ⟨some 11, none, .mv (.p 3)⟩, ⟨some 12, none, .bin .sub (.t 11) (.c (.int .i64 1))⟩, ⟨some 13, none, .iaddr 1 (.a 10 0) (.t 12)⟩, ⟨some 14, none, .load false 1 (.a 13 0)⟩, ⟨some 15, none, .rf (.t 0)⟩, ⟨some 16, none, .mv (.p 3)⟩, ⟨some 17, none, .iaddr 1 (.a 15 0) (.t 16)⟩, ⟨some 18, none, .load false 1 (.a 17 0)⟩, ⟨some 19, none, .bin .geq (.a 14 0) (.a 18 0)⟩])
 (.cond (.t 19) (.seq (.reg [⟨some 2, none, .asg (.c (.bool false))⟩])
 .ret) .skip)))
 (.reg [⟨some 8, none, .mv (.p 3)⟩, ⟨some 9, none, .bin .add (.t 8) (.c (.int .i64 1))⟩, ⟨some 3, none, .asg (.p 9)⟩])))
/-- impl.increasing -/
def a_impl_increasing : AFn := ⟨1, 20, [.tmp 2], (.seq (.reg [⟨some 2, none, .asg (.c (.bool false))⟩])
 (.seq (.seq (.reg [⟨some 3, none, .asg (.c (.int .i64 1))⟩])
 (.block 0 (.loop [0, 3] [2] b_impl_increasing_0)))
 (.seq (.reg [⟨some 2, none, .asg (.c (.bool true))⟩])
 .ret)))⟩
/-- impl.isEdge -/
def a_impl_isEdge : AFn := ⟨2, 23, [.tmp 4], (.seq (.reg [⟨some 2, none, .box (.t 0)⟩, ⟨some 4, none, .asg (.c (.bool false))⟩])
 (.seq (.reg [⟨some 5, none, .mv (.p 1)⟩, ⟨some 6, none, .faddr 0 (.t 2)⟩, ⟨some 7, none, .load false 1 (.a 6 2)⟩, ⟨some 8, none, .bin .mul (.c (.int .i64 3)) (.a 7 2)⟩, ⟨some 9, none, .faddr 1 (.t 2)⟩, ⟨some 10, none, .load false 1 (.a 9 2)⟩, ⟨some 11, none, .bin .mul (.t 8) (.a 10 2)⟩, ⟨some 12, none, .bin .sub (.t 11) (.c (.int .i64 1))⟩, ⟨some 13, none, .call n_impl_inRange [.t 5, .c (.int .i64 0), .t 12]⟩, ⟨some 14, none, .mv (.p 13)⟩, ⟨some 15, some (14, true), .load true 5 (.t 2)⟩, ⟨some 16, some (14, true), .mv (.p 1)⟩, ⟨some 17, some (14, true), .bin .quo (.t 16) (.c (.int .i64 3))⟩, ⟨some 18, some (14, true), .mv (.p 1)⟩, ⟨some 19, some (14, true), .bin .rem (.t 18) (.c (.int .i64 3))⟩, ⟨some 20, some (14, true), .call n_impl_nextTo [.a 15 2, .t 17, .t 19]⟩, ⟨some 21, some (14, true), .bin .geq (.t 20) (.c (.int .i64 0))⟩, ⟨some 22, none, .pick (.t 14) (.t 21) (.c (.bool false))⟩, ⟨some 4, none, .asg (.p 22)⟩])
 .ret))⟩
def b_slices_IndexFunc_int_int_0 : AC := (.seq (.reg [⟨some 9, none, .bin .lss (.t 8) (.t 7)⟩])
 (.seq (.cond (.t 9) .skip (.exit 0))
 (.seq (.block 1 (.seq (.reg [⟨some 10, none, .mv (.p 8)⟩, ⟨some 5, none, .asg (.p 10)⟩])
 (.seq (.reg [⟨some 11, none, .rf (.t 1)⟩, ⟨some 12, none, .rf (.t 0)⟩, ⟨some 13, none, .mv (.p 5)⟩, ⟨some 14, none, .iaddr 1 (.a 12 0) (.t 13)⟩, ⟨some 15, none, .load false 1 (.a 14 0)⟩, ⟨some 16, none, .callv (.a 11 1) [.a 15 0]⟩])
 (.cond (.t 16) (.seq (.reg [⟨some 17, none, .mv (.p 5)⟩, ⟨some 4, none, .asg (.p 17)⟩])
 .ret) .skip))))
 (.reg [⟨some 18, none, .bin .add (.t 8) (.c (.int .i64 1))⟩, ⟨some 8, none, .mv (.p 18)⟩]))))
/-- slices.IndexFunc[[]int,int] -/
def a_slices_IndexFunc_int_int : AFn := ⟨2, 19, [.tmp 4], (.seq (.reg [⟨some 4, none, .asg (.c (.int .i64 0))⟩])
 (.seq (.seq (.reg [⟨some 6, none, .rf (.t 0)⟩, ⟨some 7, none, .len (.a 6 0)⟩, ⟨some 8, none, .mv (.c (.int .i64 0))⟩])
 (.block 0 (.loop [0, 1, 7, 8] [4] b_slices_IndexFunc_int_int_0)))
 (.seq (.reg [⟨some 4, none, .asg (.c (.int .i64 (-1)))⟩])
 .ret)))⟩
/-- impl.enterCost -/
def a_impl_enterCost : AFn := ⟨3, 14, [.tmp 6], (.seq (.reg [⟨some 3, none, .box (.t 0)⟩, ⟨some 6, none, .asg (.c (.int .i64 0))⟩])
 (.seq (.reg [⟨some 7, none, .load true 12 (.t 3)⟩, ⟨some 8, none, .mv (.p 2)⟩, ⟨some 9, none, .call n_impl_terrainAt [.a 7 3, .t 8]⟩, ⟨some 10, none, .field false 1 1 (.t 9)⟩, ⟨some 11, none, .mv (.p 1)⟩, ⟨some 12, none, .iaddr 1 (.t 10) (.t 11)⟩, ⟨some 13, none, .load false 1 (.a 12 10)⟩, ⟨some 6, none, .asg (.p 13)⟩])
 .ret))⟩
/-- spec.mIndex -/
def a_spec_mIndex : AFn := ⟨2, 29, [.tmp 4], (.seq (.reg [⟨some 2, none, .box (.t 0)⟩, ⟨some 3, none, .box (.t 1)⟩, ⟨some 4, none, .asg (.c (.int .i64 0))⟩])
 (.seq (.seq (.reg [⟨some 5, none, .faddr 0 (.t 3)⟩, ⟨some 6, none, .load false 1 (.a 5 3)⟩, ⟨some 7, none, .faddr 0 (.t 2)⟩, ⟨some 8, none, .load false 1 (.a 7 2)⟩, ⟨some 9, none, .bin .sub (.a 8 2) (.c (.int .i64 1))⟩, ⟨some 10, none, .call n_spec_l1In [.a 6 3, .c (.int .i64 0), .t 9]⟩, ⟨some 11, none, .un .not (.t 10)⟩, ⟨some 12, none, .mv (.p 11)⟩, ⟨some 13, some (12, false), .faddr 1 (.t 3)⟩, ⟨some 14, some (12, false), .load false 1 (.a 13 3)⟩, ⟨some 15, some (12, false), .faddr 1 (.t 2)⟩, ⟨some 16, some (12, false), .load false 1 (.a 15 2)⟩, ⟨some 17, some (12, false), .bin .sub (.a 16 2) (.c (.int .i64 1))⟩, ⟨some 18, some (12, false), .call n_spec_l1In [.a 14 3, .c (.int .i64 0), .t 17]⟩, ⟨some 19, some (12, false), .un .not (.t 18)⟩, ⟨some 20, none, .pick (.t 12) (.c (.bool true)) (.t 19)⟩])
 (.cond (.t 20) (.seq (.reg [⟨some 4, none, .asg (.c (.int .i64 (-1)))⟩])
 .ret) .skip))
 (.seq (.reg [⟨some 21, none, .faddr 1 (.t 3)⟩, ⟨some 22, none, .load false 1 (.a 21 3)⟩, ⟨some 23, none, .faddr 0 (.t 2)⟩, ⟨some 24, none, .load false 1 (.a 23 2)⟩, ⟨some 25, none, .bin .mul (.a 22 3) (.a 24 2)⟩, ⟨some 26, none, .faddr 0 (.t 3)⟩, ⟨some 27, none, .load false 1 (.a 26 3)⟩, ⟨some 28, none, .bin .add (.t 25) (.a 27 3)⟩, ⟨some 4, none, .asg (.p 28)⟩])
 .ret)))⟩
/-- spec.hStep -/
def a_spec_hStep : AFn := ⟨2, 20, [.cell 4 2 true], (.seq (.reg [⟨some 2, none, .box (.t 0)⟩, ⟨some 4, none, .alloc [.int .i64 0, .int .i64 0]⟩])
 (.seq (.reg [⟨some 5, none, .faddr 0 (.t 2)⟩, ⟨some 6, none, .load false 1 (.a 5 2)⟩, ⟨some 7, none, .bslice 1 6 [.int .i64 0] [(0, .c (.int .i64 1)), (1, .c (.int .i64 1)), (2, .c (.int .i64 0)), (3, .c (.int .i64 (-1))), (4, .c (.int .i64 (-1))), (5, .c (.int .i64 0))]⟩, ⟨some 8, none, .mv (.p 1)⟩, ⟨some 9, none, .iaddr 1 (.t 7) (.t 8)⟩, ⟨some 10, none, .load false 1 (.a 9 7)⟩, ⟨some 11, none, .bin .add (.a 6 2) (.a 10 7)⟩, ⟨some 12, none, .faddr 1 (.t 2)⟩, ⟨some 13, none, .load false 1 (.a 12 2)⟩, ⟨some 14, none, .bslice 1 6 [.int .i64 0] [(0, .c (.int .i64 0)), (1, .c (.int .i64 (-1))), (2, .c (.int .i64 (-1))), (3, .c (.int .i64 0)), (4, .c (.int .i64 1)), (5, .c (.int .i64 1))]⟩, ⟨some 15, none, .mv (.p 1)⟩, ⟨some 16, none, .iaddr 1 (.t 14) (.t 15)⟩, ⟨some 17, none, .load false 1 (.a 16 14)⟩, ⟨some 18, none, .bin .add (.a 13 2) (.a 17 14)⟩, ⟨some 19, none, .build [.int .i64 0, .int .i64 0] [(0, 1, .p 11), (1, 1, .p 18)]⟩, ⟨none, none, .store 2 (.t 4) (.t 19)⟩])
 .ret))⟩
/-- spec.mHex -/
def a_spec_mHex : AFn := ⟨2, 14, [.cell 4 2 true], (.seq (.reg [⟨some 2, none, .box (.t 0)⟩, ⟨some 4, none, .alloc [.int .i64 0, .int .i64 0]⟩])
 (.seq (.reg [⟨some 5, none, .mv (.p 1)⟩, ⟨some 6, none, .faddr 0 (.t 2)⟩, ⟨some 7, none, .load false 1 (.a 6 2)⟩, ⟨some 8, none, .bin .rem (.t 5) (.a 7 2)⟩, ⟨some 9, none, .mv (.p 1)⟩, ⟨some 10, none, .faddr 0 (.t 2)⟩, ⟨some 11, none, .load false 1 (.a 10 2)⟩, ⟨some 12, none, .bin .quo (.t 9) (.a 11 2)⟩, ⟨some 13, none, .build [.int .i64 0, .int .i64 0] [(0, 1, .p 8), (1, 1, .p 12)]⟩, ⟨none, none, .store 2 (.t 4) (.t 13)⟩])
 .ret))⟩
/-- spec.mRoad -/
def a_spec_mRoad : AFn := ⟨3, 14, [.tmp 6], (.seq (.reg [⟨some 3, none, .box (.t 0)⟩, ⟨some 6, none, .asg (.c (.bool false))⟩])
 (.seq (.reg [⟨some 7, none, .faddr 4 (.t 3)⟩, ⟨some 8, none, .load false 1 (.a 7 3)⟩, ⟨some 9, none, .load true 5 (.t 3)⟩, ⟨some 10, none, .mv (.p 1)⟩, ⟨some 11, none, .mv (.p 2)⟩, ⟨some 12, none, .call n_spec_mEdge [.a 9 3, .t 10, .t 11]⟩, ⟨some 13, none, .call n_spec_l1Has [.a 8 3, .t 12]⟩, ⟨some 6, none, .asg (.p 13)⟩])
 .ret))⟩
/-- spec.csWeather -/
def a_spec_csWeather : AFn := ⟨2, 9, [.tmp 4], (.seq (.reg [⟨some 4, none, .asg (.c (.int .i64 0))⟩])
 (.seq (.seq (.reg [⟨some 5, none, .mv (.p 1)⟩])
 (.cond (.t 5) (.seq (.reg [⟨some 6, none, .mv (.p 0)⟩, ⟨some 7, none, .bin .quo (.t 6) (.c (.int .i64 2))⟩, ⟨some 4, none, .asg (.p 7)⟩])
 .ret) .skip))
 (.seq (.reg [⟨some 8, none, .mv (.p 0)⟩, ⟨some 4, none, .asg (.p 8)⟩])
 .ret)))⟩
/-- spec.mRiver -/
def a_spec_mRiver : AFn := ⟨3, 14, [.tmp 6], (.seq (.reg [⟨some 3, none, .box (.t 0)⟩, ⟨some 6, none, .asg (.c (.bool false))⟩])
 (.seq (.reg [⟨some 7, none, .faddr 3 (.t 3)⟩, ⟨some 8, none, .load false 1 (.a 7 3)⟩, ⟨some 9, none, .load true 5 (.t 3)⟩, ⟨some 10, none, .mv (.p 1)⟩, ⟨some 11, none, .mv (.p 2)⟩, ⟨some 12, none, .call n_spec_mEdge [.a 9 3, .t 10, .t 11]⟩, ⟨some 13, none, .call n_spec_l1Has [.a 8 3, .t 12]⟩, ⟨some 6, none, .asg (.p 13)⟩])
 .ret))⟩
/-- impl.edgeOf -/
def a_impl_edgeOf : AFn := ⟨3, 27, [.tmp 6], (.seq (.reg [⟨some 3, none, .box (.t 0)⟩, ⟨some 6, none, .asg (.c (.int .i64 0))⟩])
 (.seq (.reg [⟨some 8, none, .load true 5 (.t 3)⟩, ⟨some 9, none, .mv (.p 1)⟩, ⟨some 10, none, .mv (.p 2)⟩, ⟨some 11, none, .call n_impl_nextTo [.a 8 3, .t 9, .t 10]⟩, ⟨some 7, none, .asg (.p 11)⟩])
 (.seq (.block 0 (.seq (.reg [⟨some 13, none, .mv (.p 7)⟩, ⟨some 14, none, .bin .lss (.t 13) (.c (.int .i64 0))⟩, ⟨some 12, none, .asg (.p 14)⟩])
 (.cond (.t 12) (.seq (.reg [⟨some 6, none, .asg (.c (.int .i64 (-1)))⟩])
 .ret) (.seq (.reg [⟨some 16, none, .mv (.p 2)⟩, ⟨some 17, none, .bin .lss (.t 16) (.c (.int .i64 3))⟩, ⟨some 15, none, .asg (.p 17)⟩])
 (.cond (.t 15) (.seq (.reg [⟨some 18, none, .mv (.p 1)⟩, ⟨some 19, none, .bin .mul (.c (.int .i64 3)) (.t 18)⟩, ⟨some 20, none, .mv (.p 2)⟩, ⟨some 21, none, .bin .add (.t 19) (.t 20)⟩, ⟨some 6, none, .asg (.p 21)⟩])
 .ret) .skip)))))
 (.seq (.reg [⟨some 22, none, .mv (.p 7)⟩, ⟨some 23, none, .bin .mul (.c (.int .i64 3)) (.t 22)⟩, ⟨some 24, none, .mv (.p 2)⟩, ⟨some 25, none, .bin .add (.t 23) (.t 24)⟩, ⟨some 26, none, .bin .sub (.t 25) (.c (.int .i64 3))⟩, ⟨some 6, none, .asg (.p 26)⟩])
 .ret))))⟩
/-- impl.weatherCost -/
def a_impl_weatherCost : AFn := ⟨2, 13, [.tmp 4], (.seq (.reg [⟨some 4, none, .asg (.c (.int .i64 0))⟩])
 (.seq (.seq (.reg [⟨some 5, none, .mv (.p 1)⟩, ⟨some 6, none, .mv (.p 5)⟩, ⟨some 7, some (6, true), .mv (.p 0)⟩, ⟨some 8, some (6, true), .bin .gtr (.t 7) (.c (.int .i64 0))⟩, ⟨some 9, none, .pick (.t 6) (.t 8) (.c (.bool false))⟩])
 (.cond (.t 9) (.seq (.reg [⟨some 10, none, .mv (.p 0)⟩, ⟨some 11, none, .bin .sub (.t 10) (.c (.int .i64 1))⟩, ⟨some 4, none, .asg (.p 11)⟩])
 .ret) .skip))
 (.seq (.reg [⟨some 12, none, .mv (.p 0)⟩, ⟨some 4, none, .asg (.p 12)⟩])
 .ret)))⟩
/-- impl.indexOf -/
def a_impl_indexOf : AFn := ⟨2, 27, [.tmp 4], (.seq (.reg [⟨some 2, none, .box (.t 0)⟩, ⟨some 3, none, .box (.t 1)⟩, ⟨some 4, none, .asg (.c (.int .i64 0))⟩])
 (.seq (.seq (.reg [⟨some 5, none, .faddr 0 (.t 3)⟩, ⟨some 6, none, .load false 1 (.a 5 3)⟩, ⟨some 7, none, .faddr 0 (.t 2)⟩, ⟨some 8, none, .load false 1 (.a 7 2)⟩, ⟨some 9, none, .call n_impl_isIndex [.a 6 3, .a 8 2]⟩, ⟨some 10, none, .un .not (.t 9)⟩, ⟨some 11, none, .mv (.p 10)⟩, ⟨some 12, some (11, false), .faddr 1 (.t 3)⟩, ⟨some 13, some (11, false), .load false 1 (.a 12 3)⟩, ⟨some 14, some (11, false), .faddr 1 (.t 2)⟩, ⟨some 15, some (11, false), .load false 1 (.a 14 2)⟩, ⟨some 16, some (11, false), .call n_impl_isIndex [.a 13 3, .a 15 2]⟩, ⟨some 17, some (11, false), .un .not (.t 16)⟩, ⟨some 18, none, .pick (.t 11) (.c (.bool true)) (.t 17)⟩])
 (.cond (.t 18) (.seq (.reg [⟨some 4, none, .asg (.c (.int .i64 (-1)))⟩])
 .ret) .skip))
 (.seq (.reg [⟨some 19, none, .faddr 1 (.t 3)⟩, ⟨some 20, none, .load false 1 (.a 19 3)⟩, ⟨some 21, none, .faddr 0 (.t 2)⟩, ⟨some 22, none, .load false 1 (.a 21 2)⟩, ⟨some 23, none, .bin .mul (.a 20 3) (.a 22 2)⟩, ⟨some 24, none, .faddr 0 (.t 3)⟩, ⟨some 25, none, .load false 1 (.a 24 3)⟩, ⟨some 26, none, .bin .add (.t 23) (.a 25 3)⟩, ⟨some 4, none, .asg (.p 26)⟩])
 .ret)))⟩
/-- impl.stepBy -/
def a_impl_stepBy : AFn := ⟨3, 26, [.cell 6 2 true], (.seq (.reg [⟨some 3, none, .box (.t 0)⟩, ⟨some 6, none, .alloc [.int .i64 0, .int .i64 0]⟩])
 (.seq (.reg [⟨some 7, none, .faddr 0 (.t 3)⟩, ⟨some 8, none, .load false 1 (.a 7 3)⟩, ⟨some 9, none, .mv (.p 2)⟩, ⟨some 10, none, .mv (.p 1)⟩, ⟨some 11, none, .aaddr 6 2 (.g 1) (.t 10)⟩, ⟨some 12, none, .faddr 0 (.t 11)⟩, ⟨some 13, none, .load false 1 (.a 12 11)⟩, ⟨some 14, none, .bin .mul (.t 9) (.a 13 11)⟩, ⟨some 15, none, .bin .add (.a 8 3) (.t 14)⟩, ⟨some 16, none, .faddr 1 (.t 3)⟩, ⟨some 17, none, .load false 1 (.a 16 3)⟩, ⟨some 18, none, .mv (.p 2)⟩, ⟨some 19, none, .mv (.p 1)⟩, ⟨some 20, none, .aaddr 6 2 (.g 1) (.t 19)⟩, ⟨some 21, none, .faddr 1 (.t 20)⟩, ⟨some 22, none, .load false 1 (.a 21 20)⟩, ⟨some 23, none, .bin .mul (.t 18) (.a 22 20)⟩, ⟨some 24, none, .bin .add (.a 17 3) (.t 23)⟩, ⟨some 25, none, .build [.int .i64 0, .int .i64 0] [(0, 1, .p 15), (1, 1, .p 24)]⟩, ⟨none, none, .store 2 (.t 6) (.t 25)⟩])
 .ret))⟩
/-- impl.hexOf -/
def a_impl_hexOf : AFn := ⟨2, 14, [.cell 4 2 true], (.seq (.reg [⟨some 2, none, .box (.t 0)⟩, ⟨some 4, none, .alloc [.int .i64 0, .int .i64 0]⟩])
 (.seq (.reg [⟨some 5, none, .mv (.p 1)⟩, ⟨some 6, none, .faddr 0 (.t 2)⟩, ⟨some 7, none, .load false 1 (.a 6 2)⟩, ⟨some 8, none, .bin .rem (.t 5) (.a 7 2)⟩, ⟨some 9, none, .mv (.p 1)⟩, ⟨some 10, none, .faddr 0 (.t 2)⟩, ⟨some 11, none, .load false 1 (.a 10 2)⟩, ⟨some 12, none, .bin .quo (.t 9) (.a 11 2)⟩, ⟨some 13, none, .build [.int .i64 0, .int .i64 0] [(0, 1, .p 8), (1, 1, .p 12)]⟩, ⟨none, none, .store 2 (.t 4) (.t 13)⟩])
 .ret))⟩
/-- spec.csPath -/
def a_spec_csPath : AFn := ⟨1, 10, [.tmp 2], (.seq (.reg [⟨some 2, none, .asg (.c (.bool false))⟩])
 (.seq (.reg [⟨some 3, none, .rf (.t 0)⟩, ⟨some 4, none, .len (.a 3 0)⟩, ⟨some 5, none, .bin .leq (.t 4) (.c (.int .i64 9))⟩, ⟨some 6, none, .mv (.p 5)⟩, ⟨some 7, some (6, true), .rf (.t 0)⟩, ⟨some 8, some (6, true), .call n_spec_l1All [.a 7 0, .c (.int .i64 0), .c (.int .i64 5)]⟩, ⟨some 9, none, .pick (.t 6) (.t 8) (.c (.bool false))⟩, ⟨some 2, none, .asg (.p 9)⟩])
 .ret))⟩
def b_spec_csCost_0 : AC := (.seq (.reg [⟨some 18, none, .bin .lss (.t 17) (.t 16)⟩])
 (.seq (.cond (.t 18) .skip (.exit 0))
 (.seq (.block 1 (.seq (.reg [⟨some 19, none, .iaddr 1 (.a 15 4) (.t 17)⟩, ⟨some 20, none, .load false 1 (.a 19 4)⟩, ⟨some 13, none, .asg (.p 20)⟩])
 (.seq (.reg [⟨some 21, none, .load true 12 (.t 5)⟩, ⟨some 22, none, .mv (.p 1)⟩, ⟨some 23, none, .mv (.p 3)⟩, ⟨some 24, none, .mv (.p 13)⟩, ⟨some 25, none, .mv (.p 2)⟩, ⟨some 26, none, .call n_spec_cStep [.a 21 5, .t 22, .t 23, .t 24, .t 25]⟩, ⟨some 14, none, .asg (.p 26)⟩])
 (.seq (.seq (.reg [⟨some 27, none, .mv (.p 14)⟩, ⟨some 28, none, .bin .eql (.t 27) (.c (.int .i64 0))⟩])
 (.cond (.t 28) (.seq (.reg [⟨some 10, none, .asg (.c (.int .i64 (-1)))⟩])
 .ret) .skip))
 (.seq (.reg [⟨some 29, none, .mv (.p 11)⟩, ⟨some 30, none, .mv (.p 14)⟩, ⟨some 31, none, .bin .add (.t 29) (.t 30)⟩, ⟨some 11, none, .asg (.p 31)⟩])
 (.reg [⟨some 32, none, .faddr 7 (.t 5)⟩, ⟨some 33, none, .load true 5 (.a 32 5)⟩, ⟨some 34, none, .mv (.p 3)⟩, ⟨some 35, none, .mv (.p 13)⟩, ⟨some 36, none, .call n_spec_mNext [.a 33 5, .t 34, .t 35]⟩, ⟨some 3, none, .asg (.p 36)⟩]))))))
 (.reg [⟨some 37, none, .bin .add (.t 17) (.c (.int .i64 1))⟩, ⟨some 17, none, .mv (.p 37)⟩]))))
/-- spec.csCost -/
def a_spec_csCost : AFn := ⟨5, 39, [.tmp 10], (.seq (.reg [⟨some 5, none, .box (.t 0)⟩, ⟨some 10, none, .asg (.c (.int .i64 0))⟩])
 (.seq (.reg [⟨some 11, none, .asg (.c (.int .i64 0))⟩])
 (.seq (.seq (.reg [⟨some 15, none, .rf (.t 4)⟩, ⟨some 16, none, .len (.a 15 4)⟩, ⟨some 17, none, .mv (.c (.int .i64 0))⟩])
 (.block 0 (.loop [1, 2, 3, 4, 5, 11, 15, 16, 17] [10, 11] b_spec_csCost_0)))
 (.seq (.reg [⟨some 38, none, .mv (.p 11)⟩, ⟨some 10, none, .asg (.p 38)⟩])
 .ret))))⟩
/-- impl.isMover -/
def a_impl_isMover : AFn := ⟨4, 22, [.tmp 8], (.seq (.reg [⟨some 4, none, .box (.t 0)⟩, ⟨some 8, none, .asg (.c (.bool false))⟩])
 (.seq (.reg [⟨some 9, none, .load true 12 (.t 4)⟩, ⟨some 10, none, .mv (.p 1)⟩, ⟨some 11, none, .call n_impl_isKindOf [.a 9 4, .t 10]⟩, ⟨some 12, none, .mv (.p 11)⟩, ⟨some 13, some (12, true), .mv (.p 2)⟩, ⟨some 14, some (12, true), .call n_impl_isWeather [.t 13]⟩, ⟨some 15, none, .pick (.t 12) (.t 14) (.c (.bool false))⟩, ⟨some 16, none, .mv (.p 15)⟩, ⟨some 17, some (16, true), .mv (.p 3)⟩, ⟨some 18, some (16, true), .load true 12 (.t 4)⟩, ⟨some 19, some (16, true), .call n_impl_sizeOf [.a 18 4]⟩, ⟨some 20, some (16, true), .call n_impl_isIndex [.t 17, .t 19]⟩, ⟨some 21, none, .pick (.t 16) (.t 20) (.c (.bool false))⟩, ⟨some 8, none, .asg (.p 21)⟩])
 .ret))⟩
/-- impl.isPath -/
def a_impl_isPath : AFn := ⟨1, 11, [.tmp 2], (.seq (.reg [⟨some 2, none, .asg (.c (.bool false))⟩])
 (.seq (.reg [⟨some 3, none, .rf (.t 0)⟩, ⟨some 4, none, .len (.a 3 0)⟩, ⟨some 5, none, .bin .leq (.t 4) (.c (.int .i64 9))⟩, ⟨some 6, none, .mv (.p 5)⟩, ⟨some 7, some (6, true), .rf (.t 0)⟩, ⟨some 8, some (6, true), .call n_slices_ContainsFunc_int_int [.a 7 0, .f n_impl_isPath_1]⟩, ⟨some 9, some (6, true), .un .not (.t 8)⟩, ⟨some 10, none, .pick (.t 6) (.t 9) (.c (.bool false))⟩, ⟨some 2, none, .asg (.p 10)⟩])
 .ret))⟩
def b_impl_costsAlong_0 : AC := (.seq (.reg [⟨some 19, none, .bin .lss (.t 18) (.t 17)⟩])
 (.seq (.cond (.t 19) .skip (.exit 0))
 (.seq (.block 1 (.seq (.reg [⟨some 20, none, .iaddr 1 (.a 16 4) (.t 18)⟩, ⟨some 21, none, .load false 1 (.a 20 4)⟩, ⟨some 13, none, .asg (.p 21)⟩])
 (.seq (.reg [⟨some 22, none, .load true 12 (.t 5)⟩, ⟨some 23, none, .mv (.p 1)⟩, ⟨some 24, none, .mv (.p 2)⟩, ⟨some 25, none, .mv (.p 3)⟩, ⟨some 26, none, .mv (.p 13)⟩, ⟨some 27, none, .call n_impl_stepCost [.a 22 5, .t 23, .t 24, .t 25, .t 26]⟩, ⟨some 14, none, .asg (.p 27)⟩])
 (.seq (.seq (.reg [⟨some 28, none, .mv (.p 14)⟩, ⟨some 29, none, .bin .eql (.t 28) (.c (.int .i64 0))⟩])
 (.cond (.t 29) (.exit 0) .skip))
 (.seq (.reg [⟨some 30, none, .rf (.t 11)⟩, ⟨some 31, none, .mv (.p 14)⟩, ⟨some 32, none, .bslice 1 1 [.int .i64 0] [(0, .p 31)]⟩, ⟨some 33, none, .append 1 (.a 30 11) (.t 32)⟩, ⟨some 11, none, .asg (.t 33)⟩])
 (.reg [⟨some 34, none, .faddr 7 (.t 5)⟩, ⟨some 35, none, .load true 5 (.a 34 5)⟩, ⟨some 36, none, .mv (.p 3)⟩, ⟨some 37, none, .mv (.p 13)⟩, ⟨some 38, none, .call n_impl_nextTo [.a 35 5, .t 36, .t 37]⟩, ⟨some 3, none, .asg (.p 38)⟩]))))))
 (.reg [⟨some 39, none, .bin .add (.t 18) (.c (.int .i64 1))⟩, ⟨some 18, none, .mv (.p 39)⟩]))))
/-- impl.costsAlong -/
def a_impl_costsAlong : AFn := ⟨5, 41, [.tmp 10], (.seq (.reg [⟨some 5, none, .box (.t 0)⟩, ⟨some 10, none, .asg (.c (.list true 1 []))⟩])
 (.seq (.reg [⟨some 15, none, .bslice 1 0 [.int .i64 0] []⟩, ⟨some 11, none, .asg (.t 15)⟩])
 (.seq (.seq (.reg [⟨some 16, none, .rf (.t 4)⟩, ⟨some 17, none, .len (.a 16 4)⟩, ⟨some 18, none, .mv (.c (.int .i64 0))⟩])
 (.block 0 (.loop [1, 2, 3, 4, 5, 11, 16, 17, 18] [10, 11] b_impl_costsAlong_0)))
 (.seq (.reg [⟨some 40, none, .rf (.t 11)⟩, ⟨some 10, none, .asg (.a 40 11)⟩])
 .ret))))⟩
def b_impl_sumOf_0 : AC := (.seq (.reg [⟨some 9, none, .bin .lss (.t 8) (.t 7)⟩])
 (.seq (.cond (.t 9) .skip (.exit 0))
 (.seq (.block 1 (.seq (.reg [⟨some 10, none, .iaddr 1 (.a 6 0) (.t 8)⟩, ⟨some 11, none, .load false 1 (.a 10 0)⟩, ⟨some 5, none, .asg (.p 11)⟩])
 (.reg [⟨some 12, none, .mv (.p 3)⟩, ⟨some 13, none, .mv (.p 5)⟩, ⟨some 14, none, .bin .add (.t 12) (.t 13)⟩, ⟨some 3, none, .asg (.p 14)⟩])))
 (.reg [⟨some 15, none, .bin .add (.t 8) (.c (.int .i64 1))⟩, ⟨some 8, none, .mv (.p 15)⟩]))))
/-- impl.sumOf -/
def a_impl_sumOf : AFn := ⟨1, 17, [.tmp 2], (.seq (.reg [⟨some 2, none, .asg (.c (.int .i64 0))⟩])
 (.seq (.reg [⟨some 3, none, .asg (.c (.int .i64 0))⟩])
 (.seq (.seq (.reg [⟨some 6, none, .rf (.t 0)⟩, ⟨some 7, none, .len (.a 6 0)⟩, ⟨some 8, none, .mv (.c (.int .i64 0))⟩])
 (.block 0 (.loop [0, 3, 6, 7, 8] [2, 3] b_impl_sumOf_0)))
 (.seq (.reg [⟨some 16, none, .mv (.p 3)⟩, ⟨some 2, none, .asg (.p 16)⟩])
 .ret))))⟩
def b_slices_Index_int_int_0 : AC := (.seq (.reg [⟨some 9, none, .bin .lss (.t 8) (.t 7)⟩])
 (.seq (.cond (.t 9) .skip (.exit 0))
 (.seq (.block 1 (.seq (.reg [⟨some 10, none, .mv (.p 8)⟩, ⟨some 5, none, .asg (.p 10)⟩])
 (.seq (.reg [⟨some 11, none, .mv (.p 1)⟩, ⟨some 12, none, .rf (.t 0)⟩, ⟨some 13, none, .mv (.p 5)⟩, ⟨some 14, none, .iaddr 1 (.a 12 0) (.t 13)⟩, ⟨some 15, none, .load false 1 (.a 14 0)⟩, ⟨some 16, none, .bin .eql (.t 11) (.a 15 0)⟩])
 (.cond (.t 16) (.seq (.reg [⟨some 17, none, .mv (.p 5)⟩, ⟨some 4, none, .asg (.p 17)⟩])
 .ret) .skip))))
 (.reg [⟨some 18, none, .bin .add (.t 8) (.c (.int .i64 1))⟩, ⟨some 8, none, .mv (.p 18)⟩]))))
/-- slices.Index[[]int,int] -/
def a_slices_Index_int_int : AFn := ⟨2, 19, [.tmp 4], (.seq (.reg [⟨some 4, none, .asg (.c (.int .i64 0))⟩])
 (.seq (.seq (.reg [⟨some 6, none, .rf (.t 0)⟩, ⟨some 7, none, .len (.a 6 0)⟩, ⟨some 8, none, .mv (.c (.int .i64 0))⟩])
 (.block 0 (.loop [0, 1, 7, 8] [4] b_slices_Index_int_int_0)))
 (.seq (.reg [⟨some 4, none, .asg (.c (.int .i64 (-1)))⟩])
 .ret)))⟩
def b_impl_pathHexes_0 : AC := (.seq (.reg [⟨some 15, none, .bin .lss (.t 14) (.t 13)⟩])
 (.seq (.cond (.t 15) .skip (.exit 0))
 (.seq (.block 1 (.seq (.reg [⟨some 16, none, .iaddr 1 (.a 12 2) (.t 14)⟩, ⟨some 17, none, .load false 1 (.a 16 2)⟩, ⟨some 10, none, .asg (.p 17)⟩])
 (.seq (.reg [⟨some 18, none, .load true 5 (.t 3)⟩, ⟨some 19, none, .mv (.p 1)⟩, ⟨some 20, none, .mv (.p 10)⟩, ⟨some 21, none, .call n_impl_nextTo [.a 18 3, .t 19, .t 20]⟩, ⟨some 1, none, .asg (.p 21)⟩])
 (.seq (.seq (.reg [⟨some 22, none, .mv (.p 1)⟩, ⟨some 23, none, .bin .lss (.t 22) (.c (.int .i64 0))⟩])
 (.cond (.t 23) (.seq (.reg [⟨some 6, none, .asg (.c (.list true 1 []))⟩, ⟨some 7, none, .asg (.c (.bool false))⟩])
 .ret) .skip))
 (.reg [⟨some 24, none, .rf (.t 8)⟩, ⟨some 25, none, .mv (.p 1)⟩, ⟨some 26, none, .bslice 1 1 [.int .i64 0] [(0, .p 25)]⟩, ⟨some 27, none, .append 1 (.a 24 8) (.t 26)⟩, ⟨some 8, none, .asg (.t 27)⟩])))))
 (.reg [⟨some 28, none, .bin .add (.t 14) (.c (.int .i64 1))⟩, ⟨some 14, none, .mv (.p 28)⟩]))))
/-- impl.pathHexes -/
def a_impl_pathHexes : AFn := ⟨3, 30, [.tmp 6, .tmp 7], (.seq (.reg [⟨some 3, none, .box (.t 0)⟩, ⟨some 6, none, .asg (.c (.list true 1 []))⟩, ⟨some 7, none, .asg (.c (.bool false))⟩])
 (.seq (.reg [⟨some 11, none, .bslice 1 0 [.int .i64 0] []⟩, ⟨some 8, none, .asg (.t 11)⟩])
 (.seq (.seq (.reg [⟨some 12, none, .rf (.t 2)⟩, ⟨some 13, none, .len (.a 12 2)⟩, ⟨some 14, none, .mv (.c (.int .i64 0))⟩])
 (.block 0 (.loop [1, 2, 3, 8, 12, 13, 14] [6, 7, 8] b_impl_pathHexes_0)))
 (.seq (.reg [⟨some 29, none, .rf (.t 8)⟩, ⟨some 6, none, .asg (.a 29 8)⟩, ⟨some 7, none, .asg (.c (.bool true))⟩])
 .ret))))⟩
def b_spec_l1Rising_0 : AC := (.seq (.reg [⟨some 12, none, .bin .lss (.t 11) (.t 10)⟩])
 (.seq (.cond (.t 12) .skip (.exit 0))
 (.seq (.block 1 (.seq (.reg [⟨some 13, none, .mv (.p 11)⟩, ⟨some 14, none, .iaddr 1 (.a 9 0) (.t 11)⟩, ⟨some 15, none, .load false 1 (.a 14 0)⟩, ⟨some 7, none, .asg (.p 13)⟩, ⟨some 8, none, .asg (.p 15)⟩])
 (.seq (.reg [⟨some 16, none, .mv (.p 8)⟩, ⟨some 17, none, .mv (.p 1)⟩, ⟨some 18, none, .mv (.p 2)⟩, ⟨some 19, none, .call n_spec_l1In [.t 16, .t 17, .t 18]⟩, ⟨some 20, none, .un .not (.t 19)⟩, ⟨some 21, none, .mv (.p 20)⟩, ⟨some 22, some (21, false), .mv (.p 7)⟩, ⟨some 23, some (21, false), .bin .gtr (.t 22) (.c (.int .i64 0))⟩, ⟨some 24, some (21, false), .mv (.p 23)⟩, ⟨some 25, some (24, true), .rf (.t 0)⟩, ⟨some 26, some (24, true), .mv (.p 7)⟩, ⟨some 27, some (24, true), .bin .sub (.t 26) (.c (.int .i64 1))⟩, ⟨some 28, some (24, true), .iaddr 1 (.a 25 0) (.t 27)⟩, ⟨some 29, some (24, true), .load false 1 (.a 28 0)⟩, ⟨some 30, some (24, true), .mv (.p 8)⟩, ⟨some 31, some (24, true), .bin .geq (.a 29 0) (.t 30)⟩, ⟨some 32, some (21, false), .pick (.t 24) (.t 31) (.c (.bool false))⟩, ⟨some 33, none, .pick (.t 21) (.c (.bool true)) (.t 32)⟩])
 (.cond (.t 33) (.seq (.reg [⟨some 6, none, .asg (.c (.bool false))⟩])
 .ret) .skip))))
 (.reg [⟨some 34, none, .bin .add (.t 11) (.c (.int .i64 1))⟩, ⟨some 11, none, .mv (.p 34)⟩]))))
/-- spec.l1Rising -/
def a_spec_l1Rising : AFn := ⟨3, 35, [.tmp 6], (.seq (.reg [⟨some 6, none, .asg (.c (.bool false))⟩])
 (.seq (.seq (.reg [⟨some 9, none, .rf (.t 0)⟩, ⟨some 10, none, .len (.a 9 0)⟩, ⟨some 11, none, .mv (.c (.int .i64 0))⟩])
 (.block 0 (.loop [0, 1, 2, 9, 10, 11] [6] b_spec_l1Rising_0)))
 (.seq (.reg [⟨some 6, none, .asg (.c (.bool true))⟩])
 .ret)))⟩
def b_impl_isName_0 : AC := (.seq (.seq (.reg [⟨some 4, none, .mv (.p 3)⟩, ⟨some 5, none, .mv (.p 0)⟩, ⟨some 6, none, .slen (.t 5)⟩, ⟨some 7, none, .bin .lss (.t 4) (.t 6)⟩])
 (.cond (.t 7) .skip (.exit 0)))
 (.seq (.block 1 (.seq (.reg [⟨some 10, none, .mv (.p 0)⟩, ⟨some 11, none, .mv (.p 3)⟩, ⟨some 12, none, .sidx (.t 10) (.t 11)⟩, ⟨some 13, none, .bin .lss (.t 12) (.c (.int .u8 97))⟩, ⟨some 14, none, .mv (.p 13)⟩, ⟨some 15, some (14, false), .mv (.p 0)⟩, ⟨some 16, some (14, false), .mv (.p 3)⟩, ⟨some 17, some (14, false), .sidx (.t 15) (.t 16)⟩, ⟨some 18, some (14, false), .bin .gtr (.t 17) (.c (.int .u8 122))⟩, ⟨some 19, none, .pick (.t 14) (.c (.bool true)) (.t 18)⟩])
 (.cond (.t 19) (.seq (.reg [⟨some 2, none, .asg (.c (.bool false))⟩])
 .ret) .skip)))
 (.reg [⟨some 8, none, .mv (.p 3)⟩, ⟨some 9, none, .bin .add (.t 8) (.c (.int .i64 1))⟩, ⟨some 3, none, .asg (.p 9)⟩])))
/-- impl.isName -/
def a_impl_isName : AFn := ⟨1, 23, [.tmp 2], (.seq (.reg [⟨some 2, none, .asg (.c (.bool false))⟩])
 (.seq (.seq (.reg [⟨some 3, none, .asg (.c (.int .i64 0))⟩])
 (.block 0 (.loop [0, 3] [0, 2] b_impl_isName_0)))
 (.seq (.reg [⟨some 20, none, .mv (.p 0)⟩, ⟨some 21, none, .slen (.t 20)⟩, ⟨some 22, none, .call n_impl_inRange [.t 21, .c (.int .i64 1), .c (.int .i64 8)]⟩, ⟨some 2, none, .asg (.p 22)⟩])
 .ret)))⟩
/-- impl.goodTerrain$1 -/
def a_impl_goodTerrain_1 : AFn := ⟨1, 6, [.tmp 2], (.seq (.reg [⟨some 2, none, .asg (.c (.bool false))⟩])
 (.seq (.reg [⟨some 3, none, .mv (.p 0)⟩, ⟨some 4, none, .call n_impl_inRange [.t 3, .c (.int .i64 0), .c (.int .i64 9)]⟩, ⟨some 5, none, .un .not (.t 4)⟩, ⟨some 2, none, .asg (.p 5)⟩])
 .ret))⟩
def b_slices_IndexFunc_impl_Terrain_impl_Terrain_0 : AC := (.seq (.reg [⟨some 9, none, .bin .lss (.t 8) (.t 7)⟩])
 (.seq (.cond (.t 9) .skip (.exit 0))
 (.seq (.block 1 (.seq (.reg [⟨some 10, none, .mv (.p 8)⟩, ⟨some 5, none, .asg (.p 10)⟩])
 (.seq (.reg [⟨some 11, none, .rf (.t 1)⟩, ⟨some 12, none, .rf (.t 0)⟩, ⟨some 13, none, .mv (.p 5)⟩, ⟨some 14, none, .iaddr 5 (.a 12 0) (.t 13)⟩, ⟨some 15, none, .load true 5 (.a 14 0)⟩, ⟨some 16, none, .callv (.a 11 1) [.a 15 0]⟩])
 (.cond (.t 16) (.seq (.reg [⟨some 17, none, .mv (.p 5)⟩, ⟨some 4, none, .asg (.p 17)⟩])
 .ret) .skip))))
 (.reg [⟨some 18, none, .bin .add (.t 8) (.c (.int .i64 1))⟩, ⟨some 8, none, .mv (.p 18)⟩]))))
/-- slices.IndexFunc[[]impl.Terrain,impl.Terrain] -/
def a_slices_IndexFunc_impl_Terrain_impl_Terrain : AFn := ⟨2, 19, [.tmp 4], (.seq (.reg [⟨some 4, none, .asg (.c (.int .i64 0))⟩])
 (.seq (.seq (.reg [⟨some 6, none, .rf (.t 0)⟩, ⟨some 7, none, .len (.a 6 0)⟩, ⟨some 8, none, .mv (.c (.int .i64 0))⟩])
 (.block 0 (.loop [0, 1, 7, 8] [4] b_slices_IndexFunc_impl_Terrain_impl_Terrain_0)))
 (.seq (.reg [⟨some 4, none, .asg (.c (.int .i64 (-1)))⟩])
 .ret)))⟩
/-- impl.terrainIndex$1 -/
def a_impl_terrainIndex_1 : AFn := ⟨2, 8, [.tmp 3], (.seq (.reg [⟨some 2, none, .box (.t 0)⟩, ⟨some 3, none, .asg (.c (.bool false))⟩])
 (.seq (.reg [⟨some 4, none, .faddr 0 (.t 2)⟩, ⟨some 5, none, .load false 1 (.a 4 2)⟩, ⟨some 6, none, .load false 1 (.t 1)⟩, ⟨some 7, none, .bin .eql (.a 5 2) (.a 6 1)⟩, ⟨some 3, none, .asg (.p 7)⟩])
 .ret))⟩
def b_slices_IndexFunc_impl_Kind_impl_Kind_0 : AC := (.seq (.reg [⟨some 9, none, .bin .lss (.t 8) (.t 7)⟩])
 (.seq (.cond (.t 9) .skip (.exit 0))
 (.seq (.block 1 (.seq (.reg [⟨some 10, none, .mv (.p 8)⟩, ⟨some 5, none, .asg (.p 10)⟩])
 (.seq (.reg [⟨some 11, none, .rf (.t 1)⟩, ⟨some 12, none, .rf (.t 0)⟩, ⟨some 13, none, .mv (.p 5)⟩, ⟨some 14, none, .iaddr 6 (.a 12 0) (.t 13)⟩, ⟨some 15, none, .load true 6 (.a 14 0)⟩, ⟨some 16, none, .callv (.a 11 1) [.a 15 0]⟩])
 (.cond (.t 16) (.seq (.reg [⟨some 17, none, .mv (.p 5)⟩, ⟨some 4, none, .asg (.p 17)⟩])
 .ret) .skip))))
 (.reg [⟨some 18, none, .bin .add (.t 8) (.c (.int .i64 1))⟩, ⟨some 8, none, .mv (.p 18)⟩]))))
/-- slices.IndexFunc[[]impl.Kind,impl.Kind] -/
def a_slices_IndexFunc_impl_Kind_impl_Kind : AFn := ⟨2, 19, [.tmp 4], (.seq (.reg [⟨some 4, none, .asg (.c (.int .i64 0))⟩])
 (.seq (.seq (.reg [⟨some 6, none, .rf (.t 0)⟩, ⟨some 7, none, .len (.a 6 0)⟩, ⟨some 8, none, .mv (.c (.int .i64 0))⟩])
 (.block 0 (.loop [0, 1, 7, 8] [4] b_slices_IndexFunc_impl_Kind_impl_Kind_0)))
 (.seq (.reg [⟨some 4, none, .asg (.c (.int .i64 (-1)))⟩])
 .ret)))⟩
/-- impl.kindIndex$1 -/
def a_impl_kindIndex_1 : AFn := ⟨2, 8, [.tmp 3], (.seq (.reg [⟨some 2, none, .box (.t 0)⟩, ⟨some 3, none, .asg (.c (.bool false))⟩])
 (.seq (.reg [⟨some 4, none, .faddr 0 (.t 2)⟩, ⟨some 5, none, .load false 1 (.a 4 2)⟩, ⟨some 6, none, .load false 1 (.t 1)⟩, ⟨some 7, none, .bin .eql (.a 5 2) (.a 6 1)⟩, ⟨some 3, none, .asg (.p 7)⟩])
 .ret))⟩
/-- impl.terrainAt -/
def a_impl_terrainAt : AFn := ⟨2, 16, [.cell 4 5 true], (.seq (.reg [⟨some 2, none, .box (.t 0)⟩, ⟨some 4, none, .alloc [.str ⟨#[]⟩, .list true 1 [], .int .i64 0, .int .i64 0, .bool false]⟩])
 (.seq (.reg [⟨some 5, none, .faddr 0 (.t 2)⟩, ⟨some 6, none, .faddr 0 (.a 5 2)⟩, ⟨some 7, none, .load false 1 (.a 6 2)⟩, ⟨some 8, none, .faddr 7 (.t 2)⟩, ⟨some 9, none, .faddr 2 (.a 8 2)⟩, ⟨some 10, none, .load false 1 (.a 9 2)⟩, ⟨some 11, none, .mv (.p 1)⟩, ⟨some 12, none, .iaddr 1 (.a 10 2) (.t 11)⟩, ⟨some 13, none, .load false 1 (.a 12 2)⟩, ⟨some 14, none, .iaddr 5 (.a 7 2) (.a 13 2)⟩, ⟨some 15, none, .load true 5 (.a 14 2)⟩, ⟨none, none, .store 5 (.t 4) (.a 15 2)⟩])
 .ret))⟩
def b_spec_l1Has_0 : AC := (.seq (.reg [⟨some 10, none, .bin .lss (.t 9) (.t 8)⟩])
 (.seq (.cond (.t 10) .skip (.exit 0))
 (.seq (.block 1 (.seq (.reg [⟨some 11, none, .iaddr 1 (.a 7 0) (.t 9)⟩, ⟨some 12, none, .load false 1 (.a 11 0)⟩, ⟨some 6, none, .asg (.p 12)⟩])
 (.seq (.reg [⟨some 13, none, .mv (.p 6)⟩, ⟨some 14, none, .mv (.p 1)⟩, ⟨some 15, none, .bin .eql (.t 13) (.t 14)⟩])
 (.cond (.t 15) (.seq (.reg [⟨some 4, none, .asg (.c (.bool true))⟩])
 .ret) .skip))))
 (.reg [⟨some 16, none, .bin .add (.t 9) (.c (.int .i64 1))⟩, ⟨some 9, none, .mv (.p 16)⟩]))))
/-- spec.l1Has -/
def a_spec_l1Has : AFn := ⟨2, 17, [.tmp 4], (.seq (.reg [⟨some 4, none, .asg (.c (.bool false))⟩])
 (.seq (.seq (.reg [⟨some 7, none, .rf (.t 0)⟩, ⟨some 8, none, .len (.a 7 0)⟩, ⟨some 9, none, .mv (.c (.int .i64 0))⟩])
 (.block 0 (.loop [0, 1, 7, 8, 9] [4] b_spec_l1Has_0)))
 (.seq (.reg [⟨some 4, none, .asg (.c (.bool false))⟩])
 .ret)))⟩
/-- spec.mEdge -/
def a_spec_mEdge : AFn := ⟨3, 21, [.tmp 6], (.seq (.reg [⟨some 3, none, .box (.t 0)⟩, ⟨some 6, none, .asg (.c (.int .i64 0))⟩])
 (.seq (.seq (.reg [⟨some 7, none, .mv (.p 2)⟩, ⟨some 8, none, .bin .lss (.t 7) (.c (.int .i64 3))⟩])
 (.cond (.t 8) (.seq (.reg [⟨some 9, none, .mv (.p 1)⟩, ⟨some 10, none, .bin .mul (.c (.int .i64 3)) (.t 9)⟩, ⟨some 11, none, .mv (.p 2)⟩, ⟨some 12, none, .bin .add (.t 10) (.t 11)⟩, ⟨some 6, none, .asg (.p 12)⟩])
 .ret) .skip))
 (.seq (.reg [⟨some 13, none, .load true 5 (.t 3)⟩, ⟨some 14, none, .mv (.p 1)⟩, ⟨some 15, none, .mv (.p 2)⟩, ⟨some 16, none, .call n_spec_mNext [.a 13 3, .t 14, .t 15]⟩, ⟨some 17, none, .bin .mul (.c (.int .i64 3)) (.t 16)⟩, ⟨some 18, none, .mv (.p 2)⟩, ⟨some 19, none, .bin .add (.t 17) (.t 18)⟩, ⟨some 20, none, .bin .sub (.t 19) (.c (.int .i64 3))⟩, ⟨some 6, none, .asg (.p 20)⟩])
 .ret)))⟩
/-- impl.isKindOf -/
def a_impl_isKindOf : AFn := ⟨2, 15, [.tmp 4], (.seq (.reg [⟨some 2, none, .box (.t 0)⟩, ⟨some 4, none, .asg (.c (.bool false))⟩])
 (.seq (.reg [⟨some 5, none, .load true 12 (.t 2)⟩, ⟨some 6, none, .call n_impl_IsBoard [.a 5 2]⟩, ⟨some 7, none, .mv (.p 6)⟩, ⟨some 8, some (7, true), .mv (.p 1)⟩, ⟨some 9, some (7, true), .faddr 0 (.t 2)⟩, ⟨some 10, some (7, true), .faddr 1 (.a 9 2)⟩, ⟨some 11, some (7, true), .load false 1 (.a 10 2)⟩, ⟨some 12, some (7, true), .len (.a 11 2)⟩, ⟨some 13, some (7, true), .call n_impl_isIndex [.t 8, .t 12]⟩, ⟨some 14, none, .pick (.t 7) (.t 13) (.c (.bool false))⟩, ⟨some 4, none, .asg (.p 14)⟩])
 .ret))⟩
/-- impl.isWeather -/
def a_impl_isWeather : AFn := ⟨1, 5, [.tmp 2], (.seq (.reg [⟨some 2, none, .asg (.c (.bool false))⟩])
 (.seq (.reg [⟨some 3, none, .mv (.p 0)⟩, ⟨some 4, none, .call n_impl_inRange [.t 3, .c (.int .i64 0), .c (.int .i64 2)]⟩, ⟨some 2, none, .asg (.p 4)⟩])
 .ret))⟩
/-- impl.isPath$1 -/
def a_impl_isPath_1 : AFn := ⟨1, 6, [.tmp 2], (.seq (.reg [⟨some 2, none, .asg (.c (.bool false))⟩])
 (.seq (.reg [⟨some 3, none, .mv (.p 0)⟩, ⟨some 4, none, .call n_impl_isDirection [.t 3]⟩, ⟨some 5, none, .un .not (.t 4)⟩, ⟨some 2, none, .asg (.p 5)⟩])
 .ret))⟩
/-- impl.isDirection -/
def a_impl_isDirection : AFn := ⟨1, 5, [.tmp 2], (.seq (.reg [⟨some 2, none, .asg (.c (.bool false))⟩])
 (.seq (.reg [⟨some 3, none, .mv (.p 0)⟩, ⟨some 4, none, .call n_impl_inRange [.t 3, .c (.int .i64 0), .c (.int .i64 5)]⟩, ⟨some 2, none, .asg (.p 4)⟩])
 .ret))⟩
end Go.Abs.W
