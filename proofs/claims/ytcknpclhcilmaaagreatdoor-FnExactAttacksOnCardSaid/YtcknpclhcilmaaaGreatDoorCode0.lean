/- The abstract code of the functions. -/
import Derived.Test.YtcknpclhcilmaaaGreatDoorA2
set_option maxRecDepth 100000
namespace Go.Abs.W
open Go Go.Abs
def n_laws_FnExactAdvanceUnits : Nat := 4
def n_laws_FnExactApplyResult : Nat := 6
def n_laws_FnExactRefusedIn : Nat := 7
def n_laws_FnExactAttemptsAt : Nat := 8
def n_laws_FnExactAttacksOn : Nat := 12
def n_laws_szBoard : Nat := 13
def n_laws_szState : Nat := 14
def n_laws_toBoard : Nat := 17
def n_laws_toState : Nat := 18
def n_laws_eqBoard : Nat := 22
def n_laws_eqState : Nat := 23
def n_laws_markBoard : Nat := 25
def n_laws_markState : Nat := 26
def n_spec_AdvanceUnits : Nat := 30
def n_laws_toIntS : Nat := 31
def n_impl_AdvanceUnits : Nat := 32
def n_laws_eqIntS : Nat := 33
def n_laws_markIntS : Nat := 34
def n_laws_heldState : Nat := 35
def n_laws_heldIntS : Nat := 38
def n_laws_szBattle : Nat := 39
def n_spec_ApplyResult : Nat := 40
def n_laws_toBattle : Nat := 41
def n_impl_ApplyResult : Nat := 42
def n_laws_eqBattle : Nat := 43
def n_laws_markBattle : Nat := 44
def n_laws_szAttemptS : Nat := 45
def n_spec_RefusedIn : Nat := 46
def n_laws_toAttemptS : Nat := 47
def n_impl_RefusedIn : Nat := 48
def n_laws_eqAttemptS : Nat := 49
def n_laws_markAttemptS : Nat := 50
def n_laws_szOrderS : Nat := 51
def n_spec_AttemptsAt : Nat := 52
def n_laws_toOrderS : Nat := 53
def n_impl_AttemptsAt : Nat := 54
def n_laws_eqOrderS : Nat := 55
def n_laws_markOrderS : Nat := 56
def n_laws_heldAttemptS : Nat := 57
def n_laws_szSheet : Nat := 64
def n_spec_AttacksOn : Nat := 65
def n_laws_toSheet : Nat := 66
def n_impl_AttacksOn : Nat := 67
def n_laws_eqSheet : Nat := 68
def n_laws_markSheet : Nat := 69
def n_laws_szRules : Nat := 70
def n_laws_szMap : Nat := 71
def n_laws_szUnitS : Nat := 72
def n_spec_sGood : Nat := 73
def n_laws_toRules : Nat := 75
def n_laws_toMap : Nat := 76
def n_laws_toUnitS : Nat := 77
def n_impl_fits : Nat := 79
def n_laws_eqRules : Nat := 81
def n_laws_eqMap : Nat := 82
def n_laws_eqUnitS : Nat := 83
def n_laws_markRules : Nat := 85
def n_laws_markMap : Nat := 86
def n_laws_markUnitS : Nat := 87
def n_spec_gUnits : Nat := 88
def n_spec_l1In : Nat := 89
def n_spec_mSize : Nat := 90
def n_spec_gAdvance : Nat := 91
def n_impl_areOnMap : Nat := 92
def n_impl_isIndex : Nat := 93
def n_impl_sizeOf : Nat := 94
def n_impl_advanceUnits : Nat := 95
def n_laws_heldUnitS : Nat := 96
def n_laws_szIntS : Nat := 101
def n_spec_aResult : Nat := 102
def n_spec_aApply : Nat := 103
def n_impl_hasBattle : Nat := 104
def n_impl_isResult : Nat := 105
def n_impl_applyResult : Nat := 106
def n_spec_fAsked : Nat := 107
def n_spec_fReason : Nat := 108
def n_laws_toAttempt : Nat := 109
def n_impl_areAttempts : Nat := 110
def n_impl_attemptReason : Nat := 111
def n_laws_eqAttempt : Nat := 112
def n_laws_szOrder : Nat := 113
def n_spec_fOn : Nat := 114
def n_spec_l1All : Nat := 115
def n_spec_fAttempts : Nat := 116
def n_laws_toOrder : Nat := 117
def n_impl_isPath : Nat := 118
def n_impl_attemptOf : Nat := 119
def n_laws_eqOrder : Nat := 120
def n_spec_fDo : Nat := 125
def n_spec_oGood : Nat := 127
def n_impl_hasSheet : Nat := 128
def n_laws_szTerrainS : Nat := 129
def n_laws_szKindS : Nat := 130
def n_spec_bGood : Nat := 131
def n_spec_sUnit : Nat := 132
def n_spec_sAt : Nat := 133
def n_spec_sOwner : Nat := 134
def n_spec_aSide : Nat := 135
def n_laws_toTerrainS : Nat := 137
def n_laws_toKindS : Nat := 138
def n_laws_toUnit : Nat := 139
def n_impl_IsBoard : Nat := 140
def n_impl_goodState : Nat := 141
def n_impl_unitsAt : Nat := 142
def n_impl_ownerOf : Nat := 143
def n_impl_isNear : Nat := 144
def n_laws_eqTerrainS : Nat := 146
def n_laws_eqKindS : Nat := 147
def n_laws_eqUnit : Nat := 148
def n_laws_markTerrainS : Nat := 149
def n_laws_markKindS : Nat := 150
def n_spec_l1Rising : Nat := 151
def n_spec_gCan : Nat := 152
def n_impl_increasing : Nat := 153
def n_slices_ContainsFunc_int_int : Nat := 154
def n_impl_areOnMap_1 : Nat := 155
def n_impl_onMap : Nat := 156
def n_impl_inRange : Nat := 157
def n_impl_cloneState : Nat := 158
def n_impl_canAdvance : Nat := 159
def n_spec_aGood : Nat := 162
def n_spec_sOwn : Nat := 163
def n_spec_sLose : Nat := 164
def n_spec_aMost : Nat := 165
def n_impl_goodBattle : Nat := 166
def n_impl_loseSteps : Nat := 167
def n_impl_strongest : Nat := 168
def n_spec_fGood : Nat := 169
def n_spec_fStays : Nat := 170
def n_impl_goodAttempts : Nat := 171
def n_impl_leaves : Nat := 172
def n_spec_cStep : Nat := 173
def n_spec_fZone : Nat := 174
def n_spec_mNext : Nat := 175
def n_impl_isPath_1 : Nat := 176
def n_impl_isDirection : Nat := 177
def n_impl_stepCost : Nat := 178
def n_impl_nextTo : Nat := 179
def n_impl_zoneReason : Nat := 180
def n_impl_pathHexes : Nat := 181
def n_spec_oForm : Nat := 183
def n_spec_oFirst : Nat := 184
def n_impl_goodSheet : Nat := 185
def n_laws_szTerrain : Nat := 186
def n_laws_szKind : Nat := 187
def n_spec_rGood : Nat := 188
def n_spec_mGood : Nat := 189
def n_spec_bCost : Nat := 190
def n_laws_toTerrain : Nat := 191
def n_laws_toKind : Nat := 192
def n_impl_IsRules : Nat := 193
def n_impl_IsMap : Nat := 194
def n_impl_IsBoard_1 : Nat := 195
def n_impl_goodUnit : Nat := 196
def n_impl_directionOn : Nat := 197
def n_laws_eqTerrain : Nat := 199
def n_laws_eqKind : Nat := 200
def n_laws_markText : Nat := 201
def n_spec_gRoom : Nat := 202
def n_slices_IndexFunc_int_int : Nat := 203
def n_impl_hasUnit : Nat := 204
def n_slices_Clone_impl_Unit_impl_Unit : Nat := 205
def n_impl_stackRoom : Nat := 206
def n_spec_mHex : Nat := 209
def n_impl_hexOf : Nat := 211
def n_spec_sHex : Nat := 215
def n_spec_l1Same : Nat := 216
def n_spec_l1Most : Nat := 217
def n_slices_Equal_int_int : Nat := 218
def n_spec_fTry : Nat := 219
def n_spec_fLeaves : Nat := 220
def n_slices_ContainsFunc_impl_Attempt_impl_Attempt : Nat := 221
def n_impl_leaves_1 : Nat := 222
def n_spec_mRoad : Nat := 223
def n_spec_csWeather : Nat := 224
def n_spec_mRiver : Nat := 225
def n_spec_zIn : Nat := 226
def n_spec_mIndex : Nat := 227
def n_spec_hStep : Nat := 228
def n_impl_enterCost : Nat := 229
def n_impl_edgeOf : Nat := 230
def n_slices_Contains_int_int : Nat := 231
def n_impl_weatherCost : Nat := 232
def n_impl_indexOf : Nat := 233
def n_impl_stepBy : Nat := 234
def n_impl_inZone : Nat := 235
def n_spec_oPlaced : Nat := 236
def n_spec_oFault : Nat := 237
def n_impl_isSide : Nat := 238
def n_impl_sheetFault : Nat := 239
def n_spec_rName : Nat := 240
def n_spec_rTerrain : Nat := 241
def n_spec_rKind : Nat := 242
def n_spec_mEdges : Nat := 243
def n_spec_bTerrain : Nat := 244
def n_impl_goodTerrain : Nat := 245
def n_impl_terrainIndex : Nat := 246
def n_impl_goodKind : Nat := 247
def n_impl_kindIndex : Nat := 248
def n_impl_isEdge : Nat := 249
def n_slices_IndexFunc_impl_Attempt_impl_Attempt : Nat := 252
def n_spec_l1Has : Nat := 253
def n_spec_mEdge : Nat := 254
def n_spec_zSources : Nat := 255
def n_impl_terrainAt : Nat := 256
def n_slices_Index_int_int : Nat := 257
def n_impl_controls : Nat := 258
def n_spec_oCost : Nat := 259
def n_spec_oEnd : Nat := 260
def n_impl_orderFault : Nat := 261
def n_impl_isName : Nat := 262
def n_impl_goodTerrain_1 : Nat := 263
def n_slices_IndexFunc_impl_Terrain_impl_Terrain : Nat := 264
def n_impl_terrainIndex_1 : Nat := 265
def n_slices_IndexFunc_impl_Kind_impl_Kind : Nat := 266
def n_impl_kindIndex_1 : Nat := 267
def n_spec_zExerts : Nat := 268
def n_impl_crossesFreely : Nat := 269
def n_spec_csPath : Nat := 270
def n_spec_csCost : Nat := 271
def n_impl_ownsUnit : Nat := 272
def n_impl_PathCost : Nat := 273
def n_impl_neighboursOn : Nat := 274
def n_impl_endOf : Nat := 275
def n_impl_isMover : Nat := 276
def n_impl_costsAlong : Nat := 277
def n_impl_sumOf : Nat := 278
def n_impl_isKindOf : Nat := 279
def n_impl_isWeather : Nat := 280
/-- laws.FnExactAdvanceUnits -/
def a_laws_FnExactAdvanceUnits : AFn := ⟨4, 166, [.tmp 8], (.seq (.reg [⟨some 4, none, .box (.t 0)⟩, ⟨some 5, none, .box (.t 1)⟩, ⟨some 8, none, .asg (.c (.bool false))⟩])
 (.seq (.seq (.reg [⟨some 25, none, .rf (.t 2)⟩, ⟨some 26, none, .len (.a 25 2)⟩, ⟨some 27, none, .bin .gtr (.t 26) (.c (.int .i64 1048576))⟩])
 (.cond (.t 27) (.seq (.reg [⟨some 8, none, .asg (.c (.bool true))⟩])
 .ret) .skip))
 (.seq (.reg [⟨some 9, none, .asg (.c (.int .i64 1048576))⟩])
 (.seq (.reg [⟨some 28, none, .load true 12 (.t 4)⟩, ⟨some 29, none, .mv (.p 9)⟩, ⟨some 30, none, .call n_laws_szBoard [.a 28 4, .t 29]⟩, ⟨some 9, none, .asg (.p 30)⟩])
 (.seq (.seq (.reg [⟨some 31, none, .mv (.p 9)⟩, ⟨some 32, none, .bin .lss (.t 31) (.c (.int .i64 0))⟩])
 (.cond (.t 32) (.seq (.reg [⟨some 8, none, .asg (.c (.bool true))⟩])
 .ret) .skip))
 (.seq (.reg [⟨some 33, none, .load true 3 (.t 5)⟩, ⟨some 34, none, .mv (.p 9)⟩, ⟨some 35, none, .call n_laws_szState [.a 33 5, .t 34]⟩, ⟨some 9, none, .asg (.p 35)⟩])
 (.seq (.seq (.reg [⟨some 36, none, .mv (.p 9)⟩, ⟨some 37, none, .bin .lss (.t 36) (.c (.int .i64 0))⟩])
 (.cond (.t 37) (.seq (.reg [⟨some 8, none, .asg (.c (.bool true))⟩])
 .ret) .skip))
 (.seq (.reg [⟨some 39, none, .load true 12 (.t 4)⟩, ⟨some 40, none, .call n_laws_toBoard [.a 39 4]⟩, ⟨some 41, none, .load true 3 (.t 5)⟩, ⟨some 42, none, .call n_laws_toState [.a 41 5]⟩, ⟨some 43, none, .rf (.t 2)⟩, ⟨some 44, none, .call n_laws_toIntS [.a 43 2]⟩, ⟨some 45, none, .mv (.p 3)⟩, ⟨some 46, none, .call n_spec_AdvanceUnits [.t 40, .t 42, .t 44, .t 45]⟩, ⟨some 38, none, .mv (.t 46)⟩, ⟨some 47, none, .extract (.t 38) 0⟩, ⟨some 48, none, .extract (.p 38) 1⟩, ⟨some 49, none, .extract (.p 38) 2⟩, ⟨some 10, none, .alloc [.int .i64 0, .int .i64 0, .list true 4 []]⟩, ⟨none, none, .store 3 (.t 10) (.t 47)⟩, ⟨some 11, none, .asg (.p 48)⟩, ⟨some 12, none, .asg (.p 49)⟩])
 (.seq (.reg [⟨some 50, none, .load true 12 (.t 4)⟩, ⟨some 51, none, .call n_laws_toBoard [.a 50 4]⟩, ⟨some 13, none, .alloc [.list true 5 [], .list true 6 [], .int .i64 0, .int .i64 0, .int .i64 0, .int .i64 0, .int .i64 0, .int .i64 0, .int .i64 0, .list true 1 [], .list true 1 [], .list true 1 []]⟩, ⟨none, none, .store 12 (.t 13) (.t 51)⟩])
 (.seq (.reg [⟨some 52, none, .load true 3 (.t 5)⟩, ⟨some 53, none, .call n_laws_toState [.a 52 5]⟩, ⟨some 14, none, .alloc [.int .i64 0, .int .i64 0, .list true 4 []]⟩, ⟨none, none, .store 3 (.t 14) (.t 53)⟩])
 (.seq (.reg [⟨some 54, none, .rf (.t 2)⟩, ⟨some 55, none, .call n_laws_toIntS [.a 54 2]⟩, ⟨some 15, none, .asg (.t 55)⟩])
 (.seq (.reg [⟨some 57, none, .load true 12 (.t 13)⟩, ⟨some 58, none, .load true 3 (.t 14)⟩, ⟨some 59, none, .rf (.t 15)⟩, ⟨some 60, none, .mv (.p 3)⟩, ⟨some 61, none, .call n_impl_AdvanceUnits [.a 57 13, .a 58 14, .a 59 15, .t 60]⟩, ⟨some 56, none, .mv (.t 61)⟩, ⟨some 62, none, .extract (.t 56) 0⟩, ⟨some 63, none, .extract (.p 56) 1⟩, ⟨some 64, none, .extract (.p 56) 2⟩, ⟨some 16, none, .alloc [.int .i64 0, .int .i64 0, .list true 4 []]⟩, ⟨none, none, .store 3 (.t 16) (.t 62)⟩, ⟨some 17, none, .asg (.p 63)⟩, ⟨some 18, none, .asg (.p 64)⟩])
 (.seq (.seq (.reg [⟨some 65, none, .load true 3 (.t 16)⟩, ⟨some 66, none, .load true 3 (.t 10)⟩, ⟨some 67, none, .call n_laws_eqState [.a 65 16, .a 66 10]⟩, ⟨some 68, none, .un .not (.t 67)⟩, ⟨some 69, none, .mv (.p 68)⟩, ⟨some 70, some (69, false), .mv (.p 17)⟩, ⟨some 71, some (69, false), .mv (.p 11)⟩, ⟨some 72, some (69, false), .bin .neq (.t 70) (.t 71)⟩, ⟨some 73, none, .pick (.t 69) (.c (.bool true)) (.t 72)⟩, ⟨some 74, none, .mv (.p 73)⟩, ⟨some 75, some (74, false), .mv (.p 18)⟩, ⟨some 76, some (74, false), .mv (.p 12)⟩, ⟨some 77, some (74, false), .beq true (.t 75) (.t 76)⟩, ⟨some 78, none, .pick (.t 74) (.c (.bool true)) (.t 77)⟩])
 (.cond (.t 78) (.seq (.reg [⟨some 8, none, .asg (.c (.bool false))⟩])
 .ret) .skip))
 (.seq (.seq (.reg [⟨some 79, none, .load true 12 (.t 13)⟩, ⟨some 80, none, .load true 12 (.t 4)⟩, ⟨some 81, none, .call n_laws_toBoard [.a 80 4]⟩, ⟨some 82, none, .call n_laws_eqBoard [.a 79 13, .t 81]⟩, ⟨some 83, none, .un .not (.t 82)⟩])
 (.cond (.t 83) (.seq (.reg [⟨some 8, none, .asg (.c (.bool false))⟩])
 .ret) .skip))
 (.seq (.seq (.reg [⟨some 84, none, .load true 3 (.t 14)⟩, ⟨some 85, none, .load true 3 (.t 5)⟩, ⟨some 86, none, .call n_laws_toState [.a 85 5]⟩, ⟨some 87, none, .call n_laws_eqState [.a 84 14, .t 86]⟩, ⟨some 88, none, .un .not (.t 87)⟩])
 (.cond (.t 88) (.seq (.reg [⟨some 8, none, .asg (.c (.bool false))⟩])
 .ret) .skip))
 (.seq (.seq (.reg [⟨some 89, none, .rf (.t 15)⟩, ⟨some 90, none, .rf (.t 2)⟩, ⟨some 91, none, .call n_laws_toIntS [.a 90 2]⟩, ⟨some 92, none, .call n_laws_eqIntS [.a 89 15, .t 91]⟩, ⟨some 93, none, .un .not (.t 92)⟩])
 (.cond (.t 93) (.seq (.reg [⟨some 8, none, .asg (.c (.bool false))⟩])
 .ret) .skip))
 (.seq (.reg [⟨some 19, none, .asg (.c (.int .i64 1))⟩])
 (.seq (.reg [⟨some 94, none, .load true 12 (.t 13)⟩, ⟨some 95, none, .mv (.p 19)⟩, ⟨some 96, none, .calli n_laws_markBoard 94 13 [.t 95]⟩, ⟨some 19, none, .asg (.p 96)⟩])
 (.seq (.reg [⟨some 97, none, .load true 3 (.t 14)⟩, ⟨some 98, none, .mv (.p 19)⟩, ⟨some 99, none, .calli n_laws_markState 97 14 [.t 98]⟩, ⟨some 19, none, .asg (.p 99)⟩])
 (.seq (.reg [⟨some 100, none, .rf (.t 15)⟩, ⟨some 101, none, .mv (.p 19)⟩, ⟨some 102, none, .calli n_laws_markIntS 100 15 [.t 101]⟩, ⟨some 19, none, .asg (.p 102)⟩])
 (.seq (.seq (.reg [⟨some 103, none, .mv (.p 19)⟩, ⟨some 104, none, .bin .lss (.t 103) (.c (.int .i64 0))⟩, ⟨some 105, none, .mv (.p 104)⟩, ⟨some 106, some (105, false), .load true 3 (.t 16)⟩, ⟨some 107, some (105, false), .load true 3 (.t 10)⟩, ⟨some 108, some (105, false), .call n_laws_eqState [.a 106 16, .a 107 10]⟩, ⟨some 109, some (105, false), .un .not (.t 108)⟩, ⟨some 110, none, .pick (.t 105) (.c (.bool true)) (.t 109)⟩, ⟨some 111, none, .mv (.p 110)⟩, ⟨some 112, some (111, false), .mv (.p 17)⟩, ⟨some 113, some (111, false), .mv (.p 11)⟩, ⟨some 114, some (111, false), .bin .neq (.t 112) (.t 113)⟩, ⟨some 115, none, .pick (.t 111) (.c (.bool true)) (.t 114)⟩, ⟨some 116, none, .mv (.p 115)⟩, ⟨some 117, some (116, false), .mv (.p 18)⟩, ⟨some 118, some (116, false), .mv (.p 12)⟩, ⟨some 119, some (116, false), .beq true (.t 117) (.t 118)⟩, ⟨some 120, none, .pick (.t 116) (.c (.bool true)) (.t 119)⟩])
 (.cond (.t 120) (.seq (.reg [⟨some 8, none, .asg (.c (.bool false))⟩])
 .ret) .skip))
 (.seq (.reg [⟨some 20, none, .asg (.c (.int .i64 1))⟩])
 (.seq (.reg [⟨some 121, none, .load true 3 (.t 16)⟩, ⟨some 122, none, .mv (.p 20)⟩, ⟨some 123, none, .calli n_laws_markState 121 16 [.t 122]⟩, ⟨some 20, none, .asg (.p 123)⟩])
 (.seq (.reg [⟨some 21, none, .asg (.c (.int .i64 1))⟩])
 (.seq (.reg [⟨some 124, none, .load true 3 (.t 16)⟩, ⟨some 125, none, .mv (.p 21)⟩, ⟨some 126, none, .call n_laws_heldState [.a 124 16, .t 125]⟩, ⟨some 21, none, .asg (.p 126)⟩])
 (.seq (.seq (.reg [⟨some 127, none, .mv (.p 21)⟩, ⟨some 128, none, .bin .lss (.t 127) (.c (.int .i64 0))⟩])
 (.cond (.t 128) (.seq (.reg [⟨some 8, none, .asg (.c (.bool false))⟩])
 .ret) .skip))
 (.seq (.seq (.reg [⟨some 129, none, .mv (.p 21)⟩, ⟨some 130, none, .mv (.p 20)⟩, ⟨some 131, none, .bin .neq (.t 129) (.t 130)⟩])
 (.cond (.t 131) (.seq (.reg [⟨some 8, none, .asg (.c (.bool false))⟩])
 .ret) .skip))
 (.seq (.reg [⟨some 133, none, .load true 12 (.t 4)⟩, ⟨some 134, none, .call n_laws_toBoard [.a 133 4]⟩, ⟨some 135, none, .load true 3 (.t 5)⟩, ⟨some 136, none, .call n_laws_toState [.a 135 5]⟩, ⟨some 137, none, .rf (.t 2)⟩, ⟨some 138, none, .call n_laws_toIntS [.a 137 2]⟩, ⟨some 139, none, .mv (.p 3)⟩, ⟨some 140, none, .call n_impl_AdvanceUnits [.t 134, .t 136, .t 138, .t 139]⟩, ⟨some 132, none, .mv (.t 140)⟩, ⟨some 141, none, .extract (.t 132) 0⟩, ⟨some 142, none, .extract (.p 132) 1⟩, ⟨some 143, none, .extract (.p 132) 2⟩, ⟨some 22, none, .alloc [.int .i64 0, .int .i64 0, .list true 4 []]⟩, ⟨none, none, .store 3 (.t 22) (.t 141)⟩, ⟨some 23, none, .asg (.p 142)⟩, ⟨some 24, none, .asg (.p 143)⟩])
 (.seq (.seq (.reg [⟨some 144, none, .load true 3 (.t 22)⟩, ⟨some 145, none, .load true 3 (.t 10)⟩, ⟨some 146, none, .call n_laws_eqState [.a 144 22, .a 145 10]⟩, ⟨some 147, none, .un .not (.t 146)⟩, ⟨some 148, none, .mv (.p 147)⟩, ⟨some 149, some (148, false), .mv (.p 23)⟩, ⟨some 150, some (148, false), .mv (.p 11)⟩, ⟨some 151, some (148, false), .bin .neq (.t 149) (.t 150)⟩, ⟨some 152, none, .pick (.t 148) (.c (.bool true)) (.t 151)⟩, ⟨some 153, none, .mv (.p 152)⟩, ⟨some 154, some (153, false), .mv (.p 24)⟩, ⟨some 155, some (153, false), .mv (.p 12)⟩, ⟨some 156, some (153, false), .beq true (.t 154) (.t 155)⟩, ⟨some 157, none, .pick (.t 153) (.c (.bool true)) (.t 156)⟩])
 (.cond (.t 157) (.seq (.reg [⟨some 8, none, .asg (.c (.bool false))⟩])
 .ret) .skip))
 (.seq (.reg [⟨some 21, none, .asg (.c (.int .i64 1))⟩])
 (.seq (.reg [⟨some 158, none, .load true 3 (.t 16)⟩, ⟨some 159, none, .mv (.p 21)⟩, ⟨some 160, none, .call n_laws_heldState [.a 158 16, .t 159]⟩, ⟨some 21, none, .asg (.p 160)⟩])
 (.seq (.seq (.reg [⟨some 161, none, .mv (.p 21)⟩, ⟨some 162, none, .bin .lss (.t 161) (.c (.int .i64 0))⟩])
 (.cond (.t 162) (.seq (.reg [⟨some 8, none, .asg (.c (.bool false))⟩])
 .ret) .skip))
 (.seq (.seq (.reg [⟨some 163, none, .mv (.p 21)⟩, ⟨some 164, none, .mv (.p 20)⟩, ⟨some 165, none, .bin .neq (.t 163) (.t 164)⟩])
 (.cond (.t 165) (.seq (.reg [⟨some 8, none, .asg (.c (.bool false))⟩])
 .ret) .skip))
 (.seq (.reg [⟨some 8, none, .asg (.c (.bool true))⟩])
 .ret))))))))))))))))))))))))))))))))))⟩
/-- laws.FnExactApplyResult -/
def a_laws_FnExactApplyResult : AFn := ⟨4, 147, [.tmp 8], (.seq (.reg [⟨some 4, none, .box (.t 0)⟩, ⟨some 5, none, .box (.t 1)⟩, ⟨some 6, none, .box (.t 2)⟩, ⟨some 8, none, .asg (.c (.bool false))⟩])
 (.seq (.reg [⟨some 9, none, .asg (.c (.int .i64 1048576))⟩])
 (.seq (.reg [⟨some 22, none, .load true 12 (.t 4)⟩, ⟨some 23, none, .mv (.p 9)⟩, ⟨some 24, none, .call n_laws_szBoard [.a 22 4, .t 23]⟩, ⟨some 9, none, .asg (.p 24)⟩])
 (.seq (.seq (.reg [⟨some 25, none, .mv (.p 9)⟩, ⟨some 26, none, .bin .lss (.t 25) (.c (.int .i64 0))⟩])
 (.cond (.t 26) (.seq (.reg [⟨some 8, none, .asg (.c (.bool true))⟩])
 .ret) .skip))
 (.seq (.reg [⟨some 27, none, .load true 3 (.t 5)⟩, ⟨some 28, none, .mv (.p 9)⟩, ⟨some 29, none, .call n_laws_szState [.a 27 5, .t 28]⟩, ⟨some 9, none, .asg (.p 29)⟩])
 (.seq (.seq (.reg [⟨some 30, none, .mv (.p 9)⟩, ⟨some 31, none, .bin .lss (.t 30) (.c (.int .i64 0))⟩])
 (.cond (.t 31) (.seq (.reg [⟨some 8, none, .asg (.c (.bool true))⟩])
 .ret) .skip))
 (.seq (.reg [⟨some 32, none, .load true 3 (.t 6)⟩, ⟨some 33, none, .mv (.p 9)⟩, ⟨some 34, none, .call n_laws_szBattle [.a 32 6, .t 33]⟩, ⟨some 9, none, .asg (.p 34)⟩])
 (.seq (.seq (.reg [⟨some 35, none, .mv (.p 9)⟩, ⟨some 36, none, .bin .lss (.t 35) (.c (.int .i64 0))⟩])
 (.cond (.t 36) (.seq (.reg [⟨some 8, none, .asg (.c (.bool true))⟩])
 .ret) .skip))
 (.seq (.reg [⟨some 38, none, .load true 12 (.t 4)⟩, ⟨some 39, none, .call n_laws_toBoard [.a 38 4]⟩, ⟨some 40, none, .load true 3 (.t 5)⟩, ⟨some 41, none, .call n_laws_toState [.a 40 5]⟩, ⟨some 42, none, .load true 3 (.t 6)⟩, ⟨some 43, none, .call n_laws_toBattle [.a 42 6]⟩, ⟨some 44, none, .mv (.p 3)⟩, ⟨some 45, none, .call n_spec_ApplyResult [.t 39, .t 41, .t 43, .t 44]⟩, ⟨some 37, none, .mv (.t 45)⟩, ⟨some 46, none, .extract (.t 37) 0⟩, ⟨some 47, none, .extract (.p 37) 1⟩, ⟨some 10, none, .alloc [.int .i64 0, .int .i64 0, .list true 4 []]⟩, ⟨none, none, .store 3 (.t 10) (.t 46)⟩, ⟨some 11, none, .asg (.p 47)⟩])
 (.seq (.reg [⟨some 48, none, .load true 12 (.t 4)⟩, ⟨some 49, none, .call n_laws_toBoard [.a 48 4]⟩, ⟨some 12, none, .alloc [.list true 5 [], .list true 6 [], .int .i64 0, .int .i64 0, .int .i64 0, .int .i64 0, .int .i64 0, .int .i64 0, .int .i64 0, .list true 1 [], .list true 1 [], .list true 1 []]⟩, ⟨none, none, .store 12 (.t 12) (.t 49)⟩])
 (.seq (.reg [⟨some 50, none, .load true 3 (.t 5)⟩, ⟨some 51, none, .call n_laws_toState [.a 50 5]⟩, ⟨some 13, none, .alloc [.int .i64 0, .int .i64 0, .list true 4 []]⟩, ⟨none, none, .store 3 (.t 13) (.t 51)⟩])
 (.seq (.reg [⟨some 52, none, .load true 3 (.t 6)⟩, ⟨some 53, none, .call n_laws_toBattle [.a 52 6]⟩, ⟨some 14, none, .alloc [.int .i64 0, .list true 1 [], .list true 1 []]⟩, ⟨none, none, .store 3 (.t 14) (.t 53)⟩])
 (.seq (.reg [⟨some 55, none, .load true 12 (.t 12)⟩, ⟨some 56, none, .load true 3 (.t 13)⟩, ⟨some 57, none, .load true 3 (.t 14)⟩, ⟨some 58, none, .mv (.p 3)⟩, ⟨some 59, none, .call n_impl_ApplyResult [.a 55 12, .a 56 13, .a 57 14, .t 58]⟩, ⟨some 54, none, .mv (.t 59)⟩, ⟨some 60, none, .extract (.t 54) 0⟩, ⟨some 61, none, .extract (.p 54) 1⟩, ⟨some 15, none, .alloc [.int .i64 0, .int .i64 0, .list true 4 []]⟩, ⟨none, none, .store 3 (.t 15) (.t 60)⟩, ⟨some 16, none, .asg (.p 61)⟩])
 (.seq (.seq (.reg [⟨some 62, none, .load true 3 (.t 15)⟩, ⟨some 63, none, .load true 3 (.t 10)⟩, ⟨some 64, none, .call n_laws_eqState [.a 62 15, .a 63 10]⟩, ⟨some 65, none, .un .not (.t 64)⟩, ⟨some 66, none, .mv (.p 65)⟩, ⟨some 67, some (66, false), .mv (.p 16)⟩, ⟨some 68, some (66, false), .mv (.p 11)⟩, ⟨some 69, some (66, false), .beq true (.t 67) (.t 68)⟩, ⟨some 70, none, .pick (.t 66) (.c (.bool true)) (.t 69)⟩])
 (.cond (.t 70) (.seq (.reg [⟨some 8, none, .asg (.c (.bool false))⟩])
 .ret) .skip))
 (.seq (.seq (.reg [⟨some 71, none, .load true 12 (.t 12)⟩, ⟨some 72, none, .load true 12 (.t 4)⟩, ⟨some 73, none, .call n_laws_toBoard [.a 72 4]⟩, ⟨some 74, none, .call n_laws_eqBoard [.a 71 12, .t 73]⟩, ⟨some 75, none, .un .not (.t 74)⟩])
 (.cond (.t 75) (.seq (.reg [⟨some 8, none, .asg (.c (.bool false))⟩])
 .ret) .skip))
 (.seq (.seq (.reg [⟨some 76, none, .load true 3 (.t 13)⟩, ⟨some 77, none, .load true 3 (.t 5)⟩, ⟨some 78, none, .call n_laws_toState [.a 77 5]⟩, ⟨some 79, none, .call n_laws_eqState [.a 76 13, .t 78]⟩, ⟨some 80, none, .un .not (.t 79)⟩])
 (.cond (.t 80) (.seq (.reg [⟨some 8, none, .asg (.c (.bool false))⟩])
 .ret) .skip))
 (.seq (.seq (.reg [⟨some 81, none, .load true 3 (.t 14)⟩, ⟨some 82, none, .load true 3 (.t 6)⟩, ⟨some 83, none, .call n_laws_toBattle [.a 82 6]⟩, ⟨some 84, none, .call n_laws_eqBattle [.a 81 14, .t 83]⟩, ⟨some 85, none, .un .not (.t 84)⟩])
 (.cond (.t 85) (.seq (.reg [⟨some 8, none, .asg (.c (.bool false))⟩])
 .ret) .skip))
 (.seq (.reg [⟨some 17, none, .asg (.c (.int .i64 1))⟩])
 (.seq (.reg [⟨some 86, none, .load true 12 (.t 12)⟩, ⟨some 87, none, .mv (.p 17)⟩, ⟨some 88, none, .calli n_laws_markBoard 86 12 [.t 87]⟩, ⟨some 17, none, .asg (.p 88)⟩])
 (.seq (.reg [⟨some 89, none, .load true 3 (.t 13)⟩, ⟨some 90, none, .mv (.p 17)⟩, ⟨some 91, none, .calli n_laws_markState 89 13 [.t 90]⟩, ⟨some 17, none, .asg (.p 91)⟩])
 (.seq (.reg [⟨some 92, none, .load true 3 (.t 14)⟩, ⟨some 93, none, .mv (.p 17)⟩, ⟨some 94, none, .calli n_laws_markBattle 92 14 [.t 93]⟩, ⟨some 17, none, .asg (.p 94)⟩])
 (.seq (.seq (.reg [⟨some 95, none, .mv (.p 17)⟩, ⟨some 96, none, .bin .lss (.t 95) (.c (.int .i64 0))⟩, ⟨some 97, none, .mv (.p 96)⟩, ⟨some 98, some (97, false), .load true 3 (.t 15)⟩, ⟨some 99, some (97, false), .load true 3 (.t 10)⟩, ⟨some 100, some (97, false), .call n_laws_eqState [.a 98 15, .a 99 10]⟩, ⟨some 101, some (97, false), .un .not (.t 100)⟩, ⟨some 102, none, .pick (.t 97) (.c (.bool true)) (.t 101)⟩, ⟨some 103, none, .mv (.p 102)⟩, ⟨some 104, some (103, false), .mv (.p 16)⟩, ⟨some 105, some (103, false), .mv (.p 11)⟩, ⟨some 106, some (103, false), .beq true (.t 104) (.t 105)⟩, ⟨some 107, none, .pick (.t 103) (.c (.bool true)) (.t 106)⟩])
 (.cond (.t 107) (.seq (.reg [⟨some 8, none, .asg (.c (.bool false))⟩])
 .ret) .skip))
 (.seq (.reg [⟨some 18, none, .asg (.c (.int .i64 1))⟩])
 (.seq (.reg [⟨some 108, none, .load true 3 (.t 15)⟩, ⟨some 109, none, .mv (.p 18)⟩, ⟨some 110, none, .calli n_laws_markState 108 15 [.t 109]⟩, ⟨some 18, none, .asg (.p 110)⟩])
 (.seq (.reg [⟨some 19, none, .asg (.c (.int .i64 1))⟩])
 (.seq (.reg [⟨some 111, none, .load true 3 (.t 15)⟩, ⟨some 112, none, .mv (.p 19)⟩, ⟨some 113, none, .call n_laws_heldState [.a 111 15, .t 112]⟩, ⟨some 19, none, .asg (.p 113)⟩])
 (.seq (.seq (.reg [⟨some 114, none, .mv (.p 19)⟩, ⟨some 115, none, .bin .lss (.t 114) (.c (.int .i64 0))⟩])
 (.cond (.t 115) (.seq (.reg [⟨some 8, none, .asg (.c (.bool false))⟩])
 .ret) .skip))
 (.seq (.seq (.reg [⟨some 116, none, .mv (.p 19)⟩, ⟨some 117, none, .mv (.p 18)⟩, ⟨some 118, none, .bin .neq (.t 116) (.t 117)⟩])
 (.cond (.t 118) (.seq (.reg [⟨some 8, none, .asg (.c (.bool false))⟩])
 .ret) .skip))
 (.seq (.reg [⟨some 120, none, .load true 12 (.t 4)⟩, ⟨some 121, none, .call n_laws_toBoard [.a 120 4]⟩, ⟨some 122, none, .load true 3 (.t 5)⟩, ⟨some 123, none, .call n_laws_toState [.a 122 5]⟩, ⟨some 124, none, .load true 3 (.t 6)⟩, ⟨some 125, none, .call n_laws_toBattle [.a 124 6]⟩, ⟨some 126, none, .mv (.p 3)⟩, ⟨some 127, none, .call n_impl_ApplyResult [.t 121, .t 123, .t 125, .t 126]⟩, ⟨some 119, none, .mv (.t 127)⟩, ⟨some 128, none, .extract (.t 119) 0⟩, ⟨some 129, none, .extract (.p 119) 1⟩, ⟨some 20, none, .alloc [.int .i64 0, .int .i64 0, .list true 4 []]⟩, ⟨none, none, .store 3 (.t 20) (.t 128)⟩, ⟨some 21, none, .asg (.p 129)⟩])
 (.seq (.seq (.reg [⟨some 130, none, .load true 3 (.t 20)⟩, ⟨some 131, none, .load true 3 (.t 10)⟩, ⟨some 132, none, .call n_laws_eqState [.a 130 20, .a 131 10]⟩, ⟨some 133, none, .un .not (.t 132)⟩, ⟨some 134, none, .mv (.p 133)⟩, ⟨some 135, some (134, false), .mv (.p 21)⟩, ⟨some 136, some (134, false), .mv (.p 11)⟩, ⟨some 137, some (134, false), .beq true (.t 135) (.t 136)⟩, ⟨some 138, none, .pick (.t 134) (.c (.bool true)) (.t 137)⟩])
 (.cond (.t 138) (.seq (.reg [⟨some 8, none, .asg (.c (.bool false))⟩])
 .ret) .skip))
 (.seq (.reg [⟨some 19, none, .asg (.c (.int .i64 1))⟩])
 (.seq (.reg [⟨some 139, none, .load true 3 (.t 15)⟩, ⟨some 140, none, .mv (.p 19)⟩, ⟨some 141, none, .call n_laws_heldState [.a 139 15, .t 140]⟩, ⟨some 19, none, .asg (.p 141)⟩])
 (.seq (.seq (.reg [⟨some 142, none, .mv (.p 19)⟩, ⟨some 143, none, .bin .lss (.t 142) (.c (.int .i64 0))⟩])
 (.cond (.t 143) (.seq (.reg [⟨some 8, none, .asg (.c (.bool false))⟩])
 .ret) .skip))
 (.seq (.seq (.reg [⟨some 144, none, .mv (.p 19)⟩, ⟨some 145, none, .mv (.p 18)⟩, ⟨some 146, none, .bin .neq (.t 144) (.t 145)⟩])
 (.cond (.t 146) (.seq (.reg [⟨some 8, none, .asg (.c (.bool false))⟩])
 .ret) .skip))
 (.seq (.reg [⟨some 8, none, .asg (.c (.bool true))⟩])
 .ret)))))))))))))))))))))))))))))))))))⟩
/-- laws.FnExactRefusedIn -/
def a_laws_FnExactRefusedIn : AFn := ⟨3, 142, [.tmp 6], (.seq (.reg [⟨some 3, none, .box (.t 0)⟩, ⟨some 4, none, .box (.t 1)⟩, ⟨some 6, none, .asg (.c (.bool false))⟩])
 (.seq (.reg [⟨some 7, none, .asg (.c (.int .i64 1048576))⟩])
 (.seq (.reg [⟨some 20, none, .load true 12 (.t 3)⟩, ⟨some 21, none, .mv (.p 7)⟩, ⟨some 22, none, .call n_laws_szBoard [.a 20 3, .t 21]⟩, ⟨some 7, none, .asg (.p 22)⟩])
 (.seq (.seq (.reg [⟨some 23, none, .mv (.p 7)⟩, ⟨some 24, none, .bin .lss (.t 23) (.c (.int .i64 0))⟩])
 (.cond (.t 24) (.seq (.reg [⟨some 6, none, .asg (.c (.bool true))⟩])
 .ret) .skip))
 (.seq (.reg [⟨some 25, none, .load true 3 (.t 4)⟩, ⟨some 26, none, .mv (.p 7)⟩, ⟨some 27, none, .call n_laws_szState [.a 25 4, .t 26]⟩, ⟨some 7, none, .asg (.p 27)⟩])
 (.seq (.seq (.reg [⟨some 28, none, .mv (.p 7)⟩, ⟨some 29, none, .bin .lss (.t 28) (.c (.int .i64 0))⟩])
 (.cond (.t 29) (.seq (.reg [⟨some 6, none, .asg (.c (.bool true))⟩])
 .ret) .skip))
 (.seq (.reg [⟨some 30, none, .rf (.t 2)⟩, ⟨some 31, none, .mv (.p 7)⟩, ⟨some 32, none, .call n_laws_szAttemptS [.a 30 2, .t 31]⟩, ⟨some 7, none, .asg (.p 32)⟩])
 (.seq (.seq (.reg [⟨some 33, none, .mv (.p 7)⟩, ⟨some 34, none, .bin .lss (.t 33) (.c (.int .i64 0))⟩])
 (.cond (.t 34) (.seq (.reg [⟨some 6, none, .asg (.c (.bool true))⟩])
 .ret) .skip))
 (.seq (.reg [⟨some 36, none, .load true 12 (.t 3)⟩, ⟨some 37, none, .call n_laws_toBoard [.a 36 3]⟩, ⟨some 38, none, .load true 3 (.t 4)⟩, ⟨some 39, none, .call n_laws_toState [.a 38 4]⟩, ⟨some 40, none, .rf (.t 2)⟩, ⟨some 41, none, .call n_laws_toAttemptS [.a 40 2]⟩, ⟨some 42, none, .call n_spec_RefusedIn [.t 37, .t 39, .t 41]⟩, ⟨some 35, none, .mv (.t 42)⟩, ⟨some 43, none, .extract (.t 35) 0⟩, ⟨some 44, none, .extract (.p 35) 1⟩, ⟨some 8, none, .asg (.t 43)⟩, ⟨some 9, none, .asg (.p 44)⟩])
 (.seq (.reg [⟨some 45, none, .load true 12 (.t 3)⟩, ⟨some 46, none, .call n_laws_toBoard [.a 45 3]⟩, ⟨some 10, none, .alloc [.list true 5 [], .list true 6 [], .int .i64 0, .int .i64 0, .int .i64 0, .int .i64 0, .int .i64 0, .int .i64 0, .int .i64 0, .list true 1 [], .list true 1 [], .list true 1 []]⟩, ⟨none, none, .store 12 (.t 10) (.t 46)⟩])
 (.seq (.reg [⟨some 47, none, .load true 3 (.t 4)⟩, ⟨some 48, none, .call n_laws_toState [.a 47 4]⟩, ⟨some 11, none, .alloc [.int .i64 0, .int .i64 0, .list true 4 []]⟩, ⟨none, none, .store 3 (.t 11) (.t 48)⟩])
 (.seq (.reg [⟨some 49, none, .rf (.t 2)⟩, ⟨some 50, none, .call n_laws_toAttemptS [.a 49 2]⟩, ⟨some 12, none, .asg (.t 50)⟩])
 (.seq (.reg [⟨some 52, none, .load true 12 (.t 10)⟩, ⟨some 53, none, .load true 3 (.t 11)⟩, ⟨some 54, none, .rf (.t 12)⟩, ⟨some 55, none, .call n_impl_RefusedIn [.a 52 10, .a 53 11, .a 54 12]⟩, ⟨some 51, none, .mv (.t 55)⟩, ⟨some 56, none, .extract (.t 51) 0⟩, ⟨some 57, none, .extract (.p 51) 1⟩, ⟨some 13, none, .asg (.t 56)⟩, ⟨some 14, none, .asg (.p 57)⟩])
 (.seq (.seq (.reg [⟨some 58, none, .rf (.t 13)⟩, ⟨some 59, none, .rf (.t 8)⟩, ⟨some 60, none, .call n_laws_eqIntS [.a 58 13, .a 59 8]⟩, ⟨some 61, none, .un .not (.t 60)⟩, ⟨some 62, none, .mv (.p 61)⟩, ⟨some 63, some (62, false), .mv (.p 14)⟩, ⟨some 64, some (62, false), .mv (.p 9)⟩, ⟨some 65, some (62, false), .beq true (.t 63) (.t 64)⟩, ⟨some 66, none, .pick (.t 62) (.c (.bool true)) (.t 65)⟩])
 (.cond (.t 66) (.seq (.reg [⟨some 6, none, .asg (.c (.bool false))⟩])
 .ret) .skip))
 (.seq (.seq (.reg [⟨some 67, none, .load true 12 (.t 10)⟩, ⟨some 68, none, .load true 12 (.t 3)⟩, ⟨some 69, none, .call n_laws_toBoard [.a 68 3]⟩, ⟨some 70, none, .call n_laws_eqBoard [.a 67 10, .t 69]⟩, ⟨some 71, none, .un .not (.t 70)⟩])
 (.cond (.t 71) (.seq (.reg [⟨some 6, none, .asg (.c (.bool false))⟩])
 .ret) .skip))
 (.seq (.seq (.reg [⟨some 72, none, .load true 3 (.t 11)⟩, ⟨some 73, none, .load true 3 (.t 4)⟩, ⟨some 74, none, .call n_laws_toState [.a 73 4]⟩, ⟨some 75, none, .call n_laws_eqState [.a 72 11, .t 74]⟩, ⟨some 76, none, .un .not (.t 75)⟩])
 (.cond (.t 76) (.seq (.reg [⟨some 6, none, .asg (.c (.bool false))⟩])
 .ret) .skip))
 (.seq (.seq (.reg [⟨some 77, none, .rf (.t 12)⟩, ⟨some 78, none, .rf (.t 2)⟩, ⟨some 79, none, .call n_laws_toAttemptS [.a 78 2]⟩, ⟨some 80, none, .call n_laws_eqAttemptS [.a 77 12, .t 79]⟩, ⟨some 81, none, .un .not (.t 80)⟩])
 (.cond (.t 81) (.seq (.reg [⟨some 6, none, .asg (.c (.bool false))⟩])
 .ret) .skip))
 (.seq (.reg [⟨some 15, none, .asg (.c (.int .i64 1))⟩])
 (.seq (.reg [⟨some 82, none, .load true 12 (.t 10)⟩, ⟨some 83, none, .mv (.p 15)⟩, ⟨some 84, none, .calli n_laws_markBoard 82 10 [.t 83]⟩, ⟨some 15, none, .asg (.p 84)⟩])
 (.seq (.reg [⟨some 85, none, .load true 3 (.t 11)⟩, ⟨some 86, none, .mv (.p 15)⟩, ⟨some 87, none, .calli n_laws_markState 85 11 [.t 86]⟩, ⟨some 15, none, .asg (.p 87)⟩])
 (.seq (.reg [⟨some 88, none, .rf (.t 12)⟩, ⟨some 89, none, .mv (.p 15)⟩, ⟨some 90, none, .calli n_laws_markAttemptS 88 12 [.t 89]⟩, ⟨some 15, none, .asg (.p 90)⟩])
 (.seq (.seq (.reg [⟨some 91, none, .mv (.p 15)⟩, ⟨some 92, none, .bin .lss (.t 91) (.c (.int .i64 0))⟩, ⟨some 93, none, .mv (.p 92)⟩, ⟨some 94, some (93, false), .rf (.t 13)⟩, ⟨some 95, some (93, false), .rf (.t 8)⟩, ⟨some 96, some (93, false), .call n_laws_eqIntS [.a 94 13, .a 95 8]⟩, ⟨some 97, some (93, false), .un .not (.t 96)⟩, ⟨some 98, none, .pick (.t 93) (.c (.bool true)) (.t 97)⟩, ⟨some 99, none, .mv (.p 98)⟩, ⟨some 100, some (99, false), .mv (.p 14)⟩, ⟨some 101, some (99, false), .mv (.p 9)⟩, ⟨some 102, some (99, false), .beq true (.t 100) (.t 101)⟩, ⟨some 103, none, .pick (.t 99) (.c (.bool true)) (.t 102)⟩])
 (.cond (.t 103) (.seq (.reg [⟨some 6, none, .asg (.c (.bool false))⟩])
 .ret) .skip))
 (.seq (.reg [⟨some 16, none, .asg (.c (.int .i64 1))⟩])
 (.seq (.reg [⟨some 104, none, .rf (.t 13)⟩, ⟨some 105, none, .mv (.p 16)⟩, ⟨some 106, none, .calli n_laws_markIntS 104 13 [.t 105]⟩, ⟨some 16, none, .asg (.p 106)⟩])
 (.seq (.reg [⟨some 17, none, .asg (.c (.int .i64 1))⟩])
 (.seq (.reg [⟨some 107, none, .rf (.t 13)⟩, ⟨some 108, none, .mv (.p 17)⟩, ⟨some 109, none, .call n_laws_heldIntS [.a 107 13, .t 108]⟩, ⟨some 17, none, .asg (.p 109)⟩])
 (.seq (.seq (.reg [⟨some 110, none, .mv (.p 17)⟩, ⟨some 111, none, .bin .lss (.t 110) (.c (.int .i64 0))⟩])
 (.cond (.t 111) (.seq (.reg [⟨some 6, none, .asg (.c (.bool false))⟩])
 .ret) .skip))
 (.seq (.seq (.reg [⟨some 112, none, .mv (.p 17)⟩, ⟨some 113, none, .mv (.p 16)⟩, ⟨some 114, none, .bin .neq (.t 112) (.t 113)⟩])
 (.cond (.t 114) (.seq (.reg [⟨some 6, none, .asg (.c (.bool false))⟩])
 .ret) .skip))
 (.seq (.reg [⟨some 116, none, .load true 12 (.t 3)⟩, ⟨some 117, none, .call n_laws_toBoard [.a 116 3]⟩, ⟨some 118, none, .load true 3 (.t 4)⟩, ⟨some 119, none, .call n_laws_toState [.a 118 4]⟩, ⟨some 120, none, .rf (.t 2)⟩, ⟨some 121, none, .call n_laws_toAttemptS [.a 120 2]⟩, ⟨some 122, none, .call n_impl_RefusedIn [.t 117, .t 119, .t 121]⟩, ⟨some 115, none, .mv (.t 122)⟩, ⟨some 123, none, .extract (.t 115) 0⟩, ⟨some 124, none, .extract (.p 115) 1⟩, ⟨some 18, none, .asg (.t 123)⟩, ⟨some 19, none, .asg (.p 124)⟩])
 (.seq (.seq (.reg [⟨some 125, none, .rf (.t 18)⟩, ⟨some 126, none, .rf (.t 8)⟩, ⟨some 127, none, .call n_laws_eqIntS [.a 125 18, .a 126 8]⟩, ⟨some 128, none, .un .not (.t 127)⟩, ⟨some 129, none, .mv (.p 128)⟩, ⟨some 130, some (129, false), .mv (.p 19)⟩, ⟨some 131, some (129, false), .mv (.p 9)⟩, ⟨some 132, some (129, false), .beq true (.t 130) (.t 131)⟩, ⟨some 133, none, .pick (.t 129) (.c (.bool true)) (.t 132)⟩])
 (.cond (.t 133) (.seq (.reg [⟨some 6, none, .asg (.c (.bool false))⟩])
 .ret) .skip))
 (.seq (.reg [⟨some 17, none, .asg (.c (.int .i64 1))⟩])
 (.seq (.reg [⟨some 134, none, .rf (.t 13)⟩, ⟨some 135, none, .mv (.p 17)⟩, ⟨some 136, none, .call n_laws_heldIntS [.a 134 13, .t 135]⟩, ⟨some 17, none, .asg (.p 136)⟩])
 (.seq (.seq (.reg [⟨some 137, none, .mv (.p 17)⟩, ⟨some 138, none, .bin .lss (.t 137) (.c (.int .i64 0))⟩])
 (.cond (.t 138) (.seq (.reg [⟨some 6, none, .asg (.c (.bool false))⟩])
 .ret) .skip))
 (.seq (.seq (.reg [⟨some 139, none, .mv (.p 17)⟩, ⟨some 140, none, .mv (.p 16)⟩, ⟨some 141, none, .bin .neq (.t 139) (.t 140)⟩])
 (.cond (.t 141) (.seq (.reg [⟨some 6, none, .asg (.c (.bool false))⟩])
 .ret) .skip))
 (.seq (.reg [⟨some 6, none, .asg (.c (.bool true))⟩])
 .ret)))))))))))))))))))))))))))))))))))⟩
/-- laws.FnExactAttemptsAt -/
def a_laws_FnExactAttemptsAt : AFn := ⟨4, 163, [.tmp 8], (.seq (.reg [⟨some 4, none, .box (.t 0)⟩, ⟨some 5, none, .box (.t 1)⟩, ⟨some 8, none, .asg (.c (.bool false))⟩])
 (.seq (.seq (.reg [⟨some 23, none, .rf (.t 3)⟩, ⟨some 24, none, .len (.a 23 3)⟩, ⟨some 25, none, .bin .gtr (.t 24) (.c (.int .i64 1048576))⟩])
 (.cond (.t 25) (.seq (.reg [⟨some 8, none, .asg (.c (.bool true))⟩])
 .ret) .skip))
 (.seq (.reg [⟨some 9, none, .asg (.c (.int .i64 1048576))⟩])
 (.seq (.reg [⟨some 26, none, .load true 12 (.t 4)⟩, ⟨some 27, none, .mv (.p 9)⟩, ⟨some 28, none, .call n_laws_szBoard [.a 26 4, .t 27]⟩, ⟨some 9, none, .asg (.p 28)⟩])
 (.seq (.seq (.reg [⟨some 29, none, .mv (.p 9)⟩, ⟨some 30, none, .bin .lss (.t 29) (.c (.int .i64 0))⟩])
 (.cond (.t 30) (.seq (.reg [⟨some 8, none, .asg (.c (.bool true))⟩])
 .ret) .skip))
 (.seq (.reg [⟨some 31, none, .load true 3 (.t 5)⟩, ⟨some 32, none, .mv (.p 9)⟩, ⟨some 33, none, .call n_laws_szState [.a 31 5, .t 32]⟩, ⟨some 9, none, .asg (.p 33)⟩])
 (.seq (.seq (.reg [⟨some 34, none, .mv (.p 9)⟩, ⟨some 35, none, .bin .lss (.t 34) (.c (.int .i64 0))⟩])
 (.cond (.t 35) (.seq (.reg [⟨some 8, none, .asg (.c (.bool true))⟩])
 .ret) .skip))
 (.seq (.reg [⟨some 36, none, .rf (.t 2)⟩, ⟨some 37, none, .mv (.p 9)⟩, ⟨some 38, none, .call n_laws_szOrderS [.a 36 2, .t 37]⟩, ⟨some 9, none, .asg (.p 38)⟩])
 (.seq (.seq (.reg [⟨some 39, none, .mv (.p 9)⟩, ⟨some 40, none, .bin .lss (.t 39) (.c (.int .i64 0))⟩])
 (.cond (.t 40) (.seq (.reg [⟨some 8, none, .asg (.c (.bool true))⟩])
 .ret) .skip))
 (.seq (.reg [⟨some 42, none, .load true 12 (.t 4)⟩, ⟨some 43, none, .call n_laws_toBoard [.a 42 4]⟩, ⟨some 44, none, .load true 3 (.t 5)⟩, ⟨some 45, none, .call n_laws_toState [.a 44 5]⟩, ⟨some 46, none, .rf (.t 2)⟩, ⟨some 47, none, .call n_laws_toOrderS [.a 46 2]⟩, ⟨some 48, none, .rf (.t 3)⟩, ⟨some 49, none, .call n_laws_toIntS [.a 48 3]⟩, ⟨some 50, none, .call n_spec_AttemptsAt [.t 43, .t 45, .t 47, .t 49]⟩, ⟨some 41, none, .mv (.t 50)⟩, ⟨some 51, none, .extract (.t 41) 0⟩, ⟨some 52, none, .extract (.p 41) 1⟩, ⟨some 10, none, .asg (.t 51)⟩, ⟨some 11, none, .asg (.p 52)⟩])
 (.seq (.reg [⟨some 53, none, .load true 12 (.t 4)⟩, ⟨some 54, none, .call n_laws_toBoard [.a 53 4]⟩, ⟨some 12, none, .alloc [.list true 5 [], .list true 6 [], .int .i64 0, .int .i64 0, .int .i64 0, .int .i64 0, .int .i64 0, .int .i64 0, .int .i64 0, .list true 1 [], .list true 1 [], .list true 1 []]⟩, ⟨none, none, .store 12 (.t 12) (.t 54)⟩])
 (.seq (.reg [⟨some 55, none, .load true 3 (.t 5)⟩, ⟨some 56, none, .call n_laws_toState [.a 55 5]⟩, ⟨some 13, none, .alloc [.int .i64 0, .int .i64 0, .list true 4 []]⟩, ⟨none, none, .store 3 (.t 13) (.t 56)⟩])
 (.seq (.reg [⟨some 57, none, .rf (.t 2)⟩, ⟨some 58, none, .call n_laws_toOrderS [.a 57 2]⟩, ⟨some 14, none, .asg (.t 58)⟩])
 (.seq (.reg [⟨some 59, none, .rf (.t 3)⟩, ⟨some 60, none, .call n_laws_toIntS [.a 59 3]⟩, ⟨some 15, none, .asg (.t 60)⟩])
 (.seq (.reg [⟨some 62, none, .load true 12 (.t 12)⟩, ⟨some 63, none, .load true 3 (.t 13)⟩, ⟨some 64, none, .rf (.t 14)⟩, ⟨some 65, none, .rf (.t 15)⟩, ⟨some 66, none, .call n_impl_AttemptsAt [.a 62 12, .a 63 13, .a 64 14, .a 65 15]⟩, ⟨some 61, none, .mv (.t 66)⟩, ⟨some 67, none, .extract (.t 61) 0⟩, ⟨some 68, none, .extract (.p 61) 1⟩, ⟨some 16, none, .asg (.t 67)⟩, ⟨some 17, none, .asg (.p 68)⟩])
 (.seq (.seq (.reg [⟨some 69, none, .rf (.t 16)⟩, ⟨some 70, none, .rf (.t 10)⟩, ⟨some 71, none, .call n_laws_eqAttemptS [.a 69 16, .a 70 10]⟩, ⟨some 72, none, .un .not (.t 71)⟩, ⟨some 73, none, .mv (.p 72)⟩, ⟨some 74, some (73, false), .mv (.p 17)⟩, ⟨some 75, some (73, false), .mv (.p 11)⟩, ⟨some 76, some (73, false), .beq true (.t 74) (.t 75)⟩, ⟨some 77, none, .pick (.t 73) (.c (.bool true)) (.t 76)⟩])
 (.cond (.t 77) (.seq (.reg [⟨some 8, none, .asg (.c (.bool false))⟩])
 .ret) .skip))
 (.seq (.seq (.reg [⟨some 78, none, .load true 12 (.t 12)⟩, ⟨some 79, none, .load true 12 (.t 4)⟩, ⟨some 80, none, .call n_laws_toBoard [.a 79 4]⟩, ⟨some 81, none, .call n_laws_eqBoard [.a 78 12, .t 80]⟩, ⟨some 82, none, .un .not (.t 81)⟩])
 (.cond (.t 82) (.seq (.reg [⟨some 8, none, .asg (.c (.bool false))⟩])
 .ret) .skip))
 (.seq (.seq (.reg [⟨some 83, none, .load true 3 (.t 13)⟩, ⟨some 84, none, .load true 3 (.t 5)⟩, ⟨some 85, none, .call n_laws_toState [.a 84 5]⟩, ⟨some 86, none, .call n_laws_eqState [.a 83 13, .t 85]⟩, ⟨some 87, none, .un .not (.t 86)⟩])
 (.cond (.t 87) (.seq (.reg [⟨some 8, none, .asg (.c (.bool false))⟩])
 .ret) .skip))
 (.seq (.seq (.reg [⟨some 88, none, .rf (.t 14)⟩, ⟨some 89, none, .rf (.t 2)⟩, ⟨some 90, none, .call n_laws_toOrderS [.a 89 2]⟩, ⟨some 91, none, .call n_laws_eqOrderS [.a 88 14, .t 90]⟩, ⟨some 92, none, .un .not (.t 91)⟩])
 (.cond (.t 92) (.seq (.reg [⟨some 8, none, .asg (.c (.bool false))⟩])
 .ret) .skip))
 (.seq (.seq (.reg [⟨some 93, none, .rf (.t 15)⟩, ⟨some 94, none, .rf (.t 3)⟩, ⟨some 95, none, .call n_laws_toIntS [.a 94 3]⟩, ⟨some 96, none, .call n_laws_eqIntS [.a 93 15, .t 95]⟩, ⟨some 97, none, .un .not (.t 96)⟩])
 (.cond (.t 97) (.seq (.reg [⟨some 8, none, .asg (.c (.bool false))⟩])
 .ret) .skip))
 (.seq (.reg [⟨some 18, none, .asg (.c (.int .i64 1))⟩])
 (.seq (.reg [⟨some 98, none, .load true 12 (.t 12)⟩, ⟨some 99, none, .mv (.p 18)⟩, ⟨some 100, none, .calli n_laws_markBoard 98 12 [.t 99]⟩, ⟨some 18, none, .asg (.p 100)⟩])
 (.seq (.reg [⟨some 101, none, .load true 3 (.t 13)⟩, ⟨some 102, none, .mv (.p 18)⟩, ⟨some 103, none, .calli n_laws_markState 101 13 [.t 102]⟩, ⟨some 18, none, .asg (.p 103)⟩])
 (.seq (.reg [⟨some 104, none, .rf (.t 14)⟩, ⟨some 105, none, .mv (.p 18)⟩, ⟨some 106, none, .calli n_laws_markOrderS 104 14 [.t 105]⟩, ⟨some 18, none, .asg (.p 106)⟩])
 (.seq (.reg [⟨some 107, none, .rf (.t 15)⟩, ⟨some 108, none, .mv (.p 18)⟩, ⟨some 109, none, .calli n_laws_markIntS 107 15 [.t 108]⟩, ⟨some 18, none, .asg (.p 109)⟩])
 (.seq (.seq (.reg [⟨some 110, none, .mv (.p 18)⟩, ⟨some 111, none, .bin .lss (.t 110) (.c (.int .i64 0))⟩, ⟨some 112, none, .mv (.p 111)⟩, ⟨some 113, some (112, false), .rf (.t 16)⟩, ⟨some 114, some (112, false), .rf (.t 10)⟩, ⟨some 115, some (112, false), .call n_laws_eqAttemptS [.a 113 16, .a 114 10]⟩, ⟨some 116, some (112, false), .un .not (.t 115)⟩, ⟨some 117, none, .pick (.t 112) (.c (.bool true)) (.t 116)⟩, ⟨some 118, none, .mv (.p 117)⟩, ⟨some 119, some (118, false), .mv (.p 17)⟩, ⟨some 120, some (118, false), .mv (.p 11)⟩, ⟨some 121, some (118, false), .beq true (.t 119) (.t 120)⟩, ⟨some 122, none, .pick (.t 118) (.c (.bool true)) (.t 121)⟩])
 (.cond (.t 122) (.seq (.reg [⟨some 8, none, .asg (.c (.bool false))⟩])
 .ret) .skip))
 (.seq (.reg [⟨some 19, none, .asg (.c (.int .i64 1))⟩])
 (.seq (.reg [⟨some 123, none, .rf (.t 16)⟩, ⟨some 124, none, .mv (.p 19)⟩, ⟨some 125, none, .calli n_laws_markAttemptS 123 16 [.t 124]⟩, ⟨some 19, none, .asg (.p 125)⟩])
 (.seq (.reg [⟨some 20, none, .asg (.c (.int .i64 1))⟩])
 (.seq (.reg [⟨some 126, none, .rf (.t 16)⟩, ⟨some 127, none, .mv (.p 20)⟩, ⟨some 128, none, .call n_laws_heldAttemptS [.a 126 16, .t 127]⟩, ⟨some 20, none, .asg (.p 128)⟩])
 (.seq (.seq (.reg [⟨some 129, none, .mv (.p 20)⟩, ⟨some 130, none, .bin .lss (.t 129) (.c (.int .i64 0))⟩])
 (.cond (.t 130) (.seq (.reg [⟨some 8, none, .asg (.c (.bool false))⟩])
 .ret) .skip))
 (.seq (.seq (.reg [⟨some 131, none, .mv (.p 20)⟩, ⟨some 132, none, .mv (.p 19)⟩, ⟨some 133, none, .bin .neq (.t 131) (.t 132)⟩])
 (.cond (.t 133) (.seq (.reg [⟨some 8, none, .asg (.c (.bool false))⟩])
 .ret) .skip))
 (.seq (.reg [⟨some 135, none, .load true 12 (.t 4)⟩, ⟨some 136, none, .call n_laws_toBoard [.a 135 4]⟩, ⟨some 137, none, .load true 3 (.t 5)⟩, ⟨some 138, none, .call n_laws_toState [.a 137 5]⟩, ⟨some 139, none, .rf (.t 2)⟩, ⟨some 140, none, .call n_laws_toOrderS [.a 139 2]⟩, ⟨some 141, none, .rf (.t 3)⟩, ⟨some 142, none, .call n_laws_toIntS [.a 141 3]⟩, ⟨some 143, none, .call n_impl_AttemptsAt [.t 136, .t 138, .t 140, .t 142]⟩, ⟨some 134, none, .mv (.t 143)⟩, ⟨some 144, none, .extract (.t 134) 0⟩, ⟨some 145, none, .extract (.p 134) 1⟩, ⟨some 21, none, .asg (.t 144)⟩, ⟨some 22, none, .asg (.p 145)⟩])
 (.seq (.seq (.reg [⟨some 146, none, .rf (.t 21)⟩, ⟨some 147, none, .rf (.t 10)⟩, ⟨some 148, none, .call n_laws_eqAttemptS [.a 146 21, .a 147 10]⟩, ⟨some 149, none, .un .not (.t 148)⟩, ⟨some 150, none, .mv (.p 149)⟩, ⟨some 151, some (150, false), .mv (.p 22)⟩, ⟨some 152, some (150, false), .mv (.p 11)⟩, ⟨some 153, some (150, false), .beq true (.t 151) (.t 152)⟩, ⟨some 154, none, .pick (.t 150) (.c (.bool true)) (.t 153)⟩])
 (.cond (.t 154) (.seq (.reg [⟨some 8, none, .asg (.c (.bool false))⟩])
 .ret) .skip))
 (.seq (.reg [⟨some 20, none, .asg (.c (.int .i64 1))⟩])
 (.seq (.reg [⟨some 155, none, .rf (.t 16)⟩, ⟨some 156, none, .mv (.p 20)⟩, ⟨some 157, none, .call n_laws_heldAttemptS [.a 155 16, .t 156]⟩, ⟨some 20, none, .asg (.p 157)⟩])
 (.seq (.seq (.reg [⟨some 158, none, .mv (.p 20)⟩, ⟨some 159, none, .bin .lss (.t 158) (.c (.int .i64 0))⟩])
 (.cond (.t 159) (.seq (.reg [⟨some 8, none, .asg (.c (.bool false))⟩])
 .ret) .skip))
 (.seq (.seq (.reg [⟨some 160, none, .mv (.p 20)⟩, ⟨some 161, none, .mv (.p 19)⟩, ⟨some 162, none, .bin .neq (.t 160) (.t 161)⟩])
 (.cond (.t 162) (.seq (.reg [⟨some 8, none, .asg (.c (.bool false))⟩])
 .ret) .skip))
 (.seq (.reg [⟨some 8, none, .asg (.c (.bool true))⟩])
 .ret)))))))))))))))))))))))))))))))))))))))⟩
/-- laws.FnExactAttacksOn -/
def a_laws_FnExactAttacksOn : AFn := ⟨4, 147, [.tmp 8], (.seq (.reg [⟨some 4, none, .box (.t 0)⟩, ⟨some 5, none, .box (.t 1)⟩, ⟨some 6, none, .box (.t 2)⟩, ⟨some 8, none, .asg (.c (.bool false))⟩])
 (.seq (.reg [⟨some 9, none, .asg (.c (.int .i64 1048576))⟩])
 (.seq (.reg [⟨some 22, none, .load true 12 (.t 4)⟩, ⟨some 23, none, .mv (.p 9)⟩, ⟨some 24, none, .call n_laws_szBoard [.a 22 4, .t 23]⟩, ⟨some 9, none, .asg (.p 24)⟩])
 (.seq (.seq (.reg [⟨some 25, none, .mv (.p 9)⟩, ⟨some 26, none, .bin .lss (.t 25) (.c (.int .i64 0))⟩])
 (.cond (.t 26) (.seq (.reg [⟨some 8, none, .asg (.c (.bool true))⟩])
 .ret) .skip))
 (.seq (.reg [⟨some 27, none, .load true 3 (.t 5)⟩, ⟨some 28, none, .mv (.p 9)⟩, ⟨some 29, none, .call n_laws_szState [.a 27 5, .t 28]⟩, ⟨some 9, none, .asg (.p 29)⟩])
 (.seq (.seq (.reg [⟨some 30, none, .mv (.p 9)⟩, ⟨some 31, none, .bin .lss (.t 30) (.c (.int .i64 0))⟩])
 (.cond (.t 31) (.seq (.reg [⟨some 8, none, .asg (.c (.bool true))⟩])
 .ret) .skip))
 (.seq (.reg [⟨some 32, none, .load true 2 (.t 6)⟩, ⟨some 33, none, .mv (.p 9)⟩, ⟨some 34, none, .call n_laws_szSheet [.a 32 6, .t 33]⟩, ⟨some 9, none, .asg (.p 34)⟩])
 (.seq (.seq (.reg [⟨some 35, none, .mv (.p 9)⟩, ⟨some 36, none, .bin .lss (.t 35) (.c (.int .i64 0))⟩])
 (.cond (.t 36) (.seq (.reg [⟨some 8, none, .asg (.c (.bool true))⟩])
 .ret) .skip))
 (.seq (.reg [⟨some 38, none, .load true 12 (.t 4)⟩, ⟨some 39, none, .call n_laws_toBoard [.a 38 4]⟩, ⟨some 40, none, .load true 3 (.t 5)⟩, ⟨some 41, none, .call n_laws_toState [.a 40 5]⟩, ⟨some 42, none, .load true 2 (.t 6)⟩, ⟨some 43, none, .call n_laws_toSheet [.a 42 6]⟩, ⟨some 44, none, .mv (.p 3)⟩, ⟨some 45, none, .call n_spec_AttacksOn [.t 39, .t 41, .t 43, .t 44]⟩, ⟨some 37, none, .mv (.t 45)⟩, ⟨some 46, none, .extract (.t 37) 0⟩, ⟨some 47, none, .extract (.p 37) 1⟩, ⟨some 10, none, .asg (.t 46)⟩, ⟨some 11, none, .asg (.p 47)⟩])
 (.seq (.reg [⟨some 48, none, .load true 12 (.t 4)⟩, ⟨some 49, none, .call n_laws_toBoard [.a 48 4]⟩, ⟨some 12, none, .alloc [.list true 5 [], .list true 6 [], .int .i64 0, .int .i64 0, .int .i64 0, .int .i64 0, .int .i64 0, .int .i64 0, .int .i64 0, .list true 1 [], .list true 1 [], .list true 1 []]⟩, ⟨none, none, .store 12 (.t 12) (.t 49)⟩])
 (.seq (.reg [⟨some 50, none, .load true 3 (.t 5)⟩, ⟨some 51, none, .call n_laws_toState [.a 50 5]⟩, ⟨some 13, none, .alloc [.int .i64 0, .int .i64 0, .list true 4 []]⟩, ⟨none, none, .store 3 (.t 13) (.t 51)⟩])
 (.seq (.reg [⟨some 52, none, .load true 2 (.t 6)⟩, ⟨some 53, none, .call n_laws_toSheet [.a 52 6]⟩, ⟨some 14, none, .alloc [.int .i64 0, .list true 3 []]⟩, ⟨none, none, .store 2 (.t 14) (.t 53)⟩])
 (.seq (.reg [⟨some 55, none, .load true 12 (.t 12)⟩, ⟨some 56, none, .load true 3 (.t 13)⟩, ⟨some 57, none, .load true 2 (.t 14)⟩, ⟨some 58, none, .mv (.p 3)⟩, ⟨some 59, none, .call n_impl_AttacksOn [.a 55 12, .a 56 13, .a 57 14, .t 58]⟩, ⟨some 54, none, .mv (.t 59)⟩, ⟨some 60, none, .extract (.t 54) 0⟩, ⟨some 61, none, .extract (.p 54) 1⟩, ⟨some 15, none, .asg (.t 60)⟩, ⟨some 16, none, .asg (.p 61)⟩])
 (.seq (.seq (.reg [⟨some 62, none, .rf (.t 15)⟩, ⟨some 63, none, .rf (.t 10)⟩, ⟨some 64, none, .call n_laws_eqIntS [.a 62 15, .a 63 10]⟩, ⟨some 65, none, .un .not (.t 64)⟩, ⟨some 66, none, .mv (.p 65)⟩, ⟨some 67, some (66, false), .mv (.p 16)⟩, ⟨some 68, some (66, false), .mv (.p 11)⟩, ⟨some 69, some (66, false), .beq true (.t 67) (.t 68)⟩, ⟨some 70, none, .pick (.t 66) (.c (.bool true)) (.t 69)⟩])
 (.cond (.t 70) (.seq (.reg [⟨some 8, none, .asg (.c (.bool false))⟩])
 .ret) .skip))
 (.seq (.seq (.reg [⟨some 71, none, .load true 12 (.t 12)⟩, ⟨some 72, none, .load true 12 (.t 4)⟩, ⟨some 73, none, .call n_laws_toBoard [.a 72 4]⟩, ⟨some 74, none, .call n_laws_eqBoard [.a 71 12, .t 73]⟩, ⟨some 75, none, .un .not (.t 74)⟩])
 (.cond (.t 75) (.seq (.reg [⟨some 8, none, .asg (.c (.bool false))⟩])
 .ret) .skip))
 (.seq (.seq (.reg [⟨some 76, none, .load true 3 (.t 13)⟩, ⟨some 77, none, .load true 3 (.t 5)⟩, ⟨some 78, none, .call n_laws_toState [.a 77 5]⟩, ⟨some 79, none, .call n_laws_eqState [.a 76 13, .t 78]⟩, ⟨some 80, none, .un .not (.t 79)⟩])
 (.cond (.t 80) (.seq (.reg [⟨some 8, none, .asg (.c (.bool false))⟩])
 .ret) .skip))
 (.seq (.seq (.reg [⟨some 81, none, .load true 2 (.t 14)⟩, ⟨some 82, none, .load true 2 (.t 6)⟩, ⟨some 83, none, .call n_laws_toSheet [.a 82 6]⟩, ⟨some 84, none, .call n_laws_eqSheet [.a 81 14, .t 83]⟩, ⟨some 85, none, .un .not (.t 84)⟩])
 (.cond (.t 85) (.seq (.reg [⟨some 8, none, .asg (.c (.bool false))⟩])
 .ret) .skip))
 (.seq (.reg [⟨some 17, none, .asg (.c (.int .i64 1))⟩])
 (.seq (.reg [⟨some 86, none, .load true 12 (.t 12)⟩, ⟨some 87, none, .mv (.p 17)⟩, ⟨some 88, none, .calli n_laws_markBoard 86 12 [.t 87]⟩, ⟨some 17, none, .asg (.p 88)⟩])
 (.seq (.reg [⟨some 89, none, .load true 3 (.t 13)⟩, ⟨some 90, none, .mv (.p 17)⟩, ⟨some 91, none, .calli n_laws_markState 89 13 [.t 90]⟩, ⟨some 17, none, .asg (.p 91)⟩])
 (.seq (.reg [⟨some 92, none, .load true 2 (.t 14)⟩, ⟨some 93, none, .mv (.p 17)⟩, ⟨some 94, none, .calli n_laws_markSheet 92 14 [.t 93]⟩, ⟨some 17, none, .asg (.p 94)⟩])
 (.seq (.seq (.reg [⟨some 95, none, .mv (.p 17)⟩, ⟨some 96, none, .bin .lss (.t 95) (.c (.int .i64 0))⟩, ⟨some 97, none, .mv (.p 96)⟩, ⟨some 98, some (97, false), .rf (.t 15)⟩, ⟨some 99, some (97, false), .rf (.t 10)⟩, ⟨some 100, some (97, false), .call n_laws_eqIntS [.a 98 15, .a 99 10]⟩, ⟨some 101, some (97, false), .un .not (.t 100)⟩, ⟨some 102, none, .pick (.t 97) (.c (.bool true)) (.t 101)⟩, ⟨some 103, none, .mv (.p 102)⟩, ⟨some 104, some (103, false), .mv (.p 16)⟩, ⟨some 105, some (103, false), .mv (.p 11)⟩, ⟨some 106, some (103, false), .beq true (.t 104) (.t 105)⟩, ⟨some 107, none, .pick (.t 103) (.c (.bool true)) (.t 106)⟩])
 (.cond (.t 107) (.seq (.reg [⟨some 8, none, .asg (.c (.bool false))⟩])
 .ret) .skip))
 (.seq (.reg [⟨some 18, none, .asg (.c (.int .i64 1))⟩])
 (.seq (.reg [⟨some 108, none, .rf (.t 15)⟩, ⟨some 109, none, .mv (.p 18)⟩, ⟨some 110, none, .calli n_laws_markIntS 108 15 [.t 109]⟩, ⟨some 18, none, .asg (.p 110)⟩])
 (.seq (.reg [⟨some 19, none, .asg (.c (.int .i64 1))⟩])
 (.seq (.reg [⟨some 111, none, .rf (.t 15)⟩, ⟨some 112, none, .mv (.p 19)⟩, ⟨some 113, none, .call n_laws_heldIntS [.a 111 15, .t 112]⟩, ⟨some 19, none, .asg (.p 113)⟩])
 (.seq (.seq (.reg [⟨some 114, none, .mv (.p 19)⟩, ⟨some 115, none, .bin .lss (.t 114) (.c (.int .i64 0))⟩])
 (.cond (.t 115) (.seq (.reg [⟨some 8, none, .asg (.c (.bool false))⟩])
 .ret) .skip))
 (.seq (.seq (.reg [⟨some 116, none, .mv (.p 19)⟩, ⟨some 117, none, .mv (.p 18)⟩, ⟨some 118, none, .bin .neq (.t 116) (.t 117)⟩])
 (.cond (.t 118) (.seq (.reg [⟨some 8, none, .asg (.c (.bool false))⟩])
 .ret) .skip))
 (.seq (.reg [⟨some 120, none, .load true 12 (.t 4)⟩, ⟨some 121, none, .call n_laws_toBoard [.a 120 4]⟩, ⟨some 122, none, .load true 3 (.t 5)⟩, ⟨some 123, none, .call n_laws_toState [.a 122 5]⟩, ⟨some 124, none, .load true 2 (.t 6)⟩, ⟨some 125, none, .call n_laws_toSheet [.a 124 6]⟩, ⟨some 126, none, .mv (.p 3)⟩, ⟨some 127, none, .call n_impl_AttacksOn [.t 121, .t 123, .t 125, .t 126]⟩, ⟨some 119, none, .mv (.t 127)⟩, ⟨some 128, none, .extract (.t 119) 0⟩, ⟨some 129, none, .extract (.p 119) 1⟩, ⟨some 20, none, .asg (.t 128)⟩, ⟨some 21, none, .asg (.p 129)⟩])
 (.seq (.seq (.reg [⟨some 130, none, .rf (.t 20)⟩, ⟨some 131, none, .rf (.t 10)⟩, ⟨some 132, none, .call n_laws_eqIntS [.a 130 20, .a 131 10]⟩, ⟨some 133, none, .un .not (.t 132)⟩, ⟨some 134, none, .mv (.p 133)⟩, ⟨some 135, some (134, false), .mv (.p 21)⟩, ⟨some 136, some (134, false), .mv (.p 11)⟩, ⟨some 137, some (134, false), .beq true (.t 135) (.t 136)⟩, ⟨some 138, none, .pick (.t 134) (.c (.bool true)) (.t 137)⟩])
 (.cond (.t 138) (.seq (.reg [⟨some 8, none, .asg (.c (.bool false))⟩])
 .ret) .skip))
 (.seq (.reg [⟨some 19, none, .asg (.c (.int .i64 1))⟩])
 (.seq (.reg [⟨some 139, none, .rf (.t 15)⟩, ⟨some 140, none, .mv (.p 19)⟩, ⟨some 141, none, .call n_laws_heldIntS [.a 139 15, .t 140]⟩, ⟨some 19, none, .asg (.p 141)⟩])
 (.seq (.seq (.reg [⟨some 142, none, .mv (.p 19)⟩, ⟨some 143, none, .bin .lss (.t 142) (.c (.int .i64 0))⟩])
 (.cond (.t 143) (.seq (.reg [⟨some 8, none, .asg (.c (.bool false))⟩])
 .ret) .skip))
 (.seq (.seq (.reg [⟨some 144, none, .mv (.p 19)⟩, ⟨some 145, none, .mv (.p 18)⟩, ⟨some 146, none, .bin .neq (.t 144) (.t 145)⟩])
 (.cond (.t 146) (.seq (.reg [⟨some 8, none, .asg (.c (.bool false))⟩])
 .ret) .skip))
 (.seq (.reg [⟨some 8, none, .asg (.c (.bool true))⟩])
 .ret)))))))))))))))))))))))))))))))))))⟩
/-- laws.szBoard -/
def a_laws_szBoard : AFn := ⟨2, 18, [.tmp 4], (.seq (.reg [⟨some 2, none, .box (.t 0)⟩, ⟨some 4, none, .asg (.c (.int .i64 0))⟩])
 (.seq (.reg [⟨some 5, none, .faddr 0 (.t 2)⟩, ⟨some 6, none, .load true 7 (.a 5 2)⟩, ⟨some 7, none, .mv (.p 1)⟩, ⟨some 8, none, .call n_laws_szRules [.a 6 2, .t 7]⟩, ⟨some 1, none, .asg (.p 8)⟩])
 (.seq (.seq (.reg [⟨some 9, none, .mv (.p 1)⟩, ⟨some 10, none, .bin .lss (.t 9) (.c (.int .i64 0))⟩])
 (.cond (.t 10) (.seq (.reg [⟨some 4, none, .asg (.c (.int .i64 (-1)))⟩])
 .ret) .skip))
 (.seq (.reg [⟨some 11, none, .faddr 7 (.t 2)⟩, ⟨some 12, none, .load true 5 (.a 11 2)⟩, ⟨some 13, none, .mv (.p 1)⟩, ⟨some 14, none, .call n_laws_szMap [.a 12 2, .t 13]⟩, ⟨some 1, none, .asg (.p 14)⟩])
 (.seq (.seq (.reg [⟨some 15, none, .mv (.p 1)⟩, ⟨some 16, none, .bin .lss (.t 15) (.c (.int .i64 0))⟩])
 (.cond (.t 16) (.seq (.reg [⟨some 4, none, .asg (.c (.int .i64 (-1)))⟩])
 .ret) .skip))
 (.seq (.reg [⟨some 17, none, .mv (.p 1)⟩, ⟨some 4, none, .asg (.p 17)⟩])
 .ret))))))⟩
/-- laws.szState -/
def a_laws_szState : AFn := ⟨2, 12, [.tmp 4], (.seq (.reg [⟨some 2, none, .box (.t 0)⟩, ⟨some 4, none, .asg (.c (.int .i64 0))⟩])
 (.seq (.reg [⟨some 5, none, .faddr 2 (.t 2)⟩, ⟨some 6, none, .load false 1 (.a 5 2)⟩, ⟨some 7, none, .mv (.p 1)⟩, ⟨some 8, none, .call n_laws_szUnitS [.a 6 2, .t 7]⟩, ⟨some 1, none, .asg (.p 8)⟩])
 (.seq (.seq (.reg [⟨some 9, none, .mv (.p 1)⟩, ⟨some 10, none, .bin .lss (.t 9) (.c (.int .i64 0))⟩])
 (.cond (.t 10) (.seq (.reg [⟨some 4, none, .asg (.c (.int .i64 (-1)))⟩])
 .ret) .skip))
 (.seq (.reg [⟨some 11, none, .mv (.p 1)⟩, ⟨some 4, none, .asg (.p 11)⟩])
 .ret))))⟩
/-- laws.toBoard -/
def a_laws_toBoard : AFn := ⟨1, 13, [.cell 2 12 true], (.seq (.reg [⟨some 1, none, .box (.t 0)⟩, ⟨some 2, none, .alloc [.list true 5 [], .list true 6 [], .int .i64 0, .int .i64 0, .int .i64 0, .int .i64 0, .int .i64 0, .int .i64 0, .int .i64 0, .list true 1 [], .list true 1 [], .list true 1 []]⟩])
 (.seq (.reg [⟨some 3, none, .alloc [.list true 5 [], .list true 6 [], .int .i64 0, .int .i64 0, .int .i64 0, .int .i64 0, .int .i64 0, .int .i64 0, .int .i64 0, .list true 1 [], .list true 1 [], .list true 1 []]⟩])
 (.seq (.reg [⟨some 4, none, .faddr 0 (.t 1)⟩, ⟨some 5, none, .load true 7 (.a 4 1)⟩, ⟨some 6, none, .call n_laws_toRules [.a 5 1]⟩, ⟨some 7, none, .faddr 0 (.t 3)⟩, ⟨none, none, .store 7 (.a 7 3) (.t 6)⟩])
 (.seq (.reg [⟨some 8, none, .faddr 7 (.t 1)⟩, ⟨some 9, none, .load true 5 (.a 8 1)⟩, ⟨some 10, none, .call n_laws_toMap [.a 9 1]⟩, ⟨some 11, none, .faddr 7 (.t 3)⟩, ⟨none, none, .store 5 (.a 11 3) (.t 10)⟩])
 (.seq (.reg [⟨some 12, none, .load true 12 (.t 3)⟩, ⟨none, none, .store 12 (.t 2) (.a 12 3)⟩])
 .ret)))))⟩
/-- laws.toState -/
def a_laws_toState : AFn := ⟨1, 15, [.cell 2 3 true], (.seq (.reg [⟨some 1, none, .box (.t 0)⟩, ⟨some 2, none, .alloc [.int .i64 0, .int .i64 0, .list true 4 []]⟩])
 (.seq (.reg [⟨some 3, none, .alloc [.int .i64 0, .int .i64 0, .list true 4 []]⟩])
 (.seq (.reg [⟨some 4, none, .faddr 0 (.t 1)⟩, ⟨some 5, none, .load false 1 (.a 4 1)⟩, ⟨some 6, none, .faddr 0 (.t 3)⟩, ⟨none, none, .store 1 (.a 6 3) (.p 5)⟩])
 (.seq (.reg [⟨some 7, none, .faddr 1 (.t 1)⟩, ⟨some 8, none, .load false 1 (.a 7 1)⟩, ⟨some 9, none, .faddr 1 (.t 3)⟩, ⟨none, none, .store 1 (.a 9 3) (.p 8)⟩])
 (.seq (.reg [⟨some 10, none, .faddr 2 (.t 1)⟩, ⟨some 11, none, .load false 1 (.a 10 1)⟩, ⟨some 12, none, .call n_laws_toUnitS [.a 11 1]⟩, ⟨some 13, none, .faddr 2 (.t 3)⟩, ⟨none, none, .store 1 (.a 13 3) (.t 12)⟩])
 (.seq (.reg [⟨some 14, none, .load true 3 (.t 3)⟩, ⟨none, none, .store 3 (.t 2) (.a 14 3)⟩])
 .ret))))))⟩
/-- laws.eqBoard -/
def a_laws_eqBoard : AFn := ⟨2, 17, [.tmp 4], (.seq (.reg [⟨some 2, none, .box (.t 0)⟩, ⟨some 3, none, .box (.t 1)⟩, ⟨some 4, none, .asg (.c (.bool false))⟩])
 (.seq (.seq (.reg [⟨some 5, none, .faddr 0 (.t 2)⟩, ⟨some 6, none, .load true 7 (.a 5 2)⟩, ⟨some 7, none, .faddr 0 (.t 3)⟩, ⟨some 8, none, .load true 7 (.a 7 3)⟩, ⟨some 9, none, .call n_laws_eqRules [.a 6 2, .a 8 3]⟩, ⟨some 10, none, .un .not (.t 9)⟩])
 (.cond (.t 10) (.seq (.reg [⟨some 4, none, .asg (.c (.bool false))⟩])
 .ret) .skip))
 (.seq (.seq (.reg [⟨some 11, none, .faddr 7 (.t 2)⟩, ⟨some 12, none, .load true 5 (.a 11 2)⟩, ⟨some 13, none, .faddr 7 (.t 3)⟩, ⟨some 14, none, .load true 5 (.a 13 3)⟩, ⟨some 15, none, .call n_laws_eqMap [.a 12 2, .a 14 3]⟩, ⟨some 16, none, .un .not (.t 15)⟩])
 (.cond (.t 16) (.seq (.reg [⟨some 4, none, .asg (.c (.bool false))⟩])
 .ret) .skip))
 (.seq (.reg [⟨some 4, none, .asg (.c (.bool true))⟩])
 .ret))))⟩
/-- laws.eqState -/
def a_laws_eqState : AFn := ⟨2, 21, [.tmp 4], (.seq (.reg [⟨some 2, none, .box (.t 0)⟩, ⟨some 3, none, .box (.t 1)⟩, ⟨some 4, none, .asg (.c (.bool false))⟩])
 (.seq (.seq (.reg [⟨some 5, none, .faddr 0 (.t 2)⟩, ⟨some 6, none, .load false 1 (.a 5 2)⟩, ⟨some 7, none, .faddr 0 (.t 3)⟩, ⟨some 8, none, .load false 1 (.a 7 3)⟩, ⟨some 9, none, .bin .neq (.a 6 2) (.a 8 3)⟩])
 (.cond (.t 9) (.seq (.reg [⟨some 4, none, .asg (.c (.bool false))⟩])
 .ret) .skip))
 (.seq (.seq (.reg [⟨some 10, none, .faddr 1 (.t 2)⟩, ⟨some 11, none, .load false 1 (.a 10 2)⟩, ⟨some 12, none, .faddr 1 (.t 3)⟩, ⟨some 13, none, .load false 1 (.a 12 3)⟩, ⟨some 14, none, .bin .neq (.a 11 2) (.a 13 3)⟩])
 (.cond (.t 14) (.seq (.reg [⟨some 4, none, .asg (.c (.bool false))⟩])
 .ret) .skip))
 (.seq (.seq (.reg [⟨some 15, none, .faddr 2 (.t 2)⟩, ⟨some 16, none, .load false 1 (.a 15 2)⟩, ⟨some 17, none, .faddr 2 (.t 3)⟩, ⟨some 18, none, .load false 1 (.a 17 3)⟩, ⟨some 19, none, .call n_laws_eqUnitS [.a 16 2, .a 18 3]⟩, ⟨some 20, none, .un .not (.t 19)⟩])
 (.cond (.t 20) (.seq (.reg [⟨some 4, none, .asg (.c (.bool false))⟩])
 .ret) .skip))
 (.seq (.reg [⟨some 4, none, .asg (.c (.bool true))⟩])
 .ret)))))⟩
/-- laws.markBoard -/
def a_laws_markBoard : AFn := ⟨2, 14, [.tmp 4, .io 0], (.seq (.reg [⟨some 2, none, .boxk 0⟩, ⟨some 4, none, .asg (.c (.int .i64 0))⟩])
 (.seq (.reg [⟨some 5, none, .faddr 0 (.t 2)⟩, ⟨some 6, none, .load true 7 (.a 5 2)⟩, ⟨some 7, none, .mv (.p 1)⟩, ⟨some 8, none, .calli n_laws_markRules 6 2 [.t 7]⟩, ⟨some 1, none, .asg (.p 8)⟩])
 (.seq (.reg [⟨some 9, none, .faddr 7 (.t 2)⟩, ⟨some 10, none, .load true 5 (.a 9 2)⟩, ⟨some 11, none, .mv (.p 1)⟩, ⟨some 12, none, .calli n_laws_markMap 10 2 [.t 11]⟩, ⟨some 1, none, .asg (.p 12)⟩])
 (.seq (.reg [⟨some 13, none, .mv (.p 1)⟩, ⟨some 4, none, .asg (.p 13)⟩])
 .ret))))⟩
/-- laws.markState -/
def a_laws_markState : AFn := ⟨2, 10, [.tmp 4, .io 0], (.seq (.reg [⟨some 2, none, .boxk 0⟩, ⟨some 4, none, .asg (.c (.int .i64 0))⟩])
 (.seq (.reg [⟨some 5, none, .faddr 2 (.t 2)⟩, ⟨some 6, none, .load false 1 (.a 5 2)⟩, ⟨some 7, none, .mv (.p 1)⟩, ⟨some 8, none, .calli n_laws_markUnitS 6 2 [.t 7]⟩, ⟨some 1, none, .asg (.p 8)⟩])
 (.seq (.reg [⟨some 9, none, .mv (.p 1)⟩, ⟨some 4, none, .asg (.p 9)⟩])
 .ret)))⟩
/-- spec.AdvanceUnits -/
def a_spec_AdvanceUnits : AFn := ⟨4, 38, [.cell 8 3 true, .tmp 9, .tmp 10], (.seq (.reg [⟨some 4, none, .box (.t 0)⟩, ⟨some 5, none, .box (.t 1)⟩, ⟨some 8, none, .alloc [.int .i64 0, .int .i64 0, .list true 4 []]⟩, ⟨some 9, none, .asg (.c (.int .i64 0))⟩, ⟨some 10, none, .asg (.c (.bool false))⟩])
 (.seq (.seq (.reg [⟨some 13, none, .load true 12 (.t 4)⟩, ⟨some 14, none, .load true 3 (.t 5)⟩, ⟨some 15, none, .rf (.t 2)⟩, ⟨some 16, none, .call n_spec_gUnits [.a 13 4, .a 14 5, .a 15 2]⟩, ⟨some 17, none, .un .not (.t 16)⟩, ⟨some 18, none, .mv (.p 17)⟩, ⟨some 19, some (18, false), .mv (.p 3)⟩, ⟨some 20, some (18, false), .faddr 7 (.t 4)⟩, ⟨some 21, some (18, false), .load true 5 (.a 20 4)⟩, ⟨some 22, some (18, false), .call n_spec_mSize [.a 21 4]⟩, ⟨some 23, some (18, false), .bin .sub (.t 22) (.c (.int .i64 1))⟩, ⟨some 24, some (18, false), .call n_spec_l1In [.t 19, .c (.int .i64 0), .t 23]⟩, ⟨some 25, some (18, false), .un .not (.t 24)⟩, ⟨some 26, none, .pick (.t 18) (.c (.bool true)) (.t 25)⟩])
 (.cond (.t 26) (.seq (.reg [⟨some 27, none, .build [.int .i64 0, .int .i64 0, .list true 4 []] []⟩, ⟨none, none, .store 3 (.t 8) (.t 27)⟩, ⟨some 9, none, .asg (.c (.int .i64 0))⟩, ⟨some 10, none, .asg (.c (.bool false))⟩])
 .ret) .skip))
 (.seq (.reg [⟨some 29, none, .load true 12 (.t 4)⟩, ⟨some 30, none, .load true 3 (.t 5)⟩, ⟨some 31, none, .rf (.t 2)⟩, ⟨some 32, none, .mv (.p 3)⟩, ⟨some 33, none, .call n_spec_gAdvance [.a 29 4, .a 30 5, .a 31 2, .t 32]⟩, ⟨some 28, none, .mv (.t 33)⟩, ⟨some 34, none, .extract (.t 28) 0⟩, ⟨some 35, none, .extract (.p 28) 1⟩, ⟨some 11, none, .alloc [.int .i64 0, .int .i64 0, .list true 4 []]⟩, ⟨none, none, .store 3 (.t 11) (.t 34)⟩, ⟨some 12, none, .asg (.p 35)⟩])
 (.seq (.reg [⟨some 36, none, .load true 3 (.t 11)⟩, ⟨some 37, none, .mv (.p 12)⟩, ⟨none, none, .store 3 (.t 8) (.a 36 11)⟩, ⟨some 9, none, .asg (.p 37)⟩, ⟨some 10, none, .asg (.c (.bool true))⟩])
 .ret))))⟩
def b_laws_toIntS_0 : AC := (.seq (.seq (.reg [⟨some 8, none, .mv (.p 4)⟩, ⟨some 9, none, .rf (.t 0)⟩, ⟨some 10, none, .len (.a 9 0)⟩, ⟨some 11, none, .bin .lss (.t 8) (.t 10)⟩])
 (.cond (.t 11) .skip (.exit 0)))
 (.seq (.block 1 (.reg [⟨some 14, none, .rf (.t 3)⟩, ⟨some 15, none, .mv (.p 4)⟩, ⟨some 16, none, .rf (.t 0)⟩, ⟨some 17, none, .mv (.p 4)⟩, ⟨some 18, none, .iaddr 1 (.a 16 0) (.t 17)⟩, ⟨some 19, none, .load false 1 (.a 18 0)⟩, ⟨some 20, none, .iaddr 1 (.a 14 3) (.t 15)⟩, ⟨none, none, .store 1 (.a 20 3) (.p 19)⟩]))
 (.reg [⟨some 12, none, .mv (.p 4)⟩, ⟨some 13, none, .bin .add (.t 12) (.c (.int .i64 1))⟩, ⟨some 4, none, .asg (.p 13)⟩])))
/-- laws.toIntS -/
def a_laws_toIntS : AFn := ⟨1, 22, [.tmp 2], (.seq (.reg [⟨some 2, none, .asg (.c (.list true 1 []))⟩])
 (.seq (.reg [⟨some 5, none, .rf (.t 0)⟩, ⟨some 6, none, .len (.a 5 0)⟩, ⟨some 7, none, .mslice 1 [.int .i64 0] (.t 6)⟩, ⟨some 3, none, .asg (.t 7)⟩])
 (.seq (.seq (.reg [⟨some 4, none, .asg (.c (.int .i64 0))⟩])
 (.block 0 (.loop [0, 3, 4] [2, 3] b_laws_toIntS_0)))
 (.seq (.reg [⟨some 21, none, .rf (.t 3)⟩, ⟨some 2, none, .asg (.a 21 3)⟩])
 .ret))))⟩
/-- impl.AdvanceUnits -/
def a_impl_AdvanceUnits : AFn := ⟨4, 36, [.cell 8 3 true, .tmp 9, .tmp 10], (.seq (.reg [⟨some 4, none, .box (.t 0)⟩, ⟨some 5, none, .box (.t 1)⟩, ⟨some 8, none, .alloc [.int .i64 0, .int .i64 0, .list true 4 []]⟩, ⟨some 9, none, .asg (.c (.int .i64 0))⟩, ⟨some 10, none, .asg (.c (.bool false))⟩])
 (.seq (.seq (.reg [⟨some 13, none, .load true 12 (.t 4)⟩, ⟨some 14, none, .load true 3 (.t 5)⟩, ⟨some 15, none, .rf (.t 2)⟩, ⟨some 16, none, .call n_impl_areOnMap [.a 13 4, .a 14 5, .a 15 2]⟩, ⟨some 17, none, .un .not (.t 16)⟩, ⟨some 18, none, .mv (.p 17)⟩, ⟨some 19, some (18, false), .mv (.p 3)⟩, ⟨some 20, some (18, false), .load true 12 (.t 4)⟩, ⟨some 21, some (18, false), .call n_impl_sizeOf [.a 20 4]⟩, ⟨some 22, some (18, false), .call n_impl_isIndex [.t 19, .t 21]⟩, ⟨some 23, some (18, false), .un .not (.t 22)⟩, ⟨some 24, none, .pick (.t 18) (.c (.bool true)) (.t 23)⟩])
 (.cond (.t 24) (.seq (.reg [⟨some 25, none, .build [.int .i64 0, .int .i64 0, .list true 4 []] []⟩, ⟨none, none, .store 3 (.t 8) (.t 25)⟩, ⟨some 9, none, .asg (.c (.int .i64 0))⟩, ⟨some 10, none, .asg (.c (.bool false))⟩])
 .ret) .skip))
 (.seq (.reg [⟨some 27, none, .load true 12 (.t 4)⟩, ⟨some 28, none, .load true 3 (.t 5)⟩, ⟨some 29, none, .rf (.t 2)⟩, ⟨some 30, none, .mv (.p 3)⟩, ⟨some 31, none, .call n_impl_advanceUnits [.a 27 4, .a 28 5, .a 29 2, .t 30]⟩, ⟨some 26, none, .mv (.t 31)⟩, ⟨some 32, none, .extract (.t 26) 0⟩, ⟨some 33, none, .extract (.p 26) 1⟩, ⟨some 11, none, .alloc [.int .i64 0, .int .i64 0, .list true 4 []]⟩, ⟨none, none, .store 3 (.t 11) (.t 32)⟩, ⟨some 12, none, .asg (.p 33)⟩])
 (.seq (.reg [⟨some 34, none, .load true 3 (.t 11)⟩, ⟨some 35, none, .mv (.p 12)⟩, ⟨none, none, .store 3 (.t 8) (.a 34 11)⟩, ⟨some 9, none, .asg (.p 35)⟩, ⟨some 10, none, .asg (.c (.bool true))⟩])
 .ret))))⟩
def b_laws_eqIntS_0 : AC := (.seq (.seq (.reg [⟨some 11, none, .mv (.p 5)⟩, ⟨some 12, none, .rf (.t 0)⟩, ⟨some 13, none, .len (.a 12 0)⟩, ⟨some 14, none, .bin .lss (.t 11) (.t 13)⟩])
 (.cond (.t 14) .skip (.exit 0)))
 (.seq (.block 1 (.seq (.reg [⟨some 17, none, .rf (.t 0)⟩, ⟨some 18, none, .mv (.p 5)⟩, ⟨some 19, none, .iaddr 1 (.a 17 0) (.t 18)⟩, ⟨some 20, none, .load false 1 (.a 19 0)⟩, ⟨some 21, none, .rf (.t 1)⟩, ⟨some 22, none, .mv (.p 5)⟩, ⟨some 23, none, .iaddr 1 (.a 21 1) (.t 22)⟩, ⟨some 24, none, .load false 1 (.a 23 1)⟩, ⟨some 25, none, .bin .neq (.a 20 0) (.a 24 1)⟩])
 (.cond (.t 25) (.seq (.reg [⟨some 4, none, .asg (.c (.bool false))⟩])
 .ret) .skip)))
 (.reg [⟨some 15, none, .mv (.p 5)⟩, ⟨some 16, none, .bin .add (.t 15) (.c (.int .i64 1))⟩, ⟨some 5, none, .asg (.p 16)⟩])))
/-- laws.eqIntS -/
def a_laws_eqIntS : AFn := ⟨2, 26, [.tmp 4], (.seq (.reg [⟨some 4, none, .asg (.c (.bool false))⟩])
 (.seq (.seq (.reg [⟨some 6, none, .rf (.t 0)⟩, ⟨some 7, none, .len (.a 6 0)⟩, ⟨some 8, none, .rf (.t 1)⟩, ⟨some 9, none, .len (.a 8 1)⟩, ⟨some 10, none, .bin .neq (.t 7) (.t 9)⟩])
 (.cond (.t 10) (.seq (.reg [⟨some 4, none, .asg (.c (.bool false))⟩])
 .ret) .skip))
 (.seq (.seq (.reg [⟨some 5, none, .asg (.c (.int .i64 0))⟩])
 (.block 0 (.loop [0, 1, 5] [4] b_laws_eqIntS_0)))
 (.seq (.reg [⟨some 4, none, .asg (.c (.bool true))⟩])
 .ret))))⟩
def b_laws_markIntS_0 : AC := (.seq (.seq (.reg [⟨some 6, none, .mv (.p 5)⟩, ⟨some 7, none, .rf (.t 0)⟩, ⟨some 8, none, .len (.a 7 0)⟩, ⟨some 9, none, .bin .lss (.t 6) (.t 8)⟩])
 (.cond (.t 9) .skip (.exit 0)))
 (.seq (.block 1 (.seq (.reg [⟨some 12, none, .rf (.t 0)⟩, ⟨some 13, none, .mv (.p 5)⟩, ⟨some 14, none, .mv (.p 1)⟩, ⟨some 15, none, .iaddr 1 (.a 12 0) (.t 13)⟩, ⟨none, none, .store 1 (.a 15 0) (.p 14)⟩])
 (.reg [⟨some 16, none, .mv (.p 1)⟩, ⟨some 17, none, .bin .add (.t 16) (.c (.int .i64 1))⟩, ⟨some 1, none, .asg (.p 17)⟩])))
 (.reg [⟨some 10, none, .mv (.p 5)⟩, ⟨some 11, none, .bin .add (.t 10) (.c (.int .i64 1))⟩, ⟨some 5, none, .asg (.p 11)⟩])))
/-- laws.markIntS -/
def a_laws_markIntS : AFn := ⟨2, 19, [.tmp 4, .io 0], (.seq (.reg [⟨some 4, none, .asg (.c (.int .i64 0))⟩])
 (.seq (.seq (.reg [⟨some 5, none, .asg (.c (.int .i64 0))⟩])
 (.block 0 (.loop [0, 1, 5] [0, 1, 4] b_laws_markIntS_0)))
 (.seq (.reg [⟨some 18, none, .mv (.p 1)⟩, ⟨some 4, none, .asg (.p 18)⟩])
 .ret)))⟩
/-- laws.heldState -/
def a_laws_heldState : AFn := ⟨2, 12, [.tmp 4], (.seq (.reg [⟨some 2, none, .box (.t 0)⟩, ⟨some 4, none, .asg (.c (.int .i64 0))⟩])
 (.seq (.reg [⟨some 5, none, .faddr 2 (.t 2)⟩, ⟨some 6, none, .load false 1 (.a 5 2)⟩, ⟨some 7, none, .mv (.p 1)⟩, ⟨some 8, none, .call n_laws_heldUnitS [.a 6 2, .t 7]⟩, ⟨some 1, none, .asg (.p 8)⟩])
 (.seq (.seq (.reg [⟨some 9, none, .mv (.p 1)⟩, ⟨some 10, none, .bin .lss (.t 9) (.c (.int .i64 0))⟩])
 (.cond (.t 10) (.seq (.reg [⟨some 4, none, .asg (.c (.int .i64 (-1)))⟩])
 .ret) .skip))
 (.seq (.reg [⟨some 11, none, .mv (.p 1)⟩, ⟨some 4, none, .asg (.p 11)⟩])
 .ret))))⟩
def b_laws_heldIntS_0 : AC := (.seq (.seq (.reg [⟨some 6, none, .mv (.p 5)⟩, ⟨some 7, none, .rf (.t 0)⟩, ⟨some 8, none, .len (.a 7 0)⟩, ⟨some 9, none, .bin .lss (.t 6) (.t 8)⟩])
 (.cond (.t 9) .skip (.exit 0)))
 (.seq (.block 1 (.seq (.seq (.reg [⟨some 12, none, .rf (.t 0)⟩, ⟨some 13, none, .mv (.p 5)⟩, ⟨some 14, none, .iaddr 1 (.a 12 0) (.t 13)⟩, ⟨some 15, none, .load false 1 (.a 14 0)⟩, ⟨some 16, none, .mv (.p 1)⟩, ⟨some 17, none, .bin .neq (.a 15 0) (.t 16)⟩])
 (.cond (.t 17) (.seq (.reg [⟨some 4, none, .asg (.c (.int .i64 (-1)))⟩])
 .ret) .skip))
 (.reg [⟨some 18, none, .mv (.p 1)⟩, ⟨some 19, none, .bin .add (.t 18) (.c (.int .i64 1))⟩, ⟨some 1, none, .asg (.p 19)⟩])))
 (.reg [⟨some 10, none, .mv (.p 5)⟩, ⟨some 11, none, .bin .add (.t 10) (.c (.int .i64 1))⟩, ⟨some 5, none, .asg (.p 11)⟩])))
/-- laws.heldIntS -/
def a_laws_heldIntS : AFn := ⟨2, 21, [.tmp 4], (.seq (.reg [⟨some 4, none, .asg (.c (.int .i64 0))⟩])
 (.seq (.seq (.reg [⟨some 5, none, .asg (.c (.int .i64 0))⟩])
 (.block 0 (.loop [0, 1, 5] [1, 4] b_laws_heldIntS_0)))
 (.seq (.reg [⟨some 20, none, .mv (.p 1)⟩, ⟨some 4, none, .asg (.p 20)⟩])
 .ret)))⟩
/-- laws.szBattle -/
def a_laws_szBattle : AFn := ⟨2, 18, [.tmp 4], (.seq (.reg [⟨some 2, none, .box (.t 0)⟩, ⟨some 4, none, .asg (.c (.int .i64 0))⟩])
 (.seq (.reg [⟨some 5, none, .faddr 1 (.t 2)⟩, ⟨some 6, none, .load false 1 (.a 5 2)⟩, ⟨some 7, none, .mv (.p 1)⟩, ⟨some 8, none, .call n_laws_szIntS [.a 6 2, .t 7]⟩, ⟨some 1, none, .asg (.p 8)⟩])
 (.seq (.seq (.reg [⟨some 9, none, .mv (.p 1)⟩, ⟨some 10, none, .bin .lss (.t 9) (.c (.int .i64 0))⟩])
 (.cond (.t 10) (.seq (.reg [⟨some 4, none, .asg (.c (.int .i64 (-1)))⟩])
 .ret) .skip))
 (.seq (.reg [⟨some 11, none, .faddr 2 (.t 2)⟩, ⟨some 12, none, .load false 1 (.a 11 2)⟩, ⟨some 13, none, .mv (.p 1)⟩, ⟨some 14, none, .call n_laws_szIntS [.a 12 2, .t 13]⟩, ⟨some 1, none, .asg (.p 14)⟩])
 (.seq (.seq (.reg [⟨some 15, none, .mv (.p 1)⟩, ⟨some 16, none, .bin .lss (.t 15) (.c (.int .i64 0))⟩])
 (.cond (.t 16) (.seq (.reg [⟨some 4, none, .asg (.c (.int .i64 (-1)))⟩])
 .ret) .skip))
 (.seq (.reg [⟨some 17, none, .mv (.p 1)⟩, ⟨some 4, none, .asg (.p 17)⟩])
 .ret))))))⟩
/-- spec.ApplyResult -/
def a_spec_ApplyResult : AFn := ⟨4, 21, [.cell 8 3 true, .tmp 9], (.seq (.reg [⟨some 4, none, .box (.t 0)⟩, ⟨some 5, none, .box (.t 1)⟩, ⟨some 6, none, .box (.t 2)⟩, ⟨some 8, none, .alloc [.int .i64 0, .int .i64 0, .list true 4 []]⟩, ⟨some 9, none, .asg (.c (.bool false))⟩])
 (.seq (.seq (.reg [⟨some 10, none, .load true 12 (.t 4)⟩, ⟨some 11, none, .load true 3 (.t 5)⟩, ⟨some 12, none, .load true 3 (.t 6)⟩, ⟨some 13, none, .mv (.p 3)⟩, ⟨some 14, none, .call n_spec_aResult [.a 10 4, .a 11 5, .a 12 6, .t 13]⟩, ⟨some 15, none, .un .not (.t 14)⟩])
 (.cond (.t 15) (.seq (.reg [⟨some 16, none, .build [.int .i64 0, .int .i64 0, .list true 4 []] []⟩, ⟨none, none, .store 3 (.t 8) (.t 16)⟩, ⟨some 9, none, .asg (.c (.bool false))⟩])
 .ret) .skip))
 (.seq (.reg [⟨some 17, none, .load true 3 (.t 5)⟩, ⟨some 18, none, .load true 3 (.t 6)⟩, ⟨some 19, none, .mv (.p 3)⟩, ⟨some 20, none, .call n_spec_aApply [.a 17 5, .a 18 6, .t 19]⟩, ⟨none, none, .store 3 (.t 8) (.t 20)⟩, ⟨some 9, none, .asg (.c (.bool true))⟩])
 .ret)))⟩
/-- laws.toBattle -/
def a_laws_toBattle : AFn := ⟨1, 16, [.cell 2 3 true], (.seq (.reg [⟨some 1, none, .box (.t 0)⟩, ⟨some 2, none, .alloc [.int .i64 0, .list true 1 [], .list true 1 []]⟩])
 (.seq (.reg [⟨some 3, none, .alloc [.int .i64 0, .list true 1 [], .list true 1 []]⟩])
 (.seq (.reg [⟨some 4, none, .faddr 0 (.t 1)⟩, ⟨some 5, none, .load false 1 (.a 4 1)⟩, ⟨some 6, none, .faddr 0 (.t 3)⟩, ⟨none, none, .store 1 (.a 6 3) (.p 5)⟩])
 (.seq (.reg [⟨some 7, none, .faddr 1 (.t 1)⟩, ⟨some 8, none, .load false 1 (.a 7 1)⟩, ⟨some 9, none, .call n_laws_toIntS [.a 8 1]⟩, ⟨some 10, none, .faddr 1 (.t 3)⟩, ⟨none, none, .store 1 (.a 10 3) (.t 9)⟩])
 (.seq (.reg [⟨some 11, none, .faddr 2 (.t 1)⟩, ⟨some 12, none, .load false 1 (.a 11 1)⟩, ⟨some 13, none, .call n_laws_toIntS [.a 12 1]⟩, ⟨some 14, none, .faddr 2 (.t 3)⟩, ⟨none, none, .store 1 (.a 14 3) (.t 13)⟩])
 (.seq (.reg [⟨some 15, none, .load true 3 (.t 3)⟩, ⟨none, none, .store 3 (.t 2) (.a 15 3)⟩])
 .ret))))))⟩
/-- impl.ApplyResult -/
def a_impl_ApplyResult : AFn := ⟨4, 25, [.cell 8 3 true, .tmp 9], (.seq (.reg [⟨some 4, none, .box (.t 0)⟩, ⟨some 5, none, .box (.t 1)⟩, ⟨some 6, none, .box (.t 2)⟩, ⟨some 8, none, .alloc [.int .i64 0, .int .i64 0, .list true 4 []]⟩, ⟨some 9, none, .asg (.c (.bool false))⟩])
 (.seq (.seq (.reg [⟨some 10, none, .load true 12 (.t 4)⟩, ⟨some 11, none, .load true 3 (.t 5)⟩, ⟨some 12, none, .load true 3 (.t 6)⟩, ⟨some 13, none, .call n_impl_hasBattle [.a 10 4, .a 11 5, .a 12 6]⟩, ⟨some 14, none, .un .not (.t 13)⟩, ⟨some 15, none, .mv (.p 14)⟩, ⟨some 16, some (15, false), .mv (.p 3)⟩, ⟨some 17, some (15, false), .call n_impl_isResult [.t 16]⟩, ⟨some 18, some (15, false), .un .not (.t 17)⟩, ⟨some 19, none, .pick (.t 15) (.c (.bool true)) (.t 18)⟩])
 (.cond (.t 19) (.seq (.reg [⟨some 20, none, .build [.int .i64 0, .int .i64 0, .list true 4 []] []⟩, ⟨none, none, .store 3 (.t 8) (.t 20)⟩, ⟨some 9, none, .asg (.c (.bool false))⟩])
 .ret) .skip))
 (.seq (.reg [⟨some 21, none, .load true 3 (.t 5)⟩, ⟨some 22, none, .load true 3 (.t 6)⟩, ⟨some 23, none, .mv (.p 3)⟩, ⟨some 24, none, .call n_impl_applyResult [.a 21 5, .a 22 6, .t 23]⟩, ⟨none, none, .store 3 (.t 8) (.t 24)⟩, ⟨some 9, none, .asg (.c (.bool true))⟩])
 .ret)))⟩
/-- laws.eqBattle -/
def a_laws_eqBattle : AFn := ⟨2, 22, [.tmp 4], (.seq (.reg [⟨some 2, none, .box (.t 0)⟩, ⟨some 3, none, .box (.t 1)⟩, ⟨some 4, none, .asg (.c (.bool false))⟩])
 (.seq (.seq (.reg [⟨some 5, none, .faddr 0 (.t 2)⟩, ⟨some 6, none, .load false 1 (.a 5 2)⟩, ⟨some 7, none, .faddr 0 (.t 3)⟩, ⟨some 8, none, .load false 1 (.a 7 3)⟩, ⟨some 9, none, .bin .neq (.a 6 2) (.a 8 3)⟩])
 (.cond (.t 9) (.seq (.reg [⟨some 4, none, .asg (.c (.bool false))⟩])
 .ret) .skip))
 (.seq (.seq (.reg [⟨some 10, none, .faddr 1 (.t 2)⟩, ⟨some 11, none, .load false 1 (.a 10 2)⟩, ⟨some 12, none, .faddr 1 (.t 3)⟩, ⟨some 13, none, .load false 1 (.a 12 3)⟩, ⟨some 14, none, .call n_laws_eqIntS [.a 11 2, .a 13 3]⟩, ⟨some 15, none, .un .not (.t 14)⟩])
 (.cond (.t 15) (.seq (.reg [⟨some 4, none, .asg (.c (.bool false))⟩])
 .ret) .skip))
 (.seq (.seq (.reg [⟨some 16, none, .faddr 2 (.t 2)⟩, ⟨some 17, none, .load false 1 (.a 16 2)⟩, ⟨some 18, none, .faddr 2 (.t 3)⟩, ⟨some 19, none, .load false 1 (.a 18 3)⟩, ⟨some 20, none, .call n_laws_eqIntS [.a 17 2, .a 19 3]⟩, ⟨some 21, none, .un .not (.t 20)⟩])
 (.cond (.t 21) (.seq (.reg [⟨some 4, none, .asg (.c (.bool false))⟩])
 .ret) .skip))
 (.seq (.reg [⟨some 4, none, .asg (.c (.bool true))⟩])
 .ret)))))⟩
/-- laws.markBattle -/
def a_laws_markBattle : AFn := ⟨2, 14, [.tmp 4, .io 0], (.seq (.reg [⟨some 2, none, .boxk 0⟩, ⟨some 4, none, .asg (.c (.int .i64 0))⟩])
 (.seq (.reg [⟨some 5, none, .faddr 1 (.t 2)⟩, ⟨some 6, none, .load false 1 (.a 5 2)⟩, ⟨some 7, none, .mv (.p 1)⟩, ⟨some 8, none, .calli n_laws_markIntS 6 2 [.t 7]⟩, ⟨some 1, none, .asg (.p 8)⟩])
 (.seq (.reg [⟨some 9, none, .faddr 2 (.t 2)⟩, ⟨some 10, none, .load false 1 (.a 9 2)⟩, ⟨some 11, none, .mv (.p 1)⟩, ⟨some 12, none, .calli n_laws_markIntS 10 2 [.t 11]⟩, ⟨some 1, none, .asg (.p 12)⟩])
 (.seq (.reg [⟨some 13, none, .mv (.p 1)⟩, ⟨some 4, none, .asg (.p 13)⟩])
 .ret))))⟩
/-- laws.szAttemptS -/
def a_laws_szAttemptS : AFn := ⟨2, 12, [.tmp 4], (.seq (.reg [⟨some 4, none, .asg (.c (.int .i64 0))⟩])
 (.seq (.reg [⟨some 5, none, .mv (.p 1)⟩, ⟨some 6, none, .rf (.t 0)⟩, ⟨some 7, none, .len (.a 6 0)⟩, ⟨some 8, none, .bin .sub (.t 5) (.t 7)⟩, ⟨some 1, none, .asg (.p 8)⟩])
 (.seq (.seq (.reg [⟨some 9, none, .mv (.p 1)⟩, ⟨some 10, none, .bin .lss (.t 9) (.c (.int .i64 0))⟩])
 (.cond (.t 10) (.seq (.reg [⟨some 4, none, .asg (.c (.int .i64 (-1)))⟩])
 .ret) .skip))
 (.seq (.reg [⟨some 11, none, .mv (.p 1)⟩, ⟨some 4, none, .asg (.p 11)⟩])
 .ret))))⟩
def b_spec_RefusedIn_0 : AC := (.seq (.reg [⟨some 18, none, .bin .lss (.t 17) (.t 16)⟩])
 (.seq (.cond (.t 18) .skip (.exit 0))
 (.seq (.block 1 (.seq (.reg [⟨some 19, none, .mv (.p 17)⟩, ⟨some 9, none, .asg (.p 19)⟩])
 (.seq (.reg [⟨some 20, none, .load true 12 (.t 3)⟩, ⟨some 21, none, .load true 3 (.t 4)⟩, ⟨some 22, none, .rf (.t 2)⟩, ⟨some 23, none, .mv (.p 9)⟩, ⟨some 24, none, .call n_spec_fReason [.a 20 3, .a 21 4, .a 22 2, .t 23]⟩, ⟨some 25, none, .bin .neq (.t 24) (.c (.int .i64 0))⟩])
 (.cond (.t 25) (.reg [⟨some 26, none, .rf (.t 8)⟩, ⟨some 27, none, .mv (.p 9)⟩, ⟨some 28, none, .bslice 1 1 [.int .i64 0] [(0, .p 27)]⟩, ⟨some 29, none, .append 1 (.a 26 8) (.t 28)⟩, ⟨some 8, none, .asg (.t 29)⟩]) .skip))))
 (.reg [⟨some 30, none, .bin .add (.t 17) (.c (.int .i64 1))⟩, ⟨some 17, none, .mv (.p 30)⟩]))))
/-- spec.RefusedIn -/
def a_spec_RefusedIn : AFn := ⟨3, 32, [.tmp 6, .tmp 7], (.seq (.reg [⟨some 3, none, .box (.t 0)⟩, ⟨some 4, none, .box (.t 1)⟩, ⟨some 6, none, .asg (.c (.list true 1 []))⟩, ⟨some 7, none, .asg (.c (.bool false))⟩])
 (.seq (.seq (.reg [⟨some 10, none, .load true 12 (.t 3)⟩, ⟨some 11, none, .load true 3 (.t 4)⟩, ⟨some 12, none, .rf (.t 2)⟩, ⟨some 13, none, .call n_spec_fAsked [.a 10 3, .a 11 4, .a 12 2]⟩, ⟨some 14, none, .un .not (.t 13)⟩])
 (.cond (.t 14) (.seq (.reg [⟨some 6, none, .asg (.c (.list true 1 []))⟩, ⟨some 7, none, .asg (.c (.bool false))⟩])
 .ret) .skip))
 (.seq (.reg [⟨some 8, none, .asg (.c (.list true 1 []))⟩])
 (.seq (.seq (.reg [⟨some 15, none, .rf (.t 2)⟩, ⟨some 16, none, .len (.a 15 2)⟩, ⟨some 17, none, .mv (.c (.int .i64 0))⟩])
 (.block 0 (.loop [2, 3, 4, 8, 16, 17] [6, 7, 8] b_spec_RefusedIn_0)))
 (.seq (.reg [⟨some 31, none, .rf (.t 8)⟩, ⟨some 6, none, .asg (.a 31 8)⟩, ⟨some 7, none, .asg (.c (.bool true))⟩])
 .ret)))))⟩
def b_laws_toAttemptS_0 : AC := (.seq (.seq (.reg [⟨some 8, none, .mv (.p 4)⟩, ⟨some 9, none, .rf (.t 0)⟩, ⟨some 10, none, .len (.a 9 0)⟩, ⟨some 11, none, .bin .lss (.t 8) (.t 10)⟩])
 (.cond (.t 11) .skip (.exit 0)))
 (.seq (.block 1 (.reg [⟨some 14, none, .rf (.t 3)⟩, ⟨some 15, none, .mv (.p 4)⟩, ⟨some 16, none, .rf (.t 0)⟩, ⟨some 17, none, .mv (.p 4)⟩, ⟨some 18, none, .iaddr 3 (.a 16 0) (.t 17)⟩, ⟨some 19, none, .load true 3 (.a 18 0)⟩, ⟨some 20, none, .call n_laws_toAttempt [.a 19 0]⟩, ⟨some 21, none, .iaddr 3 (.a 14 3) (.t 15)⟩, ⟨none, none, .store 3 (.a 21 3) (.t 20)⟩]))
 (.reg [⟨some 12, none, .mv (.p 4)⟩, ⟨some 13, none, .bin .add (.t 12) (.c (.int .i64 1))⟩, ⟨some 4, none, .asg (.p 13)⟩])))
/-- laws.toAttemptS -/
def a_laws_toAttemptS : AFn := ⟨1, 23, [.tmp 2], (.seq (.reg [⟨some 2, none, .asg (.c (.list true 3 []))⟩])
 (.seq (.reg [⟨some 5, none, .rf (.t 0)⟩, ⟨some 6, none, .len (.a 5 0)⟩, ⟨some 7, none, .mslice 3 [.int .i64 0, .int .i64 0, .int .i64 0] (.t 6)⟩, ⟨some 3, none, .asg (.t 7)⟩])
 (.seq (.seq (.reg [⟨some 4, none, .asg (.c (.int .i64 0))⟩])
 (.block 0 (.loop [0, 3, 4] [2, 3] b_laws_toAttemptS_0)))
 (.seq (.reg [⟨some 22, none, .rf (.t 3)⟩, ⟨some 2, none, .asg (.a 22 3)⟩])
 .ret))))⟩
def b_impl_RefusedIn_0 : AC := (.seq (.reg [⟨some 19, none, .bin .lss (.t 18) (.t 17)⟩])
 (.seq (.cond (.t 19) .skip (.exit 0))
 (.seq (.block 1 (.seq (.reg [⟨some 20, none, .mv (.p 18)⟩, ⟨some 9, none, .asg (.p 20)⟩])
 (.seq (.reg [⟨some 21, none, .load true 12 (.t 3)⟩, ⟨some 22, none, .load true 3 (.t 4)⟩, ⟨some 23, none, .rf (.t 2)⟩, ⟨some 24, none, .mv (.p 9)⟩, ⟨some 25, none, .call n_impl_attemptReason [.a 21 3, .a 22 4, .a 23 2, .t 24]⟩, ⟨some 26, none, .bin .neq (.t 25) (.c (.int .i64 0))⟩])
 (.cond (.t 26) (.reg [⟨some 27, none, .rf (.t 8)⟩, ⟨some 28, none, .mv (.p 9)⟩, ⟨some 29, none, .bslice 1 1 [.int .i64 0] [(0, .p 28)]⟩, ⟨some 30, none, .append 1 (.a 27 8) (.t 29)⟩, ⟨some 8, none, .asg (.t 30)⟩]) .skip))))
 (.reg [⟨some 31, none, .bin .add (.t 18) (.c (.int .i64 1))⟩, ⟨some 18, none, .mv (.p 31)⟩]))))
/-- impl.RefusedIn -/
def a_impl_RefusedIn : AFn := ⟨3, 33, [.tmp 6, .tmp 7], (.seq (.reg [⟨some 3, none, .box (.t 0)⟩, ⟨some 4, none, .box (.t 1)⟩, ⟨some 6, none, .asg (.c (.list true 1 []))⟩, ⟨some 7, none, .asg (.c (.bool false))⟩])
 (.seq (.seq (.reg [⟨some 10, none, .load true 12 (.t 3)⟩, ⟨some 11, none, .load true 3 (.t 4)⟩, ⟨some 12, none, .rf (.t 2)⟩, ⟨some 13, none, .call n_impl_areAttempts [.a 10 3, .a 11 4, .a 12 2]⟩, ⟨some 14, none, .un .not (.t 13)⟩])
 (.cond (.t 14) (.seq (.reg [⟨some 6, none, .asg (.c (.list true 1 []))⟩, ⟨some 7, none, .asg (.c (.bool false))⟩])
 .ret) .skip))
 (.seq (.reg [⟨some 15, none, .bslice 1 0 [.int .i64 0] []⟩, ⟨some 8, none, .asg (.t 15)⟩])
 (.seq (.seq (.reg [⟨some 16, none, .rf (.t 2)⟩, ⟨some 17, none, .len (.a 16 2)⟩, ⟨some 18, none, .mv (.c (.int .i64 0))⟩])
 (.block 0 (.loop [2, 3, 4, 8, 17, 18] [6, 7, 8] b_impl_RefusedIn_0)))
 (.seq (.reg [⟨some 32, none, .rf (.t 8)⟩, ⟨some 6, none, .asg (.a 32 8)⟩, ⟨some 7, none, .asg (.c (.bool true))⟩])
 .ret)))))⟩
def b_laws_eqAttemptS_0 : AC := (.seq (.seq (.reg [⟨some 11, none, .mv (.p 5)⟩, ⟨some 12, none, .rf (.t 0)⟩, ⟨some 13, none, .len (.a 12 0)⟩, ⟨some 14, none, .bin .lss (.t 11) (.t 13)⟩])
 (.cond (.t 14) .skip (.exit 0)))
 (.seq (.block 1 (.seq (.reg [⟨some 17, none, .rf (.t 0)⟩, ⟨some 18, none, .mv (.p 5)⟩, ⟨some 19, none, .iaddr 3 (.a 17 0) (.t 18)⟩, ⟨some 20, none, .load true 3 (.a 19 0)⟩, ⟨some 21, none, .rf (.t 1)⟩, ⟨some 22, none, .mv (.p 5)⟩, ⟨some 23, none, .iaddr 3 (.a 21 1) (.t 22)⟩, ⟨some 24, none, .load true 3 (.a 23 1)⟩, ⟨some 25, none, .call n_laws_eqAttempt [.a 20 0, .a 24 1]⟩, ⟨some 26, none, .un .not (.t 25)⟩])
 (.cond (.t 26) (.seq (.reg [⟨some 4, none, .asg (.c (.bool false))⟩])
 .ret) .skip)))
 (.reg [⟨some 15, none, .mv (.p 5)⟩, ⟨some 16, none, .bin .add (.t 15) (.c (.int .i64 1))⟩, ⟨some 5, none, .asg (.p 16)⟩])))
/-- laws.eqAttemptS -/
def a_laws_eqAttemptS : AFn := ⟨2, 27, [.tmp 4], (.seq (.reg [⟨some 4, none, .asg (.c (.bool false))⟩])
 (.seq (.seq (.reg [⟨some 6, none, .rf (.t 0)⟩, ⟨some 7, none, .len (.a 6 0)⟩, ⟨some 8, none, .rf (.t 1)⟩, ⟨some 9, none, .len (.a 8 1)⟩, ⟨some 10, none, .bin .neq (.t 7) (.t 9)⟩])
 (.cond (.t 10) (.seq (.reg [⟨some 4, none, .asg (.c (.bool false))⟩])
 .ret) .skip))
 (.seq (.seq (.reg [⟨some 5, none, .asg (.c (.int .i64 0))⟩])
 (.block 0 (.loop [0, 1, 5] [4] b_laws_eqAttemptS_0)))
 (.seq (.reg [⟨some 4, none, .asg (.c (.bool true))⟩])
 .ret))))⟩
def b_laws_markAttemptS_0 : AC := (.seq (.seq (.reg [⟨some 6, none, .mv (.p 5)⟩, ⟨some 7, none, .rf (.t 0)⟩, ⟨some 8, none, .len (.a 7 0)⟩, ⟨some 9, none, .bin .lss (.t 6) (.t 8)⟩])
 (.cond (.t 9) .skip (.exit 0)))
 (.seq (.block 1 (.seq (.reg [⟨some 12, none, .rf (.t 0)⟩, ⟨some 13, none, .mv (.p 5)⟩, ⟨some 14, none, .mv (.p 1)⟩, ⟨some 15, none, .iaddr 3 (.a 12 0) (.t 13)⟩, ⟨some 16, none, .faddr 0 (.a 15 0)⟩, ⟨none, none, .store 1 (.a 16 0) (.p 14)⟩])
 (.seq (.reg [⟨some 17, none, .mv (.p 1)⟩, ⟨some 18, none, .bin .add (.t 17) (.c (.int .i64 1))⟩, ⟨some 1, none, .asg (.p 18)⟩])
 (.seq (.reg [⟨some 19, none, .rf (.t 0)⟩, ⟨some 20, none, .mv (.p 5)⟩, ⟨some 21, none, .mv (.p 1)⟩, ⟨some 22, none, .iaddr 3 (.a 19 0) (.t 20)⟩, ⟨some 23, none, .faddr 1 (.a 22 0)⟩, ⟨none, none, .store 1 (.a 23 0) (.p 21)⟩])
 (.seq (.reg [⟨some 24, none, .mv (.p 1)⟩, ⟨some 25, none, .bin .add (.t 24) (.c (.int .i64 1))⟩, ⟨some 1, none, .asg (.p 25)⟩])
 (.seq (.reg [⟨some 26, none, .rf (.t 0)⟩, ⟨some 27, none, .mv (.p 5)⟩, ⟨some 28, none, .mv (.p 1)⟩, ⟨some 29, none, .iaddr 3 (.a 26 0) (.t 27)⟩, ⟨some 30, none, .faddr 2 (.a 29 0)⟩, ⟨none, none, .store 1 (.a 30 0) (.p 28)⟩])
 (.reg [⟨some 31, none, .mv (.p 1)⟩, ⟨some 32, none, .bin .add (.t 31) (.c (.int .i64 1))⟩, ⟨some 1, none, .asg (.p 32)⟩])))))))
 (.reg [⟨some 10, none, .mv (.p 5)⟩, ⟨some 11, none, .bin .add (.t 10) (.c (.int .i64 1))⟩, ⟨some 5, none, .asg (.p 11)⟩])))
/-- laws.markAttemptS -/
def a_laws_markAttemptS : AFn := ⟨2, 34, [.tmp 4, .io 0], (.seq (.reg [⟨some 4, none, .asg (.c (.int .i64 0))⟩])
 (.seq (.seq (.reg [⟨some 5, none, .asg (.c (.int .i64 0))⟩])
 (.block 0 (.loop [0, 1, 5] [0, 1, 4] b_laws_markAttemptS_0)))
 (.seq (.reg [⟨some 33, none, .mv (.p 1)⟩, ⟨some 4, none, .asg (.p 33)⟩])
 .ret)))⟩
def b_laws_szOrderS_0 : AC := (.seq (.seq (.reg [⟨some 12, none, .mv (.p 5)⟩, ⟨some 13, none, .rf (.t 0)⟩, ⟨some 14, none, .len (.a 13 0)⟩, ⟨some 15, none, .bin .lss (.t 12) (.t 14)⟩])
 (.cond (.t 15) .skip (.exit 0)))
 (.seq (.block 1 (.seq (.reg [⟨some 18, none, .rf (.t 0)⟩, ⟨some 19, none, .mv (.p 5)⟩, ⟨some 20, none, .iaddr 3 (.a 18 0) (.t 19)⟩, ⟨some 21, none, .load true 3 (.a 20 0)⟩, ⟨some 22, none, .mv (.p 1)⟩, ⟨some 23, none, .call n_laws_szOrder [.a 21 0, .t 22]⟩, ⟨some 1, none, .asg (.p 23)⟩])
 (.seq (.reg [⟨some 24, none, .mv (.p 1)⟩, ⟨some 25, none, .bin .lss (.t 24) (.c (.int .i64 0))⟩])
 (.cond (.t 25) (.seq (.reg [⟨some 4, none, .asg (.c (.int .i64 (-1)))⟩])
 .ret) .skip))))
 (.reg [⟨some 16, none, .mv (.p 5)⟩, ⟨some 17, none, .bin .add (.t 16) (.c (.int .i64 1))⟩, ⟨some 5, none, .asg (.p 17)⟩])))
/-- laws.szOrderS -/
def a_laws_szOrderS : AFn := ⟨2, 27, [.tmp 4], (.seq (.reg [⟨some 4, none, .asg (.c (.int .i64 0))⟩])
 (.seq (.reg [⟨some 6, none, .mv (.p 1)⟩, ⟨some 7, none, .rf (.t 0)⟩, ⟨some 8, none, .len (.a 7 0)⟩, ⟨some 9, none, .bin .sub (.t 6) (.t 8)⟩, ⟨some 1, none, .asg (.p 9)⟩])
 (.seq (.seq (.reg [⟨some 10, none, .mv (.p 1)⟩, ⟨some 11, none, .bin .lss (.t 10) (.c (.int .i64 0))⟩])
 (.cond (.t 11) (.seq (.reg [⟨some 4, none, .asg (.c (.int .i64 (-1)))⟩])
 .ret) .skip))
 (.seq (.seq (.reg [⟨some 5, none, .asg (.c (.int .i64 0))⟩])
 (.block 0 (.loop [0, 1, 5] [1, 4] b_laws_szOrderS_0)))
 (.seq (.reg [⟨some 26, none, .mv (.p 1)⟩, ⟨some 4, none, .asg (.p 26)⟩])
 .ret)))))⟩
def b_spec_AttemptsAt_0 : AC := (.seq (.reg [⟨some 35, none, .bin .lss (.t 34) (.t 33)⟩])
 (.seq (.cond (.t 35) .skip (.exit 0))
 (.seq (.block 1 (.seq (.reg [⟨some 36, none, .mv (.p 34)⟩, ⟨some 37, none, .iaddr 3 (.a 32 2) (.t 34)⟩, ⟨some 38, none, .load true 3 (.a 37 2)⟩, ⟨some 12, none, .alloc [.int .i64 0, .list true 1 [], .int .i64 0]⟩, ⟨some 11, none, .asg (.p 36)⟩, ⟨none, none, .store 3 (.t 12) (.a 38 2)⟩])
 (.seq (.seq (.reg [⟨some 39, none, .load true 12 (.t 4)⟩, ⟨some 40, none, .load true 3 (.t 5)⟩, ⟨some 41, none, .faddr 0 (.t 12)⟩, ⟨some 42, none, .load false 1 (.a 41 12)⟩, ⟨some 43, none, .call n_spec_fOn [.a 39 4, .a 40 5, .a 42 12]⟩, ⟨some 44, none, .un .not (.t 43)⟩, ⟨some 45, none, .mv (.p 44)⟩, ⟨some 46, some (45, false), .mv (.p 11)⟩, ⟨some 47, some (45, false), .bin .gtr (.t 46) (.c (.int .i64 0))⟩, ⟨some 48, some (45, false), .mv (.p 47)⟩, ⟨some 49, some (48, true), .rf (.t 2)⟩, ⟨some 50, some (48, true), .mv (.p 11)⟩, ⟨some 51, some (48, true), .bin .sub (.t 50) (.c (.int .i64 1))⟩, ⟨some 52, some (48, true), .iaddr 3 (.a 49 2) (.t 51)⟩, ⟨some 53, some (48, true), .faddr 0 (.a 52 2)⟩, ⟨some 54, some (48, true), .load false 1 (.a 53 2)⟩, ⟨some 55, some (48, true), .faddr 0 (.t 12)⟩, ⟨some 56, some (48, true), .load false 1 (.a 55 12)⟩, ⟨some 57, some (48, true), .bin .geq (.a 54 2) (.a 56 12)⟩, ⟨some 58, some (45, false), .pick (.t 48) (.t 57) (.c (.bool false))⟩, ⟨some 59, none, .pick (.t 45) (.c (.bool true)) (.t 58)⟩, ⟨some 60, none, .mv (.p 59)⟩, ⟨some 61, some (60, false), .faddr 1 (.t 12)⟩, ⟨some 62, some (60, false), .load false 1 (.a 61 12)⟩, ⟨some 63, some (60, false), .len (.a 62 12)⟩, ⟨some 64, some (60, false), .bin .gtr (.t 63) (.c (.int .i64 9))⟩, ⟨some 65, none, .pick (.t 60) (.c (.bool true)) (.t 64)⟩, ⟨some 66, none, .mv (.p 65)⟩, ⟨some 67, some (66, false), .faddr 1 (.t 12)⟩, ⟨some 68, some (66, false), .load false 1 (.a 67 12)⟩, ⟨some 69, some (66, false), .call n_spec_l1All [.a 68 12, .c (.int .i64 0), .c (.int .i64 5)]⟩, ⟨some 70, some (66, false), .un .not (.t 69)⟩, ⟨some 71, none, .pick (.t 66) (.c (.bool true)) (.t 70)⟩])
 (.cond (.t 71) (.seq (.reg [⟨some 8, none, .asg (.c (.list true 3 []))⟩, ⟨some 9, none, .asg (.c (.bool false))⟩])
 .ret) .skip))
 (.reg [⟨some 72, none, .rf (.t 10)⟩, ⟨some 73, none, .mv (.p 11)⟩, ⟨some 74, none, .iaddr 1 (.a 72 10) (.t 73)⟩, ⟨none, none, .store 1 (.a 74 10) (.c (.bool true))⟩]))))
 (.reg [⟨some 75, none, .bin .add (.t 34) (.c (.int .i64 1))⟩, ⟨some 34, none, .mv (.p 75)⟩]))))
/-- spec.AttemptsAt -/
def a_spec_AttemptsAt : AFn := ⟨4, 82, [.tmp 8, .tmp 9], (.seq (.reg [⟨some 4, none, .box (.t 0)⟩, ⟨some 5, none, .box (.t 1)⟩, ⟨some 8, none, .asg (.c (.list true 3 []))⟩, ⟨some 9, none, .asg (.c (.bool false))⟩])
 (.seq (.seq (.reg [⟨some 13, none, .load true 12 (.t 4)⟩, ⟨some 14, none, .load true 3 (.t 5)⟩, ⟨some 15, none, .call n_spec_sGood [.a 13 4, .a 14 5]⟩, ⟨some 16, none, .un .not (.t 15)⟩, ⟨some 17, none, .mv (.p 16)⟩, ⟨some 18, some (17, false), .rf (.t 2)⟩, ⟨some 19, some (17, false), .len (.a 18 2)⟩, ⟨some 20, some (17, false), .bin .gtr (.t 19) (.c (.int .i64 12))⟩, ⟨some 21, none, .pick (.t 17) (.c (.bool true)) (.t 20)⟩, ⟨some 22, none, .mv (.p 21)⟩, ⟨some 23, some (22, false), .rf (.t 3)⟩, ⟨some 24, some (22, false), .len (.a 23 3)⟩, ⟨some 25, some (22, false), .rf (.t 2)⟩, ⟨some 26, some (22, false), .len (.a 25 2)⟩, ⟨some 27, some (22, false), .bin .neq (.t 24) (.t 26)⟩, ⟨some 28, none, .pick (.t 22) (.c (.bool true)) (.t 27)⟩])
 (.cond (.t 28) (.seq (.reg [⟨some 8, none, .asg (.c (.list true 3 []))⟩, ⟨some 9, none, .asg (.c (.bool false))⟩])
 .ret) .skip))
 (.seq (.reg [⟨some 29, none, .rf (.t 2)⟩, ⟨some 30, none, .len (.a 29 2)⟩, ⟨some 31, none, .mslice 1 [.bool false] (.t 30)⟩, ⟨some 10, none, .asg (.t 31)⟩])
 (.seq (.seq (.reg [⟨some 32, none, .rf (.t 2)⟩, ⟨some 33, none, .len (.a 32 2)⟩, ⟨some 34, none, .mv (.c (.int .i64 0))⟩])
 (.block 0 (.loop [2, 3, 4, 5, 10, 32, 33, 34] [2, 3, 4, 5, 8, 9, 10] b_spec_AttemptsAt_0)))
 (.seq (.reg [⟨some 76, none, .load true 12 (.t 4)⟩, ⟨some 77, none, .load true 3 (.t 5)⟩, ⟨some 78, none, .rf (.t 2)⟩, ⟨some 79, none, .rf (.t 3)⟩, ⟨some 80, none, .rf (.t 10)⟩, ⟨some 81, none, .call n_spec_fAttempts [.a 76 4, .a 77 5, .a 78 2, .a 79 3, .a 80 10]⟩, ⟨some 8, none, .asg (.t 81)⟩, ⟨some 9, none, .asg (.c (.bool true))⟩])
 .ret)))))⟩
def b_laws_toOrderS_0 : AC := (.seq (.seq (.reg [⟨some 8, none, .mv (.p 4)⟩, ⟨some 9, none, .rf (.t 0)⟩, ⟨some 10, none, .len (.a 9 0)⟩, ⟨some 11, none, .bin .lss (.t 8) (.t 10)⟩])
 (.cond (.t 11) .skip (.exit 0)))
 (.seq (.block 1 (.reg [⟨some 14, none, .rf (.t 3)⟩, ⟨some 15, none, .mv (.p 4)⟩, ⟨some 16, none, .rf (.t 0)⟩, ⟨some 17, none, .mv (.p 4)⟩, ⟨some 18, none, .iaddr 3 (.a 16 0) (.t 17)⟩, ⟨some 19, none, .load true 3 (.a 18 0)⟩, ⟨some 20, none, .call n_laws_toOrder [.a 19 0]⟩, ⟨some 21, none, .iaddr 3 (.a 14 3) (.t 15)⟩, ⟨none, none, .store 3 (.a 21 3) (.t 20)⟩]))
 (.reg [⟨some 12, none, .mv (.p 4)⟩, ⟨some 13, none, .bin .add (.t 12) (.c (.int .i64 1))⟩, ⟨some 4, none, .asg (.p 13)⟩])))
/-- laws.toOrderS -/
def a_laws_toOrderS : AFn := ⟨1, 23, [.tmp 2], (.seq (.reg [⟨some 2, none, .asg (.c (.list true 3 []))⟩])
 (.seq (.reg [⟨some 5, none, .rf (.t 0)⟩, ⟨some 6, none, .len (.a 5 0)⟩, ⟨some 7, none, .mslice 3 [.int .i64 0, .list true 1 [], .int .i64 0] (.t 6)⟩, ⟨some 3, none, .asg (.t 7)⟩])
 (.seq (.seq (.reg [⟨some 4, none, .asg (.c (.int .i64 0))⟩])
 (.block 0 (.loop [0, 3, 4] [2, 3] b_laws_toOrderS_0)))
 (.seq (.reg [⟨some 22, none, .rf (.t 3)⟩, ⟨some 2, none, .asg (.a 22 3)⟩])
 .ret))))⟩
def b_impl_AttemptsAt_0 : AC := (.seq (.reg [⟨some 36, none, .bin .lss (.t 35) (.t 34)⟩])
 (.seq (.cond (.t 36) .skip (.exit 0))
 (.seq (.block 1 (.seq (.reg [⟨some 37, none, .mv (.p 35)⟩, ⟨some 38, none, .iaddr 3 (.a 33 2) (.t 35)⟩, ⟨some 39, none, .load true 3 (.a 38 2)⟩, ⟨some 11, none, .alloc [.int .i64 0, .list true 1 [], .int .i64 0]⟩, ⟨some 10, none, .asg (.p 37)⟩, ⟨none, none, .store 3 (.t 11) (.a 39 2)⟩])
 (.seq (.reg [⟨some 40, none, .faddr 0 (.t 11)⟩, ⟨some 41, none, .load false 1 (.a 40 11)⟩, ⟨some 42, none, .faddr 2 (.t 5)⟩, ⟨some 43, none, .load false 1 (.a 42 5)⟩, ⟨some 44, none, .len (.a 43 5)⟩, ⟨some 45, none, .call n_impl_isIndex [.a 41 11, .t 44]⟩, ⟨some 46, none, .un .not (.t 45)⟩, ⟨some 47, none, .mv (.p 46)⟩, ⟨some 48, some (47, false), .faddr 2 (.t 5)⟩, ⟨some 49, some (47, false), .load false 1 (.a 48 5)⟩, ⟨some 50, some (47, false), .faddr 0 (.t 11)⟩, ⟨some 51, some (47, false), .load false 1 (.a 50 11)⟩, ⟨some 52, some (47, false), .iaddr 4 (.a 49 5) (.a 51 11)⟩, ⟨some 53, some (47, false), .faddr 2 (.a 52 5)⟩, ⟨some 54, some (47, false), .load false 1 (.a 53 5)⟩, ⟨some 55, some (47, false), .bin .lss (.a 54 5) (.c (.int .i64 0))⟩, ⟨some 56, none, .pick (.t 47) (.c (.bool true)) (.t 55)⟩, ⟨some 57, none, .mv (.p 56)⟩, ⟨some 58, some (57, false), .mv (.p 10)⟩, ⟨some 59, some (57, false), .bin .gtr (.t 58) (.c (.int .i64 0))⟩, ⟨some 60, some (57, false), .mv (.p 59)⟩, ⟨some 61, some (60, true), .rf (.t 2)⟩, ⟨some 62, some (60, true), .mv (.p 10)⟩, ⟨some 63, some (60, true), .bin .sub (.t 62) (.c (.int .i64 1))⟩, ⟨some 64, some (60, true), .iaddr 3 (.a 61 2) (.t 63)⟩, ⟨some 65, some (60, true), .faddr 0 (.a 64 2)⟩, ⟨some 66, some (60, true), .load false 1 (.a 65 2)⟩, ⟨some 67, some (60, true), .faddr 0 (.t 11)⟩, ⟨some 68, some (60, true), .load false 1 (.a 67 11)⟩, ⟨some 69, some (60, true), .bin .geq (.a 66 2) (.a 68 11)⟩, ⟨some 70, some (57, false), .pick (.t 60) (.t 69) (.c (.bool false))⟩, ⟨some 71, none, .pick (.t 57) (.c (.bool true)) (.t 70)⟩, ⟨some 72, none, .mv (.p 71)⟩, ⟨some 73, some (72, false), .faddr 1 (.t 11)⟩, ⟨some 74, some (72, false), .load false 1 (.a 73 11)⟩, ⟨some 75, some (72, false), .call n_impl_isPath [.a 74 11]⟩, ⟨some 76, some (72, false), .un .not (.t 75)⟩, ⟨some 77, none, .pick (.t 72) (.c (.bool true)) (.t 76)⟩])
 (.cond (.t 77) (.seq (.reg [⟨some 8, none, .asg (.c (.list true 3 []))⟩, ⟨some 9, none, .asg (.c (.bool false))⟩])
 .ret) .skip))))
 (.reg [⟨some 78, none, .bin .add (.t 35) (.c (.int .i64 1))⟩, ⟨some 35, none, .mv (.p 78)⟩]))))
def b_impl_AttemptsAt_1 : AC := (.seq (.reg [⟨some 83, none, .bin .lss (.t 82) (.t 81)⟩])
 (.seq (.cond (.t 83) .skip (.exit 2))
 (.seq (.block 3 (.seq (.reg [⟨some 84, none, .mv (.p 82)⟩, ⟨some 85, none, .iaddr 3 (.a 80 2) (.t 82)⟩, ⟨some 86, none, .load true 3 (.a 85 2)⟩, ⟨some 14, none, .alloc [.int .i64 0, .list true 1 [], .int .i64 0]⟩, ⟨some 13, none, .asg (.p 84)⟩, ⟨none, none, .store 3 (.t 14) (.a 86 2)⟩])
 (.seq (.reg [⟨some 88, none, .load true 12 (.t 4)⟩, ⟨some 89, none, .load true 3 (.t 5)⟩, ⟨some 90, none, .load true 3 (.t 14)⟩, ⟨some 91, none, .rf (.t 3)⟩, ⟨some 92, none, .mv (.p 13)⟩, ⟨some 93, none, .iaddr 1 (.a 91 3) (.t 92)⟩, ⟨some 94, none, .load false 1 (.a 93 3)⟩, ⟨some 95, none, .call n_impl_attemptOf [.a 88 4, .a 89 5, .a 90 14, .a 94 3]⟩, ⟨some 87, none, .mv (.t 95)⟩, ⟨some 96, none, .extract (.t 87) 0⟩, ⟨some 97, none, .extract (.p 87) 1⟩, ⟨some 15, none, .alloc [.int .i64 0, .int .i64 0, .int .i64 0]⟩, ⟨none, none, .store 3 (.t 15) (.t 96)⟩, ⟨some 16, none, .asg (.p 97)⟩])
 (.seq (.reg [⟨some 98, none, .mv (.p 16)⟩])
 (.cond (.t 98) (.reg [⟨some 99, none, .rf (.t 12)⟩, ⟨some 100, none, .load true 3 (.t 15)⟩, ⟨some 101, none, .bslice 3 1 [.int .i64 0, .int .i64 0, .int .i64 0] [(0, .a 100 15)]⟩, ⟨some 102, none, .append 3 (.a 99 12) (.t 101)⟩, ⟨some 12, none, .asg (.t 102)⟩]) .skip)))))
 (.reg [⟨some 103, none, .bin .add (.t 82) (.c (.int .i64 1))⟩, ⟨some 82, none, .mv (.p 103)⟩]))))
/-- impl.AttemptsAt -/
def a_impl_AttemptsAt : AFn := ⟨4, 105, [.tmp 8, .tmp 9], (.seq (.reg [⟨some 4, none, .box (.t 0)⟩, ⟨some 5, none, .box (.t 1)⟩, ⟨some 8, none, .asg (.c (.list true 3 []))⟩, ⟨some 9, none, .asg (.c (.bool false))⟩])
 (.seq (.seq (.reg [⟨some 17, none, .load true 12 (.t 4)⟩, ⟨some 18, none, .load true 3 (.t 5)⟩, ⟨some 19, none, .call n_impl_fits [.a 17 4, .a 18 5]⟩, ⟨some 20, none, .un .not (.t 19)⟩, ⟨some 21, none, .mv (.p 20)⟩, ⟨some 22, some (21, false), .rf (.t 2)⟩, ⟨some 23, some (21, false), .len (.a 22 2)⟩, ⟨some 24, some (21, false), .bin .gtr (.t 23) (.c (.int .i64 12))⟩, ⟨some 25, none, .pick (.t 21) (.c (.bool true)) (.t 24)⟩, ⟨some 26, none, .mv (.p 25)⟩, ⟨some 27, some (26, false), .rf (.t 3)⟩, ⟨some 28, some (26, false), .len (.a 27 3)⟩, ⟨some 29, some (26, false), .rf (.t 2)⟩, ⟨some 30, some (26, false), .len (.a 29 2)⟩, ⟨some 31, some (26, false), .bin .neq (.t 28) (.t 30)⟩, ⟨some 32, none, .pick (.t 26) (.c (.bool true)) (.t 31)⟩])
 (.cond (.t 32) (.seq (.reg [⟨some 8, none, .asg (.c (.list true 3 []))⟩, ⟨some 9, none, .asg (.c (.bool false))⟩])
 .ret) .skip))
 (.seq (.seq (.reg [⟨some 33, none, .rf (.t 2)⟩, ⟨some 34, none, .len (.a 33 2)⟩, ⟨some 35, none, .mv (.c (.int .i64 0))⟩])
 (.block 0 (.loop [2, 3, 4, 5, 33, 34, 35] [2, 3, 4, 5, 8, 9] b_impl_AttemptsAt_0)))
 (.seq (.reg [⟨some 79, none, .bslice 3 0 [.int .i64 0, .int .i64 0, .int .i64 0] []⟩, ⟨some 12, none, .asg (.t 79)⟩])
 (.seq (.seq (.reg [⟨some 80, none, .rf (.t 2)⟩, ⟨some 81, none, .len (.a 80 2)⟩, ⟨some 82, none, .mv (.c (.int .i64 0))⟩])
 (.block 2 (.loop [2, 3, 4, 5, 12, 80, 81, 82] [8, 9, 12] b_impl_AttemptsAt_1)))
 (.seq (.reg [⟨some 104, none, .rf (.t 12)⟩, ⟨some 8, none, .asg (.a 104 12)⟩, ⟨some 9, none, .asg (.c (.bool true))⟩])
 .ret))))))⟩
def b_laws_eqOrderS_0 : AC := (.seq (.seq (.reg [⟨some 11, none, .mv (.p 5)⟩, ⟨some 12, none, .rf (.t 0)⟩, ⟨some 13, none, .len (.a 12 0)⟩, ⟨some 14, none, .bin .lss (.t 11) (.t 13)⟩])
 (.cond (.t 14) .skip (.exit 0)))
 (.seq (.block 1 (.seq (.reg [⟨some 17, none, .rf (.t 0)⟩, ⟨some 18, none, .mv (.p 5)⟩, ⟨some 19, none, .iaddr 3 (.a 17 0) (.t 18)⟩, ⟨some 20, none, .load true 3 (.a 19 0)⟩, ⟨some 21, none, .rf (.t 1)⟩, ⟨some 22, none, .mv (.p 5)⟩, ⟨some 23, none, .iaddr 3 (.a 21 1) (.t 22)⟩, ⟨some 24, none, .load true 3 (.a 23 1)⟩, ⟨some 25, none, .call n_laws_eqOrder [.a 20 0, .a 24 1]⟩, ⟨some 26, none, .un .not (.t 25)⟩])
 (.cond (.t 26) (.seq (.reg [⟨some 4, none, .asg (.c (.bool false))⟩])
 .ret) .skip)))
 (.reg [⟨some 15, none, .mv (.p 5)⟩, ⟨some 16, none, .bin .add (.t 15) (.c (.int .i64 1))⟩, ⟨some 5, none, .asg (.p 16)⟩])))
/-- laws.eqOrderS -/
def a_laws_eqOrderS : AFn := ⟨2, 27, [.tmp 4], (.seq (.reg [⟨some 4, none, .asg (.c (.bool false))⟩])
 (.seq (.seq (.reg [⟨some 6, none, .rf (.t 0)⟩, ⟨some 7, none, .len (.a 6 0)⟩, ⟨some 8, none, .rf (.t 1)⟩, ⟨some 9, none, .len (.a 8 1)⟩, ⟨some 10, none, .bin .neq (.t 7) (.t 9)⟩])
 (.cond (.t 10) (.seq (.reg [⟨some 4, none, .asg (.c (.bool false))⟩])
 .ret) .skip))
 (.seq (.seq (.reg [⟨some 5, none, .asg (.c (.int .i64 0))⟩])
 (.block 0 (.loop [0, 1, 5] [4] b_laws_eqOrderS_0)))
 (.seq (.reg [⟨some 4, none, .asg (.c (.bool true))⟩])
 .ret))))⟩
def b_laws_markOrderS_0 : AC := (.seq (.seq (.reg [⟨some 6, none, .mv (.p 5)⟩, ⟨some 7, none, .rf (.t 0)⟩, ⟨some 8, none, .len (.a 7 0)⟩, ⟨some 9, none, .bin .lss (.t 6) (.t 8)⟩])
 (.cond (.t 9) .skip (.exit 0)))
 (.seq (.block 1 (.seq (.reg [⟨some 12, none, .rf (.t 0)⟩, ⟨some 13, none, .mv (.p 5)⟩, ⟨some 14, none, .mv (.p 1)⟩, ⟨some 15, none, .iaddr 3 (.a 12 0) (.t 13)⟩, ⟨some 16, none, .faddr 0 (.a 15 0)⟩, ⟨none, none, .store 1 (.a 16 0) (.p 14)⟩])
 (.seq (.reg [⟨some 17, none, .mv (.p 1)⟩, ⟨some 18, none, .bin .add (.t 17) (.c (.int .i64 1))⟩, ⟨some 1, none, .asg (.p 18)⟩])
 (.seq (.reg [⟨some 19, none, .rf (.t 0)⟩, ⟨some 20, none, .mv (.p 5)⟩, ⟨some 21, none, .iaddr 3 (.a 19 0) (.t 20)⟩, ⟨some 22, none, .faddr 1 (.a 21 0)⟩, ⟨some 23, none, .load false 1 (.a 22 0)⟩, ⟨some 24, none, .mv (.p 1)⟩, ⟨some 25, none, .calli n_laws_markIntS 23 0 [.t 24]⟩, ⟨some 1, none, .asg (.p 25)⟩])
 (.seq (.reg [⟨some 26, none, .rf (.t 0)⟩, ⟨some 27, none, .mv (.p 5)⟩, ⟨some 28, none, .mv (.p 1)⟩, ⟨some 29, none, .iaddr 3 (.a 26 0) (.t 27)⟩, ⟨some 30, none, .faddr 2 (.a 29 0)⟩, ⟨none, none, .store 1 (.a 30 0) (.p 28)⟩])
 (.reg [⟨some 31, none, .mv (.p 1)⟩, ⟨some 32, none, .bin .add (.t 31) (.c (.int .i64 1))⟩, ⟨some 1, none, .asg (.p 32)⟩]))))))
 (.reg [⟨some 10, none, .mv (.p 5)⟩, ⟨some 11, none, .bin .add (.t 10) (.c (.int .i64 1))⟩, ⟨some 5, none, .asg (.p 11)⟩])))
/-- laws.markOrderS -/
def a_laws_markOrderS : AFn := ⟨2, 34, [.tmp 4, .io 0], (.seq (.reg [⟨some 4, none, .asg (.c (.int .i64 0))⟩])
 (.seq (.seq (.reg [⟨some 5, none, .asg (.c (.int .i64 0))⟩])
 (.block 0 (.loop [0, 1, 5] [0, 1, 4] b_laws_markOrderS_0)))
 (.seq (.reg [⟨some 33, none, .mv (.p 1)⟩, ⟨some 4, none, .asg (.p 33)⟩])
 .ret)))⟩
def b_laws_heldAttemptS_0 : AC := (.seq (.seq (.reg [⟨some 6, none, .mv (.p 5)⟩, ⟨some 7, none, .rf (.t 0)⟩, ⟨some 8, none, .len (.a 7 0)⟩, ⟨some 9, none, .bin .lss (.t 6) (.t 8)⟩])
 (.cond (.t 9) .skip (.exit 0)))
 (.seq (.block 1 (.seq (.seq (.reg [⟨some 12, none, .rf (.t 0)⟩, ⟨some 13, none, .mv (.p 5)⟩, ⟨some 14, none, .iaddr 3 (.a 12 0) (.t 13)⟩, ⟨some 15, none, .faddr 0 (.a 14 0)⟩, ⟨some 16, none, .load false 1 (.a 15 0)⟩, ⟨some 17, none, .mv (.p 1)⟩, ⟨some 18, none, .bin .neq (.a 16 0) (.t 17)⟩])
 (.cond (.t 18) (.seq (.reg [⟨some 4, none, .asg (.c (.int .i64 (-1)))⟩])
 .ret) .skip))
 (.seq (.reg [⟨some 19, none, .mv (.p 1)⟩, ⟨some 20, none, .bin .add (.t 19) (.c (.int .i64 1))⟩, ⟨some 1, none, .asg (.p 20)⟩])
 (.seq (.seq (.reg [⟨some 21, none, .rf (.t 0)⟩, ⟨some 22, none, .mv (.p 5)⟩, ⟨some 23, none, .iaddr 3 (.a 21 0) (.t 22)⟩, ⟨some 24, none, .faddr 1 (.a 23 0)⟩, ⟨some 25, none, .load false 1 (.a 24 0)⟩, ⟨some 26, none, .mv (.p 1)⟩, ⟨some 27, none, .bin .neq (.a 25 0) (.t 26)⟩])
 (.cond (.t 27) (.seq (.reg [⟨some 4, none, .asg (.c (.int .i64 (-1)))⟩])
 .ret) .skip))
 (.seq (.reg [⟨some 28, none, .mv (.p 1)⟩, ⟨some 29, none, .bin .add (.t 28) (.c (.int .i64 1))⟩, ⟨some 1, none, .asg (.p 29)⟩])
 (.seq (.seq (.reg [⟨some 30, none, .rf (.t 0)⟩, ⟨some 31, none, .mv (.p 5)⟩, ⟨some 32, none, .iaddr 3 (.a 30 0) (.t 31)⟩, ⟨some 33, none, .faddr 2 (.a 32 0)⟩, ⟨some 34, none, .load false 1 (.a 33 0)⟩, ⟨some 35, none, .mv (.p 1)⟩, ⟨some 36, none, .bin .neq (.a 34 0) (.t 35)⟩])
 (.cond (.t 36) (.seq (.reg [⟨some 4, none, .asg (.c (.int .i64 (-1)))⟩])
 .ret) .skip))
 (.reg [⟨some 37, none, .mv (.p 1)⟩, ⟨some 38, none, .bin .add (.t 37) (.c (.int .i64 1))⟩, ⟨some 1, none, .asg (.p 38)⟩])))))))
 (.reg [⟨some 10, none, .mv (.p 5)⟩, ⟨some 11, none, .bin .add (.t 10) (.c (.int .i64 1))⟩, ⟨some 5, none, .asg (.p 11)⟩])))
/-- laws.heldAttemptS -/
def a_laws_heldAttemptS : AFn := ⟨2, 40, [.tmp 4], (.seq (.reg [⟨some 4, none, .asg (.c (.int .i64 0))⟩])
 (.seq (.seq (.reg [⟨some 5, none, .asg (.c (.int .i64 0))⟩])
 (.block 0 (.loop [0, 1, 5] [1, 4] b_laws_heldAttemptS_0)))
 (.seq (.reg [⟨some 39, none, .mv (.p 1)⟩, ⟨some 4, none, .asg (.p 39)⟩])
 .ret)))⟩
/-- laws.szSheet -/
def a_laws_szSheet : AFn := ⟨2, 12, [.tmp 4], (.seq (.reg [⟨some 2, none, .box (.t 0)⟩, ⟨some 4, none, .asg (.c (.int .i64 0))⟩])
 (.seq (.reg [⟨some 5, none, .faddr 1 (.t 2)⟩, ⟨some 6, none, .load false 1 (.a 5 2)⟩, ⟨some 7, none, .mv (.p 1)⟩, ⟨some 8, none, .call n_laws_szOrderS [.a 6 2, .t 7]⟩, ⟨some 1, none, .asg (.p 8)⟩])
 (.seq (.seq (.reg [⟨some 9, none, .mv (.p 1)⟩, ⟨some 10, none, .bin .lss (.t 9) (.c (.int .i64 0))⟩])
 (.cond (.t 10) (.seq (.reg [⟨some 4, none, .asg (.c (.int .i64 (-1)))⟩])
 .ret) .skip))
 (.seq (.reg [⟨some 11, none, .mv (.p 1)⟩, ⟨some 4, none, .asg (.p 11)⟩])
 .ret))))⟩
def b_spec_AttacksOn_0 : AC := (.seq (.reg [⟨some 31, none, .bin .lss (.t 30) (.t 29)⟩])
 (.seq (.cond (.t 31) .skip (.exit 0))
 (.seq (.block 1 (.seq (.reg [⟨some 32, none, .iaddr 3 (.a 28 6) (.t 30)⟩, ⟨some 33, none, .load true 3 (.a 32 6)⟩, ⟨some 12, none, .alloc [.int .i64 0, .list true 1 [], .int .i64 0]⟩, ⟨none, none, .store 3 (.t 12) (.a 33 6)⟩])
 (.seq (.reg [⟨some 34, none, .faddr 2 (.t 12)⟩, ⟨some 35, none, .load false 1 (.a 34 12)⟩, ⟨some 36, none, .mv (.p 3)⟩, ⟨some 37, none, .bin .eql (.a 35 12) (.t 36)⟩])
 (.cond (.t 37) (.reg [⟨some 38, none, .rf (.t 10)⟩, ⟨some 39, none, .faddr 0 (.t 12)⟩, ⟨some 40, none, .load false 1 (.a 39 12)⟩, ⟨some 41, none, .bslice 1 1 [.int .i64 0] [(0, .p 40)]⟩, ⟨some 42, none, .append 1 (.a 38 10) (.t 41)⟩, ⟨some 10, none, .asg (.t 42)⟩]) .skip))))
 (.reg [⟨some 43, none, .bin .add (.t 30) (.c (.int .i64 1))⟩, ⟨some 30, none, .mv (.p 43)⟩]))))
/-- spec.AttacksOn -/
def a_spec_AttacksOn : AFn := ⟨4, 45, [.tmp 8, .tmp 9], (.seq (.reg [⟨some 4, none, .box (.t 0)⟩, ⟨some 5, none, .box (.t 1)⟩, ⟨some 6, none, .box (.t 2)⟩, ⟨some 8, none, .asg (.c (.list true 1 []))⟩, ⟨some 9, none, .asg (.c (.bool false))⟩])
 (.seq (.seq (.reg [⟨some 13, none, .load true 12 (.t 4)⟩, ⟨some 14, none, .load true 3 (.t 5)⟩, ⟨some 15, none, .load true 2 (.t 6)⟩, ⟨some 16, none, .call n_spec_oGood [.a 13 4, .a 14 5, .a 15 6]⟩, ⟨some 17, none, .un .not (.t 16)⟩, ⟨some 18, none, .mv (.p 17)⟩, ⟨some 19, some (18, false), .mv (.p 3)⟩, ⟨some 20, some (18, false), .faddr 7 (.t 4)⟩, ⟨some 21, some (18, false), .load true 5 (.a 20 4)⟩, ⟨some 22, some (18, false), .call n_spec_mSize [.a 21 4]⟩, ⟨some 23, some (18, false), .bin .sub (.t 22) (.c (.int .i64 1))⟩, ⟨some 24, some (18, false), .call n_spec_l1In [.t 19, .c (.int .i64 0), .t 23]⟩, ⟨some 25, some (18, false), .un .not (.t 24)⟩, ⟨some 26, none, .pick (.t 18) (.c (.bool true)) (.t 25)⟩])
 (.cond (.t 26) (.seq (.reg [⟨some 8, none, .asg (.c (.list true 1 []))⟩, ⟨some 9, none, .asg (.c (.bool false))⟩])
 .ret) .skip))
 (.seq (.reg [⟨some 10, none, .asg (.c (.list true 1 []))⟩])
 (.seq (.seq (.reg [⟨some 27, none, .faddr 1 (.t 6)⟩, ⟨some 28, none, .load false 1 (.a 27 6)⟩, ⟨some 29, none, .len (.a 28 6)⟩, ⟨some 30, none, .mv (.c (.int .i64 0))⟩])
 (.block 0 (.loop [3, 6, 10, 28, 29, 30] [8, 9, 10] b_spec_AttacksOn_0)))
 (.seq (.reg [⟨some 44, none, .rf (.t 10)⟩, ⟨some 8, none, .asg (.a 44 10)⟩, ⟨some 9, none, .asg (.c (.bool true))⟩])
 .ret)))))⟩
/-- laws.toSheet -/
def a_laws_toSheet : AFn := ⟨1, 12, [.cell 2 2 true], (.seq (.reg [⟨some 1, none, .box (.t 0)⟩, ⟨some 2, none, .alloc [.int .i64 0, .list true 3 []]⟩])
 (.seq (.reg [⟨some 3, none, .alloc [.int .i64 0, .list true 3 []]⟩])
 (.seq (.reg [⟨some 4, none, .faddr 0 (.t 1)⟩, ⟨some 5, none, .load false 1 (.a 4 1)⟩, ⟨some 6, none, .faddr 0 (.t 3)⟩, ⟨none, none, .store 1 (.a 6 3) (.p 5)⟩])
 (.seq (.reg [⟨some 7, none, .faddr 1 (.t 1)⟩, ⟨some 8, none, .load false 1 (.a 7 1)⟩, ⟨some 9, none, .call n_laws_toOrderS [.a 8 1]⟩, ⟨some 10, none, .faddr 1 (.t 3)⟩, ⟨none, none, .store 1 (.a 10 3) (.t 9)⟩])
 (.seq (.reg [⟨some 11, none, .load true 2 (.t 3)⟩, ⟨none, none, .store 2 (.t 2) (.a 11 3)⟩])
 .ret)))))⟩
def b_impl_AttacksOn_0 : AC := (.seq (.reg [⟨some 30, none, .bin .lss (.t 29) (.t 28)⟩])
 (.seq (.cond (.t 30) .skip (.exit 0))
 (.seq (.block 1 (.seq (.reg [⟨some 31, none, .iaddr 3 (.a 27 6) (.t 29)⟩, ⟨some 32, none, .load true 3 (.a 31 6)⟩, ⟨some 12, none, .alloc [.int .i64 0, .list true 1 [], .int .i64 0]⟩, ⟨none, none, .store 3 (.t 12) (.a 32 6)⟩])
 (.seq (.reg [⟨some 33, none, .faddr 2 (.t 12)⟩, ⟨some 34, none, .load false 1 (.a 33 12)⟩, ⟨some 35, none, .mv (.p 3)⟩, ⟨some 36, none, .bin .eql (.a 34 12) (.t 35)⟩])
 (.cond (.t 36) (.reg [⟨some 37, none, .rf (.t 10)⟩, ⟨some 38, none, .faddr 0 (.t 12)⟩, ⟨some 39, none, .load false 1 (.a 38 12)⟩, ⟨some 40, none, .bslice 1 1 [.int .i64 0] [(0, .p 39)]⟩, ⟨some 41, none, .append 1 (.a 37 10) (.t 40)⟩, ⟨some 10, none, .asg (.t 41)⟩]) .skip))))
 (.reg [⟨some 42, none, .bin .add (.t 29) (.c (.int .i64 1))⟩, ⟨some 29, none, .mv (.p 42)⟩]))))
/-- impl.AttacksOn -/
def a_impl_AttacksOn : AFn := ⟨4, 44, [.tmp 8, .tmp 9], (.seq (.reg [⟨some 4, none, .box (.t 0)⟩, ⟨some 5, none, .box (.t 1)⟩, ⟨some 6, none, .box (.t 2)⟩, ⟨some 8, none, .asg (.c (.list true 1 []))⟩, ⟨some 9, none, .asg (.c (.bool false))⟩])
 (.seq (.seq (.reg [⟨some 13, none, .load true 12 (.t 4)⟩, ⟨some 14, none, .load true 3 (.t 5)⟩, ⟨some 15, none, .load true 2 (.t 6)⟩, ⟨some 16, none, .call n_impl_hasSheet [.a 13 4, .a 14 5, .a 15 6]⟩, ⟨some 17, none, .un .not (.t 16)⟩, ⟨some 18, none, .mv (.p 17)⟩, ⟨some 19, some (18, false), .mv (.p 3)⟩, ⟨some 20, some (18, false), .load true 12 (.t 4)⟩, ⟨some 21, some (18, false), .call n_impl_sizeOf [.a 20 4]⟩, ⟨some 22, some (18, false), .call n_impl_isIndex [.t 19, .t 21]⟩, ⟨some 23, some (18, false), .un .not (.t 22)⟩, ⟨some 24, none, .pick (.t 18) (.c (.bool true)) (.t 23)⟩])
 (.cond (.t 24) (.seq (.reg [⟨some 8, none, .asg (.c (.list true 1 []))⟩, ⟨some 9, none, .asg (.c (.bool false))⟩])
 .ret) .skip))
 (.seq (.reg [⟨some 25, none, .bslice 1 0 [.int .i64 0] []⟩, ⟨some 10, none, .asg (.t 25)⟩])
 (.seq (.seq (.reg [⟨some 26, none, .faddr 1 (.t 6)⟩, ⟨some 27, none, .load false 1 (.a 26 6)⟩, ⟨some 28, none, .len (.a 27 6)⟩, ⟨some 29, none, .mv (.c (.int .i64 0))⟩])
 (.block 0 (.loop [3, 6, 10, 27, 28, 29] [8, 9, 10] b_impl_AttacksOn_0)))
 (.seq (.reg [⟨some 43, none, .rf (.t 10)⟩, ⟨some 8, none, .asg (.a 43 10)⟩, ⟨some 9, none, .asg (.c (.bool true))⟩])
 .ret)))))⟩
/-- laws.eqSheet -/
def a_laws_eqSheet : AFn := ⟨2, 16, [.tmp 4], (.seq (.reg [⟨some 2, none, .box (.t 0)⟩, ⟨some 3, none, .box (.t 1)⟩, ⟨some 4, none, .asg (.c (.bool false))⟩])
 (.seq (.seq (.reg [⟨some 5, none, .faddr 0 (.t 2)⟩, ⟨some 6, none, .load false 1 (.a 5 2)⟩, ⟨some 7, none, .faddr 0 (.t 3)⟩, ⟨some 8, none, .load false 1 (.a 7 3)⟩, ⟨some 9, none, .bin .neq (.a 6 2) (.a 8 3)⟩])
 (.cond (.t 9) (.seq (.reg [⟨some 4, none, .asg (.c (.bool false))⟩])
 .ret) .skip))
 (.seq (.seq (.reg [⟨some 10, none, .faddr 1 (.t 2)⟩, ⟨some 11, none, .load false 1 (.a 10 2)⟩, ⟨some 12, none, .faddr 1 (.t 3)⟩, ⟨some 13, none, .load false 1 (.a 12 3)⟩, ⟨some 14, none, .call n_laws_eqOrderS [.a 11 2, .a 13 3]⟩, ⟨some 15, none, .un .not (.t 14)⟩])
 (.cond (.t 15) (.seq (.reg [⟨some 4, none, .asg (.c (.bool false))⟩])
 .ret) .skip))
 (.seq (.reg [⟨some 4, none, .asg (.c (.bool true))⟩])
 .ret))))⟩
/-- laws.markSheet -/
def a_laws_markSheet : AFn := ⟨2, 10, [.tmp 4, .io 0], (.seq (.reg [⟨some 2, none, .boxk 0⟩, ⟨some 4, none, .asg (.c (.int .i64 0))⟩])
 (.seq (.reg [⟨some 5, none, .faddr 1 (.t 2)⟩, ⟨some 6, none, .load false 1 (.a 5 2)⟩, ⟨some 7, none, .mv (.p 1)⟩, ⟨some 8, none, .calli n_laws_markOrderS 6 2 [.t 7]⟩, ⟨some 1, none, .asg (.p 8)⟩])
 (.seq (.reg [⟨some 9, none, .mv (.p 1)⟩, ⟨some 4, none, .asg (.p 9)⟩])
 .ret)))⟩
/-- laws.szRules -/
def a_laws_szRules : AFn := ⟨2, 18, [.tmp 4], (.seq (.reg [⟨some 2, none, .box (.t 0)⟩, ⟨some 4, none, .asg (.c (.int .i64 0))⟩])
 (.seq (.reg [⟨some 5, none, .faddr 0 (.t 2)⟩, ⟨some 6, none, .load false 1 (.a 5 2)⟩, ⟨some 7, none, .mv (.p 1)⟩, ⟨some 8, none, .call n_laws_szTerrainS [.a 6 2, .t 7]⟩, ⟨some 1, none, .asg (.p 8)⟩])
 (.seq (.seq (.reg [⟨some 9, none, .mv (.p 1)⟩, ⟨some 10, none, .bin .lss (.t 9) (.c (.int .i64 0))⟩])
 (.cond (.t 10) (.seq (.reg [⟨some 4, none, .asg (.c (.int .i64 (-1)))⟩])
 .ret) .skip))
 (.seq (.reg [⟨some 11, none, .faddr 1 (.t 2)⟩, ⟨some 12, none, .load false 1 (.a 11 2)⟩, ⟨some 13, none, .mv (.p 1)⟩, ⟨some 14, none, .call n_laws_szKindS [.a 12 2, .t 13]⟩, ⟨some 1, none, .asg (.p 14)⟩])
 (.seq (.seq (.reg [⟨some 15, none, .mv (.p 1)⟩, ⟨some 16, none, .bin .lss (.t 15) (.c (.int .i64 0))⟩])
 (.cond (.t 16) (.seq (.reg [⟨some 4, none, .asg (.c (.int .i64 (-1)))⟩])
 .ret) .skip))
 (.seq (.reg [⟨some 17, none, .mv (.p 1)⟩, ⟨some 4, none, .asg (.p 17)⟩])
 .ret))))))⟩
/-- laws.szMap -/
def a_laws_szMap : AFn := ⟨2, 24, [.tmp 4], (.seq (.reg [⟨some 2, none, .box (.t 0)⟩, ⟨some 4, none, .asg (.c (.int .i64 0))⟩])
 (.seq (.reg [⟨some 5, none, .faddr 2 (.t 2)⟩, ⟨some 6, none, .load false 1 (.a 5 2)⟩, ⟨some 7, none, .mv (.p 1)⟩, ⟨some 8, none, .call n_laws_szIntS [.a 6 2, .t 7]⟩, ⟨some 1, none, .asg (.p 8)⟩])
 (.seq (.seq (.reg [⟨some 9, none, .mv (.p 1)⟩, ⟨some 10, none, .bin .lss (.t 9) (.c (.int .i64 0))⟩])
 (.cond (.t 10) (.seq (.reg [⟨some 4, none, .asg (.c (.int .i64 (-1)))⟩])
 .ret) .skip))
 (.seq (.reg [⟨some 11, none, .faddr 3 (.t 2)⟩, ⟨some 12, none, .load false 1 (.a 11 2)⟩, ⟨some 13, none, .mv (.p 1)⟩, ⟨some 14, none, .call n_laws_szIntS [.a 12 2, .t 13]⟩, ⟨some 1, none, .asg (.p 14)⟩])
 (.seq (.seq (.reg [⟨some 15, none, .mv (.p 1)⟩, ⟨some 16, none, .bin .lss (.t 15) (.c (.int .i64 0))⟩])
 (.cond (.t 16) (.seq (.reg [⟨some 4, none, .asg (.c (.int .i64 (-1)))⟩])
 .ret) .skip))
 (.seq (.reg [⟨some 17, none, .faddr 4 (.t 2)⟩, ⟨some 18, none, .load false 1 (.a 17 2)⟩, ⟨some 19, none, .mv (.p 1)⟩, ⟨some 20, none, .call n_laws_szIntS [.a 18 2, .t 19]⟩, ⟨some 1, none, .asg (.p 20)⟩])
 (.seq (.seq (.reg [⟨some 21, none, .mv (.p 1)⟩, ⟨some 22, none, .bin .lss (.t 21) (.c (.int .i64 0))⟩])
 (.cond (.t 22) (.seq (.reg [⟨some 4, none, .asg (.c (.int .i64 (-1)))⟩])
 .ret) .skip))
 (.seq (.reg [⟨some 23, none, .mv (.p 1)⟩, ⟨some 4, none, .asg (.p 23)⟩])
 .ret))))))))⟩
/-- laws.szUnitS -/
def a_laws_szUnitS : AFn := ⟨2, 12, [.tmp 4], (.seq (.reg [⟨some 4, none, .asg (.c (.int .i64 0))⟩])
 (.seq (.reg [⟨some 5, none, .mv (.p 1)⟩, ⟨some 6, none, .rf (.t 0)⟩, ⟨some 7, none, .len (.a 6 0)⟩, ⟨some 8, none, .bin .sub (.t 5) (.t 7)⟩, ⟨some 1, none, .asg (.p 8)⟩])
 (.seq (.seq (.reg [⟨some 9, none, .mv (.p 1)⟩, ⟨some 10, none, .bin .lss (.t 9) (.c (.int .i64 0))⟩])
 (.cond (.t 10) (.seq (.reg [⟨some 4, none, .asg (.c (.int .i64 (-1)))⟩])
 .ret) .skip))
 (.seq (.reg [⟨some 11, none, .mv (.p 1)⟩, ⟨some 4, none, .asg (.p 11)⟩])
 .ret))))⟩
def b_spec_sGood_0 : AC := (.seq (.reg [⟨some 37, none, .bin .lss (.t 36) (.t 35)⟩])
 (.seq (.cond (.t 37) .skip (.exit 0))
 (.seq (.block 1 (.seq (.reg [⟨some 38, none, .iaddr 4 (.a 34 3) (.t 36)⟩, ⟨some 39, none, .load true 4 (.a 38 3)⟩, ⟨some 6, none, .alloc [.int .i64 0, .int .i64 0, .int .i64 0, .int .i64 0]⟩, ⟨none, none, .store 4 (.t 6) (.a 39 3)⟩])
 (.seq (.reg [⟨some 40, none, .load true 12 (.t 2)⟩, ⟨some 41, none, .load true 4 (.t 6)⟩, ⟨some 42, none, .call n_spec_sUnit [.a 40 2, .a 41 6]⟩, ⟨some 43, none, .un .not (.t 42)⟩])
 (.cond (.t 43) (.seq (.reg [⟨some 4, none, .asg (.c (.bool false))⟩])
 .ret) .skip))))
 (.reg [⟨some 44, none, .bin .add (.t 36) (.c (.int .i64 1))⟩, ⟨some 36, none, .mv (.p 44)⟩]))))
def b_spec_sGood_1 : AC := (.seq (.reg [⟨some 49, none, .bin .lss (.t 48) (.t 47)⟩])
 (.seq (.cond (.t 49) .skip (.exit 2))
 (.seq (.block 3 (.seq (.reg [⟨some 50, none, .iaddr 4 (.a 46 3) (.t 48)⟩, ⟨some 51, none, .load true 4 (.a 50 3)⟩, ⟨some 8, none, .alloc [.int .i64 0, .int .i64 0, .int .i64 0, .int .i64 0]⟩, ⟨none, none, .store 4 (.t 8) (.a 51 3)⟩])
 (.seq (.reg [⟨some 52, none, .faddr 2 (.t 8)⟩, ⟨some 53, none, .load false 1 (.a 52 8)⟩, ⟨some 54, none, .bin .geq (.a 53 8) (.c (.int .i64 0))⟩, ⟨some 55, none, .mv (.p 54)⟩, ⟨some 56, some (55, true), .load true 3 (.t 3)⟩, ⟨some 57, some (55, true), .faddr 2 (.t 8)⟩, ⟨some 58, some (55, true), .load false 1 (.a 57 8)⟩, ⟨some 59, some (55, true), .faddr 0 (.t 8)⟩, ⟨some 60, some (55, true), .load false 1 (.a 59 8)⟩, ⟨some 61, some (55, true), .bin .sub (.c (.int .i64 1)) (.a 60 8)⟩, ⟨some 62, some (55, true), .call n_spec_sAt [.a 56 3, .a 58 8, .t 61]⟩, ⟨some 63, some (55, true), .len (.t 62)⟩, ⟨some 64, some (55, true), .bin .gtr (.t 63) (.c (.int .i64 0))⟩, ⟨some 65, some (55, true), .mv (.p 64)⟩, ⟨some 66, some (65, false), .load true 3 (.t 3)⟩, ⟨some 67, some (65, false), .faddr 2 (.t 8)⟩, ⟨some 68, some (65, false), .load false 1 (.a 67 8)⟩, ⟨some 69, some (65, false), .faddr 0 (.t 8)⟩, ⟨some 70, some (65, false), .load false 1 (.a 69 8)⟩, ⟨some 71, some (65, false), .call n_spec_sAt [.a 66 3, .a 68 8, .a 70 8]⟩, ⟨some 72, some (65, false), .len (.t 71)⟩, ⟨some 73, some (65, false), .faddr 0 (.t 2)⟩, ⟨some 74, some (65, false), .faddr 2 (.a 73 2)⟩, ⟨some 75, some (65, false), .load false 1 (.a 74 2)⟩, ⟨some 76, some (65, false), .bin .gtr (.t 72) (.a 75 2)⟩, ⟨some 77, some (55, true), .pick (.t 65) (.c (.bool true)) (.t 76)⟩, ⟨some 78, none, .pick (.t 55) (.t 77) (.c (.bool false))⟩])
 (.cond (.t 78) (.seq (.reg [⟨some 4, none, .asg (.c (.bool false))⟩])
 .ret) .skip))))
 (.reg [⟨some 79, none, .bin .add (.t 48) (.c (.int .i64 1))⟩, ⟨some 48, none, .mv (.p 79)⟩]))))
/-- spec.sGood -/
def a_spec_sGood : AFn := ⟨2, 80, [.tmp 4], (.seq (.reg [⟨some 2, none, .box (.t 0)⟩, ⟨some 3, none, .box (.t 1)⟩, ⟨some 4, none, .asg (.c (.bool false))⟩])
 (.seq (.seq (.reg [⟨some 9, none, .load true 12 (.t 2)⟩, ⟨some 10, none, .call n_spec_bGood [.a 9 2]⟩, ⟨some 11, none, .un .not (.t 10)⟩, ⟨some 12, none, .mv (.p 11)⟩, ⟨some 13, some (12, false), .faddr 0 (.t 3)⟩, ⟨some 14, some (12, false), .load false 1 (.a 13 3)⟩, ⟨some 15, some (12, false), .faddr 0 (.t 2)⟩, ⟨some 16, some (12, false), .faddr 6 (.a 15 2)⟩, ⟨some 17, some (12, false), .load false 1 (.a 16 2)⟩, ⟨some 18, some (12, false), .call n_spec_l1In [.a 14 3, .c (.int .i64 0), .a 17 2]⟩, ⟨some 19, some (12, false), .un .not (.t 18)⟩, ⟨some 20, none, .pick (.t 12) (.c (.bool true)) (.t 19)⟩, ⟨some 21, none, .mv (.p 20)⟩, ⟨some 22, some (21, false), .faddr 1 (.t 3)⟩, ⟨some 23, some (21, false), .load false 1 (.a 22 3)⟩, ⟨some 24, some (21, false), .call n_spec_l1In [.a 23 3, .c (.int .i64 0), .c (.int .i64 2)]⟩, ⟨some 25, some (21, false), .un .not (.t 24)⟩, ⟨some 26, none, .pick (.t 21) (.c (.bool true)) (.t 25)⟩, ⟨some 27, none, .mv (.p 26)⟩, ⟨some 28, some (27, false), .faddr 2 (.t 3)⟩, ⟨some 29, some (27, false), .load false 1 (.a 28 3)⟩, ⟨some 30, some (27, false), .len (.a 29 3)⟩, ⟨some 31, some (27, false), .bin .gtr (.t 30) (.c (.int .i64 12))⟩, ⟨some 32, none, .pick (.t 27) (.c (.bool true)) (.t 31)⟩])
 (.cond (.t 32) (.seq (.reg [⟨some 4, none, .asg (.c (.bool false))⟩])
 .ret) .skip))
 (.seq (.seq (.reg [⟨some 33, none, .faddr 2 (.t 3)⟩, ⟨some 34, none, .load false 1 (.a 33 3)⟩, ⟨some 35, none, .len (.a 34 3)⟩, ⟨some 36, none, .mv (.c (.int .i64 0))⟩])
 (.block 0 (.loop [2, 3, 34, 35, 36] [2, 3, 4] b_spec_sGood_0)))
 (.seq (.seq (.reg [⟨some 45, none, .faddr 2 (.t 3)⟩, ⟨some 46, none, .load false 1 (.a 45 3)⟩, ⟨some 47, none, .len (.a 46 3)⟩, ⟨some 48, none, .mv (.c (.int .i64 0))⟩])
 (.block 2 (.loop [2, 3, 46, 47, 48] [4] b_spec_sGood_1)))
 (.seq (.reg [⟨some 4, none, .asg (.c (.bool true))⟩])
 .ret)))))⟩
/-- laws.toRules -/
def a_laws_toRules : AFn := ⟨1, 28, [.cell 2 7 true], (.seq (.reg [⟨some 1, none, .box (.t 0)⟩, ⟨some 2, none, .alloc [.list true 5 [], .list true 6 [], .int .i64 0, .int .i64 0, .int .i64 0, .int .i64 0, .int .i64 0]⟩])
 (.seq (.reg [⟨some 3, none, .alloc [.list true 5 [], .list true 6 [], .int .i64 0, .int .i64 0, .int .i64 0, .int .i64 0, .int .i64 0]⟩])
 (.seq (.reg [⟨some 4, none, .faddr 0 (.t 1)⟩, ⟨some 5, none, .load false 1 (.a 4 1)⟩, ⟨some 6, none, .call n_laws_toTerrainS [.a 5 1]⟩, ⟨some 7, none, .faddr 0 (.t 3)⟩, ⟨none, none, .store 1 (.a 7 3) (.t 6)⟩])
 (.seq (.reg [⟨some 8, none, .faddr 1 (.t 1)⟩, ⟨some 9, none, .load false 1 (.a 8 1)⟩, ⟨some 10, none, .call n_laws_toKindS [.a 9 1]⟩, ⟨some 11, none, .faddr 1 (.t 3)⟩, ⟨none, none, .store 1 (.a 11 3) (.t 10)⟩])
 (.seq (.reg [⟨some 12, none, .faddr 2 (.t 1)⟩, ⟨some 13, none, .load false 1 (.a 12 1)⟩, ⟨some 14, none, .faddr 2 (.t 3)⟩, ⟨none, none, .store 1 (.a 14 3) (.p 13)⟩])
 (.seq (.reg [⟨some 15, none, .faddr 3 (.t 1)⟩, ⟨some 16, none, .load false 1 (.a 15 1)⟩, ⟨some 17, none, .faddr 3 (.t 3)⟩, ⟨none, none, .store 1 (.a 17 3) (.p 16)⟩])
 (.seq (.reg [⟨some 18, none, .faddr 4 (.t 1)⟩, ⟨some 19, none, .load false 1 (.a 18 1)⟩, ⟨some 20, none, .faddr 4 (.t 3)⟩, ⟨none, none, .store 1 (.a 20 3) (.p 19)⟩])
 (.seq (.reg [⟨some 21, none, .faddr 5 (.t 1)⟩, ⟨some 22, none, .load false 1 (.a 21 1)⟩, ⟨some 23, none, .faddr 5 (.t 3)⟩, ⟨none, none, .store 1 (.a 23 3) (.p 22)⟩])
 (.seq (.reg [⟨some 24, none, .faddr 6 (.t 1)⟩, ⟨some 25, none, .load false 1 (.a 24 1)⟩, ⟨some 26, none, .faddr 6 (.t 3)⟩, ⟨none, none, .store 1 (.a 26 3) (.p 25)⟩])
 (.seq (.reg [⟨some 27, none, .load true 7 (.t 3)⟩, ⟨none, none, .store 7 (.t 2) (.a 27 3)⟩])
 .ret))))))))))⟩
/-- laws.toMap -/
def a_laws_toMap : AFn := ⟨1, 23, [.cell 2 5 true], (.seq (.reg [⟨some 1, none, .box (.t 0)⟩, ⟨some 2, none, .alloc [.int .i64 0, .int .i64 0, .list true 1 [], .list true 1 [], .list true 1 []]⟩])
 (.seq (.reg [⟨some 3, none, .alloc [.int .i64 0, .int .i64 0, .list true 1 [], .list true 1 [], .list true 1 []]⟩])
 (.seq (.reg [⟨some 4, none, .faddr 0 (.t 1)⟩, ⟨some 5, none, .load false 1 (.a 4 1)⟩, ⟨some 6, none, .faddr 0 (.t 3)⟩, ⟨none, none, .store 1 (.a 6 3) (.p 5)⟩])
 (.seq (.reg [⟨some 7, none, .faddr 1 (.t 1)⟩, ⟨some 8, none, .load false 1 (.a 7 1)⟩, ⟨some 9, none, .faddr 1 (.t 3)⟩, ⟨none, none, .store 1 (.a 9 3) (.p 8)⟩])
 (.seq (.reg [⟨some 10, none, .faddr 2 (.t 1)⟩, ⟨some 11, none, .load false 1 (.a 10 1)⟩, ⟨some 12, none, .call n_laws_toIntS [.a 11 1]⟩, ⟨some 13, none, .faddr 2 (.t 3)⟩, ⟨none, none, .store 1 (.a 13 3) (.t 12)⟩])
 (.seq (.reg [⟨some 14, none, .faddr 3 (.t 1)⟩, ⟨some 15, none, .load false 1 (.a 14 1)⟩, ⟨some 16, none, .call n_laws_toIntS [.a 15 1]⟩, ⟨some 17, none, .faddr 3 (.t 3)⟩, ⟨none, none, .store 1 (.a 17 3) (.t 16)⟩])
 (.seq (.reg [⟨some 18, none, .faddr 4 (.t 1)⟩, ⟨some 19, none, .load false 1 (.a 18 1)⟩, ⟨some 20, none, .call n_laws_toIntS [.a 19 1]⟩, ⟨some 21, none, .faddr 4 (.t 3)⟩, ⟨none, none, .store 1 (.a 21 3) (.t 20)⟩])
 (.seq (.reg [⟨some 22, none, .load true 5 (.t 3)⟩, ⟨none, none, .store 5 (.t 2) (.a 22 3)⟩])
 .ret))))))))⟩
def b_laws_toUnitS_0 : AC := (.seq (.seq (.reg [⟨some 8, none, .mv (.p 4)⟩, ⟨some 9, none, .rf (.t 0)⟩, ⟨some 10, none, .len (.a 9 0)⟩, ⟨some 11, none, .bin .lss (.t 8) (.t 10)⟩])
 (.cond (.t 11) .skip (.exit 0)))
 (.seq (.block 1 (.reg [⟨some 14, none, .rf (.t 3)⟩, ⟨some 15, none, .mv (.p 4)⟩, ⟨some 16, none, .rf (.t 0)⟩, ⟨some 17, none, .mv (.p 4)⟩, ⟨some 18, none, .iaddr 4 (.a 16 0) (.t 17)⟩, ⟨some 19, none, .load true 4 (.a 18 0)⟩, ⟨some 20, none, .call n_laws_toUnit [.a 19 0]⟩, ⟨some 21, none, .iaddr 4 (.a 14 3) (.t 15)⟩, ⟨none, none, .store 4 (.a 21 3) (.t 20)⟩]))
 (.reg [⟨some 12, none, .mv (.p 4)⟩, ⟨some 13, none, .bin .add (.t 12) (.c (.int .i64 1))⟩, ⟨some 4, none, .asg (.p 13)⟩])))
/-- laws.toUnitS -/
def a_laws_toUnitS : AFn := ⟨1, 23, [.tmp 2], (.seq (.reg [⟨some 2, none, .asg (.c (.list true 4 []))⟩])
 (.seq (.reg [⟨some 5, none, .rf (.t 0)⟩, ⟨some 6, none, .len (.a 5 0)⟩, ⟨some 7, none, .mslice 4 [.int .i64 0, .int .i64 0, .int .i64 0, .int .i64 0] (.t 6)⟩, ⟨some 3, none, .asg (.t 7)⟩])
 (.seq (.seq (.reg [⟨some 4, none, .asg (.c (.int .i64 0))⟩])
 (.block 0 (.loop [0, 3, 4] [2, 3] b_laws_toUnitS_0)))
 (.seq (.reg [⟨some 22, none, .rf (.t 3)⟩, ⟨some 2, none, .asg (.a 22 3)⟩])
 .ret))))⟩
/-- impl.fits -/
def a_impl_fits : AFn := ⟨2, 12, [.tmp 4], (.seq (.reg [⟨some 2, none, .box (.t 0)⟩, ⟨some 3, none, .box (.t 1)⟩, ⟨some 4, none, .asg (.c (.bool false))⟩])
 (.seq (.reg [⟨some 5, none, .load true 12 (.t 2)⟩, ⟨some 6, none, .call n_impl_IsBoard [.a 5 2]⟩, ⟨some 7, none, .mv (.p 6)⟩, ⟨some 8, some (7, true), .load true 12 (.t 2)⟩, ⟨some 9, some (7, true), .load true 3 (.t 3)⟩, ⟨some 10, some (7, true), .call n_impl_goodState [.a 8 2, .a 9 3]⟩, ⟨some 11, none, .pick (.t 7) (.t 10) (.c (.bool false))⟩, ⟨some 4, none, .asg (.p 11)⟩])
 .ret))⟩
/-- laws.eqRules -/
def a_laws_eqRules : AFn := ⟨2, 42, [.tmp 4], (.seq (.reg [⟨some 2, none, .box (.t 0)⟩, ⟨some 3, none, .box (.t 1)⟩, ⟨some 4, none, .asg (.c (.bool false))⟩])
 (.seq (.seq (.reg [⟨some 5, none, .faddr 0 (.t 2)⟩, ⟨some 6, none, .load false 1 (.a 5 2)⟩, ⟨some 7, none, .faddr 0 (.t 3)⟩, ⟨some 8, none, .load false 1 (.a 7 3)⟩, ⟨some 9, none, .call n_laws_eqTerrainS [.a 6 2, .a 8 3]⟩, ⟨some 10, none, .un .not (.t 9)⟩])
 (.cond (.t 10) (.seq (.reg [⟨some 4, none, .asg (.c (.bool false))⟩])
 .ret) .skip))
 (.seq (.seq (.reg [⟨some 11, none, .faddr 1 (.t 2)⟩, ⟨some 12, none, .load false 1 (.a 11 2)⟩, ⟨some 13, none, .faddr 1 (.t 3)⟩, ⟨some 14, none, .load false 1 (.a 13 3)⟩, ⟨some 15, none, .call n_laws_eqKindS [.a 12 2, .a 14 3]⟩, ⟨some 16, none, .un .not (.t 15)⟩])
 (.cond (.t 16) (.seq (.reg [⟨some 4, none, .asg (.c (.bool false))⟩])
 .ret) .skip))
 (.seq (.seq (.reg [⟨some 17, none, .faddr 2 (.t 2)⟩, ⟨some 18, none, .load false 1 (.a 17 2)⟩, ⟨some 19, none, .faddr 2 (.t 3)⟩, ⟨some 20, none, .load false 1 (.a 19 3)⟩, ⟨some 21, none, .bin .neq (.a 18 2) (.a 20 3)⟩])
 (.cond (.t 21) (.seq (.reg [⟨some 4, none, .asg (.c (.bool false))⟩])
 .ret) .skip))
 (.seq (.seq (.reg [⟨some 22, none, .faddr 3 (.t 2)⟩, ⟨some 23, none, .load false 1 (.a 22 2)⟩, ⟨some 24, none, .faddr 3 (.t 3)⟩, ⟨some 25, none, .load false 1 (.a 24 3)⟩, ⟨some 26, none, .bin .neq (.a 23 2) (.a 25 3)⟩])
 (.cond (.t 26) (.seq (.reg [⟨some 4, none, .asg (.c (.bool false))⟩])
 .ret) .skip))
 (.seq (.seq (.reg [⟨some 27, none, .faddr 4 (.t 2)⟩, ⟨some 28, none, .load false 1 (.a 27 2)⟩, ⟨some 29, none, .faddr 4 (.t 3)⟩, ⟨some 30, none, .load false 1 (.a 29 3)⟩, ⟨some 31, none, .bin .neq (.a 28 2) (.a 30 3)⟩])
 (.cond (.t 31) (.seq (.reg [⟨some 4, none, .asg (.c (.bool false))⟩])
 .ret) .skip))
 (.seq (.seq (.reg [⟨some 32, none, .faddr 5 (.t 2)⟩, ⟨some 33, none, .load false 1 (.a 32 2)⟩, ⟨some 34, none, .faddr 5 (.t 3)⟩, ⟨some 35, none, .load false 1 (.a 34 3)⟩, ⟨some 36, none, .bin .neq (.a 33 2) (.a 35 3)⟩])
 (.cond (.t 36) (.seq (.reg [⟨some 4, none, .asg (.c (.bool false))⟩])
 .ret) .skip))
 (.seq (.seq (.reg [⟨some 37, none, .faddr 6 (.t 2)⟩, ⟨some 38, none, .load false 1 (.a 37 2)⟩, ⟨some 39, none, .faddr 6 (.t 3)⟩, ⟨some 40, none, .load false 1 (.a 39 3)⟩, ⟨some 41, none, .bin .neq (.a 38 2) (.a 40 3)⟩])
 (.cond (.t 41) (.seq (.reg [⟨some 4, none, .asg (.c (.bool false))⟩])
 .ret) .skip))
 (.seq (.reg [⟨some 4, none, .asg (.c (.bool true))⟩])
 .ret)))))))))⟩
/-- laws.eqMap -/
def a_laws_eqMap : AFn := ⟨2, 33, [.tmp 4], (.seq (.reg [⟨some 2, none, .box (.t 0)⟩, ⟨some 3, none, .box (.t 1)⟩, ⟨some 4, none, .asg (.c (.bool false))⟩])
 (.seq (.seq (.reg [⟨some 5, none, .faddr 0 (.t 2)⟩, ⟨some 6, none, .load false 1 (.a 5 2)⟩, ⟨some 7, none, .faddr 0 (.t 3)⟩, ⟨some 8, none, .load false 1 (.a 7 3)⟩, ⟨some 9, none, .bin .neq (.a 6 2) (.a 8 3)⟩])
 (.cond (.t 9) (.seq (.reg [⟨some 4, none, .asg (.c (.bool false))⟩])
 .ret) .skip))
 (.seq (.seq (.reg [⟨some 10, none, .faddr 1 (.t 2)⟩, ⟨some 11, none, .load false 1 (.a 10 2)⟩, ⟨some 12, none, .faddr 1 (.t 3)⟩, ⟨some 13, none, .load false 1 (.a 12 3)⟩, ⟨some 14, none, .bin .neq (.a 11 2) (.a 13 3)⟩])
 (.cond (.t 14) (.seq (.reg [⟨some 4, none, .asg (.c (.bool false))⟩])
 .ret) .skip))
 (.seq (.seq (.reg [⟨some 15, none, .faddr 2 (.t 2)⟩, ⟨some 16, none, .load false 1 (.a 15 2)⟩, ⟨some 17, none, .faddr 2 (.t 3)⟩, ⟨some 18, none, .load false 1 (.a 17 3)⟩, ⟨some 19, none, .call n_laws_eqIntS [.a 16 2, .a 18 3]⟩, ⟨some 20, none, .un .not (.t 19)⟩])
 (.cond (.t 20) (.seq (.reg [⟨some 4, none, .asg (.c (.bool false))⟩])
 .ret) .skip))
 (.seq (.seq (.reg [⟨some 21, none, .faddr 3 (.t 2)⟩, ⟨some 22, none, .load false 1 (.a 21 2)⟩, ⟨some 23, none, .faddr 3 (.t 3)⟩, ⟨some 24, none, .load false 1 (.a 23 3)⟩, ⟨some 25, none, .call n_laws_eqIntS [.a 22 2, .a 24 3]⟩, ⟨some 26, none, .un .not (.t 25)⟩])
 (.cond (.t 26) (.seq (.reg [⟨some 4, none, .asg (.c (.bool false))⟩])
 .ret) .skip))
 (.seq (.seq (.reg [⟨some 27, none, .faddr 4 (.t 2)⟩, ⟨some 28, none, .load false 1 (.a 27 2)⟩, ⟨some 29, none, .faddr 4 (.t 3)⟩, ⟨some 30, none, .load false 1 (.a 29 3)⟩, ⟨some 31, none, .call n_laws_eqIntS [.a 28 2, .a 30 3]⟩, ⟨some 32, none, .un .not (.t 31)⟩])
 (.cond (.t 32) (.seq (.reg [⟨some 4, none, .asg (.c (.bool false))⟩])
 .ret) .skip))
 (.seq (.reg [⟨some 4, none, .asg (.c (.bool true))⟩])
 .ret)))))))⟩
def b_laws_eqUnitS_0 : AC := (.seq (.seq (.reg [⟨some 11, none, .mv (.p 5)⟩, ⟨some 12, none, .rf (.t 0)⟩, ⟨some 13, none, .len (.a 12 0)⟩, ⟨some 14, none, .bin .lss (.t 11) (.t 13)⟩])
 (.cond (.t 14) .skip (.exit 0)))
 (.seq (.block 1 (.seq (.reg [⟨some 17, none, .rf (.t 0)⟩, ⟨some 18, none, .mv (.p 5)⟩, ⟨some 19, none, .iaddr 4 (.a 17 0) (.t 18)⟩, ⟨some 20, none, .load true 4 (.a 19 0)⟩, ⟨some 21, none, .rf (.t 1)⟩, ⟨some 22, none, .mv (.p 5)⟩, ⟨some 23, none, .iaddr 4 (.a 21 1) (.t 22)⟩, ⟨some 24, none, .load true 4 (.a 23 1)⟩, ⟨some 25, none, .call n_laws_eqUnit [.a 20 0, .a 24 1]⟩, ⟨some 26, none, .un .not (.t 25)⟩])
 (.cond (.t 26) (.seq (.reg [⟨some 4, none, .asg (.c (.bool false))⟩])
 .ret) .skip)))
 (.reg [⟨some 15, none, .mv (.p 5)⟩, ⟨some 16, none, .bin .add (.t 15) (.c (.int .i64 1))⟩, ⟨some 5, none, .asg (.p 16)⟩])))
/-- laws.eqUnitS -/
def a_laws_eqUnitS : AFn := ⟨2, 27, [.tmp 4], (.seq (.reg [⟨some 4, none, .asg (.c (.bool false))⟩])
 (.seq (.seq (.reg [⟨some 6, none, .rf (.t 0)⟩, ⟨some 7, none, .len (.a 6 0)⟩, ⟨some 8, none, .rf (.t 1)⟩, ⟨some 9, none, .len (.a 8 1)⟩, ⟨some 10, none, .bin .neq (.t 7) (.t 9)⟩])
 (.cond (.t 10) (.seq (.reg [⟨some 4, none, .asg (.c (.bool false))⟩])
 .ret) .skip))
 (.seq (.seq (.reg [⟨some 5, none, .asg (.c (.int .i64 0))⟩])
 (.block 0 (.loop [0, 1, 5] [4] b_laws_eqUnitS_0)))
 (.seq (.reg [⟨some 4, none, .asg (.c (.bool true))⟩])
 .ret))))⟩
/-- laws.markRules -/
def a_laws_markRules : AFn := ⟨2, 14, [.tmp 4, .io 0], (.seq (.reg [⟨some 2, none, .boxk 0⟩, ⟨some 4, none, .asg (.c (.int .i64 0))⟩])
 (.seq (.reg [⟨some 5, none, .faddr 0 (.t 2)⟩, ⟨some 6, none, .load false 1 (.a 5 2)⟩, ⟨some 7, none, .mv (.p 1)⟩, ⟨some 8, none, .calli n_laws_markTerrainS 6 2 [.t 7]⟩, ⟨some 1, none, .asg (.p 8)⟩])
 (.seq (.reg [⟨some 9, none, .faddr 1 (.t 2)⟩, ⟨some 10, none, .load false 1 (.a 9 2)⟩, ⟨some 11, none, .mv (.p 1)⟩, ⟨some 12, none, .calli n_laws_markKindS 10 2 [.t 11]⟩, ⟨some 1, none, .asg (.p 12)⟩])
 (.seq (.reg [⟨some 13, none, .mv (.p 1)⟩, ⟨some 4, none, .asg (.p 13)⟩])
 .ret))))⟩
/-- laws.markMap -/
def a_laws_markMap : AFn := ⟨2, 18, [.tmp 4, .io 0], (.seq (.reg [⟨some 2, none, .boxk 0⟩, ⟨some 4, none, .asg (.c (.int .i64 0))⟩])
 (.seq (.reg [⟨some 5, none, .faddr 2 (.t 2)⟩, ⟨some 6, none, .load false 1 (.a 5 2)⟩, ⟨some 7, none, .mv (.p 1)⟩, ⟨some 8, none, .calli n_laws_markIntS 6 2 [.t 7]⟩, ⟨some 1, none, .asg (.p 8)⟩])
 (.seq (.reg [⟨some 9, none, .faddr 3 (.t 2)⟩, ⟨some 10, none, .load false 1 (.a 9 2)⟩, ⟨some 11, none, .mv (.p 1)⟩, ⟨some 12, none, .calli n_laws_markIntS 10 2 [.t 11]⟩, ⟨some 1, none, .asg (.p 12)⟩])
 (.seq (.reg [⟨some 13, none, .faddr 4 (.t 2)⟩, ⟨some 14, none, .load false 1 (.a 13 2)⟩, ⟨some 15, none, .mv (.p 1)⟩, ⟨some 16, none, .calli n_laws_markIntS 14 2 [.t 15]⟩, ⟨some 1, none, .asg (.p 16)⟩])
 (.seq (.reg [⟨some 17, none, .mv (.p 1)⟩, ⟨some 4, none, .asg (.p 17)⟩])
 .ret)))))⟩
def b_laws_markUnitS_0 : AC := (.seq (.seq (.reg [⟨some 6, none, .mv (.p 5)⟩, ⟨some 7, none, .rf (.t 0)⟩, ⟨some 8, none, .len (.a 7 0)⟩, ⟨some 9, none, .bin .lss (.t 6) (.t 8)⟩])
 (.cond (.t 9) .skip (.exit 0)))
 (.seq (.block 1 (.seq (.reg [⟨some 12, none, .rf (.t 0)⟩, ⟨some 13, none, .mv (.p 5)⟩, ⟨some 14, none, .mv (.p 1)⟩, ⟨some 15, none, .iaddr 4 (.a 12 0) (.t 13)⟩, ⟨some 16, none, .faddr 0 (.a 15 0)⟩, ⟨none, none, .store 1 (.a 16 0) (.p 14)⟩])
 (.seq (.reg [⟨some 17, none, .mv (.p 1)⟩, ⟨some 18, none, .bin .add (.t 17) (.c (.int .i64 1))⟩, ⟨some 1, none, .asg (.p 18)⟩])
 (.seq (.reg [⟨some 19, none, .rf (.t 0)⟩, ⟨some 20, none, .mv (.p 5)⟩, ⟨some 21, none, .mv (.p 1)⟩, ⟨some 22, none, .iaddr 4 (.a 19 0) (.t 20)⟩, ⟨some 23, none, .faddr 1 (.a 22 0)⟩, ⟨none, none, .store 1 (.a 23 0) (.p 21)⟩])
 (.seq (.reg [⟨some 24, none, .mv (.p 1)⟩, ⟨some 25, none, .bin .add (.t 24) (.c (.int .i64 1))⟩, ⟨some 1, none, .asg (.p 25)⟩])
 (.seq (.reg [⟨some 26, none, .rf (.t 0)⟩, ⟨some 27, none, .mv (.p 5)⟩, ⟨some 28, none, .mv (.p 1)⟩, ⟨some 29, none, .iaddr 4 (.a 26 0) (.t 27)⟩, ⟨some 30, none, .faddr 2 (.a 29 0)⟩, ⟨none, none, .store 1 (.a 30 0) (.p 28)⟩])
 (.seq (.reg [⟨some 31, none, .mv (.p 1)⟩, ⟨some 32, none, .bin .add (.t 31) (.c (.int .i64 1))⟩, ⟨some 1, none, .asg (.p 32)⟩])
 (.seq (.reg [⟨some 33, none, .rf (.t 0)⟩, ⟨some 34, none, .mv (.p 5)⟩, ⟨some 35, none, .mv (.p 1)⟩, ⟨some 36, none, .iaddr 4 (.a 33 0) (.t 34)⟩, ⟨some 37, none, .faddr 3 (.a 36 0)⟩, ⟨none, none, .store 1 (.a 37 0) (.p 35)⟩])
 (.reg [⟨some 38, none, .mv (.p 1)⟩, ⟨some 39, none, .bin .add (.t 38) (.c (.int .i64 1))⟩, ⟨some 1, none, .asg (.p 39)⟩])))))))))
 (.reg [⟨some 10, none, .mv (.p 5)⟩, ⟨some 11, none, .bin .add (.t 10) (.c (.int .i64 1))⟩, ⟨some 5, none, .asg (.p 11)⟩])))
/-- laws.markUnitS -/
def a_laws_markUnitS : AFn := ⟨2, 41, [.tmp 4, .io 0], (.seq (.reg [⟨some 4, none, .asg (.c (.int .i64 0))⟩])
 (.seq (.seq (.reg [⟨some 5, none, .asg (.c (.int .i64 0))⟩])
 (.block 0 (.loop [0, 1, 5] [0, 1, 4] b_laws_markUnitS_0)))
 (.seq (.reg [⟨some 40, none, .mv (.p 1)⟩, ⟨some 4, none, .asg (.p 40)⟩])
 .ret)))⟩
def b_spec_gUnits_0 : AC := (.seq (.reg [⟨some 25, none, .bin .lss (.t 24) (.t 23)⟩])
 (.seq (.cond (.t 25) .skip (.exit 0))
 (.seq (.block 1 (.seq (.reg [⟨some 26, none, .iaddr 1 (.a 22 2) (.t 24)⟩, ⟨some 27, none, .load false 1 (.a 26 2)⟩, ⟨some 8, none, .asg (.p 27)⟩])
 (.seq (.reg [⟨some 28, none, .faddr 2 (.t 4)⟩, ⟨some 29, none, .load false 1 (.a 28 4)⟩, ⟨some 30, none, .mv (.p 8)⟩, ⟨some 31, none, .iaddr 4 (.a 29 4) (.t 30)⟩, ⟨some 32, none, .faddr 2 (.a 31 4)⟩, ⟨some 33, none, .load false 1 (.a 32 4)⟩, ⟨some 34, none, .bin .lss (.a 33 4) (.c (.int .i64 0))⟩])
 (.cond (.t 34) (.seq (.reg [⟨some 6, none, .asg (.c (.bool false))⟩])
 .ret) .skip))))
 (.reg [⟨some 35, none, .bin .add (.t 24) (.c (.int .i64 1))⟩, ⟨some 24, none, .mv (.p 35)⟩]))))
/-- spec.gUnits -/
def a_spec_gUnits : AFn := ⟨3, 36, [.tmp 6], (.seq (.reg [⟨some 3, none, .box (.t 0)⟩, ⟨some 4, none, .box (.t 1)⟩, ⟨some 6, none, .asg (.c (.bool false))⟩])
 (.seq (.seq (.reg [⟨some 9, none, .load true 12 (.t 3)⟩, ⟨some 10, none, .load true 3 (.t 4)⟩, ⟨some 11, none, .call n_spec_sGood [.a 9 3, .a 10 4]⟩, ⟨some 12, none, .un .not (.t 11)⟩, ⟨some 13, none, .mv (.p 12)⟩, ⟨some 14, some (13, false), .rf (.t 2)⟩, ⟨some 15, some (13, false), .faddr 2 (.t 4)⟩, ⟨some 16, some (13, false), .load false 1 (.a 15 4)⟩, ⟨some 17, some (13, false), .len (.a 16 4)⟩, ⟨some 18, some (13, false), .bin .sub (.t 17) (.c (.int .i64 1))⟩, ⟨some 19, some (13, false), .call n_spec_l1Rising [.a 14 2, .c (.int .i64 0), .t 18]⟩, ⟨some 20, some (13, false), .un .not (.t 19)⟩, ⟨some 21, none, .pick (.t 13) (.c (.bool true)) (.t 20)⟩])
 (.cond (.t 21) (.seq (.reg [⟨some 6, none, .asg (.c (.bool false))⟩])
 .ret) .skip))
 (.seq (.seq (.reg [⟨some 22, none, .rf (.t 2)⟩, ⟨some 23, none, .len (.a 22 2)⟩, ⟨some 24, none, .mv (.c (.int .i64 0))⟩])
 (.block 0 (.loop [2, 4, 22, 23, 24] [6] b_spec_gUnits_0)))
 (.seq (.reg [⟨some 6, none, .asg (.c (.bool true))⟩])
 .ret))))⟩
/-- spec.l1In -/
def a_spec_l1In : AFn := ⟨3, 15, [.tmp 6], (.seq (.reg [⟨some 6, none, .asg (.c (.bool false))⟩])
 (.seq (.reg [⟨some 7, none, .mv (.p 0)⟩, ⟨some 8, none, .mv (.p 1)⟩, ⟨some 9, none, .bin .geq (.t 7) (.t 8)⟩, ⟨some 10, none, .mv (.p 9)⟩, ⟨some 11, some (10, true), .mv (.p 0)⟩, ⟨some 12, some (10, true), .mv (.p 2)⟩, ⟨some 13, some (10, true), .bin .leq (.t 11) (.t 12)⟩, ⟨some 14, none, .pick (.t 10) (.t 13) (.c (.bool false))⟩, ⟨some 6, none, .asg (.p 14)⟩])
 .ret))⟩
/-- spec.mSize -/
def a_spec_mSize : AFn := ⟨1, 8, [.tmp 2], (.seq (.reg [⟨some 1, none, .box (.t 0)⟩, ⟨some 2, none, .asg (.c (.int .i64 0))⟩])
 (.seq (.reg [⟨some 3, none, .faddr 0 (.t 1)⟩, ⟨some 4, none, .load false 1 (.a 3 1)⟩, ⟨some 5, none, .faddr 1 (.t 1)⟩, ⟨some 6, none, .load false 1 (.a 5 1)⟩, ⟨some 7, none, .bin .mul (.a 4 1) (.a 6 1)⟩, ⟨some 2, none, .asg (.p 7)⟩])
 .ret))⟩
def b_spec_gAdvance_0 : AC := (.seq (.reg [⟨some 18, none, .bin .lss (.t 17) (.t 16)⟩])
 (.seq (.cond (.t 18) .skip (.exit 0))
 (.seq (.block 1 (.seq (.reg [⟨some 19, none, .iaddr 1 (.a 15 2) (.t 17)⟩, ⟨some 20, none, .load false 1 (.a 19 2)⟩, ⟨some 12, none, .asg (.p 20)⟩])
 (.seq (.reg [⟨some 21, none, .faddr 2 (.t 5)⟩, ⟨some 22, none, .load false 1 (.a 21 5)⟩, ⟨some 23, none, .mv (.p 12)⟩, ⟨some 24, none, .iaddr 4 (.a 22 5) (.t 23)⟩, ⟨some 25, none, .faddr 2 (.a 24 5)⟩, ⟨some 26, none, .load false 1 (.a 25 5)⟩, ⟨some 27, none, .bin .geq (.a 26 5) (.c (.int .i64 0))⟩, ⟨some 28, none, .mv (.p 27)⟩, ⟨some 29, some (28, true), .load true 12 (.t 4)⟩, ⟨some 30, some (28, true), .load true 3 (.t 5)⟩, ⟨some 31, some (28, true), .mv (.p 12)⟩, ⟨some 32, some (28, true), .mv (.p 3)⟩, ⟨some 33, some (28, true), .call n_spec_gCan [.a 29 4, .a 30 5, .t 31, .t 32]⟩, ⟨some 34, none, .pick (.t 28) (.t 33) (.c (.bool false))⟩])
 (.cond (.t 34) (.seq (.reg [⟨some 35, none, .faddr 2 (.t 5)⟩, ⟨some 36, none, .load false 1 (.a 35 5)⟩, ⟨some 37, none, .mv (.p 12)⟩, ⟨some 38, none, .mv (.p 3)⟩, ⟨some 39, none, .iaddr 4 (.a 36 5) (.t 37)⟩, ⟨some 40, none, .faddr 2 (.a 39 5)⟩, ⟨none, none, .store 1 (.a 40 5) (.p 38)⟩])
 (.reg [⟨some 41, none, .mv (.p 10)⟩, ⟨some 42, none, .bin .add (.t 41) (.c (.int .i64 1))⟩, ⟨some 10, none, .asg (.p 42)⟩])) .skip))))
 (.reg [⟨some 43, none, .bin .add (.t 17) (.c (.int .i64 1))⟩, ⟨some 17, none, .mv (.p 43)⟩]))))
/-- spec.gAdvance -/
def a_spec_gAdvance : AFn := ⟨4, 46, [.cell 8 3 true, .tmp 9], (.seq (.reg [⟨some 4, none, .box (.t 0)⟩, ⟨some 5, none, .box (.t 1)⟩, ⟨some 8, none, .alloc [.int .i64 0, .int .i64 0, .list true 4 []]⟩, ⟨some 9, none, .asg (.c (.int .i64 0))⟩])
 (.seq (.reg [⟨some 13, none, .load true 3 (.t 5)⟩, ⟨some 14, none, .call n_spec_fDo [.a 13 5, .c (.list true 3 [])]⟩, ⟨none, none, .store 3 (.t 5) (.t 14)⟩])
 (.seq (.reg [⟨some 10, none, .asg (.c (.int .i64 0))⟩])
 (.seq (.seq (.reg [⟨some 15, none, .rf (.t 2)⟩, ⟨some 16, none, .len (.a 15 2)⟩, ⟨some 17, none, .mv (.c (.int .i64 0))⟩])
 (.block 0 (.loop [2, 3, 4, 5, 8, 10, 15, 16, 17] [5, 8, 9, 10] b_spec_gAdvance_0)))
 (.seq (.reg [⟨some 44, none, .load true 3 (.t 5)⟩, ⟨some 45, none, .mv (.p 10)⟩, ⟨none, none, .store 3 (.t 8) (.a 44 5)⟩, ⟨some 9, none, .asg (.p 45)⟩])
 .ret)))))⟩
/-- impl.areOnMap -/
def a_impl_areOnMap : AFn := ⟨3, 20, [.tmp 6], (.seq (.reg [⟨some 3, none, .box (.t 0)⟩, ⟨some 4, none, .box (.t 1)⟩, ⟨some 6, none, .asg (.c (.bool false))⟩])
 (.seq (.seq (.reg [⟨some 7, none, .load true 12 (.t 3)⟩, ⟨some 8, none, .load true 3 (.t 4)⟩, ⟨some 9, none, .call n_impl_fits [.a 7 3, .a 8 4]⟩, ⟨some 10, none, .un .not (.t 9)⟩, ⟨some 11, none, .mv (.p 10)⟩, ⟨some 12, some (11, false), .rf (.t 2)⟩, ⟨some 13, some (11, false), .call n_impl_increasing [.a 12 2]⟩, ⟨some 14, some (11, false), .un .not (.t 13)⟩, ⟨some 15, none, .pick (.t 11) (.c (.bool true)) (.t 14)⟩])
 (.cond (.t 15) (.seq (.reg [⟨some 6, none, .asg (.c (.bool false))⟩])
 .ret) .skip))
 (.seq (.reg [⟨some 16, none, .rf (.t 2)⟩, ⟨some 17, none, .mkf n_impl_areOnMap_1 [.t 3, .t 4]⟩, ⟨some 18, none, .call n_slices_ContainsFunc_int_int [.a 16 2, .t 17]⟩, ⟨some 19, none, .un .not (.t 18)⟩, ⟨some 6, none, .asg (.p 19)⟩])
 .ret)))⟩
/-- impl.isIndex -/
def a_impl_isIndex : AFn := ⟨2, 9, [.tmp 4], (.seq (.reg [⟨some 4, none, .asg (.c (.bool false))⟩])
 (.seq (.reg [⟨some 5, none, .mv (.p 0)⟩, ⟨some 6, none, .mv (.p 1)⟩, ⟨some 7, none, .bin .sub (.t 6) (.c (.int .i64 1))⟩, ⟨some 8, none, .call n_impl_inRange [.t 5, .c (.int .i64 0), .t 7]⟩, ⟨some 4, none, .asg (.p 8)⟩])
 .ret))⟩
/-- impl.sizeOf -/
def a_impl_sizeOf : AFn := ⟨1, 7, [.tmp 2], (.seq (.reg [⟨some 1, none, .box (.t 0)⟩, ⟨some 2, none, .asg (.c (.int .i64 0))⟩])
 (.seq (.reg [⟨some 3, none, .faddr 7 (.t 1)⟩, ⟨some 4, none, .faddr 2 (.a 3 1)⟩, ⟨some 5, none, .load false 1 (.a 4 1)⟩, ⟨some 6, none, .len (.a 5 1)⟩, ⟨some 2, none, .asg (.p 6)⟩])
 .ret))⟩
def b_impl_advanceUnits_0 : AC := (.seq (.reg [⟨some 19, none, .bin .lss (.t 18) (.t 17)⟩])
 (.seq (.cond (.t 19) .skip (.exit 0))
 (.seq (.block 1 (.seq (.reg [⟨some 20, none, .iaddr 1 (.a 16 2) (.t 18)⟩, ⟨some 21, none, .load false 1 (.a 20 2)⟩, ⟨some 13, none, .asg (.p 21)⟩])
 (.seq (.reg [⟨some 22, none, .load true 12 (.t 4)⟩, ⟨some 23, none, .load true 3 (.t 10)⟩, ⟨some 24, none, .faddr 2 (.t 10)⟩, ⟨some 25, none, .load false 1 (.a 24 10)⟩, ⟨some 26, none, .mv (.p 13)⟩, ⟨some 27, none, .iaddr 4 (.a 25 10) (.t 26)⟩, ⟨some 28, none, .load true 4 (.a 27 10)⟩, ⟨some 29, none, .mv (.p 3)⟩, ⟨some 30, none, .call n_impl_canAdvance [.a 22 4, .a 23 10, .a 28 10, .t 29]⟩])
 (.cond (.t 30) (.seq (.reg [⟨some 31, none, .faddr 2 (.t 10)⟩, ⟨some 32, none, .load false 1 (.a 31 10)⟩, ⟨some 33, none, .mv (.p 13)⟩, ⟨some 34, none, .mv (.p 3)⟩, ⟨some 35, none, .iaddr 4 (.a 32 10) (.t 33)⟩, ⟨some 36, none, .faddr 2 (.a 35 10)⟩, ⟨none, none, .store 1 (.a 36 10) (.p 34)⟩])
 (.reg [⟨some 37, none, .mv (.p 11)⟩, ⟨some 38, none, .bin .add (.t 37) (.c (.int .i64 1))⟩, ⟨some 11, none, .asg (.p 38)⟩])) .skip))))
 (.reg [⟨some 39, none, .bin .add (.t 18) (.c (.int .i64 1))⟩, ⟨some 18, none, .mv (.p 39)⟩]))))
/-- impl.advanceUnits -/
def a_impl_advanceUnits : AFn := ⟨4, 42, [.cell 8 3 true, .tmp 9], (.seq (.reg [⟨some 4, none, .box (.t 0)⟩, ⟨some 5, none, .box (.t 1)⟩, ⟨some 8, none, .alloc [.int .i64 0, .int .i64 0, .list true 4 []]⟩, ⟨some 9, none, .asg (.c (.int .i64 0))⟩])
 (.seq (.reg [⟨some 14, none, .load true 3 (.t 5)⟩, ⟨some 15, none, .call n_impl_cloneState [.a 14 5]⟩, ⟨some 10, none, .alloc [.int .i64 0, .int .i64 0, .list true 4 []]⟩, ⟨none, none, .store 3 (.t 10) (.t 15)⟩, ⟨some 11, none, .asg (.c (.int .i64 0))⟩])
 (.seq (.seq (.reg [⟨some 16, none, .rf (.t 2)⟩, ⟨some 17, none, .len (.a 16 2)⟩, ⟨some 18, none, .mv (.c (.int .i64 0))⟩])
 (.block 0 (.loop [2, 3, 4, 8, 10, 11, 16, 17, 18] [8, 9, 10, 11] b_impl_advanceUnits_0)))
 (.seq (.reg [⟨some 40, none, .load true 3 (.t 10)⟩, ⟨some 41, none, .mv (.p 11)⟩, ⟨none, none, .store 3 (.t 8) (.a 40 10)⟩, ⟨some 9, none, .asg (.p 41)⟩])
 .ret))))⟩
def b_laws_heldUnitS_0 : AC := (.seq (.seq (.reg [⟨some 6, none, .mv (.p 5)⟩, ⟨some 7, none, .rf (.t 0)⟩, ⟨some 8, none, .len (.a 7 0)⟩, ⟨some 9, none, .bin .lss (.t 6) (.t 8)⟩])
 (.cond (.t 9) .skip (.exit 0)))
 (.seq (.block 1 (.seq (.seq (.reg [⟨some 12, none, .rf (.t 0)⟩, ⟨some 13, none, .mv (.p 5)⟩, ⟨some 14, none, .iaddr 4 (.a 12 0) (.t 13)⟩, ⟨some 15, none, .faddr 0 (.a 14 0)⟩, ⟨some 16, none, .load false 1 (.a 15 0)⟩, ⟨some 17, none, .mv (.p 1)⟩, ⟨some 18, none, .bin .neq (.a 16 0) (.t 17)⟩])
 (.cond (.t 18) (.seq (.reg [⟨some 4, none, .asg (.c (.int .i64 (-1)))⟩])
 .ret) .skip))
 (.seq (.reg [⟨some 19, none, .mv (.p 1)⟩, ⟨some 20, none, .bin .add (.t 19) (.c (.int .i64 1))⟩, ⟨some 1, none, .asg (.p 20)⟩])
 (.seq (.seq (.reg [⟨some 21, none, .rf (.t 0)⟩, ⟨some 22, none, .mv (.p 5)⟩, ⟨some 23, none, .iaddr 4 (.a 21 0) (.t 22)⟩, ⟨some 24, none, .faddr 1 (.a 23 0)⟩, ⟨some 25, none, .load false 1 (.a 24 0)⟩, ⟨some 26, none, .mv (.p 1)⟩, ⟨some 27, none, .bin .neq (.a 25 0) (.t 26)⟩])
 (.cond (.t 27) (.seq (.reg [⟨some 4, none, .asg (.c (.int .i64 (-1)))⟩])
 .ret) .skip))
 (.seq (.reg [⟨some 28, none, .mv (.p 1)⟩, ⟨some 29, none, .bin .add (.t 28) (.c (.int .i64 1))⟩, ⟨some 1, none, .asg (.p 29)⟩])
 (.seq (.seq (.reg [⟨some 30, none, .rf (.t 0)⟩, ⟨some 31, none, .mv (.p 5)⟩, ⟨some 32, none, .iaddr 4 (.a 30 0) (.t 31)⟩, ⟨some 33, none, .faddr 2 (.a 32 0)⟩, ⟨some 34, none, .load false 1 (.a 33 0)⟩, ⟨some 35, none, .mv (.p 1)⟩, ⟨some 36, none, .bin .neq (.a 34 0) (.t 35)⟩])
 (.cond (.t 36) (.seq (.reg [⟨some 4, none, .asg (.c (.int .i64 (-1)))⟩])
 .ret) .skip))
 (.seq (.reg [⟨some 37, none, .mv (.p 1)⟩, ⟨some 38, none, .bin .add (.t 37) (.c (.int .i64 1))⟩, ⟨some 1, none, .asg (.p 38)⟩])
 (.seq (.seq (.reg [⟨some 39, none, .rf (.t 0)⟩, ⟨some 40, none, .mv (.p 5)⟩, ⟨some 41, none, .iaddr 4 (.a 39 0) (.t 40)⟩, ⟨some 42, none, .faddr 3 (.a 41 0)⟩, ⟨some 43, none, .load false 1 (.a 42 0)⟩, ⟨some 44, none, .mv (.p 1)⟩, ⟨some 45, none, .bin .neq (.a 43 0) (.t 44)⟩])
 (.cond (.t 45) (.seq (.reg [⟨some 4, none, .asg (.c (.int .i64 (-1)))⟩])
 .ret) .skip))
 (.reg [⟨some 46, none, .mv (.p 1)⟩, ⟨some 47, none, .bin .add (.t 46) (.c (.int .i64 1))⟩, ⟨some 1, none, .asg (.p 47)⟩])))))))))
 (.reg [⟨some 10, none, .mv (.p 5)⟩, ⟨some 11, none, .bin .add (.t 10) (.c (.int .i64 1))⟩, ⟨some 5, none, .asg (.p 11)⟩])))
/-- laws.heldUnitS -/
def a_laws_heldUnitS : AFn := ⟨2, 49, [.tmp 4], (.seq (.reg [⟨some 4, none, .asg (.c (.int .i64 0))⟩])
 (.seq (.seq (.reg [⟨some 5, none, .asg (.c (.int .i64 0))⟩])
 (.block 0 (.loop [0, 1, 5] [1, 4] b_laws_heldUnitS_0)))
 (.seq (.reg [⟨some 48, none, .mv (.p 1)⟩, ⟨some 4, none, .asg (.p 48)⟩])
 .ret)))⟩
/-- laws.szIntS -/
def a_laws_szIntS : AFn := ⟨2, 12, [.tmp 4], (.seq (.reg [⟨some 4, none, .asg (.c (.int .i64 0))⟩])
 (.seq (.reg [⟨some 5, none, .mv (.p 1)⟩, ⟨some 6, none, .rf (.t 0)⟩, ⟨some 7, none, .len (.a 6 0)⟩, ⟨some 8, none, .bin .sub (.t 5) (.t 7)⟩, ⟨some 1, none, .asg (.p 8)⟩])
 (.seq (.seq (.reg [⟨some 9, none, .mv (.p 1)⟩, ⟨some 10, none, .bin .lss (.t 9) (.c (.int .i64 0))⟩])
 (.cond (.t 10) (.seq (.reg [⟨some 4, none, .asg (.c (.int .i64 (-1)))⟩])
 .ret) .skip))
 (.seq (.reg [⟨some 11, none, .mv (.p 1)⟩, ⟨some 4, none, .asg (.p 11)⟩])
 .ret))))⟩
/-- spec.aResult -/
def a_spec_aResult : AFn := ⟨4, 17, [.tmp 8], (.seq (.reg [⟨some 4, none, .box (.t 0)⟩, ⟨some 5, none, .box (.t 1)⟩, ⟨some 6, none, .box (.t 2)⟩, ⟨some 8, none, .asg (.c (.bool false))⟩])
 (.seq (.reg [⟨some 9, none, .load true 12 (.t 4)⟩, ⟨some 10, none, .load true 3 (.t 5)⟩, ⟨some 11, none, .load true 3 (.t 6)⟩, ⟨some 12, none, .call n_spec_aGood [.a 9 4, .a 10 5, .a 11 6]⟩, ⟨some 13, none, .mv (.p 12)⟩, ⟨some 14, some (13, true), .mv (.p 3)⟩, ⟨some 15, some (13, true), .call n_spec_l1In [.t 14, .c (.int .i64 0), .c (.int .i64 7)]⟩, ⟨some 16, none, .pick (.t 13) (.t 15) (.c (.bool false))⟩, ⟨some 8, none, .asg (.p 16)⟩])
 .ret))⟩
def b_spec_aApply_0 : AC := (.seq (.reg [⟨some 49, none, .bin .lss (.t 48) (.t 47)⟩])
 (.seq (.cond (.t 49) .skip (.exit 1))
 (.seq (.block 2 (.seq (.reg [⟨some 50, none, .iaddr 1 (.a 46 8) (.t 48)⟩, ⟨some 51, none, .load false 1 (.a 50 8)⟩, ⟨some 10, none, .asg (.p 51)⟩])
 (.reg [⟨some 52, none, .load true 3 (.t 7)⟩, ⟨some 53, none, .mv (.p 10)⟩, ⟨some 54, none, .faddr 2 (.t 7)⟩, ⟨some 55, none, .load false 1 (.a 54 7)⟩, ⟨some 56, none, .mv (.p 10)⟩, ⟨some 57, none, .iaddr 4 (.a 55 7) (.t 56)⟩, ⟨some 58, none, .faddr 3 (.a 57 7)⟩, ⟨some 59, none, .load false 1 (.a 58 7)⟩, ⟨some 60, none, .calli n_spec_sLose 52 7 [.t 53, .a 59 7]⟩])))
 (.reg [⟨some 61, none, .bin .add (.t 48) (.c (.int .i64 1))⟩, ⟨some 48, none, .mv (.p 61)⟩]))))
/-- spec.aApply -/
def a_spec_aApply : AFn := ⟨3, 63, [.cell 6 3 true], (.seq (.reg [⟨some 3, none, .box (.t 0)⟩, ⟨some 4, none, .box (.t 1)⟩, ⟨some 6, none, .alloc [.int .i64 0, .int .i64 0, .list true 4 []]⟩])
 (.seq (.reg [⟨some 11, none, .load true 3 (.t 3)⟩, ⟨some 12, none, .call n_spec_sOwn [.a 11 3]⟩, ⟨some 7, none, .alloc [.int .i64 0, .int .i64 0, .list true 4 []]⟩, ⟨none, none, .store 3 (.t 7) (.t 12)⟩])
 (.seq (.seq (.reg [⟨some 13, none, .mv (.p 2)⟩, ⟨some 14, none, .bin .eql (.t 13) (.c (.int .i64 2))⟩, ⟨some 15, none, .mv (.p 14)⟩, ⟨some 16, some (15, false), .mv (.p 2)⟩, ⟨some 17, some (15, false), .bin .eql (.t 16) (.c (.int .i64 7))⟩, ⟨some 18, none, .pick (.t 15) (.c (.bool true)) (.t 17)⟩])
 (.cond (.t 18) (.reg [⟨some 19, none, .load true 3 (.t 7)⟩, ⟨some 20, none, .load true 3 (.t 3)⟩, ⟨some 21, none, .faddr 2 (.t 4)⟩, ⟨some 22, none, .load false 1 (.a 21 4)⟩, ⟨some 23, none, .call n_spec_aMost [.a 20 3, .a 22 4]⟩, ⟨some 24, none, .calli n_spec_sLose 19 7 [.t 23, .c (.int .i64 1)]⟩]) .skip))
 (.seq (.seq (.reg [⟨some 25, none, .mv (.p 2)⟩, ⟨some 26, none, .bin .eql (.t 25) (.c (.int .i64 5))⟩, ⟨some 27, none, .mv (.p 26)⟩, ⟨some 28, some (27, false), .mv (.p 2)⟩, ⟨some 29, some (27, false), .bin .eql (.t 28) (.c (.int .i64 7))⟩, ⟨some 30, none, .pick (.t 27) (.c (.bool true)) (.t 29)⟩])
 (.cond (.t 30) (.reg [⟨some 31, none, .load true 3 (.t 7)⟩, ⟨some 32, none, .load true 3 (.t 3)⟩, ⟨some 33, none, .faddr 1 (.t 4)⟩, ⟨some 34, none, .load false 1 (.a 33 4)⟩, ⟨some 35, none, .call n_spec_aMost [.a 32 3, .a 34 4]⟩, ⟨some 36, none, .calli n_spec_sLose 31 7 [.t 35, .c (.int .i64 1)]⟩]) .skip))
 (.seq (.reg [⟨some 8, none, .asg (.c (.list true 1 []))⟩])
 (.seq (.seq (.reg [⟨some 37, none, .mv (.p 2)⟩])
 (.block 0 (.seq (.reg [⟨some 39, none, .bin .eql (.t 37) (.c (.int .i64 3))⟩, ⟨some 38, none, .asg (.p 39)⟩])
 (.cond (.t 38) (.reg [⟨some 40, none, .faddr 2 (.t 4)⟩, ⟨some 41, none, .load false 1 (.a 40 4)⟩, ⟨some 8, none, .asg (.a 41 4)⟩]) (.seq (.reg [⟨some 43, none, .bin .eql (.t 37) (.c (.int .i64 6))⟩, ⟨some 42, none, .asg (.p 43)⟩])
 (.cond (.t 42) (.reg [⟨some 44, none, .faddr 1 (.t 4)⟩, ⟨some 45, none, .load false 1 (.a 44 4)⟩, ⟨some 8, none, .asg (.a 45 4)⟩]) .skip))))))
 (.seq (.seq (.reg [⟨some 46, none, .rf (.t 8)⟩, ⟨some 47, none, .len (.a 46 8)⟩, ⟨some 48, none, .mv (.c (.int .i64 0))⟩])
 (.block 1 (.loop [6, 7, 8, 46, 47, 48] [6, 7] b_spec_aApply_0)))
 (.seq (.reg [⟨some 62, none, .load true 3 (.t 7)⟩, ⟨none, none, .store 3 (.t 6) (.a 62 7)⟩])
 .ret))))))))⟩
/-- impl.hasBattle -/
def a_impl_hasBattle : AFn := ⟨3, 16, [.tmp 6], (.seq (.reg [⟨some 3, none, .box (.t 0)⟩, ⟨some 4, none, .box (.t 1)⟩, ⟨some 5, none, .box (.t 2)⟩, ⟨some 6, none, .asg (.c (.bool false))⟩])
 (.seq (.reg [⟨some 7, none, .load true 12 (.t 3)⟩, ⟨some 8, none, .load true 3 (.t 4)⟩, ⟨some 9, none, .call n_impl_fits [.a 7 3, .a 8 4]⟩, ⟨some 10, none, .mv (.p 9)⟩, ⟨some 11, some (10, true), .load true 12 (.t 3)⟩, ⟨some 12, some (10, true), .load true 3 (.t 4)⟩, ⟨some 13, some (10, true), .load true 3 (.t 5)⟩, ⟨some 14, some (10, true), .call n_impl_goodBattle [.a 11 3, .a 12 4, .a 13 5]⟩, ⟨some 15, none, .pick (.t 10) (.t 14) (.c (.bool false))⟩, ⟨some 6, none, .asg (.p 15)⟩])
 .ret))⟩
/-- impl.isResult -/
def a_impl_isResult : AFn := ⟨1, 5, [.tmp 2], (.seq (.reg [⟨some 2, none, .asg (.c (.bool false))⟩])
 (.seq (.reg [⟨some 3, none, .mv (.p 0)⟩, ⟨some 4, none, .call n_impl_inRange [.t 3, .c (.int .i64 0), .c (.int .i64 7)]⟩, ⟨some 2, none, .asg (.p 4)⟩])
 .ret))⟩
def b_impl_applyResult_0 : AC := (.seq (.reg [⟨some 50, none, .bin .lss (.t 49) (.t 48)⟩])
 (.seq (.cond (.t 50) .skip (.exit 1))
 (.seq (.block 2 (.seq (.reg [⟨some 51, none, .iaddr 1 (.a 47 8) (.t 49)⟩, ⟨some 52, none, .load false 1 (.a 51 8)⟩, ⟨some 10, none, .asg (.p 52)⟩])
 (.reg [⟨some 53, none, .load true 3 (.t 7)⟩, ⟨some 54, none, .mv (.p 10)⟩, ⟨some 55, none, .faddr 2 (.t 7)⟩, ⟨some 56, none, .load false 1 (.a 55 7)⟩, ⟨some 57, none, .mv (.p 10)⟩, ⟨some 58, none, .iaddr 4 (.a 56 7) (.t 57)⟩, ⟨some 59, none, .faddr 3 (.a 58 7)⟩, ⟨some 60, none, .load false 1 (.a 59 7)⟩, ⟨some 61, none, .calli n_impl_loseSteps 53 7 [.t 54, .a 60 7]⟩])))
 (.reg [⟨some 62, none, .bin .add (.t 49) (.c (.int .i64 1))⟩, ⟨some 49, none, .mv (.p 62)⟩]))))
/-- impl.applyResult -/
def a_impl_applyResult : AFn := ⟨3, 64, [.cell 6 3 true], (.seq (.reg [⟨some 3, none, .box (.t 0)⟩, ⟨some 4, none, .box (.t 1)⟩, ⟨some 6, none, .alloc [.int .i64 0, .int .i64 0, .list true 4 []]⟩])
 (.seq (.reg [⟨some 11, none, .load true 3 (.t 3)⟩, ⟨some 12, none, .call n_impl_cloneState [.a 11 3]⟩, ⟨some 7, none, .alloc [.int .i64 0, .int .i64 0, .list true 4 []]⟩, ⟨none, none, .store 3 (.t 7) (.t 12)⟩])
 (.seq (.seq (.reg [⟨some 13, none, .mv (.p 2)⟩, ⟨some 14, none, .bin .eql (.t 13) (.c (.int .i64 2))⟩, ⟨some 15, none, .mv (.p 14)⟩, ⟨some 16, some (15, false), .mv (.p 2)⟩, ⟨some 17, some (15, false), .bin .eql (.t 16) (.c (.int .i64 7))⟩, ⟨some 18, none, .pick (.t 15) (.c (.bool true)) (.t 17)⟩])
 (.cond (.t 18) (.reg [⟨some 19, none, .load true 3 (.t 7)⟩, ⟨some 20, none, .load true 3 (.t 3)⟩, ⟨some 21, none, .faddr 2 (.t 4)⟩, ⟨some 22, none, .load false 1 (.a 21 4)⟩, ⟨some 23, none, .call n_impl_strongest [.a 20 3, .a 22 4]⟩, ⟨some 24, none, .calli n_impl_loseSteps 19 7 [.t 23, .c (.int .i64 1)]⟩]) .skip))
 (.seq (.seq (.reg [⟨some 25, none, .mv (.p 2)⟩, ⟨some 26, none, .bin .eql (.t 25) (.c (.int .i64 5))⟩, ⟨some 27, none, .mv (.p 26)⟩, ⟨some 28, some (27, false), .mv (.p 2)⟩, ⟨some 29, some (27, false), .bin .eql (.t 28) (.c (.int .i64 7))⟩, ⟨some 30, none, .pick (.t 27) (.c (.bool true)) (.t 29)⟩])
 (.cond (.t 30) (.reg [⟨some 31, none, .load true 3 (.t 7)⟩, ⟨some 32, none, .load true 3 (.t 3)⟩, ⟨some 33, none, .faddr 1 (.t 4)⟩, ⟨some 34, none, .load false 1 (.a 33 4)⟩, ⟨some 35, none, .call n_impl_strongest [.a 32 3, .a 34 4]⟩, ⟨some 36, none, .calli n_impl_loseSteps 31 7 [.t 35, .c (.int .i64 1)]⟩]) .skip))
 (.seq (.reg [⟨some 37, none, .bslice 1 0 [.int .i64 0] []⟩, ⟨some 8, none, .asg (.t 37)⟩])
 (.seq (.seq (.reg [⟨some 38, none, .mv (.p 2)⟩])
 (.block 0 (.seq (.reg [⟨some 40, none, .bin .eql (.t 38) (.c (.int .i64 3))⟩, ⟨some 39, none, .asg (.p 40)⟩])
 (.cond (.t 39) (.reg [⟨some 41, none, .faddr 2 (.t 4)⟩, ⟨some 42, none, .load false 1 (.a 41 4)⟩, ⟨some 8, none, .asg (.a 42 4)⟩]) (.seq (.reg [⟨some 44, none, .bin .eql (.t 38) (.c (.int .i64 6))⟩, ⟨some 43, none, .asg (.p 44)⟩])
 (.cond (.t 43) (.reg [⟨some 45, none, .faddr 1 (.t 4)⟩, ⟨some 46, none, .load false 1 (.a 45 4)⟩, ⟨some 8, none, .asg (.a 46 4)⟩]) .skip))))))
 (.seq (.seq (.reg [⟨some 47, none, .rf (.t 8)⟩, ⟨some 48, none, .len (.a 47 8)⟩, ⟨some 49, none, .mv (.c (.int .i64 0))⟩])
 (.block 1 (.loop [6, 7, 8, 47, 48, 49] [6, 7] b_impl_applyResult_0)))
 (.seq (.reg [⟨some 63, none, .load true 3 (.t 7)⟩, ⟨none, none, .store 3 (.t 6) (.a 63 7)⟩])
 .ret))))))))⟩
/-- spec.fAsked -/
def a_spec_fAsked : AFn := ⟨3, 16, [.tmp 6], (.seq (.reg [⟨some 3, none, .box (.t 0)⟩, ⟨some 4, none, .box (.t 1)⟩, ⟨some 6, none, .asg (.c (.bool false))⟩])
 (.seq (.reg [⟨some 7, none, .load true 12 (.t 3)⟩, ⟨some 8, none, .load true 3 (.t 4)⟩, ⟨some 9, none, .call n_spec_sGood [.a 7 3, .a 8 4]⟩, ⟨some 10, none, .mv (.p 9)⟩, ⟨some 11, some (10, true), .load true 12 (.t 3)⟩, ⟨some 12, some (10, true), .load true 3 (.t 4)⟩, ⟨some 13, some (10, true), .rf (.t 2)⟩, ⟨some 14, some (10, true), .call n_spec_fGood [.a 11 3, .a 12 4, .a 13 2]⟩, ⟨some 15, none, .pick (.t 10) (.t 14) (.c (.bool false))⟩, ⟨some 6, none, .asg (.p 15)⟩])
 .ret))⟩
def b_spec_fReason_0 : AC := (.seq (.reg [⟨some 48, none, .bin .lss (.t 47) (.t 46)⟩])
 (.seq (.cond (.t 48) .skip (.exit 0))
 (.seq (.block 1 (.seq (.reg [⟨some 49, none, .iaddr 3 (.a 45 2) (.t 47)⟩, ⟨some 50, none, .load true 3 (.a 49 2)⟩, ⟨some 15, none, .alloc [.int .i64 0, .int .i64 0, .int .i64 0]⟩, ⟨none, none, .store 3 (.t 15) (.a 50 2)⟩])
 (.seq (.reg [⟨some 51, none, .faddr 2 (.t 5)⟩, ⟨some 52, none, .load false 1 (.a 51 5)⟩, ⟨some 53, none, .faddr 0 (.t 15)⟩, ⟨some 54, none, .load false 1 (.a 53 15)⟩, ⟨some 55, none, .iaddr 4 (.a 52 5) (.a 54 15)⟩, ⟨some 56, none, .faddr 0 (.a 55 5)⟩, ⟨some 57, none, .load false 1 (.a 56 5)⟩, ⟨some 58, none, .mv (.p 10)⟩, ⟨some 59, none, .bin .neq (.a 57 5) (.t 58)⟩])
 (.cond (.t 59) (.seq (.reg [⟨some 60, none, .mv (.p 11)⟩, ⟨some 61, none, .mv (.p 60)⟩, ⟨some 62, some (61, false), .faddr 1 (.t 15)⟩, ⟨some 63, some (61, false), .load false 1 (.a 62 15)⟩, ⟨some 64, some (61, false), .faddr 2 (.t 9)⟩, ⟨some 65, some (61, false), .load false 1 (.a 64 9)⟩, ⟨some 66, some (61, false), .bin .eql (.a 63 15) (.a 65 9)⟩, ⟨some 67, some (61, false), .mv (.p 66)⟩, ⟨some 68, some (67, true), .faddr 2 (.t 15)⟩, ⟨some 69, some (67, true), .load false 1 (.a 68 15)⟩, ⟨some 70, some (67, true), .faddr 1 (.t 9)⟩, ⟨some 71, some (67, true), .load false 1 (.a 70 9)⟩, ⟨some 72, some (67, true), .bin .eql (.a 69 15) (.a 71 9)⟩, ⟨some 73, some (61, false), .pick (.t 67) (.t 72) (.c (.bool false))⟩, ⟨some 74, none, .pick (.t 61) (.c (.bool true)) (.t 73)⟩, ⟨some 11, none, .asg (.p 74)⟩])
 (.reg [⟨some 75, none, .mv (.p 12)⟩, ⟨some 76, none, .mv (.p 75)⟩, ⟨some 77, some (76, false), .faddr 2 (.t 15)⟩, ⟨some 78, some (76, false), .load false 1 (.a 77 15)⟩, ⟨some 79, some (76, false), .faddr 2 (.t 9)⟩, ⟨some 80, some (76, false), .load false 1 (.a 79 9)⟩, ⟨some 81, some (76, false), .bin .eql (.a 78 15) (.a 80 9)⟩, ⟨some 82, none, .pick (.t 76) (.c (.bool true)) (.t 81)⟩, ⟨some 12, none, .asg (.p 82)⟩])) (.seq (.reg [⟨some 83, none, .faddr 2 (.t 15)⟩, ⟨some 84, none, .load false 1 (.a 83 15)⟩, ⟨some 85, none, .faddr 2 (.t 9)⟩, ⟨some 86, none, .load false 1 (.a 85 9)⟩, ⟨some 87, none, .bin .eql (.a 84 15) (.a 86 9)⟩, ⟨some 88, none, .mv (.p 87)⟩, ⟨some 89, some (88, true), .faddr 0 (.t 15)⟩, ⟨some 90, some (88, true), .load false 1 (.a 89 15)⟩, ⟨some 91, some (88, true), .faddr 0 (.t 9)⟩, ⟨some 92, some (88, true), .load false 1 (.a 91 9)⟩, ⟨some 93, some (88, true), .bin .lss (.a 90 15) (.a 92 9)⟩, ⟨some 94, none, .pick (.t 88) (.t 93) (.c (.bool false))⟩])
 (.cond (.t 94) (.reg [⟨some 95, none, .mv (.p 13)⟩, ⟨some 96, none, .bin .sub (.t 95) (.c (.int .i64 1))⟩, ⟨some 13, none, .asg (.p 96)⟩]) .skip))))))
 (.reg [⟨some 97, none, .bin .add (.t 47) (.c (.int .i64 1))⟩, ⟨some 47, none, .mv (.p 97)⟩]))))
/-- spec.fReason -/
def a_spec_fReason : AFn := ⟨4, 105, [.tmp 8], (.seq (.reg [⟨some 4, none, .box (.t 0)⟩, ⟨some 5, none, .box (.t 1)⟩, ⟨some 8, none, .asg (.c (.int .i64 0))⟩])
 (.seq (.reg [⟨some 16, none, .rf (.t 2)⟩, ⟨some 17, none, .mv (.p 3)⟩, ⟨some 18, none, .iaddr 3 (.a 16 2) (.t 17)⟩, ⟨some 19, none, .load true 3 (.a 18 2)⟩, ⟨some 9, none, .alloc [.int .i64 0, .int .i64 0, .int .i64 0]⟩, ⟨none, none, .store 3 (.t 9) (.a 19 2)⟩])
 (.seq (.reg [⟨some 20, none, .faddr 2 (.t 5)⟩, ⟨some 21, none, .load false 1 (.a 20 5)⟩, ⟨some 22, none, .faddr 0 (.t 9)⟩, ⟨some 23, none, .load false 1 (.a 22 9)⟩, ⟨some 24, none, .iaddr 4 (.a 21 5) (.a 23 9)⟩, ⟨some 25, none, .faddr 0 (.a 24 5)⟩, ⟨some 26, none, .load false 1 (.a 25 5)⟩, ⟨some 10, none, .asg (.p 26)⟩])
 (.seq (.seq (.reg [⟨some 27, none, .load true 3 (.t 5)⟩, ⟨some 28, none, .rf (.t 2)⟩, ⟨some 29, none, .faddr 2 (.t 9)⟩, ⟨some 30, none, .load false 1 (.a 29 9)⟩, ⟨some 31, none, .mv (.p 10)⟩, ⟨some 32, none, .bin .sub (.c (.int .i64 1)) (.t 31)⟩, ⟨some 33, none, .call n_spec_fStays [.a 27 5, .a 28 2, .a 30 9, .t 32]⟩, ⟨some 34, none, .bin .gtr (.t 33) (.c (.int .i64 0))⟩])
 (.cond (.t 34) (.seq (.reg [⟨some 8, none, .asg (.c (.int .i64 1))⟩])
 .ret) .skip))
 (.seq (.reg [⟨some 11, none, .asg (.c (.bool false))⟩, ⟨some 12, none, .asg (.c (.bool false))⟩])
 (.seq (.reg [⟨some 35, none, .faddr 0 (.t 4)⟩, ⟨some 36, none, .faddr 2 (.a 35 4)⟩, ⟨some 37, none, .load false 1 (.a 36 4)⟩, ⟨some 38, none, .load true 3 (.t 5)⟩, ⟨some 39, none, .rf (.t 2)⟩, ⟨some 40, none, .faddr 2 (.t 9)⟩, ⟨some 41, none, .load false 1 (.a 40 9)⟩, ⟨some 42, none, .mv (.p 10)⟩, ⟨some 43, none, .call n_spec_fStays [.a 38 5, .a 39 2, .a 41 9, .t 42]⟩, ⟨some 44, none, .bin .sub (.a 37 4) (.t 43)⟩, ⟨some 13, none, .asg (.p 44)⟩])
 (.seq (.seq (.reg [⟨some 45, none, .rf (.t 2)⟩, ⟨some 46, none, .len (.a 45 2)⟩, ⟨some 47, none, .mv (.c (.int .i64 0))⟩])
 (.block 0 (.loop [2, 5, 9, 10, 11, 12, 13, 45, 46, 47] [8, 11, 12, 13] b_spec_fReason_0)))
 (.seq (.block 2 (.seq (.reg [⟨some 99, none, .mv (.p 11)⟩, ⟨some 98, none, .asg (.p 99)⟩])
 (.cond (.t 98) (.seq (.reg [⟨some 8, none, .asg (.c (.int .i64 2))⟩])
 .ret) (.seq (.reg [⟨some 101, none, .mv (.p 12)⟩, ⟨some 100, none, .asg (.p 101)⟩])
 (.cond (.t 100) (.seq (.reg [⟨some 8, none, .asg (.c (.int .i64 3))⟩])
 .ret) (.seq (.reg [⟨some 103, none, .mv (.p 13)⟩, ⟨some 104, none, .bin .leq (.t 103) (.c (.int .i64 0))⟩, ⟨some 102, none, .asg (.p 104)⟩])
 (.cond (.t 102) (.seq (.reg [⟨some 8, none, .asg (.c (.int .i64 4))⟩])
 .ret) .skip)))))))
 (.seq (.reg [⟨some 8, none, .asg (.c (.int .i64 0))⟩])
 .ret)))))))))⟩
/-- laws.toAttempt -/
def a_laws_toAttempt : AFn := ⟨1, 14, [.cell 2 3 true], (.seq (.reg [⟨some 1, none, .box (.t 0)⟩, ⟨some 2, none, .alloc [.int .i64 0, .int .i64 0, .int .i64 0]⟩])
 (.seq (.reg [⟨some 3, none, .alloc [.int .i64 0, .int .i64 0, .int .i64 0]⟩])
 (.seq (.reg [⟨some 4, none, .faddr 0 (.t 1)⟩, ⟨some 5, none, .load false 1 (.a 4 1)⟩, ⟨some 6, none, .faddr 0 (.t 3)⟩, ⟨none, none, .store 1 (.a 6 3) (.p 5)⟩])
 (.seq (.reg [⟨some 7, none, .faddr 1 (.t 1)⟩, ⟨some 8, none, .load false 1 (.a 7 1)⟩, ⟨some 9, none, .faddr 1 (.t 3)⟩, ⟨none, none, .store 1 (.a 9 3) (.p 8)⟩])
 (.seq (.reg [⟨some 10, none, .faddr 2 (.t 1)⟩, ⟨some 11, none, .load false 1 (.a 10 1)⟩, ⟨some 12, none, .faddr 2 (.t 3)⟩, ⟨none, none, .store 1 (.a 12 3) (.p 11)⟩])
 (.seq (.reg [⟨some 13, none, .load true 3 (.t 3)⟩, ⟨none, none, .store 3 (.t 2) (.a 13 3)⟩])
 .ret))))))⟩
/-- impl.areAttempts -/
def a_impl_areAttempts : AFn := ⟨3, 16, [.tmp 6], (.seq (.reg [⟨some 3, none, .box (.t 0)⟩, ⟨some 4, none, .box (.t 1)⟩, ⟨some 6, none, .asg (.c (.bool false))⟩])
 (.seq (.reg [⟨some 7, none, .load true 12 (.t 3)⟩, ⟨some 8, none, .load true 3 (.t 4)⟩, ⟨some 9, none, .call n_impl_fits [.a 7 3, .a 8 4]⟩, ⟨some 10, none, .mv (.p 9)⟩, ⟨some 11, some (10, true), .load true 12 (.t 3)⟩, ⟨some 12, some (10, true), .load true 3 (.t 4)⟩, ⟨some 13, some (10, true), .rf (.t 2)⟩, ⟨some 14, some (10, true), .call n_impl_goodAttempts [.a 11 3, .a 12 4, .a 13 2]⟩, ⟨some 15, none, .pick (.t 10) (.t 14) (.c (.bool false))⟩, ⟨some 6, none, .asg (.p 15)⟩])
 .ret))⟩
def b_impl_attemptReason_0 : AC := (.seq (.reg [⟨some 36, none, .bin .lss (.t 35) (.t 34)⟩])
 (.seq (.cond (.t 36) .skip (.exit 0))
 (.seq (.block 1 (.seq (.reg [⟨some 37, none, .iaddr 1 (.t 33) (.t 35)⟩, ⟨some 38, none, .load false 1 (.a 37 33)⟩, ⟨some 13, none, .asg (.p 38)⟩])
 (.seq (.seq (.reg [⟨some 39, none, .rf (.t 2)⟩, ⟨some 40, none, .mv (.p 13)⟩, ⟨some 41, none, .call n_impl_leaves [.a 39 2, .t 40]⟩])
 (.cond (.t 41) (.exit 1) .skip))
 (.seq (.seq (.reg [⟨some 42, none, .faddr 2 (.t 5)⟩, ⟨some 43, none, .load false 1 (.a 42 5)⟩, ⟨some 44, none, .mv (.p 13)⟩, ⟨some 45, none, .iaddr 4 (.a 43 5) (.t 44)⟩, ⟨some 46, none, .faddr 0 (.a 45 5)⟩, ⟨some 47, none, .load false 1 (.a 46 5)⟩, ⟨some 48, none, .mv (.p 10)⟩, ⟨some 49, none, .bin .neq (.a 47 5) (.t 48)⟩])
 (.cond (.t 49) (.seq (.reg [⟨some 8, none, .asg (.c (.int .i64 1))⟩])
 .ret) .skip))
 (.reg [⟨some 50, none, .mv (.p 11)⟩, ⟨some 51, none, .bin .add (.t 50) (.c (.int .i64 1))⟩, ⟨some 11, none, .asg (.p 51)⟩])))))
 (.reg [⟨some 52, none, .bin .add (.t 35) (.c (.int .i64 1))⟩, ⟨some 35, none, .mv (.p 52)⟩]))))
def b_impl_attemptReason_1 : AC := (.seq (.reg [⟨some 56, none, .bin .lss (.t 55) (.t 54)⟩])
 (.seq (.cond (.t 56) .skip (.exit 2))
 (.seq (.block 3 (.seq (.reg [⟨some 57, none, .iaddr 3 (.a 53 2) (.t 55)⟩, ⟨some 58, none, .load true 3 (.a 57 2)⟩, ⟨some 17, none, .alloc [.int .i64 0, .int .i64 0, .int .i64 0]⟩, ⟨none, none, .store 3 (.t 17) (.a 58 2)⟩])
 (.seq (.reg [⟨some 59, none, .faddr 2 (.t 5)⟩, ⟨some 60, none, .load false 1 (.a 59 5)⟩, ⟨some 61, none, .faddr 0 (.t 17)⟩, ⟨some 62, none, .load false 1 (.a 61 17)⟩, ⟨some 63, none, .iaddr 4 (.a 60 5) (.a 62 17)⟩, ⟨some 64, none, .faddr 0 (.a 63 5)⟩, ⟨some 65, none, .load false 1 (.a 64 5)⟩, ⟨some 66, none, .mv (.p 10)⟩, ⟨some 67, none, .bin .neq (.a 65 5) (.t 66)⟩, ⟨some 18, none, .asg (.p 67)⟩])
 (.seq (.reg [⟨some 68, none, .mv (.p 14)⟩, ⟨some 69, none, .mv (.p 68)⟩, ⟨some 70, some (69, false), .mv (.p 18)⟩, ⟨some 71, some (69, false), .mv (.p 70)⟩, ⟨some 72, some (71, true), .faddr 1 (.t 17)⟩, ⟨some 73, some (71, true), .load false 1 (.a 72 17)⟩, ⟨some 74, some (71, true), .faddr 2 (.t 9)⟩, ⟨some 75, some (71, true), .load false 1 (.a 74 9)⟩, ⟨some 76, some (71, true), .bin .eql (.a 73 17) (.a 75 9)⟩, ⟨some 77, some (69, false), .pick (.t 71) (.t 76) (.c (.bool false))⟩, ⟨some 78, some (69, false), .mv (.p 77)⟩, ⟨some 79, some (78, true), .faddr 2 (.t 17)⟩, ⟨some 80, some (78, true), .load false 1 (.a 79 17)⟩, ⟨some 81, some (78, true), .faddr 1 (.t 9)⟩, ⟨some 82, some (78, true), .load false 1 (.a 81 9)⟩, ⟨some 83, some (78, true), .bin .eql (.a 80 17) (.a 82 9)⟩, ⟨some 84, some (69, false), .pick (.t 78) (.t 83) (.c (.bool false))⟩, ⟨some 85, none, .pick (.t 69) (.c (.bool true)) (.t 84)⟩, ⟨some 14, none, .asg (.p 85)⟩])
 (.seq (.reg [⟨some 86, none, .mv (.p 15)⟩, ⟨some 87, none, .mv (.p 86)⟩, ⟨some 88, some (87, false), .mv (.p 18)⟩, ⟨some 89, some (87, false), .mv (.p 88)⟩, ⟨some 90, some (89, true), .faddr 2 (.t 17)⟩, ⟨some 91, some (89, true), .load false 1 (.a 90 17)⟩, ⟨some 92, some (89, true), .faddr 2 (.t 9)⟩, ⟨some 93, some (89, true), .load false 1 (.a 92 9)⟩, ⟨some 94, some (89, true), .bin .eql (.a 91 17) (.a 93 9)⟩, ⟨some 95, some (87, false), .pick (.t 89) (.t 94) (.c (.bool false))⟩, ⟨some 96, none, .pick (.t 87) (.c (.bool true)) (.t 95)⟩, ⟨some 15, none, .asg (.p 96)⟩])
 (.seq (.reg [⟨some 97, none, .mv (.p 18)⟩, ⟨some 98, none, .un .not (.t 97)⟩, ⟨some 99, none, .mv (.p 98)⟩, ⟨some 100, some (99, true), .faddr 2 (.t 17)⟩, ⟨some 101, some (99, true), .load false 1 (.a 100 17)⟩, ⟨some 102, some (99, true), .faddr 2 (.t 9)⟩, ⟨some 103, some (99, true), .load false 1 (.a 102 9)⟩, ⟨some 104, some (99, true), .bin .eql (.a 101 17) (.a 103 9)⟩, ⟨some 105, none, .pick (.t 99) (.t 104) (.c (.bool false))⟩, ⟨some 106, none, .mv (.p 105)⟩, ⟨some 107, some (106, true), .faddr 0 (.t 17)⟩, ⟨some 108, some (106, true), .load false 1 (.a 107 17)⟩, ⟨some 109, some (106, true), .faddr 0 (.t 9)⟩, ⟨some 110, some (106, true), .load false 1 (.a 109 9)⟩, ⟨some 111, some (106, true), .bin .lss (.a 108 17) (.a 110 9)⟩, ⟨some 112, none, .pick (.t 106) (.t 111) (.c (.bool false))⟩])
 (.cond (.t 112) (.reg [⟨some 113, none, .mv (.p 11)⟩, ⟨some 114, none, .bin .add (.t 113) (.c (.int .i64 1))⟩, ⟨some 11, none, .asg (.p 114)⟩]) .skip)))))))
 (.reg [⟨some 115, none, .bin .add (.t 55) (.c (.int .i64 1))⟩, ⟨some 55, none, .mv (.p 115)⟩]))))
/-- impl.attemptReason -/
def a_impl_attemptReason : AFn := ⟨4, 126, [.tmp 8], (.seq (.reg [⟨some 4, none, .box (.t 0)⟩, ⟨some 5, none, .box (.t 1)⟩, ⟨some 8, none, .asg (.c (.int .i64 0))⟩])
 (.seq (.reg [⟨some 19, none, .rf (.t 2)⟩, ⟨some 20, none, .mv (.p 3)⟩, ⟨some 21, none, .iaddr 3 (.a 19 2) (.t 20)⟩, ⟨some 22, none, .load true 3 (.a 21 2)⟩, ⟨some 9, none, .alloc [.int .i64 0, .int .i64 0, .int .i64 0]⟩, ⟨none, none, .store 3 (.t 9) (.a 22 2)⟩])
 (.seq (.reg [⟨some 23, none, .faddr 2 (.t 5)⟩, ⟨some 24, none, .load false 1 (.a 23 5)⟩, ⟨some 25, none, .faddr 0 (.t 9)⟩, ⟨some 26, none, .load false 1 (.a 25 9)⟩, ⟨some 27, none, .iaddr 4 (.a 24 5) (.a 26 9)⟩, ⟨some 28, none, .faddr 0 (.a 27 5)⟩, ⟨some 29, none, .load false 1 (.a 28 5)⟩, ⟨some 10, none, .asg (.p 29)⟩, ⟨some 11, none, .asg (.c (.int .i64 0))⟩])
 (.seq (.seq (.reg [⟨some 30, none, .load true 3 (.t 5)⟩, ⟨some 31, none, .faddr 2 (.t 9)⟩, ⟨some 32, none, .load false 1 (.a 31 9)⟩, ⟨some 33, none, .call n_impl_unitsAt [.a 30 5, .a 32 9]⟩, ⟨some 34, none, .len (.t 33)⟩, ⟨some 35, none, .mv (.c (.int .i64 0))⟩])
 (.block 0 (.loop [2, 4, 5, 9, 10, 11, 33, 34, 35] [2, 4, 5, 8, 9, 10, 11] b_impl_attemptReason_0)))
 (.seq (.reg [⟨some 14, none, .asg (.c (.bool false))⟩, ⟨some 15, none, .asg (.c (.bool false))⟩])
 (.seq (.seq (.reg [⟨some 53, none, .rf (.t 2)⟩, ⟨some 54, none, .len (.a 53 2)⟩, ⟨some 55, none, .mv (.c (.int .i64 0))⟩])
 (.block 2 (.loop [2, 4, 5, 9, 10, 11, 14, 15, 53, 54, 55] [4, 8, 11, 14, 15] b_impl_attemptReason_1)))
 (.seq (.block 4 (.seq (.reg [⟨some 117, none, .mv (.p 14)⟩, ⟨some 116, none, .asg (.p 117)⟩])
 (.cond (.t 116) (.seq (.reg [⟨some 8, none, .asg (.c (.int .i64 2))⟩])
 .ret) (.seq (.reg [⟨some 119, none, .mv (.p 15)⟩, ⟨some 118, none, .asg (.p 119)⟩])
 (.cond (.t 118) (.seq (.reg [⟨some 8, none, .asg (.c (.int .i64 3))⟩])
 .ret) (.seq (.reg [⟨some 121, none, .mv (.p 11)⟩, ⟨some 122, none, .faddr 0 (.t 4)⟩, ⟨some 123, none, .faddr 2 (.a 122 4)⟩, ⟨some 124, none, .load false 1 (.a 123 4)⟩, ⟨some 125, none, .bin .geq (.t 121) (.a 124 4)⟩, ⟨some 120, none, .asg (.p 125)⟩])
 (.cond (.t 120) (.seq (.reg [⟨some 8, none, .asg (.c (.int .i64 4))⟩])
 .ret) .skip)))))))
 (.seq (.reg [⟨some 8, none, .asg (.c (.int .i64 0))⟩])
 .ret))))))))⟩
/-- laws.eqAttempt -/
def a_laws_eqAttempt : AFn := ⟨2, 20, [.tmp 4], (.seq (.reg [⟨some 2, none, .box (.t 0)⟩, ⟨some 3, none, .box (.t 1)⟩, ⟨some 4, none, .asg (.c (.bool false))⟩])
 (.seq (.seq (.reg [⟨some 5, none, .faddr 0 (.t 2)⟩, ⟨some 6, none, .load false 1 (.a 5 2)⟩, ⟨some 7, none, .faddr 0 (.t 3)⟩, ⟨some 8, none, .load false 1 (.a 7 3)⟩, ⟨some 9, none, .bin .neq (.a 6 2) (.a 8 3)⟩])
 (.cond (.t 9) (.seq (.reg [⟨some 4, none, .asg (.c (.bool false))⟩])
 .ret) .skip))
 (.seq (.seq (.reg [⟨some 10, none, .faddr 1 (.t 2)⟩, ⟨some 11, none, .load false 1 (.a 10 2)⟩, ⟨some 12, none, .faddr 1 (.t 3)⟩, ⟨some 13, none, .load false 1 (.a 12 3)⟩, ⟨some 14, none, .bin .neq (.a 11 2) (.a 13 3)⟩])
 (.cond (.t 14) (.seq (.reg [⟨some 4, none, .asg (.c (.bool false))⟩])
 .ret) .skip))
 (.seq (.seq (.reg [⟨some 15, none, .faddr 2 (.t 2)⟩, ⟨some 16, none, .load false 1 (.a 15 2)⟩, ⟨some 17, none, .faddr 2 (.t 3)⟩, ⟨some 18, none, .load false 1 (.a 17 3)⟩, ⟨some 19, none, .bin .neq (.a 16 2) (.a 18 3)⟩])
 (.cond (.t 19) (.seq (.reg [⟨some 4, none, .asg (.c (.bool false))⟩])
 .ret) .skip))
 (.seq (.reg [⟨some 4, none, .asg (.c (.bool true))⟩])
 .ret)))))⟩
/-- laws.szOrder -/
def a_laws_szOrder : AFn := ⟨2, 12, [.tmp 4], (.seq (.reg [⟨some 2, none, .box (.t 0)⟩, ⟨some 4, none, .asg (.c (.int .i64 0))⟩])
 (.seq (.reg [⟨some 5, none, .faddr 1 (.t 2)⟩, ⟨some 6, none, .load false 1 (.a 5 2)⟩, ⟨some 7, none, .mv (.p 1)⟩, ⟨some 8, none, .call n_laws_szIntS [.a 6 2, .t 7]⟩, ⟨some 1, none, .asg (.p 8)⟩])
 (.seq (.seq (.reg [⟨some 9, none, .mv (.p 1)⟩, ⟨some 10, none, .bin .lss (.t 9) (.c (.int .i64 0))⟩])
 (.cond (.t 10) (.seq (.reg [⟨some 4, none, .asg (.c (.int .i64 (-1)))⟩])
 .ret) .skip))
 (.seq (.reg [⟨some 11, none, .mv (.p 1)⟩, ⟨some 4, none, .asg (.p 11)⟩])
 .ret))))⟩
/-- spec.fOn -/
def a_spec_fOn : AFn := ⟨3, 27, [.tmp 6], (.seq (.reg [⟨some 3, none, .box (.t 0)⟩, ⟨some 4, none, .box (.t 1)⟩, ⟨some 6, none, .asg (.c (.bool false))⟩])
 (.seq (.reg [⟨some 7, none, .load true 12 (.t 3)⟩, ⟨some 8, none, .load true 3 (.t 4)⟩, ⟨some 9, none, .call n_spec_sGood [.a 7 3, .a 8 4]⟩, ⟨some 10, none, .mv (.p 9)⟩, ⟨some 11, some (10, true), .mv (.p 2)⟩, ⟨some 12, some (10, true), .faddr 2 (.t 4)⟩, ⟨some 13, some (10, true), .load false 1 (.a 12 4)⟩, ⟨some 14, some (10, true), .len (.a 13 4)⟩, ⟨some 15, some (10, true), .bin .sub (.t 14) (.c (.int .i64 1))⟩, ⟨some 16, some (10, true), .call n_spec_l1In [.t 11, .c (.int .i64 0), .t 15]⟩, ⟨some 17, none, .pick (.t 10) (.t 16) (.c (.bool false))⟩, ⟨some 18, none, .mv (.p 17)⟩, ⟨some 19, some (18, true), .faddr 2 (.t 4)⟩, ⟨some 20, some (18, true), .load false 1 (.a 19 4)⟩, ⟨some 21, some (18, true), .mv (.p 2)⟩, ⟨some 22, some (18, true), .iaddr 4 (.a 20 4) (.t 21)⟩, ⟨some 23, some (18, true), .faddr 2 (.a 22 4)⟩, ⟨some 24, some (18, true), .load false 1 (.a 23 4)⟩, ⟨some 25, some (18, true), .bin .geq (.a 24 4) (.c (.int .i64 0))⟩, ⟨some 26, none, .pick (.t 18) (.t 25) (.c (.bool false))⟩, ⟨some 6, none, .asg (.p 26)⟩])
 .ret))⟩
def b_spec_l1All_0 : AC := (.seq (.reg [⟨some 12, none, .bin .lss (.t 11) (.t 10)⟩])
 (.seq (.cond (.t 12) .skip (.exit 0))
 (.seq (.block 1 (.seq (.reg [⟨some 13, none, .iaddr 1 (.a 9 0) (.t 11)⟩, ⟨some 14, none, .load false 1 (.a 13 0)⟩, ⟨some 8, none, .asg (.p 14)⟩])
 (.seq (.reg [⟨some 15, none, .mv (.p 8)⟩, ⟨some 16, none, .mv (.p 1)⟩, ⟨some 17, none, .mv (.p 2)⟩, ⟨some 18, none, .call n_spec_l1In [.t 15, .t 16, .t 17]⟩, ⟨some 19, none, .un .not (.t 18)⟩])
 (.cond (.t 19) (.seq (.reg [⟨some 6, none, .asg (.c (.bool false))⟩])
 .ret) .skip))))
 (.reg [⟨some 20, none, .bin .add (.t 11) (.c (.int .i64 1))⟩, ⟨some 11, none, .mv (.p 20)⟩]))))
/-- spec.l1All -/
def a_spec_l1All : AFn := ⟨3, 21, [.tmp 6], (.seq (.reg [⟨some 6, none, .asg (.c (.bool false))⟩])
 (.seq (.seq (.reg [⟨some 9, none, .rf (.t 0)⟩, ⟨some 10, none, .len (.a 9 0)⟩, ⟨some 11, none, .mv (.c (.int .i64 0))⟩])
 (.block 0 (.loop [0, 1, 2, 9, 10, 11] [6] b_spec_l1All_0)))
 (.seq (.reg [⟨some 6, none, .asg (.c (.bool true))⟩])
 .ret)))⟩
def b_spec_fAttempts_0 : AC := (.seq (.reg [⟨some 19, none, .bin .lss (.t 18) (.t 17)⟩])
 (.seq (.cond (.t 19) .skip (.exit 0))
 (.seq (.block 1 (.seq (.reg [⟨some 20, none, .mv (.p 18)⟩, ⟨some 21, none, .iaddr 3 (.a 16 2) (.t 18)⟩, ⟨some 22, none, .load true 3 (.a 21 2)⟩, ⟨some 13, none, .alloc [.int .i64 0, .list true 1 [], .int .i64 0]⟩, ⟨some 12, none, .asg (.p 20)⟩, ⟨none, none, .store 3 (.t 13) (.a 22 2)⟩])
 (.seq (.seq (.reg [⟨some 23, none, .rf (.t 4)⟩, ⟨some 24, none, .mv (.p 12)⟩, ⟨some 25, none, .iaddr 1 (.a 23 4) (.t 24)⟩, ⟨some 26, none, .load false 1 (.a 25 4)⟩, ⟨some 27, none, .un .not (.a 26 4)⟩, ⟨some 28, none, .mv (.p 27)⟩, ⟨some 29, some (28, false), .rf (.t 3)⟩, ⟨some 30, some (28, false), .mv (.p 12)⟩, ⟨some 31, some (28, false), .iaddr 1 (.a 29 3) (.t 30)⟩, ⟨some 32, some (28, false), .load false 1 (.a 31 3)⟩, ⟨some 33, some (28, false), .call n_spec_l1In [.a 32 3, .c (.int .i64 0), .c (.int .i64 8)]⟩, ⟨some 34, some (28, false), .un .not (.t 33)⟩, ⟨some 35, none, .pick (.t 28) (.c (.bool true)) (.t 34)⟩, ⟨some 36, none, .mv (.p 35)⟩, ⟨some 37, some (36, false), .rf (.t 3)⟩, ⟨some 38, some (36, false), .mv (.p 12)⟩, ⟨some 39, some (36, false), .iaddr 1 (.a 37 3) (.t 38)⟩, ⟨some 40, some (36, false), .load false 1 (.a 39 3)⟩, ⟨some 41, some (36, false), .faddr 1 (.t 13)⟩, ⟨some 42, some (36, false), .load false 1 (.a 41 13)⟩, ⟨some 43, some (36, false), .len (.a 42 13)⟩, ⟨some 44, some (36, false), .bin .geq (.a 40 3) (.t 43)⟩, ⟨some 45, none, .pick (.t 36) (.c (.bool true)) (.t 44)⟩])
 (.cond (.t 45) (.exit 1) .skip))
 (.seq (.reg [⟨some 46, none, .faddr 2 (.t 6)⟩, ⟨some 47, none, .load false 1 (.a 46 6)⟩, ⟨some 48, none, .faddr 0 (.t 13)⟩, ⟨some 49, none, .load false 1 (.a 48 13)⟩, ⟨some 50, none, .iaddr 4 (.a 47 6) (.a 49 13)⟩, ⟨some 51, none, .load true 4 (.a 50 6)⟩, ⟨some 52, none, .faddr 1 (.t 13)⟩, ⟨some 53, none, .load false 1 (.a 52 13)⟩, ⟨some 54, none, .rf (.t 3)⟩, ⟨some 55, none, .mv (.p 12)⟩, ⟨some 56, none, .iaddr 1 (.a 54 3) (.t 55)⟩, ⟨some 57, none, .load false 1 (.a 56 3)⟩, ⟨some 58, none, .iaddr 1 (.a 53 13) (.a 57 3)⟩, ⟨some 59, none, .load false 1 (.a 58 13)⟩, ⟨some 14, none, .alloc [.int .i64 0, .int .i64 0, .int .i64 0, .int .i64 0]⟩, ⟨none, none, .store 4 (.t 14) (.a 51 6)⟩, ⟨some 15, none, .asg (.p 59)⟩])
 (.seq (.seq (.reg [⟨some 60, none, .load true 12 (.t 5)⟩, ⟨some 61, none, .faddr 1 (.t 14)⟩, ⟨some 62, none, .load false 1 (.a 61 14)⟩, ⟨some 63, none, .faddr 2 (.t 14)⟩, ⟨some 64, none, .load false 1 (.a 63 14)⟩, ⟨some 65, none, .mv (.p 15)⟩, ⟨some 66, none, .faddr 1 (.t 6)⟩, ⟨some 67, none, .load false 1 (.a 66 6)⟩, ⟨some 68, none, .call n_spec_cStep [.a 60 5, .a 62 14, .a 64 14, .t 65, .a 67 6]⟩, ⟨some 69, none, .bin .eql (.t 68) (.c (.int .i64 0))⟩, ⟨some 70, none, .mv (.p 69)⟩, ⟨some 71, some (70, false), .load true 12 (.t 5)⟩, ⟨some 72, some (70, false), .load true 3 (.t 6)⟩, ⟨some 73, some (70, false), .faddr 0 (.t 13)⟩, ⟨some 74, some (70, false), .load false 1 (.a 73 13)⟩, ⟨some 75, some (70, false), .mv (.p 15)⟩, ⟨some 76, some (70, false), .rf (.t 3)⟩, ⟨some 77, some (70, false), .mv (.p 12)⟩, ⟨some 78, some (70, false), .iaddr 1 (.a 76 3) (.t 77)⟩, ⟨some 79, some (70, false), .load false 1 (.a 78 3)⟩, ⟨some 80, some (70, false), .bin .gtr (.a 79 3) (.c (.int .i64 0))⟩, ⟨some 81, some (70, false), .call n_spec_fZone [.a 71 5, .a 72 6, .a 74 13, .t 75, .t 80]⟩, ⟨some 82, some (70, false), .bin .neq (.t 81) (.c (.int .i64 0))⟩, ⟨some 83, none, .pick (.t 70) (.c (.bool true)) (.t 82)⟩])
 (.cond (.t 83) (.exit 1) .skip))
 (.reg [⟨some 84, none, .rf (.t 11)⟩, ⟨some 85, none, .faddr 0 (.t 13)⟩, ⟨some 86, none, .load false 1 (.a 85 13)⟩, ⟨some 87, none, .faddr 2 (.t 14)⟩, ⟨some 88, none, .load false 1 (.a 87 14)⟩, ⟨some 89, none, .faddr 7 (.t 5)⟩, ⟨some 90, none, .load true 5 (.a 89 5)⟩, ⟨some 91, none, .faddr 2 (.t 14)⟩, ⟨some 92, none, .load false 1 (.a 91 14)⟩, ⟨some 93, none, .mv (.p 15)⟩, ⟨some 94, none, .call n_spec_mNext [.a 90 5, .a 92 14, .t 93]⟩, ⟨some 95, none, .build [.int .i64 0, .int .i64 0, .int .i64 0] [(0, 1, .p 86), (1, 1, .p 88), (2, 1, .p 94)]⟩, ⟨some 96, none, .bslice 3 1 [.int .i64 0, .int .i64 0, .int .i64 0] [(0, .t 95)]⟩, ⟨some 97, none, .append 3 (.a 84 11) (.t 96)⟩, ⟨some 11, none, .asg (.t 97)⟩]))))))
 (.reg [⟨some 98, none, .bin .add (.t 18) (.c (.int .i64 1))⟩, ⟨some 18, none, .mv (.p 98)⟩]))))
/-- spec.fAttempts -/
def a_spec_fAttempts : AFn := ⟨5, 100, [.tmp 10], (.seq (.reg [⟨some 5, none, .box (.t 0)⟩, ⟨some 6, none, .box (.t 1)⟩, ⟨some 10, none, .asg (.c (.list true 3 []))⟩])
 (.seq (.reg [⟨some 11, none, .asg (.c (.list true 3 []))⟩])
 (.seq (.seq (.reg [⟨some 16, none, .rf (.t 2)⟩, ⟨some 17, none, .len (.a 16 2)⟩, ⟨some 18, none, .mv (.c (.int .i64 0))⟩])
 (.block 0 (.loop [2, 3, 4, 5, 6, 11, 16, 17, 18] [10, 11] b_spec_fAttempts_0)))
 (.seq (.reg [⟨some 99, none, .rf (.t 11)⟩, ⟨some 10, none, .asg (.a 99 11)⟩])
 .ret))))⟩
/-- laws.toOrder -/
def a_laws_toOrder : AFn := ⟨1, 15, [.cell 2 3 true], (.seq (.reg [⟨some 1, none, .box (.t 0)⟩, ⟨some 2, none, .alloc [.int .i64 0, .list true 1 [], .int .i64 0]⟩])
 (.seq (.reg [⟨some 3, none, .alloc [.int .i64 0, .list true 1 [], .int .i64 0]⟩])
 (.seq (.reg [⟨some 4, none, .faddr 0 (.t 1)⟩, ⟨some 5, none, .load false 1 (.a 4 1)⟩, ⟨some 6, none, .faddr 0 (.t 3)⟩, ⟨none, none, .store 1 (.a 6 3) (.p 5)⟩])
 (.seq (.reg [⟨some 7, none, .faddr 1 (.t 1)⟩, ⟨some 8, none, .load false 1 (.a 7 1)⟩, ⟨some 9, none, .call n_laws_toIntS [.a 8 1]⟩, ⟨some 10, none, .faddr 1 (.t 3)⟩, ⟨none, none, .store 1 (.a 10 3) (.t 9)⟩])
 (.seq (.reg [⟨some 11, none, .faddr 2 (.t 1)⟩, ⟨some 12, none, .load false 1 (.a 11 1)⟩, ⟨some 13, none, .faddr 2 (.t 3)⟩, ⟨none, none, .store 1 (.a 13 3) (.p 12)⟩])
 (.seq (.reg [⟨some 14, none, .load true 3 (.t 3)⟩, ⟨none, none, .store 3 (.t 2) (.a 14 3)⟩])
 .ret))))))⟩
/-- impl.isPath -/
def a_impl_isPath : AFn := ⟨1, 11, [.tmp 2], (.seq (.reg [⟨some 2, none, .asg (.c (.bool false))⟩])
 (.seq (.reg [⟨some 3, none, .rf (.t 0)⟩, ⟨some 4, none, .len (.a 3 0)⟩, ⟨some 5, none, .bin .leq (.t 4) (.c (.int .i64 9))⟩, ⟨some 6, none, .mv (.p 5)⟩, ⟨some 7, some (6, true), .rf (.t 0)⟩, ⟨some 8, some (6, true), .call n_slices_ContainsFunc_int_int [.a 7 0, .f n_impl_isPath_1]⟩, ⟨some 9, some (6, true), .un .not (.t 8)⟩, ⟨some 10, none, .pick (.t 6) (.t 9) (.c (.bool false))⟩, ⟨some 2, none, .asg (.p 10)⟩])
 .ret))⟩
/-- impl.attemptOf -/
def a_impl_attemptOf : AFn := ⟨4, 66, [.cell 8 3 true, .tmp 9], (.seq (.reg [⟨some 4, none, .box (.t 0)⟩, ⟨some 5, none, .box (.t 1)⟩, ⟨some 6, none, .box (.t 2)⟩, ⟨some 8, none, .alloc [.int .i64 0, .int .i64 0, .int .i64 0]⟩, ⟨some 9, none, .asg (.c (.bool false))⟩])
 (.seq (.seq (.reg [⟨some 13, none, .mv (.p 3)⟩, ⟨some 14, none, .call n_impl_inRange [.t 13, .c (.int .i64 0), .c (.int .i64 8)]⟩, ⟨some 15, none, .un .not (.t 14)⟩, ⟨some 16, none, .mv (.p 15)⟩, ⟨some 17, some (16, false), .mv (.p 3)⟩, ⟨some 18, some (16, false), .faddr 1 (.t 6)⟩, ⟨some 19, some (16, false), .load false 1 (.a 18 6)⟩, ⟨some 20, some (16, false), .len (.a 19 6)⟩, ⟨some 21, some (16, false), .bin .geq (.t 17) (.t 20)⟩, ⟨some 22, none, .pick (.t 16) (.c (.bool true)) (.t 21)⟩])
 (.cond (.t 22) (.seq (.reg [⟨some 23, none, .build [.int .i64 0, .int .i64 0, .int .i64 0] []⟩, ⟨none, none, .store 3 (.t 8) (.t 23)⟩, ⟨some 9, none, .asg (.c (.bool false))⟩])
 .ret) .skip))
 (.seq (.reg [⟨some 24, none, .faddr 2 (.t 5)⟩, ⟨some 25, none, .load false 1 (.a 24 5)⟩, ⟨some 26, none, .faddr 0 (.t 6)⟩, ⟨some 27, none, .load false 1 (.a 26 6)⟩, ⟨some 28, none, .iaddr 4 (.a 25 5) (.a 27 6)⟩, ⟨some 29, none, .load true 4 (.a 28 5)⟩, ⟨some 30, none, .faddr 1 (.t 6)⟩, ⟨some 31, none, .load false 1 (.a 30 6)⟩, ⟨some 32, none, .mv (.p 3)⟩, ⟨some 33, none, .iaddr 1 (.a 31 6) (.t 32)⟩, ⟨some 34, none, .load false 1 (.a 33 6)⟩, ⟨some 10, none, .alloc [.int .i64 0, .int .i64 0, .int .i64 0, .int .i64 0]⟩, ⟨none, none, .store 4 (.t 10) (.a 29 5)⟩, ⟨some 11, none, .asg (.p 34)⟩])
 (.seq (.seq (.reg [⟨some 35, none, .load true 12 (.t 4)⟩, ⟨some 36, none, .faddr 1 (.t 10)⟩, ⟨some 37, none, .load false 1 (.a 36 10)⟩, ⟨some 38, none, .faddr 1 (.t 5)⟩, ⟨some 39, none, .load false 1 (.a 38 5)⟩, ⟨some 40, none, .faddr 2 (.t 10)⟩, ⟨some 41, none, .load false 1 (.a 40 10)⟩, ⟨some 42, none, .mv (.p 11)⟩, ⟨some 43, none, .call n_impl_stepCost [.a 35 4, .a 37 10, .a 39 5, .a 41 10, .t 42]⟩, ⟨some 44, none, .bin .eql (.t 43) (.c (.int .i64 0))⟩])
 (.cond (.t 44) (.seq (.reg [⟨some 45, none, .build [.int .i64 0, .int .i64 0, .int .i64 0] []⟩, ⟨none, none, .store 3 (.t 8) (.t 45)⟩, ⟨some 9, none, .asg (.c (.bool false))⟩])
 .ret) .skip))
 (.seq (.reg [⟨some 46, none, .faddr 7 (.t 4)⟩, ⟨some 47, none, .load true 5 (.a 46 4)⟩, ⟨some 48, none, .faddr 2 (.t 10)⟩, ⟨some 49, none, .load false 1 (.a 48 10)⟩, ⟨some 50, none, .mv (.p 11)⟩, ⟨some 51, none, .call n_impl_nextTo [.a 47 4, .a 49 10, .t 50]⟩, ⟨some 12, none, .asg (.p 51)⟩])
 (.seq (.reg [⟨some 52, none, .faddr 0 (.t 6)⟩, ⟨some 53, none, .load false 1 (.a 52 6)⟩, ⟨some 54, none, .faddr 2 (.t 10)⟩, ⟨some 55, none, .load false 1 (.a 54 10)⟩, ⟨some 56, none, .mv (.p 12)⟩, ⟨some 57, none, .build [.int .i64 0, .int .i64 0, .int .i64 0] [(0, 1, .p 53), (1, 1, .p 55), (2, 1, .p 56)]⟩, ⟨some 58, none, .load true 12 (.t 4)⟩, ⟨some 59, none, .load true 3 (.t 5)⟩, ⟨some 60, none, .load true 4 (.t 10)⟩, ⟨some 61, none, .mv (.p 12)⟩, ⟨some 62, none, .mv (.p 3)⟩, ⟨some 63, none, .bin .gtr (.t 62) (.c (.int .i64 0))⟩, ⟨some 64, none, .call n_impl_zoneReason [.a 58 4, .a 59 5, .a 60 10, .t 61, .t 63]⟩, ⟨some 65, none, .bin .eql (.t 64) (.c (.int .i64 0))⟩, ⟨none, none, .store 3 (.t 8) (.t 57)⟩, ⟨some 9, none, .asg (.p 65)⟩])
 .ret))))))⟩
/-- laws.eqOrder -/
def a_laws_eqOrder : AFn := ⟨2, 21, [.tmp 4], (.seq (.reg [⟨some 2, none, .box (.t 0)⟩, ⟨some 3, none, .box (.t 1)⟩, ⟨some 4, none, .asg (.c (.bool false))⟩])
 (.seq (.seq (.reg [⟨some 5, none, .faddr 0 (.t 2)⟩, ⟨some 6, none, .load false 1 (.a 5 2)⟩, ⟨some 7, none, .faddr 0 (.t 3)⟩, ⟨some 8, none, .load false 1 (.a 7 3)⟩, ⟨some 9, none, .bin .neq (.a 6 2) (.a 8 3)⟩])
 (.cond (.t 9) (.seq (.reg [⟨some 4, none, .asg (.c (.bool false))⟩])
 .ret) .skip))
 (.seq (.seq (.reg [⟨some 10, none, .faddr 1 (.t 2)⟩, ⟨some 11, none, .load false 1 (.a 10 2)⟩, ⟨some 12, none, .faddr 1 (.t 3)⟩, ⟨some 13, none, .load false 1 (.a 12 3)⟩, ⟨some 14, none, .call n_laws_eqIntS [.a 11 2, .a 13 3]⟩, ⟨some 15, none, .un .not (.t 14)⟩])
 (.cond (.t 15) (.seq (.reg [⟨some 4, none, .asg (.c (.bool false))⟩])
 .ret) .skip))
 (.seq (.seq (.reg [⟨some 16, none, .faddr 2 (.t 2)⟩, ⟨some 17, none, .load false 1 (.a 16 2)⟩, ⟨some 18, none, .faddr 2 (.t 3)⟩, ⟨some 19, none, .load false 1 (.a 18 3)⟩, ⟨some 20, none, .bin .neq (.a 17 2) (.a 19 3)⟩])
 (.cond (.t 20) (.seq (.reg [⟨some 4, none, .asg (.c (.bool false))⟩])
 .ret) .skip))
 (.seq (.reg [⟨some 4, none, .asg (.c (.bool true))⟩])
 .ret)))))⟩
def b_spec_fDo_0 : AC := (.seq (.reg [⟨some 20, none, .bin .lss (.t 19) (.t 18)⟩])
 (.seq (.cond (.t 20) .skip (.exit 0))
 (.seq (.block 1 (.seq (.reg [⟨some 21, none, .iaddr 3 (.a 17 1) (.t 19)⟩, ⟨some 22, none, .load true 3 (.a 21 1)⟩, ⟨some 7, none, .alloc [.int .i64 0, .int .i64 0, .int .i64 0]⟩, ⟨none, none, .store 3 (.t 7) (.a 22 1)⟩])
 (.reg [⟨some 23, none, .faddr 2 (.t 5)⟩, ⟨some 24, none, .load false 1 (.a 23 5)⟩, ⟨some 25, none, .faddr 0 (.t 7)⟩, ⟨some 26, none, .load false 1 (.a 25 7)⟩, ⟨some 27, none, .faddr 2 (.t 7)⟩, ⟨some 28, none, .load false 1 (.a 27 7)⟩, ⟨some 29, none, .iaddr 4 (.a 24 5) (.a 26 7)⟩, ⟨some 30, none, .faddr 2 (.a 29 5)⟩, ⟨none, none, .store 1 (.a 30 5) (.p 28)⟩])))
 (.reg [⟨some 31, none, .bin .add (.t 19) (.c (.int .i64 1))⟩, ⟨some 19, none, .mv (.p 31)⟩]))))
/-- spec.fDo -/
def a_spec_fDo : AFn := ⟨2, 33, [.cell 4 3 true], (.seq (.reg [⟨some 2, none, .box (.t 0)⟩, ⟨some 4, none, .alloc [.int .i64 0, .int .i64 0, .list true 4 []]⟩])
 (.seq (.reg [⟨some 8, none, .faddr 0 (.t 2)⟩, ⟨some 9, none, .load false 1 (.a 8 2)⟩, ⟨some 10, none, .faddr 1 (.t 2)⟩, ⟨some 11, none, .load false 1 (.a 10 2)⟩, ⟨some 12, none, .bslice 4 0 [.int .i64 0, .int .i64 0, .int .i64 0, .int .i64 0] []⟩, ⟨some 13, none, .faddr 2 (.t 2)⟩, ⟨some 14, none, .load false 1 (.a 13 2)⟩, ⟨some 15, none, .append 4 (.t 12) (.p 14)⟩, ⟨some 16, none, .build [.int .i64 0, .int .i64 0, .list true 4 []] [(0, 1, .p 9), (1, 1, .p 11), (2, 1, .t 15)]⟩, ⟨some 5, none, .alloc [.int .i64 0, .int .i64 0, .list true 4 []]⟩, ⟨none, none, .store 3 (.t 5) (.t 16)⟩])
 (.seq (.seq (.reg [⟨some 17, none, .rf (.t 1)⟩, ⟨some 18, none, .len (.a 17 1)⟩, ⟨some 19, none, .mv (.c (.int .i64 0))⟩])
 (.block 0 (.loop [1, 4, 5, 17, 18, 19] [4, 5] b_spec_fDo_0)))
 (.seq (.reg [⟨some 32, none, .load true 3 (.t 5)⟩, ⟨none, none, .store 3 (.t 4) (.a 32 5)⟩])
 .ret))))⟩
/-- spec.oGood -/
def a_spec_oGood : AFn := ⟨3, 27, [.tmp 6], (.seq (.reg [⟨some 3, none, .box (.t 0)⟩, ⟨some 4, none, .box (.t 1)⟩, ⟨some 5, none, .box (.t 2)⟩, ⟨some 6, none, .asg (.c (.bool false))⟩])
 (.seq (.seq (.reg [⟨some 9, none, .load true 12 (.t 3)⟩, ⟨some 10, none, .load true 3 (.t 4)⟩, ⟨some 11, none, .call n_spec_sGood [.a 9 3, .a 10 4]⟩, ⟨some 12, none, .un .not (.t 11)⟩, ⟨some 13, none, .mv (.p 12)⟩, ⟨some 14, some (13, false), .load true 2 (.t 5)⟩, ⟨some 15, some (13, false), .call n_spec_oForm [.a 14 5]⟩, ⟨some 16, some (13, false), .un .not (.t 15)⟩, ⟨some 17, none, .pick (.t 13) (.c (.bool true)) (.t 16)⟩])
 (.cond (.t 17) (.seq (.reg [⟨some 6, none, .asg (.c (.bool false))⟩])
 .ret) .skip))
 (.seq (.reg [⟨some 19, none, .load true 12 (.t 3)⟩, ⟨some 20, none, .load true 3 (.t 4)⟩, ⟨some 21, none, .load true 2 (.t 5)⟩, ⟨some 22, none, .call n_spec_oFirst [.a 19 3, .a 20 4, .a 21 5]⟩, ⟨some 18, none, .mv (.t 22)⟩, ⟨some 23, none, .extract (.p 18) 0⟩, ⟨some 24, none, .extract (.p 18) 1⟩, ⟨some 7, none, .asg (.p 23)⟩, ⟨some 8, none, .asg (.p 24)⟩])
 (.seq (.reg [⟨some 25, none, .mv (.p 8)⟩, ⟨some 26, none, .bin .eql (.t 25) (.c (.int .i64 0))⟩, ⟨some 6, none, .asg (.p 26)⟩])
 .ret))))⟩
/-- impl.hasSheet -/
def a_impl_hasSheet : AFn := ⟨3, 16, [.tmp 6], (.seq (.reg [⟨some 3, none, .box (.t 0)⟩, ⟨some 4, none, .box (.t 1)⟩, ⟨some 5, none, .box (.t 2)⟩, ⟨some 6, none, .asg (.c (.bool false))⟩])
 (.seq (.reg [⟨some 7, none, .load true 12 (.t 3)⟩, ⟨some 8, none, .load true 3 (.t 4)⟩, ⟨some 9, none, .call n_impl_fits [.a 7 3, .a 8 4]⟩, ⟨some 10, none, .mv (.p 9)⟩, ⟨some 11, some (10, true), .load true 12 (.t 3)⟩, ⟨some 12, some (10, true), .load true 3 (.t 4)⟩, ⟨some 13, some (10, true), .load true 2 (.t 5)⟩, ⟨some 14, some (10, true), .call n_impl_goodSheet [.a 11 3, .a 12 4, .a 13 5]⟩, ⟨some 15, none, .pick (.t 10) (.t 14) (.c (.bool false))⟩, ⟨some 6, none, .asg (.p 15)⟩])
 .ret))⟩
def b_laws_szTerrainS_0 : AC := (.seq (.seq (.reg [⟨some 12, none, .mv (.p 5)⟩, ⟨some 13, none, .rf (.t 0)⟩, ⟨some 14, none, .len (.a 13 0)⟩, ⟨some 15, none, .bin .lss (.t 12) (.t 14)⟩])
 (.cond (.t 15) .skip (.exit 0)))
 (.seq (.block 1 (.seq (.reg [⟨some 18, none, .rf (.t 0)⟩, ⟨some 19, none, .mv (.p 5)⟩, ⟨some 20, none, .iaddr 5 (.a 18 0) (.t 19)⟩, ⟨some 21, none, .load true 5 (.a 20 0)⟩, ⟨some 22, none, .mv (.p 1)⟩, ⟨some 23, none, .call n_laws_szTerrain [.a 21 0, .t 22]⟩, ⟨some 1, none, .asg (.p 23)⟩])
 (.seq (.reg [⟨some 24, none, .mv (.p 1)⟩, ⟨some 25, none, .bin .lss (.t 24) (.c (.int .i64 0))⟩])
 (.cond (.t 25) (.seq (.reg [⟨some 4, none, .asg (.c (.int .i64 (-1)))⟩])
 .ret) .skip))))
 (.reg [⟨some 16, none, .mv (.p 5)⟩, ⟨some 17, none, .bin .add (.t 16) (.c (.int .i64 1))⟩, ⟨some 5, none, .asg (.p 17)⟩])))
/-- laws.szTerrainS -/
def a_laws_szTerrainS : AFn := ⟨2, 27, [.tmp 4], (.seq (.reg [⟨some 4, none, .asg (.c (.int .i64 0))⟩])
 (.seq (.reg [⟨some 6, none, .mv (.p 1)⟩, ⟨some 7, none, .rf (.t 0)⟩, ⟨some 8, none, .len (.a 7 0)⟩, ⟨some 9, none, .bin .sub (.t 6) (.t 8)⟩, ⟨some 1, none, .asg (.p 9)⟩])
 (.seq (.seq (.reg [⟨some 10, none, .mv (.p 1)⟩, ⟨some 11, none, .bin .lss (.t 10) (.c (.int .i64 0))⟩])
 (.cond (.t 11) (.seq (.reg [⟨some 4, none, .asg (.c (.int .i64 (-1)))⟩])
 .ret) .skip))
 (.seq (.seq (.reg [⟨some 5, none, .asg (.c (.int .i64 0))⟩])
 (.block 0 (.loop [0, 1, 5] [1, 4] b_laws_szTerrainS_0)))
 (.seq (.reg [⟨some 26, none, .mv (.p 1)⟩, ⟨some 4, none, .asg (.p 26)⟩])
 .ret)))))⟩
def b_laws_szKindS_0 : AC := (.seq (.seq (.reg [⟨some 12, none, .mv (.p 5)⟩, ⟨some 13, none, .rf (.t 0)⟩, ⟨some 14, none, .len (.a 13 0)⟩, ⟨some 15, none, .bin .lss (.t 12) (.t 14)⟩])
 (.cond (.t 15) .skip (.exit 0)))
 (.seq (.block 1 (.seq (.reg [⟨some 18, none, .rf (.t 0)⟩, ⟨some 19, none, .mv (.p 5)⟩, ⟨some 20, none, .iaddr 6 (.a 18 0) (.t 19)⟩, ⟨some 21, none, .load true 6 (.a 20 0)⟩, ⟨some 22, none, .mv (.p 1)⟩, ⟨some 23, none, .call n_laws_szKind [.a 21 0, .t 22]⟩, ⟨some 1, none, .asg (.p 23)⟩])
 (.seq (.reg [⟨some 24, none, .mv (.p 1)⟩, ⟨some 25, none, .bin .lss (.t 24) (.c (.int .i64 0))⟩])
 (.cond (.t 25) (.seq (.reg [⟨some 4, none, .asg (.c (.int .i64 (-1)))⟩])
 .ret) .skip))))
 (.reg [⟨some 16, none, .mv (.p 5)⟩, ⟨some 17, none, .bin .add (.t 16) (.c (.int .i64 1))⟩, ⟨some 5, none, .asg (.p 17)⟩])))
/-- laws.szKindS -/
def a_laws_szKindS : AFn := ⟨2, 27, [.tmp 4], (.seq (.reg [⟨some 4, none, .asg (.c (.int .i64 0))⟩])
 (.seq (.reg [⟨some 6, none, .mv (.p 1)⟩, ⟨some 7, none, .rf (.t 0)⟩, ⟨some 8, none, .len (.a 7 0)⟩, ⟨some 9, none, .bin .sub (.t 6) (.t 8)⟩, ⟨some 1, none, .asg (.p 9)⟩])
 (.seq (.seq (.reg [⟨some 10, none, .mv (.p 1)⟩, ⟨some 11, none, .bin .lss (.t 10) (.c (.int .i64 0))⟩])
 (.cond (.t 11) (.seq (.reg [⟨some 4, none, .asg (.c (.int .i64 (-1)))⟩])
 .ret) .skip))
 (.seq (.seq (.reg [⟨some 5, none, .asg (.c (.int .i64 0))⟩])
 (.block 0 (.loop [0, 1, 5] [1, 4] b_laws_szKindS_0)))
 (.seq (.reg [⟨some 26, none, .mv (.p 1)⟩, ⟨some 4, none, .asg (.p 26)⟩])
 .ret)))))⟩
/-- spec.bGood -/
def a_spec_bGood : AFn := ⟨1, 22, [.tmp 2], (.seq (.reg [⟨some 1, none, .box (.t 0)⟩, ⟨some 2, none, .asg (.c (.bool false))⟩])
 (.seq (.reg [⟨some 3, none, .faddr 0 (.t 1)⟩, ⟨some 4, none, .load true 7 (.a 3 1)⟩, ⟨some 5, none, .call n_spec_rGood [.a 4 1]⟩, ⟨some 6, none, .mv (.p 5)⟩, ⟨some 7, some (6, true), .faddr 7 (.t 1)⟩, ⟨some 8, some (6, true), .load true 5 (.a 7 1)⟩, ⟨some 9, some (6, true), .call n_spec_mGood [.a 8 1]⟩, ⟨some 10, none, .pick (.t 6) (.t 9) (.c (.bool false))⟩, ⟨some 11, none, .mv (.p 10)⟩, ⟨some 12, some (11, true), .faddr 7 (.t 1)⟩, ⟨some 13, some (11, true), .faddr 2 (.a 12 1)⟩, ⟨some 14, some (11, true), .load false 1 (.a 13 1)⟩, ⟨some 15, some (11, true), .faddr 0 (.t 1)⟩, ⟨some 16, some (11, true), .faddr 0 (.a 15 1)⟩, ⟨some 17, some (11, true), .load false 1 (.a 16 1)⟩, ⟨some 18, some (11, true), .len (.a 17 1)⟩, ⟨some 19, some (11, true), .bin .sub (.t 18) (.c (.int .i64 1))⟩, ⟨some 20, some (11, true), .call n_spec_l1All [.a 14 1, .c (.int .i64 0), .t 19]⟩, ⟨some 21, none, .pick (.t 11) (.t 20) (.c (.bool false))⟩, ⟨some 2, none, .asg (.p 21)⟩])
 .ret))⟩
/-- spec.sUnit -/
def a_spec_sUnit : AFn := ⟨2, 60, [.tmp 4], (.seq (.reg [⟨some 2, none, .box (.t 0)⟩, ⟨some 3, none, .box (.t 1)⟩, ⟨some 4, none, .asg (.c (.bool false))⟩])
 (.seq (.seq (.reg [⟨some 5, none, .faddr 0 (.t 3)⟩, ⟨some 6, none, .load false 1 (.a 5 3)⟩, ⟨some 7, none, .call n_spec_l1In [.a 6 3, .c (.int .i64 0), .c (.int .i64 1)]⟩, ⟨some 8, none, .un .not (.t 7)⟩, ⟨some 9, none, .mv (.p 8)⟩, ⟨some 10, some (9, false), .faddr 1 (.t 3)⟩, ⟨some 11, some (9, false), .load false 1 (.a 10 3)⟩, ⟨some 12, some (9, false), .faddr 0 (.t 2)⟩, ⟨some 13, some (9, false), .faddr 1 (.a 12 2)⟩, ⟨some 14, some (9, false), .load false 1 (.a 13 2)⟩, ⟨some 15, some (9, false), .len (.a 14 2)⟩, ⟨some 16, some (9, false), .bin .sub (.t 15) (.c (.int .i64 1))⟩, ⟨some 17, some (9, false), .call n_spec_l1In [.a 11 3, .c (.int .i64 0), .t 16]⟩, ⟨some 18, some (9, false), .un .not (.t 17)⟩, ⟨some 19, none, .pick (.t 9) (.c (.bool true)) (.t 18)⟩, ⟨some 20, none, .mv (.p 19)⟩, ⟨some 21, some (20, false), .faddr 3 (.t 3)⟩, ⟨some 22, some (20, false), .load false 1 (.a 21 3)⟩, ⟨some 23, some (20, false), .faddr 0 (.t 2)⟩, ⟨some 24, some (20, false), .faddr 1 (.a 23 2)⟩, ⟨some 25, some (20, false), .load false 1 (.a 24 2)⟩, ⟨some 26, some (20, false), .faddr 1 (.t 3)⟩, ⟨some 27, some (20, false), .load false 1 (.a 26 3)⟩, ⟨some 28, some (20, false), .iaddr 6 (.a 25 2) (.a 27 3)⟩, ⟨some 29, some (20, false), .faddr 3 (.a 28 2)⟩, ⟨some 30, some (20, false), .load false 1 (.a 29 2)⟩, ⟨some 31, some (20, false), .call n_spec_l1In [.a 22 3, .c (.int .i64 0), .a 30 2]⟩, ⟨some 32, some (20, false), .un .not (.t 31)⟩, ⟨some 33, none, .pick (.t 20) (.c (.bool true)) (.t 32)⟩])
 (.cond (.t 33) (.seq (.reg [⟨some 4, none, .asg (.c (.bool false))⟩])
 .ret) .skip))
 (.seq (.reg [⟨some 34, none, .faddr 2 (.t 3)⟩, ⟨some 35, none, .load false 1 (.a 34 3)⟩, ⟨some 36, none, .bin .eql (.a 35 3) (.c (.int .i64 (-1)))⟩, ⟨some 37, none, .mv (.p 36)⟩, ⟨some 38, some (37, false), .faddr 3 (.t 3)⟩, ⟨some 39, some (37, false), .load false 1 (.a 38 3)⟩, ⟨some 40, some (37, false), .bin .gtr (.a 39 3) (.c (.int .i64 0))⟩, ⟨some 41, some (37, false), .mv (.p 40)⟩, ⟨some 42, some (41, true), .faddr 2 (.t 3)⟩, ⟨some 43, some (41, true), .load false 1 (.a 42 3)⟩, ⟨some 44, some (41, true), .faddr 7 (.t 2)⟩, ⟨some 45, some (41, true), .load true 5 (.a 44 2)⟩, ⟨some 46, some (41, true), .call n_spec_mSize [.a 45 2]⟩, ⟨some 47, some (41, true), .bin .sub (.t 46) (.c (.int .i64 1))⟩, ⟨some 48, some (41, true), .call n_spec_l1In [.a 43 3, .c (.int .i64 0), .t 47]⟩, ⟨some 49, some (37, false), .pick (.t 41) (.t 48) (.c (.bool false))⟩, ⟨some 50, some (37, false), .mv (.p 49)⟩, ⟨some 51, some (50, true), .load true 12 (.t 2)⟩, ⟨some 52, some (50, true), .faddr 1 (.t 3)⟩, ⟨some 53, some (50, true), .load false 1 (.a 52 3)⟩, ⟨some 54, some (50, true), .faddr 2 (.t 3)⟩, ⟨some 55, some (50, true), .load false 1 (.a 54 3)⟩, ⟨some 56, some (50, true), .call n_spec_bCost [.a 51 2, .a 53 3, .a 55 3]⟩, ⟨some 57, some (50, true), .bin .gtr (.t 56) (.c (.int .i64 0))⟩, ⟨some 58, some (37, false), .pick (.t 50) (.t 57) (.c (.bool false))⟩, ⟨some 59, none, .pick (.t 37) (.c (.bool true)) (.t 58)⟩, ⟨some 4, none, .asg (.p 59)⟩])
 .ret)))⟩
def b_spec_sAt_0 : AC := (.seq (.reg [⟨some 14, none, .bin .lss (.t 13) (.t 12)⟩])
 (.seq (.cond (.t 14) .skip (.exit 0))
 (.seq (.block 1 (.seq (.reg [⟨some 15, none, .mv (.p 13)⟩, ⟨some 16, none, .iaddr 4 (.a 11 3) (.t 13)⟩, ⟨some 17, none, .load true 4 (.a 16 3)⟩, ⟨some 9, none, .alloc [.int .i64 0, .int .i64 0, .int .i64 0, .int .i64 0]⟩, ⟨some 8, none, .asg (.p 15)⟩, ⟨none, none, .store 4 (.t 9) (.a 17 3)⟩])
 (.seq (.reg [⟨some 18, none, .faddr 2 (.t 9)⟩, ⟨some 19, none, .load false 1 (.a 18 9)⟩, ⟨some 20, none, .mv (.p 1)⟩, ⟨some 21, none, .bin .eql (.a 19 9) (.t 20)⟩, ⟨some 22, none, .mv (.p 21)⟩, ⟨some 23, some (22, true), .faddr 0 (.t 9)⟩, ⟨some 24, some (22, true), .load false 1 (.a 23 9)⟩, ⟨some 25, some (22, true), .mv (.p 2)⟩, ⟨some 26, some (22, true), .bin .eql (.a 24 9) (.t 25)⟩, ⟨some 27, none, .pick (.t 22) (.t 26) (.c (.bool false))⟩])
 (.cond (.t 27) (.reg [⟨some 28, none, .rf (.t 7)⟩, ⟨some 29, none, .mv (.p 8)⟩, ⟨some 30, none, .bslice 1 1 [.int .i64 0] [(0, .p 29)]⟩, ⟨some 31, none, .append 1 (.a 28 7) (.t 30)⟩, ⟨some 7, none, .asg (.t 31)⟩]) .skip))))
 (.reg [⟨some 32, none, .bin .add (.t 13) (.c (.int .i64 1))⟩, ⟨some 13, none, .mv (.p 32)⟩]))))
/-- spec.sAt -/
def a_spec_sAt : AFn := ⟨3, 34, [.tmp 6], (.seq (.reg [⟨some 3, none, .box (.t 0)⟩, ⟨some 6, none, .asg (.c (.list true 1 []))⟩])
 (.seq (.reg [⟨some 7, none, .asg (.c (.list true 1 []))⟩])
 (.seq (.seq (.reg [⟨some 10, none, .faddr 2 (.t 3)⟩, ⟨some 11, none, .load false 1 (.a 10 3)⟩, ⟨some 12, none, .len (.a 11 3)⟩, ⟨some 13, none, .mv (.c (.int .i64 0))⟩])
 (.block 0 (.loop [1, 2, 3, 7, 11, 12, 13] [6, 7] b_spec_sAt_0)))
 (.seq (.reg [⟨some 33, none, .rf (.t 7)⟩, ⟨some 6, none, .asg (.a 33 7)⟩])
 .ret))))⟩
def b_spec_sOwner_0 : AC := (.seq (.reg [⟨some 11, none, .bin .lss (.t 10) (.t 9)⟩])
 (.seq (.cond (.t 11) .skip (.exit 0))
 (.seq (.block 1 (.seq (.reg [⟨some 12, none, .iaddr 4 (.a 8 2) (.t 10)⟩, ⟨some 13, none, .load true 4 (.a 12 2)⟩, ⟨some 6, none, .alloc [.int .i64 0, .int .i64 0, .int .i64 0, .int .i64 0]⟩, ⟨none, none, .store 4 (.t 6) (.a 13 2)⟩])
 (.seq (.reg [⟨some 14, none, .faddr 2 (.t 6)⟩, ⟨some 15, none, .load false 1 (.a 14 6)⟩, ⟨some 16, none, .mv (.p 1)⟩, ⟨some 17, none, .bin .eql (.a 15 6) (.t 16)⟩])
 (.cond (.t 17) (.seq (.reg [⟨some 18, none, .faddr 0 (.t 6)⟩, ⟨some 19, none, .load false 1 (.a 18 6)⟩, ⟨some 4, none, .asg (.p 19)⟩])
 .ret) .skip))))
 (.reg [⟨some 20, none, .bin .add (.t 10) (.c (.int .i64 1))⟩, ⟨some 10, none, .mv (.p 20)⟩]))))
/-- spec.sOwner -/
def a_spec_sOwner : AFn := ⟨2, 21, [.tmp 4], (.seq (.reg [⟨some 2, none, .box (.t 0)⟩, ⟨some 4, none, .asg (.c (.int .i64 0))⟩])
 (.seq (.seq (.reg [⟨some 7, none, .faddr 2 (.t 2)⟩, ⟨some 8, none, .load false 1 (.a 7 2)⟩, ⟨some 9, none, .len (.a 8 2)⟩, ⟨some 10, none, .mv (.c (.int .i64 0))⟩])
 (.block 0 (.loop [1, 2, 8, 9, 10] [4] b_spec_sOwner_0)))
 (.seq (.reg [⟨some 4, none, .asg (.c (.int .i64 (-1)))⟩])
 .ret)))⟩
def b_spec_aSide_0 : AC := (.seq (.seq (.reg [⟨some 11, none, .mv (.p 9)⟩, ⟨some 12, none, .bin .lss (.t 11) (.c (.int .i64 6))⟩])
 (.cond (.t 12) .skip (.exit 0)))
 (.seq (.block 1 (.seq (.reg [⟨some 15, none, .faddr 7 (.t 4)⟩, ⟨some 16, none, .load true 5 (.a 15 4)⟩, ⟨some 17, none, .mv (.p 2)⟩, ⟨some 18, none, .mv (.p 9)⟩, ⟨some 19, none, .call n_spec_mNext [.a 16 4, .t 17, .t 18]⟩, ⟨some 10, none, .asg (.p 19)⟩])
 (.seq (.reg [⟨some 20, none, .mv (.p 10)⟩, ⟨some 21, none, .bin .geq (.t 20) (.c (.int .i64 0))⟩, ⟨some 22, none, .mv (.p 21)⟩, ⟨some 23, some (22, true), .mv (.p 10)⟩, ⟨some 24, some (22, true), .faddr 2 (.t 5)⟩, ⟨some 25, some (22, true), .load false 1 (.a 24 5)⟩, ⟨some 26, some (22, true), .mv (.p 3)⟩, ⟨some 27, some (22, true), .iaddr 4 (.a 25 5) (.t 26)⟩, ⟨some 28, some (22, true), .faddr 2 (.a 27 5)⟩, ⟨some 29, some (22, true), .load false 1 (.a 28 5)⟩, ⟨some 30, some (22, true), .bin .eql (.t 23) (.a 29 5)⟩, ⟨some 31, none, .pick (.t 22) (.t 30) (.c (.bool false))⟩])
 (.cond (.t 31) (.seq (.reg [⟨some 32, none, .mv (.p 9)⟩, ⟨some 8, none, .asg (.p 32)⟩])
 .ret) .skip))))
 (.reg [⟨some 13, none, .mv (.p 9)⟩, ⟨some 14, none, .bin .add (.t 13) (.c (.int .i64 1))⟩, ⟨some 9, none, .asg (.p 14)⟩])))
/-- spec.aSide -/
def a_spec_aSide : AFn := ⟨4, 33, [.tmp 8], (.seq (.reg [⟨some 4, none, .box (.t 0)⟩, ⟨some 5, none, .box (.t 1)⟩, ⟨some 8, none, .asg (.c (.int .i64 0))⟩])
 (.seq (.seq (.reg [⟨some 9, none, .asg (.c (.int .i64 0))⟩])
 (.block 0 (.loop [2, 3, 4, 5, 9] [8] b_spec_aSide_0)))
 (.seq (.reg [⟨some 8, none, .asg (.c (.int .i64 (-1)))⟩])
 .ret)))⟩
def b_laws_toTerrainS_0 : AC := (.seq (.seq (.reg [⟨some 8, none, .mv (.p 4)⟩, ⟨some 9, none, .rf (.t 0)⟩, ⟨some 10, none, .len (.a 9 0)⟩, ⟨some 11, none, .bin .lss (.t 8) (.t 10)⟩])
 (.cond (.t 11) .skip (.exit 0)))
 (.seq (.block 1 (.reg [⟨some 14, none, .rf (.t 3)⟩, ⟨some 15, none, .mv (.p 4)⟩, ⟨some 16, none, .rf (.t 0)⟩, ⟨some 17, none, .mv (.p 4)⟩, ⟨some 18, none, .iaddr 5 (.a 16 0) (.t 17)⟩, ⟨some 19, none, .load true 5 (.a 18 0)⟩, ⟨some 20, none, .call n_laws_toTerrain [.a 19 0]⟩, ⟨some 21, none, .iaddr 5 (.a 14 3) (.t 15)⟩, ⟨none, none, .store 5 (.a 21 3) (.t 20)⟩]))
 (.reg [⟨some 12, none, .mv (.p 4)⟩, ⟨some 13, none, .bin .add (.t 12) (.c (.int .i64 1))⟩, ⟨some 4, none, .asg (.p 13)⟩])))
/-- laws.toTerrainS -/
def a_laws_toTerrainS : AFn := ⟨1, 23, [.tmp 2], (.seq (.reg [⟨some 2, none, .asg (.c (.list true 5 []))⟩])
 (.seq (.reg [⟨some 5, none, .rf (.t 0)⟩, ⟨some 6, none, .len (.a 5 0)⟩, ⟨some 7, none, .mslice 5 [.str ⟨#[]⟩, .list true 1 [], .int .i64 0, .int .i64 0, .bool false] (.t 6)⟩, ⟨some 3, none, .asg (.t 7)⟩])
 (.seq (.seq (.reg [⟨some 4, none, .asg (.c (.int .i64 0))⟩])
 (.block 0 (.loop [0, 3, 4] [2, 3] b_laws_toTerrainS_0)))
 (.seq (.reg [⟨some 22, none, .rf (.t 3)⟩, ⟨some 2, none, .asg (.a 22 3)⟩])
 .ret))))⟩
def b_laws_toKindS_0 : AC := (.seq (.seq (.reg [⟨some 8, none, .mv (.p 4)⟩, ⟨some 9, none, .rf (.t 0)⟩, ⟨some 10, none, .len (.a 9 0)⟩, ⟨some 11, none, .bin .lss (.t 8) (.t 10)⟩])
 (.cond (.t 11) .skip (.exit 0)))
 (.seq (.block 1 (.reg [⟨some 14, none, .rf (.t 3)⟩, ⟨some 15, none, .mv (.p 4)⟩, ⟨some 16, none, .rf (.t 0)⟩, ⟨some 17, none, .mv (.p 4)⟩, ⟨some 18, none, .iaddr 6 (.a 16 0) (.t 17)⟩, ⟨some 19, none, .load true 6 (.a 18 0)⟩, ⟨some 20, none, .call n_laws_toKind [.a 19 0]⟩, ⟨some 21, none, .iaddr 6 (.a 14 3) (.t 15)⟩, ⟨none, none, .store 6 (.a 21 3) (.t 20)⟩]))
 (.reg [⟨some 12, none, .mv (.p 4)⟩, ⟨some 13, none, .bin .add (.t 12) (.c (.int .i64 1))⟩, ⟨some 4, none, .asg (.p 13)⟩])))
/-- laws.toKindS -/
def a_laws_toKindS : AFn := ⟨1, 23, [.tmp 2], (.seq (.reg [⟨some 2, none, .asg (.c (.list true 6 []))⟩])
 (.seq (.reg [⟨some 5, none, .rf (.t 0)⟩, ⟨some 6, none, .len (.a 5 0)⟩, ⟨some 7, none, .mslice 6 [.str ⟨#[]⟩, .int .i64 0, .int .i64 0, .int .i64 0, .bool false, .int .i64 0] (.t 6)⟩, ⟨some 3, none, .asg (.t 7)⟩])
 (.seq (.seq (.reg [⟨some 4, none, .asg (.c (.int .i64 0))⟩])
 (.block 0 (.loop [0, 3, 4] [2, 3] b_laws_toKindS_0)))
 (.seq (.reg [⟨some 22, none, .rf (.t 3)⟩, ⟨some 2, none, .asg (.a 22 3)⟩])
 .ret))))⟩
/-- laws.toUnit -/
def a_laws_toUnit : AFn := ⟨1, 17, [.cell 2 4 true], (.seq (.reg [⟨some 1, none, .box (.t 0)⟩, ⟨some 2, none, .alloc [.int .i64 0, .int .i64 0, .int .i64 0, .int .i64 0]⟩])
 (.seq (.reg [⟨some 3, none, .alloc [.int .i64 0, .int .i64 0, .int .i64 0, .int .i64 0]⟩])
 (.seq (.reg [⟨some 4, none, .faddr 0 (.t 1)⟩, ⟨some 5, none, .load false 1 (.a 4 1)⟩, ⟨some 6, none, .faddr 0 (.t 3)⟩, ⟨none, none, .store 1 (.a 6 3) (.p 5)⟩])
 (.seq (.reg [⟨some 7, none, .faddr 1 (.t 1)⟩, ⟨some 8, none, .load false 1 (.a 7 1)⟩, ⟨some 9, none, .faddr 1 (.t 3)⟩, ⟨none, none, .store 1 (.a 9 3) (.p 8)⟩])
 (.seq (.reg [⟨some 10, none, .faddr 2 (.t 1)⟩, ⟨some 11, none, .load false 1 (.a 10 1)⟩, ⟨some 12, none, .faddr 2 (.t 3)⟩, ⟨none, none, .store 1 (.a 12 3) (.p 11)⟩])
 (.seq (.reg [⟨some 13, none, .faddr 3 (.t 1)⟩, ⟨some 14, none, .load false 1 (.a 13 1)⟩, ⟨some 15, none, .faddr 3 (.t 3)⟩, ⟨none, none, .store 1 (.a 15 3) (.p 14)⟩])
 (.seq (.reg [⟨some 16, none, .load true 4 (.t 3)⟩, ⟨none, none, .store 4 (.t 2) (.a 16 3)⟩])
 .ret)))))))⟩
/-- impl.IsBoard -/
def a_impl_IsBoard : AFn := ⟨1, 19, [.tmp 2], (.seq (.reg [⟨some 1, none, .box (.t 0)⟩, ⟨some 2, none, .asg (.c (.bool false))⟩])
 (.seq (.seq (.reg [⟨some 3, none, .faddr 0 (.t 1)⟩, ⟨some 4, none, .load true 7 (.a 3 1)⟩, ⟨some 5, none, .call n_impl_IsRules [.a 4 1]⟩, ⟨some 6, none, .un .not (.t 5)⟩, ⟨some 7, none, .mv (.p 6)⟩, ⟨some 8, some (7, false), .faddr 7 (.t 1)⟩, ⟨some 9, some (7, false), .load true 5 (.a 8 1)⟩, ⟨some 10, some (7, false), .call n_impl_IsMap [.a 9 1]⟩, ⟨some 11, some (7, false), .un .not (.t 10)⟩, ⟨some 12, none, .pick (.t 7) (.c (.bool true)) (.t 11)⟩])
 (.cond (.t 12) (.seq (.reg [⟨some 2, none, .asg (.c (.bool false))⟩])
 .ret) .skip))
 (.seq (.reg [⟨some 13, none, .faddr 7 (.t 1)⟩, ⟨some 14, none, .faddr 2 (.a 13 1)⟩, ⟨some 15, none, .load false 1 (.a 14 1)⟩, ⟨some 16, none, .mkf n_impl_IsBoard_1 [.t 1]⟩, ⟨some 17, none, .call n_slices_ContainsFunc_int_int [.a 15 1, .t 16]⟩, ⟨some 18, none, .un .not (.t 17)⟩, ⟨some 2, none, .asg (.p 18)⟩])
 .ret)))⟩
def b_impl_goodState_0 : AC := (.seq (.reg [⟨some 34, none, .bin .lss (.t 33) (.t 32)⟩])
 (.seq (.cond (.t 34) .skip (.exit 0))
 (.seq (.block 1 (.seq (.reg [⟨some 35, none, .iaddr 4 (.a 31 3) (.t 33)⟩, ⟨some 36, none, .load true 4 (.a 35 3)⟩, ⟨some 7, none, .alloc [.int .i64 0, .int .i64 0, .int .i64 0, .int .i64 0]⟩, ⟨none, none, .store 4 (.t 7) (.a 36 3)⟩])
 (.seq (.seq (.reg [⟨some 37, none, .load true 12 (.t 2)⟩, ⟨some 38, none, .load true 4 (.t 7)⟩, ⟨some 39, none, .call n_impl_goodUnit [.a 37 2, .a 38 7]⟩, ⟨some 40, none, .un .not (.t 39)⟩])
 (.cond (.t 40) (.seq (.reg [⟨some 4, none, .asg (.c (.bool false))⟩])
 .ret) .skip))
 (.seq (.seq (.reg [⟨some 41, none, .faddr 2 (.t 7)⟩, ⟨some 42, none, .load false 1 (.a 41 7)⟩, ⟨some 43, none, .bin .lss (.a 42 7) (.c (.int .i64 0))⟩])
 (.cond (.t 43) (.exit 1) .skip))
 (.seq (.reg [⟨some 44, none, .rf (.t 5)⟩, ⟨some 45, none, .faddr 2 (.t 7)⟩, ⟨some 46, none, .load false 1 (.a 45 7)⟩, ⟨some 47, none, .faddr 0 (.t 7)⟩, ⟨some 48, none, .load false 1 (.a 47 7)⟩, ⟨some 49, none, .iaddr 2 (.a 44 5) (.a 46 7)⟩, ⟨some 50, none, .aaddr 2 1 (.a 49 5) (.a 48 7)⟩, ⟨some 51, none, .load false 1 (.a 50 5)⟩, ⟨some 52, none, .bin .add (.a 51 5) (.c (.int .i64 1))⟩, ⟨some 53, none, .iaddr 2 (.a 44 5) (.a 46 7)⟩, ⟨some 54, none, .aaddr 2 1 (.a 53 5) (.a 48 7)⟩, ⟨none, none, .store 1 (.a 54 5) (.p 52)⟩])
 (.seq (.reg [⟨some 55, none, .rf (.t 5)⟩, ⟨some 56, none, .faddr 2 (.t 7)⟩, ⟨some 57, none, .load false 1 (.a 56 7)⟩, ⟨some 58, none, .faddr 0 (.t 7)⟩, ⟨some 59, none, .load false 1 (.a 58 7)⟩, ⟨some 60, none, .bin .sub (.c (.int .i64 1)) (.a 59 7)⟩, ⟨some 61, none, .iaddr 2 (.a 55 5) (.a 57 7)⟩, ⟨some 62, none, .aaddr 2 1 (.a 61 5) (.t 60)⟩, ⟨some 63, none, .load false 1 (.a 62 5)⟩, ⟨some 64, none, .bin .gtr (.a 63 5) (.c (.int .i64 0))⟩, ⟨some 65, none, .mv (.p 64)⟩, ⟨some 66, some (65, false), .rf (.t 5)⟩, ⟨some 67, some (65, false), .faddr 2 (.t 7)⟩, ⟨some 68, some (65, false), .load false 1 (.a 67 7)⟩, ⟨some 69, some (65, false), .faddr 0 (.t 7)⟩, ⟨some 70, some (65, false), .load false 1 (.a 69 7)⟩, ⟨some 71, some (65, false), .iaddr 2 (.a 66 5) (.a 68 7)⟩, ⟨some 72, some (65, false), .aaddr 2 1 (.a 71 5) (.a 70 7)⟩, ⟨some 73, some (65, false), .load false 1 (.a 72 5)⟩, ⟨some 74, some (65, false), .faddr 0 (.t 2)⟩, ⟨some 75, some (65, false), .faddr 2 (.a 74 2)⟩, ⟨some 76, some (65, false), .load false 1 (.a 75 2)⟩, ⟨some 77, some (65, false), .bin .gtr (.a 73 5) (.a 76 2)⟩, ⟨some 78, none, .pick (.t 65) (.c (.bool true)) (.t 77)⟩])
 (.cond (.t 78) (.seq (.reg [⟨some 4, none, .asg (.c (.bool false))⟩])
 .ret) .skip)))))))
 (.reg [⟨some 79, none, .bin .add (.t 33) (.c (.int .i64 1))⟩, ⟨some 33, none, .mv (.p 79)⟩]))))
/-- impl.goodState -/
def a_impl_goodState : AFn := ⟨2, 80, [.tmp 4], (.seq (.reg [⟨some 2, none, .box (.t 0)⟩, ⟨some 3, none, .box (.t 1)⟩, ⟨some 4, none, .asg (.c (.bool false))⟩])
 (.seq (.seq (.reg [⟨some 8, none, .faddr 0 (.t 3)⟩, ⟨some 9, none, .load false 1 (.a 8 3)⟩, ⟨some 10, none, .faddr 0 (.t 2)⟩, ⟨some 11, none, .faddr 6 (.a 10 2)⟩, ⟨some 12, none, .load false 1 (.a 11 2)⟩, ⟨some 13, none, .call n_impl_inRange [.a 9 3, .c (.int .i64 0), .a 12 2]⟩, ⟨some 14, none, .un .not (.t 13)⟩, ⟨some 15, none, .mv (.p 14)⟩, ⟨some 16, some (15, false), .faddr 1 (.t 3)⟩, ⟨some 17, some (15, false), .load false 1 (.a 16 3)⟩, ⟨some 18, some (15, false), .call n_impl_inRange [.a 17 3, .c (.int .i64 0), .c (.int .i64 2)]⟩, ⟨some 19, some (15, false), .un .not (.t 18)⟩, ⟨some 20, none, .pick (.t 15) (.c (.bool true)) (.t 19)⟩, ⟨some 21, none, .mv (.p 20)⟩, ⟨some 22, some (21, false), .faddr 2 (.t 3)⟩, ⟨some 23, some (21, false), .load false 1 (.a 22 3)⟩, ⟨some 24, some (21, false), .len (.a 23 3)⟩, ⟨some 25, some (21, false), .bin .gtr (.t 24) (.c (.int .i64 12))⟩, ⟨some 26, none, .pick (.t 21) (.c (.bool true)) (.t 25)⟩])
 (.cond (.t 26) (.seq (.reg [⟨some 4, none, .asg (.c (.bool false))⟩])
 .ret) .skip))
 (.seq (.reg [⟨some 27, none, .load true 12 (.t 2)⟩, ⟨some 28, none, .call n_impl_sizeOf [.a 27 2]⟩, ⟨some 29, none, .mslice 2 [.int .i64 0, .int .i64 0] (.t 28)⟩, ⟨some 5, none, .asg (.t 29)⟩])
 (.seq (.seq (.reg [⟨some 30, none, .faddr 2 (.t 3)⟩, ⟨some 31, none, .load false 1 (.a 30 3)⟩, ⟨some 32, none, .len (.a 31 3)⟩, ⟨some 33, none, .mv (.c (.int .i64 0))⟩])
 (.block 0 (.loop [2, 3, 5, 31, 32, 33] [4] b_impl_goodState_0)))
 (.seq (.reg [⟨some 4, none, .asg (.c (.bool true))⟩])
 .ret)))))⟩
def b_impl_unitsAt_0 : AC := (.seq (.reg [⟨some 13, none, .bin .lss (.t 12) (.t 11)⟩])
 (.seq (.cond (.t 13) .skip (.exit 0))
 (.seq (.block 1 (.seq (.reg [⟨some 14, none, .mv (.p 12)⟩, ⟨some 15, none, .iaddr 4 (.a 10 2) (.t 12)⟩, ⟨some 16, none, .load true 4 (.a 15 2)⟩, ⟨some 7, none, .alloc [.int .i64 0, .int .i64 0, .int .i64 0, .int .i64 0]⟩, ⟨some 6, none, .asg (.p 14)⟩, ⟨none, none, .store 4 (.t 7) (.a 16 2)⟩])
 (.seq (.reg [⟨some 17, none, .faddr 2 (.t 7)⟩, ⟨some 18, none, .load false 1 (.a 17 7)⟩, ⟨some 19, none, .mv (.p 1)⟩, ⟨some 20, none, .bin .eql (.a 18 7) (.t 19)⟩])
 (.cond (.t 20) (.reg [⟨some 21, none, .rf (.t 5)⟩, ⟨some 22, none, .mv (.p 6)⟩, ⟨some 23, none, .bslice 1 1 [.int .i64 0] [(0, .p 22)]⟩, ⟨some 24, none, .append 1 (.a 21 5) (.t 23)⟩, ⟨some 5, none, .asg (.t 24)⟩]) .skip))))
 (.reg [⟨some 25, none, .bin .add (.t 12) (.c (.int .i64 1))⟩, ⟨some 12, none, .mv (.p 25)⟩]))))
/-- impl.unitsAt -/
def a_impl_unitsAt : AFn := ⟨2, 27, [.tmp 4], (.seq (.reg [⟨some 2, none, .box (.t 0)⟩, ⟨some 4, none, .asg (.c (.list true 1 []))⟩])
 (.seq (.reg [⟨some 8, none, .bslice 1 0 [.int .i64 0] []⟩, ⟨some 5, none, .asg (.t 8)⟩])
 (.seq (.seq (.reg [⟨some 9, none, .faddr 2 (.t 2)⟩, ⟨some 10, none, .load false 1 (.a 9 2)⟩, ⟨some 11, none, .len (.a 10 2)⟩, ⟨some 12, none, .mv (.c (.int .i64 0))⟩])
 (.block 0 (.loop [1, 2, 5, 10, 11, 12] [4, 5] b_impl_unitsAt_0)))
 (.seq (.reg [⟨some 26, none, .rf (.t 5)⟩, ⟨some 4, none, .asg (.a 26 5)⟩])
 .ret))))⟩
def b_impl_ownerOf_0 : AC := (.seq (.reg [⟨some 11, none, .bin .lss (.t 10) (.t 9)⟩])
 (.seq (.cond (.t 11) .skip (.exit 0))
 (.seq (.block 1 (.seq (.reg [⟨some 12, none, .iaddr 4 (.a 8 2) (.t 10)⟩, ⟨some 13, none, .load true 4 (.a 12 2)⟩, ⟨some 6, none, .alloc [.int .i64 0, .int .i64 0, .int .i64 0, .int .i64 0]⟩, ⟨none, none, .store 4 (.t 6) (.a 13 2)⟩])
 (.seq (.reg [⟨some 14, none, .faddr 2 (.t 6)⟩, ⟨some 15, none, .load false 1 (.a 14 6)⟩, ⟨some 16, none, .mv (.p 1)⟩, ⟨some 17, none, .bin .eql (.a 15 6) (.t 16)⟩])
 (.cond (.t 17) (.seq (.reg [⟨some 18, none, .faddr 0 (.t 6)⟩, ⟨some 19, none, .load false 1 (.a 18 6)⟩, ⟨some 4, none, .asg (.p 19)⟩])
 .ret) .skip))))
 (.reg [⟨some 20, none, .bin .add (.t 10) (.c (.int .i64 1))⟩, ⟨some 10, none, .mv (.p 20)⟩]))))
/-- impl.ownerOf -/
def a_impl_ownerOf : AFn := ⟨2, 21, [.tmp 4], (.seq (.reg [⟨some 2, none, .box (.t 0)⟩, ⟨some 4, none, .asg (.c (.int .i64 0))⟩])
 (.seq (.seq (.reg [⟨some 7, none, .faddr 2 (.t 2)⟩, ⟨some 8, none, .load false 1 (.a 7 2)⟩, ⟨some 9, none, .len (.a 8 2)⟩, ⟨some 10, none, .mv (.c (.int .i64 0))⟩])
 (.block 0 (.loop [1, 2, 8, 9, 10] [4] b_impl_ownerOf_0)))
 (.seq (.reg [⟨some 4, none, .asg (.c (.int .i64 (-1)))⟩])
 .ret)))⟩
/-- impl.isNear -/
def a_impl_isNear : AFn := ⟨3, 19, [.tmp 6], (.seq (.reg [⟨some 3, none, .box (.t 0)⟩, ⟨some 4, none, .box (.t 1)⟩, ⟨some 6, none, .asg (.c (.bool false))⟩])
 (.seq (.reg [⟨some 7, none, .faddr 2 (.t 4)⟩, ⟨some 8, none, .load false 1 (.a 7 4)⟩, ⟨some 9, none, .bin .geq (.a 8 4) (.c (.int .i64 0))⟩, ⟨some 10, none, .mv (.p 9)⟩, ⟨some 11, some (10, true), .faddr 7 (.t 3)⟩, ⟨some 12, some (10, true), .load true 5 (.a 11 3)⟩, ⟨some 13, some (10, true), .mv (.p 2)⟩, ⟨some 14, some (10, true), .faddr 2 (.t 4)⟩, ⟨some 15, some (10, true), .load false 1 (.a 14 4)⟩, ⟨some 16, some (10, true), .call n_impl_directionOn [.a 12 3, .t 13, .a 15 4]⟩, ⟨some 17, some (10, true), .bin .geq (.t 16) (.c (.int .i64 0))⟩, ⟨some 18, none, .pick (.t 10) (.t 17) (.c (.bool false))⟩, ⟨some 6, none, .asg (.p 18)⟩])
 .ret))⟩
def b_laws_eqTerrainS_0 : AC := (.seq (.seq (.reg [⟨some 11, none, .mv (.p 5)⟩, ⟨some 12, none, .rf (.t 0)⟩, ⟨some 13, none, .len (.a 12 0)⟩, ⟨some 14, none, .bin .lss (.t 11) (.t 13)⟩])
 (.cond (.t 14) .skip (.exit 0)))
 (.seq (.block 1 (.seq (.reg [⟨some 17, none, .rf (.t 0)⟩, ⟨some 18, none, .mv (.p 5)⟩, ⟨some 19, none, .iaddr 5 (.a 17 0) (.t 18)⟩, ⟨some 20, none, .load true 5 (.a 19 0)⟩, ⟨some 21, none, .rf (.t 1)⟩, ⟨some 22, none, .mv (.p 5)⟩, ⟨some 23, none, .iaddr 5 (.a 21 1) (.t 22)⟩, ⟨some 24, none, .load true 5 (.a 23 1)⟩, ⟨some 25, none, .call n_laws_eqTerrain [.a 20 0, .a 24 1]⟩, ⟨some 26, none, .un .not (.t 25)⟩])
 (.cond (.t 26) (.seq (.reg [⟨some 4, none, .asg (.c (.bool false))⟩])
 .ret) .skip)))
 (.reg [⟨some 15, none, .mv (.p 5)⟩, ⟨some 16, none, .bin .add (.t 15) (.c (.int .i64 1))⟩, ⟨some 5, none, .asg (.p 16)⟩])))
/-- laws.eqTerrainS -/
def a_laws_eqTerrainS : AFn := ⟨2, 27, [.tmp 4], (.seq (.reg [⟨some 4, none, .asg (.c (.bool false))⟩])
 (.seq (.seq (.reg [⟨some 6, none, .rf (.t 0)⟩, ⟨some 7, none, .len (.a 6 0)⟩, ⟨some 8, none, .rf (.t 1)⟩, ⟨some 9, none, .len (.a 8 1)⟩, ⟨some 10, none, .bin .neq (.t 7) (.t 9)⟩])
 (.cond (.t 10) (.seq (.reg [⟨some 4, none, .asg (.c (.bool false))⟩])
 .ret) .skip))
 (.seq (.seq (.reg [⟨some 5, none, .asg (.c (.int .i64 0))⟩])
 (.block 0 (.loop [0, 1, 5] [4] b_laws_eqTerrainS_0)))
 (.seq (.reg [⟨some 4, none, .asg (.c (.bool true))⟩])
 .ret))))⟩
def b_laws_eqKindS_0 : AC := (.seq (.seq (.reg [⟨some 11, none, .mv (.p 5)⟩, ⟨some 12, none, .rf (.t 0)⟩, ⟨some 13, none, .len (.a 12 0)⟩, ⟨some 14, none, .bin .lss (.t 11) (.t 13)⟩])
 (.cond (.t 14) .skip (.exit 0)))
 (.seq (.block 1 (.seq (.reg [⟨some 17, none, .rf (.t 0)⟩, ⟨some 18, none, .mv (.p 5)⟩, ⟨some 19, none, .iaddr 6 (.a 17 0) (.t 18)⟩, ⟨some 20, none, .load true 6 (.a 19 0)⟩, ⟨some 21, none, .rf (.t 1)⟩, ⟨some 22, none, .mv (.p 5)⟩, ⟨some 23, none, .iaddr 6 (.a 21 1) (.t 22)⟩, ⟨some 24, none, .load true 6 (.a 23 1)⟩, ⟨some 25, none, .call n_laws_eqKind [.a 20 0, .a 24 1]⟩, ⟨some 26, none, .un .not (.t 25)⟩])
 (.cond (.t 26) (.seq (.reg [⟨some 4, none, .asg (.c (.bool false))⟩])
 .ret) .skip)))
 (.reg [⟨some 15, none, .mv (.p 5)⟩, ⟨some 16, none, .bin .add (.t 15) (.c (.int .i64 1))⟩, ⟨some 5, none, .asg (.p 16)⟩])))
/-- laws.eqKindS -/
def a_laws_eqKindS : AFn := ⟨2, 27, [.tmp 4], (.seq (.reg [⟨some 4, none, .asg (.c (.bool false))⟩])
 (.seq (.seq (.reg [⟨some 6, none, .rf (.t 0)⟩, ⟨some 7, none, .len (.a 6 0)⟩, ⟨some 8, none, .rf (.t 1)⟩, ⟨some 9, none, .len (.a 8 1)⟩, ⟨some 10, none, .bin .neq (.t 7) (.t 9)⟩])
 (.cond (.t 10) (.seq (.reg [⟨some 4, none, .asg (.c (.bool false))⟩])
 .ret) .skip))
 (.seq (.seq (.reg [⟨some 5, none, .asg (.c (.int .i64 0))⟩])
 (.block 0 (.loop [0, 1, 5] [4] b_laws_eqKindS_0)))
 (.seq (.reg [⟨some 4, none, .asg (.c (.bool true))⟩])
 .ret))))⟩
/-- laws.eqUnit -/
def a_laws_eqUnit : AFn := ⟨2, 25, [.tmp 4], (.seq (.reg [⟨some 2, none, .box (.t 0)⟩, ⟨some 3, none, .box (.t 1)⟩, ⟨some 4, none, .asg (.c (.bool false))⟩])
 (.seq (.seq (.reg [⟨some 5, none, .faddr 0 (.t 2)⟩, ⟨some 6, none, .load false 1 (.a 5 2)⟩, ⟨some 7, none, .faddr 0 (.t 3)⟩, ⟨some 8, none, .load false 1 (.a 7 3)⟩, ⟨some 9, none, .bin .neq (.a 6 2) (.a 8 3)⟩])
 (.cond (.t 9) (.seq (.reg [⟨some 4, none, .asg (.c (.bool false))⟩])
 .ret) .skip))
 (.seq (.seq (.reg [⟨some 10, none, .faddr 1 (.t 2)⟩, ⟨some 11, none, .load false 1 (.a 10 2)⟩, ⟨some 12, none, .faddr 1 (.t 3)⟩, ⟨some 13, none, .load false 1 (.a 12 3)⟩, ⟨some 14, none, .bin .neq (.a 11 2) (.a 13 3)⟩])
 (.cond (.t 14) (.seq (.reg [⟨some 4, none, .asg (.c (.bool false))⟩])
 .ret) .skip))
 (.seq (.seq (.reg [⟨some 15, none, .faddr 2 (.t 2)⟩, ⟨some 16, none, .load false 1 (.a 15 2)⟩, ⟨some 17, none, .faddr 2 (.t 3)⟩, ⟨some 18, none, .load false 1 (.a 17 3)⟩, ⟨some 19, none, .bin .neq (.a 16 2) (.a 18 3)⟩])
 (.cond (.t 19) (.seq (.reg [⟨some 4, none, .asg (.c (.bool false))⟩])
 .ret) .skip))
 (.seq (.seq (.reg [⟨some 20, none, .faddr 3 (.t 2)⟩, ⟨some 21, none, .load false 1 (.a 20 2)⟩, ⟨some 22, none, .faddr 3 (.t 3)⟩, ⟨some 23, none, .load false 1 (.a 22 3)⟩, ⟨some 24, none, .bin .neq (.a 21 2) (.a 23 3)⟩])
 (.cond (.t 24) (.seq (.reg [⟨some 4, none, .asg (.c (.bool false))⟩])
 .ret) .skip))
 (.seq (.reg [⟨some 4, none, .asg (.c (.bool true))⟩])
 .ret))))))⟩
def b_laws_markTerrainS_0 : AC := (.seq (.seq (.reg [⟨some 6, none, .mv (.p 5)⟩, ⟨some 7, none, .rf (.t 0)⟩, ⟨some 8, none, .len (.a 7 0)⟩, ⟨some 9, none, .bin .lss (.t 6) (.t 8)⟩])
 (.cond (.t 9) .skip (.exit 0)))
 (.seq (.block 1 (.seq (.reg [⟨some 12, none, .rf (.t 0)⟩, ⟨some 13, none, .mv (.p 5)⟩, ⟨some 14, none, .mv (.p 1)⟩, ⟨some 15, none, .call n_laws_markText [.t 14]⟩, ⟨some 16, none, .iaddr 5 (.a 12 0) (.t 13)⟩, ⟨some 17, none, .faddr 0 (.a 16 0)⟩, ⟨none, none, .store 1 (.a 17 0) (.p 15)⟩])
 (.seq (.reg [⟨some 18, none, .mv (.p 1)⟩, ⟨some 19, none, .bin .add (.t 18) (.c (.int .i64 1))⟩, ⟨some 1, none, .asg (.p 19)⟩])
 (.seq (.reg [⟨some 20, none, .rf (.t 0)⟩, ⟨some 21, none, .mv (.p 5)⟩, ⟨some 22, none, .iaddr 5 (.a 20 0) (.t 21)⟩, ⟨some 23, none, .faddr 1 (.a 22 0)⟩, ⟨some 24, none, .load false 1 (.a 23 0)⟩, ⟨some 25, none, .mv (.p 1)⟩, ⟨some 26, none, .calli n_laws_markIntS 24 0 [.t 25]⟩, ⟨some 1, none, .asg (.p 26)⟩])
 (.seq (.reg [⟨some 27, none, .rf (.t 0)⟩, ⟨some 28, none, .mv (.p 5)⟩, ⟨some 29, none, .mv (.p 1)⟩, ⟨some 30, none, .iaddr 5 (.a 27 0) (.t 28)⟩, ⟨some 31, none, .faddr 2 (.a 30 0)⟩, ⟨none, none, .store 1 (.a 31 0) (.p 29)⟩])
 (.seq (.reg [⟨some 32, none, .mv (.p 1)⟩, ⟨some 33, none, .bin .add (.t 32) (.c (.int .i64 1))⟩, ⟨some 1, none, .asg (.p 33)⟩])
 (.seq (.reg [⟨some 34, none, .rf (.t 0)⟩, ⟨some 35, none, .mv (.p 5)⟩, ⟨some 36, none, .mv (.p 1)⟩, ⟨some 37, none, .iaddr 5 (.a 34 0) (.t 35)⟩, ⟨some 38, none, .faddr 3 (.a 37 0)⟩, ⟨none, none, .store 1 (.a 38 0) (.p 36)⟩])
 (.seq (.reg [⟨some 39, none, .mv (.p 1)⟩, ⟨some 40, none, .bin .add (.t 39) (.c (.int .i64 1))⟩, ⟨some 1, none, .asg (.p 40)⟩])
 (.seq (.reg [⟨some 41, none, .rf (.t 0)⟩, ⟨some 42, none, .mv (.p 5)⟩, ⟨some 43, none, .mv (.p 1)⟩, ⟨some 44, none, .bin .rem (.t 43) (.c (.int .i64 3))⟩, ⟨some 45, none, .bin .eql (.t 44) (.c (.int .i64 0))⟩, ⟨some 46, none, .iaddr 5 (.a 41 0) (.t 42)⟩, ⟨some 47, none, .faddr 4 (.a 46 0)⟩, ⟨none, none, .store 1 (.a 47 0) (.p 45)⟩])
 (.reg [⟨some 48, none, .mv (.p 1)⟩, ⟨some 49, none, .bin .add (.t 48) (.c (.int .i64 1))⟩, ⟨some 1, none, .asg (.p 49)⟩]))))))))))
 (.reg [⟨some 10, none, .mv (.p 5)⟩, ⟨some 11, none, .bin .add (.t 10) (.c (.int .i64 1))⟩, ⟨some 5, none, .asg (.p 11)⟩])))
/-- laws.markTerrainS -/
def a_laws_markTerrainS : AFn := ⟨2, 51, [.tmp 4, .io 0], (.seq (.reg [⟨some 4, none, .asg (.c (.int .i64 0))⟩])
 (.seq (.seq (.reg [⟨some 5, none, .asg (.c (.int .i64 0))⟩])
 (.block 0 (.loop [0, 1, 5] [0, 1, 4] b_laws_markTerrainS_0)))
 (.seq (.reg [⟨some 50, none, .mv (.p 1)⟩, ⟨some 4, none, .asg (.p 50)⟩])
 .ret)))⟩
def b_laws_markKindS_0 : AC := (.seq (.seq (.reg [⟨some 6, none, .mv (.p 5)⟩, ⟨some 7, none, .rf (.t 0)⟩, ⟨some 8, none, .len (.a 7 0)⟩, ⟨some 9, none, .bin .lss (.t 6) (.t 8)⟩])
 (.cond (.t 9) .skip (.exit 0)))
 (.seq (.block 1 (.seq (.reg [⟨some 12, none, .rf (.t 0)⟩, ⟨some 13, none, .mv (.p 5)⟩, ⟨some 14, none, .mv (.p 1)⟩, ⟨some 15, none, .call n_laws_markText [.t 14]⟩, ⟨some 16, none, .iaddr 6 (.a 12 0) (.t 13)⟩, ⟨some 17, none, .faddr 0 (.a 16 0)⟩, ⟨none, none, .store 1 (.a 17 0) (.p 15)⟩])
 (.seq (.reg [⟨some 18, none, .mv (.p 1)⟩, ⟨some 19, none, .bin .add (.t 18) (.c (.int .i64 1))⟩, ⟨some 1, none, .asg (.p 19)⟩])
 (.seq (.reg [⟨some 20, none, .rf (.t 0)⟩, ⟨some 21, none, .mv (.p 5)⟩, ⟨some 22, none, .mv (.p 1)⟩, ⟨some 23, none, .iaddr 6 (.a 20 0) (.t 21)⟩, ⟨some 24, none, .faddr 1 (.a 23 0)⟩, ⟨none, none, .store 1 (.a 24 0) (.p 22)⟩])
 (.seq (.reg [⟨some 25, none, .mv (.p 1)⟩, ⟨some 26, none, .bin .add (.t 25) (.c (.int .i64 1))⟩, ⟨some 1, none, .asg (.p 26)⟩])
 (.seq (.reg [⟨some 27, none, .rf (.t 0)⟩, ⟨some 28, none, .mv (.p 5)⟩, ⟨some 29, none, .mv (.p 1)⟩, ⟨some 30, none, .iaddr 6 (.a 27 0) (.t 28)⟩, ⟨some 31, none, .faddr 2 (.a 30 0)⟩, ⟨none, none, .store 1 (.a 31 0) (.p 29)⟩])
 (.seq (.reg [⟨some 32, none, .mv (.p 1)⟩, ⟨some 33, none, .bin .add (.t 32) (.c (.int .i64 1))⟩, ⟨some 1, none, .asg (.p 33)⟩])
 (.seq (.reg [⟨some 34, none, .rf (.t 0)⟩, ⟨some 35, none, .mv (.p 5)⟩, ⟨some 36, none, .mv (.p 1)⟩, ⟨some 37, none, .iaddr 6 (.a 34 0) (.t 35)⟩, ⟨some 38, none, .faddr 3 (.a 37 0)⟩, ⟨none, none, .store 1 (.a 38 0) (.p 36)⟩])
 (.seq (.reg [⟨some 39, none, .mv (.p 1)⟩, ⟨some 40, none, .bin .add (.t 39) (.c (.int .i64 1))⟩, ⟨some 1, none, .asg (.p 40)⟩])
 (.seq (.reg [⟨some 41, none, .rf (.t 0)⟩, ⟨some 42, none, .mv (.p 5)⟩, ⟨some 43, none, .mv (.p 1)⟩, ⟨some 44, none, .bin .rem (.t 43) (.c (.int .i64 3))⟩, ⟨some 45, none, .bin .eql (.t 44) (.c (.int .i64 0))⟩, ⟨some 46, none, .iaddr 6 (.a 41 0) (.t 42)⟩, ⟨some 47, none, .faddr 4 (.a 46 0)⟩, ⟨none, none, .store 1 (.a 47 0) (.p 45)⟩])
 (.seq (.reg [⟨some 48, none, .mv (.p 1)⟩, ⟨some 49, none, .bin .add (.t 48) (.c (.int .i64 1))⟩, ⟨some 1, none, .asg (.p 49)⟩])
 (.seq (.reg [⟨some 50, none, .rf (.t 0)⟩, ⟨some 51, none, .mv (.p 5)⟩, ⟨some 52, none, .mv (.p 1)⟩, ⟨some 53, none, .iaddr 6 (.a 50 0) (.t 51)⟩, ⟨some 54, none, .faddr 5 (.a 53 0)⟩, ⟨none, none, .store 1 (.a 54 0) (.p 52)⟩])
 (.reg [⟨some 55, none, .mv (.p 1)⟩, ⟨some 56, none, .bin .add (.t 55) (.c (.int .i64 1))⟩, ⟨some 1, none, .asg (.p 56)⟩])))))))))))))
 (.reg [⟨some 10, none, .mv (.p 5)⟩, ⟨some 11, none, .bin .add (.t 10) (.c (.int .i64 1))⟩, ⟨some 5, none, .asg (.p 11)⟩])))
/-- laws.markKindS -/
def a_laws_markKindS : AFn := ⟨2, 58, [.tmp 4, .io 0], (.seq (.reg [⟨some 4, none, .asg (.c (.int .i64 0))⟩])
 (.seq (.seq (.reg [⟨some 5, none, .asg (.c (.int .i64 0))⟩])
 (.block 0 (.loop [0, 1, 5] [0, 1, 4] b_laws_markKindS_0)))
 (.seq (.reg [⟨some 57, none, .mv (.p 1)⟩, ⟨some 4, none, .asg (.p 57)⟩])
 .ret)))⟩
def b_spec_l1Rising_0 : AC := (.seq (.reg [⟨some 12, none, .bin .lss (.t 11) (.t 10)⟩])
 (.seq (.cond (.t 12) .skip (.exit 0))
 (.seq (.block 1 (.seq (.reg [⟨some 13, none, .mv (.p 11)⟩, ⟨some 14, none, .iaddr 1 (.a 9 0) (.t 11)⟩, ⟨some 15, none, .load false 1 (.a 14 0)⟩, ⟨some 7, none, .asg (.p 13)⟩, ⟨some 8, none, .asg (.p 15)⟩])
 (.seq (.reg [⟨some 16, none, .mv (.p 8)⟩, ⟨some 17, none, .mv (.p 1)⟩, ⟨some 18, none, .mv (.p 2)⟩, ⟨some 19, none, .call n_spec_l1In [.t 16, .t 17, .t 18]⟩, ⟨some 20, none, .un .not (.t 19)⟩, ⟨some 21, none, .mv (.p 20)⟩, ⟨some 22, some (21, false), .mv (.p 7)⟩, ⟨some 23, some (21, false), .bin .gtr (.t 22) (.c (.int .i64 0))⟩, ⟨some 24, some (21, false), .mv (.p 23)⟩, ⟨some 25, some (24, true), .rf (.t 0)⟩, ⟨some 26, some (24, true), .mv (.p 7)⟩, ⟨some 27, some (24, true), .bin .sub (.t 26) (.c (.int .i64 1))⟩, ⟨some 28, some (24, true), .iaddr 1 (.a 25 0) (.t 27)⟩, ⟨some 29, some (24, true), .load false 1 (.a 28 0)⟩, ⟨some 30, some (24, true), .mv (.p 8)⟩, ⟨some 31, some (24, true), .bin .geq (.a 29 0) (.t 30)⟩, ⟨some 32, some (21, false), .pick (.t 24) (.t 31) (.c (.bool false))⟩, ⟨some 33, none, .pick (.t 21) (.c (.bool true)) (.t 32)⟩])
 (.cond (.t 33) (.seq (.reg [⟨some 6, none, .asg (.c (.bool false))⟩])
 .ret) .skip))))
 (.reg [⟨some 34, none, .bin .add (.t 11) (.c (.int .i64 1))⟩, ⟨some 11, none, .mv (.p 34)⟩]))))
/-- spec.l1Rising -/
def a_spec_l1Rising : AFn := ⟨3, 35, [.tmp 6], (.seq (.reg [⟨some 6, none, .asg (.c (.bool false))⟩])
 (.seq (.seq (.reg [⟨some 9, none, .rf (.t 0)⟩, ⟨some 10, none, .len (.a 9 0)⟩, ⟨some 11, none, .mv (.c (.int .i64 0))⟩])
 (.block 0 (.loop [0, 1, 2, 9, 10, 11] [6] b_spec_l1Rising_0)))
 (.seq (.reg [⟨some 6, none, .asg (.c (.bool true))⟩])
 .ret)))⟩
def b_spec_gCan_0 : AC := (.seq (.seq (.reg [⟨some 16, none, .mv (.p 10)⟩, ⟨some 17, none, .bin .lss (.t 16) (.c (.int .i64 6))⟩])
 (.cond (.t 17) .skip (.exit 0)))
 (.seq (.block 1 (.seq (.reg [⟨some 20, none, .faddr 7 (.t 4)⟩, ⟨some 21, none, .load true 5 (.a 20 4)⟩, ⟨some 22, none, .faddr 2 (.t 9)⟩, ⟨some 23, none, .load false 1 (.a 22 9)⟩, ⟨some 24, none, .mv (.p 10)⟩, ⟨some 25, none, .call n_spec_mNext [.a 21 4, .a 23 9, .t 24]⟩, ⟨some 26, none, .mv (.p 3)⟩, ⟨some 27, none, .bin .eql (.t 25) (.t 26)⟩])
 (.cond (.t 27) (.seq (.reg [⟨some 28, none, .load true 12 (.t 4)⟩, ⟨some 29, none, .faddr 1 (.t 9)⟩, ⟨some 30, none, .load false 1 (.a 29 9)⟩, ⟨some 31, none, .faddr 2 (.t 9)⟩, ⟨some 32, none, .load false 1 (.a 31 9)⟩, ⟨some 33, none, .mv (.p 10)⟩, ⟨some 34, none, .faddr 1 (.t 5)⟩, ⟨some 35, none, .load false 1 (.a 34 5)⟩, ⟨some 36, none, .call n_spec_cStep [.a 28 4, .a 30 9, .a 32 9, .t 33, .a 35 5]⟩, ⟨some 37, none, .bin .gtr (.t 36) (.c (.int .i64 0))⟩, ⟨some 38, none, .mv (.p 37)⟩, ⟨some 39, some (38, true), .load true 12 (.t 4)⟩, ⟨some 40, some (38, true), .load true 3 (.t 5)⟩, ⟨some 41, some (38, true), .faddr 0 (.t 9)⟩, ⟨some 42, some (38, true), .load false 1 (.a 41 9)⟩, ⟨some 43, some (38, true), .mv (.p 3)⟩, ⟨some 44, some (38, true), .call n_spec_gRoom [.a 39 4, .a 40 5, .a 42 9, .t 43]⟩, ⟨some 45, none, .pick (.t 38) (.t 44) (.c (.bool false))⟩, ⟨some 8, none, .asg (.p 45)⟩])
 .ret) .skip)))
 (.reg [⟨some 18, none, .mv (.p 10)⟩, ⟨some 19, none, .bin .add (.t 18) (.c (.int .i64 1))⟩, ⟨some 10, none, .asg (.p 19)⟩])))
/-- spec.gCan -/
def a_spec_gCan : AFn := ⟨4, 46, [.tmp 8], (.seq (.reg [⟨some 4, none, .box (.t 0)⟩, ⟨some 5, none, .box (.t 1)⟩, ⟨some 8, none, .asg (.c (.bool false))⟩])
 (.seq (.reg [⟨some 11, none, .faddr 2 (.t 5)⟩, ⟨some 12, none, .load false 1 (.a 11 5)⟩, ⟨some 13, none, .mv (.p 2)⟩, ⟨some 14, none, .iaddr 4 (.a 12 5) (.t 13)⟩, ⟨some 15, none, .load true 4 (.a 14 5)⟩, ⟨some 9, none, .alloc [.int .i64 0, .int .i64 0, .int .i64 0, .int .i64 0]⟩, ⟨none, none, .store 4 (.t 9) (.a 15 5)⟩])
 (.seq (.seq (.reg [⟨some 10, none, .asg (.c (.int .i64 0))⟩])
 (.block 0 (.loop [3, 4, 5, 9, 10] [8] b_spec_gCan_0)))
 (.seq (.reg [⟨some 8, none, .asg (.c (.bool false))⟩])
 .ret))))⟩
def b_impl_increasing_0 : AC := (.seq (.seq (.reg [⟨some 4, none, .mv (.p 3)⟩, ⟨some 5, none, .rf (.t 0)⟩, ⟨some 6, none, .len (.a 5 0)⟩, ⟨some 7, none, .bin .lss (.t 4) (.t 6)⟩])
 (.cond (.t 7) .skip (.exit 0)))
 (.seq (.block 1 (.seq (.reg [⟨some 10, none, .rf (.t 0)⟩, ⟨some 11, none, .mv (.p 3)⟩, ⟨some 12, none, .bin .sub (.t 11) (.c (.int .i64 1))⟩, ⟨some 13, none, .iaddr 1 (.a 10 0) (.t 12)⟩, ⟨some 14, none, .load false 1 (.a 13 0)⟩, ⟨some 15, none, .rf (.t 0)⟩, ⟨some 16, none, .mv (.p 3)⟩, ⟨some 17, none, .iaddr 1 (.a 15 0) (.t 16)⟩, ⟨some 18, none, .load false 1 (.a 17 0)⟩, ⟨some 19, none, .bin .geq (.a 14 0) (.a 18 0)⟩])
 (.cond (.t 19) (.seq (.reg [⟨some 2, none, .asg (.c (.bool false))⟩])
 .ret) .skip)))
 (.reg [⟨some 8, none, .mv (.p 3)⟩, ⟨some 9, none, .bin .add (.t 8) (.c (.int .i64 1))⟩, ⟨some 3, none, .asg (.p 9)⟩])))
/-- impl.increasing -/
def a_impl_increasing : AFn := ⟨1, 20, [.tmp 2], (.seq (.reg [⟨some 2, none, .asg (.c (.bool false))⟩])
 (.seq (.seq (.reg [⟨some 3, none, .asg (.c (.int .i64 1))⟩])
 (.block 0 (.loop [0, 3] [2] b_impl_increasing_0)))
 (.seq (.reg [⟨some 2, none, .asg (.c (.bool true))⟩])
 .ret)))⟩
/-- slices.ContainsFunc[[]int,int] -/
def a_slices_ContainsFunc_int_int : AFn := ⟨2, 9, [.tmp 4], (.seq (.reg [⟨some 4, none, .asg (.c (.bool false))⟩])
 (.seq (.reg [⟨some 5, none, .rf (.t 0)⟩, ⟨some 6, none, .rf (.t 1)⟩, ⟨some 7, none, .call n_slices_IndexFunc_int_int [.a 5 0, .a 6 1]⟩, ⟨some 8, none, .bin .geq (.t 7) (.c (.int .i64 0))⟩, ⟨some 4, none, .asg (.p 8)⟩])
 .ret))⟩
/-- impl.areOnMap$1 -/
def a_impl_areOnMap_1 : AFn := ⟨3, 10, [.tmp 4], (.seq (.reg [⟨some 4, none, .asg (.c (.bool false))⟩])
 (.seq (.reg [⟨some 5, none, .load true 12 (.t 1)⟩, ⟨some 6, none, .load true 3 (.t 2)⟩, ⟨some 7, none, .mv (.p 0)⟩, ⟨some 8, none, .call n_impl_onMap [.a 5 1, .a 6 2, .t 7]⟩, ⟨some 9, none, .un .not (.t 8)⟩, ⟨some 4, none, .asg (.p 9)⟩])
 .ret))⟩
/-- impl.onMap -/
def a_impl_onMap : AFn := ⟨3, 20, [.tmp 6], (.seq (.reg [⟨some 3, none, .box (.t 0)⟩, ⟨some 4, none, .box (.t 1)⟩, ⟨some 6, none, .asg (.c (.bool false))⟩])
 (.seq (.reg [⟨some 7, none, .load true 12 (.t 3)⟩, ⟨some 8, none, .load true 3 (.t 4)⟩, ⟨some 9, none, .mv (.p 2)⟩, ⟨some 10, none, .call n_impl_hasUnit [.a 7 3, .a 8 4, .t 9]⟩, ⟨some 11, none, .mv (.p 10)⟩, ⟨some 12, some (11, true), .faddr 2 (.t 4)⟩, ⟨some 13, some (11, true), .load false 1 (.a 12 4)⟩, ⟨some 14, some (11, true), .mv (.p 2)⟩, ⟨some 15, some (11, true), .iaddr 4 (.a 13 4) (.t 14)⟩, ⟨some 16, some (11, true), .faddr 2 (.a 15 4)⟩, ⟨some 17, some (11, true), .load false 1 (.a 16 4)⟩, ⟨some 18, some (11, true), .bin .geq (.a 17 4) (.c (.int .i64 0))⟩, ⟨some 19, none, .pick (.t 11) (.t 18) (.c (.bool false))⟩, ⟨some 6, none, .asg (.p 19)⟩])
 .ret))⟩
/-- impl.inRange -/
def a_impl_inRange : AFn := ⟨3, 15, [.tmp 6], (.seq (.reg [⟨some 6, none, .asg (.c (.bool false))⟩])
 (.seq (.reg [⟨some 7, none, .mv (.p 1)⟩, ⟨some 8, none, .mv (.p 0)⟩, ⟨some 9, none, .bin .leq (.t 7) (.t 8)⟩, ⟨some 10, none, .mv (.p 9)⟩, ⟨some 11, some (10, true), .mv (.p 0)⟩, ⟨some 12, some (10, true), .mv (.p 2)⟩, ⟨some 13, some (10, true), .bin .leq (.t 11) (.t 12)⟩, ⟨some 14, none, .pick (.t 10) (.t 13) (.c (.bool false))⟩, ⟨some 6, none, .asg (.p 14)⟩])
 .ret))⟩
/-- impl.cloneState -/
def a_impl_cloneState : AFn := ⟨1, 8, [.cell 2 3 true], (.seq (.reg [⟨some 1, none, .box (.t 0)⟩, ⟨some 2, none, .alloc [.int .i64 0, .int .i64 0, .list true 4 []]⟩])
 (.seq (.reg [⟨some 3, none, .faddr 2 (.t 1)⟩, ⟨some 4, none, .load false 1 (.a 3 1)⟩, ⟨some 5, none, .call n_slices_Clone_impl_Unit_impl_Unit [.a 4 1]⟩, ⟨some 6, none, .faddr 2 (.t 1)⟩, ⟨none, none, .store 1 (.a 6 1) (.t 5)⟩])
 (.seq (.reg [⟨some 7, none, .load true 3 (.t 1)⟩, ⟨none, none, .store 3 (.t 2) (.a 7 1)⟩])
 .ret)))⟩
/-- impl.canAdvance -/
def a_impl_canAdvance : AFn := ⟨4, 39, [.tmp 8], (.seq (.reg [⟨some 4, none, .box (.t 0)⟩, ⟨some 5, none, .box (.t 1)⟩, ⟨some 6, none, .box (.t 2)⟩, ⟨some 8, none, .asg (.c (.bool false))⟩])
 (.seq (.reg [⟨some 10, none, .faddr 7 (.t 4)⟩, ⟨some 11, none, .load true 5 (.a 10 4)⟩, ⟨some 12, none, .faddr 2 (.t 6)⟩, ⟨some 13, none, .load false 1 (.a 12 6)⟩, ⟨some 14, none, .mv (.p 3)⟩, ⟨some 15, none, .call n_impl_directionOn [.a 11 4, .a 13 6, .t 14]⟩, ⟨some 9, none, .asg (.p 15)⟩])
 (.seq (.reg [⟨some 16, none, .mv (.p 9)⟩, ⟨some 17, none, .bin .geq (.t 16) (.c (.int .i64 0))⟩, ⟨some 18, none, .mv (.p 17)⟩, ⟨some 19, some (18, true), .load true 12 (.t 4)⟩, ⟨some 20, some (18, true), .faddr 1 (.t 6)⟩, ⟨some 21, some (18, true), .load false 1 (.a 20 6)⟩, ⟨some 22, some (18, true), .faddr 1 (.t 5)⟩, ⟨some 23, some (18, true), .load false 1 (.a 22 5)⟩, ⟨some 24, some (18, true), .faddr 2 (.t 6)⟩, ⟨some 25, some (18, true), .load false 1 (.a 24 6)⟩, ⟨some 26, some (18, true), .mv (.p 9)⟩, ⟨some 27, some (18, true), .call n_impl_stepCost [.a 19 4, .a 21 6, .a 23 5, .a 25 6, .t 26]⟩, ⟨some 28, some (18, true), .bin .gtr (.t 27) (.c (.int .i64 0))⟩, ⟨some 29, none, .pick (.t 18) (.t 28) (.c (.bool false))⟩, ⟨some 30, none, .mv (.p 29)⟩, ⟨some 31, some (30, true), .load true 12 (.t 4)⟩, ⟨some 32, some (30, true), .load true 3 (.t 5)⟩, ⟨some 33, some (30, true), .faddr 0 (.t 6)⟩, ⟨some 34, some (30, true), .load false 1 (.a 33 6)⟩, ⟨some 35, some (30, true), .mv (.p 3)⟩, ⟨some 36, some (30, true), .call n_impl_stackRoom [.a 31 4, .a 32 5, .a 34 6, .t 35]⟩, ⟨some 37, some (30, true), .bin .gtr (.t 36) (.c (.int .i64 0))⟩, ⟨some 38, none, .pick (.t 30) (.t 37) (.c (.bool false))⟩, ⟨some 8, none, .asg (.p 38)⟩])
 .ret)))⟩
def b_spec_aGood_0 : AC := (.seq (.reg [⟨some 47, none, .bin .lss (.t 46) (.t 45)⟩])
 (.seq (.cond (.t 47) .skip (.exit 0))
 (.seq (.block 1 (.seq (.reg [⟨some 48, none, .iaddr 1 (.a 44 5) (.t 46)⟩, ⟨some 49, none, .load false 1 (.a 48 5)⟩, ⟨some 9, none, .asg (.p 49)⟩])
 (.seq (.reg [⟨some 50, none, .faddr 2 (.t 4)⟩, ⟨some 51, none, .load false 1 (.a 50 4)⟩, ⟨some 52, none, .mv (.p 9)⟩, ⟨some 53, none, .iaddr 4 (.a 51 4) (.t 52)⟩, ⟨some 54, none, .faddr 0 (.a 53 4)⟩, ⟨some 55, none, .load false 1 (.a 54 4)⟩, ⟨some 56, none, .mv (.p 7)⟩, ⟨some 57, none, .bin .eql (.a 55 4) (.t 56)⟩, ⟨some 58, none, .mv (.p 57)⟩, ⟨some 59, some (58, false), .load true 12 (.t 3)⟩, ⟨some 60, some (58, false), .load true 3 (.t 4)⟩, ⟨some 61, some (58, false), .faddr 0 (.t 5)⟩, ⟨some 62, some (58, false), .load false 1 (.a 61 5)⟩, ⟨some 63, some (58, false), .mv (.p 9)⟩, ⟨some 64, some (58, false), .call n_spec_aSide [.a 59 3, .a 60 4, .a 62 5, .t 63]⟩, ⟨some 65, some (58, false), .bin .lss (.t 64) (.c (.int .i64 0))⟩, ⟨some 66, none, .pick (.t 58) (.c (.bool true)) (.t 65)⟩])
 (.cond (.t 66) (.seq (.reg [⟨some 6, none, .asg (.c (.bool false))⟩])
 .ret) .skip))))
 (.reg [⟨some 67, none, .bin .add (.t 46) (.c (.int .i64 1))⟩, ⟨some 46, none, .mv (.p 67)⟩]))))
/-- spec.aGood -/
def a_spec_aGood : AFn := ⟨3, 76, [.tmp 6], (.seq (.reg [⟨some 3, none, .box (.t 0)⟩, ⟨some 4, none, .box (.t 1)⟩, ⟨some 5, none, .box (.t 2)⟩, ⟨some 6, none, .asg (.c (.bool false))⟩])
 (.seq (.seq (.reg [⟨some 10, none, .load true 12 (.t 3)⟩, ⟨some 11, none, .load true 3 (.t 4)⟩, ⟨some 12, none, .faddr 0 (.t 5)⟩, ⟨some 13, none, .load false 1 (.a 12 5)⟩, ⟨some 14, none, .call n_spec_sHex [.a 10 3, .a 11 4, .a 13 5]⟩, ⟨some 15, none, .un .not (.t 14)⟩, ⟨some 16, none, .mv (.p 15)⟩, ⟨some 17, some (16, false), .load true 3 (.t 4)⟩, ⟨some 18, some (16, false), .faddr 0 (.t 5)⟩, ⟨some 19, some (16, false), .load false 1 (.a 18 5)⟩, ⟨some 20, some (16, false), .call n_spec_sOwner [.a 17 4, .a 19 5]⟩, ⟨some 21, some (16, false), .bin .lss (.t 20) (.c (.int .i64 0))⟩, ⟨some 22, none, .pick (.t 16) (.c (.bool true)) (.t 21)⟩, ⟨some 23, none, .mv (.p 22)⟩, ⟨some 24, some (23, false), .faddr 1 (.t 5)⟩, ⟨some 25, some (23, false), .load false 1 (.a 24 5)⟩, ⟨some 26, some (23, false), .len (.a 25 5)⟩, ⟨some 27, some (23, false), .bin .eql (.t 26) (.c (.int .i64 0))⟩, ⟨some 28, none, .pick (.t 23) (.c (.bool true)) (.t 27)⟩, ⟨some 29, none, .mv (.p 28)⟩, ⟨some 30, some (29, false), .faddr 1 (.t 5)⟩, ⟨some 31, some (29, false), .load false 1 (.a 30 5)⟩, ⟨some 32, some (29, false), .faddr 2 (.t 4)⟩, ⟨some 33, some (29, false), .load false 1 (.a 32 4)⟩, ⟨some 34, some (29, false), .len (.a 33 4)⟩, ⟨some 35, some (29, false), .bin .sub (.t 34) (.c (.int .i64 1))⟩, ⟨some 36, some (29, false), .call n_spec_l1Rising [.a 31 5, .c (.int .i64 0), .t 35]⟩, ⟨some 37, some (29, false), .un .not (.t 36)⟩, ⟨some 38, none, .pick (.t 29) (.c (.bool true)) (.t 37)⟩])
 (.cond (.t 38) (.seq (.reg [⟨some 6, none, .asg (.c (.bool false))⟩])
 .ret) .skip))
 (.seq (.reg [⟨some 39, none, .load true 3 (.t 4)⟩, ⟨some 40, none, .faddr 0 (.t 5)⟩, ⟨some 41, none, .load false 1 (.a 40 5)⟩, ⟨some 42, none, .call n_spec_sOwner [.a 39 4, .a 41 5]⟩, ⟨some 7, none, .asg (.p 42)⟩])
 (.seq (.seq (.reg [⟨some 43, none, .faddr 1 (.t 5)⟩, ⟨some 44, none, .load false 1 (.a 43 5)⟩, ⟨some 45, none, .len (.a 44 5)⟩, ⟨some 46, none, .mv (.c (.int .i64 0))⟩])
 (.block 0 (.loop [3, 4, 5, 7, 44, 45, 46] [4, 5, 6, 7] b_spec_aGood_0)))
 (.seq (.reg [⟨some 68, none, .faddr 2 (.t 5)⟩, ⟨some 69, none, .load false 1 (.a 68 5)⟩, ⟨some 70, none, .load true 3 (.t 4)⟩, ⟨some 71, none, .faddr 0 (.t 5)⟩, ⟨some 72, none, .load false 1 (.a 71 5)⟩, ⟨some 73, none, .mv (.p 7)⟩, ⟨some 74, none, .call n_spec_sAt [.a 70 4, .a 72 5, .t 73]⟩, ⟨some 75, none, .call n_spec_l1Same [.a 69 5, .t 74]⟩, ⟨some 6, none, .asg (.p 75)⟩])
 .ret)))))⟩
end Go.Abs.W
