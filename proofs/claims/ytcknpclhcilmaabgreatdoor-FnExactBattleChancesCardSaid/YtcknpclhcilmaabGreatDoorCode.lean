/- The abstract code of the functions. -/
import Derived.Test.YtcknpclhcilmaabGreatDoorCode0
import Derived.Test.YtcknpclhcilmaabGreatDoorProg
set_option maxRecDepth 100000
namespace Go.Abs.W
open Go Go.Abs
def codes : List (Nat × AFn) := [(n_laws_FnExactBattleChances, a_laws_FnExactBattleChances), (n_laws_szBoard, a_laws_szBoard), (n_laws_szState, a_laws_szState), (n_laws_toBoard, a_laws_toBoard), (n_laws_toState, a_laws_toState), (n_laws_eqBoard, a_laws_eqBoard), (n_laws_eqState, a_laws_eqState), (n_laws_markBoard, a_laws_markBoard), (n_laws_markState, a_laws_markState), (n_laws_szCombatTable, a_laws_szCombatTable), (n_laws_szBattle, a_laws_szBattle), (n_spec_BattleChances, a_spec_BattleChances), (n_laws_toCombatTable, a_laws_toCombatTable), (n_laws_toBattle, a_laws_toBattle), (n_impl_BattleChances, a_impl_BattleChances), (n_laws_eqIntS, a_laws_eqIntS), (n_laws_eqCombatTable, a_laws_eqCombatTable), (n_laws_eqBattle, a_laws_eqBattle), (n_laws_markCombatTable, a_laws_markCombatTable), (n_laws_markBattle, a_laws_markBattle), (n_laws_markIntS, a_laws_markIntS), (n_laws_heldIntS, a_laws_heldIntS), (n_laws_szRules, a_laws_szRules), (n_laws_szMap, a_laws_szMap), (n_laws_szUnitS, a_laws_szUnitS), (n_laws_toRules, a_laws_toRules), (n_laws_toMap, a_laws_toMap), (n_laws_toUnitS, a_laws_toUnitS), (n_laws_eqRules, a_laws_eqRules), (n_laws_eqMap, a_laws_eqMap), (n_laws_eqUnitS, a_laws_eqUnitS), (n_laws_markRules, a_laws_markRules), (n_laws_markMap, a_laws_markMap), (n_laws_markUnitS, a_laws_markUnitS), (n_laws_szOddsS, a_laws_szOddsS), (n_laws_szIntSS, a_laws_szIntSS), (n_laws_szIntS, a_laws_szIntS), (n_spec_kGood, a_spec_kGood), (n_spec_aGood, a_spec_aGood), (n_spec_kCounts, a_spec_kCounts), (n_spec_aColumn, a_spec_aColumn), (n_laws_toOddsS, a_laws_toOddsS), (n_laws_toIntSS, a_laws_toIntSS), (n_laws_toIntS, a_laws_toIntS), (n_impl_BattleColumn, a_impl_BattleColumn), (n_impl_CountResults, a_impl_CountResults), (n_laws_eqOddsS, a_laws_eqOddsS), (n_laws_eqIntSS, a_laws_eqIntSS), (n_laws_markOddsS, a_laws_markOddsS), (n_laws_markIntSS, a_laws_markIntSS), (n_spec_sGood, a_spec_sGood), (n_impl_fits, a_impl_fits), (n_laws_szTerrainS, a_laws_szTerrainS), (n_laws_szKindS, a_laws_szKindS), (n_laws_toTerrainS, a_laws_toTerrainS), (n_laws_toKindS, a_laws_toKindS), (n_laws_toUnit, a_laws_toUnit), (n_laws_eqTerrainS, a_laws_eqTerrainS), (n_laws_eqKindS, a_laws_eqKindS), (n_laws_eqUnit, a_laws_eqUnit), (n_laws_markTerrainS, a_laws_markTerrainS), (n_laws_markKindS, a_laws_markKindS), (n_spec_l1In, a_spec_l1In), (n_spec_kRows, a_spec_kRows), (n_spec_l1All, a_spec_l1All), (n_spec_sHex, a_spec_sHex), (n_spec_sOwner, a_spec_sOwner), (n_spec_l1Rising, a_spec_l1Rising), (n_spec_aSide, a_spec_aSide), (n_spec_l1Same, a_spec_l1Same), (n_spec_sAt, a_spec_sAt), (n_spec_kResult, a_spec_kResult), (n_spec_kWays, a_spec_kWays), (n_spec_kShift, a_spec_kShift), (n_spec_kColumn, a_spec_kColumn), (n_spec_aAttack, a_spec_aAttack), (n_spec_aDefence, a_spec_aDefence), (n_spec_aShift, a_spec_aShift), (n_laws_toOdds, a_laws_toOdds), (n_impl_hasBattle, a_impl_hasBattle), (n_impl_IsCombatTable, a_impl_IsCombatTable), (n_impl_battleColumn, a_impl_battleColumn), (n_impl_isColumn, a_impl_isColumn), (n_impl_waysFor, a_impl_waysFor), (n_laws_eqOdds, a_laws_eqOdds), (n_impl_isSide, a_impl_isSide), (n_spec_bGood, a_spec_bGood), (n_spec_sUnit, a_spec_sUnit), (n_impl_IsBoard, a_impl_IsBoard), (n_impl_goodState, a_impl_goodState), (n_laws_szTerrain, a_laws_szTerrain), (n_laws_szKind, a_laws_szKind), (n_laws_toTerrain, a_laws_toTerrain), (n_laws_toKind, a_laws_toKind), (n_laws_eqTerrain, a_laws_eqTerrain), (n_laws_eqKind, a_laws_eqKind), (n_laws_markText, a_laws_markText), (n_spec_mSize, a_spec_mSize), (n_spec_mNext, a_spec_mNext), (n_spec_l1Abs, a_spec_l1Abs), (n_spec_l1Most, a_spec_l1Most), (n_spec_l1Least, a_spec_l1Least), (n_spec_aForce, a_spec_aForce), (n_spec_mRiver, a_spec_mRiver), (n_spec_mRoad, a_spec_mRoad), (n_spec_bTerrain, a_spec_bTerrain), (n_spec_l1Has, a_spec_l1Has), (n_impl_goodBattle, a_impl_goodBattle), (n_impl_inRange, a_impl_inRange), (n_slices_ContainsFunc_int_int, a_slices_ContainsFunc_int_int), (n_impl_IsCombatTable_1, a_impl_IsCombatTable_1), (n_impl_isResult, a_impl_isResult), (n_impl_shiftColumn, a_impl_shiftColumn), (n_impl_columnFor, a_impl_columnFor), (n_impl_attackStrength, a_impl_attackStrength), (n_impl_defenceStrength, a_impl_defenceStrength), (n_impl_battleShift, a_impl_battleShift), (n_impl_isIndex, a_impl_isIndex), (n_impl_absOf, a_impl_absOf), (n_impl_nextTo, a_impl_nextTo), (n_spec_rGood, a_spec_rGood), (n_spec_mGood, a_spec_mGood), (n_spec_bCost, a_spec_bCost), (n_impl_IsRules, a_impl_IsRules), (n_impl_IsMap, a_impl_IsMap), (n_impl_IsBoard_1, a_impl_IsBoard_1), (n_impl_sizeOf, a_impl_sizeOf), (n_impl_goodUnit, a_impl_goodUnit), (n_spec_mIndex, a_spec_mIndex), (n_spec_hStep, a_spec_hStep), (n_spec_mHex, a_spec_mHex), (n_spec_mEdge, a_spec_mEdge), (n_slices_Equal_int_int, a_slices_Equal_int_int), (n_impl_unitsAt, a_impl_unitsAt), (n_impl_increasing, a_impl_increasing), (n_impl_ownerOf, a_impl_ownerOf), (n_impl_isNear, a_impl_isNear), (n_slices_IndexFunc_int_int, a_slices_IndexFunc_int_int), (n_impl_forceOf, a_impl_forceOf), (n_impl_crossesFreely, a_impl_crossesFreely), (n_impl_edgeOf, a_impl_edgeOf), (n_impl_directionOn, a_impl_directionOn), (n_impl_terrainAt, a_impl_terrainAt), (n_slices_Contains_int_int, a_slices_Contains_int_int), (n_impl_enterCost, a_impl_enterCost), (n_impl_indexOf, a_impl_indexOf), (n_impl_stepBy, a_impl_stepBy), (n_impl_hexOf, a_impl_hexOf), (n_spec_rName, a_spec_rName), (n_spec_rTerrain, a_spec_rTerrain), (n_spec_rKind, a_spec_rKind), (n_spec_mEdges, a_spec_mEdges), (n_impl_goodTerrain, a_impl_goodTerrain), (n_impl_terrainIndex, a_impl_terrainIndex), (n_impl_goodKind, a_impl_goodKind), (n_impl_kindIndex, a_impl_kindIndex), (n_impl_isEdge, a_impl_isEdge), (n_slices_Index_int_int, a_slices_Index_int_int), (n_impl_isName, a_impl_isName), (n_impl_goodTerrain_1, a_impl_goodTerrain_1), (n_slices_IndexFunc_impl_Terrain_impl_Terrain, a_slices_IndexFunc_impl_Terrain_impl_Terrain), (n_impl_terrainIndex_1, a_impl_terrainIndex_1), (n_slices_IndexFunc_impl_Kind_impl_Kind, a_slices_IndexFunc_impl_Kind_impl_Kind), (n_impl_kindIndex_1, a_impl_kindIndex_1)]
def prog (f : FuncId) : Option AFn := (codes.find? fun p => p.1 == f).map (·.2)
theorem p_laws_FnExactBattleChances : prog n_laws_FnExactBattleChances = some a_laws_FnExactBattleChances := rfl
theorem p_laws_szBoard : prog n_laws_szBoard = some a_laws_szBoard := rfl
theorem p_laws_szState : prog n_laws_szState = some a_laws_szState := rfl
theorem p_laws_toBoard : prog n_laws_toBoard = some a_laws_toBoard := rfl
theorem p_laws_toState : prog n_laws_toState = some a_laws_toState := rfl
theorem p_laws_eqBoard : prog n_laws_eqBoard = some a_laws_eqBoard := rfl
theorem p_laws_eqState : prog n_laws_eqState = some a_laws_eqState := rfl
theorem p_laws_markBoard : prog n_laws_markBoard = some a_laws_markBoard := rfl
theorem p_laws_markState : prog n_laws_markState = some a_laws_markState := rfl
theorem p_laws_szCombatTable : prog n_laws_szCombatTable = some a_laws_szCombatTable := rfl
theorem p_laws_szBattle : prog n_laws_szBattle = some a_laws_szBattle := rfl
theorem p_spec_BattleChances : prog n_spec_BattleChances = some a_spec_BattleChances := rfl
theorem p_laws_toCombatTable : prog n_laws_toCombatTable = some a_laws_toCombatTable := rfl
theorem p_laws_toBattle : prog n_laws_toBattle = some a_laws_toBattle := rfl
theorem p_impl_BattleChances : prog n_impl_BattleChances = some a_impl_BattleChances := rfl
theorem p_laws_eqIntS : prog n_laws_eqIntS = some a_laws_eqIntS := rfl
theorem p_laws_eqCombatTable : prog n_laws_eqCombatTable = some a_laws_eqCombatTable := rfl
theorem p_laws_eqBattle : prog n_laws_eqBattle = some a_laws_eqBattle := rfl
theorem p_laws_markCombatTable : prog n_laws_markCombatTable = some a_laws_markCombatTable := rfl
theorem p_laws_markBattle : prog n_laws_markBattle = some a_laws_markBattle := rfl
theorem p_laws_markIntS : prog n_laws_markIntS = some a_laws_markIntS := rfl
theorem p_laws_heldIntS : prog n_laws_heldIntS = some a_laws_heldIntS := rfl
theorem p_laws_szRules : prog n_laws_szRules = some a_laws_szRules := rfl
theorem p_laws_szMap : prog n_laws_szMap = some a_laws_szMap := rfl
theorem p_laws_szUnitS : prog n_laws_szUnitS = some a_laws_szUnitS := rfl
theorem p_laws_toRules : prog n_laws_toRules = some a_laws_toRules := rfl
theorem p_laws_toMap : prog n_laws_toMap = some a_laws_toMap := rfl
theorem p_laws_toUnitS : prog n_laws_toUnitS = some a_laws_toUnitS := rfl
theorem p_laws_eqRules : prog n_laws_eqRules = some a_laws_eqRules := rfl
theorem p_laws_eqMap : prog n_laws_eqMap = some a_laws_eqMap := rfl
theorem p_laws_eqUnitS : prog n_laws_eqUnitS = some a_laws_eqUnitS := rfl
theorem p_laws_markRules : prog n_laws_markRules = some a_laws_markRules := rfl
theorem p_laws_markMap : prog n_laws_markMap = some a_laws_markMap := rfl
theorem p_laws_markUnitS : prog n_laws_markUnitS = some a_laws_markUnitS := rfl
theorem p_laws_szOddsS : prog n_laws_szOddsS = some a_laws_szOddsS := rfl
theorem p_laws_szIntSS : prog n_laws_szIntSS = some a_laws_szIntSS := rfl
theorem p_laws_szIntS : prog n_laws_szIntS = some a_laws_szIntS := rfl
theorem p_spec_kGood : prog n_spec_kGood = some a_spec_kGood := rfl
theorem p_spec_aGood : prog n_spec_aGood = some a_spec_aGood := rfl
theorem p_spec_kCounts : prog n_spec_kCounts = some a_spec_kCounts := rfl
theorem p_spec_aColumn : prog n_spec_aColumn = some a_spec_aColumn := rfl
theorem p_laws_toOddsS : prog n_laws_toOddsS = some a_laws_toOddsS := rfl
theorem p_laws_toIntSS : prog n_laws_toIntSS = some a_laws_toIntSS := rfl
theorem p_laws_toIntS : prog n_laws_toIntS = some a_laws_toIntS := rfl
theorem p_impl_BattleColumn : prog n_impl_BattleColumn = some a_impl_BattleColumn := rfl
theorem p_impl_CountResults : prog n_impl_CountResults = some a_impl_CountResults := rfl
theorem p_laws_eqOddsS : prog n_laws_eqOddsS = some a_laws_eqOddsS := rfl
theorem p_laws_eqIntSS : prog n_laws_eqIntSS = some a_laws_eqIntSS := rfl
theorem p_laws_markOddsS : prog n_laws_markOddsS = some a_laws_markOddsS := rfl
theorem p_laws_markIntSS : prog n_laws_markIntSS = some a_laws_markIntSS := rfl
theorem p_spec_sGood : prog n_spec_sGood = some a_spec_sGood := rfl
theorem p_impl_fits : prog n_impl_fits = some a_impl_fits := rfl
theorem p_laws_szTerrainS : prog n_laws_szTerrainS = some a_laws_szTerrainS := rfl
theorem p_laws_szKindS : prog n_laws_szKindS = some a_laws_szKindS := rfl
theorem p_laws_toTerrainS : prog n_laws_toTerrainS = some a_laws_toTerrainS := rfl
theorem p_laws_toKindS : prog n_laws_toKindS = some a_laws_toKindS := rfl
theorem p_laws_toUnit : prog n_laws_toUnit = some a_laws_toUnit := rfl
theorem p_laws_eqTerrainS : prog n_laws_eqTerrainS = some a_laws_eqTerrainS := rfl
theorem p_laws_eqKindS : prog n_laws_eqKindS = some a_laws_eqKindS := rfl
theorem p_laws_eqUnit : prog n_laws_eqUnit = some a_laws_eqUnit := rfl
theorem p_laws_markTerrainS : prog n_laws_markTerrainS = some a_laws_markTerrainS := rfl
theorem p_laws_markKindS : prog n_laws_markKindS = some a_laws_markKindS := rfl
theorem p_spec_l1In : prog n_spec_l1In = some a_spec_l1In := rfl
theorem p_spec_kRows : prog n_spec_kRows = some a_spec_kRows := rfl
theorem p_spec_l1All : prog n_spec_l1All = some a_spec_l1All := rfl
theorem p_spec_sHex : prog n_spec_sHex = some a_spec_sHex := rfl
theorem p_spec_sOwner : prog n_spec_sOwner = some a_spec_sOwner := rfl
theorem p_spec_l1Rising : prog n_spec_l1Rising = some a_spec_l1Rising := rfl
theorem p_spec_aSide : prog n_spec_aSide = some a_spec_aSide := rfl
theorem p_spec_l1Same : prog n_spec_l1Same = some a_spec_l1Same := rfl
theorem p_spec_sAt : prog n_spec_sAt = some a_spec_sAt := rfl
theorem p_spec_kResult : prog n_spec_kResult = some a_spec_kResult := rfl
theorem p_spec_kWays : prog n_spec_kWays = some a_spec_kWays := rfl
theorem p_spec_kShift : prog n_spec_kShift = some a_spec_kShift := rfl
theorem p_spec_kColumn : prog n_spec_kColumn = some a_spec_kColumn := rfl
theorem p_spec_aAttack : prog n_spec_aAttack = some a_spec_aAttack := rfl
theorem p_spec_aDefence : prog n_spec_aDefence = some a_spec_aDefence := rfl
theorem p_spec_aShift : prog n_spec_aShift = some a_spec_aShift := rfl
theorem p_laws_toOdds : prog n_laws_toOdds = some a_laws_toOdds := rfl
theorem p_impl_hasBattle : prog n_impl_hasBattle = some a_impl_hasBattle := rfl
theorem p_impl_IsCombatTable : prog n_impl_IsCombatTable = some a_impl_IsCombatTable := rfl
theorem p_impl_battleColumn : prog n_impl_battleColumn = some a_impl_battleColumn := rfl
theorem p_impl_isColumn : prog n_impl_isColumn = some a_impl_isColumn := rfl
theorem p_impl_waysFor : prog n_impl_waysFor = some a_impl_waysFor := rfl
theorem p_laws_eqOdds : prog n_laws_eqOdds = some a_laws_eqOdds := rfl
theorem p_impl_isSide : prog n_impl_isSide = some a_impl_isSide := rfl
theorem p_spec_bGood : prog n_spec_bGood = some a_spec_bGood := rfl
theorem p_spec_sUnit : prog n_spec_sUnit = some a_spec_sUnit := rfl
theorem p_impl_IsBoard : prog n_impl_IsBoard = some a_impl_IsBoard := rfl
theorem p_impl_goodState : prog n_impl_goodState = some a_impl_goodState := rfl
theorem p_laws_szTerrain : prog n_laws_szTerrain = some a_laws_szTerrain := rfl
theorem p_laws_szKind : prog n_laws_szKind = some a_laws_szKind := rfl
theorem p_laws_toTerrain : prog n_laws_toTerrain = some a_laws_toTerrain := rfl
theorem p_laws_toKind : prog n_laws_toKind = some a_laws_toKind := rfl
theorem p_laws_eqTerrain : prog n_laws_eqTerrain = some a_laws_eqTerrain := rfl
theorem p_laws_eqKind : prog n_laws_eqKind = some a_laws_eqKind := rfl
theorem p_laws_markText : prog n_laws_markText = some a_laws_markText := rfl
theorem p_spec_mSize : prog n_spec_mSize = some a_spec_mSize := rfl
theorem p_spec_mNext : prog n_spec_mNext = some a_spec_mNext := rfl
theorem p_spec_l1Abs : prog n_spec_l1Abs = some a_spec_l1Abs := rfl
theorem p_spec_l1Most : prog n_spec_l1Most = some a_spec_l1Most := rfl
theorem p_spec_l1Least : prog n_spec_l1Least = some a_spec_l1Least := rfl
theorem p_spec_aForce : prog n_spec_aForce = some a_spec_aForce := rfl
theorem p_spec_mRiver : prog n_spec_mRiver = some a_spec_mRiver := rfl
theorem p_spec_mRoad : prog n_spec_mRoad = some a_spec_mRoad := rfl
theorem p_spec_bTerrain : prog n_spec_bTerrain = some a_spec_bTerrain := rfl
theorem p_spec_l1Has : prog n_spec_l1Has = some a_spec_l1Has := rfl
theorem p_impl_goodBattle : prog n_impl_goodBattle = some a_impl_goodBattle := rfl
theorem p_impl_inRange : prog n_impl_inRange = some a_impl_inRange := rfl
theorem p_slices_ContainsFunc_int_int : prog n_slices_ContainsFunc_int_int = some a_slices_ContainsFunc_int_int := rfl
theorem p_impl_IsCombatTable_1 : prog n_impl_IsCombatTable_1 = some a_impl_IsCombatTable_1 := rfl
theorem p_impl_isResult : prog n_impl_isResult = some a_impl_isResult := rfl
theorem p_impl_shiftColumn : prog n_impl_shiftColumn = some a_impl_shiftColumn := rfl
theorem p_impl_columnFor : prog n_impl_columnFor = some a_impl_columnFor := rfl
theorem p_impl_attackStrength : prog n_impl_attackStrength = some a_impl_attackStrength := rfl
theorem p_impl_defenceStrength : prog n_impl_defenceStrength = some a_impl_defenceStrength := rfl
theorem p_impl_battleShift : prog n_impl_battleShift = some a_impl_battleShift := rfl
theorem p_impl_isIndex : prog n_impl_isIndex = some a_impl_isIndex := rfl
theorem p_impl_absOf : prog n_impl_absOf = some a_impl_absOf := rfl
theorem p_impl_nextTo : prog n_impl_nextTo = some a_impl_nextTo := rfl
theorem p_spec_rGood : prog n_spec_rGood = some a_spec_rGood := rfl
theorem p_spec_mGood : prog n_spec_mGood = some a_spec_mGood := rfl
theorem p_spec_bCost : prog n_spec_bCost = some a_spec_bCost := rfl
theorem p_impl_IsRules : prog n_impl_IsRules = some a_impl_IsRules := rfl
theorem p_impl_IsMap : prog n_impl_IsMap = some a_impl_IsMap := rfl
theorem p_impl_IsBoard_1 : prog n_impl_IsBoard_1 = some a_impl_IsBoard_1 := rfl
theorem p_impl_sizeOf : prog n_impl_sizeOf = some a_impl_sizeOf := rfl
theorem p_impl_goodUnit : prog n_impl_goodUnit = some a_impl_goodUnit := rfl
theorem p_spec_mIndex : prog n_spec_mIndex = some a_spec_mIndex := rfl
theorem p_spec_hStep : prog n_spec_hStep = some a_spec_hStep := rfl
theorem p_spec_mHex : prog n_spec_mHex = some a_spec_mHex := rfl
theorem p_spec_mEdge : prog n_spec_mEdge = some a_spec_mEdge := rfl
theorem p_slices_Equal_int_int : prog n_slices_Equal_int_int = some a_slices_Equal_int_int := rfl
theorem p_impl_unitsAt : prog n_impl_unitsAt = some a_impl_unitsAt := rfl
theorem p_impl_increasing : prog n_impl_increasing = some a_impl_increasing := rfl
theorem p_impl_ownerOf : prog n_impl_ownerOf = some a_impl_ownerOf := rfl
theorem p_impl_isNear : prog n_impl_isNear = some a_impl_isNear := rfl
theorem p_slices_IndexFunc_int_int : prog n_slices_IndexFunc_int_int = some a_slices_IndexFunc_int_int := rfl
theorem p_impl_forceOf : prog n_impl_forceOf = some a_impl_forceOf := rfl
theorem p_impl_crossesFreely : prog n_impl_crossesFreely = some a_impl_crossesFreely := rfl
theorem p_impl_edgeOf : prog n_impl_edgeOf = some a_impl_edgeOf := rfl
theorem p_impl_directionOn : prog n_impl_directionOn = some a_impl_directionOn := rfl
theorem p_impl_terrainAt : prog n_impl_terrainAt = some a_impl_terrainAt := rfl
theorem p_slices_Contains_int_int : prog n_slices_Contains_int_int = some a_slices_Contains_int_int := rfl
theorem p_impl_enterCost : prog n_impl_enterCost = some a_impl_enterCost := rfl
theorem p_impl_indexOf : prog n_impl_indexOf = some a_impl_indexOf := rfl
theorem p_impl_stepBy : prog n_impl_stepBy = some a_impl_stepBy := rfl
theorem p_impl_hexOf : prog n_impl_hexOf = some a_impl_hexOf := rfl
theorem p_spec_rName : prog n_spec_rName = some a_spec_rName := rfl
theorem p_spec_rTerrain : prog n_spec_rTerrain = some a_spec_rTerrain := rfl
theorem p_spec_rKind : prog n_spec_rKind = some a_spec_rKind := rfl
theorem p_spec_mEdges : prog n_spec_mEdges = some a_spec_mEdges := rfl
theorem p_impl_goodTerrain : prog n_impl_goodTerrain = some a_impl_goodTerrain := rfl
theorem p_impl_terrainIndex : prog n_impl_terrainIndex = some a_impl_terrainIndex := rfl
theorem p_impl_goodKind : prog n_impl_goodKind = some a_impl_goodKind := rfl
theorem p_impl_kindIndex : prog n_impl_kindIndex = some a_impl_kindIndex := rfl
theorem p_impl_isEdge : prog n_impl_isEdge = some a_impl_isEdge := rfl
theorem p_slices_Index_int_int : prog n_slices_Index_int_int = some a_slices_Index_int_int := rfl
theorem p_impl_isName : prog n_impl_isName = some a_impl_isName := rfl
theorem p_impl_goodTerrain_1 : prog n_impl_goodTerrain_1 = some a_impl_goodTerrain_1 := rfl
theorem p_slices_IndexFunc_impl_Terrain_impl_Terrain : prog n_slices_IndexFunc_impl_Terrain_impl_Terrain = some a_slices_IndexFunc_impl_Terrain_impl_Terrain := rfl
theorem p_impl_terrainIndex_1 : prog n_impl_terrainIndex_1 = some a_impl_terrainIndex_1 := rfl
theorem p_slices_IndexFunc_impl_Kind_impl_Kind : prog n_slices_IndexFunc_impl_Kind_impl_Kind = some a_slices_IndexFunc_impl_Kind_impl_Kind := rfl
theorem p_impl_kindIndex_1 : prog n_impl_kindIndex_1 = some a_impl_kindIndex_1 := rfl
theorem progOK : ProgOK Go.Proofs.Tryz.prog prog := by
  refine progOK_of (l := codes) ?_ fun f x h => ?_
  · decide +kernel
  · simp only [prog, Option.map_eq_some_iff] at h
    obtain ⟨p, h1, rfl⟩ := h
    have h2 := List.find?_some h1
    simp at h2
    subst h2
    exact List.mem_of_find?_eq_some h1
/-- The contracts that are proved by hand: none. -/
def hand : FuncId → Option (List AV → Option AV) := fun _ => none
/-- The package's table: the directions. -/
def dirs : List D := [.int .i64 1, .int .i64 0, .int .i64 1, .int .i64 (-1), .int .i64 0, .int .i64 (-1), .int .i64 (-1), .int .i64 0, .int .i64 (-1), .int .i64 1, .int .i64 0, .int .i64 1]
def glob : Nat → List D := fun g => if g = 0 then dirs else []
end Go.Abs.W
