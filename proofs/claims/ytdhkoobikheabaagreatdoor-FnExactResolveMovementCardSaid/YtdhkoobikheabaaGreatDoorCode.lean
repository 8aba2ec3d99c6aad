/- The abstract code of the functions. -/
import Derived.Test.YtdhkoobikheabaaGreatDoorCode0
import Derived.Test.YtdhkoobikheabaaGreatDoorProg
set_option maxRecDepth 100000
namespace Go.Abs.W
open Go Go.Abs
def codes : List (Nat × AFn) := [(n_laws_FnExactResolveMovement, a_laws_FnExactResolveMovement), (n_laws_szBoard, a_laws_szBoard), (n_laws_szState, a_laws_szState), (n_laws_szSheet, a_laws_szSheet), (n_spec_ResolveMovement, a_spec_ResolveMovement), (n_laws_toBoard, a_laws_toBoard), (n_laws_toState, a_laws_toState), (n_laws_toSheet, a_laws_toSheet), (n_impl_ResolveMovement, a_impl_ResolveMovement), (n_laws_eqState, a_laws_eqState), (n_laws_eqMovedS, a_laws_eqMovedS), (n_laws_eqBoard, a_laws_eqBoard), (n_laws_eqSheet, a_laws_eqSheet), (n_laws_markBoard, a_laws_markBoard), (n_laws_markState, a_laws_markState), (n_laws_markSheet, a_laws_markSheet), (n_laws_markMovedS, a_laws_markMovedS), (n_laws_heldState, a_laws_heldState), (n_laws_heldMovedS, a_laws_heldMovedS), (n_laws_szRules, a_laws_szRules), (n_laws_szMap, a_laws_szMap), (n_laws_szUnitS, a_laws_szUnitS), (n_laws_szOrderS, a_laws_szOrderS), (n_spec_fSheets, a_spec_fSheets), (n_spec_fResolve, a_spec_fResolve), (n_laws_toRules, a_laws_toRules), (n_laws_toMap, a_laws_toMap), (n_laws_toUnitS, a_laws_toUnitS), (n_laws_toOrderS, a_laws_toOrderS), (n_impl_areSheets, a_impl_areSheets), (n_impl_resolveMovement, a_impl_resolveMovement), (n_impl_allOrders, a_impl_allOrders), (n_laws_eqUnitS, a_laws_eqUnitS), (n_laws_eqMoved, a_laws_eqMoved), (n_laws_eqRules, a_laws_eqRules), (n_laws_eqMap, a_laws_eqMap), (n_laws_eqOrderS, a_laws_eqOrderS), (n_laws_markRules, a_laws_markRules), (n_laws_markMap, a_laws_markMap), (n_laws_markUnitS, a_laws_markUnitS), (n_laws_markOrderS, a_laws_markOrderS), (n_laws_heldUnitS, a_laws_heldUnitS), (n_laws_szTerrainS, a_laws_szTerrainS), (n_laws_szKindS, a_laws_szKindS), (n_laws_szIntS, a_laws_szIntS), (n_laws_szOrder, a_laws_szOrder), (n_spec_oGood, a_spec_oGood), (n_spec_fOrders, a_spec_fOrders), (n_spec_fDo, a_spec_fDo), (n_spec_fZone, a_spec_fZone), (n_spec_fAttempts, a_spec_fAttempts), (n_spec_fSettle, a_spec_fSettle), (n_spec_fLeaves, a_spec_fLeaves), (n_laws_toTerrainS, a_laws_toTerrainS), (n_laws_toKindS, a_laws_toKindS), (n_laws_toIntS, a_laws_toIntS), (n_laws_toUnit, a_laws_toUnit), (n_laws_toOrder, a_laws_toOrder), (n_impl_fits, a_impl_fits), (n_impl_goodSheet, a_impl_goodSheet), (n_impl_cloneState, a_impl_cloneState), (n_impl_attemptOf, a_impl_attemptOf), (n_impl_settle, a_impl_settle), (n_impl_madeAttempts, a_impl_madeAttempts), (n_slices_Concat_impl_Order_impl_Order, a_slices_Concat_impl_Order_impl_Order), (n_impl_allOrders_1, a_impl_allOrders_1), (n_laws_eqUnit, a_laws_eqUnit), (n_laws_eqTerrainS, a_laws_eqTerrainS), (n_laws_eqKindS, a_laws_eqKindS), (n_laws_eqIntS, a_laws_eqIntS), (n_laws_eqOrder, a_laws_eqOrder), (n_laws_markTerrainS, a_laws_markTerrainS), (n_laws_markKindS, a_laws_markKindS), (n_laws_markIntS, a_laws_markIntS), (n_laws_szTerrain, a_laws_szTerrain), (n_laws_szKind, a_laws_szKind), (n_spec_sGood, a_spec_sGood), (n_spec_oForm, a_spec_oForm), (n_spec_oFirst, a_spec_oFirst), (n_spec_zIn, a_spec_zIn), (n_spec_mNext, a_spec_mNext), (n_spec_l1In, a_spec_l1In), (n_spec_cStep, a_spec_cStep), (n_spec_fReason, a_spec_fReason), (n_laws_toTerrain, a_laws_toTerrain), (n_laws_toKind, a_laws_toKind), (n_impl_IsBoard, a_impl_IsBoard), (n_impl_goodState, a_impl_goodState), (n_impl_isSide, a_impl_isSide), (n_impl_sheetFault, a_impl_sheetFault), (n_slices_Clone_impl_Unit_impl_Unit, a_slices_Clone_impl_Unit_impl_Unit), (n_impl_inRange, a_impl_inRange), (n_impl_stepCost, a_impl_stepCost), (n_impl_nextTo, a_impl_nextTo), (n_impl_zoneReason, a_impl_zoneReason), (n_slices_Clone_impl_Attempt_impl_Attempt, a_slices_Clone_impl_Attempt_impl_Attempt), (n_impl_attemptReason, a_impl_attemptReason), (n_laws_eqTerrain, a_laws_eqTerrain), (n_laws_eqKind, a_laws_eqKind), (n_laws_markText, a_laws_markText), (n_spec_bGood, a_spec_bGood), (n_spec_sUnit, a_spec_sUnit), (n_spec_sAt, a_spec_sAt), (n_spec_oPlaced, a_spec_oPlaced), (n_spec_oFault, a_spec_oFault), (n_spec_zSources, a_spec_zSources), (n_spec_mIndex, a_spec_mIndex), (n_spec_hStep, a_spec_hStep), (n_spec_mHex, a_spec_mHex), (n_spec_bCost, a_spec_bCost), (n_spec_mRoad, a_spec_mRoad), (n_spec_csWeather, a_spec_csWeather), (n_spec_mRiver, a_spec_mRiver), (n_spec_fStays, a_spec_fStays), (n_impl_IsRules, a_impl_IsRules), (n_impl_IsMap, a_impl_IsMap), (n_slices_ContainsFunc_int_int, a_slices_ContainsFunc_int_int), (n_impl_IsBoard_1, a_impl_IsBoard_1), (n_impl_sizeOf, a_impl_sizeOf), (n_impl_goodUnit, a_impl_goodUnit), (n_impl_orderFault, a_impl_orderFault), (n_impl_enterCost, a_impl_enterCost), (n_impl_edgeOf, a_impl_edgeOf), (n_slices_Contains_int_int, a_slices_Contains_int_int), (n_impl_weatherCost, a_impl_weatherCost), (n_impl_indexOf, a_impl_indexOf), (n_impl_stepBy, a_impl_stepBy), (n_impl_hexOf, a_impl_hexOf), (n_impl_inZone, a_impl_inZone), (n_impl_unitsAt, a_impl_unitsAt), (n_impl_leaves, a_impl_leaves), (n_spec_rGood, a_spec_rGood), (n_spec_mGood, a_spec_mGood), (n_spec_l1All, a_spec_l1All), (n_spec_mSize, a_spec_mSize), (n_spec_oCost, a_spec_oCost), (n_spec_oEnd, a_spec_oEnd), (n_spec_zExerts, a_spec_zExerts), (n_spec_bTerrain, a_spec_bTerrain), (n_spec_l1Has, a_spec_l1Has), (n_spec_mEdge, a_spec_mEdge), (n_impl_goodTerrain, a_impl_goodTerrain), (n_impl_terrainIndex, a_impl_terrainIndex), (n_impl_goodKind, a_impl_goodKind), (n_impl_kindIndex, a_impl_kindIndex), (n_impl_isIndex, a_impl_isIndex), (n_impl_increasing, a_impl_increasing), (n_impl_isEdge, a_impl_isEdge), (n_slices_IndexFunc_int_int, a_slices_IndexFunc_int_int), (n_impl_ownsUnit, a_impl_ownsUnit), (n_impl_PathCost, a_impl_PathCost), (n_impl_neighboursOn, a_impl_neighboursOn), (n_impl_endOf, a_impl_endOf), (n_impl_terrainAt, a_impl_terrainAt), (n_slices_Index_int_int, a_slices_Index_int_int), (n_impl_controls, a_impl_controls), (n_slices_ContainsFunc_impl_Attempt_impl_Attempt, a_slices_ContainsFunc_impl_Attempt_impl_Attempt), (n_impl_leaves_1, a_impl_leaves_1), (n_spec_rName, a_spec_rName), (n_spec_rTerrain, a_spec_rTerrain), (n_spec_rKind, a_spec_rKind), (n_spec_mEdges, a_spec_mEdges), (n_spec_csPath, a_spec_csPath), (n_spec_csCost, a_spec_csCost), (n_impl_isName, a_impl_isName), (n_impl_goodTerrain_1, a_impl_goodTerrain_1), (n_slices_IndexFunc_impl_Terrain_impl_Terrain, a_slices_IndexFunc_impl_Terrain_impl_Terrain), (n_impl_terrainIndex_1, a_impl_terrainIndex_1), (n_slices_IndexFunc_impl_Kind_impl_Kind, a_slices_IndexFunc_impl_Kind_impl_Kind), (n_impl_kindIndex_1, a_impl_kindIndex_1), (n_impl_isMover, a_impl_isMover), (n_impl_isPath, a_impl_isPath), (n_impl_costsAlong, a_impl_costsAlong), (n_impl_sumOf, a_impl_sumOf), (n_impl_pathHexes, a_impl_pathHexes), (n_impl_crossesFreely, a_impl_crossesFreely), (n_slices_IndexFunc_impl_Attempt_impl_Attempt, a_slices_IndexFunc_impl_Attempt_impl_Attempt), (n_spec_l1Rising, a_spec_l1Rising), (n_impl_isKindOf, a_impl_isKindOf), (n_impl_isWeather, a_impl_isWeather), (n_impl_isPath_1, a_impl_isPath_1), (n_impl_isDirection, a_impl_isDirection)]
def prog (f : FuncId) : Option AFn := (codes.find? fun p => p.1 == f).map (·.2)
theorem p_laws_FnExactResolveMovement : prog n_laws_FnExactResolveMovement = some a_laws_FnExactResolveMovement := rfl
theorem p_laws_szBoard : prog n_laws_szBoard = some a_laws_szBoard := rfl
theorem p_laws_szState : prog n_laws_szState = some a_laws_szState := rfl
theorem p_laws_szSheet : prog n_laws_szSheet = some a_laws_szSheet := rfl
theorem p_spec_ResolveMovement : prog n_spec_ResolveMovement = some a_spec_ResolveMovement := rfl
theorem p_laws_toBoard : prog n_laws_toBoard = some a_laws_toBoard := rfl
theorem p_laws_toState : prog n_laws_toState = some a_laws_toState := rfl
theorem p_laws_toSheet : prog n_laws_toSheet = some a_laws_toSheet := rfl
theorem p_impl_ResolveMovement : prog n_impl_ResolveMovement = some a_impl_ResolveMovement := rfl
theorem p_laws_eqState : prog n_laws_eqState = some a_laws_eqState := rfl
theorem p_laws_eqMovedS : prog n_laws_eqMovedS = some a_laws_eqMovedS := rfl
theorem p_laws_eqBoard : prog n_laws_eqBoard = some a_laws_eqBoard := rfl
theorem p_laws_eqSheet : prog n_laws_eqSheet = some a_laws_eqSheet := rfl
theorem p_laws_markBoard : prog n_laws_markBoard = some a_laws_markBoard := rfl
theorem p_laws_markState : prog n_laws_markState = some a_laws_markState := rfl
theorem p_laws_markSheet : prog n_laws_markSheet = some a_laws_markSheet := rfl
theorem p_laws_markMovedS : prog n_laws_markMovedS = some a_laws_markMovedS := rfl
theorem p_laws_heldState : prog n_laws_heldState = some a_laws_heldState := rfl
theorem p_laws_heldMovedS : prog n_laws_heldMovedS = some a_laws_heldMovedS := rfl
theorem p_laws_szRules : prog n_laws_szRules = some a_laws_szRules := rfl
theorem p_laws_szMap : prog n_laws_szMap = some a_laws_szMap := rfl
theorem p_laws_szUnitS : prog n_laws_szUnitS = some a_laws_szUnitS := rfl
theorem p_laws_szOrderS : prog n_laws_szOrderS = some a_laws_szOrderS := rfl
theorem p_spec_fSheets : prog n_spec_fSheets = some a_spec_fSheets := rfl
theorem p_spec_fResolve : prog n_spec_fResolve = some a_spec_fResolve := rfl
theorem p_laws_toRules : prog n_laws_toRules = some a_laws_toRules := rfl
theorem p_laws_toMap : prog n_laws_toMap = some a_laws_toMap := rfl
theorem p_laws_toUnitS : prog n_laws_toUnitS = some a_laws_toUnitS := rfl
theorem p_laws_toOrderS : prog n_laws_toOrderS = some a_laws_toOrderS := rfl
theorem p_impl_areSheets : prog n_impl_areSheets = some a_impl_areSheets := rfl
theorem p_impl_resolveMovement : prog n_impl_resolveMovement = some a_impl_resolveMovement := rfl
theorem p_impl_allOrders : prog n_impl_allOrders = some a_impl_allOrders := rfl
theorem p_laws_eqUnitS : prog n_laws_eqUnitS = some a_laws_eqUnitS := rfl
theorem p_laws_eqMoved : prog n_laws_eqMoved = some a_laws_eqMoved := rfl
theorem p_laws_eqRules : prog n_laws_eqRules = some a_laws_eqRules := rfl
theorem p_laws_eqMap : prog n_laws_eqMap = some a_laws_eqMap := rfl
theorem p_laws_eqOrderS : prog n_laws_eqOrderS = some a_laws_eqOrderS := rfl
theorem p_laws_markRules : prog n_laws_markRules = some a_laws_markRules := rfl
theorem p_laws_markMap : prog n_laws_markMap = some a_laws_markMap := rfl
theorem p_laws_markUnitS : prog n_laws_markUnitS = some a_laws_markUnitS := rfl
theorem p_laws_markOrderS : prog n_laws_markOrderS = some a_laws_markOrderS := rfl
theorem p_laws_heldUnitS : prog n_laws_heldUnitS = some a_laws_heldUnitS := rfl
theorem p_laws_szTerrainS : prog n_laws_szTerrainS = some a_laws_szTerrainS := rfl
theorem p_laws_szKindS : prog n_laws_szKindS = some a_laws_szKindS := rfl
theorem p_laws_szIntS : prog n_laws_szIntS = some a_laws_szIntS := rfl
theorem p_laws_szOrder : prog n_laws_szOrder = some a_laws_szOrder := rfl
theorem p_spec_oGood : prog n_spec_oGood = some a_spec_oGood := rfl
theorem p_spec_fOrders : prog n_spec_fOrders = some a_spec_fOrders := rfl
theorem p_spec_fDo : prog n_spec_fDo = some a_spec_fDo := rfl
theorem p_spec_fZone : prog n_spec_fZone = some a_spec_fZone := rfl
theorem p_spec_fAttempts : prog n_spec_fAttempts = some a_spec_fAttempts := rfl
theorem p_spec_fSettle : prog n_spec_fSettle = some a_spec_fSettle := rfl
theorem p_spec_fLeaves : prog n_spec_fLeaves = some a_spec_fLeaves := rfl
theorem p_laws_toTerrainS : prog n_laws_toTerrainS = some a_laws_toTerrainS := rfl
theorem p_laws_toKindS : prog n_laws_toKindS = some a_laws_toKindS := rfl
theorem p_laws_toIntS : prog n_laws_toIntS = some a_laws_toIntS := rfl
theorem p_laws_toUnit : prog n_laws_toUnit = some a_laws_toUnit := rfl
theorem p_laws_toOrder : prog n_laws_toOrder = some a_laws_toOrder := rfl
theorem p_impl_fits : prog n_impl_fits = some a_impl_fits := rfl
theorem p_impl_goodSheet : prog n_impl_goodSheet = some a_impl_goodSheet := rfl
theorem p_impl_cloneState : prog n_impl_cloneState = some a_impl_cloneState := rfl
theorem p_impl_attemptOf : prog n_impl_attemptOf = some a_impl_attemptOf := rfl
theorem p_impl_settle : prog n_impl_settle = some a_impl_settle := rfl
theorem p_impl_madeAttempts : prog n_impl_madeAttempts = some a_impl_madeAttempts := rfl
theorem p_slices_Concat_impl_Order_impl_Order : prog n_slices_Concat_impl_Order_impl_Order = some a_slices_Concat_impl_Order_impl_Order := rfl
theorem p_impl_allOrders_1 : prog n_impl_allOrders_1 = some a_impl_allOrders_1 := rfl
theorem p_laws_eqUnit : prog n_laws_eqUnit = some a_laws_eqUnit := rfl
theorem p_laws_eqTerrainS : prog n_laws_eqTerrainS = some a_laws_eqTerrainS := rfl
theorem p_laws_eqKindS : prog n_laws_eqKindS = some a_laws_eqKindS := rfl
theorem p_laws_eqIntS : prog n_laws_eqIntS = some a_laws_eqIntS := rfl
theorem p_laws_eqOrder : prog n_laws_eqOrder = some a_laws_eqOrder := rfl
theorem p_laws_markTerrainS : prog n_laws_markTerrainS = some a_laws_markTerrainS := rfl
theorem p_laws_markKindS : prog n_laws_markKindS = some a_laws_markKindS := rfl
theorem p_laws_markIntS : prog n_laws_markIntS = some a_laws_markIntS := rfl
theorem p_laws_szTerrain : prog n_laws_szTerrain = some a_laws_szTerrain := rfl
theorem p_laws_szKind : prog n_laws_szKind = some a_laws_szKind := rfl
theorem p_spec_sGood : prog n_spec_sGood = some a_spec_sGood := rfl
theorem p_spec_oForm : prog n_spec_oForm = some a_spec_oForm := rfl
theorem p_spec_oFirst : prog n_spec_oFirst = some a_spec_oFirst := rfl
theorem p_spec_zIn : prog n_spec_zIn = some a_spec_zIn := rfl
theorem p_spec_mNext : prog n_spec_mNext = some a_spec_mNext := rfl
theorem p_spec_l1In : prog n_spec_l1In = some a_spec_l1In := rfl
theorem p_spec_cStep : prog n_spec_cStep = some a_spec_cStep := rfl
theorem p_spec_fReason : prog n_spec_fReason = some a_spec_fReason := rfl
theorem p_laws_toTerrain : prog n_laws_toTerrain = some a_laws_toTerrain := rfl
theorem p_laws_toKind : prog n_laws_toKind = some a_laws_toKind := rfl
theorem p_impl_IsBoard : prog n_impl_IsBoard = some a_impl_IsBoard := rfl
theorem p_impl_goodState : prog n_impl_goodState = some a_impl_goodState := rfl
theorem p_impl_isSide : prog n_impl_isSide = some a_impl_isSide := rfl
theorem p_impl_sheetFault : prog n_impl_sheetFault = some a_impl_sheetFault := rfl
theorem p_slices_Clone_impl_Unit_impl_Unit : prog n_slices_Clone_impl_Unit_impl_Unit = some a_slices_Clone_impl_Unit_impl_Unit := rfl
theorem p_impl_inRange : prog n_impl_inRange = some a_impl_inRange := rfl
theorem p_impl_stepCost : prog n_impl_stepCost = some a_impl_stepCost := rfl
theorem p_impl_nextTo : prog n_impl_nextTo = some a_impl_nextTo := rfl
theorem p_impl_zoneReason : prog n_impl_zoneReason = some a_impl_zoneReason := rfl
theorem p_slices_Clone_impl_Attempt_impl_Attempt : prog n_slices_Clone_impl_Attempt_impl_Attempt = some a_slices_Clone_impl_Attempt_impl_Attempt := rfl
theorem p_impl_attemptReason : prog n_impl_attemptReason = some a_impl_attemptReason := rfl
theorem p_laws_eqTerrain : prog n_laws_eqTerrain = some a_laws_eqTerrain := rfl
theorem p_laws_eqKind : prog n_laws_eqKind = some a_laws_eqKind := rfl
theorem p_laws_markText : prog n_laws_markText = some a_laws_markText := rfl
theorem p_spec_bGood : prog n_spec_bGood = some a_spec_bGood := rfl
theorem p_spec_sUnit : prog n_spec_sUnit = some a_spec_sUnit := rfl
theorem p_spec_sAt : prog n_spec_sAt = some a_spec_sAt := rfl
theorem p_spec_oPlaced : prog n_spec_oPlaced = some a_spec_oPlaced := rfl
theorem p_spec_oFault : prog n_spec_oFault = some a_spec_oFault := rfl
theorem p_spec_zSources : prog n_spec_zSources = some a_spec_zSources := rfl
theorem p_spec_mIndex : prog n_spec_mIndex = some a_spec_mIndex := rfl
theorem p_spec_hStep : prog n_spec_hStep = some a_spec_hStep := rfl
theorem p_spec_mHex : prog n_spec_mHex = some a_spec_mHex := rfl
theorem p_spec_bCost : prog n_spec_bCost = some a_spec_bCost := rfl
theorem p_spec_mRoad : prog n_spec_mRoad = some a_spec_mRoad := rfl
theorem p_spec_csWeather : prog n_spec_csWeather = some a_spec_csWeather := rfl
theorem p_spec_mRiver : prog n_spec_mRiver = some a_spec_mRiver := rfl
theorem p_spec_fStays : prog n_spec_fStays = some a_spec_fStays := rfl
theorem p_impl_IsRules : prog n_impl_IsRules = some a_impl_IsRules := rfl
theorem p_impl_IsMap : prog n_impl_IsMap = some a_impl_IsMap := rfl
theorem p_slices_ContainsFunc_int_int : prog n_slices_ContainsFunc_int_int = some a_slices_ContainsFunc_int_int := rfl
theorem p_impl_IsBoard_1 : prog n_impl_IsBoard_1 = some a_impl_IsBoard_1 := rfl
theorem p_impl_sizeOf : prog n_impl_sizeOf = some a_impl_sizeOf := rfl
theorem p_impl_goodUnit : prog n_impl_goodUnit = some a_impl_goodUnit := rfl
theorem p_impl_orderFault : prog n_impl_orderFault = some a_impl_orderFault := rfl
theorem p_impl_enterCost : prog n_impl_enterCost = some a_impl_enterCost := rfl
theorem p_impl_edgeOf : prog n_impl_edgeOf = some a_impl_edgeOf := rfl
theorem p_slices_Contains_int_int : prog n_slices_Contains_int_int = some a_slices_Contains_int_int := rfl
theorem p_impl_weatherCost : prog n_impl_weatherCost = some a_impl_weatherCost := rfl
theorem p_impl_indexOf : prog n_impl_indexOf = some a_impl_indexOf := rfl
theorem p_impl_stepBy : prog n_impl_stepBy = some a_impl_stepBy := rfl
theorem p_impl_hexOf : prog n_impl_hexOf = some a_impl_hexOf := rfl
theorem p_impl_inZone : prog n_impl_inZone = some a_impl_inZone := rfl
theorem p_impl_unitsAt : prog n_impl_unitsAt = some a_impl_unitsAt := rfl
theorem p_impl_leaves : prog n_impl_leaves = some a_impl_leaves := rfl
theorem p_spec_rGood : prog n_spec_rGood = some a_spec_rGood := rfl
theorem p_spec_mGood : prog n_spec_mGood = some a_spec_mGood := rfl
theorem p_spec_l1All : prog n_spec_l1All = some a_spec_l1All := rfl
theorem p_spec_mSize : prog n_spec_mSize = some a_spec_mSize := rfl
theorem p_spec_oCost : prog n_spec_oCost = some a_spec_oCost := rfl
theorem p_spec_oEnd : prog n_spec_oEnd = some a_spec_oEnd := rfl
theorem p_spec_zExerts : prog n_spec_zExerts = some a_spec_zExerts := rfl
theorem p_spec_bTerrain : prog n_spec_bTerrain = some a_spec_bTerrain := rfl
theorem p_spec_l1Has : prog n_spec_l1Has = some a_spec_l1Has := rfl
theorem p_spec_mEdge : prog n_spec_mEdge = some a_spec_mEdge := rfl
theorem p_impl_goodTerrain : prog n_impl_goodTerrain = some a_impl_goodTerrain := rfl
theorem p_impl_terrainIndex : prog n_impl_terrainIndex = some a_impl_terrainIndex := rfl
theorem p_impl_goodKind : prog n_impl_goodKind = some a_impl_goodKind := rfl
theorem p_impl_kindIndex : prog n_impl_kindIndex = some a_impl_kindIndex := rfl
theorem p_impl_isIndex : prog n_impl_isIndex = some a_impl_isIndex := rfl
theorem p_impl_increasing : prog n_impl_increasing = some a_impl_increasing := rfl
theorem p_impl_isEdge : prog n_impl_isEdge = some a_impl_isEdge := rfl
theorem p_slices_IndexFunc_int_int : prog n_slices_IndexFunc_int_int = some a_slices_IndexFunc_int_int := rfl
theorem p_impl_ownsUnit : prog n_impl_ownsUnit = some a_impl_ownsUnit := rfl
theorem p_impl_PathCost : prog n_impl_PathCost = some a_impl_PathCost := rfl
theorem p_impl_neighboursOn : prog n_impl_neighboursOn = some a_impl_neighboursOn := rfl
theorem p_impl_endOf : prog n_impl_endOf = some a_impl_endOf := rfl
theorem p_impl_terrainAt : prog n_impl_terrainAt = some a_impl_terrainAt := rfl
theorem p_slices_Index_int_int : prog n_slices_Index_int_int = some a_slices_Index_int_int := rfl
theorem p_impl_controls : prog n_impl_controls = some a_impl_controls := rfl
theorem p_slices_ContainsFunc_impl_Attempt_impl_Attempt : prog n_slices_ContainsFunc_impl_Attempt_impl_Attempt = some a_slices_ContainsFunc_impl_Attempt_impl_Attempt := rfl
theorem p_impl_leaves_1 : prog n_impl_leaves_1 = some a_impl_leaves_1 := rfl
theorem p_spec_rName : prog n_spec_rName = some a_spec_rName := rfl
theorem p_spec_rTerrain : prog n_spec_rTerrain = some a_spec_rTerrain := rfl
theorem p_spec_rKind : prog n_spec_rKind = some a_spec_rKind := rfl
theorem p_spec_mEdges : prog n_spec_mEdges = some a_spec_mEdges := rfl
theorem p_spec_csPath : prog n_spec_csPath = some a_spec_csPath := rfl
theorem p_spec_csCost : prog n_spec_csCost = some a_spec_csCost := rfl
theorem p_impl_isName : prog n_impl_isName = some a_impl_isName := rfl
theorem p_impl_goodTerrain_1 : prog n_impl_goodTerrain_1 = some a_impl_goodTerrain_1 := rfl
theorem p_slices_IndexFunc_impl_Terrain_impl_Terrain : prog n_slices_IndexFunc_impl_Terrain_impl_Terrain = some a_slices_IndexFunc_impl_Terrain_impl_Terrain := rfl
theorem p_impl_terrainIndex_1 : prog n_impl_terrainIndex_1 = some a_impl_terrainIndex_1 := rfl
theorem p_slices_IndexFunc_impl_Kind_impl_Kind : prog n_slices_IndexFunc_impl_Kind_impl_Kind = some a_slices_IndexFunc_impl_Kind_impl_Kind := rfl
theorem p_impl_kindIndex_1 : prog n_impl_kindIndex_1 = some a_impl_kindIndex_1 := rfl
theorem p_impl_isMover : prog n_impl_isMover = some a_impl_isMover := rfl
theorem p_impl_isPath : prog n_impl_isPath = some a_impl_isPath := rfl
theorem p_impl_costsAlong : prog n_impl_costsAlong = some a_impl_costsAlong := rfl
theorem p_impl_sumOf : prog n_impl_sumOf = some a_impl_sumOf := rfl
theorem p_impl_pathHexes : prog n_impl_pathHexes = some a_impl_pathHexes := rfl
theorem p_impl_crossesFreely : prog n_impl_crossesFreely = some a_impl_crossesFreely := rfl
theorem p_slices_IndexFunc_impl_Attempt_impl_Attempt : prog n_slices_IndexFunc_impl_Attempt_impl_Attempt = some a_slices_IndexFunc_impl_Attempt_impl_Attempt := rfl
theorem p_spec_l1Rising : prog n_spec_l1Rising = some a_spec_l1Rising := rfl
theorem p_impl_isKindOf : prog n_impl_isKindOf = some a_impl_isKindOf := rfl
theorem p_impl_isWeather : prog n_impl_isWeather = some a_impl_isWeather := rfl
theorem p_impl_isPath_1 : prog n_impl_isPath_1 = some a_impl_isPath_1 := rfl
theorem p_impl_isDirection : prog n_impl_isDirection = some a_impl_isDirection := rfl
theorem progOK : ProgOK Go.Proofs.Tryz.prog prog := by
  refine progOK_of (l := codes) ?_ fun f x h => ?_
  · decide +kernel
  · simp only [prog, Option.map_eq_some_iff] at h
    obtain ⟨p, h1, rfl⟩ := h
    have h2 := List.find?_some h1
    simp at h2
    subst h2
    exact List.mem_of_find?_eq_some h1
/-- The package's table: the directions. -/
def dirs : List D := [.int .i64 1, .int .i64 0, .int .i64 1, .int .i64 (-1), .int .i64 0, .int .i64 (-1), .int .i64 (-1), .int .i64 0, .int .i64 (-1), .int .i64 1, .int .i64 0, .int .i64 1]
/-- The contracts that are proved by hand. -/
def hand : FuncId → Option (List AV → Option AV) := fun f => if f = n_slices_SortFunc_impl_Order_impl_Order then some (hSort n_impl_allOrders_1) else if f = n_slices_Grow_impl_Order_impl_Order then some hGrow else none
theorem h_slices_SortFunc_impl_Order_impl_Order : hand n_slices_SortFunc_impl_Order_impl_Order = some (hSort n_impl_allOrders_1) := rfl
theorem h_slices_Grow_impl_Order_impl_Order : hand n_slices_Grow_impl_Order_impl_Order = some hGrow := rfl
/-- What the package variables hold. -/
def glob : Nat → List D := fun g => if g = 0 then dirs else []
end Go.Abs.W
