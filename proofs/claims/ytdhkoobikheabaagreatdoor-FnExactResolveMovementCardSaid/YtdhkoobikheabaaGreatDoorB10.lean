import Derived.Test.YtdhkoobikheabaaGreatDoorB7
set_option linter.unusedSimpArgs false
set_option linter.unusedVariables false
set_option maxRecDepth 100000
set_option maxHeartbeats 2000000
namespace Go.Abs.W
open Go Go.Abs Classical
attribute [-simp] Bool.decide_and
@[simp] theorem safe_orders (l : List Order) : safeLL (l.map (Order.enc true)) = true := by
  induction l with
  | nil => rfl
  | cons o l ih => simp [safeLL, Order.enc, safeL, D.safe, ih]
end Go.Abs.W
