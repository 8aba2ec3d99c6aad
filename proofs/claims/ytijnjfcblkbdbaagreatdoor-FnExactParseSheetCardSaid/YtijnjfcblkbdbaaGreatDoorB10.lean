import Derived.Test.YtijnjfcblkbdbaaGreatDoorB4
set_option linter.unusedSimpArgs false
set_option linter.unusedVariables false
set_option maxRecDepth 100000
set_option maxHeartbeats 2000000
namespace Go.Abs.W
open Go Go.Abs Classical
attribute [-simp] Bool.decide_and
@[simp] theorem safe_orders (l : List Order) : safeLL (l.map (Order.enc true)) = true := by
  induction l with
  | nil => rfl
  | cons o l ih => simp [safeLL, Order.enc, safeL, D.safe, ih]
theorem c_laws_heldSheet (x : Sheet) (k : Int) (hl : Len x.orders.length) (hls : ∀ t ∈ x.orders, Len t.path.length) (hk : Mk k (cOrderS x.orders)) :
    C n_laws_heldSheet [.val (.agg [.int .i64 x.side, .list false 3 (mOrderS false k x.orders)]), I k] = some (I (k + cOrderS x.orders)) := by
  refine callC p_laws_heldSheet rfl ?_
  have e1 := c_laws_heldOrderS x.orders k hl hls hk
  have h0 : ¬ k + (cOrderS x.orders : Int) < 0 := by unfold Mk at hk; omega
  simp [xRun, a_laws_heldSheet, e1, h0]
end Go.Abs.W
