/- The library's contracts at this program. -/
import Derived.Test.YtdhkoobikheabaaGreatDoorCode
import Derived.Shelf.SlSortCmp.NoneTotal
import Derived.Shelf.Spec.SlicesGrow
import Derived.KernelRfl
set_option linter.unusedVariables false
set_option maxRecDepth 100000
set_option maxHeartbeats 2000000
namespace Go.Abs.W
open Go Go.Abs Go.Proofs Go.Shelf Go.RowKit
def sortL_ren : Go.Shelf.Ren := ⟨fun | 6 => 68 | 15 => 103 | 14 => 102 | 28 => 146 | 29 => 147 | 20 => 138 | 21 => 139 | 22 => 140 | 23 => 141 | 24 => 142 | 25 => 143 | 26 => 144 | 27 => 145 | 46 => 175 | 47 => 176 | 48 => 177 | 49 => 178 | 50 => 179 | 57 => 199 | n => n, fun | 22 => 55 | 24 => 100 | 25 => 128 | 3 => 3 | 39 => 163 | 0 => 0 | 53 => 198 | 55 => 200 | 4 => 4 | 46 => 192 | 45 => 191 | 50 => 119 | 5 => 5 | 9 => 9 | 66 => 221 | 70 => 225 | 76 => 239 | 77 => 143 | n => n, fun | n => n⟩
theorem sortL : Go.Proofs.SlLaysF0.n6 Tryz.prog sortL_ren where
  mixed := by kernel_rfl
  f6 := ⟨ "slices.SortFunc[[]loop.example/g00886/impl.Order,loop.example/g00886/impl.Order]", by decide, Tryz.func68.trans (congrArg some (by kernel_rfl))⟩
  f14 := ⟨ "slices.pdqsortCmpFunc[loop.example/g00886/impl.Order]", by decide, Tryz.func102.trans (congrArg some (by kernel_rfl))⟩
  f15 := Tryz.func103.trans (congrArg some (by kernel_rfl))
  f20 := ⟨ "slices.insertionSortCmpFunc[loop.example/g00886/impl.Order]", by decide, Tryz.func138.trans (congrArg some (by kernel_rfl))⟩
  f21 := ⟨ "slices.heapSortCmpFunc[loop.example/g00886/impl.Order]", by decide, Tryz.func139.trans (congrArg some (by kernel_rfl))⟩
  f22 := ⟨ "slices.breakPatternsCmpFunc[loop.example/g00886/impl.Order]", by decide, Tryz.func140.trans (congrArg some (by kernel_rfl))⟩
  f23 := ⟨ "slices.choosePivotCmpFunc[loop.example/g00886/impl.Order]", by decide, Tryz.func141.trans (congrArg some (by kernel_rfl))⟩
  f24 := ⟨ "slices.reverseRangeCmpFunc[loop.example/g00886/impl.Order]", by decide, Tryz.func142.trans (congrArg some (by kernel_rfl))⟩
  f25 := ⟨ "slices.partialInsertionSortCmpFunc[loop.example/g00886/impl.Order]", by decide, Tryz.func143.trans (congrArg some (by kernel_rfl))⟩
  f26 := ⟨ "slices.partitionEqualCmpFunc[loop.example/g00886/impl.Order]", by decide, Tryz.func144.trans (congrArg some (by kernel_rfl))⟩
  f27 := ⟨ "slices.partitionCmpFunc[loop.example/g00886/impl.Order]", by decide, Tryz.func145.trans (congrArg some (by kernel_rfl))⟩
  f28 := Tryz.func146.trans (congrArg some (by kernel_rfl))
  f29 := Tryz.func147.trans (congrArg some (by kernel_rfl))
  f46 := ⟨ "slices.siftDownCmpFunc[loop.example/g00886/impl.Order]", by decide, Tryz.func175.trans (congrArg some (by kernel_rfl))⟩
  f47 := Tryz.func176.trans (congrArg some (by kernel_rfl))
  f48 := Tryz.func177.trans (congrArg some (by kernel_rfl))
  f49 := ⟨ "slices.medianAdjacentCmpFunc[loop.example/g00886/impl.Order]", by decide, Tryz.func178.trans (congrArg some (by kernel_rfl))⟩
  f50 := ⟨ "slices.medianCmpFunc[loop.example/g00886/impl.Order]", by decide, Tryz.func179.trans (congrArg some (by kernel_rfl))⟩
  f57 := ⟨ "slices.order2CmpFunc[loop.example/g00886/impl.Order]", by decide, Tryz.func199.trans (congrArg some (by kernel_rfl))⟩
  t0 := Tryz.underlying0
  a0 := Tryz.isAgg0
  z0 := Tryz.sizeOf0
  v0 := Tryz.zeroValue0
  t3 := Tryz.underlying3
  a3 := Tryz.isAgg3
  z3 := Tryz.sizeOf3
  v3 := Tryz.zeroValue3
  t4 := Tryz.underlying4
  a4 := Tryz.isAgg4
  z4 := Tryz.sizeOf4
  v4 := Tryz.zeroValue4
  t5 := Tryz.underlying5
  a5 := Tryz.isAgg5
  z5 := Tryz.sizeOf5
  v5 := Tryz.zeroValue5
  t9 := Tryz.underlying9
  a9 := Tryz.isAgg9
  z9 := Tryz.sizeOf9
  v9 := Tryz.zeroValue9
  t22 := Tryz.underlying55
  a22 := Tryz.isAgg55
  z22 := Tryz.sizeOf55
  v22 := Tryz.zeroValue55
  t25 := Tryz.underlying128
  a25 := Tryz.isAgg128
  z25 := Tryz.sizeOf128
  v25 := Tryz.zeroValue128
  t39 := Tryz.underlying163
  a39 := Tryz.isAgg163
  z39 := Tryz.sizeOf163
  v39 := Tryz.zeroValue163
  t45 := Tryz.underlying191
  a45 := Tryz.isAgg191
  z45 := Tryz.sizeOf191
  v45 := Tryz.zeroValue191
  t46 := Tryz.underlying192
  a46 := Tryz.isAgg192
  z46 := Tryz.sizeOf192
  v46 := Tryz.zeroValue192
  t50 := Tryz.underlying119
  a50 := Tryz.isAgg119
  z50 := Tryz.sizeOf119
  v50 := Tryz.zeroValue119
  t53 := Tryz.underlying198
  a53 := Tryz.isAgg198
  z53 := Tryz.sizeOf198
  v53 := Tryz.zeroValue198
  t55 := Tryz.underlying200
  a55 := Tryz.isAgg200
  z55 := Tryz.sizeOf200
  v55 := Tryz.zeroValue200
  t66 := Tryz.underlying221
  a66 := Tryz.isAgg221
  z66 := Tryz.sizeOf221
  v66 := Tryz.zeroValue221
  t70 := Tryz.underlying225
  a70 := Tryz.isAgg225
  z70 := Tryz.sizeOf225
  v70 := Tryz.zeroValue225
  t76 := Tryz.underlying239
  a76 := Tryz.isAgg239
  z76 := Tryz.sizeOf239
  v76 := Tryz.zeroValue239
  t77 := Tryz.underlying143
  a77 := Tryz.isAgg143
  z77 := Tryz.sizeOf143
  v77 := Tryz.zeroValue143
def growL_ren : Go.Shelf.Ren := ⟨fun | 4 => 101 | n => n, fun | 22 => 55 | 25 => 100 | 3 => 3 | 4 => 4 | 9 => 9 | 20 => 20 | 0 => 0 | n => n, fun | n => n⟩
theorem growL : Go.Proofs.Lays8.n4 Tryz.prog growL_ren where
  mixed := by kernel_rfl
  f4 := ⟨ "slices.Grow[[]loop.example/g00886/impl.Order,loop.example/g00886/impl.Order]", by decide, Tryz.func101.trans (congrArg some (by kernel_rfl))⟩
  t0 := Tryz.underlying0
  a0 := Tryz.isAgg0
  z0 := Tryz.sizeOf0
  v0 := Tryz.zeroValue0
  t3 := Tryz.underlying3
  a3 := Tryz.isAgg3
  z3 := Tryz.sizeOf3
  v3 := Tryz.zeroValue3
  t4 := Tryz.underlying4
  a4 := Tryz.isAgg4
  z4 := Tryz.sizeOf4
  v4 := Tryz.zeroValue4
  t9 := Tryz.underlying9
  a9 := Tryz.isAgg9
  z9 := Tryz.sizeOf9
  v9 := Tryz.zeroValue9
  t20 := Tryz.underlying20
  a20 := Tryz.isAgg20
  z20 := Tryz.sizeOf20
  v20 := Tryz.zeroValue20
  t22 := Tryz.underlying55
  a22 := Tryz.isAgg55
  z22 := Tryz.sizeOf55
  v22 := Tryz.zeroValue55
theorem ok_Grow {args : List AV} {r : AV} (h : hGrow args = some r) : CallOK Tryz.prog n_slices_Grow_impl_Order_impl_Order glob args r := by
  obtain ⟨el, i0, z, hu, hi0, hz0, hsz, hzs, hby⟩ := sliceOwn_spec (P := Tryz.prog) (t := 55) (e := 3) (by decide +kernel)
  obtain rfl : el = 100 := by
    have h1 := Option.some.inj (hu.symm.trans Tryz.underlying55)
    injection h1
  refine grow_ok (el := 100) (z := z.cells) ⟨_, Tryz.func101, by kernel_rfl, by decide⟩ hzs (fun base l c n w h1 h2 h3 h4 => Any8.slices_Grow_room growL base l c n w h1 h2 h3 h4) (fun base l c n cs w h1 h2 h3 h4 h5 h6 => ?_) h
  exact Any8.slices_Grow_grow growL i0 z hi0 hz0 (by omega) base l c n cs w h1 h2 (Nat.le_trans (Nat.mul_le_mul h3 hby) (by decide)) (by omega) (by rw [hsz]; exact h4) h5 h6
open Go.Proofs Go.Sort Go.Lib in
theorem cmp_walk (x y : Int) (x1 x2 y1 y2 : Value) (hx : 0 ≤ x ∧ x < 1048576) (hy : 0 ≤ y ∧ y < 1048576) (W : World) : Calls Tryz.prog 69 #[.agg #[.int .i64 x, x1, x2], .agg #[.int .i64 y, y1, y2]] W fun e w' => e = .returned (.int .i64 (x - y)) ∧ ∃ q os', w' = Sort.grow (W.drewN q) os' := by
  have hw : wrap64 (x - y) = x - y := by unfold wrap64; omega
  go_enter Tryz.func69, Tryz.ntmps69
  go_wp2_with fail
  go_ret
  exact ⟨rfl, 0, _, by rw [alloc_eq_grow, alloc_eq_grow, grow_grow]; rfl⟩
open Go.Proofs Go.Sort Go.Lib in
theorem ok_SortFunc {args : List AV} {r : AV} (h : hSort n_impl_allOrders_1 args = some r) : CallOK Tryz.prog n_slices_SortFunc_impl_Order_impl_Order glob args r := by
  refine sort_ok ⟨_, Tryz.func68, by kernel_rfl, by decide⟩ (fun p cap fv w => AnyF.slices_SortFunc_none sortL p cap fv w) (fun m enc u g cap w h3 h1 h0 hb hi hm hH hg => ?_) h
  have hlt : ∀ x y, ltOf (fun x y => u x - u y) x y = decide (u x < u y) := fun x y => by unfold ltOf; by_cases hh : u x < u y <;> simp [hh] <;> omega
  have hO : SWO (ltOf fun x y => u x - u y) := ⟨fun x => by rw [hlt]; simp, fun x y z a b => by rw [hlt] at *; simp at *; omega, fun x y z a b => by rw [hlt] at *; simp at *; omega⟩
  have hT : ∀ x y, ltOf (fun x y => u x - u y) x y = false → ltOf (fun x y => u x - u y) y x = false → x = y := fun x y a b => hi x y (by rw [hlt] at *; simp at *; omega)
  have henc : ∀ x, ∃ a b, (enc x).toArray = #[.int .i64 (u x), a, b] := fun x => by
    have e3 := h3 x; have e0 := h0 x
    generalize enc x = l at e3 e0
    match l, e3, e0 with
    | [a, b, c], _, e0 => simp at e0; subst e0; exact ⟨b, c, rfl⟩
  have hcmp : CmpLays Tryz.prog 69 #[] enc 3 (fun x y => u x - u y) g 0 (List.finRange (m + 1)).toArray.size w := fun k os dk hs x y => by
    obtain ⟨a, b, e1⟩ := henc x
    obtain ⟨c, d, e2⟩ := henc y
    rw [e1, e2]
    exact cmp_walk (u x) (u y) a b c d (hb x) (hb y) _
  have hs : (List.finRange (m + 1)).toArray.size = m + 1 := by simp
  have hcon := AnyQ.slices_SortFunc_total sortL 3 Tryz.isAgg100 Tryz.sizeOf100 enc h3 h1 (fun x y => u x - u y) hO 69 #[] g 0 cap (List.finRange (m + 1)).toArray w (enters_of Tryz.func69 (by kernel_rfl) rfl) hcmp hH hg (by rw [hs]; omega) hT
  rw [hs] at hcon
  refine hcon.mono fun e w' ⟨he, k, os, hw⟩ => ⟨he, k, os, ?_⟩
  rw [hw]
  congr 3
  funext x y
  rw [hlt]
  by_cases hh : u x ≤ u y <;> simp [hh] <;> omega
theorem hand_ok : HandOK Tryz.prog glob hand := fun f h args r hf hr => by
  unfold hand at hf
  by_cases c0 : f = n_slices_SortFunc_impl_Order_impl_Order
  · subst c0; rw [if_pos rfl] at hf; cases hf; exact ok_SortFunc hr
  rw [if_neg c0] at hf
  by_cases c1 : f = n_slices_Grow_impl_Order_impl_Order
  · subst c1; rw [if_pos rfl] at hf; cases hf; exact ok_Grow hr
  rw [if_neg c1] at hf
  cases hf
end Go.Abs.W
