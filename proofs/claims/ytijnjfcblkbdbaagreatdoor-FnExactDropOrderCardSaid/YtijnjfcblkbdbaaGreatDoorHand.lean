/- The library's contracts at this program. -/
import Derived.Test.YtijnjfcblkbdbaaGreatDoorCode
import Derived.Shelf.SlicesE.Delete
import Derived.Shelf.Spec.SlicesInsertGrow
import Derived.Laws.CopyRow
import Derived.Lib.Hide
import Derived.KernelRfl
set_option linter.unusedVariables false
set_option maxRecDepth 100000
set_option maxHeartbeats 2000000
namespace Go.Abs.W
open Go Go.Abs Go.Proofs Go.Shelf Go.RowKit
open Go.Lib
section
variable {P : Program} {w : World}
/-- An append whose run is known, as one step of a region that draws. -/
theorem step_append_runI {ops : Array Oper} {o : Oper} {a : Act} {w : World} {K : Act → World → Prop} {Q : Exit → Act → World → Prop} {E : Prop}
    (hg : o.guard = none) (d x : Operand) (dT sT : TypeId) (hop : o.op = Op.call { callee := Callee.builtin Builtin.append, args := #[d, x], argTypes := #[dT, sT] })
    (v u : Value) (hd : a.eval d = v) (hx : a.eval x = u) {v' : Value} {w' : World} (hr : (Builtin.append_ #[dT, sT] o.type #[v, u]).run P w = .ok v' w') (hK : K (a.put o.dst v') w') :
    if Region.wanted o (yielded ops a.tmps) = true then Oper.wp P o a w K Q else E := by
  have hw : Region.wanted o (yielded ops a.tmps) = true := by simp [Region.wanted, hg]
  rw [if_pos hw]
  unfold Oper.wp
  simp [execOp, hop, resolve, invoke, builtin, hd, hx, hr, Result.andThen]
  exact hK
theorem run_append_row {t el ty : TypeId} {i0 : TypeInfo} (hu : P.underlying t = some (.slice el)) (hi : P.info? el = some i0) {g cap k m c : Nat} {cur : Array Value} {E : TypeId} (hg : w.heap[g]? = some (.cells cur E (0, 0))) (a2 : Addr) (us2 : List Value) (hl2 : us2.length = m * i0.size)
    (hcell2 : ∀ j u, us2[j]? = some u → w.cell? (a2.add j) = some u) (ones : ∀ v ∈ us2, v.oneCell' = true) (hroom : k + m ≤ cap) (hfit : k * i0.size + us2.length ≤ cur.size) :
    (Builtin.append_ #[t, t] ty #[.slice (some ⟨g, 0, none⟩) k cap, .slice (some a2) m c]).run P w = .ok (.slice (some ⟨g, 0, none⟩) (k + m) cap) (w.setRow g (cur.toList.take (k * i0.size) ++ us2 ++ cur.toList.drop (k * i0.size + us2.length)).toArray) := by
  have hf := run_firstCells_some (P := P) w i0.size m a2 m c us2 hl2 hcell2
  have hst := run_storeCells_at P g (k * i0.size) E us2 0 cur w hg (by simpa using hfit) ones
  simp only [Nat.add_zero] at hst
  simp [Builtin.append_, run_underlying hu, sizeOf, typeInfo, hi, Builtin.lenOf, hroom, hf, Addr.add_lit, hst]
theorem run_clear_row {t el ty : TypeId} {z : Value} (hu : P.underlying t = some (.slice el)) (hz : ∀ w, (zeroValue el).run P w = .ok z w) {g o m c : Nat} {cur : Array Value} {E : TypeId} (hg : w.heap[g]? = some (.cells cur E (0, 0)))
    (ones : ∀ v ∈ (Builtin.zeroCells z.cells (m + 1)).toList, v.oneCell' = true) (hfit : o + (Builtin.zeroCells z.cells (m + 1)).size ≤ cur.size) :
    (Builtin.clear_ #[t] ty #[.slice (some ⟨g, o, none⟩) (m + 1) c]).run P w = .ok (.tuple #[]) (w.setRow g (cur.toList.take o ++ (Builtin.zeroCells z.cells (m + 1)).toList ++ cur.toList.drop (o + (Builtin.zeroCells z.cells (m + 1)).size)).toArray) := by
  have hst := run_storeCells_at P g o E (Builtin.zeroCells z.cells (m + 1)).toList 0 cur w hg (by simpa using hfit) ones
  simp only [Nat.add_zero, Array.length_toList] at hst
  simp [Builtin.clear_, run_underlying hu, hz, hst]
end
theorem zOrd : ∃ z, (∀ w, (zeroValue 69).run Tryz.prog w = .ok z w) ∧ z.cells.size = 3 ∧ (∀ v ∈ z.cells.toList, v.oneCell' = true) := ⟨_, Tryz.zeroValue69, rfl, by simp [Value.cells]; decide⟩
theorem del_walk (g n cap i j : Nat) (cur : Array Value) (E : TypeId) (w : World) (hg : w.heap[g]? = some (.cells cur E (0, 0))) (hs : cur.size = cap * 3) (hn : n ≤ cap) (hcap : cap ≤ maxLen)
    (h1 : ∀ v ∈ cur.toList.take (n * 3), v.oneCell' = true) (hij : i < j) (hj : j ≤ n) :
    Calls Tryz.prog 53 #[.slice (some ⟨g, 0, none⟩) n cap, .int .i64 i, .int .i64 j] w fun e w' =>
      e = .returned (.slice (some ⟨g, 0, none⟩) (i + (n - j)) cap) ∧ ∃ zs, zs.length = (j - i) * 3 ∧
        w' = (w.drew.setRow g (cur.toList.take (i * 3) ++ (cur.toList.drop (j * 3)).take ((n - j) * 3) ++ cur.toList.drop (i * 3 + (n - j) * 3)).toArray).setRow g
          (cur.toList.take (i * 3) ++ (cur.toList.drop (j * 3)).take ((n - j) * 3) ++ zs ++ (cur.toList.drop (i * 3 + (n - j) * 3)).drop ((j - i) * 3)).toArray := by
  obtain ⟨z, hz, hzs, hz1⟩ := zOrd
  have hcap' : cap ≤ 9223372036854775807 := hcap
  have hso : sliceOwn Tryz.prog 40 3 = true := by decide +kernel
  obtain ⟨el, i0, z0, hu, hi, hz0, hsz, hzs0, hby⟩ := sliceOwn_spec hso
  obtain rfl : el = 69 := by
    have := hu.symm.trans Tryz.underlying40
    injection this with this
    injection this with this
  have hij2 : i ≤ j := by omega
  have hne : ¬ (i : Int) = (j : Int) := by omega
  have hne2 : ¬ i = j := by omega
  have hic : i ≤ cap := by omega
  have hjc : j ≤ cap := by omega
  have hC1 : ((cur.toList.drop (j * 3)).take ((n - j) * 3)).length = (n - j) * 3 := by simp; omega
  obtain ⟨C1, eC1⟩ : ∃ C1, C1 = (cur.toList.take (i * 3) ++ (cur.toList.drop (j * 3)).take ((n - j) * 3) ++ cur.toList.drop (i * 3 + (n - j) * 3)).toArray := ⟨_, rfl⟩
  have sC1 : C1.size = cap * 3 := by rw [eC1]; simp; omega
  obtain ⟨W1, hW1⟩ : ∃ W1, W1 = w.drew.setRow g C1 := ⟨_, rfl⟩
  have hg1 : W1.heap[g]? = some (.cells C1 E (0, 0)) := by rw [hW1]; exact setRow_heap w.drew g cur C1 E (0, 0) hg
  have hrow : ∀ ad : Addr, (∀ t u, ((cur.toList.drop (j * 3)).take ((n - j) * 3))[t]? = some u → w.drew.cell? (ad.add t) = some u) → ∀ ty, (Builtin.append_ #[40, 40] ty #[.slice (some ⟨g, 0, none⟩) i cap, .slice (some ad) (n - j) (cap - j)]).run Tryz.prog w.drew = .ok (.slice (some ⟨g, 0, none⟩) (i + (n - j)) cap) W1 := fun ad had ty => by
    have := run_append_row (w := w.drew) (ty := ty) (c := cap - j) hu hi (k := i) (m := n - j) (cap := cap) (show w.drew.heap[g]? = some (.cells cur E (0, 0)) from hg) ad ((cur.toList.drop (j * 3)).take ((n - j) * 3)) (by rw [hC1, hsz]) had
      (fun v hv => h1 v (by
        obtain ⟨t, ht⟩ := List.mem_iff_getElem?.1 hv
        rw [List.getElem?_take] at ht
        split at ht
        · rw [List.getElem?_drop] at ht
          refine List.mem_iff_getElem?.2 ⟨j * 3 + t, ?_⟩
          rw [List.getElem?_take, if_pos (by omega)]; exact ht
        · cases ht)) (by omega) (by rw [hC1, hsz]; omega)
    rw [hsz, hC1, ← eC1, ← hW1] at this
    exact this
  have hzl : (Builtin.zeroCells z.cells (j - i - 1 + 1)).size = (j - i) * 3 := by rw [size_zeroCells, hzs]; omega
  have hcl : ∀ ty, (Builtin.clear_ #[40] ty #[.slice (some ⟨g, (i + (n - j)) * 3, none⟩) (n - (i + (n - j))) (cap - (i + (n - j)))]).run Tryz.prog W1 = .ok (.tuple #[]) (W1.setRow g (C1.toList.take ((i + (n - j)) * 3) ++ (Builtin.zeroCells z.cells (j - i - 1 + 1)).toList ++ C1.toList.drop ((i + (n - j)) * 3 + (j - i) * 3)).toArray) := fun ty => by
    rw [show n - (i + (n - j)) = (j - i - 1) + 1 by omega, ← hzl]
    exact run_clear_row hu hz hg1 (fun v hv => by
      obtain ⟨t, ht⟩ := List.mem_iff_getElem?.1 hv
      refine hz1 v ?_
      have h3 : (Builtin.zeroCells z.cells (j - i - 1 + 1)).toList = (List.replicate (j - i - 1 + 1) z.cells.toList).flatten := made_rows _ _
      rw [h3] at ht
      obtain ⟨r, hr, hv⟩ := List.mem_flatten.1 (List.mem_of_getElem? ht)
      rw [List.eq_of_mem_replicate hr] at hv
      exact hv) (by rw [hzl, sC1]; omega)
  have e2 : (C1.toList.take ((i + (n - j)) * 3) ++ (Builtin.zeroCells z.cells (j - i - 1 + 1)).toList ++ C1.toList.drop ((i + (n - j)) * 3 + (j - i) * 3)).toArray = (cur.toList.take (i * 3) ++ (cur.toList.drop (j * 3)).take ((n - j) * 3) ++ (Builtin.zeroCells z.cells (j - i - 1 + 1)).toList ++ (cur.toList.drop (i * 3 + (n - j) * 3)).drop ((j - i) * 3)).toArray := by
    have hA : (cur.toList.take (i * 3)).length = i * 3 := by simp; omega
    have hAM : (cur.toList.take (i * 3) ++ (cur.toList.drop (j * 3)).take ((n - j) * 3)).length = (i + (n - j)) * 3 := by rw [List.length_append, hA, hC1]; omega
    have e3 : C1.toList = (cur.toList.take (i * 3) ++ (cur.toList.drop (j * 3)).take ((n - j) * 3)) ++ cur.toList.drop (i * 3 + (n - j) * 3) := by rw [eC1]
    rw [e3, List.take_left' hAM, ← List.drop_drop, List.drop_left' hAM]
  have X : Hid (W1 = w.drew.setRow g C1) := hW1
  have Y : Hid (C1 = (cur.toList.take (i * 3) ++ (cur.toList.drop (j * 3)).take ((n - j) * 3) ++ cur.toList.drop (i * 3 + (n - j) * 3)).toArray) := eC1
  have Z2 := Go.Lib.hid e2
  have ZL := Go.Lib.hid hzl
  have H := Go.Lib.hid hg
  have hfin : ∀ w', w' = W1.setRow g (C1.toList.take ((i + (n - j)) * 3) ++ (Builtin.zeroCells z.cells (j - i - 1 + 1)).toList ++ C1.toList.drop ((i + (n - j)) * 3 + (j - i) * 3)).toArray → ∃ zs, zs.length = (j - i) * 3 ∧
        w' = (w.drew.setRow g (cur.toList.take (i * 3) ++ (cur.toList.drop (j * 3)).take ((n - j) * 3) ++ cur.toList.drop (i * 3 + (n - j) * 3)).toArray).setRow g
          (cur.toList.take (i * 3) ++ (cur.toList.drop (j * 3)).take ((n - j) * 3) ++ zs ++ (cur.toList.drop (i * 3 + (n - j) * 3)).drop ((j - i) * 3)).toArray := by
    intro w' hw
    refine ⟨(Builtin.zeroCells z.cells (j - i - 1 + 1)).toList, by simpa using hzl, ?_⟩
    rw [hw, e2, hW1, ← eC1]
  obtain ⟨W2, hW2⟩ : ∃ W2, W2 = W1.setRow g (C1.toList.take ((i + (n - j)) * 3) ++ (Builtin.zeroCells z.cells (j - i - 1 + 1)).toList ++ C1.toList.drop ((i + (n - j)) * 3 + (j - i) * 3)).toArray := ⟨_, rfl⟩
  rw [← hW2] at hcl
  have F := Go.Lib.hid (hfin _ hW2)
  clear hW1 eC1 hg1 sC1 hC1 e2 hfin hzl hg hW2 Z2 ZL X Y hz1 hzs hz z hs h1
  by_cases hcj : cap = j
  · obtain rfl : n = cap := by omega
    subst hcj
    have hrow1 := hrow ⟨g, 0, none⟩ (fun t u hu => by simp at hu)
    clear hrow
    have hcl1 : ∀ ty, (Builtin.clear_ #[40] ty #[.slice (some ⟨g, i * 3, none⟩) (n - i) (n - i)]).run Tryz.prog W1 = .ok (.tuple #[]) W2 := fun ty => by
      have := hcl ty
      rwa [Nat.sub_self, Nat.add_zero] at this
    have e : i + (n - n) = i := by omega
    rw [Nat.sub_self, Nat.add_zero] at hrow1
    clear hcl
    have key : Calls Tryz.prog 53 #[.slice (some ⟨g, 0, none⟩) n n, .int .i64 i, .int .i64 n] w fun e w' => e = .returned (.slice (some ⟨g, 0, none⟩) i n) ∧ w' = W2 := by
      clear F
      go_enter Tryz.func53, Tryz.ntmps53
      go_wp2_with fail
      go_region_law_o (refine step_append_runI rfl (.tmp 22) (.tmp 25) 40 40 rfl _ _ (by simp [Act.eval, Act.put]) (by simp [Act.eval, Act.put]) (hrow1 _) ?_)
      go_wp2
      go_ret
      exact ⟨rfl, rfl⟩
    refine key.mono fun e' w' ⟨he, hw⟩ => ?_
    rw [e]
    subst hw
    exact ⟨he, F.out⟩
  · have hrow1 := hrow ⟨g, j * 3, none⟩ (fun t u hu => by
      rw [addr_add]
      refine cells_of_row (show w.drew.heap[g]? = some (.cells cur E (0, 0)) from H.out) (j * 3) t u ?_
      rw [List.getElem?_take] at hu
      split at hu
      · exact hu
      · cases hu)
    clear hrow
    have key : Calls Tryz.prog 53 #[.slice (some ⟨g, 0, none⟩) n cap, .int .i64 i, .int .i64 j] w fun e w' => e = .returned (.slice (some ⟨g, 0, none⟩) (i + (n - j)) cap) ∧ w' = W2 := by
      clear F
      go_enter Tryz.func53, Tryz.ntmps53
      go_wp2_with fail
      go_region_law_o (refine step_append_runI rfl (.tmp 22) (.tmp 25) 40 40 rfl _ _ (by simp [Act.eval, Act.put]) (by simp [Act.eval, Act.put]) (hrow1 _) ?_)
      go_wp2
      go_ret
      exact ⟨rfl, rfl⟩
    refine key.mono fun e' w' ⟨he, hw⟩ => ?_
    subst hw
    exact ⟨he, F.out⟩
theorem ok_Delete {args : List AV} {r : AV} (h : hDelete args = some r) : CallOK Tryz.prog n_slices_Delete_impl_Order_impl_Order glob args r :=
  delete_ok ⟨_, Tryz.func53, by kernel_rfl, by decide⟩ (fun g n cap i j cur E w hg hs hn hcap h1 hij hj => del_walk g n cap i j cur E w hg hs hn hcap h1 hij hj) h
theorem hand_ok : HandOK Tryz.prog glob hand := fun f h args r hf hr => by
  unfold hand at hf
  by_cases c0 : f = n_slices_Delete_impl_Order_impl_Order
  · subst c0; rw [if_pos rfl] at hf; cases hf; exact ok_Delete hr
  rw [if_neg c0] at hf
  cases hf
end Go.Abs.W
