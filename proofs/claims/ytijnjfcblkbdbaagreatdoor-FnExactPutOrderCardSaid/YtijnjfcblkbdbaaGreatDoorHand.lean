/- The library's contracts at this program. -/
import Derived.Test.YtijnjfcblkbdbaaGreatDoorCode
import Derived.Shelf.SlicesE.Delete
import Derived.Shelf.Spec.SlicesInsertGrow
import Derived.Laws.CopyRow
import Derived.Lib.Hide
import Derived.KernelRfl
set_option linter.unusedVariables false
set_option maxRecDepth 100000
set_option maxHeartbeats 2000000
namespace Go.Abs.W
open Go Go.Abs Go.Proofs Go.Shelf Go.RowKit
open Go.Lib
section
variable {P : Program}
theorem run_copy_rowk (w : World) (dT sT ty elem : TypeId) {i : TypeInfo} (g o dLen dCap : Nat) (a : Addr) (sLen sCap m : Nat) (cur : Array Value) (t : TypeId) (cs : List Value)
    (hu : P.underlying dT = some (.slice elem)) (hi : P.info? elem = some i)
    (hg : w.heap[g]? = some (.cells cur t (0, 0))) (hm : m = Nat.min sLen dLen) (hn : cs.length = m * i.size)
    (hsrc : ∀ j v, cs[j]? = some v → w.cell? (a.add j) = some v) (hfit : o + cs.length ≤ cur.size) (h1 : ∀ v ∈ cs, v.oneCell' = true) :
    (Builtin.copy_ #[dT, sT] ty #[.slice (some ⟨g, o, none⟩) dLen dCap, .slice (some a) sLen sCap]).run P w =
      .ok (goInt m) (w.setRow g (cur.toList.take o ++ cs ++ cur.toList.drop (o + cs.length)).toArray) := by
  have hl := run_loadCells_list (P := P) w a cs hsrc
  have hst := run_storeCells_at P g o t cs 0 cur w hg (by simpa using hfit) h1
  simp [Builtin.copy_, run_underlying hu, Builtin.lenOf, Builtin.firstCells, sizeOf, typeInfo, hi, ← hm, ← hn, hl, hst]
end
theorem addr_in (g o t : Nat) : (⟨g, o, none⟩ : Addr).add t = ⟨g, o + t, none⟩ := by unfold Addr.add; split <;> simp_all
/-- slices.Insert: there is room, i < len(s). -/
theorem ins_shift (g n cap i gb vo m vc : Nat) (cur : Array Value) (E : TypeId) (us : List Value) (w : World) (hg : w.heap[g]? = some (.cells cur E (0, 0))) (hs : cur.size = cap * 3) (hcap : cap ≤ maxLen)
    (h1 : ∀ v ∈ cur.toList.take (n * 3), v.oneCell' = true) (hi : i < n) (hm : 0 < m) (hroom : n + m ≤ cap) (hne : gb ≠ g) (hul : us.length = m * 3) (hu1 : ∀ v ∈ us, v.oneCell' = true)
    (curB : Array Value) (EB : TypeId) (hgb : w.heap[gb]? = some (.cells curB EB (0, 0))) (hus : ∀ t u, us[t]? = some u → curB[vo + t]? = some u) :
    Calls Tryz.prog 66 #[.slice (some ⟨g, 0, none⟩) n cap, .int .i64 i, .slice (some ⟨gb, vo, none⟩) m vc] w fun e w' =>
      e = .returned (.slice (some ⟨g, 0, none⟩) (n + m) cap) ∧ ∃ cur1 : List Value, cur1 = cur.toList.take ((i + m) * 3) ++ (cur.toList.drop (i * 3)).take ((n - i) * 3) ++ cur.toList.drop ((i + m) * 3 + (n - i) * 3) ∧
        w' = (w.drew.setRow g cur1.toArray).setRow g (cur1.take (i * 3) ++ us ++ cur1.drop (i * 3 + m * 3)).toArray := by
  have hcap' : cap ≤ 9223372036854775807 := hcap
  have hso : sliceOwn Tryz.prog 40 3 = true := by decide +kernel
  obtain ⟨el, i0, z0, hu, hi0, hz0, hsz, hzs0, hby⟩ := sliceOwn_spec hso
  obtain rfl : el = 69 := by
    have := hu.symm.trans Tryz.underlying40
    injection this with this
    injection this with this
  have hcurl : cur.toList.length = cap * 3 := by simpa using hs
  have hC : ((cur.toList.drop (i * 3)).take ((n - i) * 3)).length = (n - i) * 3 := by rw [List.length_take, List.length_drop, hcurl]; omega
  obtain ⟨C1, eC1⟩ : ∃ C1 : List Value, C1 = cur.toList.take ((i + m) * 3) ++ (cur.toList.drop (i * 3)).take ((n - i) * 3) ++ cur.toList.drop ((i + m) * 3 + (n - i) * 3) := ⟨_, rfl⟩
  have sC1 : C1.length = cap * 3 := by rw [eC1]; simp only [List.length_append, List.length_take, List.length_drop, hcurl]; omega
  obtain ⟨W1, hW1⟩ : ∃ W1, W1 = w.drew.setRow g C1.toArray := ⟨_, rfl⟩
  have hg1 : W1.heap[g]? = some (.cells C1.toArray E (0, 0)) := by rw [hW1]; exact setRow_heap w.drew g cur C1.toArray E (0, 0) hg
  have hgb1 : W1.heap[gb]? = some (.cells curB EB (0, 0)) := by rw [hW1, setRow_other _ g gb _ hne]; exact hgb
  have hshb : ∀ W : World, W.heap[gb]? = some (.cells curB EB (0, 0)) → ∀ t u, us[t]? = some u → W.cell? ((⟨gb, vo, none⟩ : Addr).add t) = some u := fun W hW t u ht => by
    rw [addr_in]; simp [World.cell?, hW, hus t u ht]
  have hov : ∀ lb cb, (callFunc 102 #[.slice (some ⟨gb, vo, none⟩) m vc, .slice (some ⟨g, (i + m) * 3, none⟩) lb cb]).run Tryz.prog w = .ok (.value (.bool false)) w := fun lb cb => by
    rw [run_callFunc_extern Tryz.func102 (by kernel_rfl) (by kernel_rfl) (by kernel_rfl) (e := Extern.SlicesOverlaps.overlaps #[40, 40] #[4]) (by kernel_rfl),
      Lib.run_overlaps_apart w 40 4 69 Tryz.underlying40 3 Tryz.sizeOf69 ⟨gb, vo, none⟩ ⟨g, (i + m) * 3, none⟩ m vc lb cb hne EB E curB.size (cap * 3) (by simp [World.shape?, hgb]) (by simp [World.shape?, hg, hs]) (by omega) (by simp [World.frozen?, hgb]) (by simp [World.frozen?, hgb])]
    rfl
  have hcp1 : ∀ ty dc sc, (Builtin.copy_ #[40, 40] ty #[.slice (some ⟨g, (i + m) * 3, none⟩) (n + m - (i + m)) dc, .slice (some ⟨g, i * 3, none⟩) (n + m - i) sc]).run Tryz.prog w.drew = .ok (goInt ((n - i : Nat) : Int)) W1 := fun ty dc sc => by
    have := run_copy_rowk w.drew 40 40 ty 69 g ((i + m) * 3) (n + m - (i + m)) dc ⟨g, i * 3, none⟩ (n + m - i) sc (n - i) cur E ((cur.toList.drop (i * 3)).take ((n - i) * 3)) hu hi0 (show w.drew.heap[g]? = _ from hg)
      (by simp only [Nat.min_def]; split <;> omega) (by rw [hC, hsz])
      (fun j v hj => by
        rw [addr_in]
        refine cells_of_row (show w.drew.heap[g]? = some (.cells cur E (0, 0)) from hg) (i * 3) j v ?_
        rw [List.getElem?_take] at hj
        split at hj
        · exact hj
        · cases hj) (by rw [hC, hs]; omega)
      (fun v hv => h1 v (by
        obtain ⟨t, ht⟩ := List.mem_iff_getElem?.1 hv
        rw [List.getElem?_take] at ht
        split at ht
        · rw [List.getElem?_drop] at ht
          refine List.mem_iff_getElem?.2 ⟨i * 3 + t, ?_⟩
          rw [List.getElem?_take, if_pos (by omega)]; exact ht
        · cases ht))
    rw [hC, ← eC1, ← hW1] at this
    exact this
  have hcp2 : ∀ (W : World), W = W1 → ∀ ty dc, (Builtin.copy_ #[40, 40] ty #[.slice (some ⟨g, i * 3, none⟩) (n + m - i) dc, .slice (some ⟨gb, vo, none⟩) m vc]).run Tryz.prog W = .ok (goInt m) (W1.setRow g (C1.take (i * 3) ++ us ++ C1.drop (i * 3 + m * 3)).toArray) := fun W hW ty dc => by
    subst hW
    have := run_copy_rowk W 40 40 ty 69 g (i * 3) (n + m - i) dc ⟨gb, vo, none⟩ m vc m C1.toArray E us hu hi0 hg1 (by simp only [Nat.min_def]; split <;> omega) (by rw [hul, hsz]) (hshb W hgb1) (by rw [hul, List.size_toArray, sC1]; omega) hu1
    rw [hul] at this
    exact this
  obtain ⟨W2, hW2⟩ : ∃ W2, W2 = W1.setRow g (C1.take (i * 3) ++ us ++ C1.drop (i * 3 + m * 3)).toArray := ⟨_, rfl⟩
  rw [← hW2] at hcp2
  have F : Hid (∃ cur1 : List Value, cur1 = cur.toList.take ((i + m) * 3) ++ (cur.toList.drop (i * 3)).take ((n - i) * 3) ++ cur.toList.drop ((i + m) * 3 + (n - i) * 3) ∧
        W2 = (w.drew.setRow g cur1.toArray).setRow g (cur1.take (i * 3) ++ us ++ cur1.drop (i * 3 + m * 3)).toArray) := Go.Lib.hid ⟨C1, eC1, by rw [hW2, hW1]⟩
  clear hW2 hW1 eC1 sC1 hC hg1 hgb1 hshb hg hgb hus hu1 hul h1 hs hcurl
  have hz1 : ¬ ((m : Int) = 0) := by omega
  have hz2 : ¬ ((i : Int) = (n : Int)) := by omega
  have hz3 : ¬ ((cap : Int) < (n : Int) + (m : Int)) := by omega
  have hw1 : IntKind.i64.wrap ((i : Int) + (m : Int)) = (i : Int) + (m : Int) := by rw [IntKind.wrap_i64]; omega
  have hb1 : (0 : Int) ≤ (i : Int) + (m : Int) := by omega
  have hin : i ≤ n := by omega
  have htn : ((i : Int) + (m : Int)).toNat = i + m := by omega
  have hb2 : ¬ (cap = i + m) := by omega
  have hb3 : (i : Int) ≤ (n : Int) + (m : Int) := by omega
  have hb4 : ¬ (cap = i) := by omega
  have key : Calls Tryz.prog 66 #[.slice (some ⟨g, 0, none⟩) n cap, .int .i64 i, .slice (some ⟨gb, vo, none⟩) m vc] w fun e w' => e = .returned (.slice (some ⟨g, 0, none⟩) (n + m) cap) ∧ w' = W2 := by
    clear F
    go_enter Tryz.func66, Tryz.ntmps66
    go_wp2_with (simp only [hov])
    go_region_law_o (refine step_copy_runI rfl _ _ 40 40 rfl _ _ (by simp [Act.eval, Act.put]) (by simp [Act.eval, Act.put]) (hcp1 _ _ _) ?_)
    go_wp2_with (at_builtin; refine wpList_copy_runI _ rfl _ _ 40 40 rfl _ _ rfl rfl (hcp2 _ rfl _ _) ?_)
    go_ret
    exact ⟨rfl, rfl⟩
  exact key.mono fun e' w' ⟨he, hw⟩ => ⟨he, by subst hw; exact F.out⟩
/-- slices.Insert: no room, i < len(s): a new row. -/
theorem ins_grow (g n cap i gb vo m vc : Nat) (cur : Array Value) (E : TypeId) (us : List Value) (w : World) (hg : w.heap[g]? = some (.cells cur E (0, 0))) (hs : cur.size = cap * 3) (hn : n ≤ cap)
    (h1 : ∀ v ∈ cur.toList.take (n * 3), v.oneCell' = true) (hi : i < n) (hm : 0 < m) (hroom : cap < n + m) (hbig : n + m ≤ 68719476736) (hul : us.length = m * 3) (hu1 : ∀ v ∈ us, v.oneCell' = true)
    (curB : Array Value) (EB : TypeId) (hgb : w.heap[gb]? = some (.cells curB EB (0, 0))) (hus : ∀ t u, us[t]? = some u → curB[vo + t]? = some u) :
    Calls Tryz.prog 66 #[.slice (some ⟨g, 0, none⟩) n cap, .int .i64 i, .slice (some ⟨gb, vo, none⟩) m vc] w fun e w' =>
      ∃ (G : Nat) (R0 R1 : List Value), n + m ≤ G ∧ G ≤ maxLen ∧ e = .returned (.slice (some ⟨w.heap.size, 0, none⟩) (n + m) G) ∧ R0.length = G * 3 ∧ R0.take (i * 3) = cur.toList.take (i * 3) ∧
        R1 = R0.take (i * 3) ++ us ++ R0.drop (i * 3 + m * 3) ∧
        w' = ((((w.alloc (.cells R0.toArray 69)).drew.setRow w.heap.size R1.toArray)).drew).setRow w.heap.size (R1.take ((i + m) * 3) ++ (cur.toList.drop (i * 3)).take ((n - i) * 3) ++ R1.drop ((i + m) * 3 + (n - i) * 3)).toArray := by
  have hso : sliceOwn Tryz.prog 40 3 = true := by decide +kernel
  obtain ⟨el, i0, z0, hu, hi0, hz0, hsz, hzs0, hby⟩ := sliceOwn_spec hso
  obtain rfl : el = 69 := by
    have := hu.symm.trans Tryz.underlying40
    injection this with this
    injection this with this
  have hcurl : cur.toList.length = cap * 3 := by simpa using hs
  have hC : ((cur.toList.drop (i * 3)).take ((n - i) * 3)).length = (n - i) * 3 := by rw [List.length_take, List.length_drop, hcurl]; omega
  have hkk : (n : Int) + (m : Int) - (i : Int) = ((n + m - i : Nat) : Int) := by omega
  have hik : i + (n + m - i) = n + m := by omega
  have hgl : g < w.heap.size := (Array.getElem?_eq_some_iff.1 hg).1
  have hgbl : gb < w.heap.size := (Array.getElem?_eq_some_iff.1 hgb).1
  have hby2 : ∀ k, k ≤ 68719476736 → k * i0.bytes ≤ 140737488355328 := fun k hk => Nat.le_trans (Nat.mul_le_mul hk hby) (by decide)
  have hold : (Builtin.firstCells i0.size i (.slice (some ⟨g, 0, none⟩) i cap)).run Tryz.prog w.drew = .ok (cur.toList.take (i * 3)).toArray w.drew := by
    rw [hsz]
    exact run_firstCells_some w.drew 3 i ⟨g, 0, none⟩ i cap (cur.toList.take (i * 3)) (by rw [List.length_take, hcurl]; omega) (fun j v hj => by
      rw [addr_in]
      refine cells_of_row (show w.drew.heap[g]? = some (.cells cur E (0, 0)) from hg) 0 j v ?_
      rw [List.drop_zero]
      rw [List.getElem?_take] at hj
      split at hj
      · exact hj
      · cases hj)
  have hrz : ∀ ty, (Builtin.append_ #[40, 3] ty #[.slice (some ⟨g, 0, none⟩) i cap, .int .i64 ((n : Int) + (m : Int) - (i : Int))]).run Tryz.prog w =
      .ok (.slice (some ⟨w.heap.size, 0, none⟩) (n + m) (grownCap w (n + m) cap 69)) (w.drew.alloc (.cells ((cur.toList.take (i * 3)).toArray ++ Builtin.zeroCells z0.cells (n + m - i) ++ Builtin.zeroCells z0.cells (grownCap w (n + m) cap 69 - (n + m))) 69)) := fun ty => by
    have h := Lib.run_append_grow_zeros w 40 3 ty 69 i0 _ .i64 .i64 hu Tryz.underlying3 hi0 hz0 (some ⟨g, 0, none⟩) i cap (cur.toList.take (i * 3)) hold (n + m - i) (by omega) (by omega) (by omega) (by omega) (by have := hby2 (n + m - i) (by omega); omega) (by rw [hik]; exact growslice_fits hroom (hby2 _ hbig))
    rw [hik] at h
    rw [hkk]
    exact h
  obtain ⟨G, hG⟩ : ∃ G, G = grownCap w (n + m) cap 69 := ⟨_, rfl⟩
  obtain ⟨R0, hR0⟩ : ∃ R0 : List Value, R0 = ((cur.toList.take (i * 3)).toArray ++ Builtin.zeroCells z0.cells (n + m - i) ++ Builtin.zeroCells z0.cells (G - (n + m))).toList := ⟨_, rfl⟩
  have hGn : n + m ≤ G := by rw [hG]; exact grownCap_ge w _ _ _
  have hGm : G ≤ maxLen := by rw [hG]; exact grownCap_le_maxLen w (n + m) cap 69 (by simp only [maxLen]; omega)
  have hRl : R0.length = G * 3 := by
    rw [hR0]
    simp only [Array.toList_append, List.length_append, Array.length_toList, size_zeroCells, hzs0, List.length_take, hcurl]
    omega
  have hRt : R0.take (i * 3) = cur.toList.take (i * 3) := by
    rw [hR0, Array.toList_append, Array.toList_append, List.append_assoc]
    exact List.take_left' (by rw [List.length_take, hcurl]; omega)
  rw [← hG] at hrz
  rw [show ((cur.toList.take (i * 3)).toArray ++ Builtin.zeroCells z0.cells (n + m - i) ++ Builtin.zeroCells z0.cells (G - (n + m))) = R0.toArray by rw [hR0]] at hrz
  obtain ⟨R1, hR1⟩ : ∃ R1 : List Value, R1 = R0.take (i * 3) ++ us ++ R0.drop (i * 3 + m * 3) := ⟨_, rfl⟩
  have hR1l : R1.length = G * 3 := by rw [hR1]; simp only [List.length_append, List.length_take, List.length_drop, hRl, hul]; omega
  obtain ⟨N, hN⟩ : ∃ N, N = w.heap.size := ⟨_, rfl⟩
  have hWN : (w.alloc (.cells R0.toArray 69)).heap[N]? = some (.cells R0.toArray 69 (0, 0)) := by rw [hN]; exact heap_alloc_new w _
  have hWg : (w.alloc (.cells R0.toArray 69)).heap[g]? = some (.cells cur E (0, 0)) := by rw [Go.heap_alloc_old w _ hgl]; exact hg
  have hWb : (w.alloc (.cells R0.toArray 69)).heap[gb]? = some (.cells curB EB (0, 0)) := by rw [Go.heap_alloc_old w _ hgbl]; exact hgb
  have hgN : g ≠ N := by omega
  have hcpA : ∀ (W : World), W.heap = (w.alloc (.cells R0.toArray 69)).heap → ∀ ty dc, (Builtin.copy_ #[40, 40] ty #[.slice (some ⟨N, i * 3, none⟩) (n + m - i) dc, .slice (some ⟨gb, vo, none⟩) m vc]).run Tryz.prog W = .ok (goInt m) (W.setRow N R1.toArray) := fun W hW ty dc => by
    have := run_copy_rowk W 40 40 ty 69 N (i * 3) (n + m - i) dc ⟨gb, vo, none⟩ m vc m R0.toArray 69 us hu hi0 (by rw [hW]; exact hWN) (by simp only [Nat.min_def]; split <;> omega) (by rw [hul, hsz])
      (fun t u ht => by rw [addr_in]; simp [World.cell?, hW, hWb, hus t u ht]) (by rw [hul, List.size_toArray, hRl]; omega) hu1
    rw [hul, ← hR1] at this
    exact this
  have hcpB : ∀ (W : World), W.heap = ((w.alloc (.cells R0.toArray 69)).setRow N R1.toArray).heap → ∀ ty dc sc, (Builtin.copy_ #[40, 40] ty #[.slice (some ⟨N, (i + m) * 3, none⟩) (n + m - (i + m)) dc, .slice (some ⟨g, i * 3, none⟩) (n - i) sc]).run Tryz.prog W = .ok (goInt ((n - i : Nat) : Int)) (W.setRow N (R1.take ((i + m) * 3) ++ (cur.toList.drop (i * 3)).take ((n - i) * 3) ++ R1.drop ((i + m) * 3 + (n - i) * 3)).toArray) := fun W hW ty dc sc => by
    have := run_copy_rowk W 40 40 ty 69 N ((i + m) * 3) (n + m - (i + m)) dc ⟨g, i * 3, none⟩ (n - i) sc (n - i) R1.toArray 69 ((cur.toList.drop (i * 3)).take ((n - i) * 3)) hu hi0 (by rw [hW]; exact setRow_heap _ N _ _ 69 (0, 0) hWN)
      (by simp only [Nat.min_def]; split <;> omega) (by rw [hC, hsz])
      (fun j v hj => by
        rw [addr_in]
        refine cells_of_row (show W.heap[g]? = some (.cells cur E (0, 0)) by rw [hW, setRow_other _ N g _ hgN]; exact hWg) (i * 3) j v ?_
        rw [List.getElem?_take] at hj
        split at hj
        · exact hj
        · cases hj) (by rw [hC, List.size_toArray, hR1l]; omega)
      (fun v hv => h1 v (by
        obtain ⟨t, ht⟩ := List.mem_iff_getElem?.1 hv
        rw [List.getElem?_take] at ht
        split at ht
        · rw [List.getElem?_drop] at ht
          refine List.mem_iff_getElem?.2 ⟨i * 3 + t, ?_⟩
          rw [List.getElem?_take, if_pos (by omega)]; exact ht
        · cases ht))
    rw [hC] at this
    exact this
  have F : Hid (n + m ≤ G ∧ G ≤ maxLen ∧ R0.length = G * 3 ∧ R0.take (i * 3) = cur.toList.take (i * 3) ∧ R1 = R0.take (i * 3) ++ us ++ R0.drop (i * 3 + m * 3)) := Go.Lib.hid ⟨hGn, hGm, hRl, hRt, hR1⟩
  rw [← hN] at hrz
  have hz1 : ¬ ((m : Int) = 0) := by omega
  have hz2 : ¬ ((i : Int) = (n : Int)) := by omega
  have hz3 : (cap : Int) < (n : Int) + (m : Int) := by omega
  have hw1 : IntKind.i64.wrap ((i : Int) + (m : Int)) = (i : Int) + (m : Int) := by rw [IntKind.wrap_i64]; omega
  have hb1 : (0 : Int) ≤ (i : Int) + (m : Int) := by omega
  have hin : i ≤ n := by omega
  have htn : ((i : Int) + (m : Int)).toNat = i + m := by omega
  have hb3 : (i : Int) ≤ (n : Int) := by omega
  have hGi : ¬ (G = i) := by omega
  have hGim : ¬ (G = i + m) := by omega
  have hci : ¬ (cap = i) := by omega
  have hG63 : G ≤ 9223372036854775807 := hGm
  obtain ⟨W2, hW2⟩ : ∃ W2, W2 = ((((w.alloc (.cells R0.toArray 69)).drew.setRow N R1.toArray)).drew).setRow N (R1.take ((i + m) * 3) ++ (cur.toList.drop (i * 3)).take ((n - i) * 3) ++ R1.drop ((i + m) * 3 + (n - i) * 3)).toArray := ⟨_, rfl⟩
  have hcpB2 := hcpB (((w.alloc (.cells R0.toArray 69)).drew.setRow N R1.toArray).drew) rfl
  rw [← hW2] at hcpB2
  have hcpA2 := hcpA ((w.alloc (.cells R0.toArray 69)).drew) rfl
  have X := Go.Lib.hid hW2
  have Y := Go.Lib.hid hN
  clear hW2 hN hkk hik hold hR0 hG hRl hR1 hR1l hRt hcpB hcpA hC hWN hWg hWb hgb hus hg h1 hs hcurl hu1 hul hGm hby2 hgl hgbl hgN
  have key : Calls Tryz.prog 66 #[.slice (some ⟨g, 0, none⟩) n cap, .int .i64 i, .slice (some ⟨gb, vo, none⟩) m vc] w fun e w' => e = .returned (.slice (some ⟨N, 0, none⟩) (n + m) G) ∧ w' = W2 := by
    clear F X Y
    go_enter Tryz.func66, Tryz.ntmps66
    go_wp2_with (first
      | (at_builtin; refine Lib.wpList_append_run _ rfl _ _ _ _ rfl _ _ rfl rfl _ _ (hrz _) ?_)
      | (at_builtin; refine wpList_copy_runI _ rfl _ _ 40 40 rfl _ _ rfl rfl (hcpA2 _ _) ?_))
    go_region_law_o (refine step_copy_runI rfl _ _ 40 40 rfl (.slice (some ⟨N, (i + m) * 3, none⟩) (n + m - (i + m)) (G - (i + m))) (.slice (some ⟨g, i * 3, none⟩) (n - i) (cap - i)) (by simp [Act.eval, Act.put]) (by simp [Act.eval, Act.put]) (hcpB2 3 (G - (i + m)) (cap - i)) ?_)
    go_wp2
    go_ret
    exact ⟨rfl, rfl⟩
  refine key.mono fun e' w' ⟨he, hw⟩ => ?_
  have hN := Y.out
  subst hN
  exact ⟨G, R0, R1, F.out.1, F.out.2.1, he, F.out.2.2.1, F.out.2.2.2.1, F.out.2.2.2.2, hw.trans X.out⟩
/-- slices.Insert: at the end. -/
theorem ins_end (base : Option Addr) (n c gb vo m vc : Nat) (w : World) (hm : 0 < m) (hnc : n ≤ c) (hc : c ≤ maxLen) (hnil : base = none → n = 0) (v' : Value) (w' : World)
    (hrun : (Builtin.append_ #[40, 40] 40 #[.slice base n c, .slice (some ⟨gb, vo, none⟩) m vc]).run Tryz.prog w = .ok v' w') :
    Calls Tryz.prog 66 #[.slice base n c, .int .i64 n, .slice (some ⟨gb, vo, none⟩) m vc] w fun e w1 => e = .returned v' ∧ w1 = w' := by
  have hz1 : ¬ ((m : Int) = 0) := by omega
  have hc63 : c ≤ 9223372036854775807 := hc
  cases base with
  | none =>
    have h0 := hnil rfl
    subst h0
    go_enter Tryz.func66, Tryz.ntmps66
    go_wp2_with (at_builtin; refine Lib.wpList_append_run _ rfl _ _ _ _ rfl _ _ rfl rfl _ _ hrun ?_)
    go_ret
    exact ⟨rfl, rfl⟩
  | some a =>
    obtain ⟨ab, ao, asp⟩ := a
    go_enter Tryz.func66, Tryz.ntmps66
    go_wp2_with (at_builtin; refine Lib.wpList_append_run _ rfl _ _ _ _ rfl _ _ rfl rfl _ _ hrun ?_)
    all_goals (go_ret; exact ⟨rfl, rfl⟩)
theorem ok_Insert {args : List AV} {r : AV} (h : hInsert args = some r) : CallOK Tryz.prog n_slices_Insert_impl_Order_impl_Order glob args r := by
  have hso : sliceOwn Tryz.prog 40 3 = true := by decide +kernel
  obtain ⟨el, i0, z0, hu, hi0, hz0, hsz, hzs0, hby⟩ := sliceOwn_spec hso
  obtain rfl : el = 69 := by
    have := hu.symm.trans Tryz.underlying40
    injection this with this
    injection this with this
  exact insert_ok (t := 40) ⟨_, Tryz.func66, by kernel_rfl, by decide⟩ hu hi0 hz0 hsz hzs0 hby
    (fun g n cap i gb vo m vc cur E us w a1 a2 a3 a4 a5 a6 a7 a8 a9 a10 curB EB a11 a12 => ins_shift g n cap i gb vo m vc cur E us w a1 a2 a3 a4 a5 a6 a7 a8 a9 a10 curB EB a11 a12)
    (fun g n cap i gb vo m vc cur E us w a1 a2 a3 a4 a5 a6 a7 a8 a9 a10 curB EB a11 a12 => ins_grow g n cap i gb vo m vc cur E us w a1 a2 a3 a4 a5 a6 a7 a8 a9 a10 curB EB a11 a12)
    (fun base n c gb vo m vc w a1 a2 a3 a4 v' w' a5 => ins_end base n c gb vo m vc w a1 a2 a3 a4 v' w' a5) h
theorem hand_ok : HandOK Tryz.prog glob hand := fun f h args r hf hr => by
  unfold hand at hf
  by_cases c0 : f = n_slices_Insert_impl_Order_impl_Order
  · subst c0; rw [if_pos rfl] at hf; cases hf; exact ok_Insert hr
  rw [if_neg c0] at hf
  cases hf
end Go.Abs.W
