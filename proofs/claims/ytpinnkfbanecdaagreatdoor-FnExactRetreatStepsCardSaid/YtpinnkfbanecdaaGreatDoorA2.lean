import Derived.Test.YtpinnkfbanecdaaGreatDoorA1
import Derived.Deep.Slices
import Derived.WideShapes
import Derived.ChangeArms
import Derived.DataReads
import Derived.DataElems
import Derived.OpenShut
set_option linter.unusedVariables false
set_option linter.unusedSimpArgs false
namespace Go.Abs
open Go Go.RowKit Go.ChangeShapes Go.WideShapes

/-- Cells that read as a datum of type t are an α's cells, and G holds of it. -/
structure OpnD {α : Type} (P : Program) (t : TypeId) (n : Nat) (enc : α → List D) (G : α → Prop) : Prop where
  cells : P.cellsOf t = n
  rows : ∀ a, (enc a).length = n
  read : ∀ (H : Type) (en : TypeId × Value → H) (w : World) (base : Nat) (held : Bool) (fuel : Nat) (cs : List Value) (x : DataW H × List MemPlace),
    DataW.trod en P w base (fun _ => true) held fuel t cs = some x → ∃ a : α, RdL (fun k => k < w.heap.size) w cs (enc a) [] ∧ G a

theorem opn_int {P : Program} {t : TypeId} (hu : P.underlying t = some (.int .i64)) (hc : P.cellsOf t = 1) : OpnD P t 1 (fun n : Int => [.int .i64 n]) (fun _ => True) :=
  ⟨hc, fun _ => rfl, fun H en w base held fuel cs x h => by
    obtain ⟨n, rfl, _, hw⟩ := DataW.trod_int hu h
    exact ⟨n, (Rd.int .i64 n).single, trivial⟩⟩
theorem opn_bool {P : Program} {t : TypeId} (hu : P.underlying t = some .bool) (hc : P.cellsOf t = 1) : OpnD P t 1 (fun b : Bool => [.bool b]) (fun _ => True) :=
  ⟨hc, fun _ => rfl, fun H en w base held fuel cs x h => by
    obtain ⟨n, rfl, _⟩ := DataW.trod_bool hu h
    exact ⟨n, (Rd.bool n).single, trivial⟩⟩
theorem opn_string {P : Program} {t : TypeId} (hu : P.underlying t = some .string) (hc : P.cellsOf t = 1) : OpnD P t 1 (fun s : ByteArray => [.str s]) (fun s => s.size ≤ maxLen) :=
  ⟨hc, fun _ => rfl, fun H en w base held fuel cs x h => by
    obtain ⟨n, rfl, _, hw⟩ := DataW.trod_string hu h
    exact ⟨n, (Rd.str n).single, hw⟩⟩
theorem addr_add' (b off k : Nat) : (⟨b, off, none⟩ : Addr).add k = ⟨b, off + k, none⟩ := by
  unfold Addr.add
  first | rfl | (split <;> simp_all)
theorem list_of {α : Type} {R : Nat → α → Prop} : ∀ n : Nat, (∀ i, i < n → ∃ a, R i a) → ∃ l : List α, l.length = n ∧ ∀ i a, l[i]? = some a → R i a
  | 0, _ => ⟨[], rfl, fun i a h => by simp at h⟩
  | n + 1, h => by
    obtain ⟨l, hl, hR⟩ := list_of n (fun i hi => h i (by omega))
    obtain ⟨a, ha⟩ := h n (by omega)
    refine ⟨l ++ [a], by simp [hl], fun i b hb => ?_⟩
    rcases Nat.lt_or_ge i l.length with hi | hi
    · rw [List.getElem?_append_left hi] at hb
      exact hR i b hb
    · rw [List.getElem?_append_right hi] at hb
      have h0 : i - l.length = 0 := by
        have := (List.getElem?_eq_some_iff.1 hb).1
        simp at this
        omega
      rw [h0] at hb
      simp at hb
      obtain rfl : i = n := by omega
      rw [← hb]; exact ha
theorem flat_cells {w : World} {b n : Nat} : ∀ (L : List (List Value)) (k : Nat), (∀ r ∈ L, r.length = n) → (∀ i r, L[i]? = some r → ∀ j u, r[j]? = some u → w.cell? ⟨b, k + i * n + j, none⟩ = some u) →
    ∀ j v, L.flatten[j]? = some v → w.cell? ⟨b, k + j, none⟩ = some v
  | [], k, _, _, j, v, h => by simp at h
  | r :: L, k, hl, hc, j, v, h => by
    have hr : r.length = n := hl r (List.mem_cons_self ..)
    rw [List.flatten_cons] at h
    rcases Nat.lt_or_ge j r.length with hj | hj
    · rw [List.getElem?_append_left hj] at h
      have := hc 0 r rfl j v h
      simpa using this
    · rw [List.getElem?_append_right hj] at h
      have := flat_cells L (k + n) (fun r' hr' => hl r' (List.mem_cons_of_mem _ hr')) (fun i r' hi j' u hu => by
        have := hc (i + 1) r' (by simpa using hi) j' u hu
        rw [Nat.add_mul, Nat.one_mul] at this
        rw [show k + n + i * n + j' = k + (i * n + n) + j' by omega]
        exact this) (j - r.length) v h
      rw [hr] at this hj
      rw [show k + n + (j - n) = k + j by omega] at this
      exact this
theorem flat_rd {w : World} {ok : Nat → Prop} {α : Type} {enc : α → List D} : ∀ (L : List (List Value × α)), (∀ p ∈ L, RdL ok w p.1 (enc p.2) []) → RdL ok w (L.map (·.1)).flatten (L.map fun p => enc p.2).flatten []
  | [], _ => .nil
  | p :: L, h => by
    have := (h p (List.mem_cons_self ..)).app (flat_rd L fun q hq => h q (List.mem_cons_of_mem _ hq)) (by simp)
    simpa using this
theorem opn_slice {α : Type} {n : Nat} {enc : α → List D} {G : α → Prop} {P : Program} {t e : TypeId} (hu : P.underlying t = some (.slice e)) (hc : P.cellsOf t = 1) (hn : 0 < n) (he : OpnD P e n enc G) :
    OpnD P t 1 (fun l : List α => [.list false n (l.map enc)]) (fun l => l.length ≤ maxLen ∧ ∀ a ∈ l, G a) :=
  ⟨hc, fun _ => rfl, fun H en w base held fuel cs x h => by
    rcases Go.Deep.open_slice hu h with ⟨rfl, _⟩ | ⟨a, len, cap, m, m', D', Pl, rfl, hb, hl, hm, hmm, _, hx⟩
    · exact ⟨[], (Rd.empty none false n).single, by simp, fun _ h => by simp at h⟩
    · simp only [if_true] at hmm
      subst hmm
      by_cases h0 : m = 0
      · subst h0
        obtain rfl : len = 0 := by omega
        exact ⟨[], (Rd.empty (some a) false n).single, by simp, fun _ h => by simp at h⟩
      have hel : ∀ i, i < len → ∃ p : List Value × α, (p.1.length = n ∧ RdL (fun k => k < w.heap.size) w p.1 (enc p.2) [] ∧ ∀ j u, p.1[j]? = some u → w.cell? (a.add (i * n + j)) = some u) ∧ G p.2 := by
        intro i hi
        obtain ⟨cs', hcs, ht⟩ := hx i (by omega)
        obtain ⟨y, hy, hg⟩ := he.read H en w base held m' cs' _ ht
        obtain ⟨_, hlen, hcell⟩ := World.cells?_some hcs
        rw [he.cells] at hlen hcell
        refine ⟨(cs', y), ⟨hlen, hy, fun j u hj => ?_⟩, hg⟩
        have hj' : j < n := by rw [← hlen]; exact (List.getElem?_eq_some_iff.1 hj).1
        have := hcell j hj'
        rw [Addr.add_add, hj] at this
        exact this
      -- the first cell tells that the address is a plain one
      obtain ⟨b, off, spot⟩ := a
      have hspot : spot = none := by
        obtain ⟨cs', hcs, ht⟩ := hx 0 (by omega)
        obtain ⟨_, hlen, hcell⟩ := World.cells?_some hcs
        rw [he.cells] at hlen hcell
        have := hcell 0 hn
        rw [List.getElem?_eq_getElem (by omega)] at this
        simpa [Addr.add] using World.cell?_spot this
      subst hspot
      obtain ⟨L, hll, hR⟩ := list_of len hel
      have hmem : ∀ p ∈ L, p.1.length = n ∧ RdL (fun k => k < w.heap.size) w p.1 (enc p.2) [] ∧ G p.2 := by
        intro p hp
        obtain ⟨j, hj⟩ := List.mem_iff_getElem?.1 hp
        exact ⟨(hR j p hj).1.1, (hR j p hj).1.2.1, (hR j p hj).2⟩
      refine ⟨L.map (·.2), ?_, by rw [List.length_map]; omega, fun y hy => ?_⟩
      · have hv := Rd.view (ok := fun k => k < w.heap.size) (w := w) b off len m n ((L.map (·.2)).map enc) (L.map (·.1)).flatten (fun r hr => by
            simp at hr
            obtain ⟨y, z, _, rfl⟩ := hr
            exact he.rows _) (by simp [hll]) hl hm (fun j v hj => by
            have := flat_cells (w := w) (b := b) (n := n) (L.map (·.1)) off (fun r hr => by
                simp at hr
                obtain ⟨y, hy⟩ := hr
                exact (hmem _ hy).1) (fun i r hi j u hu => by
                simp at hi
                obtain ⟨y, hy⟩ := hi
                have := (hR i _ hy).1.2.2 j u hu
                rw [addr_add'] at this
                rw [Nat.add_assoc]
                exact this) j v hj
            exact ⟨World.block_lt_of_cell? w _ this, this⟩) (by
            have := flat_rd (ok := fun k => k < w.heap.size) (w := w) (enc := enc) L fun p hp => (hmem p hp).2.1
            simpa [List.map_map, Function.comp_def] using this)
        exact hv.single
      · simp at hy
        obtain ⟨r, hr⟩ := hy
        exact (hmem _ hr).2.2⟩
/-- A struct's field: the cells from o on are its cells, then the others'. -/
theorem rdl_field {ok : Nat → Prop} {w : World} {cs : List Value} {o n : Nat} {d1 d2 : List D} (h1 : RdL ok w ((cs.drop o).take n) d1 []) (h2 : RdL ok w (cs.drop (o + n)) d2 []) : RdL ok w (cs.drop o) (d1 ++ d2) [] := by
  have := h1.app h2 (by simp)
  rw [← List.drop_drop, List.take_append_drop] at this
  simpa using this
theorem opn_field {α : Type} {P : Program} {t : TypeId} {n : Nat} {enc : α → List D} {G : α → Prop} (ho : OpnD P t n enc G) {H : Type} {en : TypeId × Value → H} {w : World} {base : Nat} {held : Bool} {fu off : Nat} {cs : List Value} {xs : List (DataW H × List MemPlace)} {i : Nat}
    (hi : i < xs.length) (h : DataW.trod en P w base (fun _ => true) held fu t ((cs.drop off).take (P.cellsOf t)) = xs[i]?) : ∃ a : α, RdL (fun k => k < w.heap.size) w ((cs.drop off).take n) (enc a) [] ∧ G a := by
  rw [List.getElem?_eq_getElem hi, ho.cells] at h
  exact ho.read H en w base held fu _ _ h
/-- An argument of one cell. -/
theorem arg_one {α : Type} {P : Program} {t : TypeId} {enc : α → D} {G : α → Prop} (ho : OpnD P t 1 (fun a => [enc a]) G) {H : Type} {en : TypeId × Value → H} {w : World} {base : Nat} {held : Bool} {v : Value} {dd : DataW H} {ps : List MemPlace}
    (h : DataW.Trod en P w base (fun _ => true) held t v dd ps) (hv : v.cells.toList = [v]) : ∃ a : α, AvR (fun k => k < w.heap.size) w v (.val (.one (enc a))) [] ∧ G a := by
  obtain ⟨fuel, hf⟩ := h
  rw [hv] at hf
  obtain ⟨a, h1, h2⟩ := ho.read H en w base held fuel _ _ hf
  exact ⟨a, .val _ _ _ (.one _ _ _ h1.single), h2⟩
/-- An argument that is a struct. -/
theorem arg_agg {α : Type} {P : Program} {t : TypeId} {n : Nat} {enc : α → List D} {G : α → Prop} (ho : OpnD P t n enc G) {H : Type} {en : TypeId × Value → H} {w : World} {base : Nat} {held : Bool} {cs : Array Value} {dd : DataW H} {ps : List MemPlace}
    (h : DataW.Trod en P w base (fun _ => true) held t (.agg cs) dd ps) : ∃ a : α, AvR (fun k => k < w.heap.size) w (.agg cs) (.val (.agg (enc a))) [] ∧ G a := by
  obtain ⟨fuel, hf⟩ := h
  obtain ⟨a, h1, h2⟩ := ho.read H en w base held fuel _ _ hf
  refine ⟨a, .val _ _ _ ?_, h2⟩
  have := VR.agg (w := w) _ _ _ h1
  simpa [Value.cells] using this
theorem opn_G {α : Type} {P : Program} {t : TypeId} {n : Nat} {enc : α → List D} {G G' : α → Prop} (h : OpnD P t n enc G) (hG : ∀ a, G a → G' a) : OpnD P t n enc G' :=
  ⟨h.cells, h.rows, fun H en w base held fuel cs x ht => by
    obtain ⟨a, ha, hg⟩ := h.read H en w base held fuel cs x ht
    exact ⟨a, ha, hG a hg⟩⟩
end Go.Abs
