import Derived.Test.YtdhkoobikheabaaGreatDoorA2
import Derived.Laws.AppendOwn
import Derived.Shelf.GgSortFunc.InsertionK
import Derived.Deep.Slices
import Derived.WideShapes
import Derived.ChangeArms
import Derived.DataReads
import Derived.DataElems
import Derived.OpenShut
import Derived.Handed
set_option linter.unusedVariables false
set_option linter.unusedSimpArgs false
namespace Go.Abs
open Go Go.RowKit

/-- slices.Grow of a list without elements. -/
def hGrow (args : List AV) : Option AV := match args with
  | [.val (.one (.list true 3 [])), .val (.one (.int .i64 n))] => if 0 ≤ n ∧ n ≤ 68719476736 then some (.val (.one (.list true 3 []))) else none
  | _ => none
/-- An order's unit. -/
def keyD : List D → Int
  | .int .i64 n :: _ => n
  | _ => -1
def sortD (rows : List (List D)) : List (List D) := rows.mergeSort fun a b => decide (keyD a ≤ keyD b)
theorem sortD_nil : sortD [] = [] := by simp [sortD]
def rowsFit (rows : List (List D)) : Bool := rows.all (fun r => plainL r && decide (0 ≤ keyD r) && decide (keyD r < 1048576)) && decide (rows.map keyD).Nodup && decide (rows.length ≤ 1048576)
/-- slices.SortFunc by the units, in place: fc, the function that compares. -/
def hSort (fc : FuncId) (args : List AV) : Option AV := match args with
  | [.val (.one (.list true 3 rows)), .clo g []] => if g = fc ∧ rowsFit rows = true then some (.tup [none, none, some (.one (.list true 3 (sortD rows)))]) else none
  | _ => none
section
variable {P : Program} {f : FuncId} {glob : Nat → List D}
theorem args_cons {ok : Nat → Prop} {w : World} {vs : List Value} {a : AV} {xs : List AV} {Bs : List Nat} (h : ArgsR ok w vs (a :: xs) Bs) :
    ∃ v vs' B1 B2, vs = v :: vs' ∧ Bs = B1 ++ B2 ∧ AvR ok w v a B1 ∧ ArgsR ok w vs' xs B2 ∧ ∀ b ∈ B1, b ∉ B2 := by
  cases h with
  | cons v a vs xs B1 B2 ha h1 h2 hd => exact ⟨v, vs, B1, B2, rfl, rfl, h1, h2, hd⟩
theorem args_nil {ok : Nat → Prop} {w : World} {vs : List Value} {Bs : List Nat} (h : ArgsR ok w vs [] Bs) : vs = [] ∧ Bs = [] := by
  cases h; exact ⟨rfl, rfl⟩
theorem int_of {ok : Nat → Prop} {w : World} {v : Value} {k : IntKind} {n : Int} {B : List Nat} (h : Rd ok w v (.int k n) B) : v = .int k n ∧ B = [] := by cases h; exact ⟨rfl, rfl⟩
/-- A call that yields a list of its own. -/
theorem callOK_mine {args : List AV} {d : D} (hent : Enter P f)
    (h : ∀ (w : World) (vs : List Value) (okA : Nat → Prop) (Bs : List Nat), ArgsR okA w vs args Bs → (∀ b ∈ Bs, ¬ okA b) → Calls P f vs.toArray w fun e w' => ∃ v B, e = .returned v ∧
      Rd (fun k => (okA k ∨ w.heap.size ≤ k ∨ k ∈ Bs) ∧ k ∉ B) w' v d B ∧ (∀ b ∈ B, b < w'.heap.size ∧ (w.heap.size ≤ b ∨ b ∈ Bs)) ∧ Fr (fun k => w.heap.size ≤ k ∨ k ∈ Bs) w w') :
    CallOK P f glob args (.val (.one d)) :=
  ⟨hent, fun w vs okA Bs ha hno hg => (h w vs okA Bs ha hno).mono fun e w' ⟨v, B, he, hr, hB, hf⟩ => ⟨v, B, he, rfl, .val _ _ _ (.one _ _ _ hr), hB, hf⟩⟩
theorem grow_ok {el : TypeId} {z : Array Value} (hent : Enter P f) (hz : z.size = 3)
    (hroom : ∀ (base : Option Addr) (l c n : Nat) (w : World), l ≤ c → c ≤ 9223372036854775807 → n ≤ 9223372036854775807 → l + n ≤ c → Calls P f #[.slice base l c, .int .i64 n] w fun e w' => e = .returned (.slice base l c) ∧ w' = w)
    (hgrow : ∀ (base : Option Addr) (l c n : Nat) (cs : List Value) (w : World), l ≤ c → c < l + n → l + n ≤ 68719476736 → cs.length = c * 3 → (base = none → c = 0) → (∀ a, base = some a → ∀ j v, cs[j]? = some v → w.cell? (a.add j) = some v) →
      Calls P f #[.slice base l c, .int .i64 n] w fun e w' => e = .returned (.slice (some ⟨w.heap.size, 0, none⟩) l (grownCap w (l + n) c el)) ∧
        w' = w.drew.alloc (.cells (cs.toArray ++ Builtin.zeroCells z (l + n - c) ++ Builtin.zeroCells z (grownCap w (l + n) c el - (l + n))) el))
    {args : List AV} {r : AV} (h : hGrow args = some r) : CallOK P f glob args r := by
  unfold hGrow at h
  split at h
  · rename_i n
    split at h
    · rename_i hb
      obtain ⟨n, rfl⟩ : ∃ m : Nat, n = m := ⟨n.toNat, by omega⟩
      cases h
      have hn : n ≤ 68719476736 := by omega
      refine callOK_mine hent fun w vs okA Bs ha hno => ?_
      obtain ⟨v, vs', B1, B2, rfl, rfl, h1, h2, _⟩ := args_cons ha
      obtain ⟨v2, vs2, B3, B4, rfl, rfl, h3, h4, _⟩ := args_cons h2
      obtain ⟨rfl, rfl⟩ := args_nil h4
      obtain ⟨rfl, rfl⟩ := int_of h3.val_inv.one_inv
      have h7 := h1.val_inv.one_inv
      simp only [List.append_nil] at hno ⊢
      have new : ∀ (cs : List Value) (c : Nat), cs.length = c * 3 → c < 0 + n → ∀ w', w' = w.drew.alloc (.cells (cs.toArray ++ Builtin.zeroCells z (0 + n - c) ++ Builtin.zeroCells z (grownCap w (0 + n) c el - (0 + n))) el) →
          ∀ ok : Nat → Prop, Rd ok w' (.slice (some ⟨w.heap.size, 0, none⟩) 0 (grownCap w (0 + n) c el)) (.list true 3 []) [w.heap.size] ∧ w'.heap.size = w.heap.size + 1 ∧ Fr (fun k => w.heap.size ≤ k ∨ k ∈ B1) w w' := by
        intro cs c hcs hc w' hw ok
        have hG1 := grownCap_ge w (0 + n) c el
        have hG2 := grownCap_le_maxLen w (0 + n) c el (by simp only [maxLen]; omega)
        generalize grownCap w (0 + n) c el = G at *
        refine ⟨.own w.heap.size 0 G 3 (cs.toArray ++ Builtin.zeroCells z (0 + n - c) ++ Builtin.zeroCells z (G - (0 + n))) el [] [] (by simp) rfl trivial (Nat.zero_le _) hG2 (by rw [hw]; exact Go.heap_alloc_new w.drew _) ?_ (by simpa using RdL.nil) (by simp), by rw [hw]; show (w.heap.push _).size = _; simp, ?_⟩
        · simp only [Array.size_append, List.size_toArray, size_zeroCells, hz, hcs]
          omega
        · rw [hw]
          exact (Fr.drew _ w).trans (Fr.alloc _ _ _)
      cases h7 with
      | empty a o e =>
        by_cases h0 : n = 0
        · subst h0
          refine (hroom a 0 0 0 w (by omega) (by omega) (by omega) (by omega)).mono fun e w' ⟨he, hw⟩ => ⟨_, [], he, .empty _ _ _, by simp, ?_⟩
          rw [hw]; exact .refl _ _
        · refine (hgrow a 0 0 n [] w (by omega) (by omega) (by omega) rfl (fun _ => rfl) (fun a _ j v hj => by simp at hj)).mono fun e w' ⟨he, hw⟩ => ?_
          obtain ⟨g1, g2, g3⟩ := new [] 0 rfl (by omega) w' (by rw [hw]) (fun k => (okA k ∨ w.heap.size ≤ k ∨ k ∈ ([] : List Nat)) ∧ k ∉ [w.heap.size])
          exact ⟨_, _, he, g1, fun b hb => by simp at hb; subst hb; exact ⟨by omega, .inl (Nat.le_refl _)⟩, g3⟩
      | own g n' cap _ cur E _ B he hn' hp hcap hm hg hs hr hB =>
        have hn0 : n' = 0 := hn'
        subst hn0
        have hgl : g < w.heap.size := (Array.getElem?_eq_some_iff.1 hg).1
        have hmax : cap ≤ 9223372036854775807 := by simpa [maxLen] using hm
        by_cases h0 : n ≤ cap
        · refine (hroom (some ⟨g, 0, none⟩) 0 cap n w (by omega) hmax (by omega) (by omega)).mono fun e w' ⟨he', hw⟩ => ⟨_, [g], he', ?_, ?_, ?_⟩
          · rw [hw]
            exact .own g 0 cap 3 cur E [] [] (by simp) rfl trivial hcap hm hg hs (by simpa using RdL.nil) (by simp)
          · intro b hb; simp at hb; subst hb; rw [hw]; exact ⟨hgl, .inr (List.mem_cons_self ..)⟩
          · rw [hw]; exact .refl _ _
        · refine (hgrow (some ⟨g, 0, none⟩) 0 cap n cur.toList w (by omega) (by omega) (by omega) (by simpa using hs) (fun h => by cases h) (fun a ha' j v hj => ?_)).mono fun e w' ⟨he', hw⟩ => ?_
          · obtain rfl := Option.some.inj ha'
            rw [addr_add]
            exact cells_of_row hg 0 j v (by simpa using hj)
          · obtain ⟨g1, g2, g3⟩ := new cur.toList cap (by simpa using hs) (by omega) w' (by rw [hw]) (fun k => (okA k ∨ w.heap.size ≤ k ∨ k ∈ g :: B) ∧ k ∉ [w.heap.size])
            exact ⟨_, _, he', g1, fun b hb => by simp at hb; subst hb; exact ⟨by omega, .inl (Nat.le_refl _)⟩, g3⟩
    · cases h
  · cases h
/-! ### rows that are sorted -/
theorem rows_rd {ok : Nat → Prop} {w : World} {e : Nat} : ∀ {rows : List (List D)} {vs : List Value}, RdL ok w vs rows.flatten [] → (∀ r ∈ rows, r.length = e) → ∀ (i : Nat) (row : List D), rows[i]? = some row → RdL ok w ((vs.drop (i * e)).take e) row []
  | [], vs, h, he, i, row, hi => by simp at hi
  | r :: rows, vs, h, he, i, row, hi => by
    rw [List.flatten_cons] at h
    obtain ⟨B1, B2, hB, h1, h2, _⟩ := h.split
    obtain ⟨rfl, rfl⟩ := List.append_eq_nil_iff.1 hB.symm
    have hr : r.length = e := he r (by simp)
    rw [hr] at h1 h2
    cases i with
    | zero => simp at hi; subst hi; simpa using h1
    | succ i =>
      have := rows_rd h2 (fun q hq => he q (by simp [hq])) i row (by simpa using hi)
      rw [List.drop_drop] at this
      rwa [show (i + 1) * e = e + i * e by rw [Nat.add_mul]; omega]
theorem rd_rows {α : Type} {ok : Nat → Prop} {w : World} {enc : α → List Value} {row : α → List D} (h : ∀ x, RdL ok w (enc x) (row x) []) : ∀ l : List α, RdL ok w (l.map enc).flatten (l.map row).flatten []
  | [] => .nil
  | x :: l => by
    have := (h x).app (rd_rows h l) (by simp)
    simpa using this
theorem get_rows {α : Type} [Inhabited α] {enc : α → List Value} {k : Nat} (hk : ∀ x, (enc x).length = k) : ∀ (l : List α) (t : Nat), t < l.length * k → (l.map enc).flatten[t]? = some (enc l.toArray[t / k]!)[t % k]!
  | [], t, h => by simp at h
  | x :: l, t, h => by
    have k0 : 0 < k := by
      rcases Nat.eq_zero_or_pos k with h0 | h0
      · rw [h0] at h; simp at h
      · exact h0
    rw [List.map_cons, List.flatten_cons]
    by_cases ht : t < k
    · rw [List.getElem?_append_left (by rw [hk]; exact ht), Nat.div_eq_of_lt ht, Nat.mod_eq_of_lt ht]
      have : t < (enc x).length := by rw [hk]; exact ht
      simp [this]
    · have h1 : t / k = (t - k) / k + 1 := by
        have := Nat.add_div_right (t - k) k0
        rw [Nat.sub_add_cancel (by omega)] at this
        exact this
      have h2 : t % k = (t - k) % k := by
        have := Nat.add_mod_right (t - k) k
        rw [Nat.sub_add_cancel (by omega)] at this
        exact this
      have h3 : t - k < l.length * k := by
        rw [List.length_cons, Nat.add_mul, Nat.one_mul] at h; omega
      rw [List.getElem?_append_right (by rw [hk]; omega), hk, get_rows hk l (t - k) h3, h1, h2]
      congr 3
      simp
open Go.Proofs Go.Sort in
theorem flatK_rows {α : Type} [Inhabited α] {enc : α → List Value} {k : Nat} (hk : ∀ x, (enc x).length = k) (l : List α) : (flatK enc k l.toArray).toList = (l.map enc).flatten := by
  have hlen : ((l.map enc).flatten).length = l.length * k := by
    induction l with
    | nil => simp
    | cons x l ih => simp [hk, Nat.add_mul] at ih ⊢; omega
  apply List.ext_getElem?
  intro t
  by_cases ht : t < l.length * k
  · rw [get_rows hk l t ht, Array.getElem?_toList]
    have h1 := get_flatK enc k l.toArray t (by simpa using ht)
    have h2 : t < (flatK enc k l.toArray).size := by simpa using ht
    rw [getElem!_pos _ t h2] at h1
    rw [Array.getElem?_eq_getElem h2, h1]
  · rw [List.getElem?_eq_none (by rw [Array.length_toList, size_flatK]; simpa using ht), List.getElem?_eq_none (by rw [hlen]; omega)]
open Go.Proofs Go.Sort in
theorem putCells_take (F cur : Array Value) (h : F.size ≤ cur.size) : (putCells id 0 F cur).toList.take F.size = F.toList := by
  apply List.ext_getElem?
  intro t
  rw [List.getElem?_take]
  split
  · rename_i ht
    rw [Array.getElem?_toList, Array.getElem?_toList]
    unfold putCells
    rw [Array.getElem?_mapIdx, Array.getElem?_eq_getElem (by omega), Array.getElem?_eq_getElem ht]
    simp [ht]
  · rename_i ht
    rw [List.getElem?_eq_none (by simp; omega)]
open Go.Proofs Go.Sort in
theorem sort_ok {fc : FuncId} (hent : Enter P f)
    (hnil : ∀ (p : Option Addr) (cap : Nat) (fv : Value) (w : World), Calls P f #[.slice p 0 cap, fv] w fun e w' => e = .returned (.tuple #[]) ∧ w' = w)
    (hc : ∀ (m : Nat) (enc : Fin (m + 1) → List Value) (u : Fin (m + 1) → Int) (g cap : Nat) (w : World), (∀ x, (enc x).length = 3) → (∀ x, ∀ v ∈ enc x, v.oneCell' = true) → (∀ x, (enc x)[0]? = some (.int .i64 (u x))) → (∀ x, 0 ≤ u x ∧ u x < 1048576) → (∀ x y, u x = u y → x = y) →
      m + 1 ≤ 1048576 → HoldsK enc 3 w g 0 (List.finRange (m + 1)).toArray → g < w.heap.size → Calls P f #[.slice (some ⟨g, 0, none⟩) (m + 1) cap, .func (.func fc) #[] #[]] w fun e w' =>
        e = .returned (.tuple #[]) ∧ ∃ k os, w' = sortWorldK enc 3 w g 0 k ((List.finRange (m + 1)).mergeSort fun x y => decide (u x ≤ u y)).toArray os)
    {args : List AV} {r : AV} (h : hSort fc args = some r) : CallOK P f glob args r := by
  unfold hSort at h
  split at h
  · rename_i rows g0
    split at h
    · rename_i hfit
      obtain ⟨rfl, hfit⟩ := hfit
      cases h
      unfold rowsFit at hfit
      simp only [Bool.and_eq_true, decide_eq_true_eq, List.all_eq_true] at hfit
      obtain ⟨⟨hrow, hnd⟩, hlen⟩ := hfit
      refine ⟨hent, fun w vs okA Bs ha hno hg => ?_⟩
      obtain ⟨v, vs', B1, B2, rfl, rfl, h1, h2, _⟩ := args_cons ha
      obtain ⟨v2, vs2, B3, B4, rfl, rfl, h3, h4, _⟩ := args_cons h2
      obtain ⟨rfl, rfl⟩ := args_nil h4
      have hv2 : v2 = .func (.func g0) #[] #[] ∧ B3 = [] := by
        cases h3 with
        | clo f ps cs hl hh => cases ps with
          | nil => exact ⟨rfl, rfl⟩
          | cons p ps => simp at hl
      obtain ⟨rfl, rfl⟩ := hv2
      have h7 := h1.val_inv.one_inv
      simp only [List.append_nil] at hno hg ⊢
      have fin : ∀ (w' : World) (B : List Nat), Rd (fun k => (okA k ∨ w.heap.size ≤ k ∨ k ∈ B1) ∧ k ∉ B) w' v (.list true 3 (sortD rows)) B → (∀ b ∈ B, b < w'.heap.size ∧ (w.heap.size ≤ b ∨ b ∈ B1)) → Fr (fun k => w.heap.size ≤ k ∨ k ∈ B1) w w' →
          ∃ v' B, Ending.returned (.tuple #[]) = .returned v' ∧ isRes (.tup [none, none, some (.one (.list true 3 (sortD rows)))]) = true ∧ AvR (fun k => (okA k ∨ w.heap.size ≤ k ∨ k ∈ B1) ∧ k ∉ B) w' (resV (.tup [none, none, some (.one (.list true 3 (sortD rows)))]) v' [v, .func (.func g0) #[] #[]]) (.tup [none, none, some (.one (.list true 3 (sortD rows)))]) B ∧
            (∀ b ∈ B, b < w'.heap.size ∧ (w.heap.size ≤ b ∨ b ∈ B1)) ∧ Fr (fun k => w.heap.size ≤ k ∨ k ∈ B1) w w' := by
        intro w' B hr hB hf
        refine ⟨.tuple #[], B, rfl, rfl, ?_, hB, hf⟩
        have := TR.put (ok := fun k => (okA k ∨ w.heap.size ≤ k ∨ k ∈ B1) ∧ k ∉ B) (w := w') v (.one (.list true 3 (sortD rows))) [] [] B [] (.one _ _ _ hr) .nil (by simp)
        rw [List.append_nil] at this
        exact .tup _ _ _ (.skip _ _ _ _ (.skip _ _ _ _ this))
      cases h7 with
      | empty a o e =>
        refine (hnil a 0 _ w).mono fun e w' ⟨he, hw⟩ => ?_
        rw [he, hw]
        exact fin w [] (by rw [sortD_nil]; exact .empty _ _ _) (by simp) (.refl _ _)
      | own g n cap _ cur E _ B he hn hp hcap hm hg2 hs hr hB =>
        have hgl : g < w.heap.size := (Array.getElem?_eq_some_iff.1 hg2).1
        have hfl : rows.flatten.length = rows.length * 3 := flat_len he
        have hpl : plainL rows.flatten = true := by
          clear hfl hn hnd hlen he hr fin h1 ha hno hB
          induction rows with
          | nil => rfl
          | cons r rows ih =>
            have h1 := (hrow r (by simp)).1.1
            have h2 := ih fun q hq => hrow q (by simp [hq])
            rw [List.flatten_cons]
            clear ih hrow
            induction r with
            | nil => exact h2
            | cons d r ih =>
              cases d with
              | list o e rs => cases o with
                | true => simp [plainL] at h1
                | false => simp only [plainL] at h1; simpa [plainL] using ih h1
              | _ => simp only [plainL] at h1; simpa [plainL] using ih h1
        obtain rfl := hr.plain hpl
        subst hn
        cases hrows : rows with
        | nil =>
          subst hrows
          refine (hnil (some ⟨g, 0, none⟩) cap _ w).mono fun e w' ⟨he', hw⟩ => ?_
          rw [he', hw]
          refine fin w [g] ?_ (fun b hb => by simp at hb; subst hb; exact ⟨hgl, .inr (by simp)⟩) (.refl _ _)
          have : sortD [] = [] := by simp [sortD]
          rw [this]
          exact .own g 0 cap 3 cur E [] [] (by simp) rfl trivial (Nat.zero_le _) hm hg2 hs (by simpa using RdL.nil) (by simp)
        | cons r0 rows0 =>
          obtain ⟨m, hm1⟩ : ∃ m, rows.length = m + 1 := ⟨rows0.length, by rw [hrows]; rfl⟩
          rw [← hrows]
          have hcs : cur.toList.length = cap * 3 := by simpa using hs
          have hget : ∀ i : Fin (m + 1), rows[i.1]? = some (rows[i.1]'(by omega)) := fun i => by simp
          let row : Fin (m + 1) → List D := fun i => rows[i.1]'(by omega)
          let enc : Fin (m + 1) → List Value := fun i => (cur.toList.drop (i.1 * 3)).take 3
          have hlen3 : ∀ x, (enc x).length = 3 := fun x => by
            have := x.2
            simp only [enc, List.length_take, List.length_drop, hcs]; omega
          have hrd : ∀ x, RdL okA w (enc x) (row x) [] := fun x => by
            have := rows_rd hr he x.1 (row x) (hget x)
            have hx := x.2
            rw [List.drop_take, List.take_take, Nat.min_eq_left (by omega)] at this
            exact this
          have hkey : ∀ x, ∃ t, row x = .int .i64 (keyD (row x)) :: t := fun x => by
            have h5 := (hrow (row x) (List.getElem_mem _)).1.2
            generalize row x = q at h5
            cases q with
            | nil => simp [keyD] at h5
            | cons d q => cases d with
              | int k n => cases k with
                | i64 => exact ⟨q, rfl⟩
                | _ => simp [keyD] at h5
              | _ => simp [keyD] at h5
          have hu : ∀ x, (enc x)[0]? = some (.int .i64 (keyD (row x))) := fun x => by
            obtain ⟨t, ht⟩ := hkey x
            have h5 := hrd x
            rw [ht] at h5
            cases hq : enc x with
            | nil => have := hlen3 x; rw [hq] at this; simp at this
            | cons v vs =>
              rw [hq] at h5
              obtain ⟨_, _, _, h6, _, _⟩ := h5.cons_inv
              obtain ⟨rfl, _⟩ := int_of h6
              rfl
          have hinj : ∀ x y, keyD (row x) = keyD (row y) → x = y := fun x y hxy => by
            have h5 : (rows.map keyD)[x.1]'(by simp; omega) = (rows.map keyD)[y.1]'(by simp; omega) := by simpa using hxy
            rcases Nat.lt_trichotomy x.1 y.1 with hl | hl | hl
            · exact absurd h5 (List.pairwise_iff_getElem.1 hnd x.1 y.1 _ _ hl)
            · exact Fin.ext hl
            · exact absurd h5.symm (List.pairwise_iff_getElem.1 hnd y.1 x.1 _ _ hl)
          have hfin : (List.finRange (m + 1)).map row = rows := by
            apply List.ext_getElem?
            intro i
            simp only [List.getElem?_map]
            by_cases hi : i < m + 1
            · rw [List.getElem?_eq_getElem (by simpa using hi)]
              simp [row, hm1, hi]
            · rw [List.getElem?_eq_none (by simp; omega), List.getElem?_eq_none (by omega)]; rfl
          have hsort : ((List.finRange (m + 1)).mergeSort fun x y => decide (keyD (row x) ≤ keyD (row y))).map row = sortD rows := by
            unfold sortD
            rw [List.map_mergeSort (s := fun a b => decide (keyD a ≤ keyD b)) (fun a _ b _ => rfl), hfin]
          obtain ⟨d', hd'⟩ : ∃ d', d' = (List.finRange (m + 1)).mergeSort fun x y => decide (keyD (row x) ≤ keyD (row y)) := ⟨_, rfl⟩
          have hd'l : d'.length = m + 1 := by rw [hd', List.length_mergeSort]; simp
          have hF0 : (flatK enc 3 (List.finRange (m + 1)).toArray).toList = cur.toList.take ((m + 1) * 3) := by
            rw [flatK_rows hlen3]
            apply List.ext_getElem?
            intro t
            by_cases ht : t < (m + 1) * 3
            · rw [get_rows hlen3 _ t (by simpa using ht), List.getElem?_take, if_pos ht]
              have h5 : t / 3 < m + 1 := by omega
              have h6 : ((List.finRange (m + 1)).toArray)[t / 3]! = ⟨t / 3, h5⟩ := by
                rw [getElem!_pos _ _ (by simpa using h5)]; simp
              rw [h6]
              have h7 : t % 3 < (enc ⟨t / 3, h5⟩).length := by rw [hlen3]; omega
              have h8 : (enc ⟨t / 3, h5⟩)[t % 3]? = cur.toList[t]? := by
                simp only [enc]
                rw [List.getElem?_take, if_pos (by omega), List.getElem?_drop]
                congr 1; omega
              rw [← h8, List.getElem?_eq_getElem h7, getElem!_pos (enc ⟨t / 3, h5⟩) (t % 3) h7]
            · rw [List.getElem?_take, if_neg ht, List.getElem?_eq_none]
              rw [← flatK_rows hlen3]; simp; omega
          have hH : HoldsK enc 3 w g 0 (List.finRange (m + 1)).toArray := by
            intro j hj
            refine ⟨?_, ?_⟩
            · refine cells_of_row hg2 0 j _ ?_
              have h5 := congrArg (fun l : List Value => l[j]?) hF0
              simp only [Array.getElem?_toList] at h5
              rw [Array.getElem?_eq_getElem hj, List.getElem?_take, if_pos (by simpa using hj)] at h5
              rw [List.drop_zero, ← h5]
              rw [getElem!_pos (flatK enc 3 (List.finRange (m + 1)).toArray) j hj]; rfl
            · unfold World.frozen?
              simp only [hg2]
              simp
          rw [hm1] at fin ⊢
          refine (hc m enc (fun x => keyD (row x)) g cap w hlen3 (fun x => (hrd x).ones) hu (fun x => ⟨(by have := (hrow (row x) (List.getElem_mem _)).1.2; simpa using this), by have := (hrow (row x) (List.getElem_mem _)).2; simpa using this⟩) hinj (by omega) hH hgl).mono fun e w' ⟨he', q, os, hw⟩ => ?_
          rw [← hd'] at hw
          rw [he']
          have hwh : w'.heap = (w.heap.modify g (onCells (putCells id 0 (flatK enc 3 d'.toArray)))) ++ os := by rw [hw]; rfl
          have hms : (w.heap.modify g (onCells (putCells id 0 (flatK enc 3 d'.toArray)))).size = w.heap.size := by simp
          have hsz : w.heap.size ≤ w'.heap.size := by rw [hwh, Array.size_append, hms]; omega
          have hblk : ∀ k, k < w.heap.size → k ≠ g → w'.heap[k]? = w.heap[k]? := fun k hk hkg => by
            rw [hwh, Array.getElem?_append_left (by omega), Array.getElem?_modify, if_neg (Ne.symm hkg)]
          have hgb : w'.heap[g]? = some (.cells (putCells id 0 (flatK enc 3 d'.toArray) cur) E (0, 0)) := by
            rw [hwh, Array.getElem?_append_left (by omega), Array.getElem?_modify, if_pos rfl, hg2]; rfl
          have hFs : (flatK enc 3 d'.toArray).size = (m + 1) * 3 := by simp [hd'l]
          refine fin w' [g] ?_ (fun b hb => by simp at hb; subst hb; exact ⟨by omega, .inr (by simp)⟩) ⟨by rw [hw]; rfl, by rw [hw]; rfl, by rw [hw]; rfl, hsz, fun k hk hn => hblk k hk fun hh => hn (.inr (by simp [hh]))⟩
          have hlen' : (sortD rows).length = m + 1 := by unfold sortD; rw [List.length_mergeSort, hm1]
          refine .own g (m + 1) cap 3 _ E (sortD rows) [] (fun q hq => he q ((List.mergeSort_perm rows _).subset hq)) hlen'.symm trivial (by omega) hm hgb (by simpa [putCells] using hs) ?_ (by simp)
          have h5 : (putCells id 0 (flatK enc 3 d'.toArray) cur).toList.take ((m + 1) * 3) = (d'.map enc).flatten := by
            have := putCells_take (flatK enc 3 d'.toArray) cur (by rw [hFs, hs]; omega)
            rwa [hFs, flatK_rows hlen3] at this
          rw [h5, ← hsort, ← hd']
          refine rd_rows (fun x => ?_) d'
          refine (hrd x).step (fun k hk ho => ⟨.inl ho, fun hh => hno k (by simp at hh; subst hh; simp) ho⟩) fun k hk hh => hblk k hk fun hkg => ?_
          subst hkg
          rcases hh with hh | hh
          · exact hno k (by simp) hh
          · cases hh
    · cases h
  · cases h
end
end Go.Abs
set_option linter.unusedVariables false
set_option linter.unusedSimpArgs false
namespace Go.Abs
open Go Go.RowKit Go.ChangeShapes Go.WideShapes

/-- Cells that read as a datum of type t are an α's cells, and G holds of it. -/
structure OpnD {α : Type} (P : Program) (t : TypeId) (n : Nat) (enc : α → List D) (G : α → Prop) : Prop where
  cells : P.cellsOf t = n
  rows : ∀ a, (enc a).length = n
  read : ∀ (H : Type) (en : TypeId × Value → H) (w : World) (base : Nat) (held : Bool) (fuel : Nat) (cs : List Value) (x : DataW H × List MemPlace),
    DataW.trod en P w base (fun _ => true) held fuel t cs = some x → ∃ a : α, RdL (fun k => k < w.heap.size) w cs (enc a) [] ∧ G a

theorem opn_int {P : Program} {t : TypeId} (hu : P.underlying t = some (.int .i64)) (hc : P.cellsOf t = 1) : OpnD P t 1 (fun n : Int => [.int .i64 n]) (fun _ => True) :=
  ⟨hc, fun _ => rfl, fun H en w base held fuel cs x h => by
    obtain ⟨n, rfl, _, hw⟩ := DataW.trod_int hu h
    exact ⟨n, (Rd.int .i64 n).single, trivial⟩⟩
theorem opn_bool {P : Program} {t : TypeId} (hu : P.underlying t = some .bool) (hc : P.cellsOf t = 1) : OpnD P t 1 (fun b : Bool => [.bool b]) (fun _ => True) :=
  ⟨hc, fun _ => rfl, fun H en w base held fuel cs x h => by
    obtain ⟨n, rfl, _⟩ := DataW.trod_bool hu h
    exact ⟨n, (Rd.bool n).single, trivial⟩⟩
theorem opn_string {P : Program} {t : TypeId} (hu : P.underlying t = some .string) (hc : P.cellsOf t = 1) : OpnD P t 1 (fun s : ByteArray => [.str s]) (fun s => s.size ≤ maxLen) :=
  ⟨hc, fun _ => rfl, fun H en w base held fuel cs x h => by
    obtain ⟨n, rfl, _, hw⟩ := DataW.trod_string hu h
    exact ⟨n, (Rd.str n).single, hw⟩⟩
theorem addr_add' (b off k : Nat) : (⟨b, off, none⟩ : Addr).add k = ⟨b, off + k, none⟩ := by
  unfold Addr.add
  first | rfl | (split <;> simp_all)
theorem list_of {α : Type} {R : Nat → α → Prop} : ∀ n : Nat, (∀ i, i < n → ∃ a, R i a) → ∃ l : List α, l.length = n ∧ ∀ i a, l[i]? = some a → R i a
  | 0, _ => ⟨[], rfl, fun i a h => by simp at h⟩
  | n + 1, h => by
    obtain ⟨l, hl, hR⟩ := list_of n (fun i hi => h i (by omega))
    obtain ⟨a, ha⟩ := h n (by omega)
    refine ⟨l ++ [a], by simp [hl], fun i b hb => ?_⟩
    rcases Nat.lt_or_ge i l.length with hi | hi
    · rw [List.getElem?_append_left hi] at hb
      exact hR i b hb
    · rw [List.getElem?_append_right hi] at hb
      have h0 : i - l.length = 0 := by
        have := (List.getElem?_eq_some_iff.1 hb).1
        simp at this
        omega
      rw [h0] at hb
      simp at hb
      obtain rfl : i = n := by omega
      rw [← hb]; exact ha
theorem flat_cells {w : World} {b n : Nat} : ∀ (L : List (List Value)) (k : Nat), (∀ r ∈ L, r.length = n) → (∀ i r, L[i]? = some r → ∀ j u, r[j]? = some u → w.cell? ⟨b, k + i * n + j, none⟩ = some u) →
    ∀ j v, L.flatten[j]? = some v → w.cell? ⟨b, k + j, none⟩ = some v
  | [], k, _, _, j, v, h => by simp at h
  | r :: L, k, hl, hc, j, v, h => by
    have hr : r.length = n := hl r (List.mem_cons_self ..)
    rw [List.flatten_cons] at h
    rcases Nat.lt_or_ge j r.length with hj | hj
    · rw [List.getElem?_append_left hj] at h
      have := hc 0 r rfl j v h
      simpa using this
    · rw [List.getElem?_append_right hj] at h
      have := flat_cells L (k + n) (fun r' hr' => hl r' (List.mem_cons_of_mem _ hr')) (fun i r' hi j' u hu => by
        have := hc (i + 1) r' (by simpa using hi) j' u hu
        rw [Nat.add_mul, Nat.one_mul] at this
        rw [show k + n + i * n + j' = k + (i * n + n) + j' by omega]
        exact this) (j - r.length) v h
      rw [hr] at this hj
      rw [show k + n + (j - n) = k + j by omega] at this
      exact this
theorem flat_rd {w : World} {ok : Nat → Prop} {α : Type} {enc : α → List D} : ∀ (L : List (List Value × α)), (∀ p ∈ L, RdL ok w p.1 (enc p.2) []) → RdL ok w (L.map (·.1)).flatten (L.map fun p => enc p.2).flatten []
  | [], _ => .nil
  | p :: L, h => by
    have := (h p (List.mem_cons_self ..)).app (flat_rd L fun q hq => h q (List.mem_cons_of_mem _ hq)) (by simp)
    simpa using this
theorem opn_slice {α : Type} {n : Nat} {enc : α → List D} {G : α → Prop} {P : Program} {t e : TypeId} (hu : P.underlying t = some (.slice e)) (hc : P.cellsOf t = 1) (hn : 0 < n) (he : OpnD P e n enc G) :
    OpnD P t 1 (fun l : List α => [.list false n (l.map enc)]) (fun l => l.length ≤ maxLen ∧ ∀ a ∈ l, G a) :=
  ⟨hc, fun _ => rfl, fun H en w base held fuel cs x h => by
    rcases Go.Deep.open_slice hu h with ⟨rfl, _⟩ | ⟨a, len, cap, m, m', D', Pl, rfl, hb, hl, hm, hmm, _, hx⟩
    · exact ⟨[], (Rd.empty none false n).single, by simp, fun _ h => by simp at h⟩
    · simp only [if_true] at hmm
      subst hmm
      by_cases h0 : m = 0
      · subst h0
        obtain rfl : len = 0 := by omega
        exact ⟨[], (Rd.empty (some a) false n).single, by simp, fun _ h => by simp at h⟩
      have hel : ∀ i, i < len → ∃ p : List Value × α, (p.1.length = n ∧ RdL (fun k => k < w.heap.size) w p.1 (enc p.2) [] ∧ ∀ j u, p.1[j]? = some u → w.cell? (a.add (i * n + j)) = some u) ∧ G p.2 := by
        intro i hi
        obtain ⟨cs', hcs, ht⟩ := hx i (by omega)
        obtain ⟨y, hy, hg⟩ := he.read H en w base held m' cs' _ ht
        obtain ⟨_, hlen, hcell⟩ := World.cells?_some hcs
        rw [he.cells] at hlen hcell
        refine ⟨(cs', y), ⟨hlen, hy, fun j u hj => ?_⟩, hg⟩
        have hj' : j < n := by rw [← hlen]; exact (List.getElem?_eq_some_iff.1 hj).1
        have := hcell j hj'
        rw [Addr.add_add, hj] at this
        exact this
      -- the first cell tells that the address is a plain one
      obtain ⟨b, off, spot⟩ := a
      have hspot : spot = none := by
        obtain ⟨cs', hcs, ht⟩ := hx 0 (by omega)
        obtain ⟨_, hlen, hcell⟩ := World.cells?_some hcs
        rw [he.cells] at hlen hcell
        have := hcell 0 hn
        rw [List.getElem?_eq_getElem (by omega)] at this
        simpa [Addr.add] using World.cell?_spot this
      subst hspot
      obtain ⟨L, hll, hR⟩ := list_of len hel
      have hmem : ∀ p ∈ L, p.1.length = n ∧ RdL (fun k => k < w.heap.size) w p.1 (enc p.2) [] ∧ G p.2 := by
        intro p hp
        obtain ⟨j, hj⟩ := List.mem_iff_getElem?.1 hp
        exact ⟨(hR j p hj).1.1, (hR j p hj).1.2.1, (hR j p hj).2⟩
      refine ⟨L.map (·.2), ?_, by rw [List.length_map]; omega, fun y hy => ?_⟩
      · have hv := Rd.view (ok := fun k => k < w.heap.size) (w := w) b off len m n ((L.map (·.2)).map enc) (L.map (·.1)).flatten (fun r hr => by
            simp at hr
            obtain ⟨y, z, _, rfl⟩ := hr
            exact he.rows _) (by simp [hll]) hl hm (fun j v hj => by
            have := flat_cells (w := w) (b := b) (n := n) (L.map (·.1)) off (fun r hr => by
                simp at hr
                obtain ⟨y, hy⟩ := hr
                exact (hmem _ hy).1) (fun i r hi j u hu => by
                simp at hi
                obtain ⟨y, hy⟩ := hi
                have := (hR i _ hy).1.2.2 j u hu
                rw [addr_add'] at this
                rw [Nat.add_assoc]
                exact this) j v hj
            exact ⟨World.block_lt_of_cell? w _ this, this⟩) (by
            have := flat_rd (ok := fun k => k < w.heap.size) (w := w) (enc := enc) L fun p hp => (hmem p hp).2.1
            simpa [List.map_map, Function.comp_def] using this)
        exact hv.single
      · simp at hy
        obtain ⟨r, hr⟩ := hy
        exact (hmem _ hr).2.2⟩
/-- A struct's field: the cells from o on are its cells, then the others'. -/
theorem rdl_field {ok : Nat → Prop} {w : World} {cs : List Value} {o n : Nat} {d1 d2 : List D} (h1 : RdL ok w ((cs.drop o).take n) d1 []) (h2 : RdL ok w (cs.drop (o + n)) d2 []) : RdL ok w (cs.drop o) (d1 ++ d2) [] := by
  have := h1.app h2 (by simp)
  rw [← List.drop_drop, List.take_append_drop] at this
  simpa using this
theorem opn_field {α : Type} {P : Program} {t : TypeId} {n : Nat} {enc : α → List D} {G : α → Prop} (ho : OpnD P t n enc G) {H : Type} {en : TypeId × Value → H} {w : World} {base : Nat} {held : Bool} {fu off : Nat} {cs : List Value} {xs : List (DataW H × List MemPlace)} {i : Nat}
    (hi : i < xs.length) (h : DataW.trod en P w base (fun _ => true) held fu t ((cs.drop off).take (P.cellsOf t)) = xs[i]?) : ∃ a : α, RdL (fun k => k < w.heap.size) w ((cs.drop off).take n) (enc a) [] ∧ G a := by
  rw [List.getElem?_eq_getElem hi, ho.cells] at h
  exact ho.read H en w base held fu _ _ h
/-- An argument that is a struct. -/
theorem arg_agg {α : Type} {P : Program} {t : TypeId} {n : Nat} {enc : α → List D} {G : α → Prop} (ho : OpnD P t n enc G) {H : Type} {en : TypeId × Value → H} {w : World} {base : Nat} {held : Bool} {cs : Array Value} {dd : DataW H} {ps : List MemPlace}
    (h : DataW.Trod en P w base (fun _ => true) held t (.agg cs) dd ps) : ∃ a : α, AvR (fun k => k < w.heap.size) w (.agg cs) (.val (.agg (enc a))) [] ∧ G a := by
  obtain ⟨fuel, hf⟩ := h
  obtain ⟨a, h1, h2⟩ := ho.read H en w base held fuel _ _ hf
  refine ⟨a, .val _ _ _ ?_, h2⟩
  have := VR.agg (w := w) _ _ _ h1
  simpa [Value.cells] using this
/-- A package variable's cells are told. -/
theorem glob_at {P : Program} {W : World} {name : String} {g : Nat} {glob : Nat → List D} {cs : Array Value} (hg : P.globalNamed name = some g) (hv : W.var? P name = some cs) (hr : RdL (fun _ => False) W cs.toList (glob g) []) :
    ∃ vs, RdL (fun _ => False) W vs (glob g) [] ∧ (∀ j u, vs[j]? = some u → (g < W.heap.size ∧ ¬ (W.heap.size ≤ g ∨ g ∈ ([] : List Nat))) ∧ W.cell? ⟨g, j, none⟩ = some u) ∧ (vs ≠ [] → glob g ≠ [.anyi .i64] → ∃ E k, W.heap[g]? = some (.cells vs.toArray E k)) := by
  have hb : ∃ E k, W.heap[g]? = some (.cells cs E k) := by
    unfold World.var? at hv
    rw [hg] at hv
    simp only [Option.bind_some] at hv
    split at hv
    · cases hv; exact ⟨_, _, ‹_›⟩
    · cases hv
  obtain ⟨E, k, hb⟩ := hb
  have hlt : g < W.heap.size := (Array.getElem?_eq_some_iff.1 hb).1
  refine ⟨cs.toList, hr, fun j u hj => ⟨⟨hlt, fun hh => hh.elim (fun hh => Nat.not_lt.2 hh hlt) fun hh => by cases hh⟩, ?_⟩, fun _ _ => ⟨E, k, by simpa using hb⟩⟩
  have := World.var?_cell hg hv j
  rw [this, ← Array.getElem?_toList]; exact hj
theorem glob_none {W : World} {g : Nat} {glob : Nat → List D} (h : glob g = []) :
    ∃ vs, RdL (fun _ => False) W vs (glob g) [] ∧ (∀ j u, vs[j]? = some u → (g < W.heap.size ∧ ¬ (W.heap.size ≤ g ∨ g ∈ ([] : List Nat))) ∧ W.cell? ⟨g, j, none⟩ = some u) ∧ (vs ≠ [] → glob g ≠ [.anyi .i64] → ∃ E k, W.heap[g]? = some (.cells vs.toArray E k)) :=
  ⟨[], by rw [h]; exact .nil, fun j u hj => by simp at hj, fun h => absurd rfl h⟩
/-- As the kit's wrap for a row with a list, with the world's shape handed on. -/
theorem returns_shaped {H : Type} {enc : TypeId × Value → H} {a : Assume} {C : Checked} {os : Os} {f : FuncId} {fn : Func} {s : ChangeSpec} {conds : List PathCond} {apart fresh handsOn again : Bool} {X : World → Array Value → Prop}
    (hX : ∀ (w w' : World) (args : Array Value), w.heap = w'.heap → X w args → X w' args)
    (own : ownKnob C.prog.godebug = none) (started : os.Started) (noInit : C.prog.inits.idxOf? f = none) (hfn : C.prog.funcs[f]? = some fn)
    (witness : ∃ (w : World) (tape : Tape) (i : Input), w.os = os ∧ (w.forCall tape i).Shaped C.prog ∧ i.vars = [] ∧ Input.okWide C.prog (w.forCall tape i) .any w.heap.size f i ∧
      ((s.pre enc C.prog fn conds apart (w.forCall tape i).memory i.args ∧ X (w.forCall tape i).memory i.args) ∧ sizedMet enc C.prog fn (OpenSpec.ofChange s) apart (w.forCall tape i).memory i.args) ∧ a.holds C.prog (lone (Frame.enter C.prog f i.args .normal) [] (w.forCall tape i)))
    (contract : ∀ (W : World) (base : Nat) (args : Array Value) (ds gs : List (DataW H)) (before : List MemPlace),
      (∀ (j : Nat) t v, fn.params[j]? = some t → args[j]? = some v → Value.okWide C.prog W .any base t v) →
      DataW.Whole enc C.prog fn.params.toList s.vars apart W args.toList ds gs before →
      conds.all (PathCond.test C.prog ⟨fn.params.toList, ds, s.plain.varTypes C.prog, gs⟩) = true →
      (DataW.weightsEach C.prog (fn.params.toList ++ s.plain.varTypes C.prog) (ds ++ gs)).all (· ≤ reachBytes) = true → X W args → W.ShapedOpen C.prog →
      a.holds C.prog (lone (Frame.enter C.prog f args .normal) [] W) →
      Calls C.prog f args W fun e W' => ∃ v, e = .returned v ∧ s.post enc C.prog fn apart fresh handsOn again W args v W') :
    ReturnsInHanded a C os f .any (fun w args => (s.pre enc C.prog fn conds apart w args ∧ X w args) ∧ sizedMet enc C.prog fn (OpenSpec.ofChange s) apart w args) (s.post enc C.prog fn apart fresh handsOn again) := by
  refine returnsInHanded_of_calls own started noInit witness ?_
  intro w tape i _ hsh _ hok hpre hholds
  obtain ⟨_, _, _, fn', hfn', _, _, _, _, hval⟩ := hok
  have e : fn' = fn := Option.some.inj (hfn'.symm.trans hfn)
  subst e
  obtain ⟨⟨⟨ds, gs, before, hw, hc⟩, hx⟩, hz⟩ := hpre
  have hw' := DataW.Whole.of_heap (w' := w.forCall tape i) (by rfl) hw
  refine (contract (w.forCall tape i) w.heap.size i.args ds gs before hval hw' hc (hz.weights hw) (hX _ _ _ (by rfl) hx) hsh hholds).mono fun e W' ⟨v, he, hp⟩ => ?_
  subst he
  exact ChangeSpec.post_blind hp
end Go.Abs
