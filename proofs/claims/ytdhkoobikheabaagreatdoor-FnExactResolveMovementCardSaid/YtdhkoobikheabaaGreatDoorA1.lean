import Derived.Test.YtdhkoobikheabaaGreatDoorA0
import Derived.Laws.MakeOwn
import Derived.Laws.Sem
import Derived.Calls
import Derived.WideLaws
import Derived.Laws.BytesString
set_option linter.unusedVariables false
set_option linter.unusedSimpArgs false
namespace Go.Abs
open Go

section
variable {R : Type} {ok0 mine u ua uo : Nat → Prop} {e : Env} {tmps : Array Value} {w w' : World} {fp : Nat → List Nat} {st q : Nat} {res : R} {glob : Nat → List D}

theorem capS_sound (h : Sim ok0 mine ua uo e tmps w fp) (mok : ∀ k, mine k → ok0 k) {s : Nat} {k : List D → Upd → Option R} (hk : capS e s k = some res) :
    ∃ ds us fp', k ds us = some res ∧ Sim ok0 mine ua uo (e.app us) tmps w fp' ∧ RP (okOf ok0 fp') w (tmps.getD s undef) ds ∧ (∀ x, tmps.size ≤ x → fp' x = fp x) ∧ ∀ k, okOf ok0 fp k → okOf ok0 fp' k := by
  unfold capS at hk
  split at hk
  · rename_i b ver ds hs
    split at hk
    · rename_i hp
      obtain ⟨g, cur, E, B, hv1, hv2, hfp, hg, hrd, hgB, hub, huv⟩ := h.boxAt hs
      have := hrd.plain hp
      subst this
      have hsl : s < tmps.size := (Array.getElem?_eq_some_iff.1 hv1).1
      let fp' : Nat → List Nat := fun x => if x = s then [] else fp x
      have e1 : fp' s = [] := by simp [fp']
      have hok' : ∀ k, okOf ok0 fp k → okOf ok0 fp' k := fun k ho => ⟨ho.1, fun x hx => by
        by_cases hxs : x = s
        · subst hxs; rw [e1] at hx; cases hx
        · simp only [fp', hxs, if_false] at hx; exact ho.2 x hx⟩
      have hgok : okOf ok0 fp' g := by
        have hgs : g ∈ fp s := by rw [hfp]; exact List.mem_cons_self ..
        refine ⟨mok g (h.lt s g hgs).2, fun x hx => ?_⟩
        by_cases hxs : x = s
        · subst hxs; rw [e1] at hx; cases hx
        · simp only [fp', hxs, if_false] at hx; exact h.disj x s g hxs hx hgs
      have hrp : RP (okOf ok0 fp') w (.pointer (some ⟨g, 0, none⟩)) ds := by
        refine ⟨g, 0, cur.toList, rfl, fun j u hj => ⟨hgok, ?_⟩, hrd.step (fun k _ => hok' k) fun _ _ _ => rfl⟩
        have := cells_of_row hg 0 j u (by simpa using hj)
        simpa using this
      have hqs : fp' tmps.size = fp tmps.size := by have : tmps.size ≠ s := by omega
                                                    simp [fp', this]
      obtain ⟨k1, k2⟩ := h.turn (uo' := uo) (fun k hk => hk) (t := s) (q := tmps.size) hv1 (Nat.le_refl _) (av := .rp ds) (fp' := fp') (fun x hx1 hx2 => by simp [fp', hx1])
        (fun b hb => by rw [e1, hqs] at hb; exact hb.elim (fun hh => by cases hh) .inr) (fun b hb hb' => by rw [e1] at hb; cases hb) (fun _ _ _ => rfl) (Nat.le_refl _)
        (by rw [e1]; exact .rp _ _ hrp) rfl trivial
        (fun x v' hx hv' ha => AliasOK.stale fun t ht => by
          rw [ha] at ht
          obtain rfl := Option.some.inj ht
          rw [Env.get_upd, if_pos ⟨rfl, by rw [h.size]; exact hsl⟩]
          exact ⟨fun _ _ _ hh => (by cases hh), fun _ _ _ hh => (by cases hh), fun _ _ hh => (by cases hh)⟩) trivial
      refine ⟨ds, _, fp', hk, k1, by rw [hv2]; exact hrp, fun x hx => ?_, hok'⟩
      have : x ≠ s := by omega
      simp [fp', this]
    · cases hk
  · rename_i ds hs
    obtain ⟨v, hv1, hv2, hr⟩ := h.rpAt hs
    exact ⟨ds, [], fp, hk, h, by rw [hv2]; exact hr, fun _ _ => rfl, fun _ h => h⟩
  · cases hk
theorem caps_sound (h : Sim ok0 mine ua uo e tmps w fp) (mok : ∀ k, mine k → ok0 k) {os : List Operand} {xs : List X} (hx : okXs os xs = true) {acc : List (List D)} {us : Upd} {k : List (List D) → Upd → Option R} (hk : caps e xs acc us k = some res) :
    ∃ dss u' fp', k (acc.reverse ++ dss) (us ++ u') = some res ∧ Sim ok0 mine ua uo (e.app u') tmps w fp' ∧ (∀ x, tmps.size ≤ x → fp' x = fp x) ∧ (os.map (evalT tmps)).length = dss.length ∧
      (∀ (j : Nat) (p : Value) (c : List D), (os.map (evalT tmps))[j]? = some p → dss[j]? = some c → RP (okOf ok0 fp') w p c) ∧ ∀ k, okOf ok0 fp k → okOf ok0 fp' k := by
  induction xs generalizing e fp os acc us with
  | nil =>
    cases os with
    | nil => exact ⟨[], [], fp, by simpa [caps] using hk, h, fun _ _ => rfl, rfl, fun j p c h => by simp at h, fun _ h => h⟩
    | cons => cases hx
  | cons x xs ih =>
    cases os with
    | nil => cases hx
    | cons o os =>
      simp only [okXs, Bool.and_eq_true] at hx
      cases x with
      | t s =>
        simp only [caps] at hk
        have ho : o = .tmp s := by have := hx.1; cases o <;> simp [okX] at this; rw [this]
        subst ho
        obtain ⟨ds, u1, fp1, hk1, h1, hrp, hvirt, hok1⟩ := capS_sound h mok hk
        obtain ⟨dss, u2, fp2, hk2, h2, hvirt2, hlen, hrps, hok2⟩ := ih h1 hx.2 hk1
        refine ⟨ds :: dss, u1 ++ u2, fp2, by simpa using hk2, by rw [Env.app_append]; exact h2, fun x hx => (hvirt2 x hx).trans (hvirt x hx), by simpa using hlen, fun j p c hp hc => ?_, fun k hk => hok2 k (hok1 k hk)⟩
        cases j with
        | zero =>
          simp at hp hc
          subst hp; subst hc
          exact hrp.step (fun k _ => hok2 k) fun _ _ _ => rfl
        | succ j => exact hrps j p c (by simpa using hp) (by simpa using hc)
      | _ => simp [caps] at hk

/-! ### what a call is given -/
def isArg : AV → Bool
  | .val _ => true
  | .rp _ => true
  | .clo _ _ => true
  | _ => false
inductive ArgsR (ok : Nat → Prop) (w : World) : List Value → List AV → List Nat → Prop
  | nil : ArgsR ok w [] [] []
  | cons (v : Value) (a : AV) (vs : List Value) (as : List AV) (B1 B2 : List Nat) (ha : isArg a = true) (h1 : AvR ok w v a B1) (h2 : ArgsR ok w vs as B2) (hd : ∀ b ∈ B1, b ∉ B2) : ArgsR ok w (v :: vs) (a :: as) (B1 ++ B2)
/-- Arguments, those that are given away with their blocks at q, q + 1, .. -/
inductive ArgsM (ok : Nat → Prop) (w : World) (fp : Nat → List Nat) : Nat → List Value → List AV → Prop
  | nil (q : Nat) : ArgsM ok w fp q [] []
  | plain (q : Nat) (v : Value) (a : AV) (vs : List Value) (as : List AV) (ha : isArg a = true) (h1 : AvR ok w v a []) (h2 : ArgsM ok w fp q vs as) : ArgsM ok w fp q (v :: vs) (a :: as)
  | moved (q : Nat) (v : Value) (x : V) (vs : List Value) (as : List AV) (h1 : VR ok w v x (fp q)) (h2 : ArgsM ok w fp (q + 1) vs as) : ArgsM ok w fp q (v :: vs) (.val x :: as)
theorem ArgsM.argsR {ok : Nat → Prop} {vs : List Value} {as : List AV} (hd : ∀ s t b, s ≠ t → b ∈ fp s → b ∉ fp t) (h : ArgsM ok w fp q vs as) :
    ∃ Bs, ArgsR ok w vs as Bs ∧ ∀ b ∈ Bs, ∃ s, q ≤ s ∧ b ∈ fp s := by
  induction h with
  | nil => exact ⟨[], .nil, by simp⟩
  | plain q v a vs as ha h1 h2 ih =>
    obtain ⟨Bs, g1, g2⟩ := ih
    exact ⟨[] ++ Bs, .cons v a vs as [] Bs ha h1 g1 (by simp), by simpa using g2⟩
  | moved q v x vs as h1 h2 ih =>
    obtain ⟨Bs, g1, g2⟩ := ih
    refine ⟨fp q ++ Bs, .cons v _ vs as _ Bs rfl (.val _ _ _ h1) g1 fun b hb hb' => ?_, fun b hb => ?_⟩
    · obtain ⟨s, hs, hbs⟩ := g2 b hb'
      exact hd q s b (by omega) hb hbs
    · rcases List.mem_append.1 hb with hb | hb
      · exact ⟨q, Nat.le_refl _, hb⟩
      · obtain ⟨s, hs, hbs⟩ := g2 b hb
        exact ⟨s, by omega, hbs⟩

/-- What may be looked into while something owned is lent. -/
def okLent (ok0 : Nat → Prop) (tmps : Array Value) (fp : Nat → List Nat) (k : Nat) : Prop := ok0 k ∧ ∀ s, tmps.size ≤ s → k ∉ fp s

theorem okOf_lent {k : Nat} (h : okOf ok0 fp k) : okLent ok0 tmps fp k := ⟨h.1, fun s _ => h.2 s⟩
theorem Sim.lent (h : Sim ok0 mine ua uo e tmps w fp) (mok : ∀ k, mine k → ok0 k) {t : Nat} (ht : t < tmps.size) {b : Nat} (hb : b ∈ fp t) : okLent ok0 tmps fp b :=
  ⟨mok b (h.lt t b hb).2, fun s hs hbs => h.disj t s b (by omega) hb hbs⟩

theorem argS_sound (h : Sim ok0 mine ua uo e tmps w fp) (mok : ∀ k, mine k → ok0 k) {s : Nat} {r : Option Nat} {k : Bool → AV → Option R} (hk : argS e s r k = some res) :
    ∃ b a, k b a = some res ∧ isArg a = true ∧ AvR (okLent ok0 tmps fp) w (tmps.getD s undef) a [] ∧ (b = false → AvR (okOf ok0 fp) w (tmps.getD s undef) a []) := by
  have plain : ∀ {a : AV}, k false a = some res → isArg a = true → AvR (okOf ok0 fp) w (tmps.getD s undef) a [] →
      ∃ b a, k b a = some res ∧ isArg a = true ∧ AvR (okLent ok0 tmps fp) w (tmps.getD s undef) a [] ∧ (b = false → AvR (okOf ok0 fp) w (tmps.getD s undef) a []) :=
    fun {a} h1 h2 h3 => ⟨false, a, h1, h2, h3.step (fun k _ => okOf_lent) fun _ _ _ => rfl, fun _ => h3⟩
  unfold argS at hk
  split at hk
  · rename_i id w' rows hs
    obtain ⟨v, hv, hv'⟩ := h.slot (s := s) (by rw [hs]; simp)
    have hr := h.rel s v hv
    rw [hs] at hr
    have hsl : s < tmps.size := (Array.getElem?_eq_some_iff.1 hv).1
    have := hr.own_inv.stale (ok' := okLent ok0 tmps fp) (fun k _ => okOf_lent) (fun b hb => h.lent mok hsl hb)
    simp only [D.stale] at this
    exact ⟨true, _, hk, rfl, by rw [hv']; exact .val _ _ _ (.one _ _ _ this), fun hh => by cases hh⟩
  · cases hk
  · rename_i d hnd hs
    obtain ⟨v, hv, hv'⟩ := h.slot (s := s) (by rw [hs]; simp)
    exact plain hk rfl (by rw [hv']; exact .val _ _ _ (.one _ _ _ (h.plain_nil hv hs fun e rows hd => hnd e rows hd)))
  · rename_i ds hs
    split at hk
    · rename_i hp
      obtain ⟨v, hv, hv'⟩ := h.slot (s := s) (by rw [hs]; simp)
      obtain ⟨vs, rfl, h1⟩ := h.plain_agg hv hs hp
      exact plain hk rfl (by rw [hv']; exact .val _ _ _ (.agg _ _ _ h1))
    · obtain ⟨v, hv, hv', hr⟩ := h.valOne hs
      obtain ⟨vs, rfl, h1⟩ := hr.agg_inv
      have hsl : s < tmps.size := (Array.getElem?_eq_some_iff.1 hv).1
      have := h1.stale (ok' := okLent ok0 tmps fp) (fun k _ => okOf_lent) (fun b hb => h.lent mok hsl hb)
      exact ⟨true, _, hk, rfl, by rw [hv']; exact .val _ _ _ (.agg _ _ _ this), fun hh => by cases hh⟩
  · rename_i t j id hs
    split at hk
    · unfold onSome at hk
      split at hk
      · rename_i qr hq
        dsimp only at hk
        obtain ⟨v, hv, hv'⟩ := h.slot (s := s) (by rw [hs]; simp)
        have ha := h.al s v hv
        rw [hs] at ha
        obtain ⟨v2, B, hrd, hB, hu, htl, hpl⟩ := h.ownAt hq
        have hv2 : v2 = v := by
          cases j with
          | none =>
            obtain ⟨p1, p2⟩ := hpl
            have hva : tmps[t]? = some v := ha _ _ p2
            rw [p1] at hva
            exact Option.some.inj hva
          | some j =>
            obtain ⟨g4, b4, ds4, p1, p2, p3, p4⟩ := hpl
            obtain ⟨g3, hg3, hc3⟩ := ha _ _ p2
            obtain rfl : g4 = g3 := by rw [p1] at hg3; injection hg3 with h1; injection h1 with h1; injection h1 with h1; injection h1
            rw [p3] at hc3
            exact Option.some.inj hc3
        subst hv2
        have := hrd.stale (ok' := okLent ok0 tmps fp) (fun k _ => okOf_lent) (fun b hb => h.lent mok htl (hB b hb))
        simp only [D.stale] at this
        exact ⟨true, _, hk, rfl, by rw [hv']; exact .val _ _ _ (.one _ _ _ this), fun hh => by cases hh⟩
      · cases hk
    · cases hk
  · rename_i t ver hs
    split at hk
    · split at hk
      · rename_i b ver' ds ht
        split at hk
        · rename_i hid
          subst hid
          obtain ⟨v, hv, hv'⟩ := h.slot (s := s) (by rw [hs]; simp)
          have ha := h.al s v hv
          rw [hs] at ha
          obtain ⟨g, cur, E, htv, hg, rfl⟩ := ha _ _ ht
          obtain ⟨g2, cur2, E2, B', hv2, _, hfp, hg2, hrd, hgB, _, _⟩ := h.boxAt ht
          obtain rfl : g = g2 := by rw [htv] at hv2; injection hv2 with h1; injection h1 with h1; injection h1 with h1; injection h1
          obtain rfl : cur = cur2 := by rw [hg] at hg2; injection hg2 with h1; injection h1
          have htl : t < tmps.size := (Array.getElem?_eq_some_iff.1 htv).1
          have := hrd.stale (ok' := okLent ok0 tmps fp) (fun k _ => okOf_lent) (fun b hb => h.lent mok htl (by rw [hfp]; exact List.mem_cons_of_mem _ hb))
          have h3 := VR.agg (w := w) _ _ _ this
          refine ⟨true, _, hk, rfl, ?_, fun hh => by cases hh⟩
          rw [hv']
          exact .val _ _ _ (by simpa using h3)
        · cases hk
      · cases hk
    · cases hk
  · rename_i ds hs
    obtain ⟨v, hv1, hv2, hr⟩ := h.rpAt hs
    exact plain hk rfl (by rw [hv2]; exact .rp _ _ hr)
  · rename_i f c hs
    obtain ⟨v, hv, hv'⟩ := h.slot (s := s) (by rw [hs]; simp)
    have hr := h.rel s v hv
    rw [hs] at hr
    refine plain hk rfl ?_
    rw [hv']
    generalize fp s = B at hr
    cases hr with
    | clo _ ps _ hl hh => exact .clo _ ps _ hl hh
  · cases hk

theorem constD_stale {ok : Nat → Prop} {v : Value} {d : D} (h : constD v d = true) : Rd ok w v d.stale [] :=
  (constD_rd (ok := ok) h).stale (fun _ _ h => h) (by simp)

theorem argsOf_sound (h : Sim ok0 mine ua uo e tmps w fp) (mok : ∀ k, mine k → ok0 k) {os : List Operand} {xs : List X} (hx : okXs os xs = true) {vs : List V} {mvs : List Value} (hrow : Row (okOf ok0 fp) w fp q mvs vs)
    (hm : mvs = (os.zip xs).filterMap fun p => match p.2 with | .m _ _ => some (evalT tmps p.1) | _ => none)
    {b : Bool} {acc : List AV} {k : Bool → List AV → Option R} (hk : argsOf e xs vs b acc k = some res) :
    ∃ b' as, k (b || b') (acc.reverse ++ as) = some res ∧ ArgsM (okLent ok0 tmps fp) w fp q (os.map (evalT tmps)) as ∧ (b' = false → ArgsM (okOf ok0 fp) w fp q (os.map (evalT tmps)) as) := by
  induction xs generalizing os vs mvs q b acc with
  | nil =>
    cases os with
    | nil => exact ⟨false, [], by simpa [argsOf] using hk, .nil _, fun _ => .nil _⟩
    | cons => cases hx
  | cons x xs ih =>
    cases os with
    | nil => cases hx
    | cons o os =>
      simp only [okXs, Bool.and_eq_true] at hx
      have step : ∀ {b1 : Bool} {a : AV}, mvs = ((os.zip xs).filterMap fun p => match p.2 with | .m _ _ => some (evalT tmps p.1) | _ => none) → argsOf e xs vs (b || b1) (a :: acc) k = some res → isArg a = true →
          AvR (okLent ok0 tmps fp) w (evalT tmps o) a [] → (b1 = false → AvR (okOf ok0 fp) w (evalT tmps o) a []) →
          ∃ b' as, k (b || b') (acc.reverse ++ as) = some res ∧ ArgsM (okLent ok0 tmps fp) w fp q ((o :: os).map (evalT tmps)) as ∧ (b' = false → ArgsM (okOf ok0 fp) w fp q ((o :: os).map (evalT tmps)) as) := by
        intro b1 a hm' hk' ha h1 h2
        obtain ⟨b2, as, g1, g2, g3⟩ := ih hx.2 hrow hm' hk'
        refine ⟨b1 || b2, a :: as, by simpa [Bool.or_assoc] using g1, .plain q _ a _ as ha h1 g2, fun hb => ?_⟩
        simp at hb
        exact .plain q _ a _ as ha (h2 hb.1) (g3 hb.2)
      cases x with
      | c d =>
        simp only [argsOf] at hk
        have hc : constD (evalT tmps o) d = true := by have := hx.1; cases o <;> simp [okX] at this; exact this
        exact step (b1 := false) (by simpa using hm) (by simpa using hk) rfl (.val _ _ _ (.one _ _ _ (constD_stale hc))) fun _ => .val _ _ _ (.one _ _ _ (constD_stale hc))
      | k d =>
        simp only [argsOf] at hk
        have hc : constD (evalT tmps o) d = true := by have := hx.1; cases o <;> simp [okX] at this; exact this
        exact step (b1 := false) (by simpa using hm) (by simpa using hk) rfl (.val _ _ _ (.one _ _ _ (constD_rd hc))) fun _ => .val _ _ _ (.one _ _ _ (constD_rd hc))
      | f f =>
        simp only [argsOf] at hk
        have hc : evalT tmps o = .func (.func f) #[] #[] := by have := hx.1; cases o <;> simp [okX] at this; rw [this]; rfl
        have hclo : ∀ ok : Nat → Prop, AvR ok w (evalT tmps o) (.clo f []) [] := fun ok => by rw [hc]; exact .clo f [] [] rfl fun j p c h => by simp at h
        exact step (b1 := false) (by simpa using hm) (by simpa using hk) rfl (hclo _) fun _ => hclo _
      | t s =>
        simp only [argsOf] at hk
        have ho : o = .tmp s := by have := hx.1; cases o <;> simp [okX] at this; rw [this]
        subst ho
        obtain ⟨b1, a, g1, g2, g3, g4⟩ := argS_sound h mok hk
        exact step (by simpa using hm) g1 g2 g3 g4
      | a s r =>
        simp only [argsOf] at hk
        have ho : o = .tmp s := by have := hx.1; cases o <;> simp [okX] at this; rw [this]
        subst ho
        obtain ⟨b1, a, g1, g2, g3, g4⟩ := argS_sound h mok hk
        exact step (by simpa using hm) g1 g2 g3 g4
      | m s r =>
        cases vs with
        | nil => simp [argsOf] at hk
        | cons v vs =>
          simp only [argsOf] at hk
          simp only [List.zip_cons_cons, List.filterMap_cons] at hm
          cases hrow with
          | cons _ v1 _ mvs' _ h1 h2 =>
            injection hm with hm1 hm2
            obtain ⟨b2, as, g1, g2, g3⟩ := ih hx.2 h2 hm2 hk
            subst hm1
            exact ⟨b2, .val v :: as, by simpa using g1, .moved q _ v _ as (h1.ok_mono fun k => okOf_lent) g2, fun hb => .moved q _ v _ as h1 (g3 hb)⟩
      | g g => simp [argsOf] at hk
      | p s => simp [argsOf] at hk

theorem movesOf_sound (h : Sim ok0 mine ua uo e tmps w fp) (hst : ¬ ua st) (hq : tmps.size ≤ q) (hq0 : ∀ s, q ≤ s → fp s = []) (huo : uo st) {os : List Operand} {xs : List X} (hx : okXs os xs = true) {acc : List V} {us : Upd} {k : List V → Upd → Option R}
    (hk : movesOf st e xs acc us k = some res) :
    ∃ Vs u fp', k (acc.reverse ++ Vs) (us ++ u) = some res ∧ Sim ok0 mine ua uo (e.app u) tmps w fp' ∧
      Row (okOf ok0 fp') w fp' q ((os.zip xs).filterMap fun p => match p.2 with | .m _ _ => some (evalT tmps p.1) | _ => none) Vs ∧
      (∀ s, tmps.size ≤ s → s < q → fp' s = fp s) ∧ ∀ k, okOf ok0 fp k → okOf ok0 fp' k := by
  induction xs generalizing e fp q os acc us with
  | nil =>
    cases os with
    | nil => exact ⟨[], [], fp, by simpa [movesOf] using hk, h, .nil _, fun _ _ _ => rfl, fun _ h => h⟩
    | cons => cases hx
  | cons x xs ih =>
    cases os with
    | nil => cases hx
    | cons o os =>
      simp only [okXs, Bool.and_eq_true] at hx
      cases x with
      | m s r =>
        simp only [movesOf] at hk
        have ho : o = .tmp s := by have := hx.1; cases o <;> simp [okX] at this; rw [this]
        subst ho
        obtain ⟨V, u1, fp1, hk1, ht, hv⟩ := takeS_sound h hst hq (hq0 q (Nat.le_refl _)) hk
        have hsim : Sim ok0 mine ua uo (e.app u1) tmps w fp1 := ht.sim.weak (fun _ h => h) fun k hk => hk.elim id (fun hh => hh ▸ huo)
        obtain ⟨Vs, u2, fp2, hk2, hs2, hrow, hlow, hok⟩ := ih (q := q + 1) hsim (by omega) (fun s hs => by rw [ht.virt s (by omega) (by omega)]; exact hq0 s (by omega)) hx.2 hk1
        refine ⟨V :: Vs, u1 ++ u2, fp2, by simpa using hk2, by rw [Env.app_append]; exact hs2, ?_, fun s hs hsq => ?_, fun k hk => hok k (ht.ok k hk)⟩
        · simp only [List.zip_cons_cons, List.filterMap_cons]
          refine .cons q _ _ _ _ ?_ hrow
          rw [hlow q hq (by omega)]
          exact hv.ok_mono hok
        · rw [hlow s hs (by omega)]; exact ht.virt s hs (by omega)
      | t s => simp only [movesOf] at hk; simpa using ih h hq hq0 hx.2 hk
      | a s r => simp only [movesOf] at hk; simpa using ih h hq hq0 hx.2 hk
      | c d => simp only [movesOf] at hk; simpa using ih h hq hq0 hx.2 hk
      | k d => simp only [movesOf] at hk; simpa using ih h hq hq0 hx.2 hk
      | g g => simp only [movesOf] at hk; simpa using ih h hq hq0 hx.2 hk
      | p g => simp only [movesOf] at hk; simpa using ih h hq hq0 hx.2 hk
      | f f => simp only [movesOf] at hk; simpa using ih h hq hq0 hx.2 hk
end

/-! ### an argument that is lent to be written -/
section
variable {R : Type} {ok0 mine u uo : Nat → Prop} {e e1 : Env} {tmps : Array Value} {w w' : World} {fp : Nat → List Nat} {st q : Nat} {res : R} {glob : Nat → List D}

theorem sameW_spec : ∀ {ds ds' : List D}, sameW ds ds' = true → ∀ (j e : Nat) (rows : List (List D)), ds[j]? = some (.list true e rows) → ∃ rows', ds'[j]? = some (.list true e rows')
  | [], _, _, j, e, rows, hj => by simp at hj
  | d :: ds, [], h, _, _, _, _ => by
    have h0 : sameW (d :: ds) [] = false := by
      cases d with
      | list o a b => cases o <;> rfl
      | _ => rfl
    rw [h0] at h; cases h
  | d :: ds, d' :: ds', h, j, e, rows, hj => by
    have tail : sameW ds ds' = true ∧ ∀ e rows, d = .list true e rows → ∃ rows', d' = .list true e rows' := by
      cases d with
      | list o e1 r1 => cases o with
        | false => exact ⟨by simpa [sameW] using h, fun _ _ hh => by cases hh⟩
        | true => cases d' with
          | list o' e2 r2 => cases o' with
            | true => simp [sameW] at h; exact ⟨h.2, fun e rows hh => by injection hh with _ h1 _; exact ⟨r2, by rw [← h1, h.1]⟩⟩
            | false => simp [sameW] at h
          | _ => simp [sameW] at h
      | _ => exact ⟨by simpa [sameW] using h, fun _ _ hh => by cases hh⟩
    cases j with
    | zero => simp at hj; obtain ⟨rows', h1⟩ := tail.2 e rows hj; exact ⟨rows', by simp [h1]⟩
    | succ j => simpa using sameW_spec tail.1 j e rows (by simpa using hj)
theorem RdL.goneAll {ok : Nat → Prop} {vs : List Value} {ds : List D} {B : List Nat} (h : RdL ok w vs ds B) : RdL ok w vs (ds.map fun _ => D.gone) [] := by
  have hl := h.length
  have ho := h.ones
  clear h
  induction vs generalizing ds with
  | nil => cases ds with
    | nil => exact .nil
    | cons => simp at hl
  | cons v vs ih => cases ds with
    | nil => simp at hl
    | cons d ds =>
      have := RdL.cons v D.gone vs _ [] [] (.gone v (ho v (List.mem_cons_self ..))) (ih (by simpa using hl) fun u hu => ho u (List.mem_cons_of_mem _ hu)) (by simp)
      simpa using this
/-- Aliases of a box whose cells are as they were. -/
theorem AliasOK.reown {L L' : Nat → AV} {v : Value} {av : AV} {t b ver g : Nat} {ds ds' : List D} (h : AliasOK L w tmps v av) (ht : L t = .box b ver ds) (htv : tmps[t]? = some (.pointer (some ⟨g, 0, none⟩))) (hg : w'.heap[g]? = w.heap[g]?) (ht' : L' t = .box b ver ds')
    (hs : ∀ (j e : Nat) (rows : List (List D)), ds[j]? = some (.list true e rows) → ∃ rows', ds'[j]? = some (.list true e rows')) (ha : aliasOf av = some t) : AliasOK L' w' tmps v av := by
  cases av with
  | ref t2 j2 i2 =>
    simp only [aliasOf, Option.some.injEq] at ha; subst ha
    cases j2 with
    | none => intro e2 rows2 hL; rw [ht'] at hL; cases hL
    | some j2 =>
      intro b2 ds2 hL; rw [ht'] at hL; injection hL with h5 h6; subst h6
      obtain ⟨g3, p1, p2⟩ := h _ _ ht
      obtain rfl : g = g3 := by rw [htv] at p1; injection p1 with h1; injection h1 with h1; injection h1 with h1; injection h1
      exact ⟨g, p1, (World.cell?_of_block (w := w) (w' := w') hg).trans p2⟩
  | copy t2 i2 =>
    simp only [aliasOf, Option.some.injEq] at ha; subst ha
    intro b2 ds2 hL; rw [ht'] at hL; injection hL with h5 h6; subst h6
    obtain ⟨g3, c3, E3, p1, p2, p3⟩ := h _ _ ht
    obtain rfl : g = g3 := by rw [htv] at p1; injection p1 with h1; injection h1 with h1; injection h1 with h1; injection h1
    exact ⟨g, c3, E3, p1, hg.trans p2, p3⟩
  | part t2 i2 o2 n2 =>
    simp only [aliasOf, Option.some.injEq] at ha; subst ha
    intro b2 ds2 hL; rw [ht'] at hL; injection hL with h5 h6; subst h6
    obtain ⟨g3, c3, E3, p1, p2, p3⟩ := h _ _ ht
    obtain rfl : g = g3 := by rw [htv] at p1; injection p1 with h1; injection h1 with h1; injection h1 with h1; injection h1
    exact ⟨g, c3, E3, p1, hg.trans p2, p3⟩
  | bp t2 i2 o2 =>
    simp only [aliasOf, Option.some.injEq] at ha; subst ha
    intro v2 ds2 hL; rw [ht'] at hL; injection hL with h5 h6; subst h5
    exact h _ _ ht
  | into t2 j2 i2 e2 i3 o2 =>
    simp only [aliasOf, Option.some.injEq] at ha; subst ha
    cases j2 with
    | none => intro e2 rows2 hL; rw [ht'] at hL; cases hL
    | some j2 =>
      intro b2 ds2 hL; rw [ht'] at hL; injection hL with h5 h6 h7; subst h6; subst h7
      obtain ⟨g3, g4, n4, c4, p1, p2, p3, rows4, p4⟩ := h _ _ ht
      obtain rfl : g = g3 := by rw [htv] at p1; injection p1 with h1; injection h1 with h1; injection h1 with h1; injection h1
      exact ⟨g, g4, n4, c4, p1, (World.cell?_of_block (w := w) (w' := w') hg).trans p2, p3, hs _ _ _ p4⟩
  | cell t2 i2 i3 o2 =>
    simp only [aliasOf, Option.some.injEq] at ha; subst ha
    intro e2 rows2 row2 w2 inner2 hL; rw [ht'] at hL; cases hL
  | mref t2 i2 =>
    simp only [aliasOf, Option.some.injEq] at ha; subst ha
    intro _ hL; rw [ht'] at hL; cases hL
  | _ => simp [aliasOf] at ha

/-- A slot that owns nothing takes up an alias of its value. -/
theorem Sim.alias {ua ua' uo' : Nat → Prop} (h : Sim ok0 mine ua uo' e tmps w fp) (hua : ∀ k, ua k → ua' k) {s : Nat} {v : Value} (hv : tmps[s]? = some v) (hno : NoOwn (e.get s)) (hfp : fp s = []) {av : AV} (hrel : AvR (okOf ok0 fp) w v av []) (hal : AliasOK e.get w tmps v av) (hask : ∀ id, askStamp av = some id → ua' id) (hna : NoOwn av) (hns : aliasOf av ≠ some s) (hin : OwnIn uo' av) :
    Sim ok0 mine ua' uo' (e.upd s av) tmps w fp := by
  have hsl : s < tmps.size := (Array.getElem?_eq_some_iff.1 hv).1
  have hg : (e.upd s av).get s = av := by rw [Env.get_upd, if_pos ⟨rfl, by rw [h.size]; exact hsl⟩]
  have ho : ∀ x, x ≠ s → (e.upd s av).get x = e.get x := fun x hx => by rw [Env.get_upd, if_neg fun hh => hx hh.1]
  refine ⟨by rw [Env.upd_length]; exact h.size, fun x y hx => ?_, fun x y hx => ?_, h.disj, h.lt, fun x id hid => ?_, fun x => ?_⟩
  · by_cases hxs : x = s
    · subst hxs
      rw [hv] at hx
      obtain rfl := Option.some.inj hx
      rw [hg, hfp]; exact hrel
    · rw [ho x hxs]; exact h.rel x y hx
  · by_cases hxs : x = s
    · subst hxs
      rw [hv] at hx
      obtain rfl := Option.some.inj hx
      rw [hg]
      exact hal.keep (fun t ht => ⟨ho t fun hh => hns (by rw [ht, hh]), rfl, fun _ _ _ _ _ _ => rfl⟩) fun _ _ _ _ _ _ _ _ _ _ _ => rfl
    · rw [ho x hxs]
      by_cases hd : aliasOf (e.get x) = some s
      · refine AliasOK.stale fun t ht => ?_
        rw [hd] at ht
        obtain rfl := Option.some.inj ht
        rw [hg]
        exact ⟨fun id e' rows hh => absurd hh (hna.1 _ _ _), fun b ver ds hh => absurd hh (hna.2.1 _ _ _), fun _ _ hh => absurd hh (hna.2.2 _ _)⟩
      · exact (h.al x y hx).keep (fun t ht => ⟨ho t fun hh => hd (by rw [ht, hh]), rfl, fun _ _ _ _ _ _ => rfl⟩) fun _ _ _ _ _ _ _ _ _ _ _ => rfl
  · by_cases hxs : x = s
    · subst hxs; rw [hg] at hid; exact hask id hid
    · rw [ho x hxs] at hid; exact hua _ (h.ask x id hid)
  · by_cases hxs : x = s
    · subst hxs; rw [hg]; exact hin
    · rw [ho x hxs]; exact h.stamps x
/-- What was lent can be put back: slot t holds again what the callee has made of it. -/
def BackOK (ok0 mine u uo : Nat → Prop) (e1 : Env) (tmps : Array Value) (w : World) (fp1 : Nat → List Nat) (t q : Nat) (v0 : Value) (back : V → Option AV) : Prop :=
  ∀ (w' : World) (fp' : Nat → List Nat) (y : V) (av : AV), Sim ok0 mine u uo e1 tmps w' fp' → fp' t = fp1 t → (∀ k ∈ fp1 t, w'.heap[k]? = w.heap[k]?) → VR (okOf ok0 fp') w' v0 y (fp' q) → back y = some av →
    ∃ fp'', Sim ok0 mine u uo (e1.upd t av) tmps w' fp'' ∧ (∀ x, tmps.size ≤ x → x ≠ q → fp'' x = fp' x) ∧ ∀ k, okOf ok0 fp' k → okOf ok0 fp'' k

/-- A box gets back what its cells lead to. -/
theorem Sim.boxBack {fp' : Nat → List Nat} (h : Sim ok0 mine u uo e1 tmps w' fp') (hq : tmps.size ≤ q) {t b ver st' : Nat} {ds dsm ds' : List D} {g : Nat} (htv : tmps[t]? = some (.pointer (some ⟨g, 0, none⟩))) (hmid : e1.get t = .box b st' dsm) (hel : e1.length = tmps.size)
    (hgw : w'.heap[g]? = w.heap[g]?) (het : e.get t = .box b ver ds) (horig : ∀ s v, s ≠ t → tmps[s]? = some v → aliasOf (e1.get s) = some t → AliasOK e.get w tmps v (e1.get s)) (hub : uo b) (huv : uo ver)
    (hnew : ∀ cur E B', w'.heap[g]? = some (.cells cur E (0, 0)) → RdL (okOf ok0 fp') w' cur.toList dsm B' → (∀ b ∈ B', b ∉ fp' q) → ∃ B'', RdL (okOf ok0 fp') w' cur.toList ds' B'' ∧ ∀ b ∈ B'', b ∈ B' ∨ b ∈ fp' q)
    (hshape : ∀ (j e : Nat) (rows : List (List D)), ds[j]? = some (.list true e rows) → ∃ rows', ds'[j]? = some (.list true e rows')) :
    ∃ fp'', Sim ok0 mine u uo (e1.upd t (.box b ver ds')) tmps w' fp'' ∧ (∀ x, tmps.size ≤ x → x ≠ q → fp'' x = fp' x) ∧ ∀ k, okOf ok0 fp' k → okOf ok0 fp'' k := by
  have htl : t < tmps.size := (Array.getElem?_eq_some_iff.1 htv).1
  have htq : t ≠ q := by omega
  have hr := h.rel t _ htv
  rw [hmid] at hr
  obtain ⟨g2, cur, E, B', hv2, hfp, hg2, hrd, hgB⟩ := hr.box_inv
  obtain rfl : g = g2 := by injection hv2 with h1; injection h1 with h1; injection h1
  have hdis : ∀ x ∈ fp' t, x ∉ fp' q := fun x hx => h.disj t q x htq hx
  obtain ⟨B'', hn1, hn2⟩ := hnew cur E B' hg2 hrd fun b hb => hdis b (by rw [hfp]; exact List.mem_cons_of_mem _ hb)
  let fp2 : Nat → List Nat := fun x => if x = q then [] else if x = t then g :: B'' else fp' x
  have e1' : fp2 t = g :: B'' := by simp [fp2, htq]
  have e2' : fp2 q = [] := by simp [fp2]
  have hmem : ∀ b, b ∈ fp2 t ∨ b ∈ fp2 q → b ∈ fp' t ∨ b ∈ fp' q := by
    intro b hb
    rw [e1', e2'] at hb
    rcases hb with hb | hb
    · rcases List.mem_cons.1 hb with rfl | hb
      · exact .inl (by rw [hfp]; exact List.mem_cons_self ..)
      · exact (hn2 b hb).imp (fun hh => by rw [hfp]; exact List.mem_cons_of_mem _ hh) id
    · cases hb
  have hgn : g ∉ B'' := fun hh => (hn2 g hh).elim hgB fun hh => hdis g (by rw [hfp]; exact List.mem_cons_self ..) hh
  have hok' : ∀ k, okOf ok0 fp' k → okOf ok0 fp2 k := by
    intro k ho
    refine ⟨ho.1, fun x hx => ?_⟩
    by_cases hxt : x = t
    · subst hxt; exact (hmem k (.inl hx)).elim (ho.2 x) (ho.2 q)
    · by_cases hxq : x = q
      · subst hxq; rw [e2'] at hx; cases hx
      · simp only [fp2, hxq, hxt, if_false] at hx; exact ho.2 x hx
  obtain ⟨h1, h2⟩ := h.turn (uo' := uo) (fun _ hk => hk) (t := t) (q := q) htv hq (av := .box b ver ds') (fp' := fp2) (fun x hx1 hx2 => by simp [fp2, hx1, hx2]) hmem (fun x hx hx' => by rw [e2'] at hx'; cases hx')
    (fun _ _ _ => rfl) (Nat.le_refl _) (by rw [e1']; exact .box g b ver cur E ds' B'' hg2 (hn1.step (fun k _ => hok' k) fun _ _ _ => rfl) hgn) rfl ⟨hub, huv⟩
    (fun s v hs hv ha => (horig s v hs hv ha).reown het htv hgw (by rw [Env.get_upd, if_pos ⟨rfl, by rw [hel]; exact htl⟩]) hshape ha) trivial
  exact ⟨fp2, h1, fun x hx hxq => (by have hxt : x ≠ t := (by omega); simp [fp2, hxq, hxt]), h2⟩

/-- A cell of an element of an own slice: what it leads to may be another. -/
theorem Rd.cellSet {ok : Nat → Prop} {w : World} {v : Value} {e i o : Nat} {rows : List (List D)} {row : List D} {d : D} {B : List Nat} (h : Rd ok w v (.list true e rows) B) (hi : rows[i]? = some row) (ho : row[o]? = some d) :
    ∃ g n cap v0 B1 B2 B3, v = .slice (some ⟨g, 0, none⟩) n cap ∧ w.cell? ⟨g, i * e + o, none⟩ = some v0 ∧ B = g :: (B1 ++ (B2 ++ B3)) ∧ Rd ok w v0 d B2 ∧ (∀ b ∈ B2, b ≠ g ∧ b ∉ B1 ∧ b ∉ B3) ∧
      ∀ d' B2', Rd ok w v0 d' B2' → (∀ b ∈ B2', b ≠ g ∧ b ∉ B1 ∧ b ∉ B3) → Rd ok w v (.list true e (rows.set i (row.set o d'))) (g :: (B1 ++ (B2' ++ B3))) := by
  cases h with
  | empty => simp at hi
  | own g n cap _ cur E _ B he hn hp hc hm hg hs hr hB =>
    obtain ⟨l1, l2, h1, h2, h3, h4, h5⟩ := flat_split he hi
    have hol : o < row.length := (List.getElem?_eq_some_iff.1 ho).1
    have hj : rows.flatten[i * e + o]? = some d := by
      rw [h1, List.getElem?_append_right (by omega), List.getElem?_append_left (by omega)]
      rw [← ho]; congr 1; omega
    obtain ⟨v0, B1, B2, B3, rfl, hv0, hrd, hr1, hr3, hd1, hd2⟩ := hr.at hj
    have hcell : w.cell? ⟨g, i * e + o, none⟩ = some v0 := by
      rw [cell_of_row w g (i * e + o) cur E (0, 0) hg]
      rw [List.getElem?_take] at hv0
      split at hv0
      · simpa using hv0
      · cases hv0
    refine ⟨g, n, cap, v0, B1, B2, B3, rfl, hcell, rfl, hrd, fun b hb => ⟨fun hh => hB (by subst hh; simp [hb]), fun hh => hd1 b hh (by simp [hb]), hd2 b hb⟩, fun d' B2' hd' hdis => ?_⟩
    have hjl : i * e + o < rows.flatten.length := (List.getElem?_eq_some_iff.1 hj).1
    have hset := RdL.set (v := v0) hjl (List.getElem?_eq_some_iff.1 hv0).1 hr1 hd' hr3
      (fun b hb hb' => by
        rcases List.mem_append.1 hb' with hb' | hb'
        · exact (hdis b hb').2.1 hb
        · exact hd1 b hb (List.mem_append_right _ hb'))
      (fun b hb => (hdis b hb).2.2)
    rw [set_same hv0] at hset
    have hfl : rows.flatten.set (i * e + o) d' = (rows.set i (row.set o d')).flatten := by
      rw [h3, h1, List.set_append_right _ _ (by omega), List.set_append_left _ _ (by omega)]
      congr 3; omega
    rw [hfl] at hset
    refine .own g n cap e cur E _ _ (fun r hr' => ?_) (by simp [hn]) hp hc hm hg hs hset fun hh => ?_
    · rcases List.mem_or_eq_of_mem_set hr' with hr' | rfl
      · exact he r hr'
      · simp [h4]
    · simp only [List.mem_append] at hh hB
      rcases hh with hh | hh | hh
      · exact hB (.inl hh)
      · exact (hdis g hh).1 rfl
      · exact hB (.inr (.inr hh))
theorem lendS_sound (h : Sim ok0 mine u uo e tmps w fp) (hst : ¬ u st) (hus : uo st) (hq : tmps.size ≤ q) (hq0 : fp q = []) {s r : Nat} {k : V → AV → (V → Option AV) → Option R} (hk : lendS e st s r k = some res) :
    ∃ V mid back fp1, k V mid back = some res ∧ Sim ok0 mine u uo (e.upd r mid) tmps w fp1 ∧ (∀ x, tmps.size ≤ x → x ≠ q → fp1 x = fp x) ∧ VR (okOf ok0 fp1) w (tmps.getD s undef) V (fp1 q) ∧ r < tmps.size ∧
      BackOK ok0 mine u uo (e.upd r mid) tmps w fp1 r q (tmps.getD s undef) back := by
  have others : ∀ (t : Nat) (mid : AV) (x : Nat), x ≠ t → (e.upd t mid).get x = e.get x := fun t mid x hx => by rw [Env.get_upd, if_neg fun hh => hx hh.1]
  have hw : ∀ k, uo k ∨ k = st → uo k := fun k hk => hk.elim id fun hh => hh ▸ hus
  unfold lendS at hk
  split at hk
  · rename_i t id hs
    split at hk
    · rename_i hr; subst hr
      split at hk
      · rename_i id' e' rows ht
        split at hk
        · rename_i hid; subst hid
          obtain ⟨v, hv, hv'⟩ := h.slot (s := s) (by rw [hs]; simp)
          have ha := h.al s v hv
          rw [hs] at ha
          have htv : tmps[t]? = some v := ha _ _ ht
          have htl : t < tmps.size := (Array.getElem?_eq_some_iff.1 htv).1
          have htq : t ≠ q := by omega
          obtain ⟨h1, h2⟩ := h.giveup htv hq hq0 (B := fp t) (fun b hb => hb)
          have hr := h.rel t v htv
          rw [ht] at hr
          have e1' : fpMove fp t q (fp t) q = fp t := by simp [fpMove]
          refine ⟨_, _, _, fpMove fp t q (fp t), hk, h1, fun x hx hxq => ?_, ?_, htl, ?_⟩
          · have : x ≠ t := by omega
            simp [fpMove, hxq, this]
          · rw [hv', e1']
            exact (VR.one _ _ _ hr.own_inv).ok_mono h2
          · intro w' fp' y av h' hft hblk hvr hb
            rw [hv'] at hvr
            unfold ownBack at hb
            split at hb
            · rename_i e2 rows2
              split at hb
              · rename_i he; subst he
                obtain rfl := Option.some.inj hb
                let fp2 : Nat → List Nat := fun x => if x = q then [] else if x = t then fp' q else fp' x
                have e3 : fp2 t = fp' q := by simp [fp2, htq]
                have e4 : fp2 q = [] := by simp [fp2]
                have hok' : ∀ k, okOf ok0 fp' k → okOf ok0 fp2 k := by
                  intro k ho
                  refine ⟨ho.1, fun x hx => ?_⟩
                  by_cases hxt : x = t
                  · subst hxt; rw [e3] at hx; exact ho.2 q hx
                  · by_cases hxq : x = q
                    · subst hxq; rw [e4] at hx; cases hx
                    · simp only [fp2, hxq, hxt, if_false] at hx; exact ho.2 x hx
                obtain ⟨k1, k2⟩ := h'.turn (uo' := uo) (fun _ hk => hk) (t := t) (q := q) htv hq (av := .own st e2 rows2) (fp' := fp2) (fun x hx1 hx2 => by simp [fp2, hx1, hx2]) (fun b hb => by rw [e3, e4] at hb; exact hb.elim .inr fun hh => by cases hh)
                  (fun b hb hb' => by rw [e4] at hb'; cases hb') (fun _ _ _ => rfl) (Nat.le_refl _) (by rw [e3]; exact .own _ _ _ _ _ (hvr.one_inv.step (fun k _ => hok' k) fun _ _ _ => rfl)) rfl hus
                  (fun x v2 hx hv2 ha2 => AliasOK.stale fun t2 ht2 => by
                    rw [ha2] at ht2
                    obtain rfl := Option.some.inj ht2
                    rw [Env.get_upd, if_pos ⟨rfl, by rw [h'.size]; exact htl⟩]
                    exact ⟨fun i _ _ hL hask => by injection hL with hL; subst hL; exact hst (h'.ask x _ hask), fun _ _ _ hh => (by cases hh), fun _ _ hh => (by cases hh)⟩) trivial
                exact ⟨fp2, k1, fun x hx hxq => (by have hxt : x ≠ t := (by omega); simp [fp2, hxq, hxt]), k2⟩
              · cases hb
            · cases hb
        · cases hk
      · cases hk
    · cases hk
  · rename_i t j id hs
    split at hk
    · rename_i hr; subst hr
      split at hk
      · rename_i b ver ds ht
        split at hk
        · rename_i hid; subst hid
          split at hk
          · rename_i e' rows hj
            have hk' : takeS e st s (some t) (fun V us => some (V, us)) = some (.one (.list true e' rows), [(t, .box b st (ds.set j .gone))]) := by
              unfold takeS; rw [hs]; simp only [if_true]; rw [ht]; simp only [if_true, hj]
            obtain ⟨V, us, fp1, hE, hT, hV⟩ := takeS_sound h hst hq hq0 hk'
            injection hE with hE
            injection hE with hE1 hE2
            subst hE1; subst hE2
            obtain ⟨v, hv, hv'⟩ := h.slot (s := s) (by rw [hs]; simp)
            have ha := h.al s v hv
            rw [hs] at ha
            obtain ⟨g, htv, hcell⟩ := ha _ _ ht
            have htl : t < tmps.size := (Array.getElem?_eq_some_iff.1 htv).1
            have hsim : Sim ok0 mine u uo (e.upd t (.box b st (ds.set j .gone))) tmps w fp1 := hT.sim.weak (fun _ h => h) hw
            have hmid : (e.upd t (.box b st (ds.set j .gone))).get t = .box b st (ds.set j .gone) := by rw [Env.get_upd, if_pos ⟨rfl, by rw [h.size]; exact htl⟩]
            have hstp := h.stamps t
            rw [ht] at hstp
            refine ⟨_, _, _, fp1, hk, hsim, hT.virt, hV, htl, ?_⟩
            intro w' fp' y av h' hft hblk hvr hb
            rw [hv'] at hvr
            unfold cellBack at hb
            split at hb
            · rename_i e2 rows2
              split at hb
              · rename_i he; subst he
                obtain rfl := Option.some.inj hb
                have hgt : g ∈ fp1 t := by
                  have hr := hsim.rel t _ htv
                  rw [hmid] at hr
                  obtain ⟨g2, _, _, _, hv2, hfp, _⟩ := hr.box_inv
                  obtain rfl : g = g2 := by injection hv2 with h1; injection h1 with h1; injection h1
                  rw [hfp]; exact List.mem_cons_self ..
                have hgw := hblk g hgt
                have hjl : j < ds.length := (List.getElem?_eq_some_iff.1 hj).1
                refine h'.boxBack (ds := ds) (e := e) hq htv hmid h'.size hgw ht (fun x v2 hx hv2 ha2 => ?_) hstp.1 hstp.2 (fun cur E B' hg2 hrd hdB => ?_) (fun j2 e3 rows3 h3 => ?_)
                · rw [others _ _ _ hx] at ha2 ⊢; exact h.al x v2 hv2
                · obtain ⟨u0, B1, B2, B3, rfl, hu, hru, hr1, hr3, hd1, hd2⟩ := hrd.at (d := .gone) (by rw [List.getElem?_set, if_pos rfl, if_pos hjl])
                  have huv : u0 = v := by
                    have h5 : w.heap[g]? = some (.cells cur E (0, 0)) := hgw.symm.trans hg2
                    rw [cell_of_row w g j cur E (0, 0) h5] at hcell
                    simpa [hcell] using hu.symm
                  subst huv
                  have ht1 : (ds.set j .gone).take j = ds.take j := by rw [List.take_set_of_le (Nat.le_refl _)]
                  have ht3 : (ds.set j .gone).drop (j + 1) = ds.drop (j + 1) := by rw [List.drop_set_of_lt (by omega)]
                  rw [ht1] at hr1
                  rw [ht3] at hr3
                  have := RdL.set (vs := cur.toList) (v := u0) (ds := ds) hjl (List.getElem?_eq_some_iff.1 hu).1 hr1 hvr.one_inv hr3
                    (fun b hb hb' => by
                      rcases List.mem_append.1 hb' with hb' | hb'
                      · exact hdB b (List.mem_append_left _ hb) hb'
                      · exact hd1 b hb (List.mem_append_right _ hb'))
                    (fun b hb hb' => hdB b (List.mem_append_right _ (List.mem_append_right _ hb')) hb)
                  rw [set_same hu] at this
                  refine ⟨_, this, fun b hb => ?_⟩
                  simp only [List.mem_append] at hb ⊢
                  rcases hb with hb | hb | hb
                  · exact .inl (.inl hb)
                  · exact .inr hb
                  · exact .inl (.inr (.inr hb))
                · rw [List.getElem?_set]
                  by_cases hjj : j = j2
                  · subst hjj
                    rw [hj] at h3
                    injection h3 with h3; injection h3 with _ h3 _
                    rw [if_pos rfl, if_pos hjl, h3]
                    exact ⟨_, rfl⟩
                  · rw [if_neg hjj]; exact ⟨rows3, h3⟩
              · cases hb
            · cases hb
          · cases hk
        · cases hk
      · cases hk
    · cases hk
  · rename_i t id hs
    split at hk
    · rename_i hr; subst hr
      split at hk
      · rename_i b ver ds ht
        split at hk
        · rename_i hid; subst hid
          obtain ⟨v, hv, hv'⟩ := h.slot (s := s) (by rw [hs]; simp)
          have ha := h.al s v hv
          rw [hs] at ha
          obtain ⟨g, cur, E, htv, hg, rfl⟩ := ha _ _ ht
          obtain ⟨g2, cur2, E2, B, htv2, _, hfp, hg2, hrd, hgB, hub, huv⟩ := h.boxAt ht
          obtain rfl : g = g2 := by rw [htv] at htv2; injection htv2 with h1; injection h1 with h1; injection h1 with h1; injection h1
          obtain rfl : cur = cur2 := by rw [hg] at hg2; injection hg2 with h1; injection h1
          have htl : t < tmps.size := (Array.getElem?_eq_some_iff.1 htv).1
          have htq : t ≠ q := by omega
          let fp1 : Nat → List Nat := fun x => if x = q then B else if x = t then [g] else fp x
          have e1' : fp1 t = [g] := by simp [fp1, htq]
          have e2' : fp1 q = B := by simp [fp1]
          have hmem : ∀ b, b ∈ fp1 t ∨ b ∈ fp1 q → b ∈ fp t ∨ b ∈ fp q := by
            intro b hb
            rw [e1', e2'] at hb
            rw [hfp]
            rcases hb with hb | hb
            · simp at hb; subst hb; exact .inl (List.mem_cons_self ..)
            · exact .inl (List.mem_cons_of_mem _ hb)
          have hok' : ∀ k, okOf ok0 fp k → okOf ok0 fp1 k := by
            intro k ho
            refine ⟨ho.1, fun x hx => ?_⟩
            by_cases hxt : x = t
            · subst hxt; exact (hmem k (.inl hx)).elim (ho.2 x) (ho.2 q)
            · by_cases hxq : x = q
              · subst hxq; exact (hmem k (.inr hx)).elim (ho.2 t) (ho.2 x)
              · simp only [fp1, hxq, hxt, if_false] at hx; exact ho.2 x hx
          have hmid : ∀ y, (e.upd t y).get t = y := fun y => by rw [Env.get_upd, if_pos ⟨rfl, by rw [h.size]; exact htl⟩]
          obtain ⟨h1, h2⟩ := h.turn (uo' := uo) (fun _ hk => hk) (t := t) (q := q) htv hq (av := .box b st (ds.map fun _ => .gone)) (fp' := fp1) (fun x hx1 hx2 => by simp [fp1, hx1, hx2]) hmem
            (fun x hx hx' => by rw [e1'] at hx; rw [e2'] at hx'; simp at hx; subst hx; exact hgB hx')
            (fun _ _ _ => rfl) (Nat.le_refl _) (by rw [e1']; exact .box g b st cur E _ [] hg (hrd.goneAll.step (fun k _ => hok' k) fun _ _ _ => rfl) (by simp)) rfl ⟨hub, hus⟩
            (fun x v2 hx hv2 ha2 => (h.al x v2 hv2).rebox ht (ver' := st) (hmid _) (fun id hid hh => by subst hh; exact hst (h.ask x _ hid)) ha2) trivial
          refine ⟨_, _, _, fp1, hk, h1, fun x hx hxq => ?_, ?_, htl, ?_⟩
          · have : x ≠ t := by omega
            simp [fp1, hxq, this]
          · rw [hv', e2']
            have := VR.agg _ _ _ (hrd.step (fun k _ => hok' k) fun _ _ _ => rfl)
            simpa using this
          · intro w' fp' y av h' hft hblk hvr hb
            rw [hv'] at hvr
            unfold boxBack at hb
            split at hb
            · rename_i ds2
              split at hb
              · rename_i hsw
                obtain rfl := Option.some.inj hb
                have hgw := hblk g (by rw [e1']; simp)
                refine h'.boxBack (ds := ds) (e := e) hq htv (hmid _) h'.size hgw ht (fun x v2 hx hv2 ha2 => ?_) hub huv (fun cur2 E2 B' hg2 hrd2 hdB => ?_) (sameW_spec hsw)
                · rw [others _ _ _ hx] at ha2 ⊢; exact h.al x v2 hv2
                · have h5 : w.heap[g]? = some (.cells cur2 E2 (0, 0)) := hgw.symm.trans hg2
                  rw [hg] at h5
                  injection h5 with h5; injection h5 with h5 h6
                  subst h5
                  obtain ⟨vs, hvs, hrv⟩ := hvr.agg_inv
                  injection hvs with hvs
                  subst hvs
                  exact ⟨_, hrv, fun b hb => .inr hb⟩
              · cases hb
            · cases hb
        · cases hk
      · cases hk
    · cases hk
  · rename_i t id off n hs
    split at hk
    · rename_i hr; subst hr
      split at hk
      · rename_i b ver ds ht
        split at hk
        · rename_i hid; subst hid
          split at hk
          · rename_i hle
            obtain ⟨v, hv, hv'⟩ := h.slot (s := s) (by rw [hs]; simp)
            have ha := h.al s v hv
            rw [hs] at ha
            obtain ⟨g, cur, E, htv, hg, rfl⟩ := ha _ _ ht
            obtain ⟨g2, cur2, E2, B, htv2, _, hfp, hg2, hrd, hgB, hub, huv⟩ := h.boxAt ht
            obtain rfl : g = g2 := by rw [htv] at htv2; injection htv2 with h1; injection h1 with h1; injection h1 with h1; injection h1
            obtain rfl : cur = cur2 := by rw [hg] at hg2; injection hg2 with h1; injection h1
            have htl : t < tmps.size := (Array.getElem?_eq_some_iff.1 htv).1
            have htq : t ≠ q := by omega
            -- the three stretches
            have hsplit : ds = ds.take off ++ ((ds.drop off).take n ++ ds.drop (off + n)) := by
              rw [← List.drop_drop, List.take_append_drop, List.take_append_drop]
            have hl1 : (ds.take off).length = off := by rw [List.length_take]; omega
            have hl2 : ((ds.drop off).take n).length = n := by rw [List.length_take, List.length_drop]; omega
            have hrd0 := hrd
            rw [hsplit] at hrd0
            obtain ⟨B1, B4, hBB, k1, k4, kd1⟩ := hrd0.split
            obtain ⟨B2, B3, hBB2, k2, k3, kd2⟩ := k4.split
            subst hBB2
            rw [hl1] at k1 k2 k3
            rw [hl2] at k2 k3
            have hsplitV : ∀ x y : List Value, cur.toList.take off ++ ((cur.toList.drop off).take n ++ (cur.toList.drop off).drop n) = cur.toList := fun _ _ => by rw [List.take_append_drop, List.take_append_drop]
            let fp1 : Nat → List Nat := fun x => if x = q then B2 else if x = t then g :: (B1 ++ ([] ++ B3)) else fp x
            have e1' : fp1 t = g :: (B1 ++ ([] ++ B3)) := by simp [fp1, htq]
            have e2' : fp1 q = B2 := by simp [fp1]
            have hmem : ∀ b, b ∈ fp1 t ∨ b ∈ fp1 q → b ∈ fp t ∨ b ∈ fp q := by
              intro b hb
              rw [e1', e2'] at hb
              left
              rw [hfp, hBB]
              simp only [List.mem_cons, List.mem_append, List.nil_append] at hb ⊢
              grind
            have hok' : ∀ k, okOf ok0 fp k → okOf ok0 fp1 k := by
              intro k ho
              refine ⟨ho.1, fun x hx => ?_⟩
              by_cases hxt : x = t
              · subst hxt; exact (hmem k (.inl hx)).elim (ho.2 x) (ho.2 q)
              · by_cases hxq : x = q
                · subst hxq; exact (hmem k (.inr hx)).elim (ho.2 t) (ho.2 x)
                · simp only [fp1, hxq, hxt, if_false] at hx; exact ho.2 x hx
            have hmid : ∀ y, (e.upd t y).get t = y := fun y => by rw [Env.get_upd, if_pos ⟨rfl, by rw [h.size]; exact htl⟩]
            have hgone : RdL (okOf ok0 fp) w cur.toList (ds.take off ++ ((ds.drop off).take n).map (fun _ => .gone) ++ ds.drop (off + n)) (B1 ++ ([] ++ B3)) := by
              have := k1.app (k2.goneAll.app k3 (by simp)) (fun b hb hb' => kd1 b hb (List.mem_append_right _ (by simpa using hb')))
              rw [hsplitV [] []] at this
              rw [List.append_assoc]; exact this
            have hgn : g ∉ B1 ++ ([] ++ B3) := by
              intro hh
              rw [hBB] at hgB
              simp only [List.mem_append, List.nil_append] at hh hgB
              grind
            obtain ⟨h1, h2⟩ := h.turn (uo' := uo) (fun _ hk => hk) (t := t) (q := q) htv hq (av := .box b st (ds.take off ++ ((ds.drop off).take n).map (fun _ => .gone) ++ ds.drop (off + n))) (fp' := fp1) (fun x hx1 hx2 => by simp [fp1, hx1, hx2]) hmem
              (fun x hx hx' => by
                rw [e1'] at hx; rw [e2'] at hx'
                rw [hBB] at hgB
                simp only [List.mem_cons, List.mem_append, List.nil_append] at hx hgB
                rcases hx with rfl | hx | hx
                · exact hgB (.inr (.inl hx'))
                · exact kd1 x hx (List.mem_append_left _ hx')
                · exact kd2 x hx' hx)
              (fun _ _ _ => rfl) (Nat.le_refl _) (by rw [e1']; exact .box g b st cur E _ _ hg (hgone.step (fun k _ => hok' k) fun _ _ _ => rfl) hgn) rfl ⟨hub, hus⟩
              (fun x v2 hx hv2 ha2 => (h.al x v2 hv2).rebox ht (ver' := st) (hmid _) (fun id hid hh => by subst hh; exact hst (h.ask x _ hid)) ha2) trivial
            refine ⟨_, _, _, fp1, hk, h1, fun x hx hxq => ?_, ?_, htl, ?_⟩
            · have : x ≠ t := by omega
              simp [fp1, hxq, this]
            · rw [hv', e2']
              exact VR.agg _ _ _ (k2.step (fun k _ => hok' k) fun _ _ _ => rfl)
            · intro w' fp' y av h' hft hblk hvr hb
              rw [hv'] at hvr
              unfold partBack at hb
              split at hb
              · rename_i ds2
                split at hb
                · rename_i hsw
                  obtain ⟨hlen, hsw⟩ := hsw
                  obtain rfl := Option.some.inj hb
                  have hgw := hblk g (by rw [e1']; simp)
                  refine h'.boxBack (ds := ds) (e := e) hq htv (hmid _) h'.size hgw ht (fun x v2 hx hv2 ha2 => ?_) hub huv (fun cur2 E2 B' hg2 hrd2 hdB => ?_) (fun j e3 rows3 h3 => ?_)
                  · rw [others _ _ _ hx] at ha2 ⊢; exact h.al x v2 hv2
                  · have h5 : w.heap[g]? = some (.cells cur2 E2 (0, 0)) := hgw.symm.trans hg2
                    rw [hg] at h5
                    injection h5 with h5; injection h5 with h5 h6
                    subst h5
                    obtain ⟨vs, hvs, hrv⟩ := hvr.agg_inv
                    injection hvs with hvs
                    have hvs' : vs = (cur.toList.drop off).take n := by
                      have := congrArg Array.toList hvs
                      simpa using this.symm
                    subst hvs'
                    rw [List.append_assoc] at hrd2
                    obtain ⟨C1, C4, rfl, c1, c4, cd1⟩ := hrd2.split
                    obtain ⟨C2, C3, rfl, c2, c3, cd2⟩ := c4.split
                    rw [hl1] at c1 c2 c3
                    rw [List.length_map, hl2] at c2 c3
                    have := c1.app (hrv.app c3 (fun b hb hb' => hdB b (List.mem_append_right _ (List.mem_append_right _ hb')) hb))
                      (fun b hb hb' => by
                        rcases List.mem_append.1 hb' with hb' | hb'
                        · exact hdB b (List.mem_append_left _ hb) hb'
                        · exact cd1 b hb (List.mem_append_right _ hb'))
                    rw [hsplitV [] []] at this
                    refine ⟨_, by rw [List.append_assoc]; exact this, fun b hb => ?_⟩
                    simp only [List.mem_append] at hb ⊢
                    rcases hb with hb | hb | hb
                    · exact .inl (.inl hb)
                    · exact .inr hb
                    · exact .inl (.inr (.inr hb))
                  · by_cases hj1 : j < off
                    · refine ⟨rows3, ?_⟩
                      rw [List.append_assoc, List.getElem?_append_left (by rw [hl1]; exact hj1), List.getElem?_take, if_pos hj1]; exact h3
                    · by_cases hj2 : j < off + n
                      · obtain ⟨rows', h6⟩ := sameW_spec hsw (j - off) e3 rows3 (by
                          rw [List.getElem?_take, if_pos (by omega), List.getElem?_drop, show off + (j - off) = j by omega]; exact h3)
                        refine ⟨rows', ?_⟩
                        rw [List.append_assoc, List.getElem?_append_right (by rw [hl1]; omega), hl1, List.getElem?_append_left (by omega)]; exact h6
                      · refine ⟨rows3, ?_⟩
                        rw [List.append_assoc, List.getElem?_append_right (by rw [hl1]; omega), hl1, List.getElem?_append_right (by omega), List.getElem?_drop, hlen, show off + n + (j - off - n) = j by omega]; exact h3
                · cases hb
              · cases hb
          · cases hk
        · cases hk
      · cases hk
    · cases hk
  · rename_i t id i o hs
    split at hk
    · rename_i hr; subst hr
      split at hk
      · rename_i id' e' rows ht
        split at hk
        · rename_i hid; subst hid
          unfold rowLendK at hk
          split at hk
          · rename_i row hrow
            split at hk
            · rename_i w0 inner hro
              obtain ⟨v, hv, hv'⟩ := h.slot (s := s) (by rw [hs]; simp)
              have ha := h.al s v hv
              rw [hs] at ha
              obtain ⟨g, n, cp, htv, hcell⟩ := ha _ _ row w0 inner ht hrow hro
              have htl : t < tmps.size := (Array.getElem?_eq_some_iff.1 htv).1
              have htq : t ≠ q := by omega
              have hr := h.rel t _ htv
              rw [ht] at hr
              obtain ⟨g2, n2, cap2, v0, B1, B2, B3, hvv, hc0, hfp, hrd, hdj, hset⟩ := hr.own_inv.cellSet hrow hro
              obtain rfl : g = g2 := by injection hvv with h1; injection h1 with h1; injection h1
              obtain rfl : v = v0 := by rw [hcell] at hc0; exact Option.some.inj hc0
              let fp1 : Nat → List Nat := fun x => if x = q then B2 else if x = t then g :: (B1 ++ ([] ++ B3)) else fp x
              have e1' : fp1 t = g :: (B1 ++ ([] ++ B3)) := by simp [fp1, htq]
              have e2' : fp1 q = B2 := by simp [fp1]
              have hmem : ∀ b, b ∈ fp1 t ∨ b ∈ fp1 q → b ∈ fp t ∨ b ∈ fp q := by
                intro b hb
                rw [e1', e2'] at hb
                left
                rw [hfp]
                simp only [List.mem_cons, List.mem_append, List.nil_append] at hb ⊢
                grind
              have hok' : ∀ k, okOf ok0 fp k → okOf ok0 fp1 k := by
                intro k ho
                refine ⟨ho.1, fun x hx => ?_⟩
                by_cases hxt : x = t
                · subst hxt; exact (hmem k (.inl hx)).elim (ho.2 x) (ho.2 q)
                · by_cases hxq : x = q
                  · subst hxq; exact (hmem k (.inr hx)).elim (ho.2 t) (ho.2 x)
                  · simp only [fp1, hxq, hxt, if_false] at hx; exact ho.2 x hx
              have hmid : ∀ y, (e.upd t y).get t = y := fun y => by rw [Env.get_upd, if_pos ⟨rfl, by rw [h.size]; exact htl⟩]
              have hgone := hset .gone [] (.gone v hrd.one) (by simp)
              obtain ⟨h1, h2⟩ := h.turn (uo' := uo) (fun _ hk => hk) (t := t) (q := q) htv hq (av := .own st e' (rows.set i (row.set o .gone))) (fp' := fp1) (fun x hx1 hx2 => by simp [fp1, hx1, hx2]) hmem
                (fun x hx hx' => by
                  rw [e1'] at hx; rw [e2'] at hx'
                  obtain ⟨z1, z2, z3⟩ := hdj x hx'
                  simp only [List.mem_cons, List.mem_append, List.nil_append] at hx
                  rcases hx with hx | hx | hx
                  · exact z1 hx
                  · exact z2 hx
                  · exact z3 hx)
                (fun _ _ _ => rfl) (Nat.le_refl _) (by rw [e1']; exact .own _ _ _ _ _ (hgone.step (fun k _ => hok' k) fun _ _ _ => rfl)) rfl hus
                (fun x v2 hx hv2 ha2 => AliasOK.stale fun t2 ht2 => by
                  rw [ha2] at ht2
                  obtain rfl := Option.some.inj ht2
                  rw [hmid]
                  exact ⟨fun i _ _ hL hask => by injection hL with hL; subst hL; exact hst (h.ask x _ hask), fun _ _ _ hh => (by cases hh), fun _ _ hh => (by cases hh)⟩) trivial
              refine ⟨_, _, _, fp1, hk, h1, fun x hx hxq => ?_, ?_, htl, ?_⟩
              · have : x ≠ t := by omega
                simp [fp1, hxq, this]
              · rw [hv', e2']
                exact (VR.one _ _ _ hrd).ok_mono hok'
              · intro w' fp' y av h' hft hblk hvr hb
                rw [hv'] at hvr
                unfold rowBack at hb
                split at hb
                · rename_i w2 inner2
                  split at hb
                  · rename_i he; subst he
                    obtain rfl := Option.some.inj hb
                    have hr' := h'.rel t _ htv
                    rw [hmid] at hr'
                    have hil : i < rows.length := (List.getElem?_eq_some_iff.1 hrow).1
                    have hol : o < row.length := (List.getElem?_eq_some_iff.1 hro).1
                    obtain ⟨g3, n3, cap3, v3, C1, C2, C3, hvv3, hc3, hfp3, hrd3, hdj3, hset3⟩ := hr'.own_inv.cellSet (i := i) (o := o) (row := row.set o .gone) (d := .gone) (by rw [List.getElem?_set, if_pos rfl, if_pos hil]) (by rw [List.getElem?_set, if_pos rfl, if_pos hol])
                    obtain rfl : g = g3 := by injection hvv3 with h1; injection h1 with h1; injection h1
                    have hgin : g ∈ fp1 t := by rw [e1']; exact List.mem_cons_self ..
                    obtain rfl : v = v3 := by
                      have h5 : w'.cell? ⟨g, i * e' + o, none⟩ = w.cell? ⟨g, i * e' + o, none⟩ := World.cell?_of_block (w := w) (w' := w') (hblk g hgin)
                      rw [h5, hcell] at hc3
                      exact Option.some.inj hc3
                    have hdq : ∀ b ∈ fp' q, b ∉ fp' t := fun b hb hb' => h'.disj t q b htq hb' hb
                    have hnew := hset3 (.list true w2 inner2) (fp' q) hvr.one_inv (fun b hb => by
                      have := hdq b hb
                      rw [hfp3] at this
                      simp only [List.mem_cons, List.mem_append, not_or] at this
                      exact ⟨this.1, this.2.1, this.2.2.2⟩)
                    rw [List.set_set, List.set_set] at hnew
                    let fp2 : Nat → List Nat := fun x => if x = q then [] else if x = t then g :: (C1 ++ (fp' q ++ C3)) else fp' x
                    have e3 : fp2 t = g :: (C1 ++ (fp' q ++ C3)) := by simp [fp2, htq]
                    have e4 : fp2 q = [] := by simp [fp2]
                    have hmem2 : ∀ b, b ∈ fp2 t ∨ b ∈ fp2 q → b ∈ fp' t ∨ b ∈ fp' q := by
                      intro b hb
                      rw [e3, e4] at hb
                      rw [hfp3]
                      simp only [List.mem_cons, List.mem_append] at hb ⊢
                      grind
                    have hok2 : ∀ k, okOf ok0 fp' k → okOf ok0 fp2 k := by
                      intro k ho
                      refine ⟨ho.1, fun x hx => ?_⟩
                      by_cases hxt : x = t
                      · subst hxt; exact (hmem2 k (.inl hx)).elim (ho.2 x) (ho.2 q)
                      · by_cases hxq : x = q
                        · subst hxq; rw [e4] at hx; cases hx
                        · simp only [fp2, hxq, hxt, if_false] at hx; exact ho.2 x hx
                    obtain ⟨k1, k2⟩ := h'.turn (uo' := uo) (fun _ hk => hk) (t := t) (q := q) htv hq (av := .own st e' (rows.set i (row.set o (.list true w2 inner2)))) (fp' := fp2) (fun x hx1 hx2 => by simp [fp2, hx1, hx2]) hmem2
                      (fun b hb hb' => by rw [e4] at hb'; cases hb') (fun _ _ _ => rfl) (Nat.le_refl _) (by rw [e3]; exact .own _ _ _ _ _ (hnew.step (fun k _ => hok2 k) fun _ _ _ => rfl)) rfl hus
                      (fun x v2 hx hv2 ha2 => AliasOK.stale fun t2 ht2 => by
                        rw [ha2] at ht2
                        obtain rfl := Option.some.inj ht2
                        rw [Env.get_upd, if_pos ⟨rfl, by rw [h'.size]; exact htl⟩]
                        exact ⟨fun i _ _ hL hask => by injection hL with hL; subst hL; exact hst (h'.ask x _ hask), fun _ _ _ hh => (by cases hh), fun _ _ hh => (by cases hh)⟩) trivial
                    exact ⟨fp2, k1, fun x hx hxq => (by have hxt : x ≠ t := (by omega); simp [fp2, hxq, hxt]), k2⟩
                  · cases hb
                · cases hb
            · cases hk
          · cases hk
        · cases hk
      · cases hk
    · cases hk
  · cases hk
end
end Go.Abs
set_option linter.unusedVariables false
set_option linter.unusedSimpArgs false
namespace Go.Abs
open Go

theorem safeL_append (a b : List D) : safeL (a ++ b) = (safeL a && safeL b) := by
  induction a with
  | nil => simp [safeL]
  | cons x a ih => simp [safeL, ih, Bool.and_assoc]
theorem safeLL_flatten (a : List (List D)) : safeL a.flatten = safeLL a := by
  induction a with
  | nil => simp [safeL, safeLL]
  | cons x a ih => simp [safeLL, ih, safeL_append]

section
variable {ok ok' : Nat → Prop} {w w' : World}
/-- What owns all that it shows asks for no leave. -/
theorem RdL.free {vs : List Value} {ds : List D} {B : List Nat} (h : RdL ok w vs ds B) (hs : safeL ds = true) : RdL ok' w vs ds B := by
  revert hs
  refine RdL.rec (motive_1 := fun v d B _ => d.safe = true → Rd ok' w v d B) (motive_2 := fun vs ds B _ => safeL ds = true → RdL ok' w vs ds B) ?int ?bool ?str ?err ?anyi ?gone ?empty ?view ?own ?nil ?cons h
  case int => exact fun k n _ => .int k n
  case bool => exact fun b _ => .bool b
  case str => exact fun s _ => .str s
  case err => exact fun v b h _ => .err v b h
  case anyi => exact fun k n _ => .anyi k n
  case gone => exact fun v h _ => .gone v h
  case empty => exact fun a o e _ => .empty a o e
  case view => intro b off n cap e rows vs he hn hc hm hcell hr ih hs; simp [D.safe] at hs
  case own =>
    intro g n cap e cur E rows B he hn hp hc hm hg hs hr hB ih hh
    simp only [D.safe, Bool.true_and] at hh
    exact .own g n cap e cur E rows B he hn hp hc hm hg hs (ih (by rw [safeLL_flatten]; exact hh)) hB
  case nil => exact fun _ => .nil
  case cons =>
    intro v d vs ds B1 B2 h1 h2 hd ih1 ih2 hs
    simp only [safeL, Bool.and_eq_true] at hs
    exact .cons v d vs ds B1 B2 (ih1 hs.1) (ih2 hs.2) hd
theorem VR.free {v : Value} {x : V} {B : List Nat} (h : VR ok w v x B) (hs : x.safe = true) : VR ok' w v x B := by
  cases h with
  | one v d B h => exact .one _ _ _ (RdL.free h.single (by simpa [safeL, V.safe] using hs)).single
  | agg vs ds B h => exact .agg _ _ _ (h.free hs)
theorem TR.free {v : List Value} {x : List (Option V)} {B : List Nat} (h : TR ok w v x B) (hs : safeT x = true) : TR ok' w v x B := by
  induction h with
  | nil => exact .nil
  | put v x vs xs B1 B2 h1 h2 hd ih =>
    simp only [safeT, Bool.and_eq_true] at hs
    exact .put _ _ _ _ _ _ (h1.free hs.1) (ih hs.2) hd
  | skip v vs xs B h ih => exact .skip _ _ _ _ (ih hs)
  | map r clk es kv vs xs B hg hk h hd ih =>
    simp only [safeT, Bool.and_eq_true] at hs
    exact .map r clk es kv _ _ _ hg hk (ih hs.2) hd
theorem AvR.free {v : Value} {x : AV} {B : List Nat} (h : AvR ok w v x B) (hs : x.safe = true) : AvR ok' w v x B := by
  cases h with
  | val _ _ _ h => exact .val _ _ _ (h.free hs)
  | tup _ _ _ h => exact .tup _ _ _ (h.free hs)
  | _ => simp [AV.safe] at hs
theorem AvR.stamp {v : Value} {x : AV} {B : List Nat} (h : AvR ok w v x B) (st : Nat) : AvR ok w v (x.stamp st) B := by
  cases x with
  | val x => exact ofV_rel h.val_inv st
  | _ => exact h
end

def isRes : AV → Bool
  | .val _ => true
  | .tup _ => true
  | _ => false
theorem isRes.stamp {x : AV} (h : isRes x = true) (st : Nat) (p : Nat → Prop) (hp : p st) : aliasOf (x.stamp st) = none ∧ askStamp (x.stamp st) = none ∧ OwnIn p (x.stamp st) ∧ Stampless st (x.stamp st) := by
  cases x with
  | val x => exact ⟨(ofV_alias st x).1, (ofV_alias st x).2, ofV_own p st hp x⟩
  | tup x => exact ⟨rfl, rfl, trivial, trivial⟩
  | _ => simp [isRes] at h

/-- What a call's result reads as: with the first argument behind it, where that is handed back. -/
def resV (r : AV) (v : Value) (vs : List Value) : Value := match isIO r with
  | true => .tuple [undef, v, vs.headD undef].toArray
  | false => v
/-- A call of f, at arguments that read as args, yields what reads as r. -/
def CallOK (P : Program) (f : FuncId) (glob : Nat → List D) (args : List AV) (r : AV) : Prop :=
  Enter P f ∧ ∀ (w : World) (vs : List Value) (okA : Nat → Prop) (Bs : List Nat), ArgsR okA w vs args Bs → (∀ b ∈ Bs, ¬ okA b) → GlobOK okA (fun k => w.heap.size ≤ k ∨ k ∈ Bs) glob w →
    Calls P f vs.toArray w fun en w' => ∃ v B, en = .returned v ∧ isRes r = true ∧ AvR (fun k => (okA k ∨ w.heap.size ≤ k ∨ k ∈ Bs) ∧ k ∉ B) w' (resV r v vs) r B ∧
      (∀ b ∈ B, b < w'.heap.size ∧ (w.heap.size ≤ b ∨ b ∈ Bs)) ∧ Fr (fun k => w.heap.size ≤ k ∨ k ∈ Bs) w w'

theorem ArgsM.append {ok : Nat → Prop} {w : World} {fp : Nat → List Nat} {q : Nat} {vs ps : List Value} {as : List AV} {cs : List (List D)} (h : ArgsM ok w fp q vs as) (hl : ps.length = cs.length)
    (hc : ∀ (j : Nat) (p : Value) (c : List D), ps[j]? = some p → cs[j]? = some c → RP ok w p c) : ArgsM ok w fp q (vs ++ ps) (as ++ cs.map .rp) := by
  induction h with
  | nil q =>
    simp only [List.nil_append]
    induction ps generalizing cs with
    | nil => cases cs with
      | nil => exact .nil q
      | cons => simp at hl
    | cons p ps ih => cases cs with
      | nil => simp at hl
      | cons c cs => exact .plain q p _ ps _ rfl (.rp _ _ (hc 0 p c rfl rfl)) (ih (by simpa using hl) fun j p c h1 h2 => hc (j + 1) p c (by simpa using h1) (by simpa using h2))
  | plain q v a vs as ha h1 h2 ih => exact .plain q v a _ _ ha h1 ih
  | moved q v x vs as h1 h2 ih => exact .moved q v x _ _ h1 ih

section
variable {R : Type} {ok0 mine u : Nat → Prop} {e : Env} {tmps : Array Value} {w w' : World} {fp : Nat → List Nat} {st q : Nat} {res : R} {glob : Nat → List D} {P : Program}

theorem Sim.called1 {fp1 : Nat → List Nat} {us : Upd} (h : Sim ok0 mine u (fun k => u k ∨ k = st) (e.app us) tmps w fp1) (hst : ¬ u st) (big : ∀ k, w.heap.size ≤ k → mine k) (mok : ∀ k, mine k → ok0 k) (hglob : GlobOK ok0 mine glob w)
    {okA : Nat → Prop} {vs : List Value} {as : List AV} (h2 : ArgsM okA w fp1 tmps.size vs as) (hA2 : ∀ k, okA k → ∀ s, tmps.size ≤ s → k ∉ fp1 s) (hA3 : ∀ k, ok0 k → ¬ mine k → okA k) {f : FuncId} {r : AV} (hio : isIO r = false) (hc : CallOK P f glob as r)
    (hA4 : ∀ (ok : Nat → Prop) (w' : World) (v : Value) (B Bs : List Nat), (∀ k ∈ Bs, mine k) → AvR (fun k => (okA k ∨ w.heap.size ≤ k ∨ k ∈ Bs) ∧ k ∉ B) w' v r B → (∀ k, k ∉ B → ok0 k → (okOf ok0 fp1 k ∨ k ∈ Bs ∨ w.heap.size ≤ k) → ok k) → AvR ok w' v r B)
    {dst : Option Nat} {k : Upd → Option R} (hk : k (outU us dst (r.stamp st)) = some res) :
    Calls P f vs.toArray w fun en w' => ∃ v, en = .returned v ∧ Fr mine w w' ∧ Done ok0 mine u e st k res (putT tmps dst v) w' := by
  obtain ⟨hent, hcall⟩ := hc
  obtain ⟨Bs, hargs, hBs⟩ := h2.argsR h.disj
  have hBm : ∀ b ∈ Bs, b < w.heap.size ∧ mine b := fun b hb => by
    obtain ⟨s, _, hs⟩ := hBs b hb
    exact h.lt s b hs
  refine (hcall w vs okA Bs hargs (fun b hb ho => ?_) (fun g => ?_)).mono fun en w' hh => ?_
  · obtain ⟨s, hs, hbs⟩ := hBs b hb
    exact hA2 b ho s hs hbs
  · obtain ⟨us2, hr, hc, hw⟩ := hglob g
    refine ⟨us2, hr, fun j x hj => ?_, hw⟩
    obtain ⟨⟨g1, g2⟩, g3⟩ := hc j x hj
    have hlt : g < w.heap.size := World.block_lt_of_cell? w _ g3
    refine ⟨⟨hA3 g g1 g2, fun hh => ?_⟩, g3⟩
    rcases hh with hh | hh
    · omega
    · exact g2 (hBm g hh).2
  · obtain ⟨v, B, rfl, hres, hrel, hB, hfr⟩ := hh
    unfold resV at hrel
    rw [hio] at hrel
    have hfr' : Fr mine w w' := ⟨hfr.os, hfr.tape, hfr.output, hfr.size, fun k hk hm => hfr.block k hk fun hh => hh.elim (fun hh => by omega) fun hh => hm (hBm k hh).2⟩
    refine ⟨v, rfl, hfr', ?_⟩
    -- all that was given away, in one slot
    let fp2 : Nat → List Nat := fun s => if s < tmps.size then fp1 s else if s = tmps.size then Bs else []
    have e1 : fp2 tmps.size = Bs := by simp [fp2]
    obtain ⟨g1, g2⟩ := h.revirt (fp' := fp2) (fun s hs => by simp [fp2, hs]) (fun s b hs hb => by
        by_cases hs2 : s = tmps.size
        · subst hs2; rw [e1] at hb; exact hBs b hb
        · have : ¬ s < tmps.size := by omega
          simp [fp2, this, hs2] at hb)
      (fun s t b hs ht hne hb hb' => by
        by_cases hs2 : s = tmps.size
        · have : ¬ t < tmps.size := by omega
          have h3 : t ≠ tmps.size := fun hh => hne (hs2.trans hh.symm)
          simp [fp2, this, h3] at hb'
        · have : ¬ s < tmps.size := by omega
          simp [fp2, this, hs2] at hb)
    obtain ⟨i1, i2, i3, i4⟩ := isRes.stamp hres st (fun k => u k ∨ k = st) (.inr rfl)
    obtain ⟨fp', h'⟩ := g1.fin (q := tmps.size) (us := us) (e0 := e) (ua' := fun k => u k ∨ k = st) (uo' := fun k => u k ∨ k = st) (dst := dst) (w' := w') (B := B) hst (Nat.le_refl _) (fun _ h => .inl h) (fun _ h => h) rfl (v := v) (av := r.stamp st)
      (fun id hid => by rw [i2] at hid; cases hid) i3 i4 (fun k hk hkq => hfr.block k hk fun hh => hh.elim (fun hh => by omega) fun hh => hkq (by rw [e1]; exact hh)) hfr.size
      (fun k hk => (hB k hk).2.elim (fun hh => .inr ⟨hh, (hB k hk).1, big k hh⟩) fun hh => .inl (by rw [e1]; exact hh))
      (fun ok hok => (hA4 ok w' v B Bs (fun k hk => (hBm k hk).2) hrel fun k hkB h0 hk => hok k hkB h0 (by rw [e1]; exact hk.imp (g2 k) id)).stamp st) (.inl i1)
    exact ⟨_, fp', hk, h'⟩

/-- A call whose arguments have been told. -/
theorem Sim.called {fp1 : Nat → List Nat} {us : Upd} (h : Sim ok0 mine u (fun k => u k ∨ k = st) (e.app us) tmps w fp1) (hst : ¬ u st) (big : ∀ k, w.heap.size ≤ k → mine k) (mok : ∀ k, mine k → ok0 k) (hglob : GlobOK ok0 mine glob w)
    {vs : List Value} {as : List AV} {b : Bool} (h2 : ArgsM (okLent ok0 tmps fp1) w fp1 tmps.size vs as) (h3 : b = false → ArgsM (okOf ok0 fp1) w fp1 tmps.size vs as) {f : FuncId} {c : Orc} (hc : ∀ r, c f as = some r → CallOK P f glob as r)
    {dst : Option Nat} {k : Upd → Option R} (hk : callK (c f as) b st us dst k = some res) :
    Enter P f ∧ Calls P f vs.toArray w fun en w' => ∃ v, en = .returned v ∧ Fr mine w w' ∧ Done ok0 mine u e st k res (putT tmps dst v) w' := by
  have hno : ∀ k, ok0 k → ¬ mine k → ∀ s, k ∉ fp1 s := fun k _ hm s hs => hm (h.lt s k hs).2
  unfold callK at hk
  split at hk
  · rename_i r hr
    have hC := hc r hr
    refine ⟨hC.1, ?_⟩
    have hio : isIO r = false := by
      cases hh : isIO r with
      | false => rfl
      | true => rw [hh] at hk; cases hk
    rw [hio] at hk
    cases b with
    | true =>
      simp only at hk
      split at hk
      · rename_i hsafe
        exact h.called1 hst big mok hglob h2 (fun k hk s hs => hk.2 s hs) (fun k h0 hm => ⟨h0, fun s _ => hno k h0 hm s⟩) hio hC (fun ok w' v B Bs _ hh _ => hh.free hsafe) hk
      · cases hk
    | false =>
      simp only at hk
      refine h.called1 hst big mok hglob (h3 rfl) (fun k hk s _ => hk.2 s) (fun k h0 hm => ⟨h0, hno k h0 hm⟩) hio hC (fun ok w' v B Bs hBs hh hok => hh.step (fun k _ hk => ?_) fun _ _ _ => rfl) hk
      rcases hk.1 with h4 | h4 | h4
      · exact hok k hk.2 h4.1 (.inl h4)
      · exact hok k hk.2 (mok k (big k h4)) (.inr (.inr h4))
      · exact hok k hk.2 (mok k (hBs k h4)) (.inr (.inl h4))
  · cases hk
theorem Env.upd_out (e : Env) (t : Nat) (v : AV) (h : e.length ≤ t) : e.upd t v = e := Env.ext_get (Env.upd_length ..) fun s => by rw [Env.get_upd, if_neg fun hh => by omega]
theorem Env.upd_upd (e : Env) (t : Nat) (a b : AV) : (e.upd t a).upd t b = e.upd t b := Env.ext_get (by simp only [Env.upd_length]) fun s => by
  simp only [Env.get_upd, Env.upd_length]
  split <;> rfl
/-- A call that writes into its first argument. -/
theorem Sim.calledI1 {fp1 : Nat → List Nat} {t : Nat} {mid : AV} {back : V → Option AV} (h : Sim ok0 mine u (fun k => u k ∨ k = st) (e.upd t mid) tmps w fp1) (hst : ¬ u st) (big : ∀ k, w.heap.size ≤ k → mine k) (mok : ∀ k, mine k → ok0 k) (hglob : GlobOK ok0 mine glob w) (ht : t < tmps.size)
    {okA : Nat → Prop} {v0 : Value} {V : V} {vs : List Value} {as : List AV} (h2 : ArgsM okA w fp1 tmps.size (v0 :: vs) (.val V :: as)) (hA2 : ∀ k, okA k → ∀ s, tmps.size ≤ s → k ∉ fp1 s) (hA3 : ∀ k, ok0 k → ¬ mine k → okA k)
    (hback : BackOK ok0 mine u (fun k => u k ∨ k = st) (e.upd t mid) tmps w fp1 t tmps.size v0 back) {f : FuncId} {x : Option Go.Abs.V} {y : Go.Abs.V} (hc : CallOK P f glob (.val V :: as) (.tup [none, x, some y]))
    (hA4 : ∀ (ok : Nat → Prop) (w' : World) (v : Value) (B Bs : List Nat), (∀ k ∈ Bs, mine k) → AvR (fun k => (okA k ∨ w.heap.size ≤ k ∨ k ∈ Bs) ∧ k ∉ B) w' v (.tup [none, x, some y]) B → (∀ k, k ∉ B → ok0 k → (okOf ok0 fp1 k ∨ k ∈ Bs ∨ w.heap.size ≤ k) → ok k) → AvR ok w' v (.tup [none, x, some y]) B)
    {av : AV} (hav : backV back y = some av) {dst : Option Nat} {k : Upd → Option R} (hk : k (outU [(t, av)] dst (ovAV st x)) = some res) :
    Calls P f (v0 :: vs).toArray w fun en w' => ∃ v, en = .returned v ∧ Fr mine w w' ∧ Done ok0 mine u e st k res (putT tmps dst v) w' := by
  obtain ⟨hent, hcall⟩ := hc
  obtain ⟨Bs, hargs, hBs⟩ := h2.argsR h.disj
  have hBm : ∀ b ∈ Bs, b < w.heap.size ∧ mine b := fun b hb => by
    obtain ⟨s, _, hs⟩ := hBs b hb
    exact h.lt s b hs
  refine (hcall w (v0 :: vs) okA Bs hargs (fun b hb ho => ?_) (fun g => ?_)).mono fun en w' hh => ?_
  · obtain ⟨s, hs, hbs⟩ := hBs b hb
    exact hA2 b ho s hs hbs
  · obtain ⟨us2, hr, hc, hw⟩ := hglob g
    refine ⟨us2, hr, fun j x hj => ?_, hw⟩
    obtain ⟨⟨g1, g2⟩, g3⟩ := hc j x hj
    have hlt : g < w.heap.size := World.block_lt_of_cell? w _ g3
    refine ⟨⟨hA3 g g1 g2, fun hh => ?_⟩, g3⟩
    rcases hh with hh | hh
    · omega
    · exact g2 (hBm g hh).2
  · obtain ⟨v, B, rfl, hres, hrel, hB, hfr⟩ := hh
    have hfr' : Fr mine w w' := ⟨hfr.os, hfr.tape, hfr.output, hfr.size, fun k hk hm => hfr.block k hk fun hh => hh.elim (fun hh => by omega) fun hh => hm (hBm k hh).2⟩
    refine ⟨v, rfl, hfr', ?_⟩
    have hrel0 : AvR (fun k => (okA k ∨ w.heap.size ≤ k ∨ k ∈ Bs) ∧ k ∉ B) w' (.tuple [undef, v, v0].toArray) (.tup [none, x, some y]) B := hrel
    -- all that was given away, in one slot
    let fp2 : Nat → List Nat := fun s => if s < tmps.size then fp1 s else if s = tmps.size then Bs else []
    have e1 : fp2 tmps.size = Bs := by simp [fp2]
    obtain ⟨g1, g2⟩ := h.revirt (fp' := fp2) (fun s hs => by simp [fp2, hs]) (fun s b hs hb => by
        by_cases hs2 : s = tmps.size
        · subst hs2; rw [e1] at hb; exact hBs b hb
        · have : ¬ s < tmps.size := by omega
          simp [fp2, this, hs2] at hb)
      (fun s t b hs ht hne hb hb' => by
        by_cases hs2 : s = tmps.size
        · have : ¬ t < tmps.size := by omega
          have h3 : t ≠ tmps.size := fun hh => hne (hs2.trans hh.symm)
          simp [fp2, this, h3] at hb'
        · have : ¬ s < tmps.size := by omega
          simp [fp2, this, hs2] at hb)
    have notBs : ∀ k, (okOf ok0 fp2 k ∨ ∃ s, s ≠ tmps.size + 1 ∧ s ≠ tmps.size ∧ k ∈ fp2 s) → k ∉ Bs := by
      intro k hk hb
      rcases hk with hk | ⟨s, _, hs, hk⟩
      · exact hk.2 tmps.size (by rw [e1]; exact hb)
      · exact g1.disj s tmps.size k hs hk (by rw [e1]; exact hb)
    obtain ⟨p1, p2⟩ := g1.put (w' := w') (ua' := u) (uo' := fun k => u k ∨ k = st) (fun _ h => h) (fun _ h => h) hst (d := tmps.size + 1) (q := tmps.size) (Nat.le_refl _) (v := .tuple [undef, v, v0].toArray) (av := .tup [none, x, some y]) (B := B)
      (fun id hid => by cases hid) trivial trivial (fun k hk hh => hfr.block k hk fun hh2 => hh2.elim (fun hh2 => by omega) fun hh2 => notBs k hh hh2) hfr.size
      (fun k hk => by
        refine ⟨(hB k hk).1, ?_, fun s hs1 hs2 hks => ?_, fun hlt ho => ?_⟩
        · exact (hB k hk).2.elim (fun hh => big k hh) fun hh => (hBm k hh).2
        · rcases (hB k hk).2 with hh | hh
          · have := (g1.lt s k hks).1; omega
          · exact g1.disj s tmps.size k hs2 hks (by rw [e1]; exact hh)
        · rcases (hB k hk).2 with hh | hh
          · omega
          · exact ho.2 tmps.size (by rw [e1]; exact hh))
      (hA4 _ w' _ B Bs (fun k hk => (hBm k hk).2) hrel0 fun k hkB h0 hk => ⟨h0, fun s hks => by
        by_cases hs : s = tmps.size + 1
        · subst hs; rw [fpOut_same] at hks; exact hkB hks
        · obtain ⟨q1, q2⟩ := fpOut_sub hs hks
          rcases hk with hk | hk | hk
          · exact (g2 k hk).2 s q2
          · exact g1.disj s tmps.size k q1 q2 (by rw [e1]; exact hk)
          · have := (g1.lt s k q2).1; omega⟩)
      trivial
    rw [Env.upd_out _ _ _ (by rw [g1.size]; omega)] at p1
    have etm : tmps.setIfInBounds (tmps.size + 1) (.tuple [undef, v, v0].toArray) = tmps := by rw [Array.setIfInBounds, dif_neg (by omega)]
    rw [etm] at p1
    have hrel1 := hA4 (okOf ok0 (fpOut fp2 (tmps.size + 1) tmps.size B)) w' _ B Bs (fun k hk => (hBm k hk).2) hrel0 fun k hkB h0 hk => ⟨h0, fun s hks => by
        by_cases hs : s = tmps.size + 1
        · subst hs; rw [fpOut_same] at hks; exact hkB hks
        · obtain ⟨q1, q2⟩ := fpOut_sub hs hks
          rcases hk with hk | hk | hk
          · exact (g2 k hk).2 s q2
          · exact g1.disj s tmps.size k q1 q2 (by rw [e1]; exact hk)
          · have := (g1.lt s k q2).1; omega⟩
    obtain ⟨Bx, By, hBB, hx, hy, hdxy⟩ : ∃ Bx By, B = Bx ++ By ∧ AvR (okOf ok0 (fpOut fp2 (tmps.size + 1) tmps.size B)) w' v (ovAV st x) Bx ∧ VR (okOf ok0 (fpOut fp2 (tmps.size + 1) tmps.size B)) w' v0 y By ∧ ∀ b ∈ Bx, b ∉ By := by
      generalize hok : okOf ok0 (fpOut fp2 (tmps.size + 1) tmps.size B) = ok at hrel1
      have htr : TR ok w' [undef, v, v0] [none, x, some y] B := by
        generalize hvv : (Value.tuple [undef, v, v0].toArray) = vv at hrel1
        cases hrel1 with
        | tup vs2 _ _ hh =>
          injection hvv with hvv
          have h5 : vs2 = [undef, v, v0] := by
            have := congrArg Array.toList hvv
            simpa using this.symm
          rw [h5] at hh; exact hh
      cases htr with
      | skip _ _ _ _ hh => cases hh with
        | put _ _ _ _ B1 B2 hh1 hh2 hd => cases hh2 with
          | put _ _ _ _ B3 B4 hh3 hh4 hd2 => cases hh4 with
            | nil => exact ⟨B1, B3, by simp, ofV_rel hh1 st, hh3, fun b hb hb' => hd b hb (by simp [hb'])⟩
          | map => simp [backV] at hav
        | map r clk es kv _ _ B4 hg hk2 hh2 hd => cases hh2 with
          | put _ _ _ _ B3 B4 hh3 hh4 hd2 => cases hh4 with
            | nil => exact ⟨[r], B3, by simp, .mapv r st clk es kv hg hk2, hh3, fun b hb hb' => by simp at hb; subst hb; exact hd (by simp [hb'])⟩
          | map => simp [backV] at hav
        | skip _ _ _ _ hh2 => cases hh2 with
          | put _ _ _ _ B3 B4 hh3 hh4 hd2 => cases hh4 with
            | nil => exact ⟨[], B3, by simp, .dead _, hh3, fun b hb => by cases hb⟩
          | map => simp [backV] at hav
    let fp4 : Nat → List Nat := fun s => if s < tmps.size then fp1 s else if s = tmps.size then By else if s = tmps.size + 1 then Bx else []
    have f1 : fp4 tmps.size = By := by simp [fp4]
    have f2 : fp4 (tmps.size + 1) = Bx := by
      have h1 : ¬ tmps.size + 1 < tmps.size := by omega
      simp [fp4, h1]
    have f3 : fp4 t = fp1 t := by simp [fp4, ht]
    have fo : fpOut fp2 (tmps.size + 1) tmps.size B (tmps.size + 1) = B := fpOut_same ..
    obtain ⟨r1, r2⟩ := p1.revirt (fp' := fp4) (fun s hs => by
        rw [fpOut_other (by omega) (by omega)]
        simp [fp4, fp2, hs])
      (fun s b hs hb => ⟨tmps.size + 1, by omega, by
        rw [fo, hBB]
        by_cases hs1 : s = tmps.size
        · subst hs1; rw [f1] at hb; exact List.mem_append_right _ hb
        · by_cases hs2 : s = tmps.size + 1
          · subst hs2; rw [f2] at hb; exact List.mem_append_left _ hb
          · have : ¬ s < tmps.size := by omega
            simp [fp4, this, hs1, hs2] at hb⟩)
      (fun s s2 b hs hs2 hne hb hb' => by
        have cs : ∀ z, tmps.size ≤ z → b ∈ fp4 z → (z = tmps.size ∧ b ∈ By) ∨ (z = tmps.size + 1 ∧ b ∈ Bx) := by
          intro z hz hbz
          by_cases hz1 : z = tmps.size
          · subst hz1; rw [f1] at hbz; exact .inl ⟨rfl, hbz⟩
          · by_cases hz2 : z = tmps.size + 1
            · subst hz2; rw [f2] at hbz; exact .inr ⟨rfl, hbz⟩
            · have : ¬ z < tmps.size := by omega
              simp [fp4, this, hz1, hz2] at hbz
        rcases cs s hs hb with ⟨a1, a2⟩ | ⟨a1, a2⟩ <;> rcases cs s2 hs2 hb' with ⟨b1, b2⟩ | ⟨b1, b2⟩
        · exact hne (a1.trans b1.symm)
        · exact hdxy b b2 a2
        · exact hdxy b a2 b2
        · exact hne (a1.trans b1.symm))
    have hblk : ∀ k ∈ fp1 t, w'.heap[k]? = w.heap[k]? := fun k hk => hfr.block k (h.lt t k hk).1 fun hh => hh.elim (fun hh => by have := (h.lt t k hk).1; omega) fun hh => by
      obtain ⟨s, hs, hks⟩ := hBs k hh
      exact h.disj t s k (by omega) hk hks
    obtain ⟨fp5, s1, s2, s3⟩ := hback w' fp4 y av r1 f3 hblk (by rw [f1]; exact hy.ok_mono r2) (by cases y <;> first | exact hav | (simp [backV] at hav))
    rw [Env.upd_upd] at s1
    have hx2 : AvR (okOf ok0 fp5) w' v (ovAV st x) (fp5 (tmps.size + 1)) := by
      rw [s2 (tmps.size + 1) (by omega) (by omega), f2]
      exact (hx.step (fun k _ hk => r2 k hk) fun _ _ _ => rfl).step (fun k _ hk => s3 k hk) fun _ _ _ => rfl
    cases x with
    | some x => exact Sim.taken_done (us := [(t, av)]) s1 hst (q := tmps.size + 1) (by omega) hx2 (ofV_alias st x).1 (ofV_alias st x).2 (ofV_own _ st (.inr rfl) x).1 (ofV_own (fun _ => True) st trivial x).2 hk
    | none => exact Sim.taken_done (us := [(t, av)]) s1 hst (q := tmps.size + 1) (by omega) hx2 rfl rfl trivial trivial hk
theorem Sim.calledI {fp1 : Nat → List Nat} {t : Nat} {mid : AV} {back : V → Option AV} (h : Sim ok0 mine u (fun k => u k ∨ k = st) (e.upd t mid) tmps w fp1) (hst : ¬ u st) (big : ∀ k, w.heap.size ≤ k → mine k) (mok : ∀ k, mine k → ok0 k) (hglob : GlobOK ok0 mine glob w) (ht : t < tmps.size)
    {v0 : Value} {V : V} {vs : List Value} {as : List AV} {b : Bool} (hV : VR (okOf ok0 fp1) w v0 V (fp1 tmps.size)) (h2 : ArgsM (okLent ok0 tmps fp1) w fp1 (tmps.size + 1) vs as) (h3 : b = false → ArgsM (okOf ok0 fp1) w fp1 (tmps.size + 1) vs as)
    (hback : BackOK ok0 mine u (fun k => u k ∨ k = st) (e.upd t mid) tmps w fp1 t tmps.size v0 back) {f : FuncId} {c : Orc} (hc : ∀ r, c f (.val V :: as) = some r → CallOK P f glob (.val V :: as) r)
    {dst : Option Nat} {k : Upd → Option R} (hk : calliK (c f (.val V :: as)) b st t back dst k = some res) :
    Enter P f ∧ Calls P f (v0 :: vs).toArray w fun en w' => ∃ v, en = .returned v ∧ Fr mine w w' ∧ Done ok0 mine u e st k res (putT tmps dst v) w' := by
  have hno : ∀ k, ok0 k → ¬ mine k → ∀ s, k ∉ fp1 s := fun k _ hm s hs => hm (h.lt s k hs).2
  unfold calliK at hk
  split at hk
  · rename_i x y hr
    have hC := hc _ hr
    refine ⟨hC.1, ?_⟩
    split at hk
    · cases hk
    · rename_i hsafe
      unfold onSome at hk
      split at hk
      · rename_i av hav
        cases b with
        | true =>
          have hs : AV.safe (.tup [none, x, some y]) = true := by
            have : (ovSafe x && y.safe) = true := by
              cases hh : (ovSafe x && y.safe) with
              | true => rfl
              | false => exact absurd ⟨rfl, hh⟩ hsafe
            cases x <;> simpa [AV.safe, safeT, ovSafe] using this
          exact h.calledI1 hst big mok hglob ht (.moved _ _ _ _ _ (hV.ok_mono fun k => okOf_lent) h2) (fun k hk s hs => hk.2 s hs) (fun k h0 hm => ⟨h0, fun s _ => hno k h0 hm s⟩) hback hC (fun ok w' v B Bs _ hh _ => hh.free hs) hav hk
        | false =>
          refine h.calledI1 hst big mok hglob ht (.moved _ _ _ _ _ hV (h3 rfl)) (fun k hk s _ => hk.2 s) (fun k h0 hm => ⟨h0, hno k h0 hm⟩) hback hC (fun ok w' v B Bs hBs hh hok => hh.step (fun k _ hk => ?_) fun _ _ _ => rfl) hav hk
          rcases hk.1 with h4 | h4 | h4
          · exact hok k hk.2 h4.1 (.inl h4)
          · exact hok k hk.2 (mok k (big k h4)) (.inr (.inr h4))
          · exact hok k hk.2 (mok k (hBs k h4)) (.inr (.inl h4))
      · cases hk
  · cases hk
end
end Go.Abs
set_option linter.unusedVariables false
set_option linter.unusedSimpArgs false
namespace Go.Abs
open Go

section
variable {P : Program} {w w' : World} {ok : Nat → Prop}

/-- The cells of a slice's elements. -/
theorem Rd.cellsOf {v : Value} {o : Bool} {e : Nat} {rows : List (List D)} {B : List Nat} (h : Rd ok w v (.list o e rows) B) :
    ∃ a c us B', v = .slice a rows.length c ∧ rows.length ≤ c ∧ (∀ r ∈ rows, r.length = e) ∧ RdL ok w us rows.flatten B' ∧ (∀ b ∈ B', b ∈ B) ∧ us.length = rows.length * e ∧
      (a = none → rows = []) ∧ ∀ a', a = some a' → ∀ (j : Nat) x, us[j]? = some x → w.cell? (a'.add j) = some x := by
  cases h with
  | empty a o e => exact ⟨a, 0, [], [], rfl, Nat.le_refl _, by simp, .nil, by simp, by simp, fun _ => rfl, fun a' _ j x hj => by simp at hj⟩
  | view b off n cap e rows vs he hn hc hm hcell hr =>
    refine ⟨_, cap, vs, [], by rw [hn], by omega, he, hr, by simp, ?_, fun h => (by cases h), fun a' ha j x hj => ?_⟩
    · rw [hr.length, flat_len he]
    · obtain rfl := Option.some.inj ha
      rw [addr_add]
      exact (hcell j x hj).2
  | own g n cap e cur E rows B he hn hp hc hm hg hs hr hB =>
    refine ⟨_, cap, _, B, by rw [hn], by omega, he, hr, fun b hb => List.mem_cons_of_mem _ hb, ?_, fun h => (by cases h), fun a' ha j x hj => ?_⟩
    · rw [hr.length, flat_len he]
    · obtain rfl := Option.some.inj ha
      rw [addr_add]
      refine cells_of_row hg 0 j x ?_
      rw [List.drop_zero]
      rw [List.getElem?_take] at hj
      split at hj
      · exact hj
      · cases hj

theorem run_append_none {t el ty : TypeId} {i : TypeInfo} (hu : P.underlying t = some (.slice el)) (hi : P.info? el = some i) {a b : Option Addr} {n c c' : Nat} (hn : n ≤ c) :
    (Builtin.append_ #[t, t] ty #[.slice b n c, .slice a 0 c']).run P w = .ok (.slice b n c) w := by
  cases a <;> cases b <;> simp [Builtin.append_, run_underlying hu, sizeOf, typeInfo, hi, Builtin.lenOf, Builtin.firstCells, hn, storeCells, loadCells, loadCellsFrom]

theorem run_appendD {t el ty : TypeId} {i : TypeInfo} {z : Value} {e : Nat} (hu : P.underlying t = some (.slice el)) (hi : P.info? el = some i) (hz : i.zero = some z) (hs : i.size = e) (hzs : z.cells.size = e) (hby : i.bytes ≤ 2048)
    {v u : Value} {rows more : List (List D)} {o : Bool} {B1 B2 : List Nat} (hv : Rd ok w v (.list true e rows) B1) (hx : Rd ok w u (.list o e more) B2) (hno : ∀ b ∈ B1, ¬ ok b) (hdis : ∀ b ∈ B1, b ∉ B2)
    (hb : rows.length + more.length ≤ 68719476736) :
    ∃ v' w' B, (Builtin.append_ #[t, t] ty #[v, u]).run P w = .ok v' w' ∧ Fr (fun k => k ∈ B1) w w' ∧ (∀ b ∈ B, b ∈ B1 ∨ b ∈ B2 ∨ (w.heap.size ≤ b ∧ b < w'.heap.size)) ∧ Rd ok w' v' (.list true e (rows ++ more)) B := by
  subst hs
  obtain ⟨a2, c2, us2, B2', rfl, hc2, he2, hr2, hB2, hl2, hnil2, hcell2⟩ := hx.cellsOf
  cases hm : more with
  | nil =>
    obtain ⟨a1, c1, us1, B1', rfl, hc1, _⟩ := hv.cellsOf
    refine ⟨_, w, B1, run_append_none hu hi hc1, .refl _ _, fun b hb => .inl hb, by simpa using hv⟩
  | cons m0 ms =>
    rw [← hm]
    have hpos : 0 < more.length := by rw [hm]; simp
    cases a2 with
    | none => rw [hnil2 rfl] at hm; cases hm
    | some a2 =>
      have hcell2 := hcell2 a2 rfl
      have hby2 : ∀ k, k ≤ 68719476736 → k * i.bytes ≤ 140737488355328 := fun k hk => Nat.le_trans (Nat.mul_le_mul hk hby) (by decide)
      have hml : rows.length + more.length ≤ maxLen := by simp only [maxLen]; omega
      -- a new block
      have grown : ∀ (us1 : List Value) (B1' : List Nat) (old : Nat), us1.length = rows.length * i.size → (∀ r ∈ rows, r.length = i.size) → RdL ok w us1 rows.flatten B1' → (∀ b ∈ B1', b ∈ B1) →
          (Builtin.append_ #[t, t] ty #[v, .slice (some a2) more.length c2]).run P w = .ok (.slice (some ⟨w.heap.size, 0, none⟩) (rows.length + more.length) (grownCap w (rows.length + more.length) old el))
            (w.drew.alloc (.cells (us1.toArray ++ us2.toArray ++ Builtin.zeroCells z.cells (grownCap w (rows.length + more.length) old el - (rows.length + more.length))) el)) →
          ∃ v' w' B, (Builtin.append_ #[t, t] ty #[v, .slice (some a2) more.length c2]).run P w = .ok v' w' ∧ Fr (fun k => k ∈ B1) w w' ∧ (∀ b ∈ B, b ∈ B1 ∨ b ∈ B2 ∨ (w.heap.size ≤ b ∧ b < w'.heap.size)) ∧
            Rd ok w' v' (.list true i.size (rows ++ more)) B := by
        intro us1 B1' old hl1 he1 hr1 hB1 hrun
        have hge := grownCap_ge w (rows.length + more.length) old el
        have hcm : grownCap w (rows.length + more.length) old el ≤ maxLen := grownCap_le_maxLen w _ old el hml
        have hB : ∀ b ∈ B1' ++ B2', b < w.heap.size := fun b hb => (List.mem_append.1 hb).elim (hr1.lt b) (hr2.lt b)
        refine ⟨_, _, w.heap.size :: (B1' ++ B2'), hrun, ⟨rfl, rfl, rfl, by simp, fun k hk _ => heap_alloc_old w.drew _ k hk⟩, fun b hb => ?_, ?_⟩
        · rcases List.mem_cons.1 hb with rfl | hb
          · exact .inr (.inr ⟨Nat.le_refl _, by simp⟩)
          · exact (List.mem_append.1 hb).elim (fun hb => .inl (hB1 b hb)) fun hb => .inr (.inl (hB2 b hb))
        · refine .own w.heap.size _ _ i.size _ el _ (B1' ++ B2') (fun r hr => (List.mem_append.1 hr).elim (he1 r) (he2 r)) (by simp) trivial hge hcm (heap_alloc_new w.drew _) ?_ ?_ fun hh => ?_
          · simp only [Array.size_append, List.size_toArray, size_zeroCells, hzs, hl1, hl2, ← Nat.add_mul]
            congr 1
            omega
          · have hlen : (us1 ++ us2).length = (rows.length + more.length) * i.size := by rw [List.length_append, hl1, hl2, Nat.add_mul]
            have e1 : ((us1.toArray ++ us2.toArray ++ Builtin.zeroCells z.cells (grownCap w (rows.length + more.length) old el - (rows.length + more.length))).toList.take ((rows.length + more.length) * i.size)) = us1 ++ us2 := by
              simp only [Array.toList_append]
              rw [← hlen]
              exact List.take_left
            rw [e1, List.flatten_append]
            exact (hr1.app hr2 fun b hb hb' => hdis b (hB1 b hb) (hB2 b hb')).step (fun _ _ h => h) fun k hk _ => heap_alloc_old w.drew _ k hk
          · exact absurd (hB _ hh) (Nat.lt_irrefl _)
      cases hv with
      | empty a o e =>
        refine grown [] [] 0 (by simp) (by simp) .nil (by simp) ?_
        cases a with
        | none =>
          have := run_append_nil (P := P) w t ty el i z hu hi hz a2 more.length c2 us2 hl2 hcell2 hpos (by omega) (by have := hby2 more.length (by simpa using hb); omega)
          simpa using this
        | some b0 =>
          have := run_append_grow (P := P) w t ty el i z hu hi hz b0 0 0 [] (by simp) (by simp) a2 more.length c2 us2 hl2 hcell2 (by omega) (by simp at hb ⊢; omega) (growslice_fits (by omega) (hby2 _ (by simpa using hb)))
          simpa using this
      | own g n cap e cur E rows B he hn hp hc hm' hg hs hr hB =>
        subst hn
        by_cases hroom : rows.length + more.length ≤ cap
        · have hfit : rows.length * i.size + us2.length ≤ cur.size := by rw [hl2, hs, ← Nat.add_mul]; exact Nat.mul_le_mul_right _ hroom
          have hE : (Builtin.append_ #[t, t] ty #[.slice (some ⟨g, 0, none⟩) rows.length cap, .slice (some a2) more.length c2]).run P w =
              .ok (.slice (some ⟨g, 0, none⟩) (rows.length + more.length) cap) (w.setRow g (cur.toList.take (rows.length * i.size) ++ us2 ++ cur.toList.drop (rows.length * i.size + us2.length)).toArray) := by
            have hf := run_firstCells_some (P := P) w i.size more.length a2 more.length c2 us2 hl2 hcell2
            have hst := run_storeCells_at P g (rows.length * i.size) E us2 0 cur w hg (by simpa using hfit) hr2.ones
            simp only [Nat.add_zero] at hst
            simp [Builtin.append_, run_underlying hu, sizeOf, typeInfo, hi, Builtin.lenOf, hroom, hf, Addr.add_lit, hst]
          have hgB : g ∉ B ++ B2' := by
            intro hh
            exact (List.mem_append.1 hh).elim hB fun hh => hdis g (List.mem_cons_self ..) (hB2 g hh)
          refine ⟨_, _, g :: (B ++ B2'), hE, ⟨rfl, rfl, rfl, by rw [setRow_size]; exact Nat.le_refl _, fun k hk hm => setRow_other w g k _ fun hh => hm (hh ▸ List.mem_cons_self ..)⟩, fun b hb => ?_, ?_⟩
          · rcases List.mem_cons.1 hb with rfl | hb
            · exact .inl (List.mem_cons_self ..)
            · exact (List.mem_append.1 hb).elim (fun hb => .inl (List.mem_cons_of_mem _ hb)) fun hb => .inr (.inl (hB2 b hb))
          · refine .own g _ cap i.size _ E _ (B ++ B2') (fun r hr => (List.mem_append.1 hr).elim (he r) (he2 r)) (by simp) trivial hroom hm' (setRow_heap w g cur _ E _ hg) ?_ ?_ hgB
            · simp only [List.size_toArray, List.length_append, List.length_take, List.length_drop, Array.length_toList]
              omega
            · have h5 : (cur.toList.take (rows.length * i.size)).length = rows.length * i.size := by simp; omega
              have hlen : (cur.toList.take (rows.length * i.size) ++ us2).length = (rows.length + more.length) * i.size := by rw [List.length_append, h5, hl2, Nat.add_mul]
              have e1 : (cur.toList.take (rows.length * i.size) ++ us2 ++ cur.toList.drop (rows.length * i.size + us2.length)).toArray.toList.take ((rows.length + more.length) * i.size) = cur.toList.take (rows.length * i.size) ++ us2 := by
                rw [← hlen]
                exact List.take_left
              rw [e1, List.flatten_append]
              refine (hr.app hr2 fun b hb hb' => hdis b (List.mem_cons_of_mem _ hb) (hB2 b hb')).step (fun _ _ h => h) fun k hk hh => setRow_other w g k _ fun hh2 => ?_
              subst hh2
              exact hh.elim (fun hh => hno k (List.mem_cons_self ..) hh) hgB
        · refine grown _ B cap ?_ he hr (fun b hb => List.mem_cons_of_mem _ hb) ?_
          · simp [hs]
            rw [Nat.min_eq_left]
            exact hc
          · refine run_append_grow (P := P) w t ty el i z hu hi hz ⟨g, 0, none⟩ rows.length cap _ ?_ (fun j x hj => ?_) a2 more.length c2 us2 hl2 hcell2 (by omega) (by omega) (growslice_fits (by omega) (hby2 _ hb))
            · simp [hs]
              rw [Nat.min_eq_left]
              exact hc
            · rw [addr_add]
              refine cells_of_row hg 0 j x ?_
              rw [List.drop_zero]
              rw [List.getElem?_take] at hj
              split at hj
              · exact hj
              · cases hj
end
end Go.Abs
set_option linter.unusedVariables false
set_option linter.unusedSimpArgs false
namespace Go.Abs
open Go

section
variable {P : Program} {w w' : World} {ok : Nat → Prop} {ρ : Operand → Value} {o : Oper}

theorem made_rows (z : Array Value) (n : Nat) : (madeCells z (n * z.size)).toList = (List.replicate n z.toList).flatten := by
  induction n with
  | zero => simp [madeCells]
  | succ n ih =>
    rw [List.replicate_succ', List.flatten_append, ← ih]
    simp only [madeCells, Array.toList_map, Array.toList_range, Nat.add_mul, Nat.one_mul]
    rw [List.range_add, List.map_append]
    congr 1
    apply List.ext_getElem?
    intro j
    simp only [List.getElem?_map, List.flatten_cons, List.flatten_nil, List.append_nil]
    by_cases hj : j < z.size
    · simp [List.getElem?_range hj, Nat.add_comm (n * z.size), Nat.add_mul_mod_self_right, Nat.mod_eq_of_lt hj, hj]
    · rw [List.getElem?_eq_none (by simp; omega), List.getElem?_eq_none (by simp; omega)]
      rfl
theorem RdL.repeated {vs : List Value} {ds : List D} (h : RdL ok w vs ds []) (n : Nat) : RdL ok w (List.replicate n vs).flatten (repl n ds) [] := by
  unfold repl
  induction n with
  | zero => simpa using RdL.nil
  | succ n ih => simpa [List.replicate_succ] using h.app ih (by simp)
theorem repl_length (n : Nat) (ds : List D) : (repl n ds).length = n * ds.length := by simp [repl]

/-- The places of a struct's fields. -/
def placesOf (P : Program) (fs : Array Field) : Array (Nat × Nat) := fs.map fun f => (f.offset, ((P.info? f.type).map (·.size)).getD 0)
def allInfo (P : Program) (fs : List Field) : Bool := fs.all fun f => (P.info? f.type).isSome
theorem run_places {fs : Array Field} (h : allInfo P fs.toList = true) : (fs.mapM fun f : Field => (do pure (f.offset, ← sizeOf f.type) : Sem (Nat × Nat))).run P w = .ok (placesOf P fs) w := by
  have key : ∀ l : List Field, allInfo P l = true → (l.mapM fun f => (do pure (f.offset, ← sizeOf f.type) : Sem (Nat × Nat))).run P w = .ok (l.map fun f => (f.offset, ((P.info? f.type).map (·.size)).getD 0)) w := by
    intro l
    induction l with
    | nil => intro _; simp
    | cons f l ih =>
      intro hl
      simp only [allInfo, List.all_cons, Bool.and_eq_true] at hl
      obtain ⟨i, hi⟩ := Option.isSome_iff_exists.1 hl.1
      rw [List.mapM_cons]
      simp only [Sem.run_bind, run_sizeOf' hi, Result.andThen_ok, Sem.run_pure, ih hl.2, List.map_cons, hi, Option.map_some, Option.getD_some]
  rw [Array.mapM_eq_mapM_toList, Sem.run_map, key _ h]
  simp only [Result.andThen_ok, placesOf, Result.ok.injEq, and_true]
  exact Array.ext' (by simp)
theorem run_zero {t : TypeId} {i : TypeInfo} {z : Value} (hi : P.info? t = some i) (hz : i.zero = some z) : (zeroValue t).run P w = .ok z w := by
  simp [zeroValue, typeInfo, hi, hz]

theorem run_buildS {t : TypeId} {parts : Array (Nat × Operand)} {fs : Array Field} {i : TypeInfo} {z : Value} {cells : Array Value} (ho : o.op = .build t parts) (hi : P.info? t = some i) (hz : i.zero = some z)
    (hu : P.underlying t = some (.struct fs)) (ha : allInfo P fs.toList = true) (hf : Instr.fill ((placesOf P fs)[·]?) z.cells (parts.toList.map fun p => (p.1, ρ p.2)) = some cells) :
    (execOp ρ o).run P w = .ok (.value (.agg cells)) w := by
  unfold execOp; rw [ho]
  refine exec_val ?_
  simp only [Instr.build, run_zero hi hz, run_underlying' hu, Sem.run_bind, Result.andThen_ok, run_places ha, Array.toList_map]
  rw [hf]
  rfl
theorem run_buildA {t : TypeId} {parts : Array (Nat × Operand)} {n : Nat} {el : TypeId} {i ie : TypeInfo} {z : Value} {cells : Array Value} (ho : o.op = .build t parts) (hi : P.info? t = some i) (hz : i.zero = some z)
    (hu : P.underlying t = some (.array n el)) (he : P.info? el = some ie) (hf : Instr.fill (fun j => some (j * ie.size, ie.size)) z.cells (parts.toList.map fun p => (p.1, ρ p.2)) = some cells) :
    (execOp ρ o).run P w = .ok (.value (.agg cells)) w := by
  unfold execOp; rw [ho]
  refine exec_val ?_
  simp only [Instr.build, run_zero hi hz, run_underlying' hu, Sem.run_bind, Result.andThen_ok, Array.toList_map, run_sizeOf' he]
  rw [hf]
  rfl
theorem run_bslice {t : TypeId} {n : Nat} {parts : Array (Nat × Operand)} {el : TypeId} {i : TypeInfo} {z : Value} {cells : Array Value} (ho : o.op = .buildSlice t n parts) (hu : P.underlying t = some (.slice el)) (hi : P.info? el = some i) (hz : i.zero = some z)
    (hm : n * i.size ≤ 16777216) (hf : Instr.fill (fun j => some (j * i.size, i.size)) (madeCells z.cells (n * i.size)) (parts.toList.map fun p => (p.1, ρ p.2)) = some cells) :
    (execOp ρ o).run P w = .ok (.value (.slice (some ⟨w.heap.size, 0, none⟩) n n)) (w.alloc (.cells cells el)) := by
  unfold execOp; rw [ho]
  refine exec_val ?_
  have hm' : ¬ (16777216 < n * i.size) := by omega
  by_cases h0 : n * i.size = 0
  · have e0 : ∀ z : Array Value, (Array.range 0).map (z[· % z.size]!) = #[] := fun z => by apply Array.ext'; simp
    simp only [h0, madeCells, e0] at hf
    simp only [Instr.buildSlice, run_underlying' hu, run_sizeOf' hi, Sem.run_bind, Result.andThen_ok, h0]
    simp [e0, hf, newRow]
  · simp only [madeCells] at hf
    simp [Instr.buildSlice, run_underlying' hu, run_sizeOf' hi, h0, hm', zeroValue, typeInfo, hi, hz]
    simp [hf, newRow]
theorem run_mslice {t : TypeId} {x y : Operand} {el : TypeId} {i : TypeInfo} {z : Value} {k k' : IntKind} {n : Int} (ho : o.op = .makeSlice t x y) (hu : P.underlying t = some (.slice el)) (hi : P.info? el = some i) (hz : i.zero = some z)
    (hx : ρ x = .int k n) (hy : ρ y = .int k' n) (h0 : 0 ≤ n) (hn : n ≤ 68719476736) (hb : i.bytes ≤ 2048) :
    (execOp ρ o).run P w = .ok (.value (.slice (some ⟨w.heap.size, 0, none⟩) n.toNat n.toNat)) (w.alloc (.cells (madeCells z.cells (n.toNat * i.size)) el)) := by
  unfold execOp; rw [ho]
  refine exec_val ?_
  rw [hx, hy]
  refine run_make w t el i z hu hi hz k k' n n h0 (Int.le_refl _) ?_ (by omega)
  have : i.bytes * n.toNat ≤ 2048 * 68719476736 := Nat.mul_le_mul hb (by omega)
  have h2 : ((i.bytes * n.toNat : Nat) : Int) ≤ 281474976710656 := by omega
  rw [Int.natCast_mul, Int.toNat_of_nonneg h0] at h2
  exact h2
end

section
variable {R : Type} {ok0 mine u : Nat → Prop} {e : Env} {tmps : Array Value} {w w' : World} {fp : Nat → List Nat} {st q : Nat} {res : R} {glob : Nat → List D} {P : Program}

/-- What is read under leave may be read under the leave for what was there. -/
theorem RdL.here {ok : Nat → Prop} {vs : List Value} {ds : List D} {B : List Nat} (h : RdL ok w vs ds B) : RdL (fun k => ok k ∧ k < w.heap.size) w vs ds B := h.step (fun k hk ho => ⟨ho, hk⟩) fun _ _ _ => rfl
theorem Rd.here {ok : Nat → Prop} {v : Value} {d : D} {B : List Nat} (h : Rd ok w v d B) : Rd (fun k => ok k ∧ k < w.heap.size) w v d B := h.step (fun k hk ho => ⟨ho, hk⟩) fun _ _ _ => rfl

theorem Sim.new_done {fp1 : Nat → List Nat} {us : Upd} (h : Sim ok0 mine u (fun k => u k ∨ k = st) (e.app us) tmps w fp1) (hst : ¬ u st) (hq : tmps.size ≤ q) (big : ∀ k, w.heap.size ≤ k → mine k) {v : Value} {av : AV} {B : List Nat}
    (hal : aliasOf av = none) (hask : askStamp av = none) (hown : OwnIn (fun k => u k ∨ k = st) av) (hless : Stampless st av) (hfr : Fr (fun k => k ∈ fp1 q) w w')
    (hB : ∀ b ∈ B, b ∈ fp1 q ∨ (w.heap.size ≤ b ∧ b < w'.heap.size)) (hr : AvR (fun k => okOf ok0 fp1 k ∧ k < w.heap.size) w' v av B) {dst : Option Nat} {k : Upd → Option R} (hk : k (outU us dst av) = some res) :
    Fr mine w w' ∧ Done ok0 mine u e st k res (putT tmps dst v) w' := by
  refine ⟨⟨hfr.os, hfr.tape, hfr.output, hfr.size, fun k hk hm => hfr.block k hk fun hh => hm (h.lt q k hh).2⟩, ?_⟩
  obtain ⟨fp', h'⟩ := h.fin (q := q) (us := us) (e0 := e) (ua' := fun k => u k ∨ k = st) (uo' := fun k => u k ∨ k = st) (dst := dst) (w' := w') (B := B) hst hq (fun _ h => .inl h) (fun _ h => h) rfl (v := v) (av := av)
    (fun id hid => by rw [hask] at hid; cases hid) hown hless (fun k hk hm => hfr.block k hk hm) hfr.size (fun k hk => (hB k hk).imp id fun hh => ⟨hh.1, hh.2, big k hh.1⟩)
    (fun ok hok => hr.step (fun k _ hk => hok k (fun hkB => (hB k hkB).elim (hk.1.2 q) fun hh => by have := hk.2; omega) hk.1.1 (.inl hk.1)) fun _ _ _ => rfl) (.inl hal)
  exact ⟨_, fp', hk, h'⟩
/-- Several slots' blocks, in one. -/
theorem Sim.gather {ua uo : Nat → Prop} {fp1 : Nat → List Nat} (h : Sim ok0 mine ua uo e tmps w fp1) {B : List Nat} (hB : ∀ b ∈ B, ∃ s, tmps.size ≤ s ∧ b ∈ fp1 s) :
    ∃ fp2, Sim ok0 mine ua uo e tmps w fp2 ∧ fp2 tmps.size = B ∧ ∀ k, okOf ok0 fp1 k → okOf ok0 fp2 k := by
  let fp2 : Nat → List Nat := fun s => if s < tmps.size then fp1 s else if s = tmps.size then B else []
  have e1 : fp2 tmps.size = B := by simp [fp2]
  obtain ⟨g1, g2⟩ := h.revirt (fp' := fp2) (fun s hs => by simp [fp2, hs]) (fun s b hs hb => by
      by_cases hs2 : s = tmps.size
      · subst hs2; rw [e1] at hb; exact hB b hb
      · have : ¬ s < tmps.size := by omega
        simp [fp2, this, hs2] at hb)
    (fun s t b hs ht hne hb hb' => by
      by_cases hs2 : s = tmps.size
      · have : ¬ t < tmps.size := by omega
        have h3 : t ≠ tmps.size := fun hh => hne (hs2.trans hh.symm)
        simp [fp2, this, h3] at hb'
      · have : ¬ s < tmps.size := by omega
        simp [fp2, this, hs2] at hb)
  exact ⟨fp2, g1, e1, g2⟩
theorem rowsOf_flat (e : Nat) : ∀ (n : Nat) (ds : List D), ds.length = n * e → (rowsOf e n ds).flatten = ds ∧ (rowsOf e n ds).length = n ∧ ∀ r ∈ rowsOf e n ds, r.length = e
  | 0, ds, h => by
    have : ds = [] := List.eq_nil_of_length_eq_zero (by simpa using h)
    subst this
    simp [rowsOf]
  | n + 1, ds, h => by
    rw [Nat.add_mul, Nat.one_mul] at h
    obtain ⟨h1, h2, h3⟩ := rowsOf_flat e n (ds.drop e) (by simp; omega)
    refine ⟨by simp [rowsOf, h1], by simp [rowsOf, h2], fun r hr => ?_⟩
    rcases List.mem_cons.1 hr with rfl | hr
    · simp; omega
    · exact h3 r hr
theorem fillCells_length : ∀ {z : List D} {ps : List (Nat × Nat)} {vs : List V} {ds : List D}, fillCells z ps vs = some ds → ds.length = z.length
  | z, [], [], ds, h => by simp [fillCells] at h; rw [h]
  | z, [], _ :: _, ds, h => by simp [fillCells] at h
  | z, _ :: _, [], ds, h => by simp [fillCells] at h
  | z, (off, n) :: ps, v :: vs, ds, h => by
    simp only [fillCells] at h
    split at h
    · rename_i hc
      rw [fillCells_length h]
      simp
      omega
    · cases h
end
end Go.Abs
set_option linter.unusedVariables false
set_option linter.unusedSimpArgs false
namespace Go.Abs
open Go

def zeroIs (P : Program) (t : TypeId) (z : List D) : Bool :=
  match P.info? t with
  | some i => match i.zero with
    | some v => constL v.cells.toList z
    | none => false
  | none => false
theorem zeroIs_spec {P : Program} {t : TypeId} {z : List D} (h : zeroIs P t z = true) : ∃ i v, P.info? t = some i ∧ i.zero = some v ∧ constL v.cells.toList z = true := by
  unfold zeroIs at h
  split at h
  · split at h
    · exact ⟨_, _, ‹_›, ‹_›, h⟩
    · cases h
  · cases h
def sizeIs (P : Program) (t : TypeId) (n : Nat) : Bool :=
  match P.info? t with
  | some i => i.size == n
  | none => false
theorem sizeIs_spec {P : Program} {t : TypeId} {n : Nat} (h : sizeIs P t n = true) : ∃ i, P.info? t = some i ∧ i.size = n := by
  unfold sizeIs at h
  split at h
  · exact ⟨_, ‹_›, by simpa using h⟩
  · cases h
/-- A slice type: its elements' cells. -/
def sliceIs (P : Program) (t : TypeId) (e : Nat) : Bool :=
  match P.underlying t with
  | some (.slice el) => sizeIs P el e
  | _ => false
theorem sliceIs_spec {P : Program} {t : TypeId} {e : Nat} (h : sliceIs P t e = true) : ∃ el i, P.underlying t = some (.slice el) ∧ P.info? el = some i ∧ i.size = e := by
  unfold sliceIs at h
  split at h
  · obtain ⟨i, h1, h2⟩ := sizeIs_spec h
    exact ⟨_, i, ‹_›, h1, h2⟩
  · cases h
/-- The same, with elements that append and make may count. -/
def sliceOwn (P : Program) (t : TypeId) (e : Nat) : Bool :=
  match P.underlying t with
  | some (.slice el) => match P.info? el with
    | some i => match i.zero with
      | some z => i.size == e && z.cells.size == e && decide (i.bytes ≤ 2048)
      | none => false
    | none => false
  | _ => false
theorem sliceOwn_spec {P : Program} {t : TypeId} {e : Nat} (h : sliceOwn P t e = true) : ∃ el i z, P.underlying t = some (.slice el) ∧ P.info? el = some i ∧ i.zero = some z ∧ i.size = e ∧ z.cells.size = e ∧ i.bytes ≤ 2048 := by
  unfold sliceOwn at h
  split at h
  · split at h
    · split at h
      · simp at h
        exact ⟨_, _, _, ‹_›, ‹_›, ‹_›, h.1.1, h.1.2, h.2⟩
      · cases h
    · cases h
  · cases h
def fieldIs (P : Program) (t : TypeId) (f off : Nat) : Bool :=
  match P.underlying t with
  | some (.struct fs) => match fs[f]? with
    | some fl => match P.info? fl.type with
      | some i => fl.offset == off && i.size != 0
      | none => false
    | none => false
  | _ => false
def fieldGet (P : Program) (t : TypeId) (f off : Nat) (agg : Bool) (n : Nat) : Bool :=
  match P.underlying t with
  | some (.struct fs) => match fs[f]? with
    | some fl => fl.offset == off && okTy P fl.type agg n
    | none => false
  | _ => false
def arrayIs (P : Program) (t : TypeId) (n e : Nat) : Bool :=
  match P.underlying t with
  | some (.array m el) => m == n && sizeIs P el e
  | _ => false
def partsIs (P : Program) (t : TypeId) (is : List Nat) (ps : List (Nat × Nat)) : Bool :=
  match P.underlying t with
  | some (.struct fs) => allInfo P fs.toList && (is.map fun i => (placesOf P fs)[i]?) == ps.map some
  | some (.array _ el) => match P.info? el with
    | some i => (is.map fun j => (j * i.size, i.size)) == ps
    | none => false
  | _ => false
def bsliceIs (P : Program) (t : TypeId) (e n : Nat) (z : List D) (is js : List Nat) : Bool :=
  match P.underlying t with
  | some (.slice el) => sizeIs P el e && zeroIs P el z && is == js && decide (n * e ≤ 16777216 ∧ n ≤ 16777216) && z.length == e
  | _ => false
def undIs (P : Program) (t : TypeId) (p : TypeDesc → Bool) : Bool :=
  match P.underlying t with
  | some d => p d
  | none => false
def isStr : TypeDesc → Bool
  | .string => true
  | _ => false
def isBoolT : TypeDesc → Bool
  | .bool => true
  | _ => false
def isInt (k : IntKind) : TypeDesc → Bool
  | .int k' => k == k'
  | _ => false
theorem undIs_spec {P : Program} {t : TypeId} {p : TypeDesc → Bool} (h : undIs P t p = true) : ∃ d, P.underlying t = some d ∧ p d = true := by
  unfold undIs at h
  split at h
  · exact ⟨_, ‹_›, h⟩
  · cases h

def okO : Option Operand → Option X → Bool
  | none, none => true
  | some x, some y => okX x y
  | _, _ => false
/-- A map whose keys are whole numbers. -/
def mapIs (P : Program) (t : TypeId) : Bool := match P.underlying t with
  | some (.map kt _) => (match P.underlying kt with | some (.int .i64) => true | _ => false)
  | _ => false
def mapVal (P : Program) (t : TypeId) : Bool := match P.underlying t with
  | some (.map kt et) => (match P.underlying kt, P.info? et with
    | some (.int .i64), some i => (match i.zero with | some (.int .i64 0) => true | _ => false)
    | _, _ => false)
  | _ => false
theorem mapVal_spec {P : Program} {t : TypeId} (h : mapVal P t = true) : ∃ kt et, P.underlying t = some (.map kt et) ∧ P.underlying kt = some (.int .i64) ∧ ∀ w, (zeroValue et).run P w = .ok (.int .i64 0) w := by
  unfold mapVal at h
  split at h
  · rename_i kt et hu
    split at h
    · rename_i i h1 h2
      split at h
      · rename_i hz
        exact ⟨kt, et, hu, h1, fun w => by simp [zeroValue, typeInfo, h2, hz]⟩
      · cases h
    · cases h
  · cases h
/-- None of them is given away. -/
def noM : List X → Bool
  | [] => true
  | .m _ _ :: _ => false
  | _ :: xs => noM xs
def okOp (P : Program) (o : Oper) (a : AOp) : Bool :=
  match o.op, a with
  | .move x, .mv y => okX x y
  | .move x, .rf y => okX x y
  | .assign x, .asg y => okX x y
  | .assign x, .frz y => okX x y
  | .pick c x y, .pick c' x' y' => okX c c' && okX x x' && okX y y'
  | .box _ x, .box y => okX x y
  | .box _ x, .boxk s => okX x (.t s) && (match o.dst with | some d => s != d | none => false)
  | .alloc t, .alloc z => zeroIs P t z
  | .build t parts, .build z ps => zeroIs P t z && okXs (parts.toList.map (·.2)) (ps.map (·.2.2)) && partsIs P t (parts.toList.map (·.1)) (ps.map fun p => (p.1, p.2.1))
  | .buildSlice t n parts, .bslice e n' z ps => n == n' && okXs (parts.toList.map (·.2)) (ps.map (·.2)) && bsliceIs P t e n z (parts.toList.map (·.1)) (ps.map (·.1))
  | .load t x, .load agg n y => okTy P t agg n && okX x y
  | .store t x y, .store n a b => sizeIs P t n && okX x a && okX y b && o.dst.isNone
  | .fieldAddr t x f, .faddr off y => fieldIs P t f off && okX x y
  | .nilCheck x, .nc y => okX x y
  | .assign x, .nc y => okX x y
  | .field t x f, .field agg off n y => fieldGet P t f off agg n && okX x y
  | .indexAddr t x i, .iaddr e y j => sliceIs P t e && okX x y && okX i j
  | .indexAddr t x i, .aaddr len e y j => arrayIs P t len e && okX x y && okX i j
  | .index t x i, .sidx y j => undIs P t isStr && okX x y && okX i j
  | .binOp op _ x y _, .bin op' a b => op == op' && okX x a && okX y b
  | .binOp .eql t x (.const (.slice none _ _)) _, .isnil a => (match P.underlying t with | some (.slice _) => true | _ => false) && okX x a
  | .binOp op t x y _, .beq neg a b => (op == if neg then .neq else .eql) && undIs P t isBoolT && okX x a && okX y b
  | .unOp op _ x, .un op' y => op == op' && okX x y
  | .convert s d x, .bstr y => okX x (.t y) && undIs P d isStr && (match P.underlying s with | some (.slice e) => (match P.underlying e with | some (.int .u8) => true | _ => false) | _ => false)
  | .convert s d x, .conv k y => (P.underlying s).isSome && undIs P d (isInt k) && okX x y
  | .makeSlice t l c, .mslice e z y => sliceOwn P t e && okX l y && okX c y && (match P.underlying t with | some (.slice el) => zeroIs P el z | _ => false)
  | .makeFunc (.func f) first cs, .mkf f' xs => f == f' && first.size == 0 && okXs cs.toList xs
  | .extract x j, .extract y j' => j == j' && okX x y
  | .call ⟨.builtin .len, args, ts⟩, .len y => match args.toList, ts.toList with
    | [x], [t] => okX x y && (match P.underlying t with | some (.slice _) => true | _ => false)
    | _, _ => false
  | .call ⟨.builtin .len, args, ts⟩, .slen y => match args.toList, ts.toList with
    | [x], [t] => okX x y && undIs P t isStr
    | _, _ => false
  | .call ⟨.builtin .append, args, ts⟩, .append e a b => match args.toList, ts.toList with
    | [x, y], [t, t'] => t == t' && okX x a && okX y b && sliceOwn P t e
    | _, _ => false
  | .call ⟨.builtin .max, args, _⟩, .mm true a b => match args.toList with
    | [x, y] => okX x a && okX y b
    | _ => false
  | .call ⟨.builtin .min, args, _⟩, .mm false a b => match args.toList with
    | [x, y] => okX x a && okX y b
    | _ => false
  | .call ⟨.value x, args, _⟩, .call f as => okX x (.f f) && okXs args.toList as
  | .call ⟨.value x, args, _⟩, .callv y as => okX x y && okXs args.toList as
  | .call ⟨.value x, args, _⟩, .calli f s _ as => okX x (.f f) && (match args.toList with | a :: os => okX a (.t s) && okXs os as && noM as | [] => false)
  | .binOp .eql t x y _, .eqs n a b => structIs P t n && okX x a && okX y b
  | .move x, .frk s => okX x (.t s)
  | .slice t x lo hi none, .sub w y l h => sliceIs P t w && okX x y && okO lo l && okO hi h
  | .slice t x lo hi none, .ssub y l h => undIs P t isStr && okX x y && okO lo l && okO hi h
  | .binOp op t x (.const .nilIface) _, .errq neg a => (op == if neg then .neq else .eql) && okX x a && (match P.underlying t with | some (.interface _) => true | _ => false)
  | .makeMap _ none, .mkmap => true
  | .move x, .mrf s => okX x (.t s)
  | .assign x, .mrf s => okX x (.t s)
  | .lookup t m x b, .mget b' s _ x' => okX m (.t s) && okX x x' && mapVal P t && b == b'
  | .call ⟨.builtin .delete, args, ts⟩, .mdel s _ x' => match args.toList, ts.toList with
    | [m, x], [t, _] => okX m (.t s) && okX x x' && mapIs P t && o.dst.isNone
    | _, _ => false
  | .call ⟨.builtin .len, args, ts⟩, .mlen s _ => match args.toList, ts.toList with
    | [m], [t] => okX m (.t s) && mapIs P t
    | _, _ => false
  | .mapUpdate t m x y, .mset s _ x' y' => okX m (.t s) && okX x x' && okX y y' && mapIs P t && o.dst.isNone
  | .assign x, .mend s _ => okX x (.t s)
  | .assign (.const (.map none)), .junk => true
  | _, _ => false
end Go.Abs
set_option linter.unusedVariables false
set_option linter.unusedSimpArgs false
namespace Go.Abs
open Go

section
variable {R : Type} {ok0 mine u : Nat → Prop} {e : Env} {w w' : World} {fp : Nat → List Nat} {st q : Nat} {res : R} {glob : Nat → List D} {P : Program} {o : Oper} {a : Act} {k : Upd → Option R} {Q : Exit → Act → World → Prop}

/-- Behind an operation. -/
def OpPost (ok0 mine u : Nat → Prop) (e : Env) (st : Nat) (k : Upd → Option R) (res : R) (d : Option Nat) (a : Act) (w : World) (a' : Act) (w' : World) : Prop :=
  a'.defers = a.defers ∧ a'.tmps.size = a.tmps.size ∧ (∀ s, d ≠ some s → a'.tmps[s]? = a.tmps[s]?) ∧ Fr mine w w' ∧ Done ok0 mine u e st k res a'.tmps w'

theorem wp_val {v : Value} (hr : (execOp (evalT a.tmps) o).run P w = .ok (.value v) w') (hp : Fr mine w w' ∧ Done ok0 mine u e st k res (putT a.tmps o.dst v) w') : o.wp P a w (OpPost ok0 mine u e st k res o.dst a w) Q := by
  have he : a.eval = evalT a.tmps := funext (evalT_eq a)
  unfold Oper.wp
  rw [he, hr, Oper.upon_value]
  exact ⟨put_defers .., by rw [putT_eq, putT_size], fun _ hd => by rw [putT_eq]; exact putT_pin hd, hp.1, by rw [putT_eq]; exact hp.2⟩
theorem wp_val_same {v : Value} (hr : (execOp (evalT a.tmps) o).run P w = .ok (.value v) w) (hp : Done ok0 mine u e st k res (putT a.tmps o.dst v) w) : o.wp P a w (OpPost ok0 mine u e st k res o.dst a w) Q :=
  wp_val hr ⟨.refl _ _, hp⟩

/-- What the proof of an operation may count on. -/
structure Here (ok0 mine u : Nat → Prop) (glob : Nat → List D) (e : Env) (tmps : Array Value) (w : World) (fp : Nat → List Nat) (st : Nat) : Prop where
  sim : Sim ok0 mine u u e tmps w fp
  virt : ∀ s, tmps.size ≤ s → fp s = []
  new : ¬ u st
  big : ∀ k, w.heap.size ≤ k → mine k
  mok : ∀ k, mine k → ok0 k
  glob : GlobOK ok0 mine glob w

theorem Here.sim' {tmps : Array Value} (h : Here ok0 mine u glob e tmps w fp st) : Sim ok0 mine u (fun k => u k ∨ k = st) (e.app []) tmps w fp := h.sim.weak (fun _ h => h) fun _ h => .inl h
theorem Here.found {tmps : Array Value} (h : Here ok0 mine u glob e tmps w fp st) {v : Value} {av : AV} (hf : Found ok0 u e tmps w fp v av) {dst : Option Nat} (hk : k (outU [] dst av) = some res) :
    Done ok0 mine u e st k res (putT tmps dst v) w := h.sim.found_done h.new h.virt hf hk

theorem op_move (h : Here ok0 mine u glob e a.tmps w fp st) {c : Orc} {x : Operand} {y : X} (ho : o.op = .move x) (hx : okX x y = true) (hk : opK c glob st o.dst (.mv y) e k = some res) : o.wp P a w (OpPost ok0 mine u e st k res o.dst a w) Q := by
  refine wp_val_same (run_move ho) ?_
  simp only [opK] at hk
  cases y with
  | c d =>
    cases x <;> simp [okX] at hx
    exact h.sim'.taken_done (us := []) h.new (Nat.le_refl _) (by rw [h.virt _ (Nat.le_refl _)]; exact ofV_rel (.one _ _ _ (constD_rd hx)) st) (ofV_alias _ _).1 (ofV_alias _ _).2 (ofV_own (fun k => u k ∨ k = st) st (.inr rfl) _).1 (ofV_own (fun _ => True) st trivial _).2 hk
  | g g =>
    cases x <;> simp [okX] at hx
    subst hx
    exact h.found (.rp (glob_rp h.glob (fun s b hb => (h.sim.lt s b hb).2) _)) hk
  | f f =>
    cases x <;> simp [okX] at hx
    subst hx
    exact h.found ⟨.clo _ [] [] rfl (fun j p c h1 h2 => by simp at h1), trivial, fun _ h => (by cases h), no_clo _ _⟩ hk
  | t s => cases x <;> simp [okX] at hx; subst hx; exact mvS_sound h.sim h.new h.virt hk
  | a s r => cases x <;> simp [okX] at hx; subst hx; exact mvS_sound h.sim h.new h.virt hk
  | p s =>
    cases x <;> simp [okX] at hx
    subst hx
    obtain ⟨V, hk1, hv⟩ := peekS_sound h.sim hk
    exact h.found (.val hv) hk1
  | m s r => cases hk
  | k d => cases hk
theorem op_assign (h : Here ok0 mine u glob e a.tmps w fp st) {c : Orc} {x : Operand} {y : X} (ho : o.op = .assign x) (hx : okX x y = true) (hk : opK c glob st o.dst (.asg y) e k = some res) : o.wp P a w (OpPost ok0 mine u e st k res o.dst a w) Q := by
  refine wp_val_same (run_assign ho) ?_
  simp only [opK] at hk
  obtain ⟨V, us, fp', hk1, ht, hv⟩ := take_sound h.sim h.new (Nat.le_refl _) (h.virt _ (Nat.le_refl _)) hx hk
  exact ht.val_done h.new (Nat.le_refl _) hv hk1
theorem op_frz (h : Here ok0 mine u glob e a.tmps w fp st) {c : Orc} {x : Operand} {y : X} (ho : o.op = .assign x) (hx : okX x y = true) (hk : opK c glob st o.dst (.frz y) e k = some res) : o.wp P a w (OpPost ok0 mine u e st k res o.dst a w) Q := by
  refine wp_val_same (run_assign ho) ?_
  simp only [opK] at hk
  obtain ⟨V, us, fp', hk1, ht, hv⟩ := take_sound h.sim h.new (Nat.le_refl _) (h.virt _ (Nat.le_refl _)) hx hk
  exact Sim.frozen_done ht.1 h.new (Nat.le_refl _) hv h.mok hk1
theorem op_pick (h : Here ok0 mine u glob e a.tmps w fp st) {c : Orc} {x y z : Operand} {x' y' z' : X} (ho : o.op = .pick x y z) (hx : okX x x' = true) (hy : okX y y' = true) (hz : okX z z' = true) (hk : opK c glob st o.dst (.pick x' y' z') e k = some res) :
    o.wp P a w (OpPost ok0 mine u e st k res o.dst a w) Q := by
  simp only [opK] at hk
  obtain ⟨b, hk1, hb⟩ := peekBool_sound h.sim hx hk
  refine wp_val_same (run_pick ho hb) ?_
  cases b with
  | true =>
    simp only [if_true] at hk1 ⊢
    obtain ⟨V, hk2, hv⟩ := peek_sound h.sim hy hk1
    exact h.found (.val hv) hk2
  | false =>
    simp at hk1 ⊢
    obtain ⟨V, hk2, hv⟩ := peek_sound h.sim hz hk1
    exact h.found (.val hv) hk2
theorem op_box (h : Here ok0 mine u glob e a.tmps w fp st) {c : Orc} {t : TypeId} {x : Operand} {y : X} (ho : o.op = .box t x) (hx : okX x y = true) (hk : opK c glob st o.dst (.box y) e k = some res) : o.wp P a w (OpPost ok0 mine u e st k res o.dst a w) Q := by
  refine wp_val (run_box ho) ?_
  simp only [opK] at hk
  obtain ⟨V, us, fp', hk1, ht, hv⟩ := take_sound h.sim h.new (Nat.le_refl _) (h.virt _ (Nat.le_refl _)) hx hk
  have hc := hv.cells
  refine ht.sim.new_done h.new (Nat.le_refl _) h.big (av := .box st st V.cells) rfl rfl (B := w.heap.size :: fp' a.tmps.size) ⟨.inr rfl, .inr rfl⟩ ⟨rfl, rfl⟩ (.alloc _ _ _) (fun b hb => ?_) ?_ hk1
  · rcases List.mem_cons.1 hb with rfl | hb
    · exact .inr ⟨Nat.le_refl _, by simp⟩
    · exact .inl hb
  · refine .box w.heap.size _ _ _ t _ _ (heap_alloc_new w _) (hc.here.step (fun _ _ h => h) fun k hk _ => heap_alloc_old w _ k hk) fun hh => ?_
    exact absurd (hc.lt _ hh) (Nat.lt_irrefl _)
theorem op_boxk (h : Here ok0 mine u glob e a.tmps w fp st) {c : Orc} {t : TypeId} {x : Operand} {s d : Nat} (ho : o.op = .box t x) (hx : okX x (.t s) = true) (hd : o.dst = some d) (hsd : s ≠ d) (hk : opK c glob st o.dst (.boxk s) e k = some res) : o.wp P a w (OpPost ok0 mine u e st k res o.dst a w) Q := by
  have hxs : x = .tmp s := by cases x <;> simp [okX] at hx; rw [hx]
  rw [hd] at hk
  simp only [opK] at hk
  split at hk
  · rename_i d' ds hd' hs
    obtain rfl := Option.some.inj hd'
    obtain ⟨vv, hv, hv', hrv⟩ := h.sim.valOne hs
    obtain ⟨cs, rfl, hrd⟩ := hrv.agg_inv
    have hsl : s < a.tmps.size := (Array.getElem?_eq_some_iff.1 hv).1
    have htk : ∃ us0, takeS e st s none (fun V us => some (V, us)) = some (.agg ds, us0) ∧ (us0 = [] ∨ us0 = [(s, .dead)]) := by
      unfold takeS
      rw [hs]
      simp only
      cases plainL ds with
      | true => exact ⟨_, rfl, .inl rfl⟩
      | false => exact ⟨_, rfl, .inr rfl⟩
    obtain ⟨us0, hk0, hus0⟩ := htk
    obtain ⟨V, us, fp', hE, ht, hV⟩ := takeS_sound h.sim h.new (Nat.le_refl _) (h.virt _ (Nat.le_refl _)) hk0
    injection hE with hE
    injection hE with hE1 hE2
    subst hE1; subst hE2
    rw [hv'] at hV
    have hc := hV.cells
    refine wp_val (run_box ho) ?_
    have hev : evalT a.tmps x = .agg cs.toArray := by rw [hxs]; exact hv'
    rw [hev]
    obtain ⟨hfr, us2, fp2, hk2, hsim⟩ := ht.sim.new_done h.new (Nat.le_refl _) h.big (av := .box st st (V.cells (.agg ds))) (k := fun us => some us) (dst := some d) rfl rfl (B := w.heap.size :: fp' a.tmps.size) (v := .pointer (some ⟨w.heap.size, 0, none⟩)) (w' := w.alloc (.cells (Value.agg cs.toArray).cells t)) ⟨.inr rfl, .inr rfl⟩ ⟨rfl, rfl⟩ (.alloc _ _ _) (fun b hb => by
        rcases List.mem_cons.1 hb with rfl | hb
        · exact .inr ⟨Nat.le_refl _, by simp⟩
        · exact .inl hb)
      (by
        refine .box w.heap.size _ _ _ t _ _ (heap_alloc_new w _) (hc.here.step (fun _ _ h => h) fun k hk _ => heap_alloc_old w _ k hk) fun hh => ?_
        exact absurd (hc.lt _ hh) (Nat.lt_irrefl _)) rfl
    obtain rfl := Option.some.inj hk2
    rw [hd]
    have hlen : e.length = a.tmps.size := h.sim.size
    have hdl : d < a.tmps.size ∨ a.tmps.size ≤ d := Nat.lt_or_ge _ _
    have hget : (e.app (outU us (some d) (.box st st (V.cells (.agg ds))))).get s = (e.app us).get s := by
      rw [Env.app_out]
      exact by rw [Env.get_upd, if_neg fun hh => hsd hh.1]
    have hns : (e.app us).get s = .val (.agg ds) ∧ plainL ds = true ∨ (e.app us).get s = .dead := by
      rcases hus0 with rfl | rfl
      · refine .inl ⟨hs, ?_⟩
        unfold takeS at hk0
        rw [hs] at hk0
        simp only at hk0
        cases hp : plainL ds with
        | true => rfl
        | false => rw [hp] at hk0; simp at hk0
      · exact .inr (by simp only [Env.app]; rw [Env.get_upd, if_pos ⟨rfl, by omega⟩])
    have hvs : (putT a.tmps (some d) (.pointer (some ⟨w.heap.size, 0, none⟩)))[s]? = some (.agg cs.toArray) := by
      simp only [putT]; rw [Array.getElem?_setIfInBounds_ne (fun hh => hsd hh.symm)]; exact hv
    have hfps : fp2 s = [] := by
      have hr := hsim.rel s _ hvs
      rw [hget] at hr
      rcases hns with ⟨h1, hp⟩ | h1
      · rw [h1] at hr
        obtain ⟨cs2, _, hr2⟩ := hr.val_inv.agg_inv
        exact hr2.plain hp
      · rw [h1] at hr
        generalize fp2 s = B at hr
        cases hr; rfl
    have hs2 := hsim.alias (ua' := fun k => u k ∨ k = st) (fun _ h => h) hvs (by
        rw [hget]
        rcases hns with ⟨h1, _⟩ | h1 <;> rw [h1] <;> exact ⟨fun _ _ _ hh => (by cases hh), fun _ _ _ hh => (by cases hh), fun _ _ hh => (by cases hh)⟩) hfps (av := .copy d st) (.copy _ _ _) (by
        intro b2 ds2 hL
        by_cases hdl : d < a.tmps.size
        · refine ⟨w.heap.size, cs.toArray, t, ?_, heap_alloc_new w _, rfl⟩
          simp [putT, hdl]
        · rw [Env.get_out _ _ (by rw [Env.app_length]; omega)] at hL
          cases hL) (fun id hid => by injection hid with hid; exact .inr hid.symm) ⟨fun _ _ _ hh => (by cases hh), fun _ _ _ hh => (by cases hh), fun _ _ hh => (by cases hh)⟩ (by intro hh; injection hh with hh; exact hsd hh.symm) trivial
    refine ⟨hfr, _, fp2, hk, ?_⟩
    have henv : (e.app (outU us (some d) (.box st st (V.cells (.agg ds))))).upd s (.copy d st) = e.app [(s, .copy d st), (d, .box st st ds)] := by
      refine Env.ext_get (by simp only [Env.app_length, Env.upd_length]) fun x => ?_
      rw [Env.app_out]
      simp only [Env.app, Env.get_upd, Env.upd_length, Env.app_length, V.cells]
      rcases hus0 with rfl | rfl
      · by_cases h1 : x = s <;> by_cases h2 : x = d <;> simp_all [Env.app]
      · by_cases h1 : x = s <;> by_cases h2 : x = d <;> simp_all [Env.app, Env.get_upd, Env.upd_length]
    rw [← henv]
    exact hs2
  · cases hk
theorem op_alloc (h : Here ok0 mine u glob e a.tmps w fp st) {c : Orc} {t : TypeId} {z : List D} (ho : o.op = .alloc t) (hz : zeroIs P t z = true) (hk : opK c glob st o.dst (.alloc z) e k = some res) : o.wp P a w (OpPost ok0 mine u e st k res o.dst a w) Q := by
  obtain ⟨i, v, h1, h2, h3⟩ := zeroIs_spec hz
  refine wp_val (run_alloc ho h1 h2) ?_
  simp only [opK] at hk
  refine h.sim'.new_done h.new (Nat.le_refl _) h.big (av := .box st st z) rfl rfl (B := [w.heap.size]) ⟨.inr rfl, .inr rfl⟩ ⟨rfl, rfl⟩ (.alloc _ _ _) (fun b hb => ?_) ?_ hk
  · simp at hb; subst hb; exact .inr ⟨Nat.le_refl _, by simp⟩
  · exact .box w.heap.size _ _ _ t _ [] (heap_alloc_new w _) (constL_rd h3) (by simp)
/-- The map that a slot leads to. -/
theorem Sim.mapAt {ua uo : Nat → Prop} {tmps : Array Value} (h : Sim ok0 mine ua uo e tmps w fp) {s r : Nat} {kk : Nat → List (Int × Int) → Option R} (hk : mapS e s r kk = some res) :
    ∃ id kv g clk es, kk id kv = some res ∧ e.get r = .mapv id kv ∧ tmps.getD s undef = .map (some g) ∧ tmps[r]? = some (.map (some g)) ∧ fp r = [g] ∧ w.heap[g]? = some (.map es clk) ∧ MapHas es clk kv := by
  unfold mapS at hk
  split at hk
  · rename_i t id hs
    split at hk
    · rename_i htr
      subst htr
      split at hk
      · rename_i id' kv ht
        split at hk
        · rename_i hid
          subst hid
          have hsl : s < tmps.size := by
            rcases Nat.lt_or_ge s tmps.size with hh | hh
            · exact hh
            · have := Env.get_out e s (by rw [h.size]; exact hh)
              rw [hs] at this; cases this
          have hsv : tmps[s]? = some tmps[s] := Array.getElem?_eq_getElem hsl
          have ha := h.al s _ hsv
          rw [hs] at ha
          have htv := ha _ ht
          have hr := h.rel t _ htv
          rw [ht] at hr
          generalize hB : fp t = B at hr
          generalize hv : tmps[s] = v at *
          cases hr with
          | mapv g _ clk es _ hg hkk =>
            refine ⟨_, kv, g, clk, es, hk, ht, ?_, htv, rfl, hg, hkk⟩
            rw [Array.getD_eq_getD_getElem?, hsv]; rfl
        · cases hk
      · cases hk
    · cases hk
  · rename_i id kv hs
    split at hk
    · rename_i hsr
      subst hsr
      obtain ⟨v, hv, hv'⟩ := h.slot (s := s) (by rw [hs]; simp)
      have hr := h.rel s v hv
      rw [hs] at hr
      generalize hB : fp s = B at hr
      cases hr with
      | mapv g _ clk es _ hg hkk => exact ⟨_, kv, g, clk, es, hk, hs, hv', hv, rfl, hg, hkk⟩
    · cases hk
  · cases hk
theorem AliasOK.map {L L' : Nat → AV} {w w' : World} {tmps : Array Value} {v : Value} {av : AV} {t id : Nat} {kv kv' : List (Int × Int)} (h : AliasOK L w tmps v av) (ha : aliasOf av = some t) (h1 : L t = .mapv id kv) (h2 : L' t = .mapv id kv') : AliasOK L' w' tmps v av := by
  cases av with
  | ref t2 j i2 =>
    simp only [aliasOf, Option.some.injEq] at ha; subst ha
    cases j with
    | none => intro e rows hL; rw [h2] at hL; cases hL
    | some j => intro b ds hL; rw [h2] at hL; cases hL
  | copy t2 ver => simp only [aliasOf, Option.some.injEq] at ha; subst ha; intro b ds hL; rw [h2] at hL; cases hL
  | part t2 ver off n => simp only [aliasOf, Option.some.injEq] at ha; subst ha; intro b ds hL; rw [h2] at hL; cases hL
  | bp t2 i2 off => simp only [aliasOf, Option.some.injEq] at ha; subst ha; intro ver ds hL; rw [h2] at hL; cases hL
  | into t2 j i2 e2 i o =>
    simp only [aliasOf, Option.some.injEq] at ha; subst ha
    cases j with
    | none => intro e' rows hL; rw [h2] at hL; cases hL
    | some j => intro b ds hL; rw [h2] at hL; cases hL
  | cell t2 i2 i o => simp only [aliasOf, Option.some.injEq] at ha; subst ha; intro e rows row w0 inner hL; rw [h2] at hL; cases hL
  | mref t2 i2 =>
    simp only [aliasOf, Option.some.injEq] at ha; subst ha
    intro kv2 hL
    rw [h2] at hL
    injection hL with h3 _
    subst h3
    exact h kv h1
  | _ => simp [aliasOf] at ha
/-- A map is written. -/
theorem Sim.mapWrite {ua uo : Nat → Prop} {tmps : Array Value} (h : Sim ok0 mine ua uo e tmps w fp) {t id g clk' : Nat} {kv kv' : List (Int × Int)} {es' : Array MapEntry} (ht : e.get t = .mapv id kv) (htv : tmps[t]? = some (.map (some g))) (hfp : fp t = [g]) (hg : g < w.heap.size) (hk : MapHas es' clk' kv') :
    Sim ok0 mine ua uo (e.upd t (.mapv id kv')) tmps { w with heap := w.heap.setIfInBounds g (.map es' clk') } fp := by
  have htl : t < tmps.size := (Array.getElem?_eq_some_iff.1 htv).1
  have hother : ∀ k, k ≠ g → (w.heap.setIfInBounds g (.map es' clk'))[k]? = w.heap[k]? := fun k hne => by simp [Ne.symm hne]
  have hus : OwnIn uo (.mapv id kv') := by have := h.stamps t; rw [ht] at this; exact this
  exact (h.turn (w' := { w with heap := w.heap.setIfInBounds g (.map es' clk') }) (uo' := uo) (fun _ hk => hk) htv (q := tmps.size) (Nat.le_refl _) (av := .mapv id kv') (fp' := fp) (fun _ _ _ => rfl) (fun b hb => hb) (fun b hb => h.disj t tmps.size b (by omega) hb)
    (fun k hk hh => hother k (by
      rintro rfl
      rcases hh with hh | ⟨s, hs, hh⟩
      · exact hh.2 t (by rw [hfp]; simp)
      · exact h.disj t s k (Ne.symm hs) (by rw [hfp]; simp) hh)) (by simp)
    (by rw [hfp]; exact .mapv g id clk' es' kv' (by simp [hg]) hk) rfl hus
    (fun s v hs hv ha => (h.al s v hv).map ha ht (by rw [Env.get_upd, if_pos ⟨rfl, by rw [h.size]; exact htl⟩])) trivial).1
theorem peekO_sound {tmps : Array Value} {ua uo : Nat → Prop} (h : Sim ok0 mine ua uo e tmps w fp) {x : Option Operand} {y : Option X} (hx : okO x y = true) {d : Nat} {kk : Int → Option R} (hk : peekO e y d kk = some res) :
    ∃ n : Int, kk n = some res ∧ ∀ m : Nat, n = m → Bound (evalT tmps) x d m := by
  cases x with
  | none =>
    cases y with
    | none => exact ⟨d, hk, fun m hm => (by have : (d : Int) = m := hm; show m = d; omega)⟩
    | some y => cases hx
  | some x =>
    cases y with
    | none => cases hx
    | some y =>
      obtain ⟨i, n, h1, h2⟩ := peekInt_sound h hx hk
      exact ⟨n, h1, fun m hm => ⟨i, by rw [h2, hm]⟩⟩
/-- A part of a list that is looked at, read. -/
theorem Rd.sub {ok : Nat → Prop} {w : World} {v : Value} {e l h : Nat} {rows : List (List D)} {B : List Nat} (hr : Rd ok w v (.list false e rows) B) (h1 : l ≤ h) (h2 : h ≤ rows.length) :
    ∃ a len cap, v = .slice a len cap ∧ len = rows.length ∧ h ≤ cap ∧ Rd ok w (.slice (if cap = l then a else a.map (·.add (l * e))) (h - l) (cap - l)) (.list false e ((rows.drop l).take (h - l))) [] := by
  cases hr with
  | empty a =>
    have : l = 0 := by simp at h2; omega
    subst this
    have : h = 0 := by simpa using h2
    subst this
    exact ⟨a, 0, 0, rfl, rfl, Nat.le_refl _, by simpa using Rd.empty a false e⟩
  | view b off n cap _ _ vs he hn hc hm hcell hrd =>
    subst hn
    refine ⟨_, _, _, rfl, rfl, by omega, ?_⟩
    by_cases hcl : cap = l
    · have e1 : h - l = 0 := by omega
      have e2 : cap - l = 0 := by omega
      rw [if_pos hcl, e1, e2, List.take_zero]
      exact .empty _ _ _
    · rw [if_neg hcl]
      have hadd : (⟨b, off, none⟩ : Addr).add (l * e) = ⟨b, off + l * e, none⟩ := by
        unfold Addr.add
        split
        · rename_i h0; rw [h0]; rfl
        · rfl
      have flat : ∀ (L : List (List D)), (∀ r ∈ L, r.length = e) → L.flatten.length = L.length * e := by
        intro L hL
        induction L with
        | nil => simp
        | cons r L ih =>
          rw [List.flatten_cons, List.length_append, ih fun r hr => hL r (List.mem_cons_of_mem _ hr), hL r (List.mem_cons_self ..), List.length_cons, Nat.succ_mul, Nat.add_comm]
      have f1 : (rows.take l).flatten.length = l * e := by
        rw [flat _ fun r hr => he r (List.mem_of_mem_take hr), List.length_take, Nat.min_eq_left (by omega)]
      have f2 : ((rows.drop l).take (h - l)).flatten.length = (h - l) * e := by
        rw [flat _ fun r hr => he r (List.mem_of_mem_drop (List.mem_of_mem_take hr)), List.length_take, List.length_drop, Nat.min_eq_left (by omega)]
      have s1 : RdL ok w vs ((rows.take l).flatten ++ (((rows.drop l).take (h - l)).flatten ++ ((rows.drop l).drop (h - l)).flatten)) [] := by
        rw [← List.flatten_append, List.take_append_drop, ← List.flatten_append, List.take_append_drop]; exact hrd
      obtain ⟨B1, B2, hB, _, r2, _⟩ := s1.split
      obtain ⟨rfl, rfl⟩ := List.append_eq_nil_iff.1 hB.symm
      obtain ⟨B3, B4, hB2, r3, _, _⟩ := r2.split
      obtain ⟨rfl, rfl⟩ := List.append_eq_nil_iff.1 hB2.symm
      rw [f1, f2] at r3
      show Rd ok w (.slice (some ((⟨b, off, none⟩ : Addr).add (l * e))) (h - l) (cap - l)) _ _
      rw [hadd]
      refine .view b (off + l * e) (h - l) (cap - l) e _ _ (fun r hr => he r (List.mem_of_mem_drop (List.mem_of_mem_take hr))) ?_ (by omega) (by omega) (fun j u hj => ?_) r3
      · rw [List.length_take, List.length_drop]; omega
      · have hj2 : vs[l * e + j]? = some u := by
          rw [List.getElem?_take] at hj
          split at hj
          · rw [List.getElem?_drop] at hj; exact hj
          · cases hj
        have := hcell _ _ hj2
        rw [Nat.add_assoc]; exact this
theorem op_sub (h : Here ok0 mine u glob e a.tmps w fp st) {c : Orc} {t : TypeId} {x : Operand} {lo hi : Option Operand} {y : X} {l' h' : Option X} {e' : Nat} (ho : o.op = .slice t x lo hi none) (hs : sliceIs P t e' = true) (hx : okX x y = true) (hl : okO lo l' = true) (hh : okO hi h' = true)
    (hk : opK c glob st o.dst (.sub e' y l' h') e k = some res) : o.wp P a w (OpPost ok0 mine u e st k res o.dst a w) Q := by
  obtain ⟨el, ti, hu, hti, rfl⟩ := sliceIs_spec hs
  simp only [opK] at hk
  obtain ⟨V, hk1, hv⟩ := peek_sound h.sim hx hk
  obtain ⟨n1, hk2, b1⟩ := peekO_sound (d := 0) h.sim hl hk1
  cases V with
  | agg ds => exact absurd hk2 (by
      intro hk2
      have : ∀ (z : Int), subK ti.size (.agg ds) n1 z (fun d => k (outU [] o.dst (.val (.one d)))) = none := fun z => rfl
      simp only [this] at hk2
      cases h' with
      | none => cases hk2
      | some y2 =>
        obtain ⟨n2, hk3, _⟩ := peekO_sound (d := 0) h.sim hh hk2
        cases hk3)
  | mapv kv => exact absurd hk2 (by
      intro hk2
      have : ∀ (z : Int), subK ti.size (.mapv kv) n1 z (fun d => k (outU [] o.dst (.val (.one d)))) = none := fun z => rfl
      simp only [this] at hk2
      cases h' with
      | none => cases hk2
      | some y2 =>
        obtain ⟨n2, hk3, _⟩ := peekO_sound (d := 0) h.sim hh hk2
        cases hk3)
  | one d =>
    cases d with
    | list own w' rows =>
      obtain ⟨n2, hk3, b2⟩ := peekO_sound (d := rows.length) h.sim hh hk2
      cases own with
      | true => cases hk3
      | false =>
        unfold subK at hk3
        simp only at hk3
        split at hk3
        · rename_i hc
          obtain ⟨rfl, c1, c2, c3⟩ := hc
          obtain ⟨a0, len, cap, hval, hlen, hcap, hrd⟩ := hv.one_inv.sub (l := n1.toNat) (h := n2.toNat) (by omega) (by omega)
          have b1' := b1 n1.toNat (by omega)
          have b2' := b2 n2.toNat (by omega)
          rw [← hlen] at b2'
          exact wp_val_same (run_sub ho hu hti hval b1' b2' (by omega) hcap) (h.found (.val (.one _ _ _ hrd)) hk3)
        · cases hk3
    | _ =>
      exfalso
      cases h' with
      | none => cases hk2
      | some y2 =>
        obtain ⟨n2, hk3, _⟩ := peekO_sound (d := 0) h.sim hh hk2
        cases hk3
theorem op_eqs (h : Here ok0 mine u glob e a.tmps w fp st) {c : Orc} {t yt : TypeId} {x y : Operand} {n : Nat} {x' y' : X} (ho : o.op = .binOp .eql t x y yt) (hs : structIs P t n = true) (hx : okX x x' = true) (hy : okX y y' = true) (hk : opK c glob st o.dst (.eqs n x' y') e k = some res) :
    o.wp P a w (OpPost ok0 mine u e st k res o.dst a w) Q := by
  simp only [opK] at hk
  obtain ⟨V, hk1, hv⟩ := peek_sound h.sim hx hk
  obtain ⟨U, hk2, hu⟩ := peek_sound h.sim hy hk1
  unfold eqsK at hk2
  split at hk2
  · rename_i da db
    split at hk2
    · rename_i hlen
      unfold onSome at hk2
      split at hk2
      · rename_i r hr
        obtain ⟨xs, hxs, rx⟩ := hv.agg_inv
        obtain ⟨ys, hys, ry⟩ := hu.agg_inv
        simp only [structIs, Bool.and_eq_true, Bool.not_eq_true'] at hs
        obtain ⟨⟨h1, h2⟩, h3⟩ := hs
        split at h1
        · rename_i fs hfs
          simp only [Bool.and_eq_true, beq_iff_eq] at h1
          have hof : P.fieldsOf t = fs := by unfold Program.fieldsOf; rw [hfs]
          have hrun : (binOp .eql t (.agg xs.toArray) (.agg ys.toArray)).run P w = .ok (.bool r) w := by
            rw [run_eql_struct, show (10000 : Nat) = 9999 + 1 from rfl, run_equalIn_agg w 9999 t _ _ (by rw [hof]; exact hfs) h2, hof,
              show (9999 : Nat) = 9998 + 1 from rfl, run_eqFields (ok := okOf ok0 fp) 9998 fs.toList 0 da db [] [] r h1.1 (by rw [hlen, ← h1.2]; simp) (by simpa using rx) (by simpa using ry) hr]
            rfl
          refine wp_val_same (run_binOp (v := .bool r) ho ?_ ?_) ?_
          · rw [hxs, hys]; exact run_eqGuard_agg w .eql t x y _ _ h3
          · rw [hxs, hys]; exact hrun
          · exact h.found (.val (.one _ _ _ (.bool _))) hk2
        · cases h1
      · cases hk2
    · cases hk2
  · cases hk2
theorem op_frk (h : Here ok0 mine u glob e a.tmps w fp st) {c : Orc} {x : Operand} {s : Nat} (ho : o.op = .move x) (hx : okX x (.t s) = true) (hk : opK c glob st o.dst (.frk s) e k = some res) : o.wp P a w (OpPost ok0 mine u e st k res o.dst a w) Q := by
  have hxs : x = .tmp s := by cases x <;> simp [okX] at hx; rw [hx]
  refine wp_val_same (run_move ho) ?_
  simp only [opK, frkS] at hk
  split at hk
  · rename_i id wd rows hs
    obtain ⟨v, hv1, hv2⟩ := h.sim.slot (s := s) (by rw [hs]; simp)
    have hsl : s < a.tmps.size := (Array.getElem?_eq_some_iff.1 hv1).1
    have hev : evalT a.tmps x = v := by rw [hxs]; simpa [evalT] using hv2
    rw [hev]
    have hr := h.sim.rel s v hv1
    rw [hs] at hr
    have hrd := hr.own_inv
    let fp' : Nat → List Nat := fun x => if x = s then [] else fp x
    have e1 : fp' s = [] := by simp [fp']
    have e2 : ∀ x, x ≠ s → fp' x = fp x := fun x hx => by simp [fp', hx]
    have hsub : ∀ x b, b ∈ fp' x → b ∈ fp x := by
      intro x b hb
      by_cases hxs : x = s
      · subst hxs; rw [e1] at hb; cases hb
      · rwa [e2 x hxs] at hb
    have hok : ∀ k, okOf ok0 fp k → okOf ok0 fp' k := fun k hk => ⟨hk.1, fun x hx => hk.2 x (hsub x k hx)⟩
    have hkk : ∀ k ∈ fp s, okOf ok0 fp' k := fun k hk => ⟨h.mok k (h.sim.lt s k hk).2, fun x hx => by
      by_cases hxs : x = s
      · subst hxs; rw [e1] at hx; cases hx
      · rw [e2 x hxs] at hx; exact h.sim.disj s x k (Ne.symm hxs) hk hx⟩
    have hst : Rd (okOf ok0 fp') w v (.list false wd (staleLL rows)) [] := hrd.stale (fun k _ => hok k) hkk
    have hq : s ≠ a.tmps.size := by omega
    obtain ⟨k1, k2⟩ := h.sim.turn (uo' := fun k => u k ∨ k = st) (fun k hk => .inl hk) (t := s) (q := a.tmps.size) hv1 (Nat.le_refl _) (av := .val (.one (.list false wd (staleLL rows)))) (fp' := fp') (fun x h1 h2 => e2 x h1)
      (fun b hb => hb.elim (fun hh => by rw [e1] at hh; cases hh) fun hh => .inr (hsub _ b hh)) (fun b hb => by rw [e1] at hb; cases hb) (fun _ _ _ => rfl) (Nat.le_refl _)
      (by rw [e1]; exact .val _ _ _ (.one _ _ _ hst)) rfl trivial
      (fun x v2 hx hv2 ha2 => AliasOK.stale fun t2 ht2 => by
        rw [ha2] at ht2
        obtain rfl := Option.some.inj ht2
        rw [Env.get_upd, if_pos ⟨rfl, by rw [h.sim.size]; exact hsl⟩]
        exact ⟨fun _ _ _ hh => (by cases hh), fun _ _ _ hh => (by cases hh), fun _ _ hh => (by cases hh)⟩) trivial
    have eq : fp' a.tmps.size = [] := by rw [e2 _ (Ne.symm hq)]; exact h.virt _ (Nat.le_refl _)
    exact Sim.taken_done (us := [(s, .val (.one (.list false wd (staleLL rows))))]) (av := .val (.one (.list false wd (staleLL rows)))) k1 h.new (Nat.le_refl _) (by rw [eq]; exact .val _ _ _ (.one _ _ _ hst)) rfl rfl trivial trivial hk
  · rename_i wd rows hs
    obtain ⟨v, hv1, hv2⟩ := h.sim.slot (s := s) (by rw [hs]; simp)
    have hev : evalT a.tmps x = v := by rw [hxs]; simpa [evalT] using hv2
    rw [hev]
    obtain ⟨vv, hv, hv', hrv⟩ := h.sim.valOne hs
    rw [hv1] at hv
    obtain rfl := Option.some.inj hv
    have hB : fp s = [] := by
      have h1 := hrv.one_inv
      generalize fp s = B at h1 ⊢
      cases h1 <;> rfl
    rw [hB] at hrv
    exact h.found (.val hrv) hk
  · cases hk
theorem op_mkmap (h : Here ok0 mine u glob e a.tmps w fp st) {c : Orc} {t : TypeId} (ho : o.op = .makeMap t none) (hk : opK c glob st o.dst .mkmap e k = some res) : o.wp P a w (OpPost ok0 mine u e st k res o.dst a w) Q := by
  refine wp_val (run_makeMap ho) ?_
  simp only [opK] at hk
  refine h.sim'.new_done h.new (Nat.le_refl _) h.big (av := .mapv st []) rfl rfl (B := [w.heap.size]) (.inr rfl) rfl (.alloc _ _ _) (fun b hb => ?_) ?_ hk
  · simp at hb; subst hb; exact .inr ⟨Nat.le_refl _, by simp⟩
  · exact .mapv w.heap.size st 0 #[] [] (heap_alloc_new w _) MapHas.empty
theorem op_mrf (h : Here ok0 mine u glob e a.tmps w fp st) {c : Orc} {x : Operand} {s : Nat} (ho : o.op = .move x ∨ o.op = .assign x) (hx : okX x (.t s) = true) (hk : opK c glob st o.dst (.mrf s) e k = some res) : o.wp P a w (OpPost ok0 mine u e st k res o.dst a w) Q := by
  have hxs : x = .tmp s := by cases x <;> simp [okX] at hx; rw [hx]
  have hr : (execOp (evalT a.tmps) o).run P w = .ok (.value (evalT a.tmps x)) w := by
    rcases ho with ho | ho
    · exact run_move ho
    · exact run_assign ho
  refine wp_val_same hr ?_
  simp only [opK, mrfS] at hk
  have hsl : ∀ {av : AV}, e.get s = av → av ≠ .dead → s < a.tmps.size := by
    intro av hav hne
    rcases Nat.lt_or_ge s a.tmps.size with hh | hh
    · exact hh
    · have := Env.get_out e s (by rw [h.sim.size]; exact hh)
      rw [hav] at this; exact absurd this hne
  split at hk
  · rename_i id hs
    have hl := hsl hs (by simp)
    have hsv : a.tmps[s]? = some a.tmps[s] := Array.getElem?_eq_getElem hl
    have hev : evalT a.tmps x = a.tmps[s] := by rw [hxs]; simp [evalT, Array.getD_eq_getD_getElem?, hsv]
    rw [hev]
    have hst := h.sim.stamps s
    rw [hs] at hst
    exact h.found ⟨.mref _ _ _, fun _ _ => hsv, fun i hi => by injection hi with hi; subst hi; exact hst, ⟨fun _ _ _ h => (by cases h), fun _ _ _ h => (by cases h), fun _ _ h => (by cases h)⟩⟩ hk
  · rename_i t id hs
    have hl := hsl hs (by simp)
    have hsv : a.tmps[s]? = some a.tmps[s] := Array.getElem?_eq_getElem hl
    have hev : evalT a.tmps x = a.tmps[s] := by rw [hxs]; simp [evalT, Array.getD_eq_getD_getElem?, hsv]
    rw [hev]
    have ha := h.sim.al s _ hsv
    rw [hs] at ha
    exact h.found ⟨.mref _ _ _, ha, fun i hi => h.sim.ask s i (by rw [hs]; exact hi), ⟨fun _ _ _ h => (by cases h), fun _ _ _ h => (by cases h), fun _ _ h => (by cases h)⟩⟩ hk
  · cases hk
theorem op_mend (h : Here ok0 mine u glob e a.tmps w fp st) {c : Orc} {x : Operand} {s r : Nat} (ho : o.op = .assign x) (hx : okX x (.t s) = true) (hk : opK c glob st o.dst (.mend s r) e k = some res) : o.wp P a w (OpPost ok0 mine u e st k res o.dst a w) Q := by
  have hxs : x = .tmp s := by cases x <;> simp [okX] at hx; rw [hx]
  refine wp_val_same (run_assign ho) ?_
  simp only [opK] at hk
  obtain ⟨id, kv, g, clk, es, hk1, h1, h2, h3, h4, h5, h6⟩ := h.sim.mapAt hk
  have hev : evalT a.tmps x = .map (some g) := by rw [hxs]; simpa [evalT] using h2
  rw [hev]
  obtain ⟨s1, _⟩ := h.sim'.giveup h3 (Nat.le_refl _) (h.virt _ (Nat.le_refl _)) (B := fp r) (fun b hb => hb)
  have e1 : fpMove fp r a.tmps.size (fp r) a.tmps.size = [g] := by simp [fpMove, h4]
  exact Sim.taken_done (us := [(r, .dead)]) s1 h.new (Nat.le_refl _) (av := .mapv st kv) (by rw [e1]; exact .mapv g st clk es kv h5 h6) rfl rfl (.inr rfl) rfl hk1
theorem op_junk (h : Here ok0 mine u glob e a.tmps w fp st) {c : Orc} (ho : o.op = .assign (.const (.map none))) (hk : opK c glob st o.dst .junk e k = some res) : o.wp P a w (OpPost ok0 mine u e st k res o.dst a w) Q := by
  refine wp_val_same (run_assign ho) ?_
  simp only [opK] at hk
  exact h.found (.val (.one _ _ _ (.gone _ rfl))) hk
theorem op_mset (h : Here ok0 mine u glob e a.tmps w fp st) {c : Orc} {t : TypeId} {m x y : Operand} {s r : Nat} {x' y' : X} (ho : o.op = .mapUpdate t m x y) (hm : okX m (.t s) = true) (hx : okX x x' = true) (hy : okX y y' = true) (ht : mapIs P t = true) (hd : o.dst = none)
    (hk : opK c glob st o.dst (.mset s r x' y') e k = some res) : o.wp P a w (OpPost ok0 mine u e st k res o.dst a w) Q := by
  have hms : m = .tmp s := by cases m <;> simp [okX] at hm; rw [hm]
  simp only [opK] at hk
  obtain ⟨id, kv, g, clk, es, hk1, h1, h2, h3, h4, h5, h6⟩ := h.sim.mapAt hk
  obtain ⟨i, n, hk2, hn⟩ := peekInt_sound h.sim hx hk1
  split at hk2
  · rename_i hi
    subst hi
    obtain ⟨i2, n2, hk3, hn2⟩ := peekInt_sound h.sim hy hk2
    split at hk3
    rotate_left
    · cases hk3
    rename_i hi2
    subst hi2
    have hev : evalT a.tmps m = .map (some g) := by rw [hms]; simpa [evalT] using h2
    obtain ⟨kt, et, hu1, hu2⟩ : ∃ kt et, P.underlying t = some (.map kt et) ∧ P.underlying kt = some (.int .i64) := by
      unfold mapIs at ht
      split at ht
      · rename_i kt et hu
        split at ht
        · rename_i hu2; exact ⟨kt, et, hu, hu2⟩
        · cases ht
      · cases ht
    obtain ⟨es', clk', hrun, hks⟩ := run_mapSet ho hu1 hu2 h5 h6 hev hn hn2
    have hgl : g < w.heap.size := (Array.getElem?_eq_some_iff.1 h5).1
    have hmine : mine g := (h.sim.lt r g (by rw [h4]; simp)).2
    have he : a.eval = evalT a.tmps := funext (evalT_eq a)
    unfold Oper.wp
    rw [he, hrun, Oper.upon_skip]
    refine ⟨put_defers .., by rw [putT_eq, putT_size], fun _ hd => by rw [putT_eq]; exact putT_pin hd, ⟨rfl, rfl, rfl, by simp, fun k hk hm => ?_⟩, ?_⟩
    · have : k ≠ g := fun hh => hm (hh ▸ hmine)
      simp [Ne.symm this]
    · rw [putT_eq, hd]
      refine ⟨_, fp, hk3, ?_⟩
      exact (h.sim.mapWrite h1 h3 h4 hgl hks).weak (fun _ h => .inl h) (fun _ h => .inl h)
  · cases hk2
theorem mapIs_spec {t : TypeId} (ht : mapIs P t = true) : ∃ kt et, P.underlying t = some (.map kt et) ∧ P.underlying kt = some (.int .i64) := by
  unfold mapIs at ht
  split at ht
  · rename_i kt et hu
    split at ht
    · rename_i hu2; exact ⟨kt, et, hu, hu2⟩
    · cases ht
  · cases ht
theorem op_mlen (h : Here ok0 mine u glob e a.tmps w fp st) {c : Orc} {t : TypeId} {m : Operand} {s r : Nat} (ho : o.op = .call ⟨.builtin .len, #[m], #[t]⟩) (hm : okX m (.t s) = true) (ht : mapIs P t = true)
    (hk : opK c glob st o.dst (.mlen s r) e k = some res) : o.wp P a w (OpPost ok0 mine u e st k res o.dst a w) Q := by
  have hms : m = .tmp s := by cases m <;> simp [okX] at hm; rw [hm]
  simp only [opK] at hk
  obtain ⟨id, kv, g, clk, es, hk1, h1, h2, h3, h4, h5, h6⟩ := h.sim.mapAt hk
  have hev : evalT a.tmps m = .map (some g) := by rw [hms]; simpa [evalT] using h2
  obtain ⟨kt, et, hu1, hu2⟩ := mapIs_spec ht
  exact wp_val_same (run_lenMap ho hu1 h5 h6 hev) (h.found (.val (.one _ _ _ (.int _ _))) hk1)
theorem op_mget (h : Here ok0 mine u glob e a.tmps w fp st) {c : Orc} {t : TypeId} {m x : Operand} {s r : Nat} {x' : X} {b : Bool} (ho : o.op = .lookup t m x b) (hm : okX m (.t s) = true) (hx : okX x x' = true) (ht : mapVal P t = true)
    (hk : opK c glob st o.dst (.mget b s r x') e k = some res) : o.wp P a w (OpPost ok0 mine u e st k res o.dst a w) Q := by
  have hms : m = .tmp s := by cases m <;> simp [okX] at hm; rw [hm]
  simp only [opK] at hk
  obtain ⟨id, kv, g, clk, es, hk1, h1, h2, h3, h4, h5, h6⟩ := h.sim.mapAt hk
  obtain ⟨i, n, hk2, hn⟩ := peekInt_sound h.sim hx hk1
  split at hk2
  · rename_i hi
    subst hi
    have hev : evalT a.tmps m = .map (some g) := by rw [hms]; simpa [evalT] using h2
    obtain ⟨kt, et, hu1, hu2, hz⟩ := mapVal_spec ht
    have hr := run_mapGet ho hu1 hu2 hz h5 h6 hev hn
    cases b with
    | true => exact wp_val_same hr (h.found ⟨.tup _ _ _ (.put _ _ _ _ [] [] (.one _ _ _ (.int _ _)) (.put _ _ _ _ [] [] (.one _ _ _ (.bool _)) .nil (by simp)) (by simp)), trivial, fun _ h => (by cases h), ⟨fun _ _ _ h => (by cases h), fun _ _ _ h => (by cases h), fun _ _ h => (by cases h)⟩⟩ hk2)
    | false => exact wp_val_same hr (h.found (.val (.one _ _ _ (.int _ _))) hk2)
  · cases hk2
theorem op_mdel (h : Here ok0 mine u glob e a.tmps w fp st) {c : Orc} {t kt0 : TypeId} {m x : Operand} {s r : Nat} {x' : X} (ho : o.op = .call ⟨.builtin .delete, #[m, x], #[t, kt0]⟩) (hm : okX m (.t s) = true) (hx : okX x x' = true) (ht : mapIs P t = true) (hd : o.dst = none)
    (hk : opK c glob st o.dst (.mdel s r x') e k = some res) : o.wp P a w (OpPost ok0 mine u e st k res o.dst a w) Q := by
  have hms : m = .tmp s := by cases m <;> simp [okX] at hm; rw [hm]
  simp only [opK] at hk
  obtain ⟨id, kv, g, clk, es, hk1, h1, h2, h3, h4, h5, h6⟩ := h.sim.mapAt hk
  obtain ⟨i, n, hk2, hn⟩ := peekInt_sound h.sim hx hk1
  split at hk2
  · rename_i hi
    subst hi
    have hev : evalT a.tmps m = .map (some g) := by rw [hms]; simpa [evalT] using h2
    obtain ⟨kt, et, hu1, hu2⟩ := mapIs_spec ht
    obtain ⟨es', hrun, hks⟩ := run_mapDel ho hu1 hu2 h5 h6 hev hn
    have hgl : g < w.heap.size := (Array.getElem?_eq_some_iff.1 h5).1
    have hmine : mine g := (h.sim.lt r g (by rw [h4]; simp)).2
    have he : a.eval = evalT a.tmps := funext (evalT_eq a)
    unfold Oper.wp
    rw [he, hrun, Oper.upon_value]
    refine ⟨put_defers .., by rw [putT_eq, putT_size], fun _ hd => by rw [putT_eq]; exact putT_pin hd, ⟨rfl, rfl, rfl, by simp, fun k hk hm => ?_⟩, ?_⟩
    · have : k ≠ g := fun hh => hm (hh ▸ hmine)
      simp [Ne.symm this]
    · rw [putT_eq, hd]
      refine ⟨_, fp, hk2, ?_⟩
      exact (h.sim.mapWrite h1 h3 h4 hgl hks).weak (fun _ h => .inl h) (fun _ h => .inl h)
  · cases hk2
theorem op_load (h : Here ok0 mine u glob e a.tmps w fp st) {c : Orc} {t : TypeId} {x : Operand} {y : X} {agg : Bool} {n : Nat} (ho : o.op = .load t x) (ht : okTy P t agg n = true) (hx : okX x y = true) (hk : opK c glob st o.dst (.load agg n y) e k = some res) : o.wp P a w (OpPost ok0 mine u e st k res o.dst a w) Q := by
  simp only [opK] at hk
  obtain ⟨v, av, hk1, hl, hf⟩ := readAt_sound h.sim h.glob hx hk
  exact wp_val_same (run_load' ho ht hl) (h.found hf hk1)
theorem op_store (h : Here ok0 mine u glob e a.tmps w fp st) {c : Orc} {t : TypeId} {x y : Operand} {x' y' : X} {n : Nat} (ho : o.op = .store t x y) (hn : sizeIs P t n = true) (hx : okX x x' = true) (hy : okX y y' = true) (hd : o.dst = none)
    (hk : opK c glob st o.dst (.store n x' y') e k = some res) : o.wp P a w (OpPost ok0 mine u e st k res o.dst a w) Q := by
  obtain ⟨i, hi, rfl⟩ := sizeIs_spec hn
  simp only [opK] at hk
  obtain ⟨V, us, fp', hk1, ht, hv⟩ := take_sound h.sim h.new (Nat.le_refl _) (h.virt _ (Nat.le_refl _)) hy hk
  split at hk1
  · rename_i hl
    have hc := hv.cells
    have hlen := hc.length
    obtain ⟨us2, hk2, ⟨g, off, cur, E, fp2, hp, hg, hle, hmine, hs, hvirt, hq⟩⟩ := writeAt_sound ht.sim h.new (Nat.le_refl _) hx hc hk1
    have he : a.eval = evalT a.tmps := funext (evalT_eq a)
    unfold Oper.wp
    rw [he, run_store' ho hi (by rw [← hl, ← hlen]; simp) hp hg (by simpa using hle) hc.ones, Oper.upon_skip]
    refine ⟨put_defers .., by rw [putT_eq, putT_size], fun _ hd => by rw [putT_eq]; exact putT_pin hd, .setRow w hmine _, ?_⟩
    rw [putT_eq, hd]
    refine ⟨us ++ us2, fp2, hk2, ?_⟩
    rw [Env.app_append]
    exact hs.weak (fun _ h => .inl h) (fun _ h => h.elim id .inr)
  · cases hk1
theorem op_faddr (h : Here ok0 mine u glob e a.tmps w fp st) {c : Orc} {t : TypeId} {x : Operand} {y : X} {f off : Nat} (ho : o.op = .fieldAddr t x f) (hf : fieldIs P t f off = true) (hx : okX x y = true) (hk : opK c glob st o.dst (.faddr off y) e k = some res) :
    o.wp P a w (OpPost ok0 mine u e st k res o.dst a w) Q := by
  unfold fieldIs at hf
  split at hf
  · rename_i fs hu
    split at hf
    · rename_i fl hfl
      split at hf
      · rename_i i hi
        simp at hf
        obtain ⟨rfl, hz⟩ := hf
        simp only [opK] at hk
        obtain ⟨av, g, off, hk1, hp, hfo⟩ := offX_sound h.sim h.glob hx hk
        exact wp_val_same (run_faddr ho hu hfl hi hz hp) (h.found hfo hk1)
      · cases hf
    · cases hf
  · cases hf
theorem op_nc (h : Here ok0 mine u glob e a.tmps w fp st) {c : Orc} {x : Operand} {y : X} (ho : o.op = .nilCheck x ∨ o.op = .assign x) (hx : okX x y = true) (hk : opK c glob st o.dst (.nc y) e k = some res) :
    o.wp P a w (OpPost ok0 mine u e st k res o.dst a w) Q := by
  simp only [opK] at hk
  obtain ⟨av, g, off, hk1, hp, hfo⟩ := offX_sound h.sim h.glob hx hk
  have hr : (execOp (evalT a.tmps) o).run P w = .ok (.value (.pointer (some ⟨g, off, none⟩))) w := by
    rcases ho with ho | ho
    · unfold execOp; rw [ho]; simp [hp]
    · rw [run_assign ho, hp]
  exact wp_val_same hr (h.found hfo hk1)
theorem op_iaddr (h : Here ok0 mine u glob e a.tmps w fp st) {c : Orc} {t : TypeId} {x i : Operand} {y j : X} {e' : Nat} (ho : o.op = .indexAddr t x i) (hs : sliceIs P t e' = true) (hx : okX x y = true) (hi : okX i j = true) (hk : opK c glob st o.dst (.iaddr e' y j) e k = some res) :
    o.wp P a w (OpPost ok0 mine u e st k res o.dst a w) Q := by
  obtain ⟨el, ti, hu, hti, rfl⟩ := sliceIs_spec hs
  simp only [opK] at hk
  obtain ⟨ik, n, hk1, hn⟩ := peekInt_sound h.sim hi hk
  split at hk1
  · cases hk1
  · rename_i h0
    have main : ∀ {s : Nat} {r : Option Nat}, x = .tmp s → iaddrS e s r ti.size n.toNat o.dst k = some res → o.wp P a w (OpPost ok0 mine u e st k res o.dst a w) Q := by
      intro s r hxs hk1
      obtain ⟨av, g, off, len, cap, hk2, hv, hlt, hf⟩ := iaddrS_sound h.sim hk1
      exact wp_val_same (run_iaddr ho hu hti hn (by rw [hxs]; exact hv) (by omega) (by omega)) (h.found hf hk2)
    cases y with
    | t s => cases x <;> simp [okX] at hx; subst hx; exact main rfl hk1
    | a s r => cases x <;> simp [okX] at hx; subst hx; exact main rfl hk1
    | _ => cases hk1
theorem op_aaddr (h : Here ok0 mine u glob e a.tmps w fp st) {c : Orc} {t : TypeId} {x i : Operand} {y j : X} {len e' : Nat} (ho : o.op = .indexAddr t x i) (hs : arrayIs P t len e' = true) (hx : okX x y = true) (hi : okX i j = true)
    (hk : opK c glob st o.dst (.aaddr len e' y j) e k = some res) : o.wp P a w (OpPost ok0 mine u e st k res o.dst a w) Q := by
  unfold arrayIs at hs
  split at hs
  · rename_i m el hu
    simp at hs
    obtain ⟨rfl, hs⟩ := hs
    obtain ⟨ti, hti, rfl⟩ := sizeIs_spec hs
    simp only [opK] at hk
    obtain ⟨ik, n, hk1, hn⟩ := peekInt_sound h.sim hi hk
    split at hk1
    · rename_i h0
      obtain ⟨av, g, off, hk2, hp, hf⟩ := offX_sound h.sim h.glob hx hk1
      exact wp_val_same (run_aaddr ho hu hti hn hp h0.1 h0.2) (h.found hf hk2)
    · cases hk1
  · cases hs
theorem op_field (h : Here ok0 mine u glob e a.tmps w fp st) {c : Orc} {t : TypeId} {x : Operand} {y : X} {f off n : Nat} {agg : Bool} (ho : o.op = .field t x f) (hf : fieldGet P t f off agg n = true) (hx : okX x y = true) (hk : opK c glob st o.dst (.field agg off n y) e k = some res) :
    o.wp P a w (OpPost ok0 mine u e st k res o.dst a w) Q := by
  unfold fieldGet at hf
  split at hf
  · rename_i fs hu
    split at hf
    · rename_i fl hfl
      simp at hf
      obtain ⟨rfl, hty⟩ := hf
      obtain ⟨i, d, hi, rfl, hd, rfl⟩ := okTy_spec hty
      simp only [opK] at hk
      obtain ⟨V, hk1, hv⟩ := peek_sound h.sim hx hk
      unfold fieldV at hk1
      split at hk1
      · rename_i ds
        obtain ⟨vs, hvs, hr⟩ := hv.agg_inv
        obtain ⟨B', hr', hB⟩ := hr.drop fl.offset
        have hB0 : B' = [] := by cases B' with
          | nil => rfl
          | cons x _ => exact absurd (hB x (List.mem_cons_self ..)) (by simp)
        subst hB0
        have hlen := hr'.length
        unfold readV at hk1
        split at hk1
        · rename_i hagg
          split at hk1
          · rename_i hn
            have hplain : plainL ((ds.drop fl.offset).take i.size) = true ∨ plainL ((ds.drop fl.offset).take i.size) = false := by cases plainL ((ds.drop fl.offset).take i.size) <;> simp
            have h1 : ds.drop fl.offset = (ds.drop fl.offset).take i.size ++ (ds.drop fl.offset).drop i.size := (List.take_append_drop _ _).symm
            rw [h1] at hr'
            obtain ⟨B1, B2, hB12, g1, _, _⟩ := hr'.split
            have hB1 : B1 = [] := by cases B1 with
              | nil => rfl
              | cons => simp at hB12
            subst hB1
            have hlen2 : ((ds.drop fl.offset).take i.size).length = i.size := by simp at hn ⊢; omega
            rw [hlen2] at g1
            have hrun : (execOp (evalT a.tmps) o).run P w = .ok (.value (.agg ((vs.drop fl.offset).take i.size).toArray)) w := by
              refine run_field ho hu hfl hvs ?_
              simp only [part, Sem.run_bind, run_isAgg hd, hagg, Result.andThen_ok, if_true, run_sizeOf' hi, Sem.run_pure]
              congr 2
              apply Array.ext'
              simp [List.extract_eq_take_drop]
            split at hk1
            · exact wp_val_same hrun (h.found (.val (.agg _ _ _ g1)) hk1)
            · exact wp_val_same hrun (h.found (.dead _) hk1)
          · cases hk1
        · rename_i hagg
          have hrun : ∀ v vs', vs.drop fl.offset = v :: vs' → (execOp (evalT a.tmps) o).run P w = .ok (.value v) w := by
            intro v vs' hvd
            refine run_field ho hu hfl hvs ?_
            have hv0 : vs[fl.offset]? = some v := by
              have := congrArg (fun l => l[0]?) hvd
              simpa using this
            simp [part, run_isAgg hd, hagg, hv0]
          split at hk1
          · rename_i hds
            cases hvd : vs.drop fl.offset with
            | nil => rw [hvd, hds] at hlen; simp at hlen
            | cons v vs' => exact wp_val_same (hrun v vs' hvd) (h.found (.dead _) hk1)
          · rename_i d' ds' hnd hds
            cases hvd : vs.drop fl.offset with
            | nil => rw [hvd, hds] at hlen; simp at hlen
            | cons v vs' =>
              rw [hvd, hds] at hr'
              obtain ⟨B1, B2, hB12, g1, _, _⟩ := hr'.cons_inv
              have hB1 : B1 = [] := by cases B1 with
                | nil => rfl
                | cons => simp at hB12
              subst hB1
              exact wp_val_same (hrun v vs' hvd) (h.found (.val (.one _ _ _ g1)) hk1)
          · cases hk1
      · cases hk1
    · cases hf
  · cases hf
end
end Go.Abs
set_option linter.unusedVariables false
set_option linter.unusedSimpArgs false
namespace Go.Abs
open Go

section
variable {R : Type} {ok0 mine u : Nat → Prop} {e : Env} {w w' : World} {fp : Nat → List Nat} {st q : Nat} {res : R} {glob : Nat → List D} {P : Program} {o : Oper} {a : Act} {k : Upd → Option R} {Q : Exit → Act → World → Prop}

theorem op_scalar (h : Here ok0 mine u glob e a.tmps w fp st) {d : D} {v : Value} (hr : (execOp (evalT a.tmps) o).run P w = .ok (.value v) w) (hv : Rd (fun _ => False) w v d []) (hk : k (outU [] o.dst (.val (.one d))) = some res) :
    o.wp P a w (OpPost ok0 mine u e st k res o.dst a w) Q :=
  wp_val_same hr (h.found (.val (.one _ _ _ (hv.step (fun _ _ h => h.elim) fun _ _ _ => rfl))) hk)
theorem op_bin (h : Here ok0 mine u glob e a.tmps w fp st) {c : Orc} {op : BinOp} {t yt : TypeId} {x y : Operand} {x' y' : X} (ho : o.op = .binOp op t x y yt) (hx : okX x x' = true) (hy : okX y y' = true) (hk : opK c glob st o.dst (.bin op x' y') e k = some res) :
    o.wp P a w (OpPost ok0 mine u e st k res o.dst a w) Q := by
  simp only [opK] at hk
  obtain ⟨V, hk1, hv⟩ := peek_sound h.sim hx hk
  obtain ⟨U, hk2, hu⟩ := peek_sound h.sim hy hk1
  obtain ⟨d, v, hk3, hg, hb, hr⟩ := binV_sound (P := P) hk2 hv hu t x y
  exact op_scalar h (run_binOp ho hg hb) hr hk3
theorem op_beq (h : Here ok0 mine u glob e a.tmps w fp st) {c : Orc} {op : BinOp} {neg : Bool} {t yt : TypeId} {x y : Operand} {x' y' : X} (ho : o.op = .binOp op t x y yt) (hop : op = if neg then .neq else .eql) (ht : undIs P t isBoolT = true) (hx : okX x x' = true) (hy : okX y y' = true) (hk : opK c glob st o.dst (.beq neg x' y') e k = some res) :
    o.wp P a w (OpPost ok0 mine u e st k res o.dst a w) Q := by
  obtain ⟨td, htd, hb⟩ := undIs_spec ht
  have : td = .bool := by cases td <;> simp [isBoolT] at hb; rfl
  subst this
  simp only [opK] at hk
  obtain ⟨V, hk1, hv⟩ := peek_sound h.sim hx hk
  obtain ⟨U, hk2, hu⟩ := peek_sound h.sim hy hk1
  obtain ⟨d, v, hk3, hg, hb, hr⟩ := beqV_sound (P := P) hop hk2 hv hu htd x y
  exact op_scalar h (run_binOp ho hg hb) hr hk3
theorem op_un (h : Here ok0 mine u glob e a.tmps w fp st) {c : Orc} {op : UnOp} {t : TypeId} {x : Operand} {x' : X} (ho : o.op = .unOp op t x) (hx : okX x x' = true) (hk : opK c glob st o.dst (.un op x') e k = some res) :
    o.wp P a w (OpPost ok0 mine u e st k res o.dst a w) Q := by
  simp only [opK] at hk
  obtain ⟨V, hk1, hv⟩ := peek_sound h.sim hx hk
  obtain ⟨d, v, hk3, hb, hr⟩ := unV_sound (P := P) hk1 hv
  exact op_scalar h (run_un ho hb) hr hk3
theorem op_conv (h : Here ok0 mine u glob e a.tmps w fp st) {c : Orc} {s d : TypeId} {i : IntKind} {x : Operand} {x' : X} (ho : o.op = .convert s d x) (hs : (P.underlying s).isSome = true) (hd : undIs P d (isInt i) = true) (hx : okX x x' = true) (hk : opK c glob st o.dst (.conv i x') e k = some res) :
    o.wp P a w (OpPost ok0 mine u e st k res o.dst a w) Q := by
  obtain ⟨td, htd, hb⟩ := undIs_spec hd
  have : td = .int i := by cases td <;> simp [isInt] at hb; rw [hb]
  subst this
  obtain ⟨sd, hsd⟩ := Option.isSome_iff_exists.1 hs
  simp only [opK] at hk
  obtain ⟨ik, n, hk1, hn⟩ := peekInt_sound h.sim hx hk
  exact op_scalar h (run_conv ho hsd htd hn) (.int _ _) hk1
theorem op_len (h : Here ok0 mine u glob e a.tmps w fp st) {c : Orc} {t el : TypeId} {x : Operand} {x' : X} (ho : o.op = .call ⟨.builtin .len, #[x], #[t]⟩) (hu : P.underlying t = some (.slice el)) (hx : okX x x' = true) (hk : opK c glob st o.dst (.len x') e k = some res) :
    o.wp P a w (OpPost ok0 mine u e st k res o.dst a w) Q := by
  simp only [opK] at hk
  obtain ⟨n, ad, cap, hk1, hv, _⟩ := lenOf_sound h.sim hx hk
  exact op_scalar h (run_lenSlice ho hu hv) (.int _ _) hk1
theorem op_bstr (h : Here ok0 mine u glob e a.tmps w fp st) {c : Orc} {s d el : TypeId} {x : Operand} {y : Nat} (ho : o.op = .convert s d x) (hx : okX x (.t y) = true) (hd : undIs P d isStr = true) (hs : P.underlying s = some (.slice el)) (he : P.underlying el = some (.int .u8)) (hk : opK c glob st o.dst (.bstr y) e k = some res) :
    o.wp P a w (OpPost ok0 mine u e st k res o.dst a w) Q := by
  obtain ⟨td, htd, hb⟩ := undIs_spec hd
  have : td = .string := by cases td <;> simp [isStr] at hb; rfl
  subst this
  have hxs : x = .tmp y := by cases x <;> simp [okX] at hx; rw [hx]
  subst hxs
  simp only [opK] at hk
  split at hk
  · rename_i id n hav
    obtain ⟨v, hv1, hv2⟩ := h.sim.slot (s := y) (by rw [hav]; simp)
    have hr := h.sim.rel y v hv1
    rw [hav] at hr
    have hr2 := hr.own_inv
    generalize fp y = B at hr2
    cases hr2 with
    | own g n1 cap _ cur E _ B he1 hn hp hc hm hg hsz hrd hB =>
      have hn1 : n1 = 1 := by simpa using hn
      subst hn1
      have hcell : cur.toList.take 1 = [.int .u8 n] := by
        have h1 : (cur.toList.take (1 * 1)).length = 1 := by rw [hrd.length]; rfl
        match hcl : cur.toList.take (1 * 1), h1 with
        | [z], _ =>
          rw [hcl] at hrd
          have := hrd.single
          generalize hB2 : B = B2 at this
          cases this
          simp
      have hload : (loadCells ⟨g, 0, none⟩ 1).run P w = .ok (([n].map (Value.int .u8)).toArray) w := by
        have h0 : w.cell? ⟨g, 0, none⟩ = some (.int .u8 n) := by
          rw [cell_of_row w g 0 cur E (0, 0) hg]
          have : (cur.toList.take 1)[0]? = some (.int .u8 n) := by rw [hcell]; rfl
          simpa using this
        have := run_loadCells_list (P := P) w ⟨g, 0, none⟩ [.int .u8 n] (fun j u hj => by
          cases j with
          | zero => simp at hj; subst hj; rw [addr_add]; exact h0
          | succ j => simp at hj)
        simpa using this
      refine op_scalar h ?_ (.str _) hk
      unfold execOp; rw [ho]
      refine exec_val ?_
      rw [show evalT a.tmps (.tmp y) = a.tmps.getD y undef from rfl, hv2, run_convert_bytes_string w s d el _ 1 cap hs he htd, run_bytesToString w _ 1 cap [n] hload]
      rfl
  · cases hk
theorem op_isnil (h : Here ok0 mine u glob e a.tmps w fp st) {c : Orc} {t yt el : TypeId} {n' c' : Nat} {x : Operand} {x' : X} (ho : o.op = .binOp .eql t x (.const (.slice none n' c')) yt) (hu : P.underlying t = some (.slice el)) (hx : okX x x' = true) (hk : opK c glob st o.dst (.isnil x') e k = some res) :
    o.wp P a w (OpPost ok0 mine u e st k res o.dst a w) Q := by
  simp only [opK] at hk
  obtain ⟨n, ad, cap, hk1, hv, hn⟩ := lenOf_sound h.sim hx hk
  have hr : (execOp (evalT a.tmps) o).run P w = .ok (.value (.bool ad.isNone)) w := by
    refine run_binOp ho ?_ ?_
    · rw [hv]; simp [eqGuard, evalT]
    · rw [hv]; exact Go.Lib.run_eql_slice_nil w t el ad n cap n' c' hu
  unfold nilV at hk1
  split at hk1
  · exact wp_val_same hr (h.found (av := .someb) ⟨.someb _, trivial, fun _ h => (by cases h), ⟨fun _ _ _ h => (by cases h), fun _ _ _ h => (by cases h), fun _ _ h => (by cases h)⟩⟩ hk1)
  · rename_i h0
    have h1 : ad.isNone = false := by
      have := hn (by intro hh; apply h0; rw [hh]; rfl)
      cases ad with
      | none => cases this
      | some _ => rfl
    rw [h1] at hr
    exact op_scalar h hr (.bool _) hk1
theorem op_slen (h : Here ok0 mine u glob e a.tmps w fp st) {c : Orc} {t : TypeId} {x : Operand} {x' : X} (ho : o.op = .call ⟨.builtin .len, #[x], #[t]⟩) (hu : undIs P t isStr = true) (hx : okX x x' = true) (hk : opK c glob st o.dst (.slen x') e k = some res) :
    o.wp P a w (OpPost ok0 mine u e st k res o.dst a w) Q := by
  obtain ⟨td, htd, hb⟩ := undIs_spec hu
  have : td = .string := by cases td <;> simp [isStr] at hb; rfl
  subst this
  simp only [opK] at hk
  obtain ⟨V, hk1, hv⟩ := peek_sound h.sim hx hk
  unfold slenV at hk1
  split at hk1
  · have h1 := hv.one_inv
    cases hve : evalT a.tmps x <;> rw [hve] at h1 <;> cases h1
    exact op_scalar h (run_lenString ho htd hve) (.int _ _) hk1
  · cases hk1
theorem op_ssub (h : Here ok0 mine u glob e a.tmps w fp st) {c : Orc} {t : TypeId} {x : Operand} {lo hi : Option Operand} {y : X} {l' h' : Option X} (ho : o.op = .slice t x lo hi none) (hs : undIs P t isStr = true) (hx : okX x y = true) (hl : okO lo l' = true) (hh : okO hi h' = true)
    (hk : opK c glob st o.dst (.ssub y l' h') e k = some res) : o.wp P a w (OpPost ok0 mine u e st k res o.dst a w) Q := by
  obtain ⟨td, htd, hb⟩ := undIs_spec hs
  have : td = .string := by cases td <;> simp [isStr] at hb; rfl
  subst this
  simp only [opK] at hk
  obtain ⟨V, hk1, hv⟩ := peek_sound h.sim hx hk
  obtain ⟨n1, hk2, b1⟩ := peekO_sound (d := 0) h.sim hl hk1
  have main : ∀ s, V = .one (.str s) → o.wp P a w (OpPost ok0 mine u e st k res o.dst a w) Q := by
    rintro s rfl
    obtain ⟨n2, hk3, b2⟩ := peekO_sound (d := s.size) h.sim hh hk2
    unfold ssubK at hk3
    simp only at hk3
    split at hk3
    · rename_i hc
      obtain ⟨c1, c2, c3⟩ := hc
      have h1 := hv.one_inv
      cases hve : evalT a.tmps x <;> rw [hve] at h1 <;> cases h1
      exact op_scalar h (run_ssub ho htd hve (b1 n1.toNat (by omega)) (b2 n2.toNat (by omega)) (by omega) (by omega)) (.str _) hk3
    · cases hk3
  have other : (∀ s, V ≠ .one (.str s)) → False := by
    intro hne
    have hn : ∀ (a b : Int), ssubK V a b (fun d => k (outU [] o.dst (.val (.one d)))) = none := by
      intro a b
      unfold ssubK
      split
      · exact absurd rfl (hne _)
      · rfl
    simp only [hn] at hk2
    cases h' with
    | none => cases hk2
    | some y2 =>
      cases hi with
      | none => cases hh
      | some z =>
        obtain ⟨_, n2, h3, _⟩ := peekInt_sound h.sim (show okX z y2 = true from hh) (by simpa only [peekO] using hk2)
        cases h3
  cases V with
  | agg ds => exact (other fun s hs => by cases hs).elim
  | mapv kv => exact (other fun s hs => by cases hs).elim
  | one d => cases d with
    | str s => exact main s rfl
    | _ => exact (other fun s hs => by cases hs).elim
theorem op_errq (h : Here ok0 mine u glob e a.tmps w fp st) {c : Orc} {t yt : TypeId} {ms : Array (String × TypeId)} {neg : Bool} {x : Operand} {x' : X} (ho : o.op = .binOp (if neg = true then .neq else .eql) t x (.const .nilIface) yt) (hu : P.underlying t = some (.interface ms)) (hx : okX x x' = true)
    (hk : opK c glob st o.dst (.errq neg x') e k = some res) : o.wp P a w (OpPost ok0 mine u e st k res o.dst a w) Q := by
  simp only [opK] at hk
  obtain ⟨V, hk1, hv⟩ := peek_sound h.sim hx hk
  have hm : P.underlying t = some (.interface (P.methodsAt t)) := by simp [Program.methodsAt, hu]
  unfold errK at hk1
  split at hk1
  · rename_i b
    have h1 := hv.one_inv
    have hb : errB (evalT a.tmps x) = some b := by
      generalize evalT a.tmps x = z at h1
      cases h1; assumption
    refine op_scalar h (run_binOp ho ?_ ?_) (.bool _) hk1
    · show (eqGuard _ _ _ _ _ (evalT a.tmps (.const .nilIface))).run P w = _
      cases hve : evalT a.tmps x <;> rw [hve] at hb <;> first | (cases hb; done) | skip
      all_goals cases neg <;> cases x <;> simp [eqGuard, evalT]
    · show (binOp _ _ _ (evalT a.tmps (.const .nilIface))).run P w = _
      cases hve : evalT a.tmps x <;> rw [hve] at hb <;> first | (cases hb; done) | skip
      all_goals (simp only [errB, Option.some.injEq] at hb; subst hb)
      all_goals cases neg
      all_goals first | (simp only [evalT, Bool.false_eq_true, if_false, if_true, Bool.not_true, Bool.not_false]; first | exact run_eql_held_nil w _ _ _ hm | exact run_neq_held_nil w _ _ _ hm | exact run_eql_nil_nil w _ hm | exact run_neq_nil_nil w _ hm)
  · cases hk1
theorem op_mm (h : Here ok0 mine u glob e a.tmps w fp st) {c : Orc} {mx : Bool} {ts : Array TypeId} {x y : Operand} {x' y' : X} (ho : o.op = .call ⟨.builtin (match mx with | true => .max | false => .min), #[x, y], ts⟩) (hx : okX x x' = true) (hy : okX y y' = true) (hk : opK c glob st o.dst (.mm mx x' y') e k = some res) :
    o.wp P a w (OpPost ok0 mine u e st k res o.dst a w) Q := by
  simp only [opK] at hk
  obtain ⟨i, n, hk1, hn⟩ := peekInt_sound h.sim hx hk
  obtain ⟨j, m, hk2, hm⟩ := peekInt_sound h.sim hy hk1
  split at hk2
  · rename_i hij
    subst hij
    cases mx with
    | true => exact op_scalar h (run_max ho hn hm) (.int _ _) hk2
    | false => exact op_scalar h (run_min ho hn hm) (.int _ _) hk2
  · cases hk2
theorem byte_at {s : ByteArray} {n : Nat} {b : UInt8} (h : s.data.toList[n]? = some b) : s[n]? = some b := by
  have h1 : n < s.data.toList.length := (List.getElem?_eq_some_iff.1 h).1
  have h2 : n < s.size := by simpa using h1
  have h3 := (List.getElem?_eq_some_iff.1 h).2
  rw [getElem?_pos s n h2, ← h3]
  simp
  rfl
theorem op_sidx (h : Here ok0 mine u glob e a.tmps w fp st) {c : Orc} {t : TypeId} {x i : Operand} {x' j : X} (ho : o.op = .index t x i) (hu : undIs P t isStr = true) (hx : okX x x' = true) (hi : okX i j = true) (hk : opK c glob st o.dst (.sidx x' j) e k = some res) :
    o.wp P a w (OpPost ok0 mine u e st k res o.dst a w) Q := by
  obtain ⟨td, htd, hb⟩ := undIs_spec hu
  have : td = .string := by cases td <;> simp [isStr] at hb; rfl
  subst this
  simp only [opK] at hk
  obtain ⟨ik, n, hk1, hn⟩ := peekInt_sound h.sim hi hk
  split at hk1
  · cases hk1
  · rename_i h0
    obtain ⟨V, hk2, hv⟩ := peek_sound h.sim hx hk1
    unfold strAt at hk2
    split at hk2
    · rename_i s
      have h1 := hv.one_inv
      cases hve : evalT a.tmps x <;> rw [hve] at h1 <;> cases h1
      unfold byteK at hk2
      split at hk2
      · rename_i b hbyte
        refine op_scalar h (run_sidx ho htd hve hn (by omega) ?_) (.int _ _) hk2
        exact byte_at hbyte
      · cases hk2
    · cases hk2
theorem extractP_sound {tmps : Array Value} (h : Here ok0 mine u glob e tmps w fp st) {s i : Nat} {dst : Option Nat} (hk : extractP e s i dst k = some res) :
    ∃ vs v, tmps.getD s undef = .tuple vs ∧ vs[i]? = some v ∧ Done ok0 mine u e st k res (putT tmps dst v) w := by
  unfold extractP at hk
  split at hk
  · rename_i xs hs
    split at hk
    · rename_i d hd
      split at hk
      · rename_i hf
        obtain ⟨v, hv, hv'⟩ := h.sim.slot (s := s) (by rw [hs]; simp)
        have hr := h.sim.rel s v hv
        rw [hs] at hr
        generalize fp s = B0 at hr
        cases hr with
        | tup vs _ _ htr =>
          obtain ⟨v, B', _, hvi, hvr, _⟩ := htr.at hd
          refine ⟨_, v, hv', by simpa using hvi, h.found (.val ?_) hk⟩
          have h1 := hvr.one_inv
          cases d with
          | int k n => cases h1; exact .one _ _ _ (.int _ _)
          | bool b => cases h1; exact .one _ _ _ (.bool _)
          | str t => cases h1; exact .one _ _ _ (.str _)
          | err b => cases h1 with | err _ _ hb => exact .one _ _ _ (.err _ _ hb)
          | _ => simp [flatD] at hf
      · cases hk
    · cases hk
  · cases hk
theorem op_extract (h : Here ok0 mine u glob e a.tmps w fp st) {c : Orc} {x : Operand} {y : X} {j : Nat} (ho : o.op = .extract x j) (hx : okX x y = true) (hk : opK c glob st o.dst (.extract y j) e k = some res) :
    o.wp P a w (OpPost ok0 mine u e st k res o.dst a w) Q := by
  simp only [opK] at hk
  cases y with
  | t s =>
    cases x <;> simp [okX] at hx
    subst hx
    obtain ⟨vs, v, h1, h2, h3⟩ := extractS_sound h.sim h.new h.virt hk
    exact wp_val_same (run_extract ho h1 h2) h3
  | a s r =>
    cases x <;> simp [okX] at hx
    subst hx
    obtain ⟨vs, v, h1, h2, h3⟩ := extractS_sound h.sim h.new h.virt hk
    exact wp_val_same (run_extract ho h1 h2) h3
  | p s =>
    cases x <;> simp [okX] at hx
    subst hx
    obtain ⟨vs, v, h1, h2, h3⟩ := extractP_sound h hk
    exact wp_val_same (run_extract ho h1 h2) h3
  | _ => cases hk
theorem op_mkf (h : Here ok0 mine u glob e a.tmps w fp st) {c : Orc} {f : FuncId} {first cs : Array Operand} {xs : List X} (ho : o.op = .makeFunc (.func f) first cs) (hf : first.size = 0) (hx : okXs cs.toList xs = true) (hk : opK c glob st o.dst (.mkf f xs) e k = some res) :
    o.wp P a w (OpPost ok0 mine u e st k res o.dst a w) Q := by
  have : first = #[] := Array.eq_empty_of_size_eq_zero hf
  subst this
  refine wp_val_same (run_mkf ho) ?_
  simp only [opK] at hk
  obtain ⟨dss, us, fp', hk1, hs, hvirt, hl, hrp, hok⟩ := caps_sound h.sim h.mok hx hk
  simp only [List.reverse_nil, List.nil_append] at hk1
  have e1 : Array.map (evalT a.tmps) cs = (cs.toList.map (evalT a.tmps)).toArray := by apply Array.ext'; simp
  rw [e1]
  refine (hs.weak (fun _ h => h) fun _ h => .inl h).taken_done (q := a.tmps.size) h.new (Nat.le_refl _) (v := .func (.func f) #[] (cs.toList.map (evalT a.tmps)).toArray) (av := .clo f dss) ?_ rfl rfl trivial trivial hk1
  rw [hvirt _ (Nat.le_refl _), h.virt _ (Nat.le_refl _)]
  exact .clo f _ dss hl hrp

theorem Row.len {ok : Nat → Prop} {vs : List Value} {xs : List V} (h : Row ok w fp q vs xs) : vs.length = xs.length := by
  induction h with
  | nil => rfl
  | cons _ _ _ _ _ _ _ ih => simp [ih]
theorem op_build (h : Here ok0 mine u glob e a.tmps w fp st) {c : Orc} {t : TypeId} {parts : Array (Nat × Operand)} {z : List D} {ps : List (Nat × Nat × X)} (ho : o.op = .build t parts) (hz : zeroIs P t z = true) (hx : okXs (parts.toList.map (·.2)) (ps.map (·.2.2)) = true)
    (hp : partsIs P t (parts.toList.map (·.1)) (ps.map fun p => (p.1, p.2.1)) = true) (hk : opK c glob st o.dst (.build z ps) e k = some res) : o.wp P a w (OpPost ok0 mine u e st k res o.dst a w) Q := by
  obtain ⟨i, zv, hi, hzv, hzc⟩ := zeroIs_spec hz
  simp only [opK] at hk
  obtain ⟨Vs, us, fp', hk1, hs, hrow, hlow, hhigh, hok⟩ := takes_sound (h.sim'.weak (fun _ h => h) fun _ h => h) h.new (Nat.le_refl _) h.virt (.inr rfl) hx hk
  simp only [List.reverse_nil, List.nil_append] at hk1
  unfold onSome at hk1
  split at hk1
  · rename_i ds hds
    have hlen : (ps.map fun p => (p.1, p.2.1)).length = ((parts.toList.map (·.2)).map (evalT a.tmps)).length := by
      have h1 := hrow.len
      have h2 : ∀ {z : List D} {ps : List (Nat × Nat)} {vs : List V} {ds : List D}, fillCells z ps vs = some ds → ps.length = vs.length := by
        intro z ps
        induction ps generalizing z with
        | nil => intro vs ds h; cases vs <;> simp [fillCells] at h ⊢
        | cons p ps ih =>
          intro vs ds h
          cases vs with
          | nil => simp [fillCells] at h
          | cons v vs =>
            simp only [fillCells] at h
            split at h
            · simp [ih h]
            · cases h
      rw [h2 hds, ← h1]
    have main : ∀ place : Nat → Option (Nat × Nat), (parts.toList.map (·.1)).map place = (ps.map fun p => (p.1, p.2.1)).map some →
        (∀ cells, Instr.fill place zv.cells (parts.toList.map fun p => (p.1, evalT a.tmps p.2)) = some cells → (execOp (evalT a.tmps) o).run P w = .ok (.value (.agg cells)) w) →
        o.wp P a w (OpPost ok0 mine u e st k res o.dst a w) Q := by
      intro place hpl hrun
      obtain ⟨cells, B', hf, hr, hB⟩ := fill_sound (ok := okOf ok0 fp') hs.disj (place := place) _ (parts.toList.map (·.1)) _ Vs a.tmps.size zv.cells z [] ds hrow hlen hpl (constL_rd hzc) (by simp) hds
      have e1 : (parts.toList.map (·.1)).zip ((parts.toList.map (·.2)).map (evalT a.tmps)) = parts.toList.map fun p => (p.1, evalT a.tmps p.2) := by
        rw [List.map_map, List.zip_map']; rfl
      rw [e1] at hf
      obtain ⟨fp2, g1, g2, g3⟩ := hs.gather (B := B') fun b hb => by
        rcases hB b hb with hh | ⟨s, hs1, _, hs2⟩
        · cases hh
        · exact ⟨s, hs1, hs2⟩
      refine wp_val_same (hrun cells hf) (g1.taken_done (av := .val (.agg ds)) h.new (Nat.le_refl _) ?_ rfl rfl trivial trivial hk1)
      rw [g2]
      have h5 := VR.agg (w := w) _ _ _ (hr.step (ok' := okOf ok0 fp2) (fun k _ => g3 k) fun _ _ _ => rfl)
      exact .val _ _ _ (by simpa using h5)
    unfold partsIs at hp
    split at hp
    · rename_i fs hu
      simp only [Bool.and_eq_true, beq_iff_eq] at hp
      exact main ((placesOf P fs)[·]?) hp.2 fun cells hf => run_buildS ho hi hzv hu hp.1 hf
    · rename_i n el hu
      split at hp
      · rename_i ie hie
        have hp := eq_of_beq hp
        exact main (fun j => some (j * ie.size, ie.size)) (by rw [← hp]; simp) fun cells hf => run_buildA ho hi hzv hu hie hf
      · cases hp
    · cases hp
  · cases hk1
end
end Go.Abs
set_option linter.unusedVariables false
set_option linter.unusedSimpArgs false
namespace Go.Abs
open Go

section
variable {R : Type} {ok0 mine u : Nat → Prop} {e : Env} {w w' : World} {fp : Nat → List Nat} {st q : Nat} {res : R} {glob : Nat → List D} {P : Program} {o : Oper} {a : Act} {k : Upd → Option R} {Q : Exit → Act → World → Prop}

/-- A new slice. -/
theorem own_new {ok : Nat → Prop} {cells : Array Value} {el : TypeId} {n e' : Nat} {rows : List (List D)} {B : List Nat} (hr : RdL (fun k => ok k ∧ k < w.heap.size) w cells.toList rows.flatten B) (hl : rows.length = n) (he : ∀ r ∈ rows, r.length = e') (hn : n ≤ maxLen) :
    ∃ B', Rd (fun k => ok k ∧ k < w.heap.size) (w.alloc (.cells cells el)) (.slice (some ⟨w.heap.size, 0, none⟩) n n) (.list true e' rows) B' ∧ ∀ b ∈ B', b ∈ B ∨ (w.heap.size ≤ b ∧ b < (w.alloc (.cells cells el)).heap.size) := by
  by_cases h0 : n = 0
  · subst h0
    have : rows = [] := List.eq_nil_of_length_eq_zero hl
    subst this
    exact ⟨[], .empty _ _ _, by simp⟩
  · have hsize : cells.size = n * e' := by
      have := hr.length
      rw [flat_len he, hl] at this
      simpa using this
    refine ⟨w.heap.size :: B, .own w.heap.size n n e' cells el rows B he hl.symm trivial (Nat.le_refl _) hn (heap_alloc_new w _) hsize ?_ fun hh => absurd (hr.lt _ hh) (Nat.lt_irrefl _), fun b hb => ?_⟩
    · rw [List.take_of_length_le (by simp [hsize])]
      exact hr.step (fun _ _ h => h) fun k hk _ => heap_alloc_old w _ k hk
    · rcases List.mem_cons.1 hb with rfl | hb
      · exact .inr ⟨Nat.le_refl _, by simp⟩
      · exact .inl hb
theorem op_mslice (h : Here ok0 mine u glob e a.tmps w fp st) {c : Orc} {t : TypeId} {x x2 : Operand} {y : X} {e' : Nat} {z : List D} (ho : o.op = .makeSlice t x x2) (hs : sliceOwn P t e' = true) (hz : (match P.underlying t with | some (.slice el) => zeroIs P el z | _ => false) = true) (hx : okX x y = true) (hx2 : okX x2 y = true)
    (hk : opK c glob st o.dst (.mslice e' z y) e k = some res) : o.wp P a w (OpPost ok0 mine u e st k res o.dst a w) Q := by
  obtain ⟨el, i, zv, hu, hi, hzv, rfl, hzs, hby⟩ := sliceOwn_spec hs
  rw [hu] at hz
  obtain ⟨i', zv', hi', hzv', hzc⟩ := zeroIs_spec hz
  obtain rfl : i = i' := by rw [hi] at hi'; exact Option.some.inj hi'
  obtain rfl : zv = zv' := by rw [hzv] at hzv'; exact Option.some.inj hzv'
  simp only [opK] at hk
  obtain ⟨ik, n, hk1, hn⟩ := peekInt_sound h.sim hx hk
  have hn2 : evalT a.tmps x2 = .int ik n := by
    obtain ⟨ik2, n2, hk2, hn2⟩ := peekInt_sound (R := IntKind × Int) (res := (ik, n)) (k := fun i n => some (i, n)) h.sim hx2 (by
      obtain ⟨ik3, n3, hk3, hn3⟩ := peekInt_sound (R := R) h.sim hx hk
      rw [hn] at hn3
      have hpk : ∃ p, peekInt e y (fun i n => some (i, n)) = some p := by
        unfold peekInt at hk ⊢
        cases y with
        | c d => simp only [peek] at hk ⊢; unfold intS at hk ⊢; split at hk <;> first | exact ⟨_, rfl⟩ | cases hk
        | t s => simp only [peek, peekS] at hk ⊢; split at hk <;> first | (cases hk; done) | (unfold intS at hk ⊢; split at hk <;> first | exact ⟨_, rfl⟩ | cases hk) | (split at hk <;> first | (unfold intS at hk; split at hk <;> first | (simp at *; done) | cases hk) | cases hk)
        | a s r => simp only [peek, peekS] at hk ⊢; split at hk <;> first | (cases hk; done) | (unfold intS at hk ⊢; split at hk <;> first | exact ⟨_, rfl⟩ | cases hk) | (split at hk <;> first | (unfold intS at hk; split at hk <;> first | (simp at *; done) | cases hk) | cases hk)
        | p s => simp only [peek, peekS] at hk ⊢; split at hk <;> first | (cases hk; done) | (unfold intS at hk ⊢; split at hk <;> first | exact ⟨_, rfl⟩ | cases hk) | (split at hk <;> first | (unfold intS at hk; split at hk <;> first | (simp at *; done) | cases hk) | cases hk)
        | _ => cases hk
      obtain ⟨p, hp⟩ := hpk
      obtain ⟨i4, n4, hk4, hn4⟩ := peekInt_sound (R := IntKind × Int) (k := fun i n => some (i, n)) h.sim hx hp
      rw [hn] at hn4
      injection hn4 with h5 h6
      rw [hp, ← hk4, h5, h6])
    injection hk2 with h5
    injection h5 with h6 h7
    rw [hn2, h6, h7]
  split at hk1
  · rename_i h0
    have hrun := run_mslice (P := P) (w := w) ho hu hi hzv hn hn2 h0.1 h0.2 hby
    refine wp_val hrun ?_
    have hm : (madeCells zv.cells (n.toNat * i.size)).toList = (List.replicate n.toNat zv.cells.toList).flatten := by rw [← hzs]; exact made_rows _ _
    have hr : RdL (fun k => okOf ok0 fp k ∧ k < w.heap.size) w (madeCells zv.cells (n.toNat * i.size)).toList (List.replicate n.toNat z).flatten [] := by
      rw [hm]; exact (constL_rd hzc).repeated _
    have hzl : z.length = i.size := by
      have := (constL_rd (ok := fun _ => True) (w := w) hzc).length
      rw [← this]; simpa using hzs
    obtain ⟨B', g1, g2⟩ := own_new (el := el) (n := n.toNat) (e' := i.size) hr (by simp) (fun r hr => by rw [(List.mem_replicate.1 hr).2]; exact hzl) (by simp only [maxLen]; omega)
    exact h.sim'.new_done (av := .own st i.size (List.replicate n.toNat z)) h.new (Nat.le_refl _) h.big rfl rfl (.inr rfl) rfl (.alloc _ _ _) (fun b hb => (g2 b hb).imp (fun h => by cases h) id) (.own _ _ _ _ _ g1) hk1
  · cases hk1
theorem op_bslice (h : Here ok0 mine u glob e a.tmps w fp st) {c : Orc} {t : TypeId} {n e' : Nat} {parts : Array (Nat × Operand)} {z : List D} {ps : List (Nat × X)} (ho : o.op = .buildSlice t n parts) (hx : okXs (parts.toList.map (·.2)) (ps.map (·.2)) = true)
    (hp : bsliceIs P t e' n z (parts.toList.map (·.1)) (ps.map (·.1)) = true) (hk : opK c glob st o.dst (.bslice e' n z ps) e k = some res) : o.wp P a w (OpPost ok0 mine u e st k res o.dst a w) Q := by
  unfold bsliceIs at hp
  split at hp
  · rename_i el hu
    simp only [Bool.and_eq_true, beq_iff_eq, decide_eq_true_eq] at hp
    obtain ⟨⟨⟨⟨hs, hz⟩, his⟩, hmax⟩, hzl⟩ := hp
    obtain ⟨i', hi', hsz⟩ := sizeIs_spec hs
    obtain ⟨i, zv, hi, hzv, hzc⟩ := zeroIs_spec hz
    obtain rfl : i = i' := by rw [hi] at hi'; exact Option.some.inj hi'
    subst hsz
    simp only [opK] at hk
    obtain ⟨Vs, us, fp', hk1, hsim, hrow, hlow, hhigh, hok⟩ := takes_sound (h.sim'.weak (fun _ h => h) fun _ h => h) h.new (Nat.le_refl _) h.virt (.inr rfl) hx hk
    simp only [List.reverse_nil, List.nil_append] at hk1
    unfold onSome at hk1
    split at hk1
    · rename_i ds hds
      have hzs : zv.cells.size = i.size := by
        have := (constL_rd (ok := fun _ => True) (w := w) hzc).length
        rw [← hzl, ← this]; simp
      have hlen : (ps.map fun p => (p.1 * i.size, i.size)).length = ((parts.toList.map (·.2)).map (evalT a.tmps)).length := by
        have := congrArg List.length his
        simp at this ⊢
        omega
      have hm : (madeCells zv.cells (n * i.size)).toList = (List.replicate n zv.cells.toList).flatten := by rw [← hzs]; exact made_rows _ _
      have hr0 : RdL (okOf ok0 fp') w (madeCells zv.cells (n * i.size)).toList (repl n z) [] := by
        rw [hm]; exact (constL_rd hzc).repeated _
      obtain ⟨cells, B', hf, hr, hB⟩ := fill_sound (ok := okOf ok0 fp') hsim.disj (place := fun j => some (j * i.size, i.size)) _ (parts.toList.map (·.1)) _ Vs a.tmps.size _ _ [] ds hrow hlen (by rw [his]; simp) hr0 (by simp) hds
      have e1 : (parts.toList.map (·.1)).zip ((parts.toList.map (·.2)).map (evalT a.tmps)) = parts.toList.map fun p => (p.1, evalT a.tmps p.2) := by
        rw [List.map_map, List.zip_map']; rfl
      rw [e1] at hf
      obtain ⟨fp2, g1, g2, g3⟩ := hsim.gather (B := B') fun b hb => by
        rcases hB b hb with hh | ⟨s, hs1, _, hs2⟩
        · cases hh
        · exact ⟨s, hs1, hs2⟩
      have hdl : ds.length = n * i.size := by rw [fillCells_length hds, repl_length, hzl]
      obtain ⟨r1, r2, r3⟩ := rowsOf_flat i.size n ds hdl
      have hr2 : RdL (fun k => okOf ok0 fp2 k ∧ k < w.heap.size) w cells.toList (rowsOf i.size n ds).flatten B' := by
        rw [r1]; exact (hr.step (ok' := okOf ok0 fp2) (fun k _ => g3 k) fun _ _ _ => rfl).here
      have hn0 : n ≤ maxLen := by have := hmax.2; simp only [maxLen]; omega
      obtain ⟨B2, k1, k2⟩ := own_new (el := el) hr2 r2 r3 hn0
      refine wp_val (run_bslice ho hu hi hzv hmax.1 hf) ?_
      exact g1.new_done (av := .own st i.size (rowsOf i.size n ds)) h.new (Nat.le_refl _) h.big rfl rfl (.inr rfl) rfl (.alloc _ _ _) (fun b hb => by rw [g2]; exact k2 b hb) (.own _ _ _ _ _ k1) hk1
    · cases hk1
  · cases hp
theorem Fr.mono {p q : Nat → Prop} (h : Fr p w w') (hpq : ∀ k, p k → q k) : Fr q w w' := ⟨h.os, h.tape, h.output, h.size, fun k hk hm => h.block k hk fun hh => hm (hpq k hh)⟩
theorem op_append (h : Here ok0 mine u glob e a.tmps w fp st) {c : Orc} {t : TypeId} {x y : Operand} {x' y' : X} {e' : Nat} (ho : o.op = .call ⟨.builtin .append, #[x, y], #[t, t]⟩) (hs : sliceOwn P t e' = true) (hx : okX x x' = true) (hy : okX y y' = true)
    (hk : opK c glob st o.dst (.append e' x' y') e k = some res) : o.wp P a w (OpPost ok0 mine u e st k res o.dst a w) Q := by
  obtain ⟨el, i, zv, hu, hi, hzv, hsz, hzs, hby⟩ := sliceOwn_spec hs
  simp only [opK] at hk
  obtain ⟨V, us, fp1, hk1, ht1, hv⟩ := take_sound (h.sim'.weak (fun _ h => h) fun _ h => h) h.new (Nat.le_refl _) (h.virt _ (Nat.le_refl _)) hx hk
  have hs1 : Sim ok0 mine u (fun k => u k ∨ k = st) (e.app us) a.tmps w fp1 := ht1.sim.weak (fun _ h => h) fun _ h => h.elim id .inr
  obtain ⟨U, us2, fp2, hk2, ht2, hv2⟩ := take_sound (q := a.tmps.size + 1) hs1 h.new (by omega) (by rw [ht1.virt _ (by omega) (by omega)]; exact h.virt _ (by omega)) hy hk1
  have hs2 : Sim ok0 mine u (fun k => u k ∨ k = st) (e.app (us ++ us2)) a.tmps w fp2 := by
    rw [Env.app_append]
    exact ht2.sim.weak (fun _ h => h) fun _ h => h.elim id .inr
  have e1 : fp2 a.tmps.size = fp1 a.tmps.size := ht2.virt _ (Nat.le_refl _) (by omega)
  unfold appendV at hk2
  split at hk2
  · rename_i w1 rows o2 w2 more
    split at hk2
    · rename_i hw
      obtain ⟨rfl, rfl⟩ := hw
      split at hk2
      · rename_i hb
        have r1 := (hv.ok_mono ht2.ok).one_inv.here
        have r2 := hv2.one_inv.here
        rw [← e1] at r1
        obtain ⟨v', w', B, hrun, hfr, hB, hr⟩ := run_appendD (P := P) (ty := o.type) hu hi hzv hsz hzs hby r1 r2 (fun b hb ho => ho.1.2 _ hb) (fun b hb hb' => hs2.disj _ _ b (by omega) hb hb') hb
        obtain ⟨fp3, g1, g2, g3⟩ := hs2.gather (B := fp2 a.tmps.size ++ fp2 (a.tmps.size + 1)) fun b hb => by
          rcases List.mem_append.1 hb with hb | hb
          · exact ⟨_, Nat.le_refl _, hb⟩
          · exact ⟨_, Nat.le_succ _, hb⟩
        refine wp_val (run_append' ho hrun) ?_
        have hr3 : Rd (fun k => okOf ok0 fp3 k ∧ k < w.heap.size) w' v' (.list true _ (rows ++ more)) B := hr.step (fun k _ hk => ⟨g3 k hk.1, hk.2⟩) fun _ _ _ => rfl
        exact g1.new_done (av := .own st _ (rows ++ more)) h.new (Nat.le_refl _) h.big rfl rfl (.inr rfl) rfl (hfr.mono fun k hk => by rw [g2]; exact List.mem_append_left _ hk)
          (fun b hb => by
            rcases hB b hb with hh | hh | hh
            · exact .inl (by rw [g2]; exact List.mem_append_left _ hh)
            · exact .inl (by rw [g2]; exact List.mem_append_right _ hh)
            · exact .inr hh) (.own _ _ _ _ _ hr3) hk2
      · cases hk2
    · cases hk2
  · cases hk2

/-- The end of a call. -/
theorem call_end {c : Orc} {f : FuncId} {args : Array Value} {w1 : World} (hr : (execOp (evalT a.tmps) o).run P w = .ok (.enter f args) w) (hc : Calls P f args w fun en w' => ∃ v, en = .returned v ∧ Fr mine w w' ∧ Done ok0 mine u e st k res (putT a.tmps o.dst v) w') :
    o.wp P a w (OpPost ok0 mine u e st k res o.dst a w) Q := by
  have he : a.eval = evalT a.tmps := funext (evalT_eq a)
  unfold Oper.wp
  rw [he, hr, Oper.upon_enter]
  refine hc.mono fun en w' hh => ?_
  obtain ⟨v, rfl, h1, h2⟩ := hh
  exact ⟨put_defers .., by rw [putT_eq, putT_size], fun _ hd => by rw [putT_eq]; exact putT_pin hd, h1, by rw [putT_eq]; exact h2⟩
theorem op_call (h : Here ok0 mine u glob e a.tmps w fp st) {c : Orc} (hc : ∀ f args r, c f args = some r → CallOK P f glob args r) {x : Operand} {args : Array Operand} {ts : Array TypeId} {f : FuncId} {as : List X} (ho : o.op = .call ⟨.value x, args, ts⟩) (hx : okX x (.f f) = true) (has : okXs args.toList as = true)
    (hk : opK c glob st o.dst (.call f as) e k = some res) : o.wp P a w (OpPost ok0 mine u e st k res o.dst a w) Q := by
  cases x <;> simp [okX] at hx
  subst hx
  simp only [opK] at hk
  obtain ⟨Vs, us, fp', hk1, hs, hrow, hlow, hok⟩ := movesOf_sound (h.sim'.weak (fun _ h => h) fun _ h => h) h.new (Nat.le_refl _) h.virt (.inr rfl) has hk
  simp only [List.reverse_nil, List.nil_append] at hk1
  have hs' : Sim ok0 mine u (fun k => u k ∨ k = st) (e.app us) a.tmps w fp' := hs
  obtain ⟨b, ds, hk2, hm1, hm2⟩ := argsOf_sound hs' h.mok has hrow rfl hk1
  simp only [List.reverse_nil, List.nil_append, Bool.false_or] at hk2
  obtain ⟨hent, hcall⟩ := hs'.called h.new h.big h.mok h.glob hm1 hm2 (fun r hr => hc _ _ r hr) hk2
  refine call_end (w1 := w) (c := c) (run_call (caps := #[]) ho rfl hent) ?_
  have e1 : args.map (evalT a.tmps) ++ #[] = (args.toList.map (evalT a.tmps)).toArray := by apply Array.ext'; simp
  rw [e1]
  exact hcall
theorem noM_nil {os : List Operand} {xs : List X} (h : noM xs = true) : ((os.zip xs).filterMap fun p => match p.2 with | .m _ _ => some (evalT a.tmps p.1) | _ => none) = [] := by
  induction xs generalizing os with
  | nil => cases os <;> rfl
  | cons x xs ih => cases os with
    | nil => rfl
    | cons o os => cases x <;> first | (simp [noM] at h; done) | (simp only [List.zip_cons_cons, List.filterMap_cons]; exact ih (by simpa [noM] using h))
theorem op_calli (h : Here ok0 mine u glob e a.tmps w fp st) {c : Orc} (hc : ∀ f args r, c f args = some r → CallOK P f glob args r) {x a0 : Operand} {args : Array Operand} {ts : Array TypeId} {f : FuncId} {s r : Nat} {os : List Operand} {as : List X} (ho : o.op = .call ⟨.value x, args, ts⟩) (hx : okX x (.f f) = true) (hargs : args.toList = a0 :: os) (ha0 : okX a0 (.t s) = true) (has : okXs os as = true) (hm : noM as = true)
    (hk : opK c glob st o.dst (.calli f s r as) e k = some res) : o.wp P a w (OpPost ok0 mine u e st k res o.dst a w) Q := by
  cases x <;> simp [okX] at hx
  subst hx
  have ha : a0 = .tmp s := by cases a0 <;> simp [okX] at ha0; rw [ha0]
  subst ha
  simp only [opK] at hk
  obtain ⟨V, mid, back, fp1, hk1, hs, hvirt, hV, hr, hback⟩ := lendS_sound (h.sim'.weak (fun _ h => h) fun _ h => h) h.new (.inr rfl) (Nat.le_refl _) (h.virt _ (Nat.le_refl _)) hk
  obtain ⟨b, ds, hk2, hm1, hm2⟩ := argsOf_sound hs h.mok has (q := a.tmps.size + 1) (.nil _) (noM_nil hm).symm hk1
  simp only [List.reverse_nil, List.nil_append, Bool.false_or] at hk2
  obtain ⟨hent, hcall⟩ := hs.calledI h.new h.big h.mok h.glob hr hV hm1 hm2 hback (fun r hr => hc _ _ r hr) hk2
  refine call_end (w1 := w) (c := c) (run_call (caps := #[]) ho rfl hent) ?_
  have e1 : args.map (evalT a.tmps) ++ #[] = (a.tmps.getD s undef :: os.map (evalT a.tmps)).toArray := by
    apply Array.ext'
    simp only [Array.append_empty, Array.toList_map, hargs, List.map_cons]
    rfl
  rw [e1]
  exact hcall
theorem op_callv (h : Here ok0 mine u glob e a.tmps w fp st) {c : Orc} (hc : ∀ f args r, c f args = some r → CallOK P f glob args r) {x : Operand} {args : Array Operand} {ts : Array TypeId} {y : X} {as : List X} (ho : o.op = .call ⟨.value x, args, ts⟩) (hx : okX x y = true) (has : okXs args.toList as = true)
    (hk : opK c glob st o.dst (.callv y as) e k = some res) : o.wp P a w (OpPost ok0 mine u e st k res o.dst a w) Q := by
  simp only [opK] at hk
  have main : ∀ {s : Nat}, x = .tmp s → callvS c e st s o.dst as k = some res → o.wp P a w (OpPost ok0 mine u e st k res o.dst a w) Q := by
    intro s hxs hk
    subst hxs
    unfold callvS at hk
    split at hk
    · rename_i f cs hcl
      obtain ⟨v, hv, hv'⟩ := h.sim.slot (s := s) (by rw [hcl]; simp)
      have hrel := h.sim.rel s v hv
      rw [hcl] at hrel
      generalize fp s = B0 at hrel
      cases hrel with
      | clo _ pv _ hl hrp =>
        obtain ⟨Vs, us, fp', hk1, hs, hrow, hlow, hok⟩ := movesOf_sound (h.sim'.weak (fun _ h => h) fun _ h => h) h.new (Nat.le_refl _) h.virt (.inr rfl) has hk
        simp only [List.reverse_nil, List.nil_append] at hk1
        have hs' : Sim ok0 mine u (fun k => u k ∨ k = st) (e.app us) a.tmps w fp' := hs
        obtain ⟨b, ds, hk2, hm1, hm2⟩ := argsOf_sound hs' h.mok has hrow rfl hk1
        simp only [List.reverse_nil, List.nil_append, Bool.false_or] at hk2
        have hrp' : ∀ (j : Nat) (p : Value) (c : List D), pv[j]? = some p → cs[j]? = some c → RP (okOf ok0 fp') w p c := fun j p c h1 h2 => (hrp j p c h1 h2).step (fun k _ => hok k) fun _ _ _ => rfl
        obtain ⟨hent, hcall⟩ := hs'.called h.new h.big h.mok h.glob (hm1.append hl fun j p c h1 h2 => (hrp' j p c h1 h2).step (fun k _ => okOf_lent) fun _ _ _ => rfl) (fun hb => (hm2 hb).append hl hrp') (fun r hr => hc _ _ r hr) hk2
        refine call_end (w1 := w) (c := c) (run_call (caps := pv.toArray) ho hv' hent) ?_
        have e1 : args.map (evalT a.tmps) ++ pv.toArray = (args.toList.map (evalT a.tmps) ++ pv).toArray := by apply Array.ext'; simp
        rw [e1]
        exact hcall
    · cases hk
  cases y with
  | t s => cases x <;> simp [okX] at hx; subst hx; exact main rfl hk
  | a s r => cases x <;> simp [okX] at hx; subst hx; exact main rfl hk
  | _ => cases hk

theorem rfS_mv {s : Nat} {dst : Option Nat} (hk : rfS e s dst k = some res) : mvS e s dst k = some res := by
  unfold rfS at hk
  unfold mvS
  cases hav : Env.get e s with
  | val v =>
    rw [hav] at hk
    cases v with
    | one d => cases d with
      | list o w rows => cases o with
        | true => cases hk
        | false => exact hk
      | _ => exact hk
    | agg ds => cases hk
    | mapv kv => cases hk
  | _ => rw [hav] at hk; first | exact hk | cases hk
theorem op_refer (h : Here ok0 mine u glob e a.tmps w fp st) {c : Orc} {x : Operand} {y : X} (ho : o.op = .move x) (hx : okX x y = true) (hk : opK c glob st o.dst (.rf y) e k = some res) : o.wp P a w (OpPost ok0 mine u e st k res o.dst a w) Q := by
  simp only [opK] at hk
  cases y with
  | t s => exact op_move (c := c) h ho hx (by simp only [opK]; exact rfS_mv hk)
  | a s r => exact op_move (c := c) h ho hx (by simp only [opK]; exact rfS_mv hk)
  | _ => cases hk
theorem arr1 {α : Type} {xs : Array α} {x : α} (h : xs.toList = [x]) : xs = #[x] := by apply Array.ext'; simpa using h
theorem arr2 {α : Type} {xs : Array α} {x y : α} (h : xs.toList = [x, y]) : xs = #[x, y] := by apply Array.ext'; simpa using h

/-- An operation of the abstract machine, and the model's. -/
theorem op_sound (h : Here ok0 mine u glob e a.tmps w fp st) {c : Orc} (hc : ∀ f args r, c f args = some r → CallOK P f glob args r) {x : AOp} (hok : okOp P o x = true) (hk : opK c glob st o.dst x e k = some res) : o.wp P a w (OpPost ok0 mine u e st k res o.dst a w) Q := by
  unfold okOp at hok
  split at hok
  · exact op_move h ‹_› hok hk
  · exact op_refer h ‹_› hok hk
  · exact op_assign h ‹_› hok hk
  · exact op_frz h ‹_› hok hk
  · simp only [Bool.and_eq_true] at hok; exact op_pick h ‹_› hok.1.1 hok.1.2 hok.2 hk
  · exact op_box h ‹_› hok hk
  · simp only [Bool.and_eq_true] at hok
    obtain ⟨h1, h2⟩ := hok
    split at h2
    · rename_i d hd; exact op_boxk h ‹_› h1 hd (by simpa using h2) hk
    · cases h2
  · exact op_alloc h ‹_› hok hk
  · simp only [Bool.and_eq_true] at hok; exact op_build h ‹_› hok.1.1 hok.1.2 hok.2 hk
  · simp only [Bool.and_eq_true, beq_iff_eq] at hok; obtain ⟨⟨rfl, h1⟩, h2⟩ := hok; exact op_bslice h ‹_› h1 h2 hk
  · simp only [Bool.and_eq_true] at hok; exact op_load h ‹_› hok.1 hok.2 hk
  · simp only [Bool.and_eq_true, Option.isNone_iff_eq_none] at hok; exact op_store h ‹_› hok.1.1.1 hok.1.1.2 hok.1.2 hok.2 hk
  · simp only [Bool.and_eq_true] at hok; exact op_faddr h ‹_› hok.1 hok.2 hk
  · exact op_nc h (.inl ‹_›) hok hk
  · exact op_nc h (.inr ‹_›) hok hk
  · simp only [Bool.and_eq_true] at hok; exact op_field h ‹_› hok.1 hok.2 hk
  · simp only [Bool.and_eq_true] at hok; exact op_iaddr h ‹_› hok.1.1 hok.1.2 hok.2 hk
  · simp only [Bool.and_eq_true] at hok; exact op_aaddr h ‹_› hok.1.1 hok.1.2 hok.2 hk
  · simp only [Bool.and_eq_true] at hok; exact op_sidx h ‹_› hok.1.1 hok.1.2 hok.2 hk
  · simp only [Bool.and_eq_true, beq_iff_eq] at hok; obtain ⟨⟨rfl, h1⟩, h2⟩ := hok; exact op_bin h ‹_› h1 h2 hk
  · simp only [Bool.and_eq_true] at hok
    obtain ⟨h1, h2⟩ := hok
    split at h1
    · exact op_isnil h ‹_› ‹_› h2 hk
    · cases h1
  · simp only [Bool.and_eq_true, beq_iff_eq] at hok; exact op_beq h ‹_› hok.1.1.1 hok.1.1.2 hok.1.2 hok.2 hk
  · simp only [Bool.and_eq_true, beq_iff_eq] at hok; obtain ⟨rfl, h1⟩ := hok; exact op_un h ‹_› h1 hk
  · simp only [Bool.and_eq_true] at hok
    obtain ⟨⟨h1, h2⟩, h3⟩ := hok
    split at h3
    · rename_i el hel
      split at h3
      · exact op_bstr h ‹_› h1 h2 hel ‹_› hk
      · cases h3
    · cases h3
  · simp only [Bool.and_eq_true] at hok; exact op_conv h ‹_› hok.1.1 hok.1.2 hok.2 hk
  · simp only [Bool.and_eq_true] at hok; exact op_mslice h ‹_› hok.1.1.1 hok.2 hok.1.1.2 hok.1.2 hk
  · simp only [Bool.and_eq_true, beq_iff_eq] at hok; obtain ⟨⟨rfl, h1⟩, h2⟩ := hok; exact op_mkf h ‹_› h1 h2 hk
  · simp only [Bool.and_eq_true, beq_iff_eq] at hok; obtain ⟨rfl, h1⟩ := hok; exact op_extract h ‹_› h1 hk
  · split at hok
    · rename_i x t h1 h2
      obtain rfl := arr1 h1
      obtain rfl := arr1 h2
      simp only [Bool.and_eq_true] at hok
      obtain ⟨h3, h4⟩ := hok
      split at h4
      · exact op_len h ‹_› ‹_› h3 hk
      · cases h4
    · cases hok
  · split at hok
    · rename_i x t h1 h2
      obtain rfl := arr1 h1
      obtain rfl := arr1 h2
      simp only [Bool.and_eq_true] at hok
      exact op_slen h ‹_› hok.2 hok.1 hk
    · cases hok
  · split at hok
    · rename_i x y t t' h1 h2
      obtain rfl := arr2 h1
      obtain rfl := arr2 h2
      simp only [Bool.and_eq_true, beq_iff_eq] at hok
      obtain ⟨⟨⟨rfl, h3⟩, h4⟩, h5⟩ := hok
      exact op_append h ‹_› h5 h3 h4 hk
    · cases hok
  · split at hok
    · rename_i x y h1
      obtain rfl := arr2 h1
      simp only [Bool.and_eq_true] at hok
      exact op_mm (mx := true) h ‹_› hok.1 hok.2 hk
    · cases hok
  · split at hok
    · rename_i x y h1
      obtain rfl := arr2 h1
      simp only [Bool.and_eq_true] at hok
      exact op_mm (mx := false) h ‹_› hok.1 hok.2 hk
    · cases hok
  · simp only [Bool.and_eq_true] at hok; exact op_call h hc ‹_› hok.1 hok.2 hk
  · simp only [Bool.and_eq_true] at hok; exact op_callv h hc ‹_› hok.1 hok.2 hk
  · simp only [Bool.and_eq_true] at hok
    obtain ⟨h1, h2⟩ := hok
    split at h2
    · rename_i a0 os hargs; simp only [Bool.and_eq_true] at h2; exact op_calli h hc ‹_› h1 hargs h2.1.1 h2.1.2 h2.2 hk
    · cases h2
  · simp only [Bool.and_eq_true] at hok
    exact op_eqs h ‹_› hok.1.1 hok.1.2 hok.2 hk
  · exact op_frk h ‹_› hok hk
  · simp only [Bool.and_eq_true] at hok
    obtain ⟨⟨⟨h1, h2⟩, h3⟩, h4⟩ := hok
    exact op_sub h ‹_› h1 h2 h3 h4 hk
  · simp only [Bool.and_eq_true] at hok
    obtain ⟨⟨⟨h1, h2⟩, h3⟩, h4⟩ := hok
    exact op_ssub h ‹_› h1 h2 h3 h4 hk
  · simp only [Bool.and_eq_true, beq_iff_eq] at hok
    obtain ⟨⟨rfl, h1⟩, h2⟩ := hok
    split at h2
    · exact op_errq h ‹_› ‹_› h1 hk
    · cases h2
  · exact op_mkmap h ‹_› hk
  · exact op_mrf h (.inl ‹_›) hok hk
  · exact op_mrf h (.inr ‹_›) hok hk
  · simp only [Bool.and_eq_true, beq_iff_eq] at hok
    obtain ⟨⟨⟨h1, h2⟩, h3⟩, h4⟩ := hok
    subst h4
    exact op_mget h ‹_› h1 h2 h3 hk
  · split at hok
    · rename_i m x t t2 e1 e2
      obtain rfl := arr2 e1
      obtain rfl := arr2 e2
      simp only [Bool.and_eq_true] at hok
      obtain ⟨⟨⟨h1, h2⟩, h3⟩, h4⟩ := hok
      exact op_mdel h ‹_› h1 h2 h3 (by simpa using h4) hk
    · cases hok
  · split at hok
    · rename_i m t e1 e2
      obtain rfl := arr1 e1
      obtain rfl := arr1 e2
      simp only [Bool.and_eq_true] at hok
      exact op_mlen h ‹_› hok.1 hok.2 hk
    · cases hok
  · simp only [Bool.and_eq_true] at hok
    obtain ⟨⟨⟨⟨h1, h2⟩, h3⟩, h4⟩, h5⟩ := hok
    exact op_mset h ‹_› h1 h2 h3 h4 (by simpa using h5) hk
  · exact op_mend h ‹_› hok hk
  · exact op_junk h ‹_› hk
  · cases hok
end
end Go.Abs
set_option linter.unusedVariables false
set_option linter.unusedSimpArgs false
namespace Go.Abs
open Go

/-- Two frames that agree where it matters. -/
structure Agree (T : List Nat) (e e' : Env) : Prop where
  len : e'.length = e.length
  get : ∀ t ∈ T, e'.get t = e.get t
theorem Agree.mono {T T' : List Nat} {e e' : Env} (h : Agree T e e') (hT : ∀ t ∈ T', t ∈ T) : Agree T' e e' := ⟨h.len, fun t ht => h.get t (hT t ht)⟩
theorem Agree.upd {T : List Nat} {e e' : Env} (h : Agree T e e') (t : Nat) (v : AV) : Agree T (e.upd t v) (e'.upd t v) := by
  refine ⟨by rw [Env.upd_length, Env.upd_length, h.len], fun s hs => ?_⟩
  rw [Env.get_upd, Env.get_upd, h.len, h.get s hs]
theorem Agree.app {T : List Nat} {e e' : Env} (h : Agree T e e') (us : Upd) : Agree T (e.app us) (e'.app us) := by
  induction us generalizing e e' with
  | nil => exact h
  | cons u us ih => obtain ⟨t, v⟩ := u; exact ih (h.upd t v)

def xT : X → List Nat
  | .t s => [s]
  | .p s => [s]
  | .a s r => [s, r]
  | .m s r => [s, r]
  | _ => []
/-- What a take may turn. -/
def xW : X → List Nat
  | .t s => [s]
  | .a s r => [s, r]
  | .m s r => [s, r]
  | _ => []
def KeysIn (W : List Nat) (us : Upd) : Prop := ∀ p ∈ us, p.1 ∈ W
theorem KeysIn.nil (W : List Nat) : KeysIn W [] := by simp [KeysIn]
theorem KeysIn.one {W : List Nat} {t : Nat} (h : t ∈ W) (v : AV) : KeysIn W [(t, v)] := by simp [KeysIn, h]
theorem KeysIn.app {W : List Nat} {a b : Upd} (h : KeysIn W a) (k : KeysIn W b) : KeysIn W (a ++ b) := fun p hp => (List.mem_append.1 hp).elim (h p) (k p)
theorem KeysIn.out {W : List Nat} {us : Upd} (h : KeysIn W us) (d : Option Nat) (v : AV) : KeysIn (d.toList ++ W) (outU us d v) := by
  cases d with
  | none => exact h
  | some d =>
    intro p hp
    rcases List.mem_append.1 hp with hp | hp
    · exact List.mem_append_right _ (h p hp)
    · simp at hp; subst hp; simp
theorem KeysIn.mono {W W' : List Nat} {us : Upd} (h : KeysIn W us) (hW : ∀ t ∈ W, t ∈ W') : KeysIn W' us := fun p hp => hW _ (h p hp)

section
variable {R : Type} {e : Env} {s st : Nat} {r : Option Nat} {res : R}

theorem peekS_loc {k : V → Option R} (hk : peekS e s k = some res) : ∃ v, k v = some res ∧ ∀ {R' : Type} (k' : V → Option R') (e' : Env), e'.get s = e.get s → peekS e' s k' = k' v := by
  unfold peekS at hk
  cases hav : Env.get e s with
  | val v =>
    rw [hav] at hk
    cases v with
    | one d =>
      cases d with
      | list o w rows => cases o with
        | true => cases hk
        | false => exact ⟨_, hk, fun k' e' he => by simp only [peekS, he, hav]⟩
      | _ => exact ⟨_, hk, fun k' e' he => by simp only [peekS, he, hav]⟩
    | mapv kv => cases hk
    | agg ds =>
      cases hp : plainL ds with
      | true => simp only [hp] at hk; exact ⟨_, hk, fun k' e' he => by simp only [peekS, he, hav, hp]⟩
      | false => simp only [hp] at hk; cases hk
  | _ => rw [hav] at hk; cases hk
theorem peek_loc {x : X} {k : V → Option R} (hk : peek e x k = some res) : ∃ v, k v = some res ∧ ∀ {R' : Type} (k' : V → Option R') (e' : Env), Agree (xT x) e e' → peek e' x k' = k' v := by
  cases x with
  | c d => exact ⟨_, hk, fun _ _ _ => rfl⟩
  | p s => obtain ⟨v, h1, h2⟩ := peekS_loc hk; exact ⟨v, h1, fun k' e' he => h2 k' e' (he.get s (by simp [xT]))⟩
  | t s => obtain ⟨v, h1, h2⟩ := peekS_loc hk; exact ⟨v, h1, fun k' e' he => h2 k' e' (he.get s (by simp [xT]))⟩
  | a s r => obtain ⟨v, h1, h2⟩ := peekS_loc hk; exact ⟨v, h1, fun k' e' he => h2 k' e' (he.get s (by simp [xT]))⟩
  | _ => cases hk
theorem peekInt_loc {x : X} {k : IntKind → Int → Option R} (hk : peekInt e x k = some res) : ∃ i n, k i n = some res ∧ ∀ {R' : Type} (k' : IntKind → Int → Option R') (e' : Env), Agree (xT x) e e' → peekInt e' x k' = k' i n := by
  obtain ⟨v, h1, h2⟩ := peek_loc hk
  unfold intS at h1
  split at h1
  · exact ⟨_, _, h1, fun k' e' he => by unfold peekInt; rw [h2 _ _ he]; rfl⟩
  · cases h1
theorem peekBool_loc {x : X} {k : Bool → Option R} (hk : peekBool e x k = some res) : ∃ b, k b = some res ∧ ∀ {R' : Type} (k' : Bool → Option R') (e' : Env), Agree (xT x) e e' → peekBool e' x k' = k' b := by
  obtain ⟨v, h1, h2⟩ := peek_loc hk
  unfold boolS at h1
  split at h1
  · exact ⟨_, h1, fun k' e' he => by unfold peekBool; rw [h2 _ _ he]; rfl⟩
  · cases h1

theorem takeS_loc {k : V → Upd → Option R} (hk : takeS e st s r k = some res) :
    ∃ v us, k v us = some res ∧ KeysIn (s :: r.toList) us ∧ ∀ {R' : Type} (k' : V → Upd → Option R') (e' : Env), Agree (s :: r.toList) e e' → takeS e' st s r k' = k' v us := by
  unfold takeS at hk
  cases hav : Env.get e s with
  | own id w rows => rw [hav] at hk; exact ⟨_, _, hk, .one (by simp) _, fun k' e' he => by simp only [takeS, he.get s (by simp), hav]⟩
  | val v =>
    rw [hav] at hk
    cases v with
    | one d =>
      cases d with
      | list o w rows => cases o with
        | true => cases hk
        | false => exact ⟨_, _, hk, .nil _, fun k' e' he => by simp only [takeS, he.get s (by simp), hav]⟩
      | _ => exact ⟨_, _, hk, .nil _, fun k' e' he => by simp only [takeS, he.get s (by simp), hav]⟩
    | mapv kv => cases hk
    | agg ds =>
      cases hp : plainL ds with
      | true => simp only [hp] at hk; exact ⟨_, _, hk, .nil _, fun k' e' he => by simp only [takeS, he.get s (by simp), hav, hp]⟩
      | false => simp only [hp] at hk; exact ⟨_, _, hk, .one (by simp) _, fun k' e' he => by simp only [takeS, he.get s (by simp), hav, hp]⟩
  | ref t j id =>
    rw [hav] at hk
    by_cases hr : r = some t
    · subst hr
      cases j with
      | none =>
        simp only [if_true] at hk
        split at hk
        · rename_i id' w rows ht
          split at hk
          · rename_i hid
            exact ⟨_, _, hk, .one (by simp) _, fun k' e' he => by simp only [takeS, he.get s (by simp), hav, he.get t (by simp), ht, hid, if_true]⟩
          · cases hk
        · cases hk
      | some j =>
        simp only [if_true] at hk
        split at hk
        · rename_i b ver ds ht
          split at hk
          · rename_i hid
            split at hk
            · rename_i w rows hj
              exact ⟨_, _, hk, .one (by simp) _, fun k' e' he => by simp only [takeS, he.get s (by simp), hav, he.get t (by simp), ht, hid, if_true, hj]⟩
            · cases hk
          · cases hk
        · cases hk
    · cases j <;> simp [hr] at hk
  | copy t ver =>
    rw [hav] at hk
    by_cases hr : r = some t
    · subst hr
      simp only [if_true] at hk
      split at hk
      · rename_i b ver' ds ht
        split at hk
        · rename_i hid
          exact ⟨_, _, hk, .one (by simp) _, fun k' e' he => by simp only [takeS, he.get s (by simp), hav, he.get t (by simp), ht, hid, if_true]⟩
        · cases hk
      · cases hk
    · simp [hr] at hk
  | cell t id i o =>
    rw [hav] at hk
    by_cases hr : r = some t
    · subst hr
      simp only [if_true] at hk
      split at hk
      · rename_i id' w rows ht
        split at hk
        · rename_i hid
          unfold rowTakeK at hk
          split at hk
          · rename_i row hrow
            split at hk
            · rename_i w' inner hro
              exact ⟨_, _, hk, .one (by simp) _, fun k' e' he => by simp only [takeS, he.get s (by simp), hav, he.get t (by simp), ht, hid, if_true, rowTakeK, hrow, hro]⟩
            · cases hk
          · cases hk
        · cases hk
      · cases hk
    · simp [hr] at hk
  | _ => rw [hav] at hk; cases hk
theorem take_loc {x : X} {k : V → Upd → Option R} (hk : take e st x k = some res) :
    ∃ v us, k v us = some res ∧ KeysIn (xW x) us ∧ ∀ {R' : Type} (k' : V → Upd → Option R') (e' : Env), Agree (xT x) e e' → take e' st x k' = k' v us := by
  cases x with
  | c d => exact ⟨_, _, hk, .nil _, fun _ _ _ => rfl⟩
  | p s => obtain ⟨v, h1, h2⟩ := peekS_loc (k := fun v => k v []) hk; exact ⟨v, _, h1, .nil _, fun k' e' he => h2 (fun v => k' v []) e' (he.get s (by simp [xT]))⟩
  | t s => exact takeS_loc hk
  | a s r => exact takeS_loc hk
  | _ => cases hk
theorem takes_loc {xs : List X} {acc : List V} {us0 : Upd} {k : List V → Upd → Option R} (hk : takes st e xs acc us0 k = some res) :
    ∃ vs us, k (acc.reverse ++ vs) (us0 ++ us) = some res ∧ KeysIn (xs.flatMap xW) us ∧ ∀ {R' : Type} (k' : List V → Upd → Option R') (e' : Env), Agree (xs.flatMap xT) e e' → takes st e' xs acc us0 k' = k' (acc.reverse ++ vs) (us0 ++ us) := by
  induction xs generalizing e acc us0 with
  | nil => exact ⟨[], [], by simpa [takes] using hk, .nil _, fun k' e' _ => by simp [takes]⟩
  | cons x xs ih =>
    simp only [takes] at hk
    obtain ⟨v, us, h1, h2, h3⟩ := take_loc hk
    obtain ⟨vs, us2, g1, g2, g3⟩ := ih h1
    refine ⟨v :: vs, us ++ us2, by simpa using g1, ?_, fun k' e' he => ?_⟩
    · simp only [List.flatMap_cons]
      exact (h2.mono fun t ht => List.mem_append_left _ ht).app (g2.mono fun t ht => List.mem_append_right _ ht)
    · simp only [List.flatMap_cons] at he
      simp only [takes]
      rw [h3 _ _ (he.mono fun t ht => List.mem_append_left _ ht), g3 _ _ ((he.mono fun t ht => List.mem_append_right _ ht).app us)]
      simp

theorem ownAt_loc {t : Nat} {j : Option Nat} {id : Nat} {e' : Env} (h : e'.get t = e.get t) : ownAt e' t j id = ownAt e t j id := by
  unfold ownAt; rw [h]
theorem readV_loc {agg : Bool} {n : Nat} {ds : List D} {own whole : AV} {k : AV → Option R} (hk : readV agg n ds own whole k = some res) : ∃ av, k av = some res ∧ ∀ {R' : Type} (k' : AV → Option R'), readV agg n ds own whole k' = k' av := by
  unfold readV at hk
  cases agg with
  | true =>
    simp only at hk
    split at hk
    · rename_i hn
      cases hp : plainL (ds.take n) with
      | true => simp only [hp] at hk; exact ⟨_, hk, fun k' => by simp only [readV, if_pos hn, hp]⟩
      | false => simp only [hp] at hk; exact ⟨_, hk, fun k' => by simp only [readV, if_pos hn, hp]⟩
    · cases hk
  | false =>
    simp only at hk
    cases ds with
    | nil => cases hk
    | cons d ds =>
      cases d with
      | list o w rows => cases o <;> exact ⟨_, hk, fun k' => rfl⟩
      | _ => exact ⟨_, hk, fun k' => rfl⟩
theorem rowReadK_loc {row : Option (List D)} {agg : Bool} {n o : Nat} {own : AV} {k : AV → Option R} (hk : rowReadK row agg n o own k = some res) : ∃ av, k av = some res ∧ ∀ {R' : Type} (k' : AV → Option R'), rowReadK row agg n o own k' = k' av := by
  cases row with
  | none => cases hk
  | some row => exact readV_loc hk
theorem onSome_loc {α : Type} {o : Option α} {k : α → Option R} (hk : onSome o k = some res) : ∃ a, o = some a ∧ k a = some res := by
  cases o with
  | none => cases hk
  | some a => exact ⟨a, rfl, hk⟩
theorem readS_loc {agg : Bool} {n : Nat} {k : AV → Option R} (hk : readS e s r agg n k = some res) :
    ∃ av, k av = some res ∧ ∀ {R' : Type} (k' : AV → Option R') (e' : Env), Agree (s :: r.toList) e e' → readS e' s r agg n k' = k' av := by
  unfold readS at hk
  cases hav : Env.get e s with
  | box b ver ds =>
    rw [hav] at hk
    obtain ⟨av, h1, h2⟩ := readV_loc hk
    exact ⟨av, h1, fun k' e' he => by simp only [readS, he.get s (by simp), hav]; exact h2 k'⟩
  | rp ds =>
    rw [hav] at hk
    obtain ⟨av, h1, h2⟩ := readV_loc hk
    exact ⟨av, h1, fun k' e' he => by simp only [readS, he.get s (by simp), hav]; exact h2 k'⟩
  | bp t id off =>
    rw [hav] at hk
    by_cases hr : r = some t
    · subst hr
      simp only [if_true] at hk
      split at hk
      · rename_i b ver ds ht
        split at hk
        · rename_i hid
          obtain ⟨av, h1, h2⟩ := readV_loc hk
          exact ⟨av, h1, fun k' e' he => by simp only [readS, he.get s (by simp), hav, he.get t (by simp), ht, hid, if_true]; exact h2 k'⟩
        · cases hk
      · cases hk
    · simp [hr] at hk
  | into t j id w i o =>
    rw [hav] at hk
    by_cases hr : r = some t
    · subst hr
      simp only [if_true] at hk
      obtain ⟨q, hq, hk⟩ := onSome_loc hk
      obtain ⟨av, h1, h2⟩ := rowReadK_loc hk
      exact ⟨av, h1, fun k' e' he => by simp only [readS, he.get s (by simp), hav, ownAt_loc (he.get t (by simp)), hq, onSome, if_true]; exact h2 k'⟩
    · simp [hr] at hk
  | _ => rw [hav] at hk; cases hk
theorem readAt_loc {glob : Nat → List D} {agg : Bool} {n : Nat} {x : X} {k : AV → Option R} (hk : readAt e glob agg n x k = some res) :
    ∃ av, k av = some res ∧ ∀ {R' : Type} (k' : AV → Option R') (e' : Env), Agree (xT x) e e' → readAt e' glob agg n x k' = k' av := by
  cases x with
  | t s => exact readS_loc hk
  | a s r => exact readS_loc hk
  | g g => obtain ⟨av, h1, h2⟩ := readV_loc hk; exact ⟨av, h1, fun k' e' _ => h2 k'⟩
  | _ => cases hk
theorem offS_loc {n : Nat} {dst : Option Nat} {k : Upd → Option R} (hk : offS e s r n dst k = some res) :
    ∃ av, k (outU [] dst av) = some res ∧ ∀ {R' : Type} (k' : Upd → Option R') (e' : Env), Agree (s :: r.toList) e e' → offS e' s r n dst k' = k' (outU [] dst av) := by
  unfold offS at hk
  cases hav : Env.get e s with
  | box b ver ds => rw [hav] at hk; exact ⟨_, hk, fun k' e' he => by simp only [offS, he.get s (by simp), hav]⟩
  | rp ds => rw [hav] at hk; exact ⟨_, hk, fun k' e' he => by simp only [offS, he.get s (by simp), hav]⟩
  | bp t id off =>
    rw [hav] at hk
    by_cases hr : r = some t
    · subst hr
      simp only [if_true] at hk
      split at hk
      · rename_i b ver ds ht
        split at hk
        · rename_i hid
          exact ⟨_, hk, fun k' e' he => by simp only [offS, he.get s (by simp), hav, he.get t (by simp), ht, hid, if_true]⟩
        · cases hk
      · cases hk
    · simp [hr] at hk
  | into t j id w i o =>
    rw [hav] at hk
    by_cases hr : r = some t
    · subst hr
      simp only [if_true] at hk
      obtain ⟨q, hq, hk⟩ := onSome_loc hk
      exact ⟨_, hk, fun k' e' he => by simp only [offS, he.get s (by simp), hav, ownAt_loc (he.get t (by simp)), hq, onSome, if_true]⟩
    · simp [hr] at hk
  | _ => rw [hav] at hk; cases hk
theorem offX_loc {glob : Nat → List D} {x : X} {n : Nat} {dst : Option Nat} {k : Upd → Option R} (hk : offX e glob x n dst k = some res) :
    ∃ av, k (outU [] dst av) = some res ∧ ∀ {R' : Type} (k' : Upd → Option R') (e' : Env), Agree (xT x) e e' → offX e' glob x n dst k' = k' (outU [] dst av) := by
  cases x with
  | t s => exact offS_loc hk
  | a s r => exact offS_loc hk
  | g g => exact ⟨_, hk, fun _ _ _ => rfl⟩
  | _ => cases hk
theorem rowK_loc {row : Option (List D)} {dst : Option Nat} {k : Upd → Option R} (hk : rowK row dst k = some res) : ∃ av, k (outU [] dst av) = some res ∧ ∀ {R' : Type} (k' : Upd → Option R'), rowK row dst k' = k' (outU [] dst av) := by
  cases row with
  | none => cases hk
  | some row => exact ⟨_, hk, fun _ => rfl⟩
theorem iaddrS_loc {w n : Nat} {dst : Option Nat} {k : Upd → Option R} (hk : iaddrS e s r w n dst k = some res) :
    ∃ av, k (outU [] dst av) = some res ∧ ∀ {R' : Type} (k' : Upd → Option R') (e' : Env), Agree (s :: r.toList) e e' → iaddrS e' s r w n dst k' = k' (outU [] dst av) := by
  unfold iaddrS at hk
  cases hav : Env.get e s with
  | val v =>
    rw [hav] at hk
    cases v with
    | one d => cases d with
      | list o w' rows => cases o with
        | true => cases hk
        | false =>
          simp only at hk
          split at hk
          · rename_i hw
            obtain ⟨av, h1, h2⟩ := rowK_loc hk
            exact ⟨av, h1, fun k' e' he => by simp only [iaddrS, he.get s (by simp), hav, hw, if_true]; exact h2 k'⟩
          · cases hk
      | _ => cases hk
    | mapv kv => cases hk
    | agg ds => cases hk
  | own id w' rows =>
    rw [hav] at hk
    simp only at hk
    split at hk
    · rename_i hw
      split at hk
      · rename_i hn
        exact ⟨_, hk, fun k' e' he => by simp only [iaddrS, he.get s (by simp), hav, hw, if_true, hn]⟩
      · cases hk
    · cases hk
  | ref t j id =>
    rw [hav] at hk
    by_cases hr : r = some t
    · subst hr
      simp only [if_true] at hk
      obtain ⟨q, hq, hk⟩ := onSome_loc hk
      split at hk
      · rename_i hw
        split at hk
        · rename_i hn
          exact ⟨_, hk, fun k' e' he => by simp only [iaddrS, he.get s (by simp), hav, ownAt_loc (he.get t (by simp)), hq, onSome, hw, if_true, hn]⟩
        · cases hk
      · cases hk
    · simp [hr] at hk
  | _ => rw [hav] at hk; cases hk
theorem lenS_loc {k : Int → Option R} (hk : lenS e s r k = some res) :
    ∃ n, k n = some res ∧ ∀ {R' : Type} (k' : Int → Option R') (e' : Env), Agree (s :: r.toList) e e' → lenS e' s r k' = k' n := by
  unfold lenS at hk
  cases hav : Env.get e s with
  | val v =>
    rw [hav] at hk
    cases v with
    | one d => cases d with
      | list o w' rows => cases o with
        | true => cases hk
        | false => exact ⟨_, hk, fun k' e' he => by simp only [lenS, he.get s (by simp), hav]⟩
      | _ => cases hk
    | mapv kv => cases hk
    | agg ds => cases hk
  | own id w' rows => rw [hav] at hk; exact ⟨_, hk, fun k' e' he => by simp only [lenS, he.get s (by simp), hav]⟩
  | ref t j id =>
    rw [hav] at hk
    by_cases hr : r = some t
    · subst hr
      simp only [if_true] at hk
      obtain ⟨q, hq, hk⟩ := onSome_loc hk
      exact ⟨_, hk, fun k' e' he => by simp only [lenS, he.get s (by simp), hav, ownAt_loc (he.get t (by simp)), hq, onSome, if_true]⟩
    · simp [hr] at hk
  | _ => rw [hav] at hk; cases hk
theorem lenOf_loc {x : X} {k : Int → Option R} (hk : lenOf e x k = some res) :
    ∃ n, k n = some res ∧ ∀ {R' : Type} (k' : Int → Option R') (e' : Env), Agree (xT x) e e' → lenOf e' x k' = k' n := by
  cases x with
  | t s => exact lenS_loc hk
  | a s r => exact lenS_loc hk
  | _ => cases hk
end
end Go.Abs
set_option linter.unusedVariables false
set_option linter.unusedSimpArgs false
namespace Go.Abs
open Go

section
variable {R : Type} {e : Env} {s st : Nat} {r : Option Nat} {res : R}

theorem binInt_loc {op : BinOp} {i : IntKind} {a b : Int} {k : D → Option R} (hk : binInt op i a b k = some res) : ∃ d, k d = some res ∧ ∀ {R' : Type} (k' : D → Option R'), binInt op i a b k' = k' d := by
  unfold binInt at hk
  cases op with
  | quo =>
    simp only at hk
    split at hk
    · cases hk
    · rename_i hb; exact ⟨_, hk, fun k' => by simp only [binInt, if_neg hb]⟩
  | rem =>
    simp only at hk
    split at hk
    · cases hk
    · rename_i hb; exact ⟨_, hk, fun k' => by simp only [binInt, if_neg hb]⟩
  | _ => first | cases hk; done | exact ⟨_, hk, fun k' => rfl⟩
theorem binV_loc {op : BinOp} {x y : V} {k : D → Option R} (hk : binV op x y k = some res) : ∃ d, k d = some res ∧ ∀ {R' : Type} (k' : D → Option R'), binV op x y k' = k' d := by
  cases x with
  | agg => simp [binV] at hk
  | mapv => simp [binV] at hk
  | one dx => cases y with
    | agg => cases dx <;> simp [binV] at hk
    | mapv => cases dx <;> simp [binV] at hk
    | one dy =>
      cases dx <;> cases dy <;> first | (simp [binV] at hk; done) | skip
      · rename_i i a j b
        simp only [binV] at hk
        split at hk
        · rename_i hij
          obtain ⟨d, h1, h2⟩ := binInt_loc hk
          exact ⟨d, h1, fun k' => by simp only [binV, if_pos hij]; exact h2 k'⟩
        · cases hk
      · rename_i a b
        simp only [binV] at hk
        cases op with
        | add =>
          simp only at hk
          split at hk
          · rename_i hh; exact ⟨_, hk, fun k' => by simp only [binV, if_pos hh]⟩
          · cases hk
        | eql => exact ⟨_, hk, fun k' => rfl⟩
        | neq => exact ⟨_, hk, fun k' => rfl⟩
        | _ => cases hk
theorem beqV_loc {neg : Bool} {x y : V} {k : D → Option R} (hk : beqV neg x y k = some res) : ∃ d, k d = some res ∧ ∀ {R' : Type} (k' : D → Option R'), beqV neg x y k' = k' d := by
  cases x with
  | agg => simp [beqV] at hk
  | mapv => simp [beqV] at hk
  | one dx => cases y with
    | agg => cases dx <;> simp [beqV] at hk
    | mapv => cases dx <;> simp [beqV] at hk
    | one dy =>
      cases dx <;> cases dy <;> first | (simp [beqV] at hk; done) | skip
      cases neg <;> exact ⟨_, hk, fun k' => rfl⟩
theorem unV_loc {op : UnOp} {x : V} {k : D → Option R} (hk : unV op x k = some res) : ∃ d, k d = some res ∧ ∀ {R' : Type} (k' : D → Option R'), unV op x k' = k' d := by
  cases op <;> cases x <;> first | (simp [unV] at hk; done) | skip
  all_goals (rename_i d; cases d <;> first | (simp [unV] at hk; done) | exact ⟨_, hk, fun k' => rfl⟩)
theorem slenV_loc {x : V} {k : D → Option R} (hk : slenV x k = some res) : ∃ d, k d = some res ∧ ∀ {R' : Type} (k' : D → Option R'), slenV x k' = k' d := by
  cases x with
  | agg => simp [slenV] at hk
  | mapv => simp [slenV] at hk
  | one d => cases d <;> first | (simp [slenV] at hk; done) | exact ⟨_, hk, fun k' => rfl⟩
theorem strAt_loc {x : V} {n : Nat} {dst : Option Nat} {k : Upd → Option R} (hk : strAt x n dst k = some res) : ∃ av, k (outU [] dst av) = some res ∧ ∀ {R' : Type} (k' : Upd → Option R'), strAt x n dst k' = k' (outU [] dst av) := by
  cases x with
  | agg => simp [strAt] at hk
  | mapv => simp [strAt] at hk
  | one d =>
    cases d <;> first | (simp [strAt] at hk; done) | skip
    rename_i s
    simp only [strAt] at hk ⊢
    cases hb : s.data.toList[n]? with
    | none => rw [hb] at hk; cases hk
    | some b => rw [hb] at hk; exact ⟨_, hk, fun k' => rfl⟩
theorem fieldV_loc {x : V} {agg : Bool} {off n : Nat} {k : AV → Option R} (hk : fieldV x agg off n k = some res) : ∃ av, k av = some res ∧ ∀ {R' : Type} (k' : AV → Option R'), fieldV x agg off n k' = k' av := by
  cases x with
  | one d => simp [fieldV] at hk
  | mapv kv => simp [fieldV] at hk
  | agg ds => exact readV_loc hk
theorem appendV_loc {w : Nat} {v u : V} {k : List (List D) → Option R} (hk : appendV w v u k = some res) : ∃ rows, k rows = some res ∧ ∀ {R' : Type} (k' : List (List D) → Option R'), appendV w v u k' = k' rows := by
  cases v with
  | agg => simp [appendV] at hk
  | mapv => simp [appendV] at hk
  | one dx => cases u with
    | agg => cases dx <;> first | (simp [appendV] at hk; done) | (rename_i o _ _; cases o <;> simp [appendV] at hk)
    | mapv => cases dx <;> first | (simp [appendV] at hk; done) | (rename_i o _ _; cases o <;> simp [appendV] at hk)
    | one dy =>
      cases dx <;> first | (simp [appendV] at hk; done) | skip
      rename_i o _ _
      cases o
      · simp [appendV] at hk
      · cases dy <;> first | (simp [appendV] at hk; done) | skip
        simp only [appendV] at hk
        split at hk
        · rename_i h1
          split at hk
          · rename_i h2
            exact ⟨_, hk, fun k' => by simp only [appendV, if_pos h1, if_pos h2]⟩
          · cases hk
        · cases hk
theorem rowWriteK_loc {row : Option (List D)} {o : Nat} {ds : List D} {k : List D → Option R} (hk : rowWriteK row o ds k = some res) : ∃ row', k row' = some res ∧ ∀ {R' : Type} (k' : List D → Option R'), rowWriteK row o ds k' = k' row' := by
  cases row with
  | none => cases hk
  | some row =>
    simp only [rowWriteK] at hk
    split at hk
    · rename_i h1; exact ⟨_, hk, fun k' => by simp only [rowWriteK, if_pos h1]⟩
    · cases hk

theorem writeS_loc {ds : List D} {us0 : Upd} {k : Upd → Option R} (hk : writeS e st s r ds us0 k = some res) :
    ∃ us, k (us0 ++ us) = some res ∧ KeysIn (s :: r.toList) us ∧ ∀ {R' : Type} (k' : Upd → Option R') (e' : Env), Agree (s :: r.toList) e e' → writeS e' st s r ds us0 k' = k' (us0 ++ us) := by
  unfold writeS at hk
  cases hav : Env.get e s with
  | box b ver old =>
    rw [hav] at hk
    simp only at hk
    split at hk
    · rename_i h1; exact ⟨_, hk, .one (by simp) _, fun k' e' he => by simp only [writeS, he.get s (by simp), hav, if_pos h1]⟩
    · cases hk
  | bp t id off =>
    rw [hav] at hk
    by_cases hr : r = some t
    · subst hr
      simp only [if_true] at hk
      split at hk
      · rename_i b ver old ht
        split at hk
        · rename_i hid
          split at hk
          · rename_i h1
            exact ⟨_, hk, .one (by simp) _, fun k' e' he => by simp only [writeS, he.get s (by simp), hav, he.get t (by simp), ht, if_pos h1, hid, if_true]⟩
          · cases hk
        · cases hk
      · cases hk
    · simp [hr] at hk
  | into t j id w i o =>
    rw [hav] at hk
    by_cases hr : r = some t
    · subst hr
      cases j with
      | none =>
        simp only [if_true] at hk
        split at hk
        · rename_i id' w' rows ht
          split at hk
          · rename_i hid
            obtain ⟨row', h1, h2⟩ := rowWriteK_loc hk
            exact ⟨_, h1, .one (by simp) _, fun k' e' he => by simp only [writeS, he.get s (by simp), hav, he.get t (by simp), ht, hid, if_true]; exact h2 _⟩
          · cases hk
        · cases hk
      | some j =>
        simp only [if_true] at hk
        split at hk
        · rename_i b ver old ht
          split at hk
          · rename_i hid
            split at hk
            · rename_i w' rows hj
              obtain ⟨row', h1, h2⟩ := rowWriteK_loc hk
              exact ⟨_, h1, .one (by simp) _, fun k' e' he => by simp only [writeS, he.get s (by simp), hav, he.get t (by simp), ht, hid, if_true, hj]; exact h2 _⟩
            · cases hk
          · cases hk
        · cases hk
    · simp [hr] at hk
  | _ => rw [hav] at hk; cases hk
theorem writeAt_loc {x : X} {ds : List D} {us0 : Upd} {k : Upd → Option R} (hk : writeAt e st x ds us0 k = some res) :
    ∃ us, k (us0 ++ us) = some res ∧ KeysIn (xW x) us ∧ ∀ {R' : Type} (k' : Upd → Option R') (e' : Env), Agree (xT x) e e' → writeAt e' st x ds us0 k' = k' (us0 ++ us) := by
  cases x with
  | t s => exact writeS_loc hk
  | a s r => exact writeS_loc hk
  | _ => cases hk
theorem frkS_loc {dst : Option Nat} {k : Upd → Option R} (hk : frkS e s dst k = some res) :
    ∃ us, k us = some res ∧ KeysIn (dst.toList ++ [s]) us ∧ ∀ {R' : Type} (k' : Upd → Option R') (e' : Env), e'.get s = e.get s → frkS e' s dst k' = k' us := by
  unfold frkS at hk
  cases hav : Env.get e s with
  | own id w rows =>
    rw [hav] at hk
    exact ⟨_, hk, (KeysIn.one (by simp) _).out _ _, fun k' e' he => by simp only [frkS, he, hav]⟩
  | val v =>
    rw [hav] at hk
    cases v with
    | mapv kv => cases hk
    | agg ds => cases hk
    | one d =>
      cases d with
      | list o w rows =>
        cases o with
        | true => cases hk
        | false => exact ⟨_, hk, (KeysIn.nil _).out _ _, fun k' e' he => by simp only [frkS, he, hav]⟩
      | _ => cases hk
  | _ => rw [hav] at hk; cases hk
theorem mrfS_loc {dst : Option Nat} {k : Upd → Option R} (hk : mrfS e s dst k = some res) :
    ∃ av, k (outU [] dst av) = some res ∧ ∀ {R' : Type} (k' : Upd → Option R') (e' : Env), e'.get s = e.get s → mrfS e' s dst k' = k' (outU [] dst av) := by
  unfold mrfS at hk
  cases hav : Env.get e s with
  | mapv id kv => rw [hav] at hk; exact ⟨_, hk, fun k' e' he => by simp only [mrfS, he, hav]⟩
  | mref t id => rw [hav] at hk; exact ⟨_, hk, fun k' e' he => by simp only [mrfS, he, hav]⟩
  | _ => rw [hav] at hk; cases hk
theorem mapS_loc {r : Nat} {kk : Nat → List (Int × Int) → Option R} (hk : mapS e s r kk = some res) : ∃ id kv, kk id kv = some res ∧ ∀ {R' : Type} (k' : Nat → List (Int × Int) → Option R') (e' : Env), e'.get s = e.get s → e'.get r = e.get r → mapS e' s r k' = k' id kv := by
  unfold mapS at hk
  split at hk
  · rename_i t id hs
    split at hk
    · rename_i htr
      subst htr
      split at hk
      · rename_i id' kv ht
        split at hk
        · rename_i hid
          exact ⟨_, _, hk, fun k' e' h1 h2 => by unfold mapS; rw [h1, hs]; simp only [if_true, h2, ht, hid]⟩
        · cases hk
      · cases hk
    · cases hk
  · rename_i id kv hs
    split at hk
    · rename_i hsr
      exact ⟨_, _, hk, fun k' e' h1 h2 => by unfold mapS; rw [h1, hs]; simp only [if_pos hsr]⟩
    · cases hk
  · cases hk
theorem rfS_loc {dst : Option Nat} {k : Upd → Option R} (hk : rfS e s dst k = some res) :
    ∃ av, k (outU [] dst av) = some res ∧ ∀ {R' : Type} (k' : Upd → Option R') (e' : Env), e'.get s = e.get s → rfS e' s dst k' = k' (outU [] dst av) := by
  unfold rfS at hk
  cases hav : Env.get e s with
  | val v =>
    rw [hav] at hk
    cases v with
    | one d =>
      cases d with
      | list o w rows => cases o with
        | true => cases hk
        | false => exact ⟨_, hk, fun k' e' he => by simp only [rfS, he, hav]⟩
      | _ => exact ⟨_, hk, fun k' e' he => by simp only [rfS, he, hav]⟩
    | mapv kv => cases hk
    | agg ds => cases hk
  | _ => rw [hav] at hk; first | (cases hk; done) | exact ⟨_, hk, fun k' e' he => by simp only [rfS, he, hav]⟩
theorem mvS_loc {dst : Option Nat} {k : Upd → Option R} (hk : mvS e s dst k = some res) :
    ∃ us, k us = some res ∧ KeysIn (dst.toList ++ [s]) us ∧ ∀ {R' : Type} (k' : Upd → Option R') (e' : Env), e'.get s = e.get s → mvS e' s dst k' = k' us := by
  unfold mvS at hk
  cases hav : Env.get e s with
  | val v =>
    rw [hav] at hk
    cases v with
    | one d =>
      cases d with
      | list o w rows => cases o with
        | true => cases hk
        | false => exact ⟨_, hk, (KeysIn.nil _).out _ _, fun k' e' he => by simp only [mvS, he, hav]⟩
      | _ => exact ⟨_, hk, (KeysIn.nil _).out _ _, fun k' e' he => by simp only [mvS, he, hav]⟩
    | mapv kv => cases hk
    | agg ds =>
      cases hp : plainL ds with
      | true => simp only [hp] at hk; exact ⟨_, hk, (KeysIn.nil _).out _ _, fun k' e' he => by simp only [mvS, he, hav, hp]⟩
      | false => simp only [hp] at hk; exact ⟨_, hk, (KeysIn.one (by simp) _).out _ _, fun k' e' he => by simp only [mvS, he, hav, hp]⟩
  | tup vs => rw [hav] at hk; exact ⟨_, hk, (KeysIn.one (by simp) _).out _ _, fun k' e' he => by simp only [mvS, he, hav]⟩
  | _ => rw [hav] at hk; first | (cases hk; done) | exact ⟨_, hk, (KeysIn.nil _).out _ _, fun k' e' he => by simp only [mvS, he, hav]⟩
theorem extractS_loc {i : Nat} {dst : Option Nat} {k : Upd → Option R} (hk : extractS e st s i dst k = some res) :
    ∃ us, k us = some res ∧ KeysIn (dst.toList ++ [s]) us ∧ ∀ {R' : Type} (k' : Upd → Option R') (e' : Env), e'.get s = e.get s → extractS e' st s i dst k' = k' us := by
  unfold extractS at hk
  cases hav : Env.get e s with
  | tup vs =>
    rw [hav] at hk
    simp only at hk
    split at hk
    · rename_i v hv
      exact ⟨_, hk, (KeysIn.one (by simp) _).out _ _, fun k' e' he => by simp only [extractS, he, hav, hv]⟩
    · cases hk
  | _ => rw [hav] at hk; cases hk
theorem extractP_loc {i : Nat} {dst : Option Nat} {k : Upd → Option R} (hk : extractP e s i dst k = some res) :
    ∃ av, k (outU [] dst av) = some res ∧ ∀ {R' : Type} (k' : Upd → Option R') (e' : Env), e'.get s = e.get s → extractP e' s i dst k' = k' (outU [] dst av) := by
  unfold extractP at hk
  cases hav : Env.get e s with
  | tup vs =>
    rw [hav] at hk
    simp only at hk
    split at hk
    · rename_i d hv
      split at hk
      · rename_i hf
        exact ⟨_, hk, fun k' e' he => by simp only [extractP, he, hav, hv, if_pos hf]⟩
      · cases hk
    · cases hk
  | _ => rw [hav] at hk; cases hk
theorem argS_loc {k : Bool → AV → Option R} (hk : argS e s r k = some res) :
    ∃ b a, k b a = some res ∧ ∀ {R' : Type} (k' : Bool → AV → Option R') (e' : Env), Agree (s :: r.toList) e e' → argS e' s r k' = k' b a := by
  unfold argS at hk
  cases hav : Env.get e s with
  | val v =>
    rw [hav] at hk
    cases v with
    | one d =>
      cases d with
      | list o w rows => cases o with
        | true => cases hk
        | false => exact ⟨_, _, hk, fun k' e' he => by simp only [argS, he.get s (by simp), hav]⟩
      | _ => exact ⟨_, _, hk, fun k' e' he => by simp only [argS, he.get s (by simp), hav]⟩
    | mapv kv => cases hk
    | agg ds =>
      cases hp : plainL ds with
      | true => simp only [hp] at hk; exact ⟨_, _, hk, fun k' e' he => by simp only [argS, he.get s (by simp), hav, hp]⟩
      | false => simp only [hp] at hk; exact ⟨_, _, hk, fun k' e' he => by simp only [argS, he.get s (by simp), hav, hp]⟩
  | ref t j id =>
    rw [hav] at hk
    by_cases hr : r = some t
    · subst hr
      simp only [if_true] at hk
      obtain ⟨q, hq, hk⟩ := onSome_loc hk
      exact ⟨_, _, hk, fun k' e' he => by simp only [argS, he.get s (by simp), hav, ownAt_loc (he.get t (by simp)), hq, onSome, if_true]⟩
    · simp [hr] at hk
  | copy t ver =>
    rw [hav] at hk
    by_cases hr : r = some t
    · subst hr
      simp only [if_true] at hk
      split at hk
      · rename_i b ver' ds ht
        split at hk
        · rename_i hid
          exact ⟨_, _, hk, fun k' e' he => by simp only [argS, he.get s (by simp), hav, he.get t (by simp), ht, hid, if_true]⟩
        · cases hk
      · cases hk
    · simp [hr] at hk
  | _ => rw [hav] at hk; first | (cases hk; done) | exact ⟨_, _, hk, fun k' e' he => by simp only [argS, he.get s (by simp), hav]⟩

/-- What the arguments of a call may turn. -/
def mW : X → List Nat
  | .m s r => [s, r]
  | _ => []
theorem movesOf_loc {xs : List X} {acc : List V} {us0 : Upd} {k : List V → Upd → Option R} (hk : movesOf st e xs acc us0 k = some res) :
    ∃ vs us, k vs (us0 ++ us) = some res ∧ KeysIn (xs.flatMap mW) us ∧ ∀ {R' : Type} (k' : List V → Upd → Option R') (e' : Env), Agree (xs.flatMap xT) e e' → movesOf st e' xs acc us0 k' = k' vs (us0 ++ us) := by
  induction xs generalizing e acc us0 with
  | nil => exact ⟨_, [], by simpa [movesOf] using hk, .nil _, fun k' e' he => by simp [movesOf]⟩
  | cons x xs ih =>
    have plain : ∀ (_ : mW x = []) (_ : ∀ {R' : Type} (e : Env) (k : List V → Upd → Option R'), movesOf st e (x :: xs) acc us0 k = movesOf st e xs acc us0 k),
        ∃ vs us, k vs (us0 ++ us) = some res ∧ KeysIn ((x :: xs).flatMap mW) us ∧ ∀ {R' : Type} (k' : List V → Upd → Option R') (e' : Env), Agree ((x :: xs).flatMap xT) e e' → movesOf st e' (x :: xs) acc us0 k' = k' vs (us0 ++ us) := by
      intro h1 h2
      rw [h2] at hk
      obtain ⟨vs, us, g1, g2, g3⟩ := ih hk
      refine ⟨vs, us, g1, g2.mono fun t ht => by simp only [List.flatMap_cons, h1, List.nil_append]; exact ht, fun k' e' he => ?_⟩
      rw [h2]
      exact g3 k' e' (he.mono fun t ht => by simp only [List.flatMap_cons]; exact List.mem_append_right _ ht)
    cases x with
    | m s r =>
      simp only [movesOf] at hk
      obtain ⟨v, us1, h1, h2, h3⟩ := takeS_loc hk
      obtain ⟨vs, us, g1, g2, g3⟩ := ih h1
      refine ⟨vs, us1 ++ us, by rw [← List.append_assoc]; exact g1, KeysIn.app (h2.mono fun t ht => by simp [mW] at ht ⊢; rcases ht with h | h <;> simp [h]) (g2.mono fun t ht => by simp only [List.flatMap_cons]; exact List.mem_append_right _ ht), fun k' e' he => ?_⟩
      simp only [List.flatMap_cons] at he
      simp only [movesOf]
      rw [h3 _ e' (he.mono fun t ht => by simp [xT] at ht ⊢; rcases ht with h | h <;> simp [h])]
      rw [g3 k' _ ((he.mono fun t ht => List.mem_append_right _ ht).app us1), List.append_assoc]
    | _ => exact plain rfl fun _ _ => rfl
theorem argsOf_loc {xs : List X} {vs : List V} {b : Bool} {acc : List AV} {k : Bool → List AV → Option R} (hk : argsOf e xs vs b acc k = some res) :
    ∃ b' as, k b' as = some res ∧ ∀ {R' : Type} (k' : Bool → List AV → Option R') (e' : Env), Agree (xs.flatMap xT) e e' → argsOf e' xs vs b acc k' = k' b' as := by
  induction xs generalizing vs b acc with
  | nil => exact ⟨_, _, hk, fun _ _ _ => rfl⟩
  | cons x xs ih =>
    cases x with
    | m s r =>
      cases vs with
      | nil => simp [argsOf] at hk
      | cons v vs =>
        simp only [argsOf] at hk
        obtain ⟨b', as, h1, h2⟩ := ih hk
        exact ⟨b', as, h1, fun k' e' he => by simp only [argsOf]; exact h2 k' e' (he.mono fun t ht => by simp only [List.flatMap_cons]; exact List.mem_append_right _ ht)⟩
    | c d =>
      simp only [argsOf] at hk
      obtain ⟨b', as, h1, h2⟩ := ih hk
      exact ⟨b', as, h1, fun k' e' he => by simp only [argsOf]; exact h2 k' e' (he.mono fun t ht => by simp [xT] at ht ⊢; exact ht)⟩
    | k d =>
      simp only [argsOf] at hk
      obtain ⟨b', as, h1, h2⟩ := ih hk
      exact ⟨b', as, h1, fun k' e' he => by simp only [argsOf]; exact h2 k' e' (he.mono fun t ht => by simp [xT] at ht ⊢; exact ht)⟩
    | f f =>
      simp only [argsOf] at hk
      obtain ⟨b', as, h1, h2⟩ := ih hk
      exact ⟨b', as, h1, fun k' e' he => by simp only [argsOf]; exact h2 k' e' (he.mono fun t ht => by simp [xT] at ht ⊢; exact ht)⟩
    | t s =>
      simp only [argsOf] at hk
      obtain ⟨b1, a1, g1, g2⟩ := argS_loc hk
      obtain ⟨b', as, h1, h2⟩ := ih g1
      refine ⟨b', as, h1, fun k' e' he => ?_⟩
      simp only [List.flatMap_cons] at he
      simp only [argsOf]
      rw [g2 _ e' (he.mono fun t ht => List.mem_append_left _ ht)]
      exact h2 k' e' (he.mono fun t ht => List.mem_append_right _ ht)
    | a s r =>
      simp only [argsOf] at hk
      obtain ⟨b1, a1, g1, g2⟩ := argS_loc hk
      obtain ⟨b', as, h1, h2⟩ := ih g1
      refine ⟨b', as, h1, fun k' e' he => ?_⟩
      simp only [List.flatMap_cons] at he
      simp only [argsOf]
      rw [g2 _ e' (he.mono fun t ht => List.mem_append_left _ ht)]
      exact h2 k' e' (he.mono fun t ht => List.mem_append_right _ ht)
    | _ => simp [argsOf] at hk
theorem callK_loc {o : Option AV} {b : Bool} {us : Upd} {dst : Option Nat} {k : Upd → Option R} (hk : callK o b st us dst k = some res) :
    ∃ av, k (outU us dst av) = some res ∧ ∀ {R' : Type} (k' : Upd → Option R'), callK o b st us dst k' = k' (outU us dst av) := by
  cases o with
  | none => cases hk
  | some r =>
    simp only [callK] at hk
    cases hio : isIO r with
    | true => rw [hio] at hk; cases hk
    | false =>
      rw [hio] at hk
      cases b with
      | false => exact ⟨_, hk, fun k' => by simp only [callK, hio]⟩
      | true =>
        simp only at hk
        split at hk
        · rename_i h1; exact ⟨_, hk, fun k' => by simp only [callK, hio, if_pos h1]⟩
        · cases hk
theorem lendS_loc {s r : Nat} {k : V → AV → (V → Option AV) → Option R} (hk : lendS e st s r k = some res) :
    ∃ V mid back, k V mid back = some res ∧ ∀ {R' : Type} (k' : Go.Abs.V → AV → (Go.Abs.V → Option AV) → Option R') (e' : Env), Agree [s, r] e e' → lendS e' st s r k' = k' V mid back := by
  unfold lendS at hk
  cases hav : Env.get e s with
  | ref t j id =>
    rw [hav] at hk
    by_cases hr : t = r
    · subst hr
      cases j with
      | none =>
        simp only [if_true] at hk
        split at hk
        · rename_i id' w rows ht
          split at hk
          · rename_i hid
            exact ⟨_, _, _, hk, fun k' e' he => by simp only [lendS, he.get s (by simp), hav, he.get t (by simp), ht, hid, if_true]⟩
          · cases hk
        · cases hk
      | some j =>
        simp only [if_true] at hk
        split at hk
        · rename_i b ver ds ht
          split at hk
          · rename_i hid
            split at hk
            · rename_i w rows hj
              exact ⟨_, _, _, hk, fun k' e' he => by simp only [lendS, he.get s (by simp), hav, he.get t (by simp), ht, hid, if_true, hj]⟩
            · cases hk
          · cases hk
        · cases hk
    · cases j <;> simp [hr] at hk
  | copy t ver =>
    rw [hav] at hk
    by_cases hr : t = r
    · subst hr
      simp only [if_true] at hk
      split at hk
      · rename_i b ver' ds ht
        split at hk
        · rename_i hid
          exact ⟨_, _, _, hk, fun k' e' he => by simp only [lendS, he.get s (by simp), hav, he.get t (by simp), ht, hid, if_true]⟩
        · cases hk
      · cases hk
    · simp [hr] at hk
  | part t ver off n =>
    rw [hav] at hk
    by_cases hr : t = r
    · subst hr
      simp only [if_true] at hk
      split at hk
      · rename_i b ver' ds ht
        split at hk
        · rename_i hid
          split at hk
          · rename_i hle
            exact ⟨_, _, _, hk, fun k' e' he => by simp only [lendS, he.get s (by simp), hav, he.get t (by simp), ht, hid, if_true, if_pos hle]⟩
          · cases hk
        · cases hk
      · cases hk
    · simp [hr] at hk
  | cell t id i o =>
    rw [hav] at hk
    by_cases hr : t = r
    · subst hr
      simp only [if_true] at hk
      split at hk
      · rename_i id' w' rows ht
        split at hk
        · rename_i hid
          unfold rowLendK at hk
          split at hk
          · rename_i row hrow
            split at hk
            · rename_i w inner ho
              exact ⟨_, _, _, hk, fun k' e' he => by simp only [lendS, he.get s (by simp), hav, he.get t (by simp), ht, hid, if_true, rowLendK, hrow, ho]⟩
            · cases hk
          · cases hk
        · cases hk
      · cases hk
    · simp [hr] at hk
  | _ => rw [hav] at hk; cases hk
theorem calliK_loc {o : Option AV} {b : Bool} {r : Nat} {back : V → Option AV} {dst : Option Nat} {k : Upd → Option R} (hk : calliK o b st r back dst k = some res) :
    ∃ us, k us = some res ∧ KeysIn (dst.toList ++ [r]) us ∧ ∀ {R' : Type} (k' : Upd → Option R'), calliK o b st r back dst k' = k' us := by
  unfold calliK at hk
  split at hk
  · rename_i x y
    split at hk
    · cases hk
    · rename_i hs
      obtain ⟨av, h1, h2⟩ := onSome_loc hk
      exact ⟨_, h2, (KeysIn.one (by simp) _).out _ _, fun k' => by simp only [calliK, if_neg hs, h1, onSome]⟩
  · cases hk
end
end Go.Abs
set_option linter.unusedVariables false
set_option linter.unusedSimpArgs false
namespace Go.Abs
open Go

def optT : Option X → List Nat
  | none => []
  | some x => xT x
def opT : AOp → List Nat
  | .mv x => xT x
  | .rf x => xT x
  | .asg x => xT x
  | .frz x => xT x
  | .sub _ x lo hi => xT x ++ (optT lo ++ optT hi)
  | .ssub x lo hi => xT x ++ (optT lo ++ optT hi)
  | .errq _ x => xT x
  | .eqs _ x y => xT x ++ xT y
  | .frk s => [s]
  | .mrf s => [s]
  | .mset s r x y => [s, r] ++ (xT x ++ xT y)
  | .mend s r => [s, r]
  | .mget _ s r x => [s, r] ++ xT x
  | .mdel s r x => [s, r] ++ xT x
  | .mlen s r => [s, r]
  | .box x => xT x
  | .pick c a b => xT c ++ (xT a ++ xT b)
  | .build _ ps => (ps.map (·.2.2)).flatMap xT
  | .bslice _ _ _ ps => (ps.map (·.2)).flatMap xT
  | .load _ _ x => xT x
  | .store _ a x => xT x ++ xT a
  | .faddr _ x => xT x
  | .nc x => xT x
  | .iaddr _ x i => xT i ++ xT x
  | .aaddr _ _ x i => xT i ++ xT x
  | .field _ _ _ x => xT x
  | .sidx x i => xT i ++ xT x
  | .bin _ x y => xT x ++ xT y
  | .beq _ x y => xT x ++ xT y
  | .un _ x => xT x
  | .len x => xT x
  | .isnil x => xT x
  | .bstr s => [s]
  | .slen x => xT x
  | .mm _ x y => xT x ++ xT y
  | .append _ x y => xT x ++ xT y
  | .call _ as => as.flatMap xT
  | .calli _ s r as => [s, r] ++ as.flatMap xT
  | .boxk s => [s]
  | .extract x _ => xT x
  | .conv _ x => xT x
  | .mslice _ _ x => xT x
  | _ => []
def opW : AOp → List Nat
  | .mv x => xW x
  | .asg x => xW x
  | .frz x => xW x
  | .frk s => [s]
  | .mset _ r _ _ => [r]
  | .mend _ r => [r]
  | .mdel _ r _ => [r]
  | .box x => xW x
  | .build _ ps => (ps.map (·.2.2)).flatMap xW
  | .bslice _ _ _ ps => (ps.map (·.2)).flatMap xW
  | .store _ a x => xW x ++ xW a
  | .append _ x y => xW x ++ xW y
  | .extract x _ => xW x
  | .call _ as => as.flatMap mW
  | .calli _ _ r _ => [r]
  | .boxk s => [s]
  | _ => []
def opFree : AOp → Bool
  | .callv _ _ => false
  | .mkf _ _ => false
  | _ => true

section
variable {R : Type} {e : Env} {s st : Nat} {r : Option Nat} {res : R} {c : Orc} {glob : Nat → List D} {dst : Option Nat}

theorem peekO_loc {e : Env} {res : R} {x : Option X} {d : Int} {k : Int → Option R} (hk : peekO e x d k = some res) : ∃ n, k n = some res ∧ ∀ {R' : Type} (k' : Int → Option R') (e' : Env), Agree (optT x) e e' → peekO e' x d k' = k' n := by
  cases x with
  | none => exact ⟨d, hk, fun _ _ _ => rfl⟩
  | some x =>
    obtain ⟨i, n, h1, h2⟩ := peekInt_loc hk
    exact ⟨n, h1, fun k' e' he => h2 _ e' he⟩
theorem eqsK_loc {n : Nat} {v u : V} {res : R} {k : Bool → Option R} (hk : eqsK n v u k = some res) : ∃ r, k r = some res ∧ ∀ {R' : Type} (k' : Bool → Option R'), eqsK n v u k' = k' r := by
  unfold eqsK at hk
  split at hk
  · rename_i a b
    split at hk
    · rename_i hl
      unfold onSome at hk
      split at hk
      · rename_i r hr; exact ⟨r, hk, fun k' => by simp only [eqsK, if_pos hl, hr, onSome]⟩
      · cases hk
    · cases hk
  · cases hk
theorem ssubK_loc {v : V} {l h : Int} {res : R} {k : D → Option R} (hk : ssubK v l h k = some res) : ∃ d, k d = some res ∧ ∀ {R' : Type} (k' : D → Option R'), ssubK v l h k' = k' d := by
  unfold ssubK at hk
  split at hk
  · split at hk
    · rename_i hc; exact ⟨_, hk, fun k' => by simp only [ssubK]; exact if_pos hc⟩
    · cases hk
  · cases hk
theorem errK_loc {neg : Bool} {v : V} {res : R} {k : D → Option R} (hk : errK neg v k = some res) : ∃ d, k d = some res ∧ ∀ {R' : Type} (k' : D → Option R'), errK neg v k' = k' d := by
  unfold errK at hk
  split at hk
  · exact ⟨_, hk, fun k' => rfl⟩
  · cases hk
theorem subK_loc {w : Nat} {v : V} {l h : Int} {res : R} {k : D → Option R} (hk : subK w v l h k = some res) : ∃ d, k d = some res ∧ ∀ {R' : Type} (k' : D → Option R'), subK w v l h k' = k' d := by
  unfold subK at hk
  split at hk
  · rename_i w' rows
    split at hk
    · rename_i hc; exact ⟨_, hk, fun k' => by simp only [subK]; exact if_pos hc⟩
    · cases hk
  · cases hk
theorem opK_loc {o : AOp} (hf : opFree o = true) {k : Upd → Option R} (hk : opK c glob st dst o e k = some res) :
    ∃ us, k us = some res ∧ KeysIn (dst.toList ++ opW o) us ∧ ∀ {R' : Type} (k' : Upd → Option R') (e' : Env), Agree (opT o) e e' → opK c glob st dst o e' k' = k' us := by
  have out : ∀ av, KeysIn (dst.toList ++ []) (outU [] dst av) := fun av => (KeysIn.nil _).out _ _
  cases o with
  | mv x =>
    simp only [opK] at hk
    cases x with
    | c d => exact ⟨_, hk, out _, fun _ _ _ => rfl⟩
    | g d => exact ⟨_, hk, out _, fun _ _ _ => rfl⟩
    | f d => exact ⟨_, hk, out _, fun _ _ _ => rfl⟩
    | t s =>
      obtain ⟨us, h1, h2, h3⟩ := mvS_loc hk
      exact ⟨us, h1, h2, fun k' e' he => h3 k' e' (he.get s (by simp [opT, xT]))⟩
    | a s r =>
      obtain ⟨us, h1, h2, h3⟩ := mvS_loc hk
      exact ⟨us, h1, h2.mono fun t ht => by simp [opW, xW] at ht ⊢; rcases ht with h | h <;> simp [h], fun k' e' he => h3 k' e' (he.get s (by simp [opT, xT]))⟩
    | p s =>
      obtain ⟨v, h1, h2⟩ := peekS_loc hk
      exact ⟨_, h1, out _, fun k' e' he => h2 (fun v => k' (outU [] dst (.val v))) e' (he.get s (by simp [opT, xT]))⟩
    | m s r => cases hk
    | k d => cases hk
  | rf x =>
    simp only [opK] at hk
    cases x with
    | t s => obtain ⟨av, h1, h2⟩ := rfS_loc hk; exact ⟨_, h1, out _, fun k' e' he => h2 k' e' (he.get s (by simp [opT, xT]))⟩
    | a s r => obtain ⟨av, h1, h2⟩ := rfS_loc hk; exact ⟨_, h1, out _, fun k' e' he => h2 k' e' (he.get s (by simp [opT, xT]))⟩
    | _ => cases hk
  | asg x =>
    simp only [opK] at hk
    obtain ⟨v, us, h1, h2, h3⟩ := take_loc hk
    exact ⟨_, h1, h2.out _ _, fun k' e' he => h3 (fun v us => k' (outU us dst (AV.ofV st v))) e' he⟩
  | mkmap => exact ⟨_, hk, out _, fun _ _ _ => rfl⟩
  | eqs n x y =>
    simp only [opK] at hk
    obtain ⟨v, h1, h2⟩ := peek_loc hk
    obtain ⟨u, h3, h4⟩ := peek_loc h1
    obtain ⟨r, h5, h6⟩ := eqsK_loc h3
    refine ⟨_, h5, out _, fun k' e' he => ?_⟩
    simp only [opK]
    rw [h2 _ e' (he.mono fun t ht => List.mem_append_left _ ht), h4 _ e' (he.mono fun t ht => List.mem_append_right _ ht)]
    exact h6 _
  | frk s =>
    simp only [opK] at hk
    obtain ⟨us, h1, h2, h3⟩ := frkS_loc hk
    exact ⟨us, h1, h2, fun k' e' he => h3 k' e' (he.get s (by simp [opT]))⟩
  | sub w x lo hi =>
    simp only [opK] at hk
    obtain ⟨v, h1, h2⟩ := peek_loc hk
    obtain ⟨n1, h3, h4⟩ := peekO_loc h1
    obtain ⟨n2, h5, h6⟩ := peekO_loc h3
    obtain ⟨d, h7, h8⟩ := subK_loc h5
    refine ⟨_, h7, out _, fun k' e' he => ?_⟩
    simp only [opK]
    rw [h2 _ e' (he.mono fun t ht => List.mem_append_left _ ht), h4 _ e' (he.mono fun t ht => List.mem_append_right _ (List.mem_append_left _ ht)), h6 _ e' (he.mono fun t ht => List.mem_append_right _ (List.mem_append_right _ ht))]
    exact h8 _
  | ssub x lo hi =>
    simp only [opK] at hk
    obtain ⟨v, h1, h2⟩ := peek_loc hk
    obtain ⟨n1, h3, h4⟩ := peekO_loc h1
    obtain ⟨n2, h5, h6⟩ := peekO_loc h3
    obtain ⟨d, h7, h8⟩ := ssubK_loc h5
    refine ⟨_, h7, out _, fun k' e' he => ?_⟩
    simp only [opK]
    rw [h2 _ e' (he.mono fun t ht => List.mem_append_left _ ht), h4 _ e' (he.mono fun t ht => List.mem_append_right _ (List.mem_append_left _ ht)), h6 _ e' (he.mono fun t ht => List.mem_append_right _ (List.mem_append_right _ ht))]
    exact h8 _
  | errq neg x =>
    simp only [opK] at hk
    obtain ⟨v, h1, h2⟩ := peek_loc hk
    obtain ⟨d, h5, h6⟩ := errK_loc h1
    exact ⟨_, h5, out _, fun k' e' he => by simp only [opK]; rw [h2 _ e' he]; exact h6 _⟩
  | junk => exact ⟨_, hk, out _, fun _ _ _ => rfl⟩
  | mrf s =>
    simp only [opK] at hk
    obtain ⟨av, h1, h2⟩ := mrfS_loc hk
    exact ⟨_, h1, out _, fun k' e' he => h2 k' e' (he.get s (by simp [opT]))⟩
  | mend s r =>
    simp only [opK] at hk
    obtain ⟨id, kv, h0, h0'⟩ := mapS_loc hk
    exact ⟨_, h0, (KeysIn.one (by simp [opW]) _).out _ _, fun k' e' he => h0' _ e' (he.get s (by simp [opT])) (he.get r (by simp [opT]))⟩
  | mlen s r =>
    simp only [opK] at hk
    obtain ⟨id, kv, h0, h0'⟩ := mapS_loc hk
    exact ⟨_, h0, out _, fun k' e' he => h0' _ e' (he.get s (by simp [opT])) (he.get r (by simp [opT]))⟩
  | mget b s r x =>
    simp only [opK] at hk
    obtain ⟨id, kv, h0, h0'⟩ := mapS_loc hk
    obtain ⟨i, n, h1, h2⟩ := peekInt_loc h0
    split at h1
    · rename_i hi
      refine ⟨_, h1, out _, fun k' e' he => ?_⟩
      simp only [opK]
      rw [h0' _ e' (he.get s (by simp [opT])) (he.get r (by simp [opT])), h2 _ e' (he.mono fun t ht => List.mem_append_right _ ht), if_pos hi]
    · cases h1
  | mdel s r x =>
    simp only [opK] at hk
    obtain ⟨id, kv, h0, h0'⟩ := mapS_loc hk
    obtain ⟨i, n, h1, h2⟩ := peekInt_loc h0
    split at h1
    · rename_i hi
      refine ⟨_, h1, .one (by simp [opW]) _, fun k' e' he => ?_⟩
      simp only [opK]
      rw [h0' _ e' (he.get s (by simp [opT])) (he.get r (by simp [opT])), h2 _ e' (he.mono fun t ht => List.mem_append_right _ ht), if_pos hi]
    · cases h1
  | mset s r x y =>
    simp only [opK] at hk
    obtain ⟨id, kv, h0, h0'⟩ := mapS_loc hk
    obtain ⟨i, n, h1, h2⟩ := peekInt_loc h0
    split at h1
    · rename_i hi
      obtain ⟨i2, n2, h3, h4⟩ := peekInt_loc h1
      split at h3
      · rename_i hi2
        refine ⟨_, h3, .one (by simp [opW]) _, fun k' e' he => ?_⟩
        simp only [opK]
        rw [h0' _ e' (he.get s (by simp [opT])) (he.get r (by simp [opT])), h2 _ e' (he.mono fun t ht => List.mem_append_right _ (List.mem_append_left _ ht)), if_pos hi]
        rw [h4 _ e' (he.mono fun t ht => List.mem_append_right _ (List.mem_append_right _ ht)), if_pos hi2]
      · cases h3
    · cases h1
  | frz x =>
    simp only [opK] at hk
    obtain ⟨v, us, h1, h2, h3⟩ := take_loc hk
    exact ⟨_, h1, h2.out _ _, fun k' e' he => h3 (fun v us => k' (outU us dst (.val v.stale))) e' he⟩
  | box x =>
    simp only [opK] at hk
    obtain ⟨v, us, h1, h2, h3⟩ := take_loc hk
    exact ⟨_, h1, h2.out _ _, fun k' e' he => h3 (fun v us => k' (outU us dst (.box st st v.cells))) e' he⟩
  | pick x a b =>
    simp only [opK] at hk
    obtain ⟨t, h1, h2⟩ := peekBool_loc hk
    cases t with
    | true =>
      simp only [if_true] at h1
      obtain ⟨v, g1, g2⟩ := peek_loc h1
      refine ⟨_, g1, out _, fun k' e' he => ?_⟩
      simp only [opK]
      rw [h2 _ e' (he.mono fun t ht => List.mem_append_left _ ht)]
      simp only [if_true]
      exact g2 _ e' (he.mono fun t ht => List.mem_append_right _ (List.mem_append_left _ ht))
    | false =>
      simp at h1
      obtain ⟨v, g1, g2⟩ := peek_loc h1
      refine ⟨_, g1, out _, fun k' e' he => ?_⟩
      simp only [opK]
      rw [h2 _ e' (he.mono fun t ht => List.mem_append_left _ ht)]
      simp
      exact g2 _ e' (he.mono fun t ht => List.mem_append_right _ (List.mem_append_right _ ht))
  | alloc z => exact ⟨_, hk, out _, fun _ _ _ => rfl⟩
  | build z ps =>
    simp only [opK] at hk
    obtain ⟨vs, us, h1, h2, h3⟩ := takes_loc hk
    obtain ⟨ds, h4, h5⟩ := onSome_loc h1
    refine ⟨_, h5, (h2.mono fun t ht => ht).out _ _, fun k' e' he => ?_⟩
    simp only [opK]
    rw [h3 _ e' he, h4]
    rfl
  | bslice w n z ps =>
    simp only [opK] at hk
    obtain ⟨vs, us, h1, h2, h3⟩ := takes_loc hk
    obtain ⟨ds, h4, h5⟩ := onSome_loc h1
    refine ⟨_, h5, (h2.mono fun t ht => ht).out _ _, fun k' e' he => ?_⟩
    simp only [opK]
    rw [h3 _ e' he, h4]
    rfl
  | load agg n x =>
    simp only [opK] at hk
    obtain ⟨av, h1, h2⟩ := readAt_loc hk
    exact ⟨_, h1, out _, fun k' e' he => h2 _ e' he⟩
  | store n a x =>
    simp only [opK] at hk
    obtain ⟨v, us, h1, h2, h3⟩ := take_loc hk
    split at h1
    · rename_i hl
      obtain ⟨us2, g1, g2, g3⟩ := writeAt_loc h1
      have h4 : KeysIn (xW x ++ xW a) (us ++ us2) := KeysIn.app (h2.mono fun t ht => List.mem_append_left _ ht) (g2.mono fun t ht => List.mem_append_right _ ht)
      refine ⟨_, g1, h4.mono fun t ht => List.mem_append_right _ ht, fun k' e' he => ?_⟩
      · simp only [opK]
        rw [h3 _ e' (he.mono fun t ht => List.mem_append_left _ ht), if_pos hl]
        exact g3 k' _ ((he.mono fun t ht => List.mem_append_right _ ht).app us)
    · cases h1
  | faddr off x =>
    simp only [opK] at hk
    obtain ⟨av, h1, h2⟩ := offX_loc hk
    exact ⟨_, h1, out _, fun k' e' he => h2 _ e' he⟩
  | nc x =>
    simp only [opK] at hk
    obtain ⟨av, h1, h2⟩ := offX_loc hk
    exact ⟨_, h1, out _, fun k' e' he => h2 _ e' he⟩
  | iaddr w x i =>
    simp only [opK] at hk
    obtain ⟨ik, n, h1, h2⟩ := peekInt_loc hk
    split at h1
    · cases h1
    · rename_i h0
      cases x with
      | t s =>
        obtain ⟨av, g1, g2⟩ := iaddrS_loc h1
        refine ⟨_, g1, out _, fun k' e' he => ?_⟩
        simp only [opK]
        rw [h2 _ e' (he.mono fun t ht => List.mem_append_left _ ht), if_neg h0]
        exact g2 k' e' (he.mono fun t ht => List.mem_append_right _ ht)
      | a s r =>
        obtain ⟨av, g1, g2⟩ := iaddrS_loc h1
        refine ⟨_, g1, out _, fun k' e' he => ?_⟩
        simp only [opK]
        rw [h2 _ e' (he.mono fun t ht => List.mem_append_left _ ht), if_neg h0]
        exact g2 k' e' (he.mono fun t ht => List.mem_append_right _ ht)
      | _ => cases h1
  | aaddr len w x i =>
    simp only [opK] at hk
    obtain ⟨ik, n, h1, h2⟩ := peekInt_loc hk
    split at h1
    · rename_i h0
      obtain ⟨av, g1, g2⟩ := offX_loc h1
      refine ⟨_, g1, out _, fun k' e' he => ?_⟩
      simp only [opK]
      rw [h2 _ e' (he.mono fun t ht => List.mem_append_left _ ht), if_pos h0]
      exact g2 k' e' (he.mono fun t ht => List.mem_append_right _ ht)
    · cases h1
  | field agg off n x =>
    simp only [opK] at hk
    obtain ⟨v, h1, h2⟩ := peek_loc hk
    obtain ⟨av, g1, g2⟩ := fieldV_loc h1
    exact ⟨_, g1, out _, fun k' e' he => by simp only [opK]; rw [h2 _ e' he]; exact g2 _⟩
  | sidx x i =>
    simp only [opK] at hk
    obtain ⟨ik, n, h1, h2⟩ := peekInt_loc hk
    split at h1
    · cases h1
    · rename_i h0
      obtain ⟨v, g1, g2⟩ := peek_loc h1
      obtain ⟨av, g3, g4⟩ := strAt_loc g1
      refine ⟨_, g3, out _, fun k' e' he => ?_⟩
      simp only [opK]
      rw [h2 _ e' (he.mono fun t ht => List.mem_append_left _ ht), if_neg h0, g2 _ e' (he.mono fun t ht => List.mem_append_right _ ht)]
      exact g4 _
  | bin op x y =>
    simp only [opK] at hk
    obtain ⟨v, h1, h2⟩ := peek_loc hk
    obtain ⟨u, h3, h4⟩ := peek_loc h1
    obtain ⟨d, h5, h6⟩ := binV_loc h3
    exact ⟨_, h5, out _, fun k' e' he => by simp only [opK]; rw [h2 _ e' (he.mono fun t ht => List.mem_append_left _ ht), h4 _ e' (he.mono fun t ht => List.mem_append_right _ ht)]; exact h6 _⟩
  | beq neg x y =>
    simp only [opK] at hk
    obtain ⟨v, h1, h2⟩ := peek_loc hk
    obtain ⟨u, h3, h4⟩ := peek_loc h1
    obtain ⟨d, h5, h6⟩ := beqV_loc h3
    exact ⟨_, h5, out _, fun k' e' he => by simp only [opK]; rw [h2 _ e' (he.mono fun t ht => List.mem_append_left _ ht), h4 _ e' (he.mono fun t ht => List.mem_append_right _ ht)]; exact h6 _⟩
  | un op x =>
    simp only [opK] at hk
    obtain ⟨v, h1, h2⟩ := peek_loc hk
    obtain ⟨d, h5, h6⟩ := unV_loc h1
    exact ⟨_, h5, out _, fun k' e' he => by simp only [opK]; rw [h2 _ e' he]; exact h6 _⟩
  | mm mx x y =>
    simp only [opK] at hk
    obtain ⟨i, n, h1, h2⟩ := peekInt_loc hk
    obtain ⟨j, m, h3, h4⟩ := peekInt_loc h1
    split at h3
    · rename_i hij
      exact ⟨_, h3, out _, fun k' e' he => by simp only [opK]; rw [h2 _ e' (he.mono fun t ht => List.mem_append_left _ ht), h4 _ e' (he.mono fun t ht => List.mem_append_right _ ht), if_pos hij]⟩
    · cases h3
  | slen x =>
    simp only [opK] at hk
    obtain ⟨v, h1, h2⟩ := peek_loc hk
    obtain ⟨d, h5, h6⟩ := slenV_loc h1
    exact ⟨_, h5, out _, fun k' e' he => by simp only [opK]; rw [h2 _ e' he]; exact h6 _⟩
  | len x =>
    simp only [opK] at hk
    obtain ⟨n, h1, h2⟩ := lenOf_loc hk
    exact ⟨_, h1, out _, fun k' e' he => h2 _ e' he⟩
  | bstr s =>
    simp only [opK] at hk
    split at hk
    · rename_i id n hs
      exact ⟨_, hk, out _, fun k' e' he => by simp only [opK, he.get s (by simp [opT]), hs]⟩
    · cases hk
  | isnil x =>
    simp only [opK] at hk
    obtain ⟨n, h1, h2⟩ := lenOf_loc hk
    exact ⟨_, h1, out _, fun k' e' he => h2 _ e' he⟩
  | append w x y =>
    simp only [opK] at hk
    obtain ⟨v, us, h1, h2, h3⟩ := take_loc hk
    obtain ⟨u, us2, g1, g2, g3⟩ := take_loc h1
    obtain ⟨rows, g4, g5⟩ := appendV_loc g1
    refine ⟨_, g4, (KeysIn.app (h2.mono fun t ht => List.mem_append_left _ ht) (g2.mono fun t ht => List.mem_append_right _ ht)).out _ _, fun k' e' he => ?_⟩
    simp only [opK]
    rw [h3 _ e' (he.mono fun t ht => List.mem_append_left _ ht), g3 _ _ ((he.mono fun t ht => List.mem_append_right _ ht).app us)]
    exact g5 _
  | mslice w z l =>
    simp only [opK] at hk
    obtain ⟨ik, n, h1, h2⟩ := peekInt_loc hk
    split at h1
    · rename_i h0
      exact ⟨_, h1, out _, fun k' e' he => by simp only [opK]; rw [h2 _ e' he, if_pos h0]⟩
    · cases h1
  | call f as =>
    simp only [opK] at hk
    obtain ⟨vs, us, g1, g2, g3⟩ := movesOf_loc hk
    simp only [List.nil_append] at g1 g3
    obtain ⟨b, xs, h1, h2⟩ := argsOf_loc g1
    obtain ⟨av, h3, h4⟩ := callK_loc h1
    refine ⟨_, h3, g2.out _ _, fun k' e' he => ?_⟩
    simp only [opK]
    rw [g3 _ e' he, h2 _ _ (he.app us)]
    exact h4 _
  | calli f s r as =>
    simp only [opK] at hk
    obtain ⟨V, mid, back, g1, g3⟩ := lendS_loc hk
    obtain ⟨b, xs, h1, h2⟩ := argsOf_loc g1
    obtain ⟨us, h3, h4, h5⟩ := calliK_loc h1
    refine ⟨us, h3, h4, fun k' e' he => ?_⟩
    simp only [opK]
    rw [g3 _ e' (he.mono fun t ht => List.mem_append_left _ ht), h2 _ _ ((he.mono fun t ht => List.mem_append_right _ ht).upd r mid)]
    exact h5 _
  | boxk s =>
    simp only [opK] at hk
    split at hk
    · rename_i _ _ d ds hs
      refine ⟨_, hk, ?_, fun k' e' he => ?_⟩
      · intro p hp; simp at hp; rcases hp with rfl | rfl <;> simp [opW]
      · simp only [opK, he.get s (by simp [opT]), hs]
    · cases hk
  | extract x i =>
    simp only [opK] at hk
    cases x with
    | t s => obtain ⟨us, h1, h2, h3⟩ := extractS_loc hk; exact ⟨us, h1, h2, fun k' e' he => h3 k' e' (he.get s (by simp [opT, xT]))⟩
    | a s r =>
      obtain ⟨us, h1, h2, h3⟩ := extractS_loc hk
      exact ⟨us, h1, h2.mono fun t ht => by simp [opW, xW] at ht ⊢; rcases ht with h | h <;> simp [h], fun k' e' he => h3 k' e' (he.get s (by simp [opT, xT]))⟩
    | p s => obtain ⟨av, h1, h2⟩ := extractP_loc hk; exact ⟨_, h1, out _, fun k' e' he => h2 k' e' (he.get s (by simp [opT, xT]))⟩
    | _ => cases hk
  | conv i x =>
    simp only [opK] at hk
    obtain ⟨ik, n, h1, h2⟩ := peekInt_loc hk
    exact ⟨_, h1, out _, fun k' e' he => h2 _ e' he⟩
  | callv x as => cases hf
  | mkf f cs => cases hf
end
end Go.Abs
