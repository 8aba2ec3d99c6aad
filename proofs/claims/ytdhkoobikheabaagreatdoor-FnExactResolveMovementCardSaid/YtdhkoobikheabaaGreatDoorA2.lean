import Derived.Test.YtdhkoobikheabaaGreatDoorA1
import Derived.Orders
import Derived.LoopN
import Derived.Laws.IdiomRangeMap
set_option linter.unusedVariables false
set_option linter.unusedSimpArgs false
namespace Go.Abs
open Go

theorem Env.upd_same : ∀ {e : Env} {t : Nat} {v : AV}, e.get t = v → t < e.length → e.upd t v = e
  | [], t, v, h, hl => by simp at hl
  | x :: l, 0, v, h, hl => by simp [Env.get] at h; simp [Env.upd, h]
  | x :: l, t + 1, v, h, hl => by simp [Env.upd, Env.upd_same (e := l) (t := t) (by simpa [Env.get] using h) (by simpa using hl)]
theorem Env.get_in {e : Env} {t : Nat} (h : e.get t ≠ .dead) : t < e.length := by
  rcases Nat.lt_or_ge t e.length with h' | h'
  · exact h'
  · exact absurd (Env.get_out e t h') h

section
variable {R : Type}
def gstep (c : Orc) (glob : Nat → List D) (st : Nat) (o : AOper) (e : Env) (k : Env → Option R) : Option R :=
  match o.guard with
  | none => opK c glob st o.dst o.op e fun us => k (e.app us)
  | some (t, b) => match Env.get e t with
    | .val (.one (.bool v)) => if v = b then opK c glob st o.dst o.op e fun us => k (e.app us) else k (e.app (outU [] o.dst .undef))
    | .undef => k (e.app (outU [] o.dst .undef))
    | _ => none
theorem evalOps_cons (c : Orc) (glob : Nat → List D) (st : Nat) (o : AOper) (os : List AOper) (e : Env) (k : Nat → Env → Option R) :
    evalOps c glob st (o :: os) e k = gstep c glob st o e fun e' => evalOps c glob (st + 1) os e' k := by
  simp only [evalOps, gstep]
  cases hg : o.guard with
  | none => rfl
  | some p =>
    obtain ⟨t, b⟩ := p
    simp only
    cases hav : Env.get e t with
    | val v => cases v with
      | one d => cases d with
        | bool v =>
          have h1 : ∀ v', v' = v → Env.upd e t (.val (.one (.bool v'))) = e := fun v' hv => Env.upd_same (by rw [hav, hv]) (Env.get_in (by rw [hav]; simp))
          cases v <;> cases b <;> simp [h1 _ rfl]
        | _ => rfl
      | agg ds => rfl
      | mapv kv => rfl
    | _ => rfl
end

def okGuard (ops : Array Oper) (o : Oper) (ao : AOper) : Bool :=
  match o.guard, ao.guard with
  | none, none => true
  | some (j, b), some (t, b') => b == b' && (match ops[j]? with | some oj => oj.dst == some t | none => false)
  | _, _ => false
/-- A slot that is not written. -/
def unpinned (pn : Nat → Bool) : Option Nat → Bool
  | some d => !pn d
  | none => true
def okOper (P : Program) (pn : Nat → Bool) (ops : Array Oper) (o : Oper) (ao : AOper) : Bool := okGuard ops o ao && ao.dst == o.dst && okOp P o ao.op && unpinned pn ao.dst

section
variable {R : Type} {ok0 mine u : Nat → Prop} {e : Env} {w w' : World} {fp : Nat → List Nat} {st q : Nat} {res : R} {glob : Nat → List D} {P : Program} {o : Oper} {a : Act} {Q : Exit → Act → World → Prop} {ops : Array Oper} {pn : Nat → Bool}

/-- Behind an operation that may have a guard. -/
def GPost (ok0 mine u : Nat → Prop) (st : Nat) (k : Env → Option R) (res : R) (d : Option Nat) (a : Act) (w : World) (a' : Act) (w' : World) : Prop :=
  a'.defers = a.defers ∧ a'.tmps.size = a.tmps.size ∧ (∀ s, d ≠ some s → a'.tmps[s]? = a.tmps[s]?) ∧ Fr mine w w' ∧ ∃ e' fp', k e' = some res ∧ Sim ok0 mine (fun k => u k ∨ k = st) (fun k => u k ∨ k = st) e' a'.tmps w' fp'
theorem gop_sound (h : Here ok0 mine u glob e a.tmps w fp st) {c : Orc} (hc : ∀ f args r, c f args = some r → CallOK P f glob args r) {ao : AOper} (hok : okOper P pn ops o ao = true) {k : Env → Option R} (hk : gstep c glob st ao e k = some res) :
    if Region.wanted o (yielded ops a.tmps) then o.wp P a w (GPost ok0 mine u st k res o.dst a w) Q else GPost ok0 mine u st k res o.dst a w (a.put o.dst undef) w := by
  simp only [okOper, Bool.and_eq_true, beq_iff_eq] at hok
  obtain ⟨⟨⟨hg, hd⟩, hop⟩, _⟩ := hok
  have run : opK c glob st ao.dst ao.op e (fun us => k (e.app us)) = some res → o.wp P a w (GPost ok0 mine u st k res o.dst a w) Q := by
    intro hk
    rw [hd] at hk
    refine Oper.wp_mono (fun a' w' hh => ?_) (op_sound h hc hop hk)
    obtain ⟨h1, h2, hp, h3, us, fp', h4, h5⟩ := hh
    exact ⟨h1, h2, hp, h3, _, fp', h4, h5⟩
  have skip : k (e.app (outU [] ao.dst .undef)) = some res → GPost ok0 mine u st k res o.dst a w (a.put o.dst undef) w := by
    intro hk
    obtain ⟨us, fp', h4, h5⟩ := h.found (v := undef) (av := .undef) (dst := o.dst) (k := fun us => k (e.app us)) ⟨.undef, trivial, fun _ h => (by cases h), no_undef⟩ (by rw [← hd]; exact hk)
    exact ⟨put_defers .., by rw [putT_eq, putT_size], fun _ hd => by rw [putT_eq]; exact putT_pin hd, .refl _ _, _, fp', h4, by rw [putT_eq]; exact h5⟩
  unfold gstep at hk
  unfold okGuard at hg
  cases hag : ao.guard with
  | none =>
    rw [hag] at hk hg
    cases hog : o.guard with
    | some p => rw [hog] at hg; cases hg
    | none =>
      have : Region.wanted o (yielded ops a.tmps) = true := by unfold Region.wanted; rw [hog]
      rw [if_pos this]
      exact run hk
  | some p =>
    obtain ⟨t, b⟩ := p
    rw [hag] at hk hg
    cases hog : o.guard with
    | none => rw [hog] at hg; cases hg
    | some p =>
      obtain ⟨j, b'⟩ := p
      rw [hog] at hg
      simp only [Bool.and_eq_true, beq_iff_eq] at hg hk
      obtain ⟨rfl, hj⟩ := hg
      split at hj
      · rename_i oj hoj
        have hoj' : oj.dst = some t := by simpa using hj
        have hy : yielded ops a.tmps j = match a.tmps[t]? with | some (.bool b) => some b | _ => none := by
          unfold yielded
          rw [hoj]
          simp only [Option.bind_some, hoj']
          cases a.tmps[t]? with
          | none => rfl
          | some v => cases v <;> rfl
        have hwant : Region.wanted o (yielded ops a.tmps) = (yielded ops a.tmps j == some b') := by unfold Region.wanted; rw [hog]
        cases hav : Env.get e t with
        | val v =>
          rw [hav] at hk
          cases v with
          | agg ds => cases hk
          | mapv kv => cases hk
          | one d =>
            cases d with
            | bool v =>
              simp only at hk
              obtain ⟨x, hx, _⟩ := h.sim.slot (s := t) (by rw [hav]; simp)
              have hr := h.sim.rel t x hx
              rw [hav] at hr
              have h1 := hr.val_inv.one_inv
              have hxv : x = .bool v := by
                generalize fp t = B at h1
                cases h1; rfl
              rw [hx, hxv] at hy
              simp only at hy
              by_cases hv : v = b'
              · rw [if_pos hv] at hk
                rw [if_pos (by rw [hwant, hy, hv]; simp)]
                exact run hk
              · rw [if_neg hv] at hk
                rw [if_neg (by rw [hwant, hy]; simpa using hv)]
                exact skip hk
            | _ => cases hk
        | undef =>
          rw [hav] at hk
          simp only at hk
          obtain ⟨x, hx, _⟩ := h.sim.slot (s := t) (by rw [hav]; simp)
          have hr := h.sim.rel t x hx
          rw [hav] at hr
          have hxv : x = undef := by
            generalize fp t = B at hr
            cases hr; rfl
          rw [hx, hxv] at hy
          rw [if_neg (by rw [hwant, hy]; simp [undef])]
          exact skip hk
        | _ => rw [hav] at hk; cases hk
      · cases hj

/-- What holds of a frame while a run of operations goes on. -/
structure In (ok0 mine : Nat → Prop) (glob : Nat → List D) (pn : Nat → Bool) (a0 : Act) (w0 : World) (u : Nat → Prop) (e : Env) (a : Act) (w : World) : Prop where
  sim : ∃ fp, Sim ok0 mine u u e a.tmps w fp ∧ ∀ s, a.tmps.size ≤ s → fp s = []
  defers : a.defers = a0.defers
  size : a.tmps.size = a0.tmps.size
  pin : ∀ s, pn s = true → a.tmps[s]? = a0.tmps[s]?
  fr : Fr mine w0 w
/-- What holds of the world at the start. -/
structure Base (ok0 mine : Nat → Prop) (glob : Nat → List D) (w0 : World) : Prop where
  big : ∀ k, w0.heap.size ≤ k → mine k
  mok : ∀ k, mine k → ok0 k
  glob : GlobOK ok0 mine glob w0
theorem GlobOK.fr {w w' : World} (h : GlobOK ok0 mine glob w) (hf : Fr mine w w') : GlobOK ok0 mine glob w' := by
  intro g
  obtain ⟨vs, hr, hc, hw⟩ := h g
  refine ⟨vs, ?_, fun j x hj => ?_, fun hne hna => ?_⟩
  · exact hr.step (fun _ _ h => h) fun k hk hh => hh.elim (fun h => h.elim) fun h => by cases h
  · obtain ⟨⟨h1, h2⟩, h3⟩ := hc j x hj
    exact ⟨⟨h1, h2⟩, (World.cell?_of_block (hf.block g (World.block_lt_of_cell? w _ h3) h2)).trans h3⟩
  · obtain ⟨E, k, hb⟩ := hw hne hna
    cases vs with
    | nil => exact absurd rfl hne
    | cons v vs =>
      obtain ⟨⟨h1, h2⟩, h3⟩ := hc 0 v rfl
      exact ⟨E, k, (hf.block g (World.block_lt_of_cell? w _ h3) h2).trans hb⟩
theorem In.here {a0 : Act} {w0 : World} (hb : Base ok0 mine glob w0) (h : In ok0 mine glob pn a0 w0 u e a w) (hst : ¬ u st) : ∃ fp, Here ok0 mine u glob e a.tmps w fp st := by
  obtain ⟨fp, h1, h2⟩ := h.sim
  exact ⟨fp, h1, h2, hst, fun k hk => hb.big k (Nat.le_trans h.fr.size hk), hb.mok, hb.glob.fr h.fr⟩
theorem In.post {a0 : Act} {w0 : World} (h : In ok0 mine glob pn a0 w0 u e a w) {k : Env → Option R} {a' : Act} {d : Option Nat} (hd : ∀ s, pn s = true → d ≠ some s) (hp : GPost ok0 mine u st k res d a w a' w') : ∃ e', k e' = some res ∧ In ok0 mine glob pn a0 w0 (fun k => u k ∨ k = st) e' a' w' := by
  obtain ⟨h1, h2, hpin, h3, e', fp', h4, h5⟩ := hp
  obtain ⟨fp2, h6, h7⟩ := h5.clean
  exact ⟨e', h4, ⟨fp2, h6, h7⟩, h1.trans h.defers, h2.trans h.size, fun s hp => (hpin s (hd s hp)).trans (h.pin s hp), h.fr.trans h3⟩
/-- One operation of a region. -/
theorem wpOp_sound {a0 : Act} {w0 : World} (hb : Base ok0 mine glob w0) (h : In ok0 mine glob pn a0 w0 u e a w) (hst : ¬ u st) {c : Orc} (hc : ∀ f args r, c f args = some r → CallOK P f glob args r) {i : Nat} (ho : ops[i]? = some o) {ao : AOper} (hok : okOper P pn ops o ao = true)
    {k : Env → Option R} (hk : gstep c glob st ao e k = some res) {K : Act → World → Prop} (hK : ∀ e' a' w', k e' = some res → In ok0 mine glob pn a0 w0 (fun k => u k ∨ k = st) e' a' w' → K a' w') : wpOp P ops Q i K a w := by
  obtain ⟨fp, hh⟩ := h.here hb hst
  have hg := gop_sound (Q := Q) hh hc hok hk
  have hd : ∀ s, pn s = true → o.dst ≠ some s := by
    intro s hp h0
    simp only [okOper, Bool.and_eq_true, beq_iff_eq] at hok
    have h1 := hok.2
    rw [hok.1.1.2, h0] at h1
    simp [unpinned, hp] at h1
  unfold wpOp
  rw [ho]
  simp only
  split
  · rename_i hw
    rw [if_pos hw] at hg
    exact .inl (Oper.wp_mono (fun a' w' hp => by obtain ⟨e', h1, h2⟩ := h.post hd hp; exact hK e' a' w' h1 h2) hg)
  · rename_i hw
    rw [if_neg hw] at hg
    obtain ⟨e', h1, h2⟩ := h.post hd hg
    exact hK e' _ _ h1 h2

def okOpers (P : Program) (pn : Nat → Bool) (ops : Array Oper) : List Oper → List AOper → Bool
  | [], [] => true
  | o :: os, ao :: aos => okOper P pn ops o ao && okOpers P pn ops os aos
  | _, _ => false
/-- A region in the order of the text. -/
theorem ops_sound {a0 : Act} {w0 : World} (hb : Base ok0 mine glob w0) {c : Orc} (hc : ∀ f args r, c f args = some r → CallOK P f glob args r) {k : Nat → Env → Option R} : ∀ (os : List Oper) (aos : List AOper) (n : Nat) (u : Nat → Prop) (st : Nat) (e : Env) (a : Act) (w : World),
    (∀ j, os[j]? = ops[n + j]?) → okOpers P pn ops os aos = true → In ok0 mine glob pn a0 w0 u e a w → (∀ s, st ≤ s → ¬ u s) → evalOps c glob st aos e k = some res →
    (∀ e' a' w' u', k (st + aos.length) e' = some res → In ok0 mine glob pn a0 w0 u' e' a' w' → (∀ s, st + aos.length ≤ s → ¬ u' s) → Q .normal a' w') → wpOps P ops Q (List.range' n os.length) a w
  | [], [], n, u, st, e, a, w, _, _, hin, hu, hk, hQ => by simpa [wpOps] using hQ e a w u (by simpa [evalOps] using hk) hin (by simpa using hu)
  | [], _ :: _, _, _, _, _, _, _, _, h, _, _, _, _ => by cases h
  | _ :: _, [], _, _, _, _, _, _, _, h, _, _, _, _ => by cases h
  | o :: os, ao :: aos, n, u, st, e, a, w, hos, hok, hin, hu, hk, hQ => by
    simp only [okOpers, Bool.and_eq_true] at hok
    rw [evalOps_cons] at hk
    rw [List.length_cons, List.range'_succ, wpOps_cons]
    have ho : ops[n]? = some o := by have := hos 0; simpa using this.symm
    refine wpOp_sound hb hin (hu st (Nat.le_refl _)) hc ho hok.1 hk fun e' a' w' hk' hin' => ?_
    refine ops_sound hb hc os aos (n + 1) _ (st + 1) e' a' w' (fun j => ?_) hok.2 hin' (fun s hs hh => ?_) hk' fun e2 a2 w2 u2 h1 h2 h3 => ?_
    · have := hos (j + 1); rw [List.getElem?_cons_succ] at this; rw [this]; congr 1; omega
    · rcases hh with hh | hh
      · exact hu s (by omega) hh
      · omega
    · have e1 : st + 1 + aos.length = st + (ao :: aos).length := by simp; omega
      rw [e1] at h1 h3
      exact hQ e2 a2 w2 u2 h1 h2 h3
end
end Go.Abs
set_option linter.unusedVariables false
set_option linter.unusedSimpArgs false
namespace Go.Abs
open Go

theorem get_app_out {e : Env} {us : Upd} {t : Nat} (h : ∀ p ∈ us, p.1 ≠ t) : (e.app us).get t = e.get t := by
  induction us generalizing e with
  | nil => rfl
  | cons u us ih =>
    obtain ⟨s, v⟩ := u
    simp only [Env.app]
    rw [ih fun p hp => h p (List.mem_cons_of_mem _ hp), Env.get_upd, if_neg fun hh => h (s, v) (List.mem_cons_self ..) hh.1.symm]
theorem app_comm {e : Env} {a b : Upd} (h : ∀ p ∈ a, ∀ q ∈ b, p.1 ≠ q.1) : (e.app a).app b = (e.app b).app a := by
  refine Env.ext_get (by simp only [Env.app_length]) fun s => ?_
  by_cases hb : ∃ q ∈ b, q.1 = s
  · obtain ⟨q, hq, rfl⟩ := hb
    rw [get_app_out (us := a) fun p hp => h p hp q hq]
    have : Agree [q.1] e (e.app a) := ⟨Env.app_length _ _, fun t ht => by simp at ht; subst ht; exact get_app_out fun p hp => h p hp q hq⟩
    exact (this.app b).get _ (by simp)
  · have hb' : ∀ q ∈ b, q.1 ≠ s := fun q hq hh => hb ⟨q, hq, hh⟩
    rw [get_app_out hb']
    have : Agree [s] e (e.app b) := ⟨Env.app_length _ _, fun t ht => by simp at ht; subst ht; exact get_app_out hb'⟩
    exact ((this.app a).get _ (by simp)).symm

def oT (o : AOper) : List Nat := (match o.guard with | some (t, _) => [t] | none => []) ++ opT o.op
def oW (o : AOper) : List Nat := o.dst.toList ++ opW o.op
def disj (a b : List Nat) : Bool := a.all fun t => !b.contains t
theorem disj_spec {a b : List Nat} (h : disj a b = true) : ∀ t ∈ a, t ∉ b := by
  intro t ht hb
  have := List.all_eq_true.1 h t ht
  simp [hb] at this
def indep (x y : AOper) : Bool := disj (oW x) (oT y) && disj (oW y) (oT x) && disj (oW x) (oW y)

section
variable {R : Type} {c : Orc} {glob : Nat → List D} {st : Nat} {e : Env} {res : R}
theorem gstep_loc {ao : AOper} (hf : opFree ao.op = true) {k : Env → Option R} (hk : gstep c glob st ao e k = some res) :
    ∃ us, k (e.app us) = some res ∧ KeysIn (oW ao) us ∧ ∀ {R' : Type} (k' : Env → Option R') (e' : Env), Agree (oT ao) e e' → gstep c glob st ao e' k' = k' (e'.app us) := by
  have hskip : KeysIn (oW ao) (outU [] ao.dst .undef) := ((KeysIn.nil (opW ao.op)).out _ _)
  unfold gstep at hk
  cases hg : ao.guard with
  | none =>
    rw [hg] at hk
    obtain ⟨us, h1, h2, h3⟩ := opK_loc hf hk
    refine ⟨us, h1, h2, fun k' e' he => ?_⟩
    unfold gstep
    rw [hg]
    exact h3 _ e' (he.mono fun t ht => List.mem_append_right _ ht)
  | some p =>
    obtain ⟨t, b⟩ := p
    rw [hg] at hk
    simp only at hk
    have hT : ∀ e', Agree (oT ao) e e' → e'.get t = e.get t := fun e' he => he.get t (by simp [oT, hg])
    cases hav : Env.get e t with
    | val v =>
      rw [hav] at hk
      cases v with
      | agg ds => cases hk
      | mapv kv => cases hk
      | one d =>
        cases d with
        | bool v =>
          simp only at hk
          by_cases hv : v = b
          · rw [if_pos hv] at hk
            obtain ⟨us, h1, h2, h3⟩ := opK_loc hf hk
            refine ⟨us, h1, h2, fun k' e' he => ?_⟩
            unfold gstep
            rw [hg]
            simp only [hT e' he, hav, if_pos hv]
            exact h3 _ e' (he.mono fun t ht => List.mem_append_right _ ht)
          · rw [if_neg hv] at hk
            refine ⟨_, hk, hskip, fun k' e' he => ?_⟩
            unfold gstep
            rw [hg]
            simp only [hT e' he, hav, if_neg hv]
        | _ => cases hk
    | undef =>
      rw [hav] at hk
      refine ⟨_, hk, hskip, fun k' e' he => ?_⟩
      unfold gstep
      rw [hg]
      simp only [hT e' he, hav]
    | _ => rw [hav] at hk; cases hk
theorem gstep_comm {x y : AOper} {s1 s2 : Nat} (hx : opFree x.op = true) (hy : opFree y.op = true) (hi : indep x y = true) {e1 e2 : Env} (h1 : gstep c glob s1 x e some = some e1) (h2 : gstep c glob s2 y e1 some = some e2) :
    ∃ e1', gstep c glob s2 y e some = some e1' ∧ gstep c glob s1 x e1' some = some e2 := by
  simp only [indep, Bool.and_eq_true] at hi
  obtain ⟨⟨d1, d2⟩, d3⟩ := hi
  obtain ⟨us, a1, a2, a3⟩ := gstep_loc hx h1
  obtain ⟨vs, b1, b2, b3⟩ := gstep_loc hy h2
  obtain rfl := Option.some.inj a1
  obtain rfl := Option.some.inj b1
  refine ⟨e.app vs, b3 some e ⟨(Env.app_length _ _).symm, fun t ht => (get_app_out fun p hp hh => disj_spec d1 _ (a2 p hp) (hh ▸ ht)).symm⟩, ?_⟩
  rw [a3 some (e.app vs) ⟨Env.app_length _ _, fun t ht => get_app_out fun p hp hh => disj_spec d2 _ (b2 p hp) (hh ▸ ht)⟩]
  rw [app_comm fun p hp q hq hh => disj_spec d3 _ (a2 p hp) (hh ▸ b2 q hq)]
end

/-- Two parts of one tuple, drawn apart. -/
def parts (x y : AOper) : Bool :=
  match x.guard, x.dst, x.op, y.guard, y.dst, y.op with
  | none, some d, .extract (.t s) i, none, some d', .extract (.t s') j => s == s' && i != j && d != d' && d != s && d' != s
  | none, some d, .extract (.t s) i, none, some d', .extract (.p s') j => s == s' && i != j && d != d' && d != s && d' != s
  | none, some d, .extract (.p s) i, none, some d', .extract (.t s') j => s == s' && i != j && d != d' && d != s && d' != s
  | none, some d, .extract (.p s) i, none, some d', .extract (.p s') j => s == s' && i != j && d != d' && d != s && d' != s
  | _, _, _, _, _, _ => false
/-- Part i of the tuple at s, with (m) or without its going. -/
def partK (m : Bool) (st s i d : Nat) (e : Env) : Option Env :=
  match Env.get e s with
  | .tup vs => match vs[i]? with
    | some (some v) => if m = true then some ((e.upd s (.tup (vs.set i none))).upd d (AV.ofV st v)) else (match v with | .one a => if flatD a = true then some (e.upd d (.val (.one a))) else none | _ => none)
    | _ => none
  | _ => none
section
variable {c : Orc} {glob : Nat → List D} {e : Env}
theorem partK_t (st s i d : Nat) (e : Env) : (opK c glob st (some d) (.extract (.t s) i) e fun us => some (e.app us)) = partK true st s i d e := by
  simp only [opK, extractS, partK]
  cases Env.get e s with
  | tup vs =>
    simp only
    cases vs[i]? with
    | none => rfl
    | some x => cases x <;> simp [outU, Env.app]
  | _ => rfl
theorem partK_p (st s i d : Nat) (e : Env) : (opK c glob st (some d) (.extract (.p s) i) e fun us => some (e.app us)) = partK false st s i d e := by
  simp only [opK, extractP, partK]
  cases Env.get e s with
  | tup vs =>
    simp only
    cases vs[i]? with
    | none => rfl
    | some x => cases x with
      | none => rfl
      | some v => cases v with
        | agg => rfl
        | mapv => rfl
        | one a => simp [outU, Env.app]
  | _ => rfl
theorem upd_comm {e : Env} {s t : Nat} (h : s ≠ t) (a b : AV) : (e.upd s a).upd t b = (e.upd t b).upd s a := by
  have := app_comm (e := e) (a := [(s, a)]) (b := [(t, b)]) (by simp [h])
  simpa [Env.app] using this
theorem upd_over (e : Env) (s : Nat) (a b : AV) : (e.upd s a).upd s b = e.upd s b := by
  refine Env.ext_get (by simp only [Env.upd_length]) fun t => ?_
  simp only [Env.get_upd, Env.upd_length]
  split <;> rfl
theorem partK_comm {m m' : Bool} {s1 s2 s i j d d' : Nat} {e1 e2 : Env} (hij : i ≠ j) (hd : d ≠ d') (hds : d ≠ s) (hds' : d' ≠ s) (h1 : partK m s1 s i d e = some e1) (h2 : partK m' s2 s j d' e1 = some e2) :
    ∃ e1', partK m' s2 s j d' e = some e1' ∧ partK m s1 s i d e1' = some e2 := by
  have gets : ∀ (e : Env) (t : Nat) (x : AV), t ≠ s → (e.upd t x).get s = e.get s := fun e t x ht => by rw [Env.get_upd, if_neg fun hh => ht hh.1.symm]
  unfold partK at h1
  split at h1
  · rename_i vs hs
    have hsl : s < e.length := Env.get_in (by rw [hs]; simp)
    split at h1
    · rename_i v hv
      have hget1 : ∃ vs1, e1.get s = .tup vs1 ∧ vs1[j]? = vs[j]? ∧
          (m = true → vs1 = vs.set i none) ∧ (m = false → vs1 = vs ∧ ∃ a, v = .one a ∧ flatD a = true ∧ e1 = e.upd d (.val (.one a))) ∧ (m = true → e1 = (e.upd s (.tup (vs.set i none))).upd d (AV.ofV s1 v)) := by
        cases m with
        | true =>
          simp only [if_true] at h1
          obtain rfl := Option.some.inj h1
          refine ⟨vs.set i none, by rw [gets _ _ _ hds, Env.get_upd, if_pos ⟨rfl, hsl⟩], by rw [List.getElem?_set, if_neg hij], fun _ => rfl, fun h => (by cases h), fun _ => rfl⟩
        | false =>
          simp only [if_neg (Bool.false_ne_true)] at h1
          cases v with
          | agg => cases h1
          | mapv => cases h1
          | one a =>
            simp only at h1
            split at h1
            · rename_i hf
              obtain rfl := Option.some.inj h1
              exact ⟨vs, by rw [gets _ _ _ hds]; exact hs, rfl, fun h => (by cases h), fun _ => ⟨rfl, a, rfl, hf, rfl⟩, fun h => (by cases h)⟩
            · cases h1
      obtain ⟨vs1, g1, g2, g4, g5, g6⟩ := hget1
      unfold partK at h2
      rw [g1] at h2
      simp only [g2] at h2
      split at h2
      · rename_i u hu
        cases m' with
        | true =>
          simp only [if_true] at h2
          obtain rfl := Option.some.inj h2
          refine ⟨(e.upd s (.tup (vs.set j none))).upd d' (AV.ofV s2 u), by unfold partK; rw [hs]; simp only [hu, if_true], ?_⟩
          unfold partK
          rw [gets _ _ _ hds', Env.get_upd, if_pos ⟨rfl, hsl⟩]
          simp only
          rw [List.getElem?_set, if_neg hij.symm, hv]
          cases m with
          | true =>
            simp only [if_true]
            rw [g6 rfl, g4 rfl]
            congr 1
            rw [upd_comm (e := e.upd s (.tup (vs.set j none))) hds' (AV.ofV s2 u), upd_over, upd_comm (e := e.upd s (.tup (vs.set i none))) hds, upd_over, List.set_comm _ _ hij, upd_comm hd]
          | false =>
            obtain ⟨rfl, a, rfl, hf, rfl⟩ := g5 rfl
            simp only [if_neg (Bool.false_ne_true), hf, if_true]
            congr 1
            rw [upd_comm (e := e) hds, upd_comm hd]
        | false =>
          simp only [if_neg (Bool.false_ne_true)] at h2
          cases u with
          | agg => cases h2
          | mapv => cases h2
          | one b =>
            simp only at h2
            split at h2
            · rename_i hf
              obtain rfl := Option.some.inj h2
              refine ⟨e.upd d' (.val (.one b)), by unfold partK; rw [hs]; simp only [hu, if_neg (Bool.false_ne_true), hf, if_true], ?_⟩
              unfold partK
              rw [gets _ _ _ hds', hs]
              simp only [hv]
              cases m with
              | true =>
                simp only [if_true]
                rw [g6 rfl]
                congr 1
                rw [upd_comm hd, upd_comm hds'.symm]
              | false =>
                obtain ⟨rfl, a, rfl, hf', rfl⟩ := g5 rfl
                simp only [if_neg (Bool.false_ne_true), hf', if_true]
                congr 1
                rw [upd_comm hd]
            · cases h2
      · cases h2
    · cases h1
  · cases h1
theorem parts_comm {x y : AOper} {s1 s2 : Nat} (hp : parts x y = true) {e1 e2 : Env} (h1 : gstep c glob s1 x e some = some e1) (h2 : gstep c glob s2 y e1 some = some e2) :
    ∃ e1', gstep c glob s2 y e some = some e1' ∧ gstep c glob s1 x e1' some = some e2 := by
  obtain ⟨dx, gx, ox⟩ := x
  obtain ⟨dy, gy, oy⟩ := y
  unfold parts at hp
  dsimp only at hp
  split at hp
  all_goals first | (cases hp; done) | skip
  all_goals
    simp only [Bool.and_eq_true, beq_iff_eq, bne_iff_ne, ne_eq] at hp
    obtain ⟨⟨⟨⟨rfl, q1⟩, q2⟩, q3⟩, q4⟩ := hp
    simp only [gstep, partK_t, partK_p] at h1 h2 ⊢
    exact partK_comm q1 q2 q3 q4 h1 h2
end

/-! ### runs -/
def runD (f : Nat → Env → Option Env) : List Nat → Env → Option Env
  | [], e => some e
  | i :: l, e => (f i e).bind (runD f l)
theorem runD_front {f : Nat → Env → Option Env} {i : Nat} {post : List Nat} : ∀ {pre : List Nat} {e E : Env}, runD f (pre ++ i :: post) e = some E →
    (∀ r ∈ pre, ∀ e e1 e2, f r e = some e1 → f i e1 = some e2 → ∃ e1', f i e = some e1' ∧ f r e1' = some e2) → ∃ e', f i e = some e' ∧ runD f (pre ++ post) e' = some E
  | [], e, E, h, hc => by
    simp only [List.nil_append, runD] at h ⊢
    cases hf : f i e with
    | none => rw [hf] at h; cases h
    | some e' => rw [hf] at h; exact ⟨e', rfl, h⟩
  | r :: pre, e, E, h, hc => by
    simp only [List.cons_append, runD] at h
    cases hf : f r e with
    | none => rw [hf] at h; cases h
    | some e1 =>
      rw [hf] at h
      obtain ⟨e2, h1, h2⟩ := runD_front (pre := pre) h fun r hr => hc r (List.mem_cons_of_mem _ hr)
      obtain ⟨e1', h3, h4⟩ := hc r (List.mem_cons_self ..) e e1 e2 hf h1
      refine ⟨e1', h3, ?_⟩
      simp only [List.cons_append, runD, h4]
      exact h2

def reach (ops : Array Oper) : Nat → Nat → Nat → Bool
  | 0, _, _ => false
  | f + 1, i, r => match ops[i]? with
    | some o => (o.after.toList.any fun e => Region.binds .any e && e.on == r) || o.after.toList.any fun e => Region.binds .any e && reach ops f e.on r
    | none => false
/-- Whatever an operation waits for has run. -/
def Deps (ops : Array Oper) (listed : Array Bool) (i : Nat) : Prop := ∀ o, ops[i]? = some o → ∀ e ∈ o.after.toList, Region.binds .any e = true → listed.getD e.on false = true
theorem reach_listed {ops : Array Oper} {listed : Array Bool} (hd : ∀ i, listed.getD i false = true → Deps ops listed i) : ∀ (f i r : Nat), Deps ops listed i → reach ops f i r = true → listed.getD r false = true
  | 0, _, _, _, h => by simp [reach] at h
  | f + 1, i, r, hi, h => by
    simp only [reach] at h
    split at h
    · rename_i o ho
      simp only [Bool.or_eq_true, List.any_eq_true, Bool.and_eq_true, beq_iff_eq] at h
      rcases h with ⟨e, he, hb, rfl⟩ | ⟨e, he, hb, hr⟩
      · exact hi o ho e he hb
      · exact reach_listed hd f e.on r (hd _ (hi o ho e he hb)) hr
    · cases h

def okDrawn (ops : Array Oper) (aos : List AOper) : Bool :=
  (aos.all fun ao => opFree ao.op) && ((List.range ops.size).all fun i => match ops[i]? with | some o => o.after.toList.all fun e => !Region.binds .any e || decide (e.on < i) | none => true) &&
  ((List.range ops.size).all fun i => (List.range i).all fun r => match aos[r]?, aos[i]? with | some x, some y => indep x y || parts x y || reach ops ops.size i r | _, _ => false)
end Go.Abs
set_option linter.unusedVariables false
set_option linter.unusedSimpArgs false
namespace Go.Abs
open Go

def rem (n : Nat) (listed : Array Bool) : List Nat := (List.range n).filter fun i => !listed.getD i true
theorem rem_mem {n : Nat} {listed : Array Bool} {i : Nat} : i ∈ rem n listed ↔ i < n ∧ listed.getD i true = false := by
  simp [rem]
theorem getD_set {listed : Array Bool} {i j : Nat} {d : Bool} (hi : i < listed.size) : (listed.setIfInBounds i true).getD j d = if j = i then true else listed.getD j d := by
  simp only [Array.getD_eq_getD_getElem?, Array.getElem?_setIfInBounds]
  by_cases h : i = j
  · subst h; simp [hi]
  · have : ¬ j = i := fun hh => h hh.symm
    simp [h, this]
theorem rem_set {n : Nat} {listed : Array Bool} {i : Nat} (hi : i < listed.size) : rem n (listed.setIfInBounds i true) = (rem n listed).filter (fun j => j != i) := by
  unfold rem
  rw [List.filter_filter]
  apply List.filter_congr
  intro j _
  rw [getD_set hi]
  by_cases h : j = i <;> simp [h]
theorem filter_front {i : Nat} {pre post : List Nat} (h1 : i ∉ pre) (h2 : i ∉ post) : (pre ++ i :: post).filter (fun j => j != i) = pre ++ post := by
  rw [List.filter_append, List.filter_cons]
  have e1 : pre.filter (fun j => j != i) = pre := List.filter_eq_self.2 fun a ha => by simp; rintro rfl; exact h1 ha
  have e2 : post.filter (fun j => j != i) = post := List.filter_eq_self.2 fun a ha => by simp; rintro rfl; exact h2 ha
  simp [e1, e2]

section
variable {R : Type} {ok0 mine : Nat → Prop} {res : R} {glob : Nat → List D} {P : Program} {Q : Exit → Act → World → Prop} {ops : Array Oper} {pn : Nat → Bool}

def stepAt (c : Orc) (glob : Nat → List D) (st0 : Nat) (aos : List AOper) (i : Nat) (e : Env) : Option Env :=
  match aos[i]? with
  | some ao => gstep c glob (st0 + i) ao e some
  | none => none
theorem evalOps_run {c : Orc} {k : Nat → Env → Option R} (st0 : Nat) (aos : List AOper) (hf : ∀ ao ∈ aos, opFree ao.op = true) : ∀ (os : List AOper) (n : Nat) (e : Env), (∀ j, os[j]? = aos[n + j]?) → (∀ ao ∈ os, opFree ao.op = true) → evalOps c glob (st0 + n) os e k = some res →
    ∃ E, runD (stepAt c glob st0 aos) (List.range' n os.length) e = some E ∧ k (st0 + n + os.length) E = some res
  | [], n, e, _, _, h => ⟨e, by simp [runD], by simpa [evalOps] using h⟩
  | o :: os, n, e, hos, hfo, h => by
    rw [evalOps_cons] at h
    obtain ⟨us, h1, h2, h3⟩ := gstep_loc (hfo o (List.mem_cons_self ..)) h
    have ho : aos[n]? = some o := by have := hos 0; simpa using this.symm
    obtain ⟨E, g1, g2⟩ := evalOps_run st0 aos hf os (n + 1) _ (fun j => by have := hos (j + 1); rw [List.getElem?_cons_succ] at this; rw [this]; congr 1; omega) (fun ao ha => hfo ao (List.mem_cons_of_mem _ ha)) h1
    refine ⟨E, ?_, ?_⟩
    · rw [List.length_cons, List.range'_succ]
      simp only [runD, stepAt, ho]
      rw [h3 some e ⟨rfl, fun _ _ => rfl⟩]
      exact g1
    · have e1 : st0 + (n + 1) + os.length = st0 + n + (o :: os).length := by simp; omega
      rw [e1] at g2
      exact g2

theorem okOpers_at {os : List Oper} {aos : List AOper} (h : okOpers P pn ops os aos = true) : os.length = aos.length ∧ ∀ (i : Nat) o ao, os[i]? = some o → aos[i]? = some ao → okOper P pn ops o ao = true := by
  induction os generalizing aos with
  | nil => cases aos with
    | nil => exact ⟨rfl, fun i o ao h => by simp at h⟩
    | cons => cases h
  | cons o os ih => cases aos with
    | nil => cases h
    | cons ao aos =>
      simp only [okOpers, Bool.and_eq_true] at h
      obtain ⟨h1, h2⟩ := ih h.2
      refine ⟨by simp [h1], fun i o' ao' g1 g2 => ?_⟩
      cases i with
      | zero => simp at g1 g2; subst g1; subst g2; exact h.1
      | succ i => exact h2 i o' ao' (by simpa using g1) (by simpa using g2)

theorem any_sound {a0 : Act} {w0 : World} (hb : Base ok0 mine glob w0) {c : Orc} (hc : ∀ f args r, c f args = some r → CallOK P f glob args r) {aos : List AOper} {st0 : Nat} (hok : okOpers P pn ops ops.toList aos = true) (hdr : okDrawn ops aos = true) {E : Env}
    (hQ : ∀ a' w' u', In ok0 mine glob pn a0 w0 u' E a' w' → (∀ s, st0 + ops.size ≤ s → ¬ u' s) → Q .normal a' w') :
    ∀ (fuel : Nat) (listed : Array Bool) (a : Act) (w : World) (e : Env) (u : Nat → Prop), listed.size = ops.size → (∀ i, listed.getD i false = true → Deps ops listed i) → runD (stepAt c glob st0 aos) (rem ops.size listed) e = some E →
      In ok0 mine glob pn a0 w0 u e a w → (∀ i ∈ rem ops.size listed, ¬ u (st0 + i)) → (∀ s, st0 + ops.size ≤ s → ¬ u s) → (rem ops.size listed).length = fuel → wpAny P .any ops Q fuel listed a w := by
  simp only [okDrawn, Bool.and_eq_true] at hdr
  obtain ⟨⟨hfree, hback⟩, hind⟩ := hdr
  obtain ⟨hlen, hat⟩ := okOpers_at hok
  have hlen' : aos.length = ops.size := by rw [← hlen]; simp
  have sub : ∀ listed : Array Bool, ∀ i ∈ Region.ready .any ops listed, i ∈ rem ops.size listed ∧ Deps ops listed i := by
    intro listed i hi
    simp only [Region.ready, List.mem_filter, List.mem_range, Bool.and_eq_true, Bool.not_eq_true'] at hi
    refine ⟨rem_mem.2 ⟨hi.1, hi.2.1⟩, fun o ho e he hbe => ?_⟩
    have h2 := hi.2.2
    rw [ho] at h2
    simp only [Option.map_some, Option.getD_some] at h2
    rw [← Array.all_toList] at h2
    have := List.all_eq_true.1 h2 e he
    simpa [hbe] using this
  intro fuel
  induction fuel with
  | zero =>
    intro listed a w e u hsz hdc hrun hin hu hu2 hl
    have hnil : rem ops.size listed = [] := List.eq_nil_of_length_eq_zero hl
    have hr : Region.ready .any ops listed = [] := by
      cases hrd : Region.ready .any ops listed with
      | nil => rfl
      | cons i l => have := (sub listed i (by rw [hrd]; exact List.mem_cons_self ..)).1; rw [hnil] at this; cases this
    rw [hnil] at hrun
    simp only [runD, Option.some.injEq] at hrun
    subst hrun
    exact ⟨hr, hQ a w u hin hu2⟩
  | succ fuel ih =>
    intro listed a w e u hsz hdc hrun hin hu hu2 hl
    refine ⟨fun hr => ?_, fun i hi => ?_⟩
    · -- some operation is ready
      exfalso
      cases hrem : rem ops.size listed with
      | nil => rw [hrem] at hl; cases hl
      | cons r l =>
        have hr1 : r ∈ rem ops.size listed := by rw [hrem]; exact List.mem_cons_self ..
        obtain ⟨hrn, hrl⟩ := rem_mem.1 hr1
        have hmin : ∀ j, j < r → listed.getD j false = true := by
          intro j hj
          have hjn : j < ops.size := by omega
          cases hjl : listed.getD j true with
          | true =>
            have : j < listed.size := by omega
            simpa [Array.getD_eq_getD_getElem?, this] using hjl
          | false =>
            have hjr : j ∈ rem ops.size listed := rem_mem.2 ⟨hjn, hjl⟩
            have hsort : (rem ops.size listed).Pairwise (· < ·) := List.Pairwise.filter _ List.pairwise_lt_range
            rw [hrem] at hjr hsort
            rcases List.mem_cons.1 hjr with rfl | hjr
            · omega
            · have := (List.pairwise_cons.1 hsort).1 j hjr; omega
        have : r ∈ Region.ready .any ops listed := by
          simp only [Region.ready, List.mem_filter, List.mem_range, Bool.and_eq_true, Bool.not_eq_true']
          refine ⟨hrn, hrl, ?_⟩
          have ho : ops[r]? = some ops[r] := by simp [hrn]
          rw [ho]
          simp only [Option.map_some, Option.getD_some]
          rw [← Array.all_toList]
          refine List.all_eq_true.2 fun e he => ?_
          have hbk := List.all_eq_true.1 hback r (by simpa using hrn)
          rw [ho] at hbk
          have := List.all_eq_true.1 hbk e he
          simp only [Bool.or_eq_true, Bool.not_eq_true', decide_eq_true_eq] at this ⊢
          exact this.imp id fun hh => hmin _ hh
        rw [hr] at this
        cases this
    · obtain ⟨hir, hdi⟩ := sub listed i hi
      obtain ⟨hin', hil⟩ := rem_mem.1 hir
      have his : i < listed.size := by omega
      obtain ⟨pre, post, hsplit⟩ := List.append_of_mem hir
      have hsort : (rem ops.size listed).Pairwise (· < ·) := List.Pairwise.filter _ List.pairwise_lt_range
      rw [hsplit] at hsort hrun
      have hpre : ∀ r ∈ pre, r < i := fun r hr => (List.pairwise_append.1 hsort).2.2 r hr i (List.mem_cons_self ..)
      have hpost : ∀ r ∈ post, i < r := fun r hr => (List.pairwise_cons.1 (List.pairwise_append.1 hsort).2.1).1 r hr
      have ho : ops[i]? = some ops[i] := by simp [hin']
      have hao : ∃ ao, aos[i]? = some ao := ⟨aos[i], by simp [hlen', hin']⟩
      obtain ⟨ao, hao⟩ := hao
      obtain ⟨e', h1, h2⟩ := runD_front hrun fun r hr e e1 e2 g1 g2 => by
        have hri := hpre r hr
        have hrx : ∃ x, aos[r]? = some x := ⟨aos[r], by simp [hlen']⟩
        obtain ⟨x, hx⟩ := hrx
        simp only [stepAt, hx, hao] at g1 g2 ⊢
        have hrr : r ∈ rem ops.size listed := by rw [hsplit]; exact List.mem_append_left _ hr
        have hrl := (rem_mem.1 hrr).2
        have hrl' : listed.getD r false = false := by
          have : r < listed.size := by omega
          simpa [Array.getD_eq_getD_getElem?, this] using hrl
        have := List.all_eq_true.1 (List.all_eq_true.1 hind i (by simpa using hin')) r (by simpa using hri)
        rw [hx, hao] at this
        simp only [Bool.or_eq_true] at this
        rcases this with (hh | hh) | hh
        · exact gstep_comm (List.all_eq_true.1 hfree x (List.mem_of_getElem? hx)) (List.all_eq_true.1 hfree ao (List.mem_of_getElem? hao)) hh g1 g2
        · exact parts_comm hh g1 g2
        · have := reach_listed hdc _ i r hdi hh
          rw [hrl'] at this
          cases this
      simp only [stepAt, hao] at h1
      have hni : i ∉ pre := fun hh => Nat.lt_irrefl _ (hpre i hh)
      have hni2 : i ∉ post := fun hh => Nat.lt_irrefl _ (hpost i hh)
      have hrem' : rem ops.size (listed.setIfInBounds i true) = pre ++ post := by rw [rem_set his, hsplit, filter_front hni hni2]
      refine wpOp_sound hb hin (hu i hir) hc ho (hat i _ ao (by simp [hin']) hao) h1 fun e2 a' w' he2 hin2 => ?_
      obtain rfl := Option.some.inj he2
      refine ih (listed.setIfInBounds i true) a' w' e2 _ (by simpa using hsz) (fun j hj o hoj ed hed hbe => ?_) (by rw [hrem']; exact h2) hin2 (fun j hj hh => ?_) (fun s hs hh => ?_) (by rw [hrem']; rw [hsplit] at hl; simp at hl ⊢; omega)
      · rw [getD_set his]
        split
        · rfl
        · rw [getD_set his] at hj
          by_cases hji : j = i
          · subst hji; exact hdi o hoj ed hed hbe
          · rw [if_neg hji] at hj; exact hdc j hj o hoj ed hed hbe
      · rw [hrem'] at hj
        have hjr : j ∈ rem ops.size listed := by rw [hsplit]; rcases List.mem_append.1 hj with hj | hj <;> simp [hj]
        rcases hh with hh | hh
        · exact hu j hjr hh
        · have : j = i := by omega
          subst this
          exact (List.mem_append.1 hj).elim hni hni2
      · rcases hh with hh | hh
        · exact hu2 s hs hh
        · omega

theorem Sim.world {ua uo : Nat → Prop} {e : Env} {tmps : Array Value} {w w' : World} {fp : Nat → List Nat} (h : Sim ok0 mine ua uo e tmps w fp) (hw : w'.heap = w.heap) : Sim ok0 mine ua uo e tmps w' fp := by
  have hk : ∀ k : Nat, w'.heap[k]? = w.heap[k]? := fun k => by rw [hw]
  exact ⟨h.size, fun s v hs => (h.rel s v hs).step (fun _ _ h => h) fun k _ _ => hk k, fun s v hs => (h.al s v hs).keep (fun t _ => ⟨rfl, rfl, fun _ _ _ g _ _ => hk g⟩) fun _ _ _ _ _ g _ _ _ _ _ => hk g, h.disj, fun s b hb => by rw [hw]; exact h.lt s b hb, h.ask, h.stamps⟩
theorem In.drew {a0 : Act} {w0 w : World} {u : Nat → Prop} {e : Env} {a : Act} (h : In ok0 mine glob pn a0 w0 u e a w) : In ok0 mine glob pn a0 w0 u e a { w with drawn := w.drawn + 1 } := by
  obtain ⟨fp, h1, h2⟩ := h.sim
  exact ⟨⟨fp, h1.world rfl, h2⟩, h.defers, h.size, h.pin, h.fr.trans (.drew mine w)⟩

/-- A region, drawn or not. -/
theorem region_sound {a0 : Act} {w0 w : World} {u : Nat → Prop} {e : Env} {a : Act} (hb : Base ok0 mine glob w0) (hmix : P.follows .mixedOrders = true) {c : Orc} (hc : ∀ f args r, c f args = some r → CallOK P f glob args r) {aos : List AOper} {st0 id : Nat} {draw : Bool}
    (hok : okOpers P pn ops ops.toList aos = true) (hdr : draw = true → okDrawn ops aos = true) (hin : In ok0 mine glob pn a0 w0 u e a w) (hu : ∀ s, st0 ≤ s → ¬ u s) {k : Nat → Env → Option R} (hk : evalOps c glob st0 aos e k = some res)
    (hQ : ∀ e' a' w' u', k (st0 + aos.length) e' = some res → In ok0 mine glob pn a0 w0 u' e' a' w' → (∀ s, st0 + aos.length ≤ s → ¬ u' s) → Q .normal a' w') : (Code.region id ops draw).wp P Q a w := by
  have hlen : aos.length = ops.size := by rw [← (okOpers_at hok).1]; simp
  cases draw with
  | false =>
    refine wp_region ?_
    have := ops_sound (Q := Q) hb hc ops.toList aos 0 u st0 e a w (fun j => by simp) hok hin hu hk hQ
    rw [List.range_eq_range']
    simpa using this
  | true =>
    refine wp_region_any hmix ?_
    have hd := hdr rfl
    have hfree : ∀ ao ∈ aos, opFree ao.op = true := by
      simp only [okDrawn, Bool.and_eq_true] at hd
      exact fun ao ha => List.all_eq_true.1 hd.1.1 ao ha
    obtain ⟨E, h1, h2⟩ := evalOps_run (c := c) (glob := glob) (k := k) st0 aos hfree aos 0 e (fun j => by simp) hfree (by simpa using hk)
    have hrem : rem ops.size (Array.replicate ops.size false) = List.range ops.size := List.filter_eq_self.2 fun i hi => by
      have : i < ops.size := by simpa using hi
      simp [Array.getD_eq_getD_getElem?, this]
    refine any_sound (E := E) hb hc hok hd (fun a' w' u' g1 g2 => hQ E a' w' u' (by simpa using h2) g1 (by rw [hlen]; exact g2)) ops.size _ a _ e u (by simp) (fun i hi => ?_) ?_ hin.drew (fun i hi => hu _ (by omega)) (fun s hs => hu s (by omega)) (by rw [hrem]; simp)
    · simp [Array.getD_eq_getD_getElem?, Array.getElem?_replicate] at hi
      split at hi <;> simp at hi
    · rw [hrem, List.range_eq_range']
      rw [hlen] at h1
      exact h1
end
end Go.Abs
set_option linter.unusedVariables false
set_option linter.unusedSimpArgs false
namespace Go.Abs
open Go

/-- A slot of a range's own: not kept, not pinned, in the frame. -/
def ownSlot (pn : Nat → Bool) (keep : List Nat) (b t : Nat) : Bool := !keep.contains t && !pn t && decide (t < b)
/-- A range over a map begins. -/
def okHead (P : Program) (pn : Nat → Bool) (keep : List Nat) (b m it : Nat) : List Oper → Bool
  | [o1, o2] => match o1.op, o1.dst, o1.guard, o2.op, o2.dst, o2.guard with
    | .move (.tmp s), some tm, none, .range ty (.tmp s2), some d, none => s == m && s2 == tm && d == it && (match P.underlying ty with | some (.map _ _) => true | _ => false) && ownSlot pn keep b tm && ownSlot pn keep b it && tm != it && !keep.contains m
    | _, _, _, _, _, _ => false
  | _ => false
/-- Its next pair. -/
def okNext (pn : Nat → Bool) (keep : List Nat) (b it tc : Nat) : List Oper → Bool
  | [o1, o2] => match o1.op, o1.dst, o1.guard, o2.op, o2.dst, o2.guard with
    | .next (.tmp s) false, some tn, none, .extract (.tmp s2) 0, some d, none => s == it && s2 == tn && d == tc && ownSlot pn keep b tn && ownSlot pn keep b tc && tn != it && tc != it
    | _, _, _, _, _, _ => false
  | _ => false
/-- The pair's parts. -/
def okPair (pn : Nat → Bool) (keep : List Nat) (b it dk dv : Nat) : List Oper → Bool
  | [o1, o2, o3, o4, o5] => match o1.op, o1.dst, o1.guard, o2.op, o2.dst, o2.guard with
    | .entry (.tmp s), some te, none, .extract (.tmp s2) 0, some k1, none => match o3.op, o3.dst, o3.guard, o4.op, o4.dst, o4.guard with
      | .extract (.tmp s3) 1, some k2, none, .assign (.tmp s4), some d4, none => match o5.op, o5.dst, o5.guard with
        | .assign (.tmp s5), some d5, none => s == it && s2 == te && s3 == te && s4 == k1 && s5 == k2 && d4 == dk && d5 == dv && ownSlot pn keep b te && ownSlot pn keep b k1 && ownSlot pn keep b k2 && ownSlot pn keep b dk && ownSlot pn keep b dv &&
            te != it && k1 != it && k2 != it && dk != it && dv != it && k1 != te && k2 != k1 && dk != k2
        | _, _, _ => false
      | _, _, _, _, _, _ => false
    | _, _, _, _, _, _ => false
  | _ => false
def okCode (P : Program) (pn : Nat → Bool) : Code → AC → Bool
  | .skip, .skip => true
  | .ret, .ret => true
  | .exit i, .exit j => i == j
  | .region _ ops draw, .reg aos => okOpers P pn ops ops.toList aos && (!draw || okDrawn ops aos)
  | .seq a b, .seq x y => okCode P pn a x && okCode P pn b y
  | .cond c a b, .cond x y z => okX c x && okCode P pn a y && okCode P pn b z
  | .cond c _ b, .condf x z => okX c x && okCode P pn b z
  | .cond c a b, .condn s y z => okX c (.t s) && okCode P pn a y && okCode P pn b z
  | .block i a, .block j x => i == j && okCode P pn a x
  | .loop a, .loop _ _ x => okCode P pn a x
  | .seq (.region _ ops1 false) (.block i (.loop (.seq (.region _ ops2 false) (.seq (.cond (.tmp tc) .skip (.exit j)) (.block _ (.seq (.region _ ops3 false) a)))))), .each m it dk dv b keep out x =>
    i == j && okHead P pn (keep ++ out) b m it ops1.toList && okNext pn (keep ++ out) b it tc ops2.toList && okPair pn (keep ++ out) b it dk dv ops3.toList && okCode P (fun s => pn s || s == it) a x
  | _, _ => false
def AE.exit' : AE → Exit
  | .normal => .normal
  | .exit i => .exit i
  | .ret => .ret

theorem trimFrom_get (keep : List Nat) (e0 : Env) : ∀ (l : Env) (s i : Nat), (trimFrom keep e0 s l).get i = trimV keep e0 (s + i) (l.get i)
  | [], s, i => by
    show AV.dead = trimV keep e0 (s + i) .dead
    unfold trimV
    cases keep.contains (s + i) <;> rfl
  | v :: l, s, 0 => by simp [trimFrom, Env.get]
  | v :: l, s, i + 1 => by simp only [trimFrom, Env.get]; rw [trimFrom_get keep e0 l (s + 1) i]; congr 1; omega
theorem trimFrom_length (keep : List Nat) (e0 : Env) : ∀ (l : Env) (s : Nat), (trimFrom keep e0 s l).length = l.length
  | [], s => rfl
  | v :: l, s => by simp [trimFrom, trimFrom_length keep e0 l (s + 1)]
theorem trim_get (keep : List Nat) (e : Env) (i : Nat) : (trim keep e).get i = trimV keep e i (e.get i) := by
  unfold trim; rw [trimFrom_get]; simp

/-! ### the steps of a range over a map -/
section
variable {P : Program}
/-- An iterator's next step, wherever its block lies. -/
theorem run_next_any (w : World) (ty : TypeId) (it bm since c0 : Nat) (seen : Array Nat) (es : Array MapEntry) (clock : Nat) (hit : w.heap[it]? = some (.mapIter (some bm) since seen c0)) (hb : w.heap[bm]? = some (.map es clock)) (hold : ∀ x ∈ es.toList, x.born < since) (hsc : since ≤ c0) :
    ((leftOf es seen).size = 0 ∧ (Instr.next (.pointer (some ⟨it, 0, none⟩)) false ty).run P w = .ok (.tuple #[.bool false]) w) ∨
    ∃ e ∈ (leftOf es seen).toList, ∃ w1 : World, (w1 = w ∨ w1 = w.drew) ∧ (Instr.next (.pointer (some ⟨it, 0, none⟩)) false ty).run P w = .ok (.tuple #[.bool true, e.key, e.val]) { w1 with heap := w1.heap.setIfInBounds it (.mapIter (some bm) since (seen.push e.born) clock) } := by
  simp only [Instr.next, getObj, Sem.run_bind, Sem.run, hit, hb, Result.andThen, next_test_false seen es since c0 hold hsc, Bool.false_eq_true, if_false]
  unfold leftOf
  have hmem : ∀ x ∈ (Array.filter (fun e => !seen.contains e.born) es).toList, x.born < since := fun x hx => hold x (by simp at hx ⊢; exact hx.1)
  generalize Array.filter (fun e => !seen.contains e.born) es = L at hmem ⊢
  have e1 : L.filter (fun x => decide (x.born < since)) = L := Array.filter_eq_self.2 (fun x hx => by simpa using hmem x (by simpa using hx))
  have e2 : L.filter (fun x => decide (x.born ≥ since)) = #[] := by
    rw [Array.filter_eq_empty_iff]
    intro x hx
    have := hmem x (by simpa using hx)
    simp
    omega
  simp only [e1, e2, Array.append_empty]
  by_cases h0 : L.size = 0
  · left
    have : L = #[] := Array.eq_empty_of_size_eq_zero h0
    subst this
    refine ⟨rfl, ?_⟩
    simp [choose, Sem.run, Question.forced]
  · right
    have hne : L.isEmpty = false := by simp [Array.isEmpty, h0]
    simp only [hne, Bool.false_eq_true, if_false, Array.empty_append, Array.size_map]
    have hch : ∃ (j : Nat) (w1 : World), j < L.size ∧ (w1 = w ∨ w1 = w.drew) ∧ (choose (Question.mapNext L.size)).run P w = .ok j w1 := by
      by_cases hf : L.size ≤ 1
      · exact ⟨0, w, by omega, .inl rfl, by simp [choose, Sem.run, Question.forced, hf]⟩
      · exact ⟨_, w.drew, Nat.mod_lt _ (by omega), .inr rfl, by
          simp only [choose, Sem.run, Question.forced, decide_eq_true_eq, hf, if_false, Question.cut]
          rfl⟩
    obtain ⟨j, w1, hj, hal, hrun⟩ := hch
    refine ⟨L[j], by simp, w1, hal, ?_⟩
    have hit1 : w1.heap[it]? = some (.mapIter (some bm) since seen c0) := by rcases hal with rfl | rfl <;> exact hit
    have hset : ∀ (o' : Obj), (setObj it o').run P w1 = .ok () { w1 with heap := w1.heap.setIfInBounds it o' } := fun o' => by
      simp only [setObj, Sem.run]
      rw [hit1]
    simp only [hrun, Array.getElem?_map, Array.getElem?_eq_getElem hj, Option.map_some, Sem.run_bind, hset, Result.andThen]
    rfl
/-- The pair of the last step. -/
theorem run_entry_any (w : World) (it bm since : Nat) (seen : Array Nat) (es : Array MapEntry) (clock : Nat) (e : MapEntry) (hit : w.heap[it]? = some (.mapIter (some bm) since (seen.push e.born) clock)) (hb : w.heap[bm]? = some (.map es clock)) (he : e ∈ es.toList) (hn : (es.toList.map (·.born)).Nodup) :
    (Instr.entry (.pointer (some ⟨it, 0, none⟩))).run P w = .ok (.tuple #[e.key, e.val]) w := by
  have hf : es.find? (·.born == e.born) = some e := by rw [← Array.find?_toList]; exact find_born e es.toList hn he
  simp only [Instr.entry, getObj, Sem.run_bind, Sem.run, hit, hb, Result.andThen, Array.back?_push, bne_self_eq_false, Bool.false_eq_true, if_false, hf]
  rfl
end
section
variable {ok0 mine : Nat → Prop} {glob : Nat → List D} {P : Program} {pn : Nat → Bool}

theorem Sim.trim {ok0' mine' : Nat → Prop} {w : World} {u uo : Nat → Prop} {e : Env} {tmps : Array Value} {fp : Nat → List Nat} (hs : Sim ok0 mine u uo e tmps w fp) (hv : ∀ s, tmps.size ≤ s → fp s = []) (keep : List Nat)
    (H1 : ∀ k, k < w.heap.size → okOf ok0 fp k → ok0' k) (H2 : ∀ s b, keep.contains s = true → b ∈ fp s → mine' b) : ∃ fp', Sim ok0' mine' (fun k => k = 0) (fun k => k = 0) (trim keep e) tmps w fp' ∧ ∀ s, tmps.size ≤ s → fp' s = [] := by
  let fp' : Nat → List Nat := fun s => if keep.contains s = true then fp s else []
  have sub : ∀ s b, b ∈ fp' s → b ∈ fp s := by
    intro s b hb
    by_cases hk : keep.contains s = true
    · simp only [fp', if_pos hk] at hb; exact hb
    · simp only [fp', if_neg hk] at hb; cases hb
  have kp : ∀ s b, b ∈ fp' s → keep.contains s = true := by
    intro s b hb
    by_cases hk : keep.contains s = true
    · exact hk
    · simp only [fp', if_neg hk] at hb; cases hb
  have hok : ∀ k, k < w.heap.size → okOf ok0 fp k → okOf ok0' fp' k := fun k hk ho => ⟨H1 k hk ho, fun s hs' => ho.2 s (sub s k hs')⟩
  refine ⟨fp', ⟨?_, fun s v hsv => ?_, fun s v hsv => ?_, fun s t b hne hb hb' => hs.disj s t b hne (sub s b hb) (sub t b hb'), fun s b hb => ⟨(hs.lt s b (sub s b hb)).1, H2 s b (kp s b hb) (sub s b hb)⟩, fun s id hid => ?_, fun s => ?_⟩, fun s hsz => ?_⟩
  · unfold Go.Abs.trim; rw [trimFrom_length]; exact hs.size
  · have hr := (hs.rel s v hsv).step (ok' := okOf ok0' fp') (w' := w) hok fun _ _ _ => rfl
    rw [trim_get]
    unfold trimV
    cases hk : keep.contains s with
    | false =>
      have : fp' s = [] := by simp only [fp', hk]; rfl
      rw [this]
      exact .dead _
    | true =>
      have hfp : fp' s = fp s := by simp only [fp', hk, if_true]
      rw [hfp]
      have nilOf : ∀ (x y : AV), AvR (okOf ok0' fp') w v x (fp s) → (∀ B, AvR (okOf ok0' fp') w v x B → B = []) → AvR (okOf ok0' fp') w v y [] → AvR (okOf ok0' fp') w v y (fp s) := by
        intro x y hx hB hy
        rw [hB _ hx]; exact hy
      cases hav : Env.get e s with
      | own id w' rows => rw [hav] at hr; exact .own _ _ _ _ _ hr.own_inv
      | box b ver ds =>
        rw [hav] at hr
        obtain ⟨g, cur, E, B', rfl, hfp2, hg, hrd, hgB⟩ := hr.box_inv
        rw [hfp2]
        exact .box g 0 0 cur E ds B' hg hrd hgB
      | ref t j id =>
        rw [hav] at hr
        refine nilOf _ _ hr (fun B hB => by cases hB; rfl) ?_
        cases j with
        | some j => exact .dead _
        | none =>
          simp only
          split
          · split
            · split
              · exact .ref _ _ _ _
              · exact .dead _
            · exact .dead _
          · exact .dead _
      | copy t ver => rw [hav] at hr; exact nilOf _ _ hr (fun B hB => by cases hB; rfl) (.dead _)
      | part t ver off n => rw [hav] at hr; exact nilOf _ _ hr (fun B hB => by cases hB; rfl) (.dead _)
      | bp t id o => rw [hav] at hr; exact nilOf _ _ hr (fun B hB => by cases hB; rfl) (.dead _)
      | into t j id w' i o => rw [hav] at hr; exact nilOf _ _ hr (fun B hB => by cases hB; rfl) (.dead _)
      | cell t id i o => rw [hav] at hr; exact nilOf _ _ hr (fun B hB => by cases hB; rfl) (.dead _)
      | mapv id kv =>
        rw [hav] at hr
        generalize fp s = B at hr ⊢
        cases hr with
        | mapv r _ clk es kv hg hkk => exact .mapv r 0 clk es kv hg hkk
      | mref t id =>
        rw [hav] at hr
        refine nilOf _ _ hr (fun B hB => by cases hB; rfl) ?_
        simp only
        split
        · split
          · split
            · exact .mref _ _ _
            · exact .dead _
          · exact .dead _
        · exact .dead _
      | _ => rw [hav] at hr; exact hr
  · have ha := hs.al s v hsv
    rw [trim_get]
    unfold trimV
    cases hk : keep.contains s with
    | false => trivial
    | true =>
      cases hav : Env.get e s with
      | ref t j id =>
        rw [hav] at ha
        cases j with
        | some j => trivial
        | none =>
          simp only
          split
          · split
            · rename_i id' w' rows ht
              split
              · rename_i hid
                subst hid
                intro e2 rows2 hL
                exact ha _ _ ht
              · trivial
            · trivial
          · trivial
      | mref t id =>
        rw [hav] at ha
        simp only
        split
        · split
          · rename_i id' kv ht
            split
            · rename_i hid
              subst hid
              intro _ hL
              exact ha _ ht
            · trivial
          · trivial
        · trivial
      | _ => trivial
  · rw [trim_get] at hid
    unfold trimV at hid
    cases hk : keep.contains s with
    | false => rw [hk] at hid; cases hid
    | true =>
      rw [hk] at hid
      cases hav : Env.get e s with
      | ref t j id =>
        rw [hav] at hid
        cases j with
        | some j => cases hid
        | none =>
          simp only at hid
          split at hid
          · split at hid
            · split at hid
              · injection hid with hid; exact hid.symm
              · cases hid
            · cases hid
          · cases hid
      | mref t id =>
        rw [hav] at hid
        simp only at hid
        split at hid
        · split at hid
          · split at hid
            · injection hid with hid; exact hid.symm
            · cases hid
          · cases hid
        · cases hid
      | _ => rw [hav] at hid; cases hid
  · rw [trim_get]
    unfold trimV
    cases hk : keep.contains s with
    | false => trivial
    | true =>
      cases hav : Env.get e s with
      | own id w' rows => exact rfl
      | box b ver ds => exact ⟨rfl, rfl⟩
      | mapv id kv => exact rfl
      | mref t id =>
        simp only
        split
        · split
          · split <;> trivial
          · trivial
        · trivial
      | ref t j id =>
        cases j with
        | some j => trivial
        | none =>
          simp only
          split
          · split
            · split <;> trivial
            · trivial
          · trivial
      | _ => trivial
  · simp only [fp']
    split
    · exact hv s hsz
    · rfl
theorem In.trim {a0 : Act} {w0 w : World} {u : Nat → Prop} {e : Env} {a : Act} (h : In ok0 mine glob pn a0 w0 u e a w) (keep : List Nat) : In ok0 mine glob pn a0 w0 (fun k => k = 0) (trim keep e) a w := by
  obtain ⟨fp, hs, hv⟩ := h.sim
  exact ⟨hs.trim hv keep (fun k _ ho => ho.1) fun s b _ hb => (hs.lt s b hb).2, h.defers, h.size, h.pin, h.fr⟩

/-! ### a range over a map -/
theorem wpOp_val {ops : Array Oper} {Q : Exit → Act → World → Prop} {i : Nat} {K : Act → World → Prop} {a : Act} {w w' : World} {o : Oper} {v : Value} (ho : ops[i]? = some o) (hg : o.guard = none) (hr : (execOp (evalT a.tmps) o).run P w = .ok (.value v) w') (hK : K (a.put o.dst v) w') : wpOp P ops Q i K a w := by
  unfold wpOp
  rw [ho]
  have hwant : Region.wanted o (yielded ops a.tmps) = true := by unfold Region.wanted; rw [hg]
  simp only [hwant, if_true]
  refine .inl ?_
  have he : a.eval = evalT a.tmps := funext (evalT_eq a)
  unfold Oper.wp
  rw [he, hr, Oper.upon_value]
  exact hK
/-- A slot is written: a datum that owns nothing, or nothing that is looked at; the world is what it was where it matters. -/
theorem In.putV {a0 : Act} {w0 w w' : World} {e : Env} {a : Act} (h : In ok0 mine glob pn a0 w0 (fun k => k = 0) e a w) {d : Nat} (hp : pn d = false) (hsz : w.heap.size ≤ w'.heap.size) (hw : ∀ k, k < w.heap.size → ok0 k ∨ mine k → w'.heap[k]? = w.heap[k]?) {v : Value} {av : AV}
    (hrel : ∀ ok, AvR ok w' v av []) (h1 : aliasOf av = none) (h2 : askStamp av = none) (h3 : OwnIn (fun k => k = 0) av) (h4 : Stampless 1 av) : In ok0 mine glob pn a0 w' (fun k => k = 0) (e.upd d av) (a.put (some d) v) w' := by
  obtain ⟨fp, hs, hv⟩ := h.sim
  have hal : AliasOK (e.upd d av).get w' (a.tmps.setIfInBounds d v) v av := AliasOK.stale fun t ht => by rw [h1] at ht; cases ht
  have hput := (hs.put (ua' := fun k => k = 0) (uo' := fun k => k = 0) (fun _ h => h) (fun _ h => h) (st := 1) (by simp) (d := d) (q := max a.tmps.size (d + 1)) (Nat.le_max_left ..) (v := v) (av := av) (B := []) (w' := w')
    (fun id hid => by rw [h2] at hid; cases hid) h3 h4 (fun k hk hh => hw k hk (hh.elim (fun ho => .inl ho.1) fun ⟨s, _, _, hb⟩ => .inr (hs.lt s k hb).2)) hsz (by simp) (hrel _) hal).1
  refine ⟨⟨_, hput, fun s hsz => ?_⟩, h.defers, ?_, fun s hs' => ?_, .refl _ _⟩
  · simp only [Act.put, Array.size_setIfInBounds] at hsz
    unfold fpOut
    split
    · rfl
    · split
      · rfl
      · exact hv s hsz
  · simp only [Act.put, Array.size_setIfInBounds]; exact h.size
  · have hsd : ¬ d = s := fun hh => by rw [hh, hs'] at hp; cases hp
    show (a.tmps.setIfInBounds d v)[s]? = _
    rw [Array.getElem?_setIfInBounds_ne hsd]
    exact h.pin s hs'
theorem Env.upd_dead {e : Env} {d : Nat} (h : e.get d = .dead) : e.upd d .dead = e := Env.ext_get (Env.upd_length ..) fun s => by
  rw [Env.get_upd]
  split
  · rename_i hh; rw [hh.1, h]
  · rfl
theorem In.deadPut {a0 : Act} {w0 w w' : World} {e : Env} {a : Act} (h : In ok0 mine glob pn a0 w0 (fun k => k = 0) e a w) {d : Nat} (hp : pn d = false) (hd : e.get d = .dead) (hsz : w.heap.size ≤ w'.heap.size) (hw : ∀ k, k < w.heap.size → ok0 k ∨ mine k → w'.heap[k]? = w.heap[k]?) (v : Value) : In ok0 mine glob pn a0 w' (fun k => k = 0) e (a.put (some d) v) w' := by
  have := h.putV (w' := w') hp hsz hw (v := v) (av := .dead) (fun ok => .dead _) rfl rfl trivial trivial
  rwa [Env.upd_dead hd] at this
theorem In.deadPut' {a0 : Act} {w0 w : World} {e : Env} {a : Act} (h : In ok0 mine glob pn a0 w0 (fun k => k = 0) e a w) {d : Nat} (hp : pn d = false) (hd : e.get d = .dead) (v : Value) : In ok0 mine glob pn a0 w (fun k => k = 0) e (a.put (some d) v) w :=
  h.deadPut hp hd (Nat.le_refl _) (fun _ _ _ => rfl) v
theorem In.base {a0 : Act} {w0 w : World} {u : Nat → Prop} {e : Env} {a : Act} (h : In ok0 mine glob pn a0 w0 u e a w) : In ok0 mine glob pn a0 w u e a w := ⟨h.sim, h.defers, h.size, h.pin, .refl _ _⟩
theorem GlobOK.same {w w' : World} (h : GlobOK ok0 mine glob w) {ok0' mine' : Nat → Prop} (hok : ∀ k, k < w.heap.size → ok0 k → ¬ mine k → ok0' k ∧ ¬ mine' k) (hf : ∀ k, k < w.heap.size → ok0 k → ¬ mine k → w'.heap[k]? = w.heap[k]?) : GlobOK ok0' mine' glob w' := by
  intro g
  obtain ⟨vs, hr, hc, hw⟩ := h g
  refine ⟨vs, ?_, fun j x hj => ?_, fun hne hna => ?_⟩
  · exact hr.step (fun _ _ h => h) fun k hk hh => hh.elim (fun h => h.elim) fun h => by cases h
  · obtain ⟨⟨h1, h2⟩, h3⟩ := hc j x hj
    exact ⟨hok _ (World.block_lt_of_cell? w _ h3) h1 h2, (World.cell?_of_block (hf g (World.block_lt_of_cell? w _ h3) h1 h2)).trans h3⟩
  · obtain ⟨E, k, hb⟩ := hw hne hna
    cases vs with
    | nil => exact absurd rfl hne
    | cons v vs =>
      obtain ⟨⟨h1, h2⟩, h3⟩ := hc 0 v rfl
      exact ⟨E, k, (hf g (World.block_lt_of_cell? w _ h3) h1 h2).trans hb⟩
/-- A pair of a map. -/
def pairOf (x : MapEntry) : Int × Int := (valOf x.key, valOf x.val)
theorem mapHas_pairs {es : Array MapEntry} {clk : Nat} {kv : List (Int × Int)} (h : MapHas es clk kv) : es.toList.map pairOf = kv ∧ ∀ x ∈ es.toList, x.key = .int .i64 (pairOf x).1 ∧ x.val = .int .i64 (pairOf x).2 := by
  have h2 := h.2
  clear h
  generalize es.toList = L at h2
  induction L generalizing kv with
  | nil => cases kv with
    | nil => exact ⟨rfl, by simp⟩
    | cons p kv => simp at h2
  | cons x L ih => cases kv with
    | nil => simp at h2
    | cons p kv =>
      simp only [List.map_cons, List.cons.injEq, Prod.mk.injEq] at h2
      obtain ⟨⟨h3, h4⟩, h5⟩ := h2
      obtain ⟨h6, h7⟩ := ih h5
      have h8 : pairOf x = p := by unfold pairOf; rw [h3, h4]; rfl
      refine ⟨by rw [List.map_cons, h8, h6], fun y hy => ?_⟩
      rcases List.mem_cons.1 hy with rfl | hy
      · rw [h8]; exact ⟨h3, h4⟩
      · exact h7 y hy
theorem filter_born {e : MapEntry} : ∀ {L : List MapEntry}, (L.map (·.born)).Nodup → e ∈ L → L.Perm (e :: L.filter fun x => !(x.born == e.born))
  | x :: L, hn, he => by
    simp only [List.map_cons, List.nodup_cons] at hn
    rcases List.mem_cons.1 he with rfl | he
    · have : L.filter (fun y => !(y.born == e.born)) = L := List.filter_eq_self.2 fun y hy => by
        simp only [Bool.not_eq_true', beq_eq_false_iff_ne, ne_eq]
        intro hh; exact hn.1 (hh ▸ List.mem_map_of_mem hy)
      simp [this]
    · have hx : ¬ x.born = e.born := fun hh => hn.1 (hh ▸ List.mem_map_of_mem he)
      have ih := filter_born hn.2 he
      simp only [List.filter_cons, beq_iff_eq, hx, Bool.not_eq_true', beq_eq_false_iff_ne, ne_eq, not_false_eq_true, if_true]
      exact (List.Perm.cons x ih).trans (List.Perm.swap ..)
theorem left_perm {es : Array MapEntry} {seen : Array Nat} {e : MapEntry} (hn : (es.toList.map (·.born)).Nodup) (he : e ∈ (leftOf es seen).toList) : (leftOf es seen).toList.Perm (e :: (leftOf es (seen.push e.born)).toList) := by
  unfold leftOf at he ⊢
  rw [Array.toList_filter] at he
  rw [Array.toList_filter, Array.toList_filter]
  have h1 : es.toList.filter (fun x => !(seen.push e.born).contains x.born) = (es.toList.filter fun x => !seen.contains x.born).filter fun x => !(x.born == e.born) := by
    rw [List.filter_filter]
    apply List.filter_congr
    intro x _
    rw [contains_push, Bool.not_or, Bool.and_comm]
  rw [h1]
  exact filter_born ((List.filter_sublist.map _).nodup hn) he
theorem trim_dead {keep : List Nat} {e : Env} {t : Nat} (h : keep.contains t = false) : (trim keep e).get t = .dead := by
  rw [trim_get]; unfold trimV; rw [h]
theorem put_get {a : Act} {d : Nat} {v : Value} (h : d < a.tmps.size) : evalT (a.put (some d) v).tmps (.tmp d) = v := by
  rw [← evalT_eq]
  simp [Act.put, Act.eval, h]
theorem put_other {a : Act} {d s : Nat} {v : Value} (h : d ≠ s) : evalT (a.put (some d) v).tmps (.tmp s) = evalT a.tmps (.tmp s) := by
  rw [← evalT_eq, ← evalT_eq]
  simp [Act.put, Act.eval, Array.getD_eq_getD_getElem?, Array.getElem?_setIfInBounds_ne h]
theorem put_size (a : Act) (d : Nat) (v : Value) : (a.put (some d) v).tmps.size = a.tmps.size := by simp [Act.put]
theorem ownSlot_spec {pn : Nat → Bool} {keep : List Nat} {b t : Nat} (h : ownSlot pn keep b t = true) : keep.contains t = false ∧ pn t = false ∧ t < b := by
  unfold ownSlot at h
  simp only [Bool.and_eq_true, Bool.not_eq_true', decide_eq_true_eq] at h
  exact ⟨h.1.1, h.1.2, h.2⟩
theorem okHead_spec {P : Program} {pn : Nat → Bool} {keep : List Nat} {b m it : Nat} {ops : List Oper} (h : okHead P pn keep b m it ops = true) :
    ∃ o1 o2 tm ty kt et, ops = [o1, o2] ∧ o1.op = .move (.tmp m) ∧ o1.dst = some tm ∧ o1.guard = none ∧ o2.op = .range ty (.tmp tm) ∧ o2.dst = some it ∧ o2.guard = none ∧ P.underlying ty = some (.map kt et) ∧ ownSlot pn keep b tm = true ∧ ownSlot pn keep b it = true ∧ tm ≠ it ∧ keep.contains m = false := by
  unfold okHead at h
  split at h
  · rename_i o1 o2
    split at h
    · rename_i s tm ty s2 d e1 e2 e3 e4 e5 e6
      simp only [Bool.and_eq_true, beq_iff_eq, bne_iff_ne, Bool.not_eq_true'] at h
      obtain ⟨⟨⟨⟨⟨⟨⟨rfl, rfl⟩, rfl⟩, hu⟩, h1⟩, h2⟩, h3⟩, h4⟩ := h
      split at hu
      · exact ⟨o1, o2, _, ty, _, _, rfl, e1, e2, e3, e4, e5, e6, ‹_›, h1, h2, h3, h4⟩
      · cases hu
    · cases h
  · cases h
theorem okNext_spec {pn : Nat → Bool} {keep : List Nat} {b it tc : Nat} {ops : List Oper} (h : okNext pn keep b it tc ops = true) :
    ∃ o1 o2 tn, ops = [o1, o2] ∧ o1.op = .next (.tmp it) false ∧ o1.dst = some tn ∧ o1.guard = none ∧ o2.op = .extract (.tmp tn) 0 ∧ o2.dst = some tc ∧ o2.guard = none ∧ ownSlot pn keep b tn = true ∧ ownSlot pn keep b tc = true ∧ tn ≠ it ∧ tc ≠ it := by
  unfold okNext at h
  split at h
  · rename_i o1 o2
    split at h
    · rename_i s tn s2 d e1 e2 e3 e4 e5 e6
      simp only [Bool.and_eq_true, beq_iff_eq, bne_iff_ne] at h
      obtain ⟨⟨⟨⟨⟨⟨rfl, rfl⟩, rfl⟩, h1⟩, h2⟩, h3⟩, h4⟩ := h
      exact ⟨o1, o2, _, rfl, e1, e2, e3, e4, e5, e6, h1, h2, h3, h4⟩
    · cases h
  · cases h
theorem okPair_spec {pn : Nat → Bool} {keep : List Nat} {b it dk dv : Nat} {ops : List Oper} (h : okPair pn keep b it dk dv ops = true) :
    ∃ o1 o2 o3 o4 o5 te k1 k2, ops = [o1, o2, o3, o4, o5] ∧ (o1.op = .entry (.tmp it) ∧ o1.dst = some te ∧ o1.guard = none) ∧ (o2.op = .extract (.tmp te) 0 ∧ o2.dst = some k1 ∧ o2.guard = none) ∧ (o3.op = .extract (.tmp te) 1 ∧ o3.dst = some k2 ∧ o3.guard = none) ∧
      (o4.op = .assign (.tmp k1) ∧ o4.dst = some dk ∧ o4.guard = none) ∧ (o5.op = .assign (.tmp k2) ∧ o5.dst = some dv ∧ o5.guard = none) ∧ (ownSlot pn keep b te = true ∧ ownSlot pn keep b k1 = true ∧ ownSlot pn keep b k2 = true ∧ ownSlot pn keep b dk = true ∧ ownSlot pn keep b dv = true) ∧
      (te ≠ it ∧ k1 ≠ it ∧ k2 ≠ it ∧ dk ≠ it ∧ dv ≠ it) ∧ k1 ≠ te ∧ k2 ≠ k1 ∧ dk ≠ k2 := by
  unfold okPair at h
  split at h
  · rename_i o1 o2 o3 o4 o5
    split at h
    · rename_i e1 e2 e3 e4 e5 e6
      split at h
      · rename_i f1 f2 f3 f4 f5 f6
        split at h
        · rename_i g1 g2 g3
          simp only [Bool.and_eq_true, beq_iff_eq, bne_iff_ne] at h
          obtain ⟨⟨⟨⟨⟨⟨⟨⟨⟨⟨⟨⟨⟨⟨⟨⟨⟨⟨⟨rfl, rfl⟩, rfl⟩, rfl⟩, rfl⟩, rfl⟩, rfl⟩, a1⟩, a2⟩, a3⟩, a4⟩, a5⟩, b1⟩, b2⟩, b3⟩, b4⟩, b5⟩, c1⟩, c2⟩, c3⟩ := h
          exact ⟨o1, o2, o3, o4, o5, _, _, _, rfl, ⟨e1, e2, e3⟩, ⟨e4, e5, e6⟩, ⟨f1, f2, f3⟩, ⟨f4, f5, f6⟩, ⟨g1, g2, g3⟩, ⟨a1, a2, a3, a4, a5⟩, ⟨b1, b2, b3, b4, b5⟩, c1, c2, c3⟩
        · cases h
      · cases h
    · cases h
  · cases h
theorem ownSlot_mono {pn : Nat → Bool} {keep : List Nat} {b it t : Nat} (h : ownSlot pn keep b t = true) (ht : t ≠ it) : ownSlot (fun s => pn s || s == it) keep b t = true := by
  unfold ownSlot at *
  simp only [Bool.and_eq_true, Bool.not_eq_true', decide_eq_true_eq] at h ⊢
  exact ⟨⟨h.1.1, by simp [h.1.2, ht]⟩, h.2⟩
theorem okNext_mono {pn : Nat → Bool} {keep : List Nat} {b it tc : Nat} {ops : List Oper} (h : okNext pn keep b it tc ops = true) : okNext (fun s => pn s || s == it) keep b it tc ops = true := by
  obtain ⟨o1, o2, tn, rfl, p1, p2, p3, p4, p5, p6, p7, p8, p9, p10⟩ := okNext_spec h
  simp [okNext, p1, p2, p3, p4, p5, p6, ownSlot_mono p7 p9, ownSlot_mono p8 p10, p9, p10]
theorem okPair_mono {pn : Nat → Bool} {keep : List Nat} {b it dk dv : Nat} {ops : List Oper} (h : okPair pn keep b it dk dv ops = true) : okPair (fun s => pn s || s == it) keep b it dk dv ops = true := by
  obtain ⟨o3, o4, o5, o6, o7, te, k1, k2, rfl, ⟨c1, c2, c3⟩, ⟨c4, c5, c6⟩, ⟨c7, c8, c9⟩, ⟨d1, d2, d3⟩, ⟨d4, d5, d6⟩, ⟨s1, s2, s3, s4, s5⟩, ⟨t1, t2, t3, t4, t5⟩, u1, u2, u3⟩ := okPair_spec h
  simp [okPair, c1, c2, c3, c4, c5, c6, c7, c8, c9, d1, d2, d3, d4, d5, d6, ownSlot_mono s1 t1, ownSlot_mono s2 t2, ownSlot_mono s3 t3, ownSlot_mono s4 t4, ownSlot_mono s5 t5, t1, t2, t3, t4, t5, u1, u2, u3]
theorem run_rangeOp {ρ : Operand → Value} {o : Oper} {x : Operand} {ty kt et : TypeId} {bm : Nat} {es : Array MapEntry} {clk : Nat} {w : World} (ho : o.op = .range ty x) (hu : P.underlying ty = some (.map kt et)) (hx : ρ x = .map (some bm)) (hb : w.heap[bm]? = some (.map es clk)) :
    (execOp ρ o).run P w = .ok (.value (.pointer (some ⟨w.heap.size, 0, none⟩))) (w.alloc (.mapIter (some bm) clk #[] clk)) := by
  unfold execOp; rw [ho]
  exact exec_val (by rw [hx]; exact run_range_map w ty kt et bm es clk hu hb)
theorem run_nextOp {ρ : Operand → Value} {o : Oper} {x : Operand} {w w' : World} {v p : Value} (ho : o.op = .next x false) (hx : ρ x = p) (h : (Instr.next p false o.type).run P w = .ok v w') : (execOp ρ o).run P w = .ok (.value v) w' := by
  unfold execOp; rw [ho]
  exact exec_val (by rw [hx]; exact h)
theorem run_entryOp {ρ : Operand → Value} {o : Oper} {x : Operand} {w w' : World} {v p : Value} (ho : o.op = .entry x) (hx : ρ x = p) (h : (Instr.entry p).run P w = .ok v w') : (execOp ρ o).run P w = .ok (.value v) w' := by
  unfold execOp; rw [ho]
  exact exec_val (by rw [hx]; exact h)
/-- The rounds of a range over a map. -/
theorem each_rounds {ok0 mine : Nat → Prop} {glob : Nat → List D} {P : Program} {pn : Nat → Bool} {body : Code} {f : Env → Option (AE × Nat × Env)} {a1 : Act} {w00 : World} {bm itB it tc dk dv b i j7 id2 id3 : Nat} {es : Array MapEntry} {clk : Nat} {keep out : List Nat} {r : Env} {ops2 ops3 : Array Oper} {Q : Exit → Act → World → Prop}
    (hb1 : ∀ k, mine k → ok0 k) (hbb : ¬ mine bm) (hbi : ¬ mine itB) (hob : ¬ ok0 bm) (hoi : ¬ ok0 itB) (hne : bm ≠ itB) (hst : MapKept.Stamped es clk) (hkv : ∀ x ∈ es.toList, x.key = .int .i64 (pairOf x).1 ∧ x.val = .int .i64 (pairOf x).2)
    (hpit : pn it = true) (h2 : okNext pn (keep ++ out) b it tc ops2.toList = true) (h3 : okPair pn (keep ++ out) b it dk dv ops3.toList = true)
    (hbody : ∀ {a0 : Act} {w0 : World} {e e' : Env} {a : Act} {w : World} {st : Nat} (Q : Exit → Act → World → Prop), Base ok0 mine glob w0 → In ok0 mine glob pn a0 w0 (fun k => k = 0) e a w → f e = some (.normal, st, e') → (∀ a' w' u', In ok0 mine glob pn a0 w0 u' e' a' w' → Q .normal a' w') → body.wp P Q a w)
    {mineC : Nat → Prop} (hmC : ∀ k, mine k → mineC k) (hiC : mineC itB)
    (hQ : ∀ a' w', In ok0 mine glob pn a1 w' (fun k => k = 0) r a' w' → Fr mineC w00 w' → Q .normal a' w') :
    ∀ (n : Nat) (e : Env) (a : Act) (w : World) (u : Nat → Prop) (seen : Array Nat) (c0 : Nat), (leftOf es seen).size < n → In ok0 mine glob pn a1 w u e a w → (∀ k, w.heap.size ≤ k → mine k) → GlobOK ok0 mine glob w → w.heap[bm]? = some (.map es clk) → w.heap[itB]? = some (.mapIter (some bm) clk seen c0) → clk ≤ c0 →
      evalT a.tmps (.tmp it) = .pointer (some ⟨itB, 0, none⟩) → b ≤ a.tmps.size → Fr mineC w00 w → (∀ l, l.Perm ((leftOf es seen).toList.map pairOf) → eachN f dk dv keep out l e = some r) →
      Code.rounds P (.seq (.region id2 ops2 false) (.seq (.cond (.tmp tc) .skip (.exit i)) (.block j7 (.seq (.region id3 ops3 false) body)))) (Exit.inBlock i Q) n a w := by
  intro n
  induction n with
  | zero => intro e a w u seen c0 h; omega
  | succ n ih =>
    intro e a w u seen c0 hn hin hbig hglob hbm hit hc0 hptr hsz hfr hall
    obtain ⟨o1, o2, tn, hops, p1, p2, p3, p4, p5, p6, p7, p8, p9, p10⟩ := okNext_spec h2
    obtain ⟨q1, q2, q3⟩ := ownSlot_spec p7
    obtain ⟨q4, q5, q6⟩ := ownSlot_spec p8
    simp only [List.contains_eq_mem, List.mem_append, decide_eq_false_iff_not, not_or] at q1 q4
    have kn : keep.contains tn = false := by simpa using q1.1
    have kc : keep.contains tc = false := by simpa using q4.1
    have on : out.contains tn = false := by simpa using q1.2
    have oc : out.contains tc = false := by simpa using q4.2
    obtain rfl : ops2 = #[o1, o2] := by
      apply Array.toList_inj.1; exact hops
    rw [rounds_succ]
    refine wp_seq (wp_region ?_)
    show wpOps P #[o1, o2] _ [0, 1] a w
    rcases run_next_any (P := P) w o1.type itB bm clk c0 seen es clk hit hbm hst.1 hc0 with ⟨h0, hrun⟩ | ⟨x, hx, w1, hw1, hrun⟩
    · -- nothing is left
      rw [wpOps_cons]
      refine wpOp_val (o := o1) rfl p3 (run_nextOp p1 hptr hrun) ?_
      rw [p2, wpOps_cons]
      refine wpOp_val (o := o2) rfl p6 (run_extract p4 (put_get (by omega)) (show (#[Value.bool false] : Array Value)[0]? = some (.bool false) from rfl)) ?_
      rw [p5]
      have hin2 := ((hin.trim out).deadPut' (d := tn) (by exact q2) (trim_dead on) (.tuple #[.bool false])).deadPut' (d := tc) (by exact q5) (trim_dead oc) (.bool false)
      have hend : Q .normal ((a.put (some tn) (.tuple #[.bool false])).put (some tc) (.bool false)) w := by
        have := hall [] (by have : leftOf es seen = #[] := Array.eq_empty_of_size_eq_zero h0; simp [this])
        simp only [eachN] at this
        obtain rfl := Option.some.inj this
        exact hQ _ _ hin2 hfr
      simp only [wpOps]
      refine wp_seq (wp_cond (t := false) (by rw [evalT_eq]; exact put_get (by rw [put_size]; omega)) ?_)
      refine wp_exit ?_
      show Exit.inBlock i Q (.exit i) _ _
      simp only [Exit.inBlock, if_true]
      exact hend
    · -- a pair
      obtain ⟨hx1, hx2⟩ := mem_left hx
      obtain ⟨hk1, hk2⟩ := hkv x hx1
      obtain ⟨w2, hw2⟩ : ∃ w2 : World, w2 = { w1 with heap := w1.heap.setIfInBounds itB (.mapIter (some bm) clk (seen.push x.born) clk) } := ⟨_, rfl⟩
      rw [← hw2] at hrun
      have hh1 : w1.heap = w.heap := by rcases hw1 with rfl | rfl <;> rfl
      have hitl : itB < w.heap.size := (Array.getElem?_eq_some_iff.1 hit).1
      have hs2 : w2.heap.size = w.heap.size := by rw [hw2]; simp [hh1]
      have hb2 : ∀ k, k ≠ itB → w2.heap[k]? = w.heap[k]? := fun k hk => by
        rw [hw2]; show (w1.heap.setIfInBounds itB _)[k]? = _
        rw [Array.getElem?_setIfInBounds_ne (Ne.symm hk), hh1]
      have hit2 : w2.heap[itB]? = some (.mapIter (some bm) clk (seen.push x.born) clk) := by
        rw [hw2]; show (w1.heap.setIfInBounds itB _)[itB]? = _
        rw [Array.getElem?_setIfInBounds_self_of_lt (by rw [hh1]; exact hitl)]
      have hbm2 : w2.heap[bm]? = some (.map es clk) := (hb2 bm hne).trans hbm
      have hfr2 : Fr mineC w w2 := by
        refine ⟨?_, ?_, ?_, by omega, fun k hk hm => hb2 k fun hh => hm (hh ▸ hiC)⟩ <;> rw [hw2] <;> rcases hw1 with rfl | rfl <;> rfl
      have hkeep : ∀ k, k < w.heap.size → ok0 k ∨ mine k → w2.heap[k]? = w.heap[k]? := fun k _ hh => hb2 k fun hk => by subst hk; exact hh.elim hoi hbi
      rw [wpOps_cons]
      refine wpOp_val (o := o1) rfl p3 (run_nextOp p1 hptr hrun) ?_
      rw [p2, wpOps_cons]
      refine wpOp_val (o := o2) rfl p6 (run_extract p4 (put_get (by omega)) (show (#[Value.bool true, x.key, x.val] : Array Value)[0]? = some (.bool true) from rfl)) ?_
      rw [p5]
      have hin2 := ((hin.trim keep).deadPut (w' := w2) (d := tn) (by exact q2) (trim_dead kn) (by omega) hkeep (.tuple #[.bool true, x.key, x.val])).deadPut' (d := tc) (by exact q5) (trim_dead kc) (.bool true)
      have hptr2 : evalT ((a.put (some tn) (.tuple #[.bool true, x.key, x.val])).put (some tc) (.bool true)).tmps (.tmp it) = .pointer (some ⟨itB, 0, none⟩) := by rw [put_other p10, put_other p9]; exact hptr
      have hbool : evalT ((a.put (some tn) (.tuple #[.bool true, x.key, x.val])).put (some tc) (.bool true)).tmps (.tmp tc) = .bool true := put_get (by rw [put_size]; omega)
      have hsz2 : b ≤ ((a.put (some tn) (.tuple #[.bool true, x.key, x.val])).put (some tc) (.bool true)).tmps.size := by rw [put_size, put_size]; exact hsz
      simp only [wpOps]
      generalize (a.put (some tn) (.tuple #[.bool true, x.key, x.val])).put (some tc) (.bool true) = a2 at hin2 hptr2 hsz2 hbool ⊢
      refine wp_seq (wp_cond (t := true) (by rw [evalT_eq]; exact hbool) ?_)
      refine wp_skip ?_
      show (Code.block j7 _).wp P _ a2 w2
      refine wp_block (wp_seq (wp_region ?_))
      obtain ⟨o3, o4, o5, o6, o7, te, k1, k2, hops3, ⟨c1, c2, c3⟩, ⟨c4, c5, c6⟩, ⟨c7, c8, c9⟩, ⟨d1, d2, d3⟩, ⟨d4, d5, d6⟩, ⟨s1, s2, s3, s4, s5⟩, ⟨t1, t2, t3, t4, t5⟩, u1, u2, u3⟩ := okPair_spec h3
      obtain ⟨r1, r2, r3⟩ := ownSlot_spec s1
      obtain ⟨r4, r5, r6⟩ := ownSlot_spec s2
      obtain ⟨r7, r8, r9⟩ := ownSlot_spec s3
      obtain ⟨v1, v2, v3⟩ := ownSlot_spec s4
      obtain ⟨v4, v5, v6⟩ := ownSlot_spec s5
      simp only [List.contains_eq_mem, List.mem_append, decide_eq_false_iff_not, not_or] at r1 r4 r7 v1 v4
      have ke : keep.contains te = false := by simpa using r1.1
      have kk1 : keep.contains k1 = false := by simpa using r4.1
      have kk2 : keep.contains k2 = false := by simpa using r7.1
      obtain rfl : ops3 = #[o3, o4, o5, o6, o7] := by
        apply Array.toList_inj.1; exact hops3
      show wpOps P #[o3, o4, o5, o6, o7] _ [0, 1, 2, 3, 4] a2 w2
      have hent := run_entry_any (P := P) w2 itB bm clk seen es clk x hit2 hbm2 hx1 hst.2.1
      rw [wpOps_cons]
      refine wpOp_val (o := o3) rfl c3 (run_entryOp c1 hptr2 hent) ?_
      rw [c2, wpOps_cons]
      refine wpOp_val (o := o4) rfl c6 (run_extract c4 (put_get (by omega)) (show (#[x.key, x.val] : Array Value)[0]? = some x.key from rfl)) ?_
      rw [c5, wpOps_cons]
      refine wpOp_val (o := o5) rfl c9 (run_extract c7 ((put_other u1).trans (put_get (by omega))) (show (#[x.key, x.val] : Array Value)[1]? = some x.val from rfl)) ?_
      rw [c8, wpOps_cons]
      refine wpOp_val (o := o6) rfl d3 (run_assign d1) ?_
      rw [d2, (put_other u2).trans (put_get (by rw [put_size]; omega)), wpOps_cons]
      refine wpOp_val (o := o7) rfl d6 (run_assign d4) ?_
      rw [d5, (put_other u3).trans (put_get (by rw [put_size, put_size]; omega))]
      simp only [wpOps]
      rw [hk1, hk2]
      have hin3 := (((hin2.deadPut' (d := te) (by exact r2) (trim_dead ke) (.tuple #[.int .i64 (pairOf x).1, .int .i64 (pairOf x).2])).deadPut' (d := k1) (by exact r5) (trim_dead kk1) (.int .i64 (pairOf x).1)).deadPut' (d := k2) (by exact r8) (trim_dead kk2) (.int .i64 (pairOf x).2))
      have hin4 := hin3.putV (w' := w2) (d := dk) (by exact v2) (Nat.le_refl _) (fun _ _ _ => rfl) (v := .int .i64 (pairOf x).1) (av := .val (.one (.int .i64 (pairOf x).1))) (fun ok => .val _ _ _ (.one _ _ _ (.int _ _))) rfl rfl trivial trivial
      have hin5 := hin4.putV (w' := w2) (d := dv) (by exact v5) (Nat.le_refl _) (fun _ _ _ => rfl) (v := .int .i64 (pairOf x).2) (av := .val (.one (.int .i64 (pairOf x).2))) (fun ok => .val _ _ _ (.one _ _ _ (.int _ _))) rfl rfl trivial trivial
      have hptr5 : evalT (((((a2.put (some te) (.tuple #[.int .i64 (pairOf x).1, .int .i64 (pairOf x).2])).put (some k1) (.int .i64 (pairOf x).1)).put (some k2) (.int .i64 (pairOf x).2)).put (some dk) (.int .i64 (pairOf x).1)).put (some dv) (.int .i64 (pairOf x).2)).tmps (.tmp it) = .pointer (some ⟨itB, 0, none⟩) := by
        rw [put_other t5, put_other t4, put_other t3, put_other t2, put_other t1]; exact hptr2
      have hsz5 : b ≤ (((((a2.put (some te) (.tuple #[.int .i64 (pairOf x).1, .int .i64 (pairOf x).2])).put (some k1) (.int .i64 (pairOf x).1)).put (some k2) (.int .i64 (pairOf x).2)).put (some dk) (.int .i64 (pairOf x).1)).put (some dv) (.int .i64 (pairOf x).2)).tmps.size := by
        rw [put_size, put_size, put_size, put_size, put_size]; exact hsz2
      generalize ((((a2.put (some te) (.tuple #[.int .i64 (pairOf x).1, .int .i64 (pairOf x).2])).put (some k1) (.int .i64 (pairOf x).1)).put (some k2) (.int .i64 (pairOf x).2)).put (some dk) (.int .i64 (pairOf x).1)).put (some dv) (.int .i64 (pairOf x).2) = a5 at hin5 hptr5 hsz5 ⊢
      have hperm := left_perm hst.2.1 hx
      have hallx : ∀ l, l.Perm ((leftOf es (seen.push x.born)).toList.map pairOf) → eachN f dk dv keep out (pairOf x :: l) e = some r := fun l hl => hall _ ((hl.cons _).trans ((hperm.map pairOf).symm))
      have hfst := hallx _ (List.Perm.refl _)
      simp only [eachN] at hallx hfst
      cases hfe : f (Env.upd (Env.upd (Go.Abs.trim keep e) dk (.val (.one (.int .i64 (pairOf x).1)))) dv (.val (.one (.int .i64 (pairOf x).2)))) with
      | none => rw [hfe] at hfst; cases hfst
      | some p =>
        obtain ⟨ex, st, e'⟩ := p
        rw [hfe] at hfst hallx
        cases ex with
        | exit k => cases hfst
        | ret => cases hfst
        | normal =>
          simp only at hallx
          have hglob2 : GlobOK ok0 mine glob w2 := hglob.same (fun k _ h1 h2 => ⟨h1, h2⟩) fun k _ h1 _ => hb2 k fun hk => by subst hk; exact hoi h1
          refine hbody _ ⟨fun k hk => hbig k (by omega), hb1, hglob2⟩ hin5 hfe fun a' w' u' hin6 => ?_
          show Code.rounds P _ _ n a' w'
          have hfr6 := hin6.fr
          have hlt := left_shrinks es seen x hx
          refine ih e' a' w' u' (seen.push x.born) clk (by omega) hin6.base (fun k hk => hbig k (Nat.le_trans (by omega) (Nat.le_trans hfr6.size hk))) (hglob2.fr hfr6) ?_ ?_ (Nat.le_refl _) ?_ ?_ (hfr.trans (hfr2.trans (hfr6.mono hmC))) hallx
          · exact (hfr6.block bm (by rw [hs2]; exact (Array.getElem?_eq_some_iff.1 hbm).1) hbb).trans hbm2
          · exact (hfr6.block itB (by rw [hs2]; exact hitl) hbi).trans hit2
          · have h5 := hin5.pin it hpit
            have h6 := hin6.pin it hpit
            rw [← hptr5, ← evalT_eq, ← evalT_eq]
            simp only [Act.eval, Array.getD_eq_getD_getElem?]
            rw [h6, h5]
          · have h5 := hin5.size
            have h6 := hin6.size
            omega
theorem okCode_each {P : Program} {pn : Nat → Bool} {code : Code} {m it dk dv b : Nat} {keep out : List Nat} {x : AC} (h : okCode P pn code (.each m it dk dv b keep out x) = true) :
    ∃ id1 ops1 i id2 ops2 tc j7 id3 ops3 a, code = .seq (.region id1 ops1 false) (.block i (.loop (.seq (.region id2 ops2 false) (.seq (.cond (.tmp tc) .skip (.exit i)) (.block j7 (.seq (.region id3 ops3 false) a)))))) ∧
      okHead P pn (keep ++ out) b m it ops1.toList = true ∧ okNext pn (keep ++ out) b it tc ops2.toList = true ∧ okPair pn (keep ++ out) b it dk dv ops3.toList = true ∧ okCode P (fun s => pn s || s == it) a x = true := by
  unfold okCode at h
  split at h
  all_goals first
    | (rename_i h'; cases h'; done)
    | (rename_i h'; cases h'; simp only [Bool.and_eq_true, beq_iff_eq] at h; obtain ⟨⟨⟨⟨rfl, h1⟩, h2⟩, h3⟩, h4⟩ := h; exact ⟨_, _, _, _, _, _, _, _, _, _, rfl, h1, h2, h3, h4⟩)
    | (cases h; done)
    | skip
theorem exec_sound {c : Orc} (hc : ∀ f args r, c f args = some r → CallOK P f glob args r) (hmix : P.follows .mixedOrders = true) (ac : AC) : ∀ {ok0 mine : Nat → Prop} {pn : Nat → Bool} {R : Type} {res : R} {code : Code} {a0 : Act} {w0 w : World} {u : Nat → Prop} {e : Env} {a : Act} {st : Nat} {k : AE → Nat → Env → Option R} {Q : Exit → Act → World → Prop},
    Base ok0 mine glob w0 → okCode P pn code ac = true → In ok0 mine glob pn a0 w0 u e a w → (∀ s, st ≤ s → ¬ u s) → exec c glob st ac e k = some res →
    (∀ x st' e' a' w' u', k x st' e' = some res → In ok0 mine glob pn a0 w0 u' e' a' w' → (∀ s, st' ≤ s → ¬ u' s) → Q x.exit' a' w') → code.wp P Q a w := by
  induction ac with
  | skip =>
    intro ok0 mine pn R res code a0 w0 w u e a st k Q hb hok hin hu hk hQ
    cases code <;> simp [okCode] at hok
    exact wp_skip (hQ _ _ _ _ _ _ hk hin hu)
  | ret =>
    intro ok0 mine pn R res code a0 w0 w u e a st k Q hb hok hin hu hk hQ
    cases code <;> simp [okCode] at hok
    exact wp_ret (hQ _ _ _ _ _ _ hk hin hu)
  | exit i =>
    intro ok0 mine pn R res code a0 w0 w u e a st k Q hb hok hin hu hk hQ
    cases code <;> simp [okCode] at hok
    subst hok
    exact wp_exit (hQ _ _ _ _ _ _ hk hin hu)
  | reg aos =>
    intro ok0 mine pn R res code a0 w0 w u e a st k Q hb hok hin hu hk hQ
    cases code <;> simp [okCode] at hok
    exact region_sound hb hmix hc hok.1 (fun hd => by simpa [hd] using hok.2) hin hu hk fun e' a' w' u' h1 h2 h3 => hQ _ _ _ _ _ _ h1 h2 h3
  | seq x y ihx ihy =>
    intro ok0 mine pn R res code a0 w0 w u e a st k Q hb hok hin hu hk hQ
    cases code <;> simp [okCode] at hok
    refine wp_seq (ihx hb hok.1 hin hu hk fun ex st' e' a' w' u' h1 h2 h3 => ?_)
    cases ex with
    | normal => exact ihy hb hok.2 h2 h3 h1 hQ
    | exit i => exact hQ (.exit i) _ _ _ _ _ h1 h2 h3
    | ret => exact hQ .ret _ _ _ _ _ h1 h2 h3
  | cond x y z ihy ihz =>
    intro ok0 mine pn R res code a0 w0 w u e a st k Q hb hok hin hu hk hQ
    cases code <;> simp [okCode] at hok
    obtain ⟨fp, hs, _⟩ := hin.sim
    simp only [exec] at hk
    obtain ⟨b, hk1, hb1⟩ := peekBool_sound hs hok.1.1 hk
    refine wp_cond (t := b) (by rw [evalT_eq]; exact hb1) ?_
    cases b with
    | true => simp only [if_true] at hk1 ⊢; exact ihy hb hok.1.2 hin hu hk1 hQ
    | false => simp at hk1 ⊢; exact ihz hb hok.2 hin hu hk1 hQ
  | condf x z ihz =>
    intro ok0 mine pn R res code a0 w0 w u e a st k Q hb hok hin hu hk hQ
    cases code <;> simp [okCode] at hok
    obtain ⟨fp, hs, _⟩ := hin.sim
    simp only [exec] at hk
    obtain ⟨b, hk1, hb1⟩ := peekBool_sound hs hok.1 hk
    refine wp_cond (t := b) (by rw [evalT_eq]; exact hb1) ?_
    cases b with
    | true => simp at hk1
    | false => simp at hk1 ⊢; exact ihz hb hok.2 hin hu hk1 hQ
  | condn s y z ihy ihz =>
    intro ok0 mine pn R res code a0 w0 w u e a st k Q hb hok hin hu hk hQ
    cases code with
    | cond cx ca cb =>
      simp [okCode] at hok
      obtain ⟨fp, hs, _⟩ := hin.sim
      simp only [exec] at hk
      have ho : cx = .tmp s := by have := hok.1.1; cases cx <;> simp [okX] at this; rw [this]
      subst ho
      split at hk
      · rename_i hav
        unfold bothK at hk
        split at hk
        · rename_i hab
          obtain ⟨v, hv1, hv2⟩ := hs.slot (s := s) (by rw [hav]; simp)
          have hr := hs.rel s v hv1
          rw [hav] at hr
          obtain ⟨b, rfl⟩ : ∃ b, v = .bool b := by
            generalize fp s = B at hr
            cases hr with
            | someb b => exact ⟨b, rfl⟩
          refine wp_cond (t := b) (by rw [evalT_eq]; exact hv2) ?_
          cases b with
          | true => simp only [if_true]; exact ihy hb hok.1.2 hin hu hk hQ
          | false => simp; exact ihz hb hok.2 hin hu (hab ▸ hk) hQ
        · cases hk
      · rename_i t hav
        obtain ⟨v, hv1, hv2, hr⟩ := hs.valOne hav
        have h1 := hr.one_inv
        have hvt : v = .bool t := by
          generalize fp s = B at h1
          cases h1; rfl
        subst hvt
        refine wp_cond (t := t) (by rw [evalT_eq]; exact hv2) ?_
        cases t with
        | true => simp only [if_true] at hk ⊢; exact ihy hb hok.1.2 hin hu hk hQ
        | false => simp at hk ⊢; exact ihz hb hok.2 hin hu hk hQ
      · cases hk
    | _ => simp [okCode] at hok
  | block i x ih =>
    intro ok0 mine pn R res code a0 w0 w u e a st k Q hb hok hin hu hk hQ
    cases code <;> simp [okCode] at hok
    obtain ⟨rfl, hok⟩ := hok
    refine wp_block (ih hb hok hin hu hk fun ex st' e' a' w' u' h1 h2 h3 => ?_)
    cases ex with
    | normal => exact hQ .normal _ _ _ _ _ h1 h2 h3
    | exit j =>
      simp only at h1
      simp only [AE.exit', Exit.inBlock]
      split
      · rename_i hj; rw [if_pos hj] at h1; exact hQ .normal _ _ _ _ _ h1 h2 h3
      · rename_i hj; rw [if_neg hj] at h1; exact hQ (.exit j) _ _ _ _ _ h1 h2 h3
    | ret => exact hQ .ret _ _ _ _ _ h1 h2 h3
  | each m it dk dv b keep out x ih =>
    intro ok0 mine pn R res code a0 w0 w u e a st k Q hb hok hin hu hk hQ
    obtain ⟨id1, ops1, i, id2, ops2, tc, j7, id3, ops3, body, rfl, h1, h2, h3, h4⟩ := okCode_each hok
    simp only [exec] at hk
    cases hmap : mapAt e m b with
    | none => rw [hmap] at hk; cases hk
    | some kv =>
      rw [hmap] at hk
      simp only [onSome] at hk
      cases hea : eachF (fun e => exec c glob 1 x e fun x st' e' => some (x, st', e')) dk dv keep out kv e with
      | none => rw [hea] at hk; cases hk
      | some r =>
        rw [hea] at hk
        simp only at hk
        have hall : ∀ l, l.Perm kv → eachN (fun e => exec c glob 1 x e fun x st' e' => some (x, st', e')) dk dv keep out l (Go.Abs.trim keep e) = some r := by
          unfold eachF at hea
          split at hea
          · rename_i hex
            obtain rfl := Option.some.inj hea
            exact hex.choose_spec
          · cases hea
        unfold mapAt at hmap
        split at hmap
        · rename_i hbl
          split at hmap
          · rename_i id kv' hav
            obtain rfl := Option.some.inj hmap
            obtain ⟨fp, hs, hv⟩ := hin.sim
            obtain ⟨vm, hvm1, hvm2⟩ := hs.slot (s := m) (by rw [hav]; simp)
            have hr := hs.rel m vm hvm1
            rw [hav] at hr
            obtain ⟨bm, clk, es, rfl, hfp, hg, hkk⟩ : ∃ bm clk es, vm = .map (some bm) ∧ fp m = [bm] ∧ w.heap[bm]? = some (.map es clk) ∧ MapHas es clk kv' := by
              generalize hB : fp m = B at hr
              cases hr with
              | mapv r _ clk es _ hg hkk => exact ⟨r, clk, es, rfl, rfl, hg, hkk⟩
            obtain ⟨hpk, hkv⟩ := mapHas_pairs hkk
            have hsz : b ≤ a.tmps.size := by rw [← hs.size]; exact hbl
            obtain ⟨o1, o2, tm, ty, kt, et, hops, p1, p2, p3, p4, p5, p6, p7, p8, p9, p10, p11⟩ := okHead_spec h1
            obtain ⟨q1, q2, q3⟩ := ownSlot_spec p8
            obtain ⟨q4, q5, q6⟩ := ownSlot_spec p9
            simp only [List.contains_eq_mem, List.mem_append, decide_eq_false_iff_not, not_or] at q1 q4 p11
            have kt1 : keep.contains tm = false := by simpa using q1.1
            have ki : keep.contains it = false := by simpa using q4.1
            have km : keep.contains m = false := by simpa using p11.1
            obtain rfl : ops1 = #[o1, o2] := by
              apply Array.toList_inj.1; exact hops
            have hbml : bm < w.heap.size := (Array.getElem?_eq_some_iff.1 hg).1
            have hbmm : bm ∈ fp m := by rw [hfp]; simp
            have hwbig : ∀ k, w.heap.size ≤ k → mine k := fun k hk => hb.big k (Nat.le_trans hin.fr.size hk)
            obtain ⟨ok1, hok1⟩ : ∃ ok1 : Nat → Prop, ok1 = fun k => ok0 k ∧ k ≠ bm ∧ k ≠ w.heap.size := ⟨_, rfl⟩
            obtain ⟨mine1, hmine1⟩ : ∃ mine1 : Nat → Prop, mine1 = fun k => mine k ∧ k ≠ bm ∧ k ≠ w.heap.size := ⟨_, rfl⟩
            have hm1 : ∀ k, mine1 k → ok1 k := fun k hk => by subst hok1; subst hmine1; exact ⟨hb.mok k hk.1, hk.2⟩
            have hin1 : In ok1 mine1 glob pn a0 w (fun k => k = 0) (Go.Abs.trim keep e) a w := by
              refine ⟨hs.trim hv keep (fun k hk ho => ?_) (fun s b' hks hb' => ?_), hin.defers, hin.size, hin.pin, .refl _ _⟩
              · subst hok1
                exact ⟨ho.1, fun hh => ho.2 m (hh ▸ hbmm), by omega⟩
              · subst hmine1
                have hsm : s ≠ m := fun hh => by rw [hh, km] at hks; cases hks
                refine ⟨(hs.lt s b' hb').2, fun hh => ?_, by have := (hs.lt s b' hb').1; omega⟩
                exact hs.disj s m b' hsm hb' (hh ▸ hbmm)
            refine wp_seq (wp_region ?_)
            show wpOps P #[o1, o2] _ [0, 1] a w
            rw [wpOps_cons]
            refine wpOp_val (o := o1) rfl p3 (run_move p1) ?_
            have hvm3 : evalT a.tmps (.tmp m) = .map (some bm) := hvm2
            rw [p2, hvm3, wpOps_cons]
            refine wpOp_val (o := o2) rfl p6 (run_rangeOp p4 p7 (put_get (by omega)) hg) ?_
            rw [p5]
            simp only [wpOps]
            obtain ⟨w1, hw1⟩ : ∃ w1, w1 = w.alloc (.mapIter (some bm) clk #[] clk) := ⟨_, rfl⟩
            have hit1 : w1.heap[w.heap.size]? = some (.mapIter (some bm) clk #[] clk) := by rw [hw1]; exact heap_alloc_new ..
            have hold : ∀ k, k < w.heap.size → w1.heap[k]? = w.heap[k]? := fun k hk => by rw [hw1]; exact Go.heap_alloc_old w _ hk
            have hws : w1.heap.size = w.heap.size + 1 := by rw [hw1]; simp
            rw [← hw1]
            have hin2 := (hin1.deadPut' (d := tm) q2 (trim_dead kt1) (.map (some bm))).deadPut (w' := w1) (d := it) q5 (trim_dead ki) (by omega) (fun k hk _ => hold k hk) (.pointer (some ⟨w.heap.size, 0, none⟩))
            have hptr : evalT ((a.put (some tm) (.map (some bm))).put (some it) (.pointer (some ⟨w.heap.size, 0, none⟩))).tmps (.tmp it) = .pointer (some ⟨w.heap.size, 0, none⟩) := put_get (by rw [put_size]; omega)
            have hsz1 : b ≤ ((a.put (some tm) (.map (some bm))).put (some it) (.pointer (some ⟨w.heap.size, 0, none⟩))).tmps.size := by rw [put_size, put_size]; exact hsz
            generalize (a.put (some tm) (.map (some bm))).put (some it) (.pointer (some ⟨w.heap.size, 0, none⟩)) = a1 at hin2 hptr hsz1 ⊢
            have hin3 : In ok1 mine1 glob (fun s => pn s || s == it) a1 w1 (fun k => k = 0) (Go.Abs.trim keep e) a1 w1 := ⟨hin2.sim, rfl, rfl, fun _ _ => rfl, .refl _ _⟩
            show (Code.block i _).wp P Q a1 w1
            have hfr1 : Fr mine w0 w1 := hin.fr.trans (by rw [hw1]; exact Fr.alloc mine w _)
            have hleft : (leftOf es #[]).toList = es.toList := by
              unfold leftOf
              rw [Array.toList_filter]
              exact List.filter_eq_self.2 fun x _ => by simp
            refine wp_block (wp_loop_rounds ((leftOf es #[]).size + 1) ?_)
            have hglob0 : GlobOK ok0 mine glob w := hb.glob.fr hin.fr
            refine each_rounds (keep := keep) (out := out) (dk := dk) (dv := dv) (ok0 := ok1) (mine := mine1) (pn := fun s => pn s || s == it) (bm := bm) (itB := w.heap.size) (es := es) (clk := clk) (r := r) (w00 := w0) (mineC := mine) (f := fun e => exec c glob 1 x e fun x st' e' => some (x, st', e')) (a1 := a1) (Q := Q) hm1 (by subst hmine1; exact fun hh => hh.2.1 rfl) (by subst hmine1; exact fun hh => hh.2.2 rfl) (by subst hok1; exact fun hh => hh.2.1 rfl) (by subst hok1; exact fun hh => hh.2.2 rfl)
              (by omega) hkk.1 hkv (by simp) ?_ ?_ ?_ (fun k hk => by subst hmine1; exact hk.1) (hwbig _ (Nat.le_refl _)) ?_ _ (Go.Abs.trim keep e) a1 w1 (fun k => k = 0) #[] clk (Nat.lt_succ_self _) hin3 (fun k hk => ?_) ?_ ?_ hit1 (Nat.le_refl _) hptr hsz1 hfr1 ?_
            · exact okNext_mono h2
            · exact okPair_mono h3
            · intro a0' w0' e1 e' a' w' st' Q' hb' hin' hf hQ'
              refine ih (R := AE × Nat × Env) (st := 1) hb' h4 hin' (fun s hs h0 => by omega) hf fun ex st2 e2 a2 w2 u2 g1 g2 g3 => ?_
              obtain ⟨rfl, _, rfl⟩ : ex = .normal ∧ st2 = st' ∧ e2 = e' := by
                have := Option.some.inj g1
                exact ⟨congrArg (·.1) this, congrArg (·.2.1) this, congrArg (·.2.2) this⟩
              exact hQ' _ _ _ g2
            · intro a' w' hin' hfr'
              refine hQ .normal 1 r a' w' (fun k => k = 0) hk ?_ (fun s hs h0 => by omega)
              obtain ⟨fp', hs', hv'⟩ := hin'.sim
              refine ⟨⟨fp', ⟨hs'.size, fun s v hsv => (hs'.rel s v hsv).step (fun k _ ho => ⟨by have := ho.1; subst hok1; exact this.1, ho.2⟩) fun _ _ _ => rfl, hs'.al, hs'.disj, fun s b' hb' => ⟨(hs'.lt s b' hb').1, by have := (hs'.lt s b' hb').2; subst hmine1; exact this.1⟩, hs'.ask, hs'.stamps⟩, hv'⟩, hin'.defers.trans hin2.defers, hin'.size.trans hin2.size, fun s hsp => ?_, hfr'⟩
              exact (hin'.pin s (by simp [hsp])).trans (hin2.pin s hsp)
            · subst hmine1; exact ⟨hwbig k (by omega), by omega, by omega⟩
            · subst hok1; subst hmine1
              exact hglob0.same (fun k hk h1 h2 => ⟨⟨h1, fun hh => h2 (hh ▸ (hs.lt m bm hbmm).2), by omega⟩, fun hh => h2 hh.1⟩) fun k hk _ _ => hold k hk
            · exact (hold bm hbml).trans hg
            · rw [hleft, hpk]; exact hall
          · cases hmap
        · cases hmap
  | loop keep out x ih =>
    intro ok0 mine pn R res code a0 w0 w u e a st k Q hb hok hin hu hk hQ
    cases code <;> simp [okCode] at hok
    rename_i body
    simp only [exec] at hk
    unfold loopK at hk
    split at hk
    · rename_i r hr
      unfold loopF at hr
      split at hr
      · rename_i hex
        generalize hex.choose = n at hr
        refine wp_loop_rounds n ?_
        have key : ∀ (n : Nat) (e : Env) (a : Act) (w : World) (u : Nat → Prop), In ok0 mine glob pn a0 w0 u e a w → loopN (fun e => exec c glob 1 x e fun x st' e' => some (x, st', e')) keep n e = some r → Code.rounds P body Q n a w := by
          intro n
          induction n with
          | zero => intro e a w u _ h; cases h
          | succ n ihn =>
            intro e a w u hin h
            rw [rounds_succ]
            simp only [loopN] at h
            cases hbody : exec c glob 1 x (Go.Abs.trim keep e) fun x st' e' => some (x, st', e') with
            | none => rw [hbody] at h; cases h
            | some p =>
              rw [hbody] at h
              refine ih (R := AE × Nat × Env) (st := 1) hb hok (hin.trim keep) (fun s hs h0 => by omega) hbody fun ex st' e' a' w' u' h1 h2 h3 => ?_
              obtain rfl := Option.some.inj h1
              cases ex with
              | normal => exact ihn e' a' w' u' h2 h
              | exit i => obtain rfl := Option.some.inj h; exact hQ (.exit i) _ _ _ _ _ hk (h2.trim out) (fun s hs h0 => by omega)
              | ret => obtain rfl := Option.some.inj h; exact hQ .ret _ _ _ _ _ hk (h2.trim out) (fun s hs h0 => by omega)
        exact key n e a w u hin hr
      · cases hr
    · cases hk
end
end Go.Abs
set_option linter.unusedVariables false
set_option linter.unusedSimpArgs false
namespace Go.Abs
open Go

def okRes (P : Program) : ResultVar → AR → Bool
  | .tmp t, .tmp t' => t == t'
  | .cell t ty, .cell t' n agg => t == t' && okTy P ty agg n
  | _, _ => false
def plainRs (rs : List AR) : List AR := match ioOf rs with | some r => r | none => rs
def okRess (P : Program) : List ResultVar → List AR → Bool
  | [], [] => true
  | r :: rs, x :: xs => okRes P r x && okRess P rs xs
  | _, _ => false
def AR.slot : AR → Nat
  | .tmp t => t
  | .cell t _ _ => t
  | .io t => t
def distinct : List Nat → Bool
  | [] => true
  | x :: xs => !xs.contains x && distinct xs
/-- The slots that a function does not write: the first, where it is handed back. -/
def pinOf (rs : List AR) (s : Nat) : Bool := s == 0 && (ioOf rs).isSome
theorem pinOf_zero {rs : List AR} (h : (ioOf rs).isSome = true) : pinOf rs 0 = true := by simp [pinOf, h]
def okFn (P : Program) (fn : Func) (x : AFn) : Bool :=
  (match fn.body with | some c => okCode P (pinOf x.results) c x.body | none => false) && okRess P fn.results.toList (plainRs x.results) && distinct ((plainRs x.results).map AR.slot) && decide (fn.ntmps = x.ntmps ∧ x.params ≤ x.ntmps) && decide (fn.name ≠ "runtime.NumGoroutine")

section
variable {ok0 mine : Nat → Prop} {glob : Nat → List D} {P : Program} {w w' : World} {e : Env} {tmps : Array Value} {fp : Nat → List Nat}

theorem run_loadVar {t : TypeId} {agg : Bool} {n : Nat} {g off : Nat} {v : Value} (ht : okTy P t agg n = true) (h : Loads w agg n (.pointer (some ⟨g, off, none⟩)) v) :
    (loadVar t ⟨g, off, none⟩).run P w = .ok v w := by
  have := run_loadAt (P := P) ht h
  simpa [Instr.loadAt, Instr.sureAddr] using this

def resRun (tmps : Array Value) : ResultVar → Sem Value
  | .tmp t => pure (tmps.getD t undef)
  | .cell a t => do loadVar t (← asAddr (tmps.getD a undef))
theorem results_eq (fn : Func) (tmps : Array Value) : results fn tmps = (do let vs ← fn.results.mapM (resRun tmps); pure (if h : vs.size = 1 then vs[0] else .tuple vs)) := by
  unfold results
  rfl

/-- One result. -/
theorem res_sound {ua uo : Nat → Prop} (h : Sim ok0 mine ua uo e tmps w fp) {r : ResultVar} {x : AR} (hx : okRes P r x = true) {V : V} (hr : resOf e x = some V) :
    ∃ v B, (resRun tmps r).run P w = .ok v w ∧ VR (okOf ok0 fp) w v V B ∧ ∀ b ∈ B, b ∈ fp x.slot := by
  cases x with
  | tmp t =>
    cases r <;> simp [okRes] at hx
    subst hx
    simp only [resOf] at hr
    split at hr
    · rename_i v ht
      obtain rfl := Option.some.inj hr
      obtain ⟨y, hy, hy', hyr⟩ := h.valOne ht
      exact ⟨y, fp _, by simp [resRun, hy'], hyr, fun b hb => hb⟩
    · rename_i id w' rows ht
      obtain rfl := Option.some.inj hr
      obtain ⟨y, hy, hy'⟩ := h.slot (by rw [ht]; simp)
      have hyr := h.rel _ y hy
      rw [ht] at hyr
      exact ⟨y, fp _, by simp [resRun, hy'], .one _ _ _ hyr.own_inv, fun b hb => hb⟩
    · cases hr
  | cell t n agg =>
    cases r <;> simp [okRes] at hx
    obtain ⟨rfl, hty⟩ := hx
    simp only [resOf] at hr
    split at hr
    · rename_i b ver ds ht
      split at hr
      · rename_i hlen
        obtain ⟨g, cur, E, B, hv, hv', hfp, hg, hrd, hgB, _, _⟩ := h.boxAt ht
        have hB : ∀ b ∈ B, b ∈ fp (AR.slot (.cell _ n agg)) := fun b hb => by simp only [AR.slot]; rw [hfp]; exact List.mem_cons_of_mem _ hb
        have hcl := hrd.length
        simp only [Array.length_toList] at hcl
        cases agg with
        | true =>
          simp only [Go.Abs.V.ofCells, Option.some.injEq] at hr
          subst hr
          refine ⟨.agg cur, B, ?_, by simpa using VR.agg _ _ _ hrd, hB⟩
          have hl : Loads w true n (.pointer (some ⟨g, 0, none⟩)) (.agg cur) := ⟨g, 0, rfl, cur.toList, by simp [hcl, hlen], fun j u hj => cells_of_row hg 0 j u (by simpa using hj), by simp⟩
          simp [resRun, hv', asAddr, run_loadVar hty hl]
        | false =>
          cases ds with
          | nil => simp [Go.Abs.V.ofCells] at hr
          | cons d ds =>
            cases ds with
            | cons => simp [Go.Abs.V.ofCells] at hr
            | nil =>
              simp only [Go.Abs.V.ofCells, Option.some.injEq] at hr
              subst hr
              cases hc : cur.toList with
              | nil => rw [hc] at hrd; have := hrd.length; simp at this
              | cons v vs =>
                rw [hc] at hrd
                have hvs : vs = [] := List.eq_nil_of_length_eq_zero (by have := hrd.length; simpa using this)
                subst hvs
                refine ⟨v, B, ?_, .one _ _ _ hrd.single, hB⟩
                have h0 : w.cell? ⟨g, 0, none⟩ = some v := cells_of_row hg 0 0 v (by rw [List.drop_zero, hc]; rfl)
                have hl : Loads w false n (.pointer (some ⟨g, 0, none⟩)) v := ⟨g, 0, rfl, h0⟩
                simp [resRun, hv', asAddr, run_loadVar hty hl]
      · cases hr
    · cases hr
  | io t => cases r <;> simp [okRes] at hx

/-- A part of what is handed back. -/
theorem part_sound {ua uo : Nat → Prop} (h : Sim ok0 mine ua uo e tmps w fp) {r : ResultVar} {x : AR} (hx : okRes P r x = true) {V : V} (hr : resPart e x = some V) :
    ∃ v B, (resRun tmps r).run P w = .ok v w ∧ PR (okOf ok0 fp) w v V B ∧ ∀ b ∈ B, b ∈ fp x.slot := by
  have plain : resOf e x = some V → ∃ v B, (resRun tmps r).run P w = .ok v w ∧ PR (okOf ok0 fp) w v V B ∧ ∀ b ∈ B, b ∈ fp x.slot := fun hr => by
    obtain ⟨v, B, a1, a2, a3⟩ := res_sound h hx hr
    exact ⟨v, B, a1, .v _ _ _ a2, a3⟩
  cases x with
  | tmp t =>
    simp only [resPart] at hr
    split at hr
    · rename_i id kv ht
      obtain rfl := Option.some.inj hr
      obtain ⟨y, hy, hy'⟩ := h.slot (by rw [ht]; simp)
      have hyr := h.rel _ y hy
      rw [ht] at hyr
      cases r <;> simp [okRes] at hx
      subst hx
      simp only [AR.slot]
      generalize fp _ = B at hyr
      cases hyr with
      | mapv g _ clk es _ hg hk => exact ⟨_, [g], by simp [resRun, hy'], .map g clk es kv hg hk, fun b hb => hb⟩
    · exact plain hr
  | cell t n agg => exact plain hr
  | io t => exact plain hr
theorem ress_sound {ua uo : Nat → Prop} (h : Sim ok0 mine ua uo e tmps w fp) : ∀ {rs : List ResultVar} {xs : List AR}, okRess P rs xs = true → distinct (xs.map AR.slot) = true → ∀ {Vs : List V}, resAll e xs = some Vs →
    ∃ vs B, (rs.mapM (resRun tmps)).run P w = .ok vs w ∧ vs.length = rs.length ∧ TR (okOf ok0 fp) w vs (Vs.map some) B ∧ ∀ b ∈ B, ∃ x ∈ xs, b ∈ fp x.slot
  | [], [], _, _, Vs, hr => by
    simp only [resAll, Option.some.injEq] at hr
    subst hr
    exact ⟨[], [], by simp, rfl, .nil, by simp⟩
  | [], _ :: _, h1, _, _, _ => by cases h1
  | _ :: _, [], h1, _, _, _ => by cases h1
  | r :: rs, x :: xs, h1, h2, Vs, hr => by
    simp only [okRess, Bool.and_eq_true] at h1
    simp only [List.map_cons, distinct, Bool.and_eq_true, Bool.not_eq_true'] at h2
    simp only [resAll] at hr
    split at hr
    · rename_i V Vs' hV hVs
      obtain rfl := Option.some.inj hr
      obtain ⟨v, B1, a1, a2, a3⟩ := part_sound h h1.1 hV
      obtain ⟨vs, B2, b1, b2, b3, b4⟩ := ress_sound h h1.2 h2.2 hVs
      refine ⟨v :: vs, B1 ++ B2, ?_, by simp [b2], .putP a2 b3 fun b hb hb' => ?_, fun b hb => ?_⟩
      · rw [List.mapM_cons]
        simp only [Sem.run_bind, a1, Result.andThen_ok, b1, Sem.run_pure]
      · obtain ⟨y, hy, hby⟩ := b4 b hb'
        have hne : x.slot ≠ y.slot := fun hh => by
          have : y.slot ∈ xs.map AR.slot := List.mem_map_of_mem hy
          rw [← hh] at this
          have h3 := h2.1
          simp [this] at h3
        exact h.disj _ _ b hne (a3 b hb) hby
      · rcases List.mem_append.1 hb with hb | hb
        · exact ⟨x, List.mem_cons_self .., a3 b hb⟩
        · obtain ⟨y, hy, hby⟩ := b4 b hb
          exact ⟨y, List.mem_cons_of_mem _ hy, hby⟩
    · cases hr

theorem finPlain_sound {ua uo : Nat → Prop} (h : Sim ok0 mine ua uo e tmps w fp) {fn : Func} {xs : List AR} (hok : okRess P fn.results.toList xs = true) (hd : distinct (xs.map AR.slot) = true) {r : AV} (hr : finPlain xs e = some r) :
    isRes r = true ∧ isIO r = false ∧ ∃ v B, (results fn tmps).run P w = .ok v w ∧ AvR (okOf ok0 fp) w v r B ∧ ∀ b ∈ B, ∃ s, b ∈ fp s := by
  have hrun : ∀ {vs : List Value}, (fn.results.toList.mapM (resRun tmps)).run P w = .ok vs w → (results fn tmps).run P w = .ok (if h : vs.toArray.size = 1 then vs.toArray[0] else .tuple vs.toArray) w := by
    intro vs hvs
    rw [results_eq, Array.mapM_eq_mapM_toList]
    simp [hvs]
  unfold finPlain at hr
  split at hr
  · rename_i x
    split at hr
    · rename_i V hV
      obtain rfl := Option.some.inj hr
      cases hrl : fn.results.toList with
      | nil => rw [hrl] at hok; cases hok
      | cons rv rs =>
        rw [hrl] at hok
        simp only [okRess, Bool.and_eq_true] at hok
        cases rs with
        | cons => cases hok.2
        | nil =>
          obtain ⟨v, B, a1, a2, a3⟩ := res_sound h hok.1 hV
          refine ⟨rfl, rfl, v, B, ?_, .val _ _ _ a2, fun b hb => ⟨_, a3 b hb⟩⟩
          have := hrun (vs := [v]) (by rw [hrl, List.mapM_cons]; simp [a1])
          simpa using this
    · cases hr
  · rename_i hne
    split at hr
    · rename_i Vs hVs
      obtain rfl := Option.some.inj hr
      obtain ⟨vs, B, b1, b2, b3, b4⟩ := ress_sound h hok hd hVs
      refine ⟨rfl, by cases Vs <;> rfl, .tuple vs.toArray, B, ?_, .tup _ _ _ b3, fun b hb => ?_⟩
      · have := hrun b1
        rw [this]
        have hl : vs.toArray.size ≠ 1 := by
          simp only [List.size_toArray]
          rw [b2]
          intro h1
          have hx : xs.length = 1 := by
            have : ∀ {rs : List ResultVar} {xs : List AR}, okRess P rs xs = true → rs.length = xs.length := by
              intro rs
              induction rs with
              | nil => intro xs h; cases xs with
                | nil => rfl
                | cons => cases h
              | cons r rs ih => intro xs h; cases xs with
                | nil => cases h
                | cons x xs => simp only [okRess, Bool.and_eq_true] at h; simp [ih h.2]
            rw [← this hok]; exact h1
          match xs, hx with
          | [x], _ => exact hne x rfl
        rw [dif_neg hl]
      · obtain ⟨x, _, hx⟩ := b4 b hb
        exact ⟨_, hx⟩
    · cases hr
/-- What is handed back of the first argument. -/
theorem io_sound {ua uo : Nat → Prop} (h : Sim ok0 mine ua uo e tmps w fp) {V : V} (hr : resOf e (.io 0) = some V) : ∃ B, VR (okOf ok0 fp) w (tmps.getD 0 undef) V B ∧ ∀ b ∈ B, ∃ s, b ∈ fp s := by
  simp only [resOf] at hr
  split at hr
  · rename_i id w' rows ht
    obtain rfl := Option.some.inj hr
    obtain ⟨y, hy, hy'⟩ := h.slot (s := 0) (by rw [ht]; simp)
    have hyr := h.rel _ y hy
    rw [ht] at hyr
    rw [hy']
    exact ⟨fp 0, .one _ _ _ hyr.own_inv, fun b hb => ⟨0, hb⟩⟩
  · rename_i t ver ht
    split at hr
    · rename_i b ver' ds hb
      split at hr
      · rename_i hv
        subst hv
        obtain rfl := Option.some.inj hr
        obtain ⟨y, hy, hy'⟩ := h.slot (s := 0) (by rw [ht]; simp)
        have ha := h.al 0 y hy
        rw [ht] at ha
        obtain ⟨g, cur, E, htv, hg, rfl⟩ := ha _ _ hb
        obtain ⟨g2, cur2, E2, B, htv2, _, hfp, hg2, hrd, hgB, _, _⟩ := h.boxAt hb
        obtain rfl : g = g2 := by rw [htv] at htv2; injection htv2 with h1; injection h1 with h1; injection h1 with h1; injection h1
        obtain rfl : cur = cur2 := by rw [hg] at hg2; injection hg2 with h1; injection h1
        rw [hy']
        exact ⟨B, by simpa using VR.agg _ _ _ hrd, fun b hb => ⟨t, by rw [hfp]; exact List.mem_cons_of_mem _ hb⟩⟩
      · cases hr
    · cases hr
  · cases hr
theorem finish_sound {ua uo : Nat → Prop} (h : Sim ok0 mine ua uo e tmps w fp) {fn : Func} {xs : List AR} (hok : okRess P fn.results.toList (plainRs xs) = true) (hd : distinct ((plainRs xs).map AR.slot) = true) {vs0 : List Value} (hpin : (ioOf xs).isSome = true → tmps.getD 0 undef = vs0.headD undef) {r : AV} (hr : finish xs e = some r) :
    isRes r = true ∧ ∃ v B, (results fn tmps).run P w = .ok v w ∧ AvR (okOf ok0 fp) w (resV r v vs0) r B ∧ ∀ b ∈ B, ∃ s, b ∈ fp s := by
  unfold finish at hr
  unfold plainRs at hok hd
  cases hio : ioOf xs with
  | none =>
    rw [hio] at hr hok hd
    obtain ⟨g1, g2, v, B, g3, g4, g5⟩ := finPlain_sound h hok hd hr
    exact ⟨g1, v, B, g3, by unfold resV; rw [g2]; exact g4, g5⟩
  | some ra =>
    rw [hio] at hr hok hd hpin
    simp only at hr
    unfold finIO at hr
    split at hr
    rotate_left
    · split at hr
      · rename_i y hy
        obtain rfl := Option.some.inj hr
        obtain ⟨_, _, v, B, g3, g4, g5⟩ := finPlain_sound (xs := []) (r := .tup []) h hok hd (by simp [finPlain, resAll])
        obtain ⟨By, hy1, hy2⟩ := io_sound h hy
        refine ⟨rfl, v, By, g3, ?_, hy2⟩
        rw [hpin rfl] at hy1
        have := TR.skip undef _ _ _ (TR.skip v _ _ _ (TR.put _ _ _ _ _ _ hy1 .nil (by simp)))
        simpa [resV, isIO] using AvR.tup _ _ _ this
      · cases hr
    · cases hr
    rename_i ra
    split at hr
    · rename_i d y hx hy
      split at hr
      · rename_i hf
        obtain rfl := Option.some.inj hr
        obtain ⟨_, _, v, B, g3, g4, g5⟩ := finPlain_sound (xs := [ra]) (r := .val (.one d)) h hok hd (by simp [finPlain, hx])
        obtain ⟨By, hy1, hy2⟩ := io_sound h hy
        have hB : B = [] := g4.val_inv.one_inv.plain fun e rows hh => by subst hh; simp [flatD] at hf
        subst hB
        refine ⟨rfl, v, By, g3, ?_, hy2⟩
        rw [hpin rfl] at hy1
        have := TR.skip undef _ _ _ (TR.put _ _ _ _ _ _ g4.val_inv (TR.put _ _ _ _ _ _ hy1 .nil (by simp)) (by simp))
        simpa [resV, isIO] using AvR.tup _ _ _ this
      · cases hr
    · cases hr
end
end Go.Abs
set_option linter.unusedVariables false
set_option linter.unusedSimpArgs false
namespace Go.Abs
open Go

section
variable {glob : Nat → List D} {P : Program} {w : World}

theorem ArgsR.slots {ok : Nat → Prop} {vs : List Value} {args : List AV} {Bs : List Nat} (h : ArgsR ok w vs args Bs) :
    vs.length = args.length ∧ ∃ fp : Nat → List Nat, (∀ (i : Nat) v a, vs[i]? = some v → args[i]? = some a → isArg a = true ∧ AvR ok w v a (fp i)) ∧ (∀ s t b, s ≠ t → b ∈ fp s → b ∉ fp t) ∧ (∀ s b, b ∈ fp s → b ∈ Bs) ∧ ∀ s, vs.length ≤ s → fp s = [] := by
  induction h with
  | nil => exact ⟨rfl, fun _ => [], fun i v a h => by simp at h, by simp, by simp, by simp⟩
  | cons v a vs as B1 B2 ha h1 h2 hd ih =>
    obtain ⟨hl, fp, g1, g2, g3, g4⟩ := ih
    refine ⟨by simp [hl], fun s => match s with | 0 => B1 | s + 1 => fp s, fun i v' a' hv' ha' => ?_, fun s t b hne hb hb' => ?_, fun s b hb => ?_, fun s hs => ?_⟩
    · cases i with
      | zero => simp at hv' ha'; subst hv'; subst ha'; exact ⟨ha, h1⟩
      | succ i => exact g1 i v' a' (by simpa using hv') (by simpa using ha')
    · cases s with
      | zero => cases t with
        | zero => exact hne rfl
        | succ t => exact hd b hb (g3 t b hb')
      | succ s => cases t with
        | zero => exact hd b hb' (g3 s b hb)
        | succ t => exact g2 s t b (fun hh => hne (by rw [hh])) hb hb'
    · cases s with
      | zero => exact List.mem_append_left _ hb
      | succ s => exact List.mem_append_right _ (g3 s b hb)
    · cases s with
      | zero => simp at hs
      | succ s => exact g4 s (by simpa using hs)

theorem env_get {e : Env} {i : Nat} : e.get i = (e[i]?).getD .dead := by
  induction e generalizing i with
  | nil => simp [Env.get]
  | cons v l ih => cases i with
    | zero => simp [Env.get]
    | succ i => simp [Env.get, ih]

/-- The frame at the start of a call. -/
theorem entry {okA : Nat → Prop} {vs : List Value} {args : List AV} {Bs : List Nat} (h : ArgsR okA w vs args Bs) (hno : ∀ b ∈ Bs, ¬ okA b) {glob : Nat → List D} (pn : Nat → Bool) (n : Nat) :
    In (fun k => okA k ∨ w.heap.size ≤ k ∨ k ∈ Bs) (fun k => w.heap.size ≤ k ∨ k ∈ Bs) glob pn { tmps := vs.toArray ++ Array.replicate n undef, defers := [] } w (fun k => k = 0) (args.map (AV.stamp 0) ++ List.replicate n .undef) { tmps := vs.toArray ++ Array.replicate n undef, defers := [] } w := by
  obtain ⟨hl, fp, g1, g2, g3, g4⟩ := h.slots
  have hBlt : ∀ s b, b ∈ fp s → b < w.heap.size := by
    intro s b hb
    have hs : s < vs.length := by
      rcases Nat.lt_or_ge s vs.length with h' | h'
      · exact h'
      · rw [g4 s h'] at hb; cases hb
    have hs2 : s < args.length := by omega
    obtain ⟨ha, hr⟩ := g1 s vs[s] args[s] (by simp [hs]) (by simp [hs2])
    generalize args[s] = av at ha hr
    generalize vs[s] = vv at hr
    generalize fp s = B at hb hr
    cases hr with
    | val _ _ _ hv => cases hv with
      | one _ _ _ hh => exact hh.lt b hb
      | agg _ _ _ hh => exact hh.lt b hb
    | rp => cases hb
    | clo => cases hb
    | _ => simp [isArg] at ha
  have hok : ∀ k, okA k → okOf (fun k => okA k ∨ w.heap.size ≤ k ∨ k ∈ Bs) fp k := fun k hk => ⟨.inl hk, fun s hs => hno k (g3 s k hs) hk⟩
  have hget : ∀ s, s < vs.length → ∃ v a, vs[s]? = some v ∧ args[s]? = some a ∧ (vs.toArray ++ Array.replicate n undef)[s]? = some v ∧ Env.get (args.map (AV.stamp 0) ++ List.replicate n AV.undef) s = a.stamp 0 := by
    intro s hs
    have hs2 : s < args.length := by omega
    refine ⟨vs[s], args[s], by simp [hs], by simp [hs2], by simp [Array.getElem?_append, hs], ?_⟩
    rw [env_get]
    simp [List.getElem?_append, hs2]
  have hget2 : ∀ s v, vs.length ≤ s → (vs.toArray ++ Array.replicate n undef)[s]? = some v → v = undef ∧ Env.get (args.map (AV.stamp 0) ++ List.replicate n AV.undef) s = .undef := by
    intro s v hs hv
    have h1 : ¬ s < vs.length := by omega
    rw [Array.getElem?_append, if_neg (by simpa using h1), Array.getElem?_replicate] at hv
    split at hv
    · rename_i h2
      refine ⟨(Option.some.inj hv).symm, ?_⟩
      rw [env_get]
      have h3 : ¬ s < args.length := by omega
      simp only [List.size_toArray] at h2
      have h4 : s - args.length < n := by omega
      simp [List.getElem?_append, h3, List.getElem?_replicate, h4]
    · cases hv
  have hget3 : ∀ s, vs.length ≤ s → Env.get (args.map (AV.stamp 0) ++ List.replicate n AV.undef) s = .undef ∨ Env.get (args.map (AV.stamp 0) ++ List.replicate n AV.undef) s = .dead := by
    intro s hs
    rw [env_get]
    have h3 : ¬ s < args.length := by omega
    by_cases h4 : s - args.length < n
    · left; simp [List.getElem?_append, h3, List.getElem?_replicate, h4]
    · right; simp [List.getElem?_append, h3, List.getElem?_replicate, h4]
  have argPlain : ∀ a : AV, isArg a = true → aliasOf (a.stamp 0) = none ∧ askStamp (a.stamp 0) = none ∧ OwnIn (fun k => k = 0) (a.stamp 0) := by
    intro a ha
    cases a with
    | val x => exact ⟨(ofV_alias 0 x).1, (ofV_alias 0 x).2, (ofV_own (fun k => k = 0) 0 rfl x).1⟩
    | rp ds => exact ⟨rfl, rfl, trivial⟩
    | clo f c => exact ⟨rfl, rfl, trivial⟩
    | _ => simp [isArg] at ha
  refine ⟨⟨fp, ⟨by simp [hl], fun s v hs => ?_, fun s v hs => ?_, g2, fun s b hb => ⟨hBlt s b hb, .inr (g3 s b hb)⟩, fun s id hid => ?_, fun s => ?_⟩, fun s hs => g4 s (by simp at hs; omega)⟩, rfl, rfl, fun _ _ => rfl, .refl _ _⟩
  · by_cases hsv : s < vs.length
    · obtain ⟨v', a, h1, h2, h3, h4⟩ := hget s hsv
      rw [hs] at h3
      obtain rfl := Option.some.inj h3
      rw [h4]
      exact ((g1 s v a h1 h2).2.stamp 0).step (fun k _ => hok k) fun _ _ _ => rfl
    · obtain ⟨rfl, h4⟩ := hget2 s v (by omega) hs
      rw [h4, g4 s (by omega)]
      exact .undef
  · refine AliasOK.stale fun t ht => ?_
    by_cases hsv : s < vs.length
    · obtain ⟨v', a, h1, h2, h3, h4⟩ := hget s hsv
      rw [h4, (argPlain a (g1 s v' a h1 h2).1).1] at ht
      cases ht
    · obtain ⟨rfl, h4⟩ := hget2 s v (by omega) hs
      rw [h4] at ht
      cases ht
  · by_cases hsv : s < vs.length
    · obtain ⟨v', a, h1, h2, h3, h4⟩ := hget s hsv
      rw [h4, (argPlain a (g1 s v' a h1 h2).1).2.1] at hid
      cases hid
    · rcases hget3 s (by omega) with h4 | h4 <;> rw [h4] at hid <;> cases hid
  · by_cases hsv : s < vs.length
    · obtain ⟨v', a, h1, h2, h3, h4⟩ := hget s hsv
      rw [h4]
      exact (argPlain a (g1 s v' a h1 h2).1).2.2
    · rcases hget3 s (by omega) with h4 | h4 <;> rw [h4] <;> trivial

/-- A function whose code is the abstract one's. -/
theorem runF_sound {c : Orc} (hc : ∀ f args r, c f args = some r → CallOK P f glob args r) (hmix : P.follows .mixedOrders = true) {f : FuncId} {fn : Func} (hf : P.funcs[f]? = some fn) {x : AFn} (hok : okFn P fn x = true) {args : List AV} {r : AV} (hr : runF c glob x args = some r) : CallOK P f glob args r := by
  simp only [okFn, Bool.and_eq_true, decide_eq_true_eq] at hok
  obtain ⟨⟨⟨⟨hbody, hres⟩, hdist⟩, hn1, hn2⟩, hname⟩ := hok
  split at hbody
  · rename_i code hcode
    unfold runF at hr
    split at hr
    · rename_i hlen
      -- what the frame's end says of the result
      have hend : ∀ {ex : AE} {st' : Nat} {e' : Env}, (match ex with | AE.normal => finish x.results e' | AE.ret => finish x.results e' | _ => none) = some r → finish x.results e' = some r ∧ (ex = .normal ∨ ex = .ret) := by
        intro ex st' e' h
        cases ex with
        | normal => exact ⟨h, .inl rfl⟩
        | exit => cases h
        | ret => exact ⟨h, .inr rfl⟩
      refine ⟨⟨fn, hf, by rw [hcode]; rfl, hname⟩, fun w vs okA Bs hargs hno hglob => ?_⟩
      · have hsz : vs.length = args.length := hargs.slots.1
        refine calls_of_wp hf hcode ?_
        have hnt : fn.ntmps - vs.toArray.size = x.ntmps - x.params := by simp [hsz, hlen, hn1]
        rw [hnt]
        have hin := entry (glob := glob) hargs hno (pinOf x.results) (x.ntmps - x.params)
        have hb : Base (fun k => okA k ∨ w.heap.size ≤ k ∨ k ∈ Bs) (fun k => w.heap.size ≤ k ∨ k ∈ Bs) glob w := ⟨fun k hk => .inl hk, fun k hk => .inr hk, fun g => by
          obtain ⟨us, h1, h2, hw⟩ := hglob g
          exact ⟨us, h1, fun j u hj => ⟨⟨.inl (h2 j u hj).1.1, (h2 j u hj).1.2⟩, (h2 j u hj).2⟩, hw⟩⟩
        refine exec_sound hc hmix x.body hb hbody hin (fun s hs h0 => by omega) hr fun ex st' e' a' w' u' h1 h2 h3 => ?_
        obtain ⟨h1, hex⟩ := hend (st' := st') h1
        obtain ⟨fp, hs, hv⟩ := h2.sim
        have hpin : (ioOf x.results).isSome = true → a'.tmps.getD 0 undef = vs.headD undef := by
          intro hp
          have h5 := h2.pin 0 (pinOf_zero hp)
          rw [Array.getD_eq_getD_getElem?, h5]
          cases vs with
          | nil => simp [Array.getElem?_replicate]; split <;> rfl
          | cons v vs => rw [Array.getElem?_append, if_pos (by simp)]; simp
        obtain ⟨gr, v, B, g1, g2, g3⟩ := finish_sound (P := P) hs hres hdist hpin h1
        have hpost : a'.defers = [] ∧ ∃ v, (results fn a'.tmps).run P w' = .ok v w' ∧ ∃ v' B, Ending.returned v = .returned v' ∧ isRes r = true ∧ AvR (fun k => (okA k ∨ w.heap.size ≤ k ∨ k ∈ Bs) ∧ k ∉ B) w' (resV r v' vs) r B ∧
            (∀ b ∈ B, b < w'.heap.size ∧ (w.heap.size ≤ b ∨ b ∈ Bs)) ∧ Fr (fun k => w.heap.size ≤ k ∨ k ∈ Bs) w w' := by
          refine ⟨h2.defers, v, g1, v, B, rfl, gr, g2.step (fun k _ hk => ⟨hk.1, fun hb => ?_⟩) fun _ _ _ => rfl, fun b hb => ?_, h2.fr⟩
          · obtain ⟨s, hs'⟩ := g3 k hb
            exact hk.2 s hs'
          · obtain ⟨s, hs'⟩ := g3 b hb
            exact hs.lt s b hs'
        rcases hex with rfl | rfl <;> exact hpost
    · cases hr
  · cases hbody
end
end Go.Abs
set_option linter.unusedVariables false
set_option linter.unusedSimpArgs false
namespace Go.Abs
open Go

def HandOK (P : Program) (glob : Nat → List D) (hand : FuncId → Option (List AV → Option AV)) : Prop := ∀ f h args r, hand f = some h → h args = some r → CallOK P f glob args r
def ProgOK (P : Program) (prog : FuncId → Option AFn) : Prop := ∀ f x, prog f = some x → ∃ fn, P.funcs[f]? = some fn ∧ okFn P fn x = true

section
variable {P : Program} {glob : Nat → List D} {prog : FuncId → Option AFn} {hand : FuncId → Option (List AV → Option AV)}

theorem callN_sound (hmix : P.follows .mixedOrders = true) (hp : ProgOK P prog) (hh : HandOK P glob hand) : ∀ (n : Nat) (f : FuncId) (args : List AV) (r : AV), callN prog hand glob n f args = some r → CallOK P f glob args r
  | 0, f, args, r, h => by cases h
  | n + 1, f, args, r, h => by
    simp only [callN] at h
    cases hf : hand f with
    | some g => rw [hf] at h; exact hh f g args r hf h
    | none =>
      rw [hf] at h
      cases hx : prog f with
      | none => rw [hx] at h; cases h
      | some x =>
        rw [hx] at h
        obtain ⟨fn, h1, h2⟩ := hp f x hx
        exact runF_sound (callN_sound hmix hp hh n) hmix h1 h2 h
theorem callF_sound (hmix : P.follows .mixedOrders = true) (hp : ProgOK P prog) (hh : HandOK P glob hand) {f : FuncId} {args : List AV} {r : AV} (h : callF prog hand glob f args = some r) : CallOK P f glob args r := by
  unfold callF at h
  split at h
  · exact callN_sound hmix hp hh _ f args r h
  · cases h

/-! ### loops -/
theorem loopN_mono {body : Env → Option (AE × Nat × Env)} {keep : List Nat} : ∀ {n m : Nat} {e : Env} {r : AE × Nat × Env}, loopN body keep n e = some r → n ≤ m → loopN body keep m e = some r
  | 0, _, _, _, h, _ => by cases h
  | n + 1, 0, _, _, _, hm => by omega
  | n + 1, m + 1, e, r, h, hm => by
    simp only [loopN] at h ⊢
    cases hb : body (trim keep e) with
    | none => rw [hb] at h; cases h
    | some p =>
      rw [hb] at h
      obtain ⟨x, st, e'⟩ := p
      cases x with
      | normal => exact loopN_mono (n := n) h (by omega)
      | _ => exact h
theorem loopF_of {body : Env → Option (AE × Nat × Env)} {keep : List Nat} {n : Nat} {e : Env} {r : AE × Nat × Env} (h : loopN body keep n e = some r) : loopF body keep e = some r := by
  have hex : ∃ n r, loopN body keep n e = some r := ⟨n, r, h⟩
  unfold loopF
  rw [dif_pos hex]
  obtain ⟨r', hr'⟩ := hex.choose_spec
  have h1 := loopN_mono hr' (Nat.le_max_left hex.choose n)
  have h2 := loopN_mono h (Nat.le_max_right hex.choose n)
  rw [h1] at h2
  rw [hr', h2]
theorem loopF_some {body : Env → Option (AE × Nat × Env)} {keep : List Nat} {e : Env} {r : AE × Nat × Env} (h : loopF body keep e = some r) : ∃ n, loopN body keep n e = some r := by
  unfold loopF at h
  split at h
  · exact ⟨_, h⟩
  · cases h
/-- A round that goes on. -/
theorem loopF_next {body : Env → Option (AE × Nat × Env)} {keep : List Nat} {e e' : Env} {st : Nat} {r : AE × Nat × Env} (hb : body (trim keep e) = some (.normal, st, e')) (h : loopF body keep e' = some r) : loopF body keep e = some r := by
  obtain ⟨n, hn⟩ := loopF_some h
  exact loopF_of (n := n + 1) (by simp only [loopN, hb]; exact hn)
/-- A round that leaves. -/
theorem loopF_done {body : Env → Option (AE × Nat × Env)} {keep : List Nat} {e : Env} {r : AE × Nat × Env} (hb : body (trim keep e) = some r) (hr : r.1 ≠ .normal) : loopF body keep e = some r := by
  refine loopF_of (n := 1) ?_
  obtain ⟨x, st, e'⟩ := r
  simp only [loopN, hb]
  cases x with
  | normal => exact absurd rfl hr
  | _ => rfl

/-! ### what an operation yields, whatever comes behind it -/
section
variable {R : Type} {e : Env} {s st : Nat} {r : Option Nat} {res : R} {c : Orc} {dst : Option Nat}
theorem movesOf_nat {xs : List X} {acc : List V} {us : Upd} {k : List V → Upd → Option R} (hk : movesOf st e xs acc us k = some res) :
    ∃ vs us', k vs us' = some res ∧ ∀ {R' : Type} (k' : List V → Upd → Option R'), movesOf st e xs acc us k' = k' vs us' := by
  induction xs generalizing e acc us with
  | nil => exact ⟨_, _, hk, fun _ => rfl⟩
  | cons x xs ih =>
    cases x with
    | m s r =>
      simp only [movesOf] at hk
      obtain ⟨v, us1, h1, _, h3⟩ := takeS_loc hk
      obtain ⟨vs, us', g1, g2⟩ := ih h1
      exact ⟨vs, us', g1, fun k' => by simp only [movesOf]; rw [h3 _ e ⟨rfl, fun _ _ => rfl⟩]; exact g2 k'⟩
    | _ =>
      simp only [movesOf] at hk
      obtain ⟨vs, us', g1, g2⟩ := ih hk
      exact ⟨vs, us', g1, fun k' => by simp only [movesOf]; exact g2 k'⟩
theorem argsOf_nat {xs : List X} {vs : List V} {b : Bool} {acc : List AV} {k : Bool → List AV → Option R} (hk : argsOf e xs vs b acc k = some res) :
    ∃ b' as, k b' as = some res ∧ ∀ {R' : Type} (k' : Bool → List AV → Option R'), argsOf e xs vs b acc k' = k' b' as := by
  induction xs generalizing vs b acc with
  | nil => exact ⟨_, _, hk, fun _ => rfl⟩
  | cons x xs ih =>
    cases x with
    | m s r =>
      cases vs with
      | nil => simp [argsOf] at hk
      | cons v vs =>
        simp only [argsOf] at hk
        obtain ⟨b', as, g1, g2⟩ := ih hk
        exact ⟨b', as, g1, fun k' => by simp only [argsOf]; exact g2 k'⟩
    | c d =>
      simp only [argsOf] at hk
      obtain ⟨b', as, g1, g2⟩ := ih hk
      exact ⟨b', as, g1, fun k' => by simp only [argsOf]; exact g2 k'⟩
    | k d =>
      simp only [argsOf] at hk
      obtain ⟨b', as, g1, g2⟩ := ih hk
      exact ⟨b', as, g1, fun k' => by simp only [argsOf]; exact g2 k'⟩
    | f d =>
      simp only [argsOf] at hk
      obtain ⟨b', as, g1, g2⟩ := ih hk
      exact ⟨b', as, g1, fun k' => by simp only [argsOf]; exact g2 k'⟩
    | t s =>
      simp only [argsOf] at hk
      obtain ⟨b1, a1, h1, h2⟩ := argS_loc hk
      obtain ⟨b', as, g1, g2⟩ := ih h1
      exact ⟨b', as, g1, fun k' => by simp only [argsOf]; rw [h2 _ e ⟨rfl, fun _ _ => rfl⟩]; exact g2 k'⟩
    | a s r =>
      simp only [argsOf] at hk
      obtain ⟨b1, a1, h1, h2⟩ := argS_loc hk
      obtain ⟨b', as, g1, g2⟩ := ih h1
      exact ⟨b', as, g1, fun k' => by simp only [argsOf]; rw [h2 _ e ⟨rfl, fun _ _ => rfl⟩]; exact g2 k'⟩
    | _ => simp [argsOf] at hk
theorem capS_nat {k : List D → Upd → Option R} (hk : capS e s k = some res) : ∃ ds us, k ds us = some res ∧ ∀ {R' : Type} (k' : List D → Upd → Option R'), capS e s k' = k' ds us := by
  unfold capS at hk
  cases hav : Env.get e s with
  | box b ver ds =>
    rw [hav] at hk
    cases hp : plainL ds with
    | true => simp only [hp] at hk; exact ⟨_, _, hk, fun k' => by simp only [capS, hav, hp]⟩
    | false => simp only [hp] at hk; cases hk
  | rp ds => rw [hav] at hk; exact ⟨_, _, hk, fun k' => by simp only [capS, hav]⟩
  | _ => rw [hav] at hk; cases hk
theorem caps_nat {xs : List X} {acc : List (List D)} {us : Upd} {k : List (List D) → Upd → Option R} (hk : caps e xs acc us k = some res) :
    ∃ ds us', k ds us' = some res ∧ ∀ {R' : Type} (k' : List (List D) → Upd → Option R'), caps e xs acc us k' = k' ds us' := by
  induction xs generalizing e acc us with
  | nil => exact ⟨_, _, hk, fun _ => rfl⟩
  | cons x xs ih =>
    cases x with
    | t s =>
      simp only [caps] at hk
      obtain ⟨d, us1, h1, h2⟩ := capS_nat hk
      obtain ⟨ds, us', g1, g2⟩ := ih h1
      exact ⟨ds, us', g1, fun k' => by simp only [caps]; rw [h2]; exact g2 k'⟩
    | _ => simp [caps] at hk
end
end
end Go.Abs
set_option linter.unusedVariables false
set_option linter.unusedSimpArgs false
namespace Go.Abs
open Go

def Lim (c : Nat → Orc) (C : Orc) : Prop := ∀ f a r, C f a = some r → ∃ n, ∀ m, n ≤ m → c m f a = some r

section
variable {glob : Nat → List D} {c : Nat → Orc} {C : Orc}

theorem call_cont (hL : Lim c C) {R : Type} {res : R} {st : Nat} {e : Env} {dst : Option Nat} {f : FuncId} {xs : List X} {cs : List AV} {k : Upd → Option R}
    (hk : (movesOf st e xs [] [] fun vs us => argsOf (Env.app e us) xs vs false [] fun b as => callK (C f (as ++ cs)) b st us dst k) = some res) :
    ∃ us, k us = some res ∧ ∃ n, ∀ m, n ≤ m → ∀ {R' : Type} (k' : Upd → Option R'), (movesOf st e xs [] [] fun vs us => argsOf (Env.app e us) xs vs false [] fun b as => callK (c m f (as ++ cs)) b st us dst k') = k' us := by
  obtain ⟨vs, us, h1, h2⟩ := movesOf_nat hk
  obtain ⟨b, as, h3, h4⟩ := argsOf_nat h1
  obtain ⟨av, h5, h6⟩ := callK_loc h3
  cases hr : C f (as ++ cs) with
  | none => rw [hr] at h3; cases h3
  | some r =>
    obtain ⟨n, hn⟩ := hL f _ r hr
    refine ⟨_, h5, n, fun m hm R' k' => ?_⟩
    rw [h2, h4, hn m hm, ← hr]
    exact h6 k'
theorem opK_cont (hL : Lim c C) {R : Type} {res : R} {st : Nat} {e : Env} {dst : Option Nat} {o : AOp} {k : Upd → Option R} (hk : opK C glob st dst o e k = some res) :
    ∃ us, k us = some res ∧ ∃ n, ∀ m, n ≤ m → ∀ {R' : Type} (k' : Upd → Option R'), opK (c m) glob st dst o e k' = k' us := by
  have free : ∀ (hf : opFree o = true), (∀ m {R' : Type} (k' : Upd → Option R'), opK (c m) glob st dst o e k' = opK C glob st dst o e k') →
      ∃ us, k us = some res ∧ ∃ n, ∀ m, n ≤ m → ∀ {R' : Type} (k' : Upd → Option R'), opK (c m) glob st dst o e k' = k' us := by
    intro hf hsame
    obtain ⟨us, h1, _, h3⟩ := opK_loc hf hk
    exact ⟨us, h1, 0, fun m _ R' k' => (hsame m k').trans (h3 k' e ⟨rfl, fun _ _ => rfl⟩)⟩
  cases o with
  | call f as =>
    have := call_cont (c := c) (C := C) (cs := []) hL (st := st) (e := e) (dst := dst) (f := f) (xs := as) (k := k) (res := res) (by simpa only [List.append_nil, opK] using hk)
    simpa only [List.append_nil, opK] using this
  | callv x as =>
    have main : ∀ s, callvS C e st s dst as k = some res → ∃ us, k us = some res ∧ ∃ n, ∀ m, n ≤ m → ∀ {R' : Type} (k' : Upd → Option R'), callvS (c m) e st s dst as k' = k' us := by
      intro s hk
      unfold callvS at hk
      cases hav : Env.get e s with
      | clo f cs =>
        rw [hav] at hk
        obtain ⟨us, h1, n, h2⟩ := call_cont (c := c) (C := C) hL hk
        exact ⟨us, h1, n, fun m hm R' k' => by simp only [callvS, hav]; exact h2 m hm k'⟩
      | _ => rw [hav] at hk; cases hk
    cases x with
    | t s => exact main s hk
    | a s r => exact main s hk
    | _ => cases hk
  | calli f s r as =>
    simp only [opK] at hk ⊢
    obtain ⟨V, mid, back, g1, g3⟩ := lendS_loc hk
    obtain ⟨b, xs, h1, h2⟩ := argsOf_nat g1
    obtain ⟨us, h3, _, h4⟩ := calliK_loc h1
    cases hr : C f (.val V :: xs) with
    | none => rw [hr] at h1; simp [calliK] at h1
    | some y =>
      obtain ⟨n, hn⟩ := hL f _ y hr
      refine ⟨us, h3, n, fun m hm R' k' => ?_⟩
      rw [g3 _ e ⟨rfl, fun _ _ => rfl⟩, h2, hn m hm, ← hr]
      exact h4 k'
  | mkf f xs =>
    simp only [opK] at hk ⊢
    obtain ⟨ds, us, h1, h2⟩ := caps_nat hk
    exact ⟨_, h1, 0, fun m _ R' k' => h2 _⟩
  | _ => exact free rfl fun m R' k' => rfl

theorem gstep_cont (hL : Lim c C) {R : Type} {res : R} {st : Nat} {e : Env} {o : AOper} {k : Env → Option R} (hk : gstep C glob st o e k = some res) :
    ∃ e', k e' = some res ∧ ∃ n, ∀ m, n ≤ m → ∀ {R' : Type} (k' : Env → Option R'), gstep (c m) glob st o e k' = k' e' := by
  have run : ∀ hk : (opK C glob st o.dst o.op e fun us => k (e.app us)) = some res, ∃ e', k e' = some res ∧ ∃ n, ∀ m, n ≤ m → ∀ {R' : Type} (k' : Env → Option R'), (opK (c m) glob st o.dst o.op e fun us => k' (e.app us)) = k' e' := by
    intro hk
    obtain ⟨us, h1, n, h2⟩ := opK_cont hL hk
    exact ⟨_, h1, n, fun m hm R' k' => h2 m hm _⟩
  unfold gstep at hk ⊢
  cases hg : o.guard with
  | none => rw [hg] at hk; exact run hk
  | some p =>
    obtain ⟨t, b⟩ := p
    rw [hg] at hk
    simp only at hk ⊢
    cases hav : Env.get e t with
    | val v =>
      rw [hav] at hk
      cases v with
      | agg ds => cases hk
      | mapv kv => cases hk
      | one d => cases d with
        | bool v =>
          simp only at hk ⊢
          by_cases hv : v = b
          · rw [if_pos hv] at hk
            simp only [if_pos hv]
            exact run hk
          · rw [if_neg hv] at hk
            simp only [if_neg hv]
            exact ⟨_, hk, 0, fun m _ R' k' => rfl⟩
        | _ => cases hk
    | undef => rw [hav] at hk; exact ⟨_, hk, 0, fun m _ R' k' => rfl⟩
    | _ => rw [hav] at hk; cases hk
theorem evalOps_cont (hL : Lim c C) {R : Type} {res : R} {k : Nat → Env → Option R} : ∀ {os : List AOper} {st : Nat} {e : Env}, evalOps C glob st os e k = some res →
    ∃ st' e', k st' e' = some res ∧ ∃ n, ∀ m, n ≤ m → ∀ {R' : Type} (k' : Nat → Env → Option R'), evalOps (c m) glob st os e k' = k' st' e'
  | [], st, e, h => ⟨st, e, h, 0, fun m _ R' k' => rfl⟩
  | o :: os, st, e, h => by
    rw [evalOps_cons] at h
    obtain ⟨e1, h1, n1, h2⟩ := gstep_cont (c := c) hL h
    obtain ⟨st', e', g1, n2, g2⟩ := evalOps_cont hL h1
    refine ⟨st', e', g1, max n1 n2, fun m hm R' k' => ?_⟩
    rw [evalOps_cons, h2 m (Nat.le_trans (Nat.le_max_left ..) hm)]
    exact g2 m (Nat.le_trans (Nat.le_max_right ..) hm) k'

/-- What comes behind, met from below. -/
def KLim {R : Type} (k : Nat → AE → Nat → Env → Option R) (K : AE → Nat → Env → Option R) : Prop := ∀ x st e r, K x st e = some r → ∃ n, ∀ m, n ≤ m → k m x st e = some r
/-- One bound for all of some. -/
theorem bound_all {α : Type} {S : α → Nat → Prop} : ∀ (l : List α), (∀ p ∈ l, ∃ n, ∀ m, n ≤ m → S p m) → ∃ n, ∀ p ∈ l, ∀ m, n ≤ m → S p m
  | [], _ => ⟨0, fun p hp => (by cases hp)⟩
  | a :: l, h => by
    obtain ⟨n1, h1⟩ := h a (List.mem_cons_self ..)
    obtain ⟨n2, h2⟩ := bound_all l fun p hp => h p (List.mem_cons_of_mem _ hp)
    refine ⟨max n1 n2, fun p hp m hm => ?_⟩
    rcases List.mem_cons.1 hp with rfl | hp
    · exact h1 m (Nat.le_trans (Nat.le_max_left ..) hm)
    · exact h2 p hp m (Nat.le_trans (Nat.le_max_right ..) hm)
theorem eachN_cont {f : Env → Option (AE × Nat × Env)} {g : Nat → Env → Option (AE × Nat × Env)} (hfg : ∀ e r, f e = some r → ∃ n, ∀ m, n ≤ m → g m e = some r) {dk dv : Nat} {keep out : List Nat} {r : Env} :
    ∀ (d : Nat) (kv : List (Int × Int)) (e : Env), kv.length = d → (∀ l, l.Perm kv → eachN f dk dv keep out l e = some r) → ∃ n, ∀ m, n ≤ m → ∀ l, l.Perm kv → eachN (g m) dk dv keep out l e = some r
  | 0, kv, e, hd, h => by
    obtain rfl : kv = [] := List.eq_nil_of_length_eq_zero hd
    refine ⟨0, fun m _ l hl => ?_⟩
    have h0 := h l hl
    obtain rfl := hl.eq_nil
    exact h0
  | d + 1, kv, e, hd, h => by
    have hp : ∀ p ∈ kv, ∃ n, ∀ m, n ≤ m → ∀ l, l.Perm (kv.erase p) → eachN (g m) dk dv keep out (p :: l) e = some r := by
      intro p hp
      have hper := List.perm_cons_erase hp
      have h1 : ∀ l, l.Perm (kv.erase p) → eachN f dk dv keep out (p :: l) e = some r := fun l hl => h _ ((hl.cons p).trans hper.symm)
      have h2 := h1 _ (List.Perm.refl _)
      simp only [eachN] at h1 h2 ⊢
      cases hb : f (Env.upd (Env.upd (trim keep e) dk (.val (.one (.int .i64 p.1)))) dv (.val (.one (.int .i64 p.2)))) with
      | none => rw [hb] at h2; cases h2
      | some q =>
        obtain ⟨x, st, e'⟩ := q
        rw [hb] at h1 h2
        cases x with
        | exit i => cases h2
        | ret => cases h2
        | normal =>
          simp only at h1
          obtain ⟨n1, g1⟩ := hfg _ _ hb
          obtain ⟨n2, g2⟩ := eachN_cont hfg d (kv.erase p) e' (by rw [List.length_erase_of_mem hp]; omega) h1
          refine ⟨max n1 n2, fun m hm l hl => ?_⟩
          rw [g1 m (Nat.le_trans (Nat.le_max_left ..) hm)]
          exact g2 m (Nat.le_trans (Nat.le_max_right ..) hm) l hl
    obtain ⟨n, hn⟩ := bound_all kv hp
    refine ⟨n, fun m hm l hl => ?_⟩
    cases l with
    | nil => have := hl.length_eq; simp at this; omega
    | cons p l =>
      have hpk : p ∈ kv := hl.subset (List.mem_cons_self ..)
      refine hn p hpk m hm l ?_
      have := hl.erase p
      simpa using this
theorem eachF_all {f : Env → Option (AE × Nat × Env)} {dk dv : Nat} {keep out : List Nat} {kv : List (Int × Int)} {e r : Env} (h : eachF f dk dv keep out kv e = some r) : ∀ l, l.Perm kv → eachN f dk dv keep out l (trim keep e) = some r := by
  unfold eachF at h
  split at h
  · rename_i hex
    obtain rfl := Option.some.inj h
    exact hex.choose_spec
  · cases h
theorem eachF_of {f : Env → Option (AE × Nat × Env)} {dk dv : Nat} {keep out : List Nat} {kv : List (Int × Int)} {e r : Env} (h : ∀ l, l.Perm kv → eachN f dk dv keep out l (trim keep e) = some r) : eachF f dk dv keep out kv e = some r := by
  have hex : ∃ r, ∀ l, l.Perm kv → eachN f dk dv keep out l (trim keep e) = some r := ⟨r, h⟩
  unfold eachF
  rw [dif_pos hex]
  have h1 := hex.choose_spec kv (List.Perm.refl _)
  rw [h kv (List.Perm.refl _)] at h1
  exact h1.symm
theorem exec_cont (hL : Lim c C) (ac : AC) : ∀ {R : Type} {res : R} {st : Nat} {e : Env} {K : AE → Nat → Env → Option R} {k : Nat → AE → Nat → Env → Option R}, KLim k K → exec C glob st ac e K = some res →
    ∃ n, ∀ m, n ≤ m → exec (c m) glob st ac e (k m) = some res := by
  induction ac with
  | skip => intro R res st e K k hk h; exact hk _ _ _ _ h
  | ret => intro R res st e K k hk h; exact hk _ _ _ _ h
  | exit i => intro R res st e K k hk h; exact hk _ _ _ _ h
  | reg aos =>
    intro R res st e K k hk h
    obtain ⟨st', e', h1, n1, h2⟩ := evalOps_cont (c := c) hL (by simpa only [exec] using h)
    obtain ⟨n2, h3⟩ := hk _ _ _ _ h1
    exact ⟨max n1 n2, fun m hm => by simp only [exec]; rw [h2 m (Nat.le_trans (Nat.le_max_left ..) hm)]; exact h3 m (Nat.le_trans (Nat.le_max_right ..) hm)⟩
  | seq a b iha ihb =>
    intro R res st e K k hk h
    simp only [exec] at h ⊢
    refine iha (fun x st1 e1 r h1 => ?_) h
    cases x with
    | normal => exact ihb hk h1
    | exit i => exact hk _ _ _ _ h1
    | ret => exact hk _ _ _ _ h1
  | cond x a b iha ihb =>
    intro R res st e K k hk h
    simp only [exec] at h ⊢
    obtain ⟨t, h1, h2⟩ := peekBool_loc h
    have h2' : ∀ {R' : Type} (k' : Bool → Option R'), peekBool e x k' = k' t := fun k' => h2 k' e ⟨rfl, fun _ _ => rfl⟩
    cases t with
    | true =>
      simp only [if_true] at h1
      obtain ⟨n, g⟩ := iha hk h1
      exact ⟨n, fun m hm => by rw [h2']; simp only [if_true]; exact g m hm⟩
    | false =>
      simp at h1
      obtain ⟨n, g⟩ := ihb hk h1
      exact ⟨n, fun m hm => by rw [h2']; simp; exact g m hm⟩
  | condf x b ihb =>
    intro R res st e K k hk h
    simp only [exec] at h ⊢
    obtain ⟨t, h1, h2⟩ := peekBool_loc h
    have h2' : ∀ {R' : Type} (k' : Bool → Option R'), peekBool e x k' = k' t := fun k' => h2 k' e ⟨rfl, fun _ _ => rfl⟩
    cases t with
    | true => simp at h1
    | false =>
      simp at h1
      obtain ⟨n, g⟩ := ihb hk h1
      exact ⟨n, fun m hm => by rw [h2']; simp; exact g m hm⟩
  | condn s a b iha ihb =>
    intro R res st e K k hk h
    simp only [exec] at h ⊢
    cases hav : Env.get e s with
    | someb =>
      rw [hav] at h
      simp only at h ⊢
      unfold bothK at h ⊢
      split at h
      · rename_i hab
        obtain ⟨n1, g1⟩ := iha hk h
        obtain ⟨n2, g2⟩ := ihb hk (hab ▸ h)
        refine ⟨max n1 n2, fun m hm => ?_⟩
        rw [g1 m (Nat.le_trans (Nat.le_max_left ..) hm), g2 m (Nat.le_trans (Nat.le_max_right ..) hm), if_pos rfl]
      · cases h
    | val v =>
      rw [hav] at h
      cases v with
      | agg ds => cases h
      | mapv kv => cases h
      | one d => cases d with
        | bool t =>
          simp only at h ⊢
          cases t with
          | true => simp only [if_true] at h ⊢; exact iha hk h
          | false => simp at h ⊢; exact ihb hk h
        | _ => cases h
    | _ => rw [hav] at h; cases h
  | block i a ih =>
    intro R res st e K k hk h
    simp only [exec] at h ⊢
    refine ih (fun x st1 e1 r h1 => ?_) h
    cases x with
    | normal => exact hk _ _ _ _ h1
    | exit j =>
      simp only at h1 ⊢
      split at h1
      · rename_i hj; simp only [if_pos hj]; exact hk _ _ _ _ h1
      · rename_i hj; simp only [if_neg hj]; exact hk _ _ _ _ h1
    | ret => exact hk _ _ _ _ h1
  | each m0 it dk dv b keep out a ih =>
    intro R res st e K k hk h
    simp only [exec] at h ⊢
    cases hmap : mapAt e m0 b with
    | none => rw [hmap] at h; cases h
    | some kv =>
      rw [hmap] at h
      simp only [onSome] at h ⊢
      cases hea : eachF (fun e => exec C glob 1 a e fun x st' e' => some (x, st', e')) dk dv keep out kv e with
      | none => rw [hea] at h; cases h
      | some r =>
        rw [hea] at h
        simp only at h
        obtain ⟨n1, h1⟩ := eachN_cont (g := fun m e => exec (c m) glob 1 a e fun x st' e' => some (x, st', e')) (fun e r hr => ih (k := fun _ x st' e' => some (x, st', e')) (fun x st e r h => ⟨0, fun _ _ => h⟩) hr) kv.length kv _ rfl (eachF_all hea)
        obtain ⟨n2, h2⟩ := hk _ _ _ _ h
        refine ⟨max n1 n2, fun m hm => ?_⟩
        rw [eachF_of (h1 m (Nat.le_trans (Nat.le_max_left ..) hm))]
        exact h2 m (Nat.le_trans (Nat.le_max_right ..) hm)
  | loop keep out a ih =>
    intro R res st e K k hk h
    simp only [exec] at h
    unfold loopK at h
    split at h
    · rename_i r hr
      obtain ⟨N, hN⟩ := loopF_some hr
      have key : ∀ (N : Nat) (e : Env), loopN (fun e => exec C glob 1 a e fun x st' e' => some (x, st', e')) keep N e = some r → ∃ n, ∀ m, n ≤ m → loopN (fun e => exec (c m) glob 1 a e fun x st' e' => some (x, st', e')) keep N e = some r := by
        intro N
        induction N with
        | zero => intro e h; cases h
        | succ N ihN =>
          intro e h
          simp only [loopN] at h
          cases hb : exec C glob 1 a (trim keep e) fun x st' e' => some (x, st', e') with
          | none => rw [hb] at h; cases h
          | some p =>
            obtain ⟨n1, h2⟩ := ih (k := fun _ x st' e' => some (x, st', e')) (fun x st e r h => ⟨0, fun _ _ => h⟩) hb
            rw [hb] at h
            obtain ⟨x, st', e'⟩ := p
            cases x with
            | normal =>
              obtain ⟨n2, h3⟩ := ihN e' h
              refine ⟨max n1 n2, fun m hm => ?_⟩
              simp only [loopN]
              rw [h2 m (Nat.le_trans (Nat.le_max_left ..) hm)]
              exact h3 m (Nat.le_trans (Nat.le_max_right ..) hm)
            | exit i => exact ⟨n1, fun m hm => by simp only [loopN]; rw [h2 m hm]; exact h⟩
            | ret => exact ⟨n1, fun m hm => by simp only [loopN]; rw [h2 m hm]; exact h⟩
      obtain ⟨n1, hn⟩ := key N e hN
      obtain ⟨n2, h3⟩ := hk _ _ _ _ h
      exact ⟨max n1 n2, fun m hm => by simp only [exec]; rw [loopF_of (hn m (Nat.le_trans (Nat.le_max_left ..) hm))]; exact h3 m (Nat.le_trans (Nat.le_max_right ..) hm)⟩
    · cases h

theorem runF_cont (hL : Lim c C) {x : AFn} {args : List AV} {r : AV} (h : runF C glob x args = some r) : ∃ n, ∀ m, n ≤ m → runF (c m) glob x args = some r := by
  unfold runF at h ⊢
  split at h
  · rename_i hl
    obtain ⟨n, h2⟩ := exec_cont (c := c) hL x.body (k := fun _ x _ e => match x with | .normal => finish _ e | .ret => finish _ e | _ => none) (fun x st e r h => ⟨0, fun _ _ => h⟩) h
    refine ⟨n, fun m hm => ?_⟩
    rw [if_pos hl]
    exact h2 m hm
  · cases h
end

section
variable {glob : Nat → List D} {prog : FuncId → Option AFn} {hand : FuncId → Option (List AV → Option AV)}
theorem callN_succ : ∀ (n : Nat) (f : FuncId) (args : List AV) (r : AV), callN prog hand glob n f args = some r → callN prog hand glob (n + 1) f args = some r
  | 0, f, args, r, h => by cases h
  | n + 1, f, args, r, h => by
    rw [callN] at h ⊢
    cases hf : hand f with
    | some g => rw [hf] at h; exact h
    | none =>
      rw [hf] at h
      cases hx : prog f with
      | none => rw [hx] at h; cases h
      | some x =>
        rw [hx] at h
        obtain ⟨k, hk⟩ := runF_cont (c := fun _ => callN prog hand glob (n + 1)) (C := callN prog hand glob n) (fun f a r h => ⟨0, fun _ _ => callN_succ n f a r h⟩) h
        exact hk k (Nat.le_refl _)
theorem callN_mono {n m : Nat} (hnm : n ≤ m) {f : FuncId} {args : List AV} {r : AV} (h : callN prog hand glob n f args = some r) : callN prog hand glob m f args = some r := by
  obtain ⟨d, rfl⟩ := Nat.exists_eq_add_of_le hnm
  induction d with
  | zero => exact h
  | succ d ih => exact callN_succ (n + d) f args r (ih (by omega))
theorem callF_of {n : Nat} {f : FuncId} {args : List AV} {r : AV} (h : callN prog hand glob n f args = some r) : callF prog hand glob f args = some r := by
  have hex : ∃ n r, callN prog hand glob n f args = some r := ⟨n, r, h⟩
  unfold callF
  rw [dif_pos hex]
  obtain ⟨r', hr'⟩ := hex.choose_spec
  have h1 := callN_mono (Nat.le_max_left hex.choose n) hr'
  have h2 := callN_mono (Nat.le_max_right hex.choose n) h
  rw [h1] at h2
  rw [hr', h2]
theorem callF_lim : Lim (callN prog hand glob) (callF prog hand glob) := by
  intro f a r h
  unfold callF at h
  split at h
  · exact ⟨_, fun m hm => callN_mono hm h⟩
  · cases h
/-- A call of a function whose code is told. -/
theorem callF_eq {f : FuncId} {x : AFn} {args : List AV} {r : AV} (hh : hand f = none) (hx : prog f = some x) (h : runF (callF prog hand glob) glob x args = some r) : callF prog hand glob f args = some r := by
  obtain ⟨n, hn⟩ := runF_cont (c := callN prog hand glob) callF_lim h
  exact callF_of (n := n + 1) (by rw [callN, hh, hx]; exact hn n (Nat.le_refl _))
theorem callF_hand {f : FuncId} {g : List AV → Option AV} {args : List AV} {r : AV} (hh : hand f = some g) (h : g args = some r) : callF prog hand glob f args = some r :=
  callF_of (n := 1) (by rw [callN, hh]; exact h)
end
end Go.Abs
set_option linter.unusedSimpArgs false
namespace Go.Abs
open Go
/-- The machine behind a curtain: the kernel does not run it while it looks at a proof. -/
structure Mach where
  ops : ∀ {R : Type}, Orc → (Nat → List D) → Nat → List AOper → Env → (Nat → Env → Option R) → Option R
  op : ∀ {R : Type}, Orc → (Nat → List D) → Nat → Option Nat → AOp → Env → (Upd → Option R) → Option R
  ex : ∀ {R : Type}, Orc → (Nat → List D) → Nat → AC → Env → (AE → Nat → Env → Option R) → Option R
noncomputable def realMach : Mach := ⟨fun c g st l e k => evalOps c g st l e k, fun c g st d o e k => opK c g st d o e k, fun c g st a e k => exec c g st a e k⟩
theorem mach_is : ∃ m : Mach, m = realMach := ⟨_, rfl⟩
noncomputable def mach : Mach := Classical.choose mach_is
theorem mach_eq : mach = realMach := Classical.choose_spec mach_is
noncomputable def xOps {R : Type} (c : Orc) (g : Nat → List D) (st : Nat) (l : List AOper) (e : Env) (k : Nat → Env → Option R) : Option R := mach.ops c g st l e k
noncomputable def xOp {R : Type} (c : Orc) (g : Nat → List D) (st : Nat) (d : Option Nat) (o : AOp) (e : Env) (k : Upd → Option R) : Option R := mach.op c g st d o e k
noncomputable def xEx {R : Type} (c : Orc) (g : Nat → List D) (st : Nat) (a : AC) (e : Env) (k : AE → Nat → Env → Option R) : Option R := mach.ex c g st a e k
theorem xOps_eq {R : Type} (c : Orc) (g : Nat → List D) (st : Nat) (l : List AOper) (e : Env) (k : Nat → Env → Option R) : xOps c g st l e k = evalOps c g st l e k := by
  unfold xOps; rw [mach_eq]; rfl
theorem xOp_eq {R : Type} (c : Orc) (g : Nat → List D) (st : Nat) (d : Option Nat) (o : AOp) (e : Env) (k : Upd → Option R) : xOp c g st d o e k = opK c g st d o e k := by
  unfold xOp; rw [mach_eq]; rfl
theorem xEx_eq {R : Type} (c : Orc) (g : Nat → List D) (st : Nat) (a : AC) (e : Env) (k : AE → Nat → Env → Option R) : xEx c g st a e k = exec c g st a e k := by
  unfold xEx; rw [mach_eq]; rfl
section
variable {R α : Type} {c : Orc} {g : Nat → List D} {v : AV} {e : Env} {st : Nat}
theorem onSome_some (a : α) (k : α → Option R) : onSome (some a) k = k a := rfl
theorem onSome_none (k : α → Option R) : onSome none k = none := rfl
theorem rowK_some (row : List D) (d : Option Nat) (k : Upd → Option R) : rowK (some row) d k = k (outU [] d (.rp row)) := rfl
theorem rowK_none (d : Option Nat) (k : Upd → Option R) : rowK none d k = none := rfl
theorem byteK_some (b : UInt8) (d : Option Nat) (k : Upd → Option R) : byteK (some b) d k = k (outU [] d (.val (.one (.int .u8 b.toNat)))) := rfl
theorem isIO_val (v : V) : isIO (.val v) = false := by simp only [isIO]
theorem isIO_tup (v : V) (l : List (Option V)) : isIO (.tup (some v :: l)) = false := by simp only [isIO]
theorem callK_lent (r : AV) (us : Upd) (d : Option Nat) (k : Upd → Option R) (h : isIO r = false) : callK (some r) true st us d k = if r.safe = true then k (outU us d (r.stamp st)) else none := by simp only [callK, h]
theorem callK_some (r : AV) (us : Upd) (d : Option Nat) (k : Upd → Option R) (h : isIO r = false) : callK (some r) false st us d k = k (outU us d (r.stamp st)) := by simp only [callK, h]
theorem rowWriteK_some (row : List D) (o : Nat) (ds : List D) (k : List D → Option R) :
    rowWriteK (some row) o ds k = if o + ds.length ≤ row.length then k (row.take o ++ ds ++ row.drop (o + ds.length)) else none := rfl
theorem rowReadK_some (row : List D) (a : Bool) (n o : Nat) (own : AV) (k : AV → Option R) : rowReadK (some row) a n o own k = readV a n (row.drop o) own .dead k := rfl
theorem rowLendK_some (st e i o : Nat) (rows : List (List D)) (row : List D) (k : V → AV → (V → Option AV) → Option R) : rowLendK st e i o rows (some row) k = match row[o]? with
    | some (.list true w inner) => k (.one (.list true w inner)) (.own st e (rows.set i (row.set o .gone))) (rowBack st e w i o rows row)
    | _ => none := rfl
theorem rowTakeK_some (row : List D) (o t : Nat) (k : V → Upd → Option R) : rowTakeK (some row) o t k = match row[o]? with
    | some (.list true w inner) => k (.one (.list true w inner)) [(t, .dead)]
    | _ => none := rfl
theorem loopK_some (x : AE) (n : Nat) (e : Env) (k : AE → Nat → Env → Option R) : loopK (some (x, n, e)) k = k x n e := rfl
theorem ops_nil (k : Nat → Env → Option R) : xOps c g st [] e k = k st e := by
  simp only [xOps_eq, xOp_eq, xEx_eq]; rfl
theorem ops_cons (d : Option Nat) (o : AOp) (os : List AOper) (k : Nat → Env → Option R) :
    xOps c g st (⟨d, none, o⟩ :: os) (v :: e) k = xOp c g st d o (v :: e) fun us => xOps c g (st + 1) os (Env.app (v :: e) us) k := by
  simp only [xOps_eq, xOp_eq, xEx_eq]; rfl
theorem ops_guard (d : Option Nat) (t : Nat) (b : Bool) (o : AOp) (os : List AOper) (k : Nat → Env → Option R) :
    xOps c g st (⟨d, some (t, b), o⟩ :: os) (v :: e) k = match Env.get (v :: e) t with
      | .val (.one (.bool u)) => match b with
        | true => if u = true then xOp c g st d o (Env.upd (v :: e) t (.val (.one (.bool true)))) fun us => xOps c g (st + 1) os (Env.app (Env.upd (v :: e) t (.val (.one (.bool true)))) us) k
          else xOps c g (st + 1) os (Env.app (Env.upd (v :: e) t (.val (.one (.bool false)))) (outU [] d .undef)) k
        | false => if u = true then xOps c g (st + 1) os (Env.app (Env.upd (v :: e) t (.val (.one (.bool true)))) (outU [] d .undef)) k
          else xOp c g st d o (Env.upd (v :: e) t (.val (.one (.bool false)))) fun us => xOps c g (st + 1) os (Env.app (Env.upd (v :: e) t (.val (.one (.bool false)))) us) k
      | .undef => xOps c g (st + 1) os (Env.app (v :: e) (outU [] d .undef)) k
      | _ => none := by
  simp only [xOps_eq, xOp_eq, xEx_eq]; rfl
theorem op_cons (d : Option Nat) (o : AOp) (k : Upd → Option R) : xOp c g st d o (v :: e) k = opK c g st d o (v :: e) k := by
  simp only [xOps_eq, xOp_eq, xEx_eq]
theorem exec_skip (k : AE → Nat → Env → Option R) : xEx c g st .skip e k = k .normal st e := by
  simp only [xOps_eq, xOp_eq, xEx_eq]; rfl
theorem exec_ret (k : AE → Nat → Env → Option R) : xEx c g st .ret e k = k .ret st e := by
  simp only [xOps_eq, xOp_eq, xEx_eq]; rfl
theorem exec_exit (i : Nat) (k : AE → Nat → Env → Option R) : xEx c g st (.exit i) e k = k (.exit i) st e := by
  simp only [xOps_eq, xOp_eq, xEx_eq]; rfl
theorem exec_reg (ops : List AOper) (k : AE → Nat → Env → Option R) : xEx c g st (.reg ops) (v :: e) k = xOps c g st ops (v :: e) (k .normal) := by
  simp only [xOps_eq, xOp_eq, xEx_eq]; rfl
theorem exec_seq (a b : AC) (k : AE → Nat → Env → Option R) : xEx c g st (.seq a b) (v :: e) k = xEx c g st a (v :: e) fun x st' e' => match x with
    | .normal => xEx c g st' b e' k
    | x => k x st' e' := by
  simp only [xOps_eq, xOp_eq, xEx_eq]; rfl
theorem exec_cond (x : X) (a b : AC) (k : AE → Nat → Env → Option R) : xEx c g st (.cond x a b) (v :: e) k = peekBool (v :: e) x fun t => if t = true then xEx c g st a (v :: e) k else xEx c g st b (v :: e) k := by
  simp only [xOps_eq, xOp_eq, xEx_eq]; rfl
theorem exec_condf (x : X) (b : AC) (k : AE → Nat → Env → Option R) : xEx c g st (.condf x b) (v :: e) k = peekBool (v :: e) x fun t => if t = true then none else xEx c g st b (v :: e) k := by
  simp only [xOps_eq, xOp_eq, xEx_eq]; rfl
theorem exec_condn (s : Nat) (a b : AC) (k : AE → Nat → Env → Option R) : xEx c g st (.condn s a b) (v :: e) k = match Env.get (v :: e) s with
    | .someb => bothK (xEx c g st a (v :: e) k) (xEx c g st b (v :: e) k)
    | .val (.one (.bool t)) => if t = true then xEx c g st a (v :: e) k else xEx c g st b (v :: e) k
    | _ => none := by
  simp only [xOps_eq, xOp_eq, xEx_eq]; rfl
theorem bothK_same (a : Option R) : bothK a a = a := by unfold bothK; rw [if_pos rfl]
theorem exec_block (i : Nat) (a : AC) (k : AE → Nat → Env → Option R) : xEx c g st (.block i a) (v :: e) k = xEx c g st a (v :: e) fun x st' e' => match x with
    | .exit j => if j = i then k .normal st' e' else k (.exit j) st' e'
    | x => k x st' e' := by
  simp only [xOps_eq, xOp_eq, xEx_eq]; rfl
/-- Behind a loop. -/
def loopE {R : Type} (o : Option (AE × Nat × Env)) (out : List Nat) (k : AE → Nat → Env → Option R) : Option R := loopK o fun x st' e' => k x (st' + 1) (trim out e')
@[congr] theorem loopE_congr {R : Type} {o o' : Option (AE × Nat × Env)} (out : List Nat) (k : AE → Nat → Env → Option R) (h : o = o') : loopE o out k = loopE o' out k := by rw [h]
/-- A loop's round. -/
noncomputable def bodyF (c : Orc) (g : Nat → List D) (a : AC) (e : Env) : Option (AE × Nat × Env) := xEx c g 1 a e fun x st' e' => some (x, st', e')
theorem exec_loop (keep out : List Nat) (a : AC) (k : AE → Nat → Env → Option R) : xEx c g st (.loop keep out a) (v :: e) k = loopE (loopF (bodyF c g a) keep (v :: e)) out k := by
  unfold bodyF loopE; simp only [xOps_eq, xOp_eq, xEx_eq]; rfl
/-- Behind the rounds over a map. -/
noncomputable def eachE {R : Type} (o : Option (List (Int × Int))) (body : Env → Option (AE × Nat × Env)) (dk dv : Nat) (keep out : List Nat) (e : Env) (k : AE → Nat → Env → Option R) : Option R :=
  onSome o fun kv => onSome (eachF body dk dv keep out kv e) fun e' => k .normal 1 e'
@[congr] theorem eachE_congr {R : Type} {o o' : Option (List (Int × Int))} (body : Env → Option (AE × Nat × Env)) (dk dv : Nat) (keep out : List Nat) (e : Env) (k : AE → Nat → Env → Option R) (h : o = o') : eachE o body dk dv keep out e k = eachE o' body dk dv keep out e k := by rw [h]
theorem exec_each (m it dk dv b : Nat) (keep out : List Nat) (a : AC) (k : AE → Nat → Env → Option R) : xEx c g st (.each m it dk dv b keep out a) (v :: e) k = eachE (mapAt (v :: e) m b) (bodyF c g a) dk dv keep out (v :: e) k := by
  unfold bodyF eachE; simp only [xOps_eq, xOp_eq, xEx_eq]; rfl
noncomputable def xRun (c : Orc) (glob : Nat → List D) (fn : AFn) (args : List AV) : Option AV :=
  if args.length = fn.params then
    xEx c glob 1 fn.body (args.map (AV.stamp 0) ++ List.replicate (fn.ntmps - fn.params) .undef) fun x _ e => match x with
      | .normal => finish fn.results e
      | .ret => finish fn.results e
      | _ => none
  else none
theorem runF_eq : runF = xRun := by
  funext c glob fn args
  unfold runF xRun
  rw [xEx_eq]
  rfl
end
/-! Where a run waits for a fact, what comes behind is not looked into. (`nrfl`: a step that is not by computation alone; else the congruences do not fire.) -/
theorem nrfl {α : Sort _} {a b : α} (h : a = b) : a = b := h
theorem ownAt_n (L : Env) (t id : Nat) : ownAt L t none id = (match Env.get L t with | .own id' e rows => if id' = id then some (e, rows) else none | _ => none) := nrfl rfl
theorem ownAt_s (L : Env) (t j id : Nat) : ownAt L t (some j) id = (match Env.get L t with | .box _ ver ds => if ver = id then (match ds[j]? with | some (.list true e rows) => some (e, rows) | _ => none) else none | _ => none) := nrfl rfl
theorem ownBack_l (st e e' : Nat) (rows : List (List D)) : ownBack st e (.one (.list true e' rows)) = if e' = e then some (.own st e rows) else none := nrfl rfl
theorem cellBack_l (b ver j e e' : Nat) (ds : List D) (rows : List (List D)) : cellBack b ver j e ds (.one (.list true e' rows)) = if e' = e then some (.box b ver (ds.set j (.list true e rows))) else none := nrfl rfl
theorem rowBack_l (st e w w' i o : Nat) (rows inner : List (List D)) (row : List D) : rowBack st e w i o rows row (.one (.list true w' inner)) = if w' = w then some (.own st e (rows.set i (row.set o (.list true w inner)))) else none := nrfl rfl
theorem partBack_a (b ver off n : Nat) (ds ds' : List D) : partBack b ver off n ds (.agg ds') = if ds'.length = n ∧ sameW ((ds.drop off).take n) ds' = true then some (.box b ver (ds.take off ++ ds' ++ ds.drop (off + n))) else none := nrfl rfl
theorem boxBack_a (b ver : Nat) (ds ds' : List D) : boxBack b ver ds (.agg ds') = if sameW ds ds' = true then some (.box b ver ds') else none := nrfl rfl
theorem fillCells_n (z : List D) : fillCells z [] [] = some z := nrfl rfl
theorem fillCells_c (z : List D) (off n : Nat) (ps : List (Nat × Nat)) (v : V) (vs : List V) : fillCells z ((off, n) :: ps) (v :: vs) = if v.cells.length = n ∧ off + n ≤ z.length then fillCells (z.take off ++ v.cells ++ z.drop (off + n)) ps vs else none := nrfl rfl
@[congr] theorem onSome_congr {R α : Type} {o o' : Option α} (k : α → Option R) (h : o = o') : onSome o k = onSome o' k := by rw [h]
@[congr] theorem rowWriteK_congr {R : Type} {a a' : Option (List D)} (o : Nat) (ds : List D) (k : List D → Option R) (h : a = a') : rowWriteK a o ds k = rowWriteK a' o ds k := by rw [h]
@[congr] theorem rowReadK_congr {R : Type} {a a' : Option (List D)} (b : Bool) (n o : Nat) (own : AV) (k : AV → Option R) (h : a = a') : rowReadK a b n o own k = rowReadK a' b n o own k := by rw [h]
@[congr] theorem rowLendK_congr {R : Type} {a a' : Option (List D)} (st e i o : Nat) (rows : List (List D)) (k : V → AV → (V → Option AV) → Option R) (h : a = a') : rowLendK st e i o rows a k = rowLendK st e i o rows a' k := by rw [h]
@[congr] theorem rowTakeK_congr {R : Type} {a a' : Option (List D)} (o t : Nat) (k : V → Upd → Option R) (h : a = a') : rowTakeK a o t k = rowTakeK a' o t k := by rw [h]
attribute [simp] J backV kvGet kvSet kvDel kvVal resPart frkS eqsK eqInts peekO lenV subK ssubK sizeV errK mrfS mapS fillCells_n fillCells_c ownAt_n ownAt_s ownBack_l cellBack_l rowBack_l partBack_a boxBack_a cellV rowLendK_some isIO_val isIO_tup sameW lendS V.stale rowTakeK_some mmI ovAV ovSafe calliK onSome_some onSome_none rowK_some rowK_none byteK_some callK_lent callK_some rowWriteK_some rowReadK_some loopK_some ops_nil ops_cons ops_guard op_cons exec_skip exec_ret exec_exit exec_reg exec_seq exec_cond exec_condf exec_condn bothK_same exec_block exec_loop exec_each
  opK nilV take takeS takes outU Env.app Env.get Env.upd AV.ofV AV.stamp peek peekS intS boolS peekBool peekInt binV beqV slenV binInt unV finish ioOf finPlain finIO resOf resAll readAt readS readV lenOf lenS argsOf movesOf argS plainL V.cells D.stale staleL staleLL writeAt writeS rowsOf V.ofCells repl AV.safe safeT V.safe D.safe safeL safeLL iaddrS offS offX mvS rfS extractS extractP flatD capS caps strAt fieldV callvS appendV
end Go.Abs
set_option linter.unusedVariables false
namespace Go.Abs
open Go
def okCodes (P : Program) (l : List (Nat × AFn)) : Bool := l.all fun p => match P.funcs[p.1]? with
  | some fn => okFn P fn p.2
  | none => false
theorem progOK_of {P : Program} {prog : FuncId → Option AFn} {l : List (Nat × AFn)} (h : okCodes P l = true) (hp : ∀ f x, prog f = some x → (f, x) ∈ l) : ProgOK P prog := by
  intro f x hx
  have := List.all_eq_true.1 h _ (hp f x hx)
  simp only at this
  split at this
  · exact ⟨_, ‹_›, this⟩
  · cases this
/-- A call of a function, told by its code. -/
theorem call_of {glob : Nat → List D} {prog : FuncId → Option AFn} {hand : FuncId → Option (List AV → Option AV)} {f : FuncId} {x : AFn} {args : List AV} {r : AV} (hh : hand f = none) (hx : prog f = some x)
    (h : xRun (callF prog hand glob) glob x args = some r) : callF prog hand glob f args = some r := callF_eq hh hx (by rw [runF_eq]; exact h)
end Go.Abs
set_option linter.unusedVariables false
namespace Go.Abs
open Go
/-- The loop comes to its end in a frame that Q holds of. -/
def LoopTo (body : Env → Option (AE × Nat × Env)) (keep out : List Nat) (e : Env) (Q : AE → Env → Prop) : Prop := ∃ x st e', loopF body keep e = some (x, st, e') ∧ Q x (trim out e')
/-- Behind a round. -/
def Round (o : Option (AE × Nat × Env)) (N : Env → Prop) (E : AE → Env → Prop) : Prop :=
  match o with
  | some (.normal, _, e) => N e
  | some (x, _, e) => E x e
  | none => False
@[simp] theorem Round_normal (st : Nat) (e : Env) (N : Env → Prop) (E : AE → Env → Prop) : Round (some (.normal, st, e)) N E = N e := rfl
@[simp] theorem Round_exit (i st : Nat) (e : Env) (N : Env → Prop) (E : AE → Env → Prop) : Round (some (.exit i, st, e)) N E = E (.exit i) e := rfl
@[simp] theorem Round_ret (st : Nat) (e : Env) (N : Env → Prop) (E : AE → Env → Prop) : Round (some (.ret, st, e)) N E = E .ret e := rfl
theorem LoopTo.step {body : Env → Option (AE × Nat × Env)} {keep out : List Nat} {e : Env} {Q : AE → Env → Prop} (h : Round (body (trim keep e)) (fun e' => LoopTo body keep out e' Q) fun x e' => Q x (trim out e')) : LoopTo body keep out e Q := by
  cases hb : body (trim keep e) with
  | none => rw [hb] at h; exact h.elim
  | some p =>
    obtain ⟨x, st, e'⟩ := p
    rw [hb] at h
    cases x with
    | normal =>
      obtain ⟨x, st', e2, h1, h2⟩ := h
      exact ⟨x, st', e2, loopF_next hb h1, h2⟩
    | exit i => exact ⟨_, _, _, loopF_done hb (by simp), h⟩
    | ret => exact ⟨_, _, _, loopF_done hb (by simp), h⟩
/-- The same, with what a round must hand on behind a variable. -/
theorem LoopTo.round {body : Env → Option (AE × Nat × Env)} {keep out : List Nat} {e e0 : Env} {Q : AE → Env → Prop} (he : trim keep e = e0) (h : ∀ N : Env → Prop, (∀ e', LoopTo body keep out e' Q → N e') → Round (body e0) N fun x e' => Q x (trim out e')) : LoopTo body keep out e Q :=
  .step (by rw [he]; exact h _ fun _ h => h)
end Go.Abs
