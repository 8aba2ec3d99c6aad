import Derived.Test.YtijnjfcblkbdbaaGreatDoorA1
import Derived.LoopN
import Derived.Lib.ItoaNum
import Derived.Lib.Join
import Derived.Lib.LaidTab
import Derived.Below
import Derived.Lib.Split
import Derived.Lib.AtoiAll
import Derived.Lib.AtoiErrMem
import Derived.Lib.SplitLaws
import Derived.Deep.Slices
import Derived.WideShapes
import Derived.ChangeArms
import Derived.DataReads
import Derived.DataElems
import Derived.OpenShut
import Derived.Handed
set_option linter.unusedVariables false
set_option linter.unusedSimpArgs false
namespace Go.Abs
open Go

theorem get_app_out {e : Env} {us : Upd} {t : Nat} (h : ∀ p ∈ us, p.1 ≠ t) : (e.app us).get t = e.get t := by
  induction us generalizing e with
  | nil => rfl
  | cons u us ih =>
    obtain ⟨s, v⟩ := u
    simp only [Env.app]
    rw [ih fun p hp => h p (List.mem_cons_of_mem _ hp), Env.get_upd, if_neg fun hh => h (s, v) (List.mem_cons_self ..) hh.1.symm]
theorem app_comm {e : Env} {a b : Upd} (h : ∀ p ∈ a, ∀ q ∈ b, p.1 ≠ q.1) : (e.app a).app b = (e.app b).app a := by
  refine Env.ext_get (by simp only [Env.app_length]) fun s => ?_
  by_cases hb : ∃ q ∈ b, q.1 = s
  · obtain ⟨q, hq, rfl⟩ := hb
    rw [get_app_out (us := a) fun p hp => h p hp q hq]
    have : Agree [q.1] e (e.app a) := ⟨Env.app_length _ _, fun t ht => by simp at ht; subst ht; exact get_app_out fun p hp => h p hp q hq⟩
    exact (this.app b).get _ (by simp)
  · have hb' : ∀ q ∈ b, q.1 ≠ s := fun q hq hh => hb ⟨q, hq, hh⟩
    rw [get_app_out hb']
    have : Agree [s] e (e.app b) := ⟨Env.app_length _ _, fun t ht => by simp at ht; subst ht; exact get_app_out hb'⟩
    exact ((this.app a).get _ (by simp)).symm

def oT (o : AOper) : List Nat := (match o.guard with | some (t, _) => [t] | none => []) ++ opT o.op
def oW (o : AOper) : List Nat := o.dst.toList ++ opW o.op
def disj (a b : List Nat) : Bool := a.all fun t => !b.contains t
theorem disj_spec {a b : List Nat} (h : disj a b = true) : ∀ t ∈ a, t ∉ b := by
  intro t ht hb
  have := List.all_eq_true.1 h t ht
  simp [hb] at this
def indep (x y : AOper) : Bool := disj (oW x) (oT y) && disj (oW y) (oT x) && disj (oW x) (oW y)

section
variable {R : Type} {c : Orc} {glob : Nat → List D} {st : Nat} {e : Env} {res : R}
theorem gstep_loc {ao : AOper} (hf : opFree ao.op = true) {k : Env → Option R} (hk : gstep c glob st ao e k = some res) :
    ∃ us, k (e.app us) = some res ∧ KeysIn (oW ao) us ∧ ∀ {R' : Type} (k' : Env → Option R') (e' : Env), Agree (oT ao) e e' → gstep c glob st ao e' k' = k' (e'.app us) := by
  have hskip : KeysIn (oW ao) (outU [] ao.dst .undef) := ((KeysIn.nil (opW ao.op)).out _ _)
  unfold gstep at hk
  cases hg : ao.guard with
  | none =>
    rw [hg] at hk
    obtain ⟨us, h1, h2, h3⟩ := opK_loc hf hk
    refine ⟨us, h1, h2, fun k' e' he => ?_⟩
    unfold gstep
    rw [hg]
    exact h3 _ e' (he.mono fun t ht => List.mem_append_right _ ht)
  | some p =>
    obtain ⟨t, b⟩ := p
    rw [hg] at hk
    simp only at hk
    have hT : ∀ e', Agree (oT ao) e e' → e'.get t = e.get t := fun e' he => he.get t (by simp [oT, hg])
    cases hav : Env.get e t with
    | val v =>
      rw [hav] at hk
      cases v with
      | agg ds => cases hk
      | one d =>
        cases d with
        | bool v =>
          simp only at hk
          by_cases hv : v = b
          · rw [if_pos hv] at hk
            obtain ⟨us, h1, h2, h3⟩ := opK_loc hf hk
            refine ⟨us, h1, h2, fun k' e' he => ?_⟩
            unfold gstep
            rw [hg]
            simp only [hT e' he, hav, if_pos hv]
            exact h3 _ e' (he.mono fun t ht => List.mem_append_right _ ht)
          · rw [if_neg hv] at hk
            refine ⟨_, hk, hskip, fun k' e' he => ?_⟩
            unfold gstep
            rw [hg]
            simp only [hT e' he, hav, if_neg hv]
        | _ => cases hk
    | undef =>
      rw [hav] at hk
      refine ⟨_, hk, hskip, fun k' e' he => ?_⟩
      unfold gstep
      rw [hg]
      simp only [hT e' he, hav]
    | _ => rw [hav] at hk; cases hk
theorem gstep_comm {x y : AOper} {s1 s2 : Nat} (hx : opFree x.op = true) (hy : opFree y.op = true) (hi : indep x y = true) {e1 e2 : Env} (h1 : gstep c glob s1 x e some = some e1) (h2 : gstep c glob s2 y e1 some = some e2) :
    ∃ e1', gstep c glob s2 y e some = some e1' ∧ gstep c glob s1 x e1' some = some e2 := by
  simp only [indep, Bool.and_eq_true] at hi
  obtain ⟨⟨d1, d2⟩, d3⟩ := hi
  obtain ⟨us, a1, a2, a3⟩ := gstep_loc hx h1
  obtain ⟨vs, b1, b2, b3⟩ := gstep_loc hy h2
  obtain rfl := Option.some.inj a1
  obtain rfl := Option.some.inj b1
  refine ⟨e.app vs, b3 some e ⟨(Env.app_length _ _).symm, fun t ht => (get_app_out fun p hp hh => disj_spec d1 _ (a2 p hp) (hh ▸ ht)).symm⟩, ?_⟩
  rw [a3 some (e.app vs) ⟨Env.app_length _ _, fun t ht => get_app_out fun p hp hh => disj_spec d2 _ (b2 p hp) (hh ▸ ht)⟩]
  rw [app_comm fun p hp q hq hh => disj_spec d3 _ (a2 p hp) (hh ▸ b2 q hq)]
end

/-- Two parts of one tuple, drawn apart. -/
def parts (x y : AOper) : Bool :=
  match x.guard, x.dst, x.op, y.guard, y.dst, y.op with
  | none, some d, .extract (.t s) i, none, some d', .extract (.t s') j => s == s' && i != j && d != d' && d != s && d' != s
  | none, some d, .extract (.t s) i, none, some d', .extract (.p s') j => s == s' && i != j && d != d' && d != s && d' != s
  | none, some d, .extract (.p s) i, none, some d', .extract (.t s') j => s == s' && i != j && d != d' && d != s && d' != s
  | none, some d, .extract (.p s) i, none, some d', .extract (.p s') j => s == s' && i != j && d != d' && d != s && d' != s
  | _, _, _, _, _, _ => false
/-- Part i of the tuple at s, with (m) or without its going. -/
def partK (m : Bool) (st s i d : Nat) (e : Env) : Option Env :=
  match Env.get e s with
  | .tup vs => match vs[i]? with
    | some (some v) => if m = true then some ((e.upd s (.tup (vs.set i none))).upd d (AV.ofV st v)) else (match v with | .one a => if flatD a = true then some (e.upd d (.val (.one a))) else none | _ => none)
    | _ => none
  | _ => none
section
variable {c : Orc} {glob : Nat → List D} {e : Env}
theorem partK_t (st s i d : Nat) (e : Env) : (opK c glob st (some d) (.extract (.t s) i) e fun us => some (e.app us)) = partK true st s i d e := by
  simp only [opK, extractS, partK]
  cases Env.get e s with
  | tup vs =>
    simp only
    cases vs[i]? with
    | none => rfl
    | some x => cases x <;> simp [outU, Env.app]
  | _ => rfl
theorem partK_p (st s i d : Nat) (e : Env) : (opK c glob st (some d) (.extract (.p s) i) e fun us => some (e.app us)) = partK false st s i d e := by
  simp only [opK, extractP, partK]
  cases Env.get e s with
  | tup vs =>
    simp only
    cases vs[i]? with
    | none => rfl
    | some x => cases x with
      | none => rfl
      | some v => cases v with
        | agg => rfl
        | one a => simp [outU, Env.app]
  | _ => rfl
theorem upd_comm {e : Env} {s t : Nat} (h : s ≠ t) (a b : AV) : (e.upd s a).upd t b = (e.upd t b).upd s a := by
  have := app_comm (e := e) (a := [(s, a)]) (b := [(t, b)]) (by simp [h])
  simpa [Env.app] using this
theorem upd_over (e : Env) (s : Nat) (a b : AV) : (e.upd s a).upd s b = e.upd s b := by
  refine Env.ext_get (by simp only [Env.upd_length]) fun t => ?_
  simp only [Env.get_upd, Env.upd_length]
  split <;> rfl
theorem partK_comm {m m' : Bool} {s1 s2 s i j d d' : Nat} {e1 e2 : Env} (hij : i ≠ j) (hd : d ≠ d') (hds : d ≠ s) (hds' : d' ≠ s) (h1 : partK m s1 s i d e = some e1) (h2 : partK m' s2 s j d' e1 = some e2) :
    ∃ e1', partK m' s2 s j d' e = some e1' ∧ partK m s1 s i d e1' = some e2 := by
  have gets : ∀ (e : Env) (t : Nat) (x : AV), t ≠ s → (e.upd t x).get s = e.get s := fun e t x ht => by rw [Env.get_upd, if_neg fun hh => ht hh.1.symm]
  unfold partK at h1
  split at h1
  · rename_i vs hs
    have hsl : s < e.length := Env.get_in (by rw [hs]; simp)
    split at h1
    · rename_i v hv
      have hget1 : ∃ vs1, e1.get s = .tup vs1 ∧ vs1[j]? = vs[j]? ∧
          (m = true → vs1 = vs.set i none) ∧ (m = false → vs1 = vs ∧ ∃ a, v = .one a ∧ flatD a = true ∧ e1 = e.upd d (.val (.one a))) ∧ (m = true → e1 = (e.upd s (.tup (vs.set i none))).upd d (AV.ofV s1 v)) := by
        cases m with
        | true =>
          simp only [if_true] at h1
          obtain rfl := Option.some.inj h1
          refine ⟨vs.set i none, by rw [gets _ _ _ hds, Env.get_upd, if_pos ⟨rfl, hsl⟩], by rw [List.getElem?_set, if_neg hij], fun _ => rfl, fun h => (by cases h), fun _ => rfl⟩
        | false =>
          simp only [if_neg (Bool.false_ne_true)] at h1
          cases v with
          | agg => cases h1
          | one a =>
            simp only at h1
            split at h1
            · rename_i hf
              obtain rfl := Option.some.inj h1
              exact ⟨vs, by rw [gets _ _ _ hds]; exact hs, rfl, fun h => (by cases h), fun _ => ⟨rfl, a, rfl, hf, rfl⟩, fun h => (by cases h)⟩
            · cases h1
      obtain ⟨vs1, g1, g2, g4, g5, g6⟩ := hget1
      unfold partK at h2
      rw [g1] at h2
      simp only [g2] at h2
      split at h2
      · rename_i u hu
        cases m' with
        | true =>
          simp only [if_true] at h2
          obtain rfl := Option.some.inj h2
          refine ⟨(e.upd s (.tup (vs.set j none))).upd d' (AV.ofV s2 u), by unfold partK; rw [hs]; simp only [hu, if_true], ?_⟩
          unfold partK
          rw [gets _ _ _ hds', Env.get_upd, if_pos ⟨rfl, hsl⟩]
          simp only
          rw [List.getElem?_set, if_neg hij.symm, hv]
          cases m with
          | true =>
            simp only [if_true]
            rw [g6 rfl, g4 rfl]
            congr 1
            rw [upd_comm (e := e.upd s (.tup (vs.set j none))) hds' (AV.ofV s2 u), upd_over, upd_comm (e := e.upd s (.tup (vs.set i none))) hds, upd_over, List.set_comm _ _ hij, upd_comm hd]
          | false =>
            obtain ⟨rfl, a, rfl, hf, rfl⟩ := g5 rfl
            simp only [if_neg (Bool.false_ne_true), hf, if_true]
            congr 1
            rw [upd_comm (e := e) hds, upd_comm hd]
        | false =>
          simp only [if_neg (Bool.false_ne_true)] at h2
          cases u with
          | agg => cases h2
          | one b =>
            simp only at h2
            split at h2
            · rename_i hf
              obtain rfl := Option.some.inj h2
              refine ⟨e.upd d' (.val (.one b)), by unfold partK; rw [hs]; simp only [hu, if_neg (Bool.false_ne_true), hf, if_true], ?_⟩
              unfold partK
              rw [gets _ _ _ hds', hs]
              simp only [hv]
              cases m with
              | true =>
                simp only [if_true]
                rw [g6 rfl]
                congr 1
                rw [upd_comm hd, upd_comm hds'.symm]
              | false =>
                obtain ⟨rfl, a, rfl, hf', rfl⟩ := g5 rfl
                simp only [if_neg (Bool.false_ne_true), hf', if_true]
                congr 1
                rw [upd_comm hd]
            · cases h2
      · cases h2
    · cases h1
  · cases h1
theorem parts_comm {x y : AOper} {s1 s2 : Nat} (hp : parts x y = true) {e1 e2 : Env} (h1 : gstep c glob s1 x e some = some e1) (h2 : gstep c glob s2 y e1 some = some e2) :
    ∃ e1', gstep c glob s2 y e some = some e1' ∧ gstep c glob s1 x e1' some = some e2 := by
  obtain ⟨dx, gx, ox⟩ := x
  obtain ⟨dy, gy, oy⟩ := y
  unfold parts at hp
  dsimp only at hp
  split at hp
  all_goals first | (cases hp; done) | skip
  all_goals
    simp only [Bool.and_eq_true, beq_iff_eq, bne_iff_ne, ne_eq] at hp
    obtain ⟨⟨⟨⟨rfl, q1⟩, q2⟩, q3⟩, q4⟩ := hp
    simp only [gstep, partK_t, partK_p] at h1 h2 ⊢
    exact partK_comm q1 q2 q3 q4 h1 h2
end

/-! ### runs -/
def runD (f : Nat → Env → Option Env) : List Nat → Env → Option Env
  | [], e => some e
  | i :: l, e => (f i e).bind (runD f l)
theorem runD_front {f : Nat → Env → Option Env} {i : Nat} {post : List Nat} : ∀ {pre : List Nat} {e E : Env}, runD f (pre ++ i :: post) e = some E →
    (∀ r ∈ pre, ∀ e e1 e2, f r e = some e1 → f i e1 = some e2 → ∃ e1', f i e = some e1' ∧ f r e1' = some e2) → ∃ e', f i e = some e' ∧ runD f (pre ++ post) e' = some E
  | [], e, E, h, hc => by
    simp only [List.nil_append, runD] at h ⊢
    cases hf : f i e with
    | none => rw [hf] at h; cases h
    | some e' => rw [hf] at h; exact ⟨e', rfl, h⟩
  | r :: pre, e, E, h, hc => by
    simp only [List.cons_append, runD] at h
    cases hf : f r e with
    | none => rw [hf] at h; cases h
    | some e1 =>
      rw [hf] at h
      obtain ⟨e2, h1, h2⟩ := runD_front (pre := pre) h fun r hr => hc r (List.mem_cons_of_mem _ hr)
      obtain ⟨e1', h3, h4⟩ := hc r (List.mem_cons_self ..) e e1 e2 hf h1
      refine ⟨e1', h3, ?_⟩
      simp only [List.cons_append, runD, h4]
      exact h2

def reach (ops : Array Oper) : Nat → Nat → Nat → Bool
  | 0, _, _ => false
  | f + 1, i, r => match ops[i]? with
    | some o => (o.after.toList.any fun e => Region.binds .any e && e.on == r) || o.after.toList.any fun e => Region.binds .any e && reach ops f e.on r
    | none => false
/-- Whatever an operation waits for has run. -/
def Deps (ops : Array Oper) (listed : Array Bool) (i : Nat) : Prop := ∀ o, ops[i]? = some o → ∀ e ∈ o.after.toList, Region.binds .any e = true → listed.getD e.on false = true
theorem reach_listed {ops : Array Oper} {listed : Array Bool} (hd : ∀ i, listed.getD i false = true → Deps ops listed i) : ∀ (f i r : Nat), Deps ops listed i → reach ops f i r = true → listed.getD r false = true
  | 0, _, _, _, h => by simp [reach] at h
  | f + 1, i, r, hi, h => by
    simp only [reach] at h
    split at h
    · rename_i o ho
      simp only [Bool.or_eq_true, List.any_eq_true, Bool.and_eq_true, beq_iff_eq] at h
      rcases h with ⟨e, he, hb, rfl⟩ | ⟨e, he, hb, hr⟩
      · exact hi o ho e he hb
      · exact reach_listed hd f e.on r (hd _ (hi o ho e he hb)) hr
    · cases h

def okDrawn (ops : Array Oper) (aos : List AOper) : Bool :=
  (aos.all fun ao => opFree ao.op) && ((List.range ops.size).all fun i => match ops[i]? with | some o => o.after.toList.all fun e => !Region.binds .any e || decide (e.on < i) | none => true) &&
  ((List.range ops.size).all fun i => (List.range i).all fun r => match aos[r]?, aos[i]? with | some x, some y => indep x y || parts x y || reach ops ops.size i r | _, _ => false)
end Go.Abs
set_option linter.unusedVariables false
set_option linter.unusedSimpArgs false
namespace Go.Abs
open Go

def rem (n : Nat) (listed : Array Bool) : List Nat := (List.range n).filter fun i => !listed.getD i true
theorem rem_mem {n : Nat} {listed : Array Bool} {i : Nat} : i ∈ rem n listed ↔ i < n ∧ listed.getD i true = false := by
  simp [rem]
theorem getD_set {listed : Array Bool} {i j : Nat} {d : Bool} (hi : i < listed.size) : (listed.setIfInBounds i true).getD j d = if j = i then true else listed.getD j d := by
  simp only [Array.getD_eq_getD_getElem?, Array.getElem?_setIfInBounds]
  by_cases h : i = j
  · subst h; simp [hi]
  · have : ¬ j = i := fun hh => h hh.symm
    simp [h, this]
theorem rem_set {n : Nat} {listed : Array Bool} {i : Nat} (hi : i < listed.size) : rem n (listed.setIfInBounds i true) = (rem n listed).filter (fun j => j != i) := by
  unfold rem
  rw [List.filter_filter]
  apply List.filter_congr
  intro j _
  rw [getD_set hi]
  by_cases h : j = i <;> simp [h]
theorem filter_front {i : Nat} {pre post : List Nat} (h1 : i ∉ pre) (h2 : i ∉ post) : (pre ++ i :: post).filter (fun j => j != i) = pre ++ post := by
  rw [List.filter_append, List.filter_cons]
  have e1 : pre.filter (fun j => j != i) = pre := List.filter_eq_self.2 fun a ha => by simp; rintro rfl; exact h1 ha
  have e2 : post.filter (fun j => j != i) = post := List.filter_eq_self.2 fun a ha => by simp; rintro rfl; exact h2 ha
  simp [e1, e2]

section
variable {R : Type} {ok0 mine : Nat → Prop} {res : R} {glob : Nat → List D} {P : Program} {Q : Exit → Act → World → Prop} {ops : Array Oper} {pn : Bool}

def stepAt (c : Orc) (glob : Nat → List D) (st0 : Nat) (aos : List AOper) (i : Nat) (e : Env) : Option Env :=
  match aos[i]? with
  | some ao => gstep c glob (st0 + i) ao e some
  | none => none
theorem evalOps_run {c : Orc} {k : Nat → Env → Option R} (st0 : Nat) (aos : List AOper) (hf : ∀ ao ∈ aos, opFree ao.op = true) : ∀ (os : List AOper) (n : Nat) (e : Env), (∀ j, os[j]? = aos[n + j]?) → (∀ ao ∈ os, opFree ao.op = true) → evalOps c glob (st0 + n) os e k = some res →
    ∃ E, runD (stepAt c glob st0 aos) (List.range' n os.length) e = some E ∧ k (st0 + n + os.length) E = some res
  | [], n, e, _, _, h => ⟨e, by simp [runD], by simpa [evalOps] using h⟩
  | o :: os, n, e, hos, hfo, h => by
    rw [evalOps_cons] at h
    obtain ⟨us, h1, h2, h3⟩ := gstep_loc (hfo o (List.mem_cons_self ..)) h
    have ho : aos[n]? = some o := by have := hos 0; simpa using this.symm
    obtain ⟨E, g1, g2⟩ := evalOps_run st0 aos hf os (n + 1) _ (fun j => by have := hos (j + 1); rw [List.getElem?_cons_succ] at this; rw [this]; congr 1; omega) (fun ao ha => hfo ao (List.mem_cons_of_mem _ ha)) h1
    refine ⟨E, ?_, ?_⟩
    · rw [List.length_cons, List.range'_succ]
      simp only [runD, stepAt, ho]
      rw [h3 some e ⟨rfl, fun _ _ => rfl⟩]
      exact g1
    · have e1 : st0 + (n + 1) + os.length = st0 + n + (o :: os).length := by simp; omega
      rw [e1] at g2
      exact g2

theorem okOpers_at {os : List Oper} {aos : List AOper} (h : okOpers P pn ops os aos = true) : os.length = aos.length ∧ ∀ (i : Nat) o ao, os[i]? = some o → aos[i]? = some ao → okOper P pn ops o ao = true := by
  induction os generalizing aos with
  | nil => cases aos with
    | nil => exact ⟨rfl, fun i o ao h => by simp at h⟩
    | cons => cases h
  | cons o os ih => cases aos with
    | nil => cases h
    | cons ao aos =>
      simp only [okOpers, Bool.and_eq_true] at h
      obtain ⟨h1, h2⟩ := ih h.2
      refine ⟨by simp [h1], fun i o' ao' g1 g2 => ?_⟩
      cases i with
      | zero => simp at g1 g2; subst g1; subst g2; exact h.1
      | succ i => exact h2 i o' ao' (by simpa using g1) (by simpa using g2)

theorem any_sound {a0 : Act} {w0 : World} (hb : Base ok0 mine glob w0) {c : Orc} (hc : ∀ f args r, c f args = some r → CallOK P f glob args r) {aos : List AOper} {st0 : Nat} (hok : okOpers P pn ops ops.toList aos = true) (hdr : okDrawn ops aos = true) {E : Env}
    (hQ : ∀ a' w' u', In ok0 mine glob pn a0 w0 u' E a' w' → (∀ s, st0 + ops.size ≤ s → ¬ u' s) → Q .normal a' w') :
    ∀ (fuel : Nat) (listed : Array Bool) (a : Act) (w : World) (e : Env) (u : Nat → Prop), listed.size = ops.size → (∀ i, listed.getD i false = true → Deps ops listed i) → runD (stepAt c glob st0 aos) (rem ops.size listed) e = some E →
      In ok0 mine glob pn a0 w0 u e a w → (∀ i ∈ rem ops.size listed, ¬ u (st0 + i)) → (∀ s, st0 + ops.size ≤ s → ¬ u s) → (rem ops.size listed).length = fuel → wpAny P .any ops Q fuel listed a w := by
  simp only [okDrawn, Bool.and_eq_true] at hdr
  obtain ⟨⟨hfree, hback⟩, hind⟩ := hdr
  obtain ⟨hlen, hat⟩ := okOpers_at hok
  have hlen' : aos.length = ops.size := by rw [← hlen]; simp
  have sub : ∀ listed : Array Bool, ∀ i ∈ Region.ready .any ops listed, i ∈ rem ops.size listed ∧ Deps ops listed i := by
    intro listed i hi
    simp only [Region.ready, List.mem_filter, List.mem_range, Bool.and_eq_true, Bool.not_eq_true'] at hi
    refine ⟨rem_mem.2 ⟨hi.1, hi.2.1⟩, fun o ho e he hbe => ?_⟩
    have h2 := hi.2.2
    rw [ho] at h2
    simp only [Option.map_some, Option.getD_some] at h2
    rw [← Array.all_toList] at h2
    have := List.all_eq_true.1 h2 e he
    simpa [hbe] using this
  intro fuel
  induction fuel with
  | zero =>
    intro listed a w e u hsz hdc hrun hin hu hu2 hl
    have hnil : rem ops.size listed = [] := List.eq_nil_of_length_eq_zero hl
    have hr : Region.ready .any ops listed = [] := by
      cases hrd : Region.ready .any ops listed with
      | nil => rfl
      | cons i l => have := (sub listed i (by rw [hrd]; exact List.mem_cons_self ..)).1; rw [hnil] at this; cases this
    rw [hnil] at hrun
    simp only [runD, Option.some.injEq] at hrun
    subst hrun
    exact ⟨hr, hQ a w u hin hu2⟩
  | succ fuel ih =>
    intro listed a w e u hsz hdc hrun hin hu hu2 hl
    refine ⟨fun hr => ?_, fun i hi => ?_⟩
    · -- some operation is ready
      exfalso
      cases hrem : rem ops.size listed with
      | nil => rw [hrem] at hl; cases hl
      | cons r l =>
        have hr1 : r ∈ rem ops.size listed := by rw [hrem]; exact List.mem_cons_self ..
        obtain ⟨hrn, hrl⟩ := rem_mem.1 hr1
        have hmin : ∀ j, j < r → listed.getD j false = true := by
          intro j hj
          have hjn : j < ops.size := by omega
          cases hjl : listed.getD j true with
          | true =>
            have : j < listed.size := by omega
            simpa [Array.getD_eq_getD_getElem?, this] using hjl
          | false =>
            have hjr : j ∈ rem ops.size listed := rem_mem.2 ⟨hjn, hjl⟩
            have hsort : (rem ops.size listed).Pairwise (· < ·) := List.Pairwise.filter _ List.pairwise_lt_range
            rw [hrem] at hjr hsort
            rcases List.mem_cons.1 hjr with rfl | hjr
            · omega
            · have := (List.pairwise_cons.1 hsort).1 j hjr; omega
        have : r ∈ Region.ready .any ops listed := by
          simp only [Region.ready, List.mem_filter, List.mem_range, Bool.and_eq_true, Bool.not_eq_true']
          refine ⟨hrn, hrl, ?_⟩
          have ho : ops[r]? = some ops[r] := by simp [hrn]
          rw [ho]
          simp only [Option.map_some, Option.getD_some]
          rw [← Array.all_toList]
          refine List.all_eq_true.2 fun e he => ?_
          have hbk := List.all_eq_true.1 hback r (by simpa using hrn)
          rw [ho] at hbk
          have := List.all_eq_true.1 hbk e he
          simp only [Bool.or_eq_true, Bool.not_eq_true', decide_eq_true_eq] at this ⊢
          exact this.imp id fun hh => hmin _ hh
        rw [hr] at this
        cases this
    · obtain ⟨hir, hdi⟩ := sub listed i hi
      obtain ⟨hin', hil⟩ := rem_mem.1 hir
      have his : i < listed.size := by omega
      obtain ⟨pre, post, hsplit⟩ := List.append_of_mem hir
      have hsort : (rem ops.size listed).Pairwise (· < ·) := List.Pairwise.filter _ List.pairwise_lt_range
      rw [hsplit] at hsort hrun
      have hpre : ∀ r ∈ pre, r < i := fun r hr => (List.pairwise_append.1 hsort).2.2 r hr i (List.mem_cons_self ..)
      have hpost : ∀ r ∈ post, i < r := fun r hr => (List.pairwise_cons.1 (List.pairwise_append.1 hsort).2.1).1 r hr
      have ho : ops[i]? = some ops[i] := by simp [hin']
      have hao : ∃ ao, aos[i]? = some ao := ⟨aos[i], by simp [hlen', hin']⟩
      obtain ⟨ao, hao⟩ := hao
      obtain ⟨e', h1, h2⟩ := runD_front hrun fun r hr e e1 e2 g1 g2 => by
        have hri := hpre r hr
        have hrx : ∃ x, aos[r]? = some x := ⟨aos[r], by simp [hlen']⟩
        obtain ⟨x, hx⟩ := hrx
        simp only [stepAt, hx, hao] at g1 g2 ⊢
        have hrr : r ∈ rem ops.size listed := by rw [hsplit]; exact List.mem_append_left _ hr
        have hrl := (rem_mem.1 hrr).2
        have hrl' : listed.getD r false = false := by
          have : r < listed.size := by omega
          simpa [Array.getD_eq_getD_getElem?, this] using hrl
        have := List.all_eq_true.1 (List.all_eq_true.1 hind i (by simpa using hin')) r (by simpa using hri)
        rw [hx, hao] at this
        simp only [Bool.or_eq_true] at this
        rcases this with (hh | hh) | hh
        · exact gstep_comm (List.all_eq_true.1 hfree x (List.mem_of_getElem? hx)) (List.all_eq_true.1 hfree ao (List.mem_of_getElem? hao)) hh g1 g2
        · exact parts_comm hh g1 g2
        · have := reach_listed hdc _ i r hdi hh
          rw [hrl'] at this
          cases this
      simp only [stepAt, hao] at h1
      have hni : i ∉ pre := fun hh => Nat.lt_irrefl _ (hpre i hh)
      have hni2 : i ∉ post := fun hh => Nat.lt_irrefl _ (hpost i hh)
      have hrem' : rem ops.size (listed.setIfInBounds i true) = pre ++ post := by rw [rem_set his, hsplit, filter_front hni hni2]
      refine wpOp_sound hb hin (hu i hir) hc ho (hat i _ ao (by simp [hin']) hao) h1 fun e2 a' w' he2 hin2 => ?_
      obtain rfl := Option.some.inj he2
      refine ih (listed.setIfInBounds i true) a' w' e2 _ (by simpa using hsz) (fun j hj o hoj ed hed hbe => ?_) (by rw [hrem']; exact h2) hin2 (fun j hj hh => ?_) (fun s hs hh => ?_) (by rw [hrem']; rw [hsplit] at hl; simp at hl ⊢; omega)
      · rw [getD_set his]
        split
        · rfl
        · rw [getD_set his] at hj
          by_cases hji : j = i
          · subst hji; exact hdi o hoj ed hed hbe
          · rw [if_neg hji] at hj; exact hdc j hj o hoj ed hed hbe
      · rw [hrem'] at hj
        have hjr : j ∈ rem ops.size listed := by rw [hsplit]; rcases List.mem_append.1 hj with hj | hj <;> simp [hj]
        rcases hh with hh | hh
        · exact hu j hjr hh
        · have : j = i := by omega
          subst this
          exact (List.mem_append.1 hj).elim hni hni2
      · rcases hh with hh | hh
        · exact hu2 s hs hh
        · omega

theorem Sim.world {ua uo : Nat → Prop} {e : Env} {tmps : Array Value} {w w' : World} {fp : Nat → List Nat} (h : Sim ok0 mine ua uo e tmps w fp) (hw : w'.heap = w.heap) : Sim ok0 mine ua uo e tmps w' fp := by
  have hk : ∀ k : Nat, w'.heap[k]? = w.heap[k]? := fun k => by rw [hw]
  exact ⟨h.size, fun s v hs => (h.rel s v hs).step (fun _ _ h => h) fun k _ _ => hk k, fun s v hs => (h.al s v hs).keep (fun t _ => ⟨rfl, rfl, fun _ _ _ g _ _ => hk g⟩) fun _ _ _ _ _ g _ _ _ _ _ => hk g, h.disj, fun s b hb => by rw [hw]; exact h.lt s b hb, h.ask, h.stamps⟩
theorem In.drew {a0 : Act} {w0 w : World} {u : Nat → Prop} {e : Env} {a : Act} (h : In ok0 mine glob pn a0 w0 u e a w) : In ok0 mine glob pn a0 w0 u e a { w with drawn := w.drawn + 1 } := by
  obtain ⟨fp, h1, h2⟩ := h.sim
  exact ⟨⟨fp, h1.world rfl, h2⟩, h.defers, h.size, h.pin, h.fr.trans (.drew mine w)⟩

/-- A region, drawn or not. -/
theorem region_sound {a0 : Act} {w0 w : World} {u : Nat → Prop} {e : Env} {a : Act} (hb : Base ok0 mine glob w0) (hmix : P.follows .mixedOrders = true) {c : Orc} (hc : ∀ f args r, c f args = some r → CallOK P f glob args r) {aos : List AOper} {st0 id : Nat} {draw : Bool}
    (hok : okOpers P pn ops ops.toList aos = true) (hdr : draw = true → okDrawn ops aos = true) (hin : In ok0 mine glob pn a0 w0 u e a w) (hu : ∀ s, st0 ≤ s → ¬ u s) {k : Nat → Env → Option R} (hk : evalOps c glob st0 aos e k = some res)
    (hQ : ∀ e' a' w' u', k (st0 + aos.length) e' = some res → In ok0 mine glob pn a0 w0 u' e' a' w' → (∀ s, st0 + aos.length ≤ s → ¬ u' s) → Q .normal a' w') : (Code.region id ops draw).wp P Q a w := by
  have hlen : aos.length = ops.size := by rw [← (okOpers_at hok).1]; simp
  cases draw with
  | false =>
    refine wp_region ?_
    have := ops_sound (Q := Q) hb hc ops.toList aos 0 u st0 e a w (fun j => by simp) hok hin hu hk hQ
    rw [List.range_eq_range']
    simpa using this
  | true =>
    refine wp_region_any hmix ?_
    have hd := hdr rfl
    have hfree : ∀ ao ∈ aos, opFree ao.op = true := by
      simp only [okDrawn, Bool.and_eq_true] at hd
      exact fun ao ha => List.all_eq_true.1 hd.1.1 ao ha
    obtain ⟨E, h1, h2⟩ := evalOps_run (c := c) (glob := glob) (k := k) st0 aos hfree aos 0 e (fun j => by simp) hfree (by simpa using hk)
    have hrem : rem ops.size (Array.replicate ops.size false) = List.range ops.size := List.filter_eq_self.2 fun i hi => by
      have : i < ops.size := by simpa using hi
      simp [Array.getD_eq_getD_getElem?, this]
    refine any_sound (E := E) hb hc hok hd (fun a' w' u' g1 g2 => hQ E a' w' u' (by simpa using h2) g1 (by rw [hlen]; exact g2)) ops.size _ a _ e u (by simp) (fun i hi => ?_) ?_ hin.drew (fun i hi => hu _ (by omega)) (fun s hs => hu s (by omega)) (by rw [hrem]; simp)
    · simp [Array.getD_eq_getD_getElem?, Array.getElem?_replicate] at hi
      split at hi <;> simp at hi
    · rw [hrem, List.range_eq_range']
      rw [hlen] at h1
      exact h1
end
end Go.Abs
set_option linter.unusedVariables false
set_option linter.unusedSimpArgs false
namespace Go.Abs
open Go

def okCode (P : Program) (pn : Bool) : Code → AC → Bool
  | .skip, .skip => true
  | .ret, .ret => true
  | .exit i, .exit j => i == j
  | .region _ ops draw, .reg aos => okOpers P pn ops ops.toList aos && (!draw || okDrawn ops aos)
  | .seq a b, .seq x y => okCode P pn a x && okCode P pn b y
  | .cond c a b, .cond x y z => okX c x && okCode P pn a y && okCode P pn b z
  | .cond c a b, .condn s y z => okX c (.t s) && okCode P pn a y && okCode P pn b z
  | .block i a, .block j x => i == j && okCode P pn a x
  | .loop a, .loop _ _ x => okCode P pn a x
  | _, _ => false
def AE.exit' : AE → Exit
  | .normal => .normal
  | .exit i => .exit i
  | .ret => .ret

theorem trimFrom_get (keep : List Nat) (e0 : Env) : ∀ (l : Env) (s i : Nat), (trimFrom keep e0 s l).get i = trimV keep e0 (s + i) (l.get i)
  | [], s, i => by
    show AV.dead = trimV keep e0 (s + i) .dead
    unfold trimV
    cases keep.contains (s + i) <;> rfl
  | v :: l, s, 0 => by simp [trimFrom, Env.get]
  | v :: l, s, i + 1 => by simp only [trimFrom, Env.get]; rw [trimFrom_get keep e0 l (s + 1) i]; congr 1; omega
theorem trimFrom_length (keep : List Nat) (e0 : Env) : ∀ (l : Env) (s : Nat), (trimFrom keep e0 s l).length = l.length
  | [], s => rfl
  | v :: l, s => by simp [trimFrom, trimFrom_length keep e0 l (s + 1)]
theorem trim_get (keep : List Nat) (e : Env) (i : Nat) : (trim keep e).get i = trimV keep e i (e.get i) := by
  unfold trim; rw [trimFrom_get]; simp

section
variable {ok0 mine : Nat → Prop} {glob : Nat → List D} {P : Program} {pn : Bool}

theorem In.trim {a0 : Act} {w0 w : World} {u : Nat → Prop} {e : Env} {a : Act} (h : In ok0 mine glob pn a0 w0 u e a w) (keep : List Nat) : In ok0 mine glob pn a0 w0 (fun k => k = 0) (trim keep e) a w := by
  obtain ⟨fp, hs, hv⟩ := h.sim
  refine ⟨?_, h.defers, h.size, h.pin, h.fr⟩
  let fp' : Nat → List Nat := fun s => if keep.contains s = true then fp s else []
  have sub : ∀ s b, b ∈ fp' s → b ∈ fp s := by
    intro s b hb
    by_cases hk : keep.contains s = true
    · simp only [fp', if_pos hk] at hb; exact hb
    · simp only [fp', if_neg hk] at hb; cases hb
  have hok : ∀ k, okOf ok0 fp k → okOf ok0 fp' k := fun k ho => ⟨ho.1, fun s hs' => ho.2 s (sub s k hs')⟩
  refine ⟨fp', ⟨?_, fun s v hsv => ?_, fun s v hsv => ?_, fun s t b hne hb hb' => hs.disj s t b hne (sub s b hb) (sub t b hb'), fun s b hb => hs.lt s b (sub s b hb), fun s id hid => ?_, fun s => ?_⟩, fun s hsz => ?_⟩
  · unfold Go.Abs.trim; rw [trimFrom_length]; exact hs.size
  · have hr := (hs.rel s v hsv).step (ok' := okOf ok0 fp') (w' := w) (fun k _ => hok k) fun _ _ _ => rfl
    rw [trim_get]
    unfold trimV
    cases hk : keep.contains s with
    | false =>
      have : fp' s = [] := by simp only [fp', hk]; rfl
      rw [this]
      exact .dead _
    | true =>
      have hfp : fp' s = fp s := by simp only [fp', hk, if_true]
      rw [hfp]
      have nilOf : ∀ (x y : AV), AvR (okOf ok0 fp') w v x (fp s) → (∀ B, AvR (okOf ok0 fp') w v x B → B = []) → AvR (okOf ok0 fp') w v y [] → AvR (okOf ok0 fp') w v y (fp s) := by
        intro x y hx hB hy
        rw [hB _ hx]; exact hy
      cases hav : Env.get e s with
      | own id w' rows => rw [hav] at hr; exact .own _ _ _ _ _ hr.own_inv
      | box b ver ds =>
        rw [hav] at hr
        obtain ⟨g, cur, E, B', rfl, hfp2, hg, hrd, hgB⟩ := hr.box_inv
        rw [hfp2]
        exact .box g 0 0 cur E ds B' hg hrd hgB
      | ref t j id =>
        rw [hav] at hr
        refine nilOf _ _ hr (fun B hB => by cases hB; rfl) ?_
        cases j with
        | some j => exact .dead _
        | none =>
          simp only
          split
          · split
            · split
              · exact .ref _ _ _ _
              · exact .dead _
            · exact .dead _
          · exact .dead _
      | copy t ver => rw [hav] at hr; exact nilOf _ _ hr (fun B hB => by cases hB; rfl) (.dead _)
      | part t ver off n => rw [hav] at hr; exact nilOf _ _ hr (fun B hB => by cases hB; rfl) (.dead _)
      | bp t id o => rw [hav] at hr; exact nilOf _ _ hr (fun B hB => by cases hB; rfl) (.dead _)
      | into t j id w' i o => rw [hav] at hr; exact nilOf _ _ hr (fun B hB => by cases hB; rfl) (.dead _)
      | cell t id i o => rw [hav] at hr; exact nilOf _ _ hr (fun B hB => by cases hB; rfl) (.dead _)
      | mapv id =>
        rw [hav] at hr
        generalize fp s = B at hr ⊢
        cases hr with
        | mapv r _ clk es hg hkk => exact .mapv r 0 clk es hg hkk
      | mref t id =>
        rw [hav] at hr
        refine nilOf _ _ hr (fun B hB => by cases hB; rfl) ?_
        simp only
        split
        · split
          · split
            · exact .mref _ _ _
            · exact .dead _
          · exact .dead _
        · exact .dead _
      | _ => rw [hav] at hr; exact hr
  · have ha := hs.al s v hsv
    rw [trim_get]
    unfold trimV
    cases hk : keep.contains s with
    | false => trivial
    | true =>
      cases hav : Env.get e s with
      | ref t j id =>
        rw [hav] at ha
        cases j with
        | some j => trivial
        | none =>
          simp only
          split
          · split
            · rename_i id' w' rows ht
              split
              · rename_i hid
                subst hid
                intro e2 rows2 hL
                exact ha _ _ ht
              · trivial
            · trivial
          · trivial
      | mref t id =>
        rw [hav] at ha
        simp only
        split
        · split
          · rename_i id' ht
            split
            · rename_i hid
              subst hid
              intro hL
              exact ha ht
            · trivial
          · trivial
        · trivial
      | _ => trivial
  · rw [trim_get] at hid
    unfold trimV at hid
    cases hk : keep.contains s with
    | false => rw [hk] at hid; cases hid
    | true =>
      rw [hk] at hid
      cases hav : Env.get e s with
      | ref t j id =>
        rw [hav] at hid
        cases j with
        | some j => cases hid
        | none =>
          simp only at hid
          split at hid
          · split at hid
            · split at hid
              · injection hid with hid; exact hid.symm
              · cases hid
            · cases hid
          · cases hid
      | mref t id =>
        rw [hav] at hid
        simp only at hid
        split at hid
        · split at hid
          · split at hid
            · injection hid with hid; exact hid.symm
            · cases hid
          · cases hid
        · cases hid
      | _ => rw [hav] at hid; cases hid
  · rw [trim_get]
    unfold trimV
    cases hk : keep.contains s with
    | false => trivial
    | true =>
      cases hav : Env.get e s with
      | own id w' rows => exact rfl
      | box b ver ds => exact ⟨rfl, rfl⟩
      | mapv id => exact rfl
      | mref t id =>
        simp only
        split
        · split
          · split <;> trivial
          · trivial
        · trivial
      | ref t j id =>
        cases j with
        | some j => trivial
        | none =>
          simp only
          split
          · split
            · split <;> trivial
            · trivial
          · trivial
      | _ => trivial
  · simp only [fp']
    split
    · exact hv s hsz
    · rfl

theorem exec_sound {c : Orc} (hc : ∀ f args r, c f args = some r → CallOK P f glob args r) (hmix : P.follows .mixedOrders = true) (ac : AC) : ∀ {R : Type} {res : R} {code : Code} {a0 : Act} {w0 w : World} {u : Nat → Prop} {e : Env} {a : Act} {st : Nat} {k : AE → Nat → Env → Option R} {Q : Exit → Act → World → Prop},
    Base ok0 mine glob w0 → okCode P pn code ac = true → In ok0 mine glob pn a0 w0 u e a w → (∀ s, st ≤ s → ¬ u s) → exec c glob st ac e k = some res →
    (∀ x st' e' a' w' u', k x st' e' = some res → In ok0 mine glob pn a0 w0 u' e' a' w' → (∀ s, st' ≤ s → ¬ u' s) → Q x.exit' a' w') → code.wp P Q a w := by
  induction ac with
  | skip =>
    intro R res code a0 w0 w u e a st k Q hb hok hin hu hk hQ
    cases code <;> simp [okCode] at hok
    exact wp_skip (hQ _ _ _ _ _ _ hk hin hu)
  | ret =>
    intro R res code a0 w0 w u e a st k Q hb hok hin hu hk hQ
    cases code <;> simp [okCode] at hok
    exact wp_ret (hQ _ _ _ _ _ _ hk hin hu)
  | exit i =>
    intro R res code a0 w0 w u e a st k Q hb hok hin hu hk hQ
    cases code <;> simp [okCode] at hok
    subst hok
    exact wp_exit (hQ _ _ _ _ _ _ hk hin hu)
  | reg aos =>
    intro R res code a0 w0 w u e a st k Q hb hok hin hu hk hQ
    cases code <;> simp [okCode] at hok
    exact region_sound hb hmix hc hok.1 (fun hd => by simpa [hd] using hok.2) hin hu hk fun e' a' w' u' h1 h2 h3 => hQ _ _ _ _ _ _ h1 h2 h3
  | seq x y ihx ihy =>
    intro R res code a0 w0 w u e a st k Q hb hok hin hu hk hQ
    cases code <;> simp [okCode] at hok
    refine wp_seq (ihx hb hok.1 hin hu hk fun ex st' e' a' w' u' h1 h2 h3 => ?_)
    cases ex with
    | normal => exact ihy hb hok.2 h2 h3 h1 hQ
    | exit i => exact hQ (.exit i) _ _ _ _ _ h1 h2 h3
    | ret => exact hQ .ret _ _ _ _ _ h1 h2 h3
  | cond x y z ihy ihz =>
    intro R res code a0 w0 w u e a st k Q hb hok hin hu hk hQ
    cases code <;> simp [okCode] at hok
    obtain ⟨fp, hs, _⟩ := hin.sim
    simp only [exec] at hk
    obtain ⟨b, hk1, hb1⟩ := peekBool_sound hs hok.1.1 hk
    refine wp_cond (t := b) (by rw [evalT_eq]; exact hb1) ?_
    cases b with
    | true => simp only [if_true] at hk1 ⊢; exact ihy hb hok.1.2 hin hu hk1 hQ
    | false => simp at hk1 ⊢; exact ihz hb hok.2 hin hu hk1 hQ
  | condn s y z ihy ihz =>
    intro R res code a0 w0 w u e a st k Q hb hok hin hu hk hQ
    cases code with
    | cond cx ca cb =>
      simp [okCode] at hok
      obtain ⟨fp, hs, _⟩ := hin.sim
      simp only [exec] at hk
      have ho : cx = .tmp s := by have := hok.1.1; cases cx <;> simp [okX] at this; rw [this]
      subst ho
      split at hk
      · rename_i hav
        unfold bothK at hk
        split at hk
        · rename_i hab
          obtain ⟨v, hv1, hv2⟩ := hs.slot (s := s) (by rw [hav]; simp)
          have hr := hs.rel s v hv1
          rw [hav] at hr
          obtain ⟨b, rfl⟩ : ∃ b, v = .bool b := by
            generalize fp s = B at hr
            cases hr with
            | someb b => exact ⟨b, rfl⟩
          refine wp_cond (t := b) (by rw [evalT_eq]; exact hv2) ?_
          cases b with
          | true => simp only [if_true]; exact ihy hb hok.1.2 hin hu hk hQ
          | false => simp; exact ihz hb hok.2 hin hu (hab ▸ hk) hQ
        · cases hk
      · rename_i t hav
        obtain ⟨v, hv1, hv2, hr⟩ := hs.valOne hav
        have h1 := hr.one_inv
        have hvt : v = .bool t := by
          generalize fp s = B at h1
          cases h1; rfl
        subst hvt
        refine wp_cond (t := t) (by rw [evalT_eq]; exact hv2) ?_
        cases t with
        | true => simp only [if_true] at hk ⊢; exact ihy hb hok.1.2 hin hu hk hQ
        | false => simp at hk ⊢; exact ihz hb hok.2 hin hu hk hQ
      · cases hk
    | _ => simp [okCode] at hok
  | block i x ih =>
    intro R res code a0 w0 w u e a st k Q hb hok hin hu hk hQ
    cases code <;> simp [okCode] at hok
    obtain ⟨rfl, hok⟩ := hok
    refine wp_block (ih hb hok hin hu hk fun ex st' e' a' w' u' h1 h2 h3 => ?_)
    cases ex with
    | normal => exact hQ .normal _ _ _ _ _ h1 h2 h3
    | exit j =>
      simp only at h1
      simp only [AE.exit', Exit.inBlock]
      split
      · rename_i hj; rw [if_pos hj] at h1; exact hQ .normal _ _ _ _ _ h1 h2 h3
      · rename_i hj; rw [if_neg hj] at h1; exact hQ (.exit j) _ _ _ _ _ h1 h2 h3
    | ret => exact hQ .ret _ _ _ _ _ h1 h2 h3
  | loop keep out x ih =>
    intro R res code a0 w0 w u e a st k Q hb hok hin hu hk hQ
    cases code <;> simp [okCode] at hok
    rename_i body
    simp only [exec] at hk
    unfold loopK at hk
    split at hk
    · rename_i r hr
      unfold loopF at hr
      split at hr
      · rename_i hex
        generalize hex.choose = n at hr
        refine wp_loop_rounds n ?_
        have key : ∀ (n : Nat) (e : Env) (a : Act) (w : World) (u : Nat → Prop), In ok0 mine glob pn a0 w0 u e a w → loopN (fun e => exec c glob 1 x e fun x st' e' => some (x, st', e')) keep n e = some r → Code.rounds P body Q n a w := by
          intro n
          induction n with
          | zero => intro e a w u _ h; cases h
          | succ n ihn =>
            intro e a w u hin h
            rw [rounds_succ]
            simp only [loopN] at h
            cases hbody : exec c glob 1 x (Go.Abs.trim keep e) fun x st' e' => some (x, st', e') with
            | none => rw [hbody] at h; cases h
            | some p =>
              rw [hbody] at h
              refine ih (R := AE × Nat × Env) (st := 1) hb hok (hin.trim keep) (fun s hs h0 => by omega) hbody fun ex st' e' a' w' u' h1 h2 h3 => ?_
              obtain rfl := Option.some.inj h1
              cases ex with
              | normal => exact ihn e' a' w' u' h2 h
              | exit i => obtain rfl := Option.some.inj h; exact hQ (.exit i) _ _ _ _ _ hk (h2.trim out) (fun s hs h0 => by omega)
              | ret => obtain rfl := Option.some.inj h; exact hQ .ret _ _ _ _ _ hk (h2.trim out) (fun s hs h0 => by omega)
        exact key n e a w u hin hr
      · cases hr
    · cases hk
end
end Go.Abs
set_option linter.unusedVariables false
set_option linter.unusedSimpArgs false
namespace Go.Abs
open Go

def okRes (P : Program) : ResultVar → AR → Bool
  | .tmp t, .tmp t' => t == t'
  | .cell t ty, .cell t' n agg => t == t' && okTy P ty agg n
  | _, _ => false
def plainRs (rs : List AR) : List AR := match ioOf rs with | some r => r | none => rs
def okRess (P : Program) : List ResultVar → List AR → Bool
  | [], [] => true
  | r :: rs, x :: xs => okRes P r x && okRess P rs xs
  | _, _ => false
def AR.slot : AR → Nat
  | .tmp t => t
  | .cell t _ _ => t
  | .io t => t
def distinct : List Nat → Bool
  | [] => true
  | x :: xs => !xs.contains x && distinct xs
def okFn (P : Program) (fn : Func) (x : AFn) : Bool :=
  (match fn.body with | some c => okCode P (ioOf x.results).isSome c x.body | none => false) && okRess P fn.results.toList (plainRs x.results) && distinct ((plainRs x.results).map AR.slot) && decide (fn.ntmps = x.ntmps ∧ x.params ≤ x.ntmps) && decide (fn.name ≠ "runtime.NumGoroutine")

section
variable {ok0 mine : Nat → Prop} {glob : Nat → List D} {P : Program} {w w' : World} {e : Env} {tmps : Array Value} {fp : Nat → List Nat}

theorem run_loadVar {t : TypeId} {agg : Bool} {n : Nat} {g off : Nat} {v : Value} (ht : okTy P t agg n = true) (h : Loads w agg n (.pointer (some ⟨g, off, none⟩)) v) :
    (loadVar t ⟨g, off, none⟩).run P w = .ok v w := by
  have := run_loadAt (P := P) ht h
  simpa [Instr.loadAt, Instr.sureAddr] using this

def resRun (tmps : Array Value) : ResultVar → Sem Value
  | .tmp t => pure (tmps.getD t undef)
  | .cell a t => do loadVar t (← asAddr (tmps.getD a undef))
theorem results_eq (fn : Func) (tmps : Array Value) : results fn tmps = (do let vs ← fn.results.mapM (resRun tmps); pure (if h : vs.size = 1 then vs[0] else .tuple vs)) := by
  unfold results
  rfl

/-- One result. -/
theorem res_sound {ua uo : Nat → Prop} (h : Sim ok0 mine ua uo e tmps w fp) {r : ResultVar} {x : AR} (hx : okRes P r x = true) {V : V} (hr : resOf e x = some V) :
    ∃ v B, (resRun tmps r).run P w = .ok v w ∧ VR (okOf ok0 fp) w v V B ∧ ∀ b ∈ B, b ∈ fp x.slot := by
  cases x with
  | tmp t =>
    cases r <;> simp [okRes] at hx
    subst hx
    simp only [resOf] at hr
    split at hr
    · rename_i v ht
      obtain rfl := Option.some.inj hr
      obtain ⟨y, hy, hy', hyr⟩ := h.valOne ht
      exact ⟨y, fp _, by simp [resRun, hy'], hyr, fun b hb => hb⟩
    · rename_i id w' rows ht
      obtain rfl := Option.some.inj hr
      obtain ⟨y, hy, hy'⟩ := h.slot (by rw [ht]; simp)
      have hyr := h.rel _ y hy
      rw [ht] at hyr
      exact ⟨y, fp _, by simp [resRun, hy'], .one _ _ _ hyr.own_inv, fun b hb => hb⟩
    · cases hr
  | cell t n agg =>
    cases r <;> simp [okRes] at hx
    obtain ⟨rfl, hty⟩ := hx
    simp only [resOf] at hr
    split at hr
    · rename_i b ver ds ht
      split at hr
      · rename_i hlen
        obtain ⟨g, cur, E, B, hv, hv', hfp, hg, hrd, hgB, _, _⟩ := h.boxAt ht
        have hB : ∀ b ∈ B, b ∈ fp (AR.slot (.cell _ n agg)) := fun b hb => by simp only [AR.slot]; rw [hfp]; exact List.mem_cons_of_mem _ hb
        have hcl := hrd.length
        simp only [Array.length_toList] at hcl
        cases agg with
        | true =>
          simp only [Go.Abs.V.ofCells, Option.some.injEq] at hr
          subst hr
          refine ⟨.agg cur, B, ?_, by simpa using VR.agg _ _ _ hrd, hB⟩
          have hl : Loads w true n (.pointer (some ⟨g, 0, none⟩)) (.agg cur) := ⟨g, 0, rfl, cur.toList, by simp [hcl, hlen], fun j u hj => cells_of_row hg 0 j u (by simpa using hj), by simp⟩
          simp [resRun, hv', asAddr, run_loadVar hty hl]
        | false =>
          cases ds with
          | nil => simp [Go.Abs.V.ofCells] at hr
          | cons d ds =>
            cases ds with
            | cons => simp [Go.Abs.V.ofCells] at hr
            | nil =>
              simp only [Go.Abs.V.ofCells, Option.some.injEq] at hr
              subst hr
              cases hc : cur.toList with
              | nil => rw [hc] at hrd; have := hrd.length; simp at this
              | cons v vs =>
                rw [hc] at hrd
                have hvs : vs = [] := List.eq_nil_of_length_eq_zero (by have := hrd.length; simpa using this)
                subst hvs
                refine ⟨v, B, ?_, .one _ _ _ hrd.single, hB⟩
                have h0 : w.cell? ⟨g, 0, none⟩ = some v := cells_of_row hg 0 0 v (by rw [List.drop_zero, hc]; rfl)
                have hl : Loads w false n (.pointer (some ⟨g, 0, none⟩)) v := ⟨g, 0, rfl, h0⟩
                simp [resRun, hv', asAddr, run_loadVar hty hl]
      · cases hr
    · cases hr
  | io t => cases r <;> simp [okRes] at hx

theorem ress_sound {ua uo : Nat → Prop} (h : Sim ok0 mine ua uo e tmps w fp) : ∀ {rs : List ResultVar} {xs : List AR}, okRess P rs xs = true → distinct (xs.map AR.slot) = true → ∀ {Vs : List V}, resAll e xs = some Vs →
    ∃ vs B, (rs.mapM (resRun tmps)).run P w = .ok vs w ∧ vs.length = rs.length ∧ TR (okOf ok0 fp) w vs (Vs.map some) B ∧ ∀ b ∈ B, ∃ x ∈ xs, b ∈ fp x.slot
  | [], [], _, _, Vs, hr => by
    simp only [resAll, Option.some.injEq] at hr
    subst hr
    exact ⟨[], [], by simp, rfl, .nil, by simp⟩
  | [], _ :: _, h1, _, _, _ => by cases h1
  | _ :: _, [], h1, _, _, _ => by cases h1
  | r :: rs, x :: xs, h1, h2, Vs, hr => by
    simp only [okRess, Bool.and_eq_true] at h1
    simp only [List.map_cons, distinct, Bool.and_eq_true, Bool.not_eq_true'] at h2
    simp only [resAll] at hr
    split at hr
    · rename_i V Vs' hV hVs
      obtain rfl := Option.some.inj hr
      obtain ⟨v, B1, a1, a2, a3⟩ := res_sound h h1.1 hV
      obtain ⟨vs, B2, b1, b2, b3, b4⟩ := ress_sound h h1.2 h2.2 hVs
      refine ⟨v :: vs, B1 ++ B2, ?_, by simp [b2], .put _ _ _ _ _ _ a2 b3 fun b hb hb' => ?_, fun b hb => ?_⟩
      · rw [List.mapM_cons]
        simp only [Sem.run_bind, a1, Result.andThen_ok, b1, Sem.run_pure]
      · obtain ⟨y, hy, hby⟩ := b4 b hb'
        have hne : x.slot ≠ y.slot := fun hh => by
          have : y.slot ∈ xs.map AR.slot := List.mem_map_of_mem hy
          rw [← hh] at this
          have h3 := h2.1
          simp [this] at h3
        exact h.disj _ _ b hne (a3 b hb) hby
      · rcases List.mem_append.1 hb with hb | hb
        · exact ⟨x, List.mem_cons_self .., a3 b hb⟩
        · obtain ⟨y, hy, hby⟩ := b4 b hb
          exact ⟨y, List.mem_cons_of_mem _ hy, hby⟩
    · cases hr

theorem finPlain_sound {ua uo : Nat → Prop} (h : Sim ok0 mine ua uo e tmps w fp) {fn : Func} {xs : List AR} (hok : okRess P fn.results.toList xs = true) (hd : distinct (xs.map AR.slot) = true) {r : AV} (hr : finPlain xs e = some r) :
    isRes r = true ∧ isIO r = false ∧ ∃ v B, (results fn tmps).run P w = .ok v w ∧ AvR (okOf ok0 fp) w v r B ∧ ∀ b ∈ B, ∃ s, b ∈ fp s := by
  have hrun : ∀ {vs : List Value}, (fn.results.toList.mapM (resRun tmps)).run P w = .ok vs w → (results fn tmps).run P w = .ok (if h : vs.toArray.size = 1 then vs.toArray[0] else .tuple vs.toArray) w := by
    intro vs hvs
    rw [results_eq, Array.mapM_eq_mapM_toList]
    simp [hvs]
  unfold finPlain at hr
  split at hr
  · rename_i x
    split at hr
    · rename_i V hV
      obtain rfl := Option.some.inj hr
      cases hrl : fn.results.toList with
      | nil => rw [hrl] at hok; cases hok
      | cons rv rs =>
        rw [hrl] at hok
        simp only [okRess, Bool.and_eq_true] at hok
        cases rs with
        | cons => cases hok.2
        | nil =>
          obtain ⟨v, B, a1, a2, a3⟩ := res_sound h hok.1 hV
          refine ⟨rfl, rfl, v, B, ?_, .val _ _ _ a2, fun b hb => ⟨_, a3 b hb⟩⟩
          have := hrun (vs := [v]) (by rw [hrl, List.mapM_cons]; simp [a1])
          simpa using this
    · cases hr
  · rename_i hne
    split at hr
    · rename_i Vs hVs
      obtain rfl := Option.some.inj hr
      obtain ⟨vs, B, b1, b2, b3, b4⟩ := ress_sound h hok hd hVs
      refine ⟨rfl, by cases Vs <;> rfl, .tuple vs.toArray, B, ?_, .tup _ _ _ b3, fun b hb => ?_⟩
      · have := hrun b1
        rw [this]
        have hl : vs.toArray.size ≠ 1 := by
          simp only [List.size_toArray]
          rw [b2]
          intro h1
          have hx : xs.length = 1 := by
            have : ∀ {rs : List ResultVar} {xs : List AR}, okRess P rs xs = true → rs.length = xs.length := by
              intro rs
              induction rs with
              | nil => intro xs h; cases xs with
                | nil => rfl
                | cons => cases h
              | cons r rs ih => intro xs h; cases xs with
                | nil => cases h
                | cons x xs => simp only [okRess, Bool.and_eq_true] at h; simp [ih h.2]
            rw [← this hok]; exact h1
          match xs, hx with
          | [x], _ => exact hne x rfl
        rw [dif_neg hl]
      · obtain ⟨x, _, hx⟩ := b4 b hb
        exact ⟨_, hx⟩
    · cases hr
/-- What is handed back of the first argument. -/
theorem io_sound {ua uo : Nat → Prop} (h : Sim ok0 mine ua uo e tmps w fp) {V : V} (hr : resOf e (.io 0) = some V) : ∃ B, VR (okOf ok0 fp) w (tmps.getD 0 undef) V B ∧ ∀ b ∈ B, ∃ s, b ∈ fp s := by
  simp only [resOf] at hr
  split at hr
  · rename_i id w' rows ht
    obtain rfl := Option.some.inj hr
    obtain ⟨y, hy, hy'⟩ := h.slot (s := 0) (by rw [ht]; simp)
    have hyr := h.rel _ y hy
    rw [ht] at hyr
    rw [hy']
    exact ⟨fp 0, .one _ _ _ hyr.own_inv, fun b hb => ⟨0, hb⟩⟩
  · rename_i t ver ht
    split at hr
    · rename_i b ver' ds hb
      split at hr
      · rename_i hv
        subst hv
        obtain rfl := Option.some.inj hr
        obtain ⟨y, hy, hy'⟩ := h.slot (s := 0) (by rw [ht]; simp)
        have ha := h.al 0 y hy
        rw [ht] at ha
        obtain ⟨g, cur, E, htv, hg, rfl⟩ := ha _ _ hb
        obtain ⟨g2, cur2, E2, B, htv2, _, hfp, hg2, hrd, hgB, _, _⟩ := h.boxAt hb
        obtain rfl : g = g2 := by rw [htv] at htv2; injection htv2 with h1; injection h1 with h1; injection h1 with h1; injection h1
        obtain rfl : cur = cur2 := by rw [hg] at hg2; injection hg2 with h1; injection h1
        rw [hy']
        exact ⟨B, by simpa using VR.agg _ _ _ hrd, fun b hb => ⟨t, by rw [hfp]; exact List.mem_cons_of_mem _ hb⟩⟩
      · cases hr
    · cases hr
  · cases hr
theorem finish_sound {ua uo : Nat → Prop} (h : Sim ok0 mine ua uo e tmps w fp) {fn : Func} {xs : List AR} (hok : okRess P fn.results.toList (plainRs xs) = true) (hd : distinct ((plainRs xs).map AR.slot) = true) {vs0 : List Value} (hpin : (ioOf xs).isSome = true → tmps.getD 0 undef = vs0.headD undef) {r : AV} (hr : finish xs e = some r) :
    isRes r = true ∧ ∃ v B, (results fn tmps).run P w = .ok v w ∧ AvR (okOf ok0 fp) w (resV r v vs0) r B ∧ ∀ b ∈ B, ∃ s, b ∈ fp s := by
  unfold finish at hr
  unfold plainRs at hok hd
  cases hio : ioOf xs with
  | none =>
    rw [hio] at hr hok hd
    obtain ⟨g1, g2, v, B, g3, g4, g5⟩ := finPlain_sound h hok hd hr
    exact ⟨g1, v, B, g3, by unfold resV; rw [g2]; exact g4, g5⟩
  | some ra =>
    rw [hio] at hr hok hd hpin
    simp only at hr
    unfold finIO at hr
    split at hr
    rotate_left
    · split at hr
      · rename_i y hy
        obtain rfl := Option.some.inj hr
        obtain ⟨_, _, v, B, g3, g4, g5⟩ := finPlain_sound (xs := []) (r := .tup []) h hok hd (by simp [finPlain, resAll])
        obtain ⟨By, hy1, hy2⟩ := io_sound h hy
        refine ⟨rfl, v, By, g3, ?_, hy2⟩
        rw [hpin rfl] at hy1
        have := TR.skip undef _ _ _ (TR.skip v _ _ _ (TR.put _ _ _ _ _ _ hy1 .nil (by simp)))
        simpa [resV, isIO] using AvR.tup _ _ _ this
      · cases hr
    · cases hr
    rename_i ra
    split at hr
    · rename_i d y hx hy
      split at hr
      · rename_i hf
        obtain rfl := Option.some.inj hr
        obtain ⟨_, _, v, B, g3, g4, g5⟩ := finPlain_sound (xs := [ra]) (r := .val (.one d)) h hok hd (by simp [finPlain, hx])
        obtain ⟨By, hy1, hy2⟩ := io_sound h hy
        have hB : B = [] := g4.val_inv.one_inv.plain fun e rows hh => by subst hh; simp [flatD] at hf
        subst hB
        refine ⟨rfl, v, By, g3, ?_, hy2⟩
        rw [hpin rfl] at hy1
        have := TR.skip undef _ _ _ (TR.put _ _ _ _ _ _ g4.val_inv (TR.put _ _ _ _ _ _ hy1 .nil (by simp)) (by simp))
        simpa [resV, isIO] using AvR.tup _ _ _ this
      · cases hr
    · cases hr
end
end Go.Abs
set_option linter.unusedVariables false
set_option linter.unusedSimpArgs false
namespace Go.Abs
open Go

section
variable {glob : Nat → List D} {P : Program} {w : World}

theorem ArgsR.slots {ok : Nat → Prop} {vs : List Value} {args : List AV} {Bs : List Nat} (h : ArgsR ok w vs args Bs) :
    vs.length = args.length ∧ ∃ fp : Nat → List Nat, (∀ (i : Nat) v a, vs[i]? = some v → args[i]? = some a → isArg a = true ∧ AvR ok w v a (fp i)) ∧ (∀ s t b, s ≠ t → b ∈ fp s → b ∉ fp t) ∧ (∀ s b, b ∈ fp s → b ∈ Bs) ∧ ∀ s, vs.length ≤ s → fp s = [] := by
  induction h with
  | nil => exact ⟨rfl, fun _ => [], fun i v a h => by simp at h, by simp, by simp, by simp⟩
  | cons v a vs as B1 B2 ha h1 h2 hd ih =>
    obtain ⟨hl, fp, g1, g2, g3, g4⟩ := ih
    refine ⟨by simp [hl], fun s => match s with | 0 => B1 | s + 1 => fp s, fun i v' a' hv' ha' => ?_, fun s t b hne hb hb' => ?_, fun s b hb => ?_, fun s hs => ?_⟩
    · cases i with
      | zero => simp at hv' ha'; subst hv'; subst ha'; exact ⟨ha, h1⟩
      | succ i => exact g1 i v' a' (by simpa using hv') (by simpa using ha')
    · cases s with
      | zero => cases t with
        | zero => exact hne rfl
        | succ t => exact hd b hb (g3 t b hb')
      | succ s => cases t with
        | zero => exact hd b hb' (g3 s b hb)
        | succ t => exact g2 s t b (fun hh => hne (by rw [hh])) hb hb'
    · cases s with
      | zero => exact List.mem_append_left _ hb
      | succ s => exact List.mem_append_right _ (g3 s b hb)
    · cases s with
      | zero => simp at hs
      | succ s => exact g4 s (by simpa using hs)

theorem env_get {e : Env} {i : Nat} : e.get i = (e[i]?).getD .dead := by
  induction e generalizing i with
  | nil => simp [Env.get]
  | cons v l ih => cases i with
    | zero => simp [Env.get]
    | succ i => simp [Env.get, ih]

/-- The frame at the start of a call. -/
theorem entry {okA : Nat → Prop} {vs : List Value} {args : List AV} {Bs : List Nat} (h : ArgsR okA w vs args Bs) (hno : ∀ b ∈ Bs, ¬ okA b) {glob : Nat → List D} (pn : Bool) (n : Nat) :
    In (fun k => okA k ∨ w.heap.size ≤ k ∨ k ∈ Bs) (fun k => w.heap.size ≤ k ∨ k ∈ Bs) glob pn { tmps := vs.toArray ++ Array.replicate n undef, defers := [] } w (fun k => k = 0) (args.map (AV.stamp 0) ++ List.replicate n .undef) { tmps := vs.toArray ++ Array.replicate n undef, defers := [] } w := by
  obtain ⟨hl, fp, g1, g2, g3, g4⟩ := h.slots
  have hBlt : ∀ s b, b ∈ fp s → b < w.heap.size := by
    intro s b hb
    have hs : s < vs.length := by
      rcases Nat.lt_or_ge s vs.length with h' | h'
      · exact h'
      · rw [g4 s h'] at hb; cases hb
    have hs2 : s < args.length := by omega
    obtain ⟨ha, hr⟩ := g1 s vs[s] args[s] (by simp [hs]) (by simp [hs2])
    generalize args[s] = av at ha hr
    generalize vs[s] = vv at hr
    generalize fp s = B at hb hr
    cases hr with
    | val _ _ _ hv => cases hv with
      | one _ _ _ hh => exact hh.lt b hb
      | agg _ _ _ hh => exact hh.lt b hb
    | rp => cases hb
    | clo => cases hb
    | _ => simp [isArg] at ha
  have hok : ∀ k, okA k → okOf (fun k => okA k ∨ w.heap.size ≤ k ∨ k ∈ Bs) fp k := fun k hk => ⟨.inl hk, fun s hs => hno k (g3 s k hs) hk⟩
  have hget : ∀ s, s < vs.length → ∃ v a, vs[s]? = some v ∧ args[s]? = some a ∧ (vs.toArray ++ Array.replicate n undef)[s]? = some v ∧ Env.get (args.map (AV.stamp 0) ++ List.replicate n AV.undef) s = a.stamp 0 := by
    intro s hs
    have hs2 : s < args.length := by omega
    refine ⟨vs[s], args[s], by simp [hs], by simp [hs2], by simp [Array.getElem?_append, hs], ?_⟩
    rw [env_get]
    simp [List.getElem?_append, hs2]
  have hget2 : ∀ s v, vs.length ≤ s → (vs.toArray ++ Array.replicate n undef)[s]? = some v → v = undef ∧ Env.get (args.map (AV.stamp 0) ++ List.replicate n AV.undef) s = .undef := by
    intro s v hs hv
    have h1 : ¬ s < vs.length := by omega
    rw [Array.getElem?_append, if_neg (by simpa using h1), Array.getElem?_replicate] at hv
    split at hv
    · rename_i h2
      refine ⟨(Option.some.inj hv).symm, ?_⟩
      rw [env_get]
      have h3 : ¬ s < args.length := by omega
      simp only [List.size_toArray] at h2
      have h4 : s - args.length < n := by omega
      simp [List.getElem?_append, h3, List.getElem?_replicate, h4]
    · cases hv
  have hget3 : ∀ s, vs.length ≤ s → Env.get (args.map (AV.stamp 0) ++ List.replicate n AV.undef) s = .undef ∨ Env.get (args.map (AV.stamp 0) ++ List.replicate n AV.undef) s = .dead := by
    intro s hs
    rw [env_get]
    have h3 : ¬ s < args.length := by omega
    by_cases h4 : s - args.length < n
    · left; simp [List.getElem?_append, h3, List.getElem?_replicate, h4]
    · right; simp [List.getElem?_append, h3, List.getElem?_replicate, h4]
  have argPlain : ∀ a : AV, isArg a = true → aliasOf (a.stamp 0) = none ∧ askStamp (a.stamp 0) = none ∧ OwnIn (fun k => k = 0) (a.stamp 0) := by
    intro a ha
    cases a with
    | val x => exact ⟨(ofV_alias 0 x).1, (ofV_alias 0 x).2, (ofV_own (fun k => k = 0) 0 rfl x).1⟩
    | rp ds => exact ⟨rfl, rfl, trivial⟩
    | clo f c => exact ⟨rfl, rfl, trivial⟩
    | _ => simp [isArg] at ha
  refine ⟨⟨fp, ⟨by simp [hl], fun s v hs => ?_, fun s v hs => ?_, g2, fun s b hb => ⟨hBlt s b hb, .inr (g3 s b hb)⟩, fun s id hid => ?_, fun s => ?_⟩, fun s hs => g4 s (by simp at hs; omega)⟩, rfl, rfl, fun _ => rfl, .refl _ _⟩
  · by_cases hsv : s < vs.length
    · obtain ⟨v', a, h1, h2, h3, h4⟩ := hget s hsv
      rw [hs] at h3
      obtain rfl := Option.some.inj h3
      rw [h4]
      exact ((g1 s v a h1 h2).2.stamp 0).step (fun k _ => hok k) fun _ _ _ => rfl
    · obtain ⟨rfl, h4⟩ := hget2 s v (by omega) hs
      rw [h4, g4 s (by omega)]
      exact .undef
  · refine AliasOK.stale fun t ht => ?_
    by_cases hsv : s < vs.length
    · obtain ⟨v', a, h1, h2, h3, h4⟩ := hget s hsv
      rw [h4, (argPlain a (g1 s v' a h1 h2).1).1] at ht
      cases ht
    · obtain ⟨rfl, h4⟩ := hget2 s v (by omega) hs
      rw [h4] at ht
      cases ht
  · by_cases hsv : s < vs.length
    · obtain ⟨v', a, h1, h2, h3, h4⟩ := hget s hsv
      rw [h4, (argPlain a (g1 s v' a h1 h2).1).2.1] at hid
      cases hid
    · rcases hget3 s (by omega) with h4 | h4 <;> rw [h4] at hid <;> cases hid
  · by_cases hsv : s < vs.length
    · obtain ⟨v', a, h1, h2, h3, h4⟩ := hget s hsv
      rw [h4]
      exact (argPlain a (g1 s v' a h1 h2).1).2.2
    · rcases hget3 s (by omega) with h4 | h4 <;> rw [h4] <;> trivial

/-- A function whose code is the abstract one's. -/
theorem runF_sound {c : Orc} (hc : ∀ f args r, c f args = some r → CallOK P f glob args r) (hmix : P.follows .mixedOrders = true) {f : FuncId} {fn : Func} (hf : P.funcs[f]? = some fn) {x : AFn} (hok : okFn P fn x = true) {args : List AV} {r : AV} (hr : runF c glob x args = some r) : CallOK P f glob args r := by
  simp only [okFn, Bool.and_eq_true, decide_eq_true_eq] at hok
  obtain ⟨⟨⟨⟨hbody, hres⟩, hdist⟩, hn1, hn2⟩, hname⟩ := hok
  split at hbody
  · rename_i code hcode
    unfold runF at hr
    split at hr
    · rename_i hlen
      -- what the frame's end says of the result
      have hend : ∀ {ex : AE} {st' : Nat} {e' : Env}, (match ex with | AE.normal => finish x.results e' | AE.ret => finish x.results e' | _ => none) = some r → finish x.results e' = some r ∧ (ex = .normal ∨ ex = .ret) := by
        intro ex st' e' h
        cases ex with
        | normal => exact ⟨h, .inl rfl⟩
        | exit => cases h
        | ret => exact ⟨h, .inr rfl⟩
      refine ⟨⟨fn, hf, by rw [hcode]; rfl, hname⟩, fun w vs okA Bs hargs hno hglob => ?_⟩
      · have hsz : vs.length = args.length := hargs.slots.1
        refine calls_of_wp hf hcode ?_
        have hnt : fn.ntmps - vs.toArray.size = x.ntmps - x.params := by simp [hsz, hlen, hn1]
        rw [hnt]
        have hin := entry (glob := glob) hargs hno (ioOf x.results).isSome (x.ntmps - x.params)
        have hb : Base (fun k => okA k ∨ w.heap.size ≤ k ∨ k ∈ Bs) (fun k => w.heap.size ≤ k ∨ k ∈ Bs) glob w := ⟨fun k hk => .inl hk, fun k hk => .inr hk, fun g => by
          obtain ⟨us, h1, h2, hw⟩ := hglob g
          exact ⟨us, h1, fun j u hj => ⟨⟨.inl (h2 j u hj).1.1, (h2 j u hj).1.2⟩, (h2 j u hj).2⟩, hw⟩⟩
        refine exec_sound hc hmix x.body hb hbody hin (fun s hs h0 => by omega) hr fun ex st' e' a' w' u' h1 h2 h3 => ?_
        obtain ⟨h1, hex⟩ := hend (st' := st') h1
        obtain ⟨fp, hs, hv⟩ := h2.sim
        have hpin : (ioOf x.results).isSome = true → a'.tmps.getD 0 undef = vs.headD undef := by
          intro hp
          have h5 := h2.pin hp
          rw [Array.getD_eq_getD_getElem?, h5]
          cases vs with
          | nil => simp [Array.getElem?_replicate]; split <;> rfl
          | cons v vs => rw [Array.getElem?_append, if_pos (by simp)]; simp
        obtain ⟨gr, v, B, g1, g2, g3⟩ := finish_sound (P := P) hs hres hdist hpin h1
        have hpost : a'.defers = [] ∧ ∃ v, (results fn a'.tmps).run P w' = .ok v w' ∧ ∃ v' B, Ending.returned v = .returned v' ∧ isRes r = true ∧ AvR (fun k => (okA k ∨ w.heap.size ≤ k ∨ k ∈ Bs) ∧ k ∉ B) w' (resV r v' vs) r B ∧
            (∀ b ∈ B, b < w'.heap.size ∧ (w.heap.size ≤ b ∨ b ∈ Bs)) ∧ Fr (fun k => w.heap.size ≤ k ∨ k ∈ Bs) w w' := by
          refine ⟨h2.defers, v, g1, v, B, rfl, gr, g2.step (fun k _ hk => ⟨hk.1, fun hb => ?_⟩) fun _ _ _ => rfl, fun b hb => ?_, h2.fr⟩
          · obtain ⟨s, hs'⟩ := g3 k hb
            exact hk.2 s hs'
          · obtain ⟨s, hs'⟩ := g3 b hb
            exact hs.lt s b hs'
        rcases hex with rfl | rfl <;> exact hpost
    · cases hr
  · cases hbody
end
end Go.Abs
set_option linter.unusedVariables false
set_option linter.unusedSimpArgs false
namespace Go.Abs
open Go

def HandOK (P : Program) (glob : Nat → List D) (hand : FuncId → Option (List AV → Option AV)) : Prop := ∀ f h args r, hand f = some h → h args = some r → CallOK P f glob args r
def ProgOK (P : Program) (prog : FuncId → Option AFn) : Prop := ∀ f x, prog f = some x → ∃ fn, P.funcs[f]? = some fn ∧ okFn P fn x = true

section
variable {P : Program} {glob : Nat → List D} {prog : FuncId → Option AFn} {hand : FuncId → Option (List AV → Option AV)}

theorem callN_sound (hmix : P.follows .mixedOrders = true) (hp : ProgOK P prog) (hh : HandOK P glob hand) : ∀ (n : Nat) (f : FuncId) (args : List AV) (r : AV), callN prog hand glob n f args = some r → CallOK P f glob args r
  | 0, f, args, r, h => by cases h
  | n + 1, f, args, r, h => by
    simp only [callN] at h
    cases hf : hand f with
    | some g => rw [hf] at h; exact hh f g args r hf h
    | none =>
      rw [hf] at h
      cases hx : prog f with
      | none => rw [hx] at h; cases h
      | some x =>
        rw [hx] at h
        obtain ⟨fn, h1, h2⟩ := hp f x hx
        exact runF_sound (callN_sound hmix hp hh n) hmix h1 h2 h
theorem callF_sound (hmix : P.follows .mixedOrders = true) (hp : ProgOK P prog) (hh : HandOK P glob hand) {f : FuncId} {args : List AV} {r : AV} (h : callF prog hand glob f args = some r) : CallOK P f glob args r := by
  unfold callF at h
  split at h
  · exact callN_sound hmix hp hh _ f args r h
  · cases h

/-! ### loops -/
theorem loopN_mono {body : Env → Option (AE × Nat × Env)} {keep : List Nat} : ∀ {n m : Nat} {e : Env} {r : AE × Nat × Env}, loopN body keep n e = some r → n ≤ m → loopN body keep m e = some r
  | 0, _, _, _, h, _ => by cases h
  | n + 1, 0, _, _, _, hm => by omega
  | n + 1, m + 1, e, r, h, hm => by
    simp only [loopN] at h ⊢
    cases hb : body (trim keep e) with
    | none => rw [hb] at h; cases h
    | some p =>
      rw [hb] at h
      obtain ⟨x, st, e'⟩ := p
      cases x with
      | normal => exact loopN_mono (n := n) h (by omega)
      | _ => exact h
theorem loopF_of {body : Env → Option (AE × Nat × Env)} {keep : List Nat} {n : Nat} {e : Env} {r : AE × Nat × Env} (h : loopN body keep n e = some r) : loopF body keep e = some r := by
  have hex : ∃ n r, loopN body keep n e = some r := ⟨n, r, h⟩
  unfold loopF
  rw [dif_pos hex]
  obtain ⟨r', hr'⟩ := hex.choose_spec
  have h1 := loopN_mono hr' (Nat.le_max_left hex.choose n)
  have h2 := loopN_mono h (Nat.le_max_right hex.choose n)
  rw [h1] at h2
  rw [hr', h2]
theorem loopF_some {body : Env → Option (AE × Nat × Env)} {keep : List Nat} {e : Env} {r : AE × Nat × Env} (h : loopF body keep e = some r) : ∃ n, loopN body keep n e = some r := by
  unfold loopF at h
  split at h
  · exact ⟨_, h⟩
  · cases h
/-- A round that goes on. -/
theorem loopF_next {body : Env → Option (AE × Nat × Env)} {keep : List Nat} {e e' : Env} {st : Nat} {r : AE × Nat × Env} (hb : body (trim keep e) = some (.normal, st, e')) (h : loopF body keep e' = some r) : loopF body keep e = some r := by
  obtain ⟨n, hn⟩ := loopF_some h
  exact loopF_of (n := n + 1) (by simp only [loopN, hb]; exact hn)
/-- A round that leaves. -/
theorem loopF_done {body : Env → Option (AE × Nat × Env)} {keep : List Nat} {e : Env} {r : AE × Nat × Env} (hb : body (trim keep e) = some r) (hr : r.1 ≠ .normal) : loopF body keep e = some r := by
  refine loopF_of (n := 1) ?_
  obtain ⟨x, st, e'⟩ := r
  simp only [loopN, hb]
  cases x with
  | normal => exact absurd rfl hr
  | _ => rfl

/-! ### what an operation yields, whatever comes behind it -/
section
variable {R : Type} {e : Env} {s st : Nat} {r : Option Nat} {res : R} {c : Orc} {dst : Option Nat}
theorem movesOf_nat {xs : List X} {acc : List V} {us : Upd} {k : List V → Upd → Option R} (hk : movesOf st e xs acc us k = some res) :
    ∃ vs us', k vs us' = some res ∧ ∀ {R' : Type} (k' : List V → Upd → Option R'), movesOf st e xs acc us k' = k' vs us' := by
  induction xs generalizing e acc us with
  | nil => exact ⟨_, _, hk, fun _ => rfl⟩
  | cons x xs ih =>
    cases x with
    | m s r =>
      simp only [movesOf] at hk
      obtain ⟨v, us1, h1, _, h3⟩ := takeS_loc hk
      obtain ⟨vs, us', g1, g2⟩ := ih h1
      exact ⟨vs, us', g1, fun k' => by simp only [movesOf]; rw [h3 _ e ⟨rfl, fun _ _ => rfl⟩]; exact g2 k'⟩
    | _ =>
      simp only [movesOf] at hk
      obtain ⟨vs, us', g1, g2⟩ := ih hk
      exact ⟨vs, us', g1, fun k' => by simp only [movesOf]; exact g2 k'⟩
theorem argsOf_nat {xs : List X} {vs : List V} {b : Bool} {acc : List AV} {k : Bool → List AV → Option R} (hk : argsOf e xs vs b acc k = some res) :
    ∃ b' as, k b' as = some res ∧ ∀ {R' : Type} (k' : Bool → List AV → Option R'), argsOf e xs vs b acc k' = k' b' as := by
  induction xs generalizing vs b acc with
  | nil => exact ⟨_, _, hk, fun _ => rfl⟩
  | cons x xs ih =>
    cases x with
    | m s r =>
      cases vs with
      | nil => simp [argsOf] at hk
      | cons v vs =>
        simp only [argsOf] at hk
        obtain ⟨b', as, g1, g2⟩ := ih hk
        exact ⟨b', as, g1, fun k' => by simp only [argsOf]; exact g2 k'⟩
    | c d =>
      simp only [argsOf] at hk
      obtain ⟨b', as, g1, g2⟩ := ih hk
      exact ⟨b', as, g1, fun k' => by simp only [argsOf]; exact g2 k'⟩
    | k d =>
      simp only [argsOf] at hk
      obtain ⟨b', as, g1, g2⟩ := ih hk
      exact ⟨b', as, g1, fun k' => by simp only [argsOf]; exact g2 k'⟩
    | f d =>
      simp only [argsOf] at hk
      obtain ⟨b', as, g1, g2⟩ := ih hk
      exact ⟨b', as, g1, fun k' => by simp only [argsOf]; exact g2 k'⟩
    | t s =>
      simp only [argsOf] at hk
      obtain ⟨b1, a1, h1, h2⟩ := argS_loc hk
      obtain ⟨b', as, g1, g2⟩ := ih h1
      exact ⟨b', as, g1, fun k' => by simp only [argsOf]; rw [h2 _ e ⟨rfl, fun _ _ => rfl⟩]; exact g2 k'⟩
    | a s r =>
      simp only [argsOf] at hk
      obtain ⟨b1, a1, h1, h2⟩ := argS_loc hk
      obtain ⟨b', as, g1, g2⟩ := ih h1
      exact ⟨b', as, g1, fun k' => by simp only [argsOf]; rw [h2 _ e ⟨rfl, fun _ _ => rfl⟩]; exact g2 k'⟩
    | _ => simp [argsOf] at hk
theorem capS_nat {k : List D → Upd → Option R} (hk : capS e s k = some res) : ∃ ds us, k ds us = some res ∧ ∀ {R' : Type} (k' : List D → Upd → Option R'), capS e s k' = k' ds us := by
  unfold capS at hk
  cases hav : Env.get e s with
  | box b ver ds =>
    rw [hav] at hk
    cases hp : plainL ds with
    | true => simp only [hp] at hk; exact ⟨_, _, hk, fun k' => by simp only [capS, hav, hp]⟩
    | false => simp only [hp] at hk; cases hk
  | rp ds => rw [hav] at hk; exact ⟨_, _, hk, fun k' => by simp only [capS, hav]⟩
  | _ => rw [hav] at hk; cases hk
theorem caps_nat {xs : List X} {acc : List (List D)} {us : Upd} {k : List (List D) → Upd → Option R} (hk : caps e xs acc us k = some res) :
    ∃ ds us', k ds us' = some res ∧ ∀ {R' : Type} (k' : List (List D) → Upd → Option R'), caps e xs acc us k' = k' ds us' := by
  induction xs generalizing e acc us with
  | nil => exact ⟨_, _, hk, fun _ => rfl⟩
  | cons x xs ih =>
    cases x with
    | t s =>
      simp only [caps] at hk
      obtain ⟨d, us1, h1, h2⟩ := capS_nat hk
      obtain ⟨ds, us', g1, g2⟩ := ih h1
      exact ⟨ds, us', g1, fun k' => by simp only [caps]; rw [h2]; exact g2 k'⟩
    | _ => simp [caps] at hk
end
end
end Go.Abs
set_option linter.unusedVariables false
set_option linter.unusedSimpArgs false
namespace Go.Abs
open Go

def Lim (c : Nat → Orc) (C : Orc) : Prop := ∀ f a r, C f a = some r → ∃ n, ∀ m, n ≤ m → c m f a = some r

section
variable {glob : Nat → List D} {c : Nat → Orc} {C : Orc}

theorem call_cont (hL : Lim c C) {R : Type} {res : R} {st : Nat} {e : Env} {dst : Option Nat} {f : FuncId} {xs : List X} {cs : List AV} {k : Upd → Option R}
    (hk : (movesOf st e xs [] [] fun vs us => argsOf (Env.app e us) xs vs false [] fun b as => callK (C f (as ++ cs)) b st us dst k) = some res) :
    ∃ us, k us = some res ∧ ∃ n, ∀ m, n ≤ m → ∀ {R' : Type} (k' : Upd → Option R'), (movesOf st e xs [] [] fun vs us => argsOf (Env.app e us) xs vs false [] fun b as => callK (c m f (as ++ cs)) b st us dst k') = k' us := by
  obtain ⟨vs, us, h1, h2⟩ := movesOf_nat hk
  obtain ⟨b, as, h3, h4⟩ := argsOf_nat h1
  obtain ⟨av, h5, h6⟩ := callK_loc h3
  cases hr : C f (as ++ cs) with
  | none => rw [hr] at h3; cases h3
  | some r =>
    obtain ⟨n, hn⟩ := hL f _ r hr
    refine ⟨_, h5, n, fun m hm R' k' => ?_⟩
    rw [h2, h4, hn m hm, ← hr]
    exact h6 k'
theorem opK_cont (hL : Lim c C) {R : Type} {res : R} {st : Nat} {e : Env} {dst : Option Nat} {o : AOp} {k : Upd → Option R} (hk : opK C glob st dst o e k = some res) :
    ∃ us, k us = some res ∧ ∃ n, ∀ m, n ≤ m → ∀ {R' : Type} (k' : Upd → Option R'), opK (c m) glob st dst o e k' = k' us := by
  have free : ∀ (hf : opFree o = true), (∀ m {R' : Type} (k' : Upd → Option R'), opK (c m) glob st dst o e k' = opK C glob st dst o e k') →
      ∃ us, k us = some res ∧ ∃ n, ∀ m, n ≤ m → ∀ {R' : Type} (k' : Upd → Option R'), opK (c m) glob st dst o e k' = k' us := by
    intro hf hsame
    obtain ⟨us, h1, _, h3⟩ := opK_loc hf hk
    exact ⟨us, h1, 0, fun m _ R' k' => (hsame m k').trans (h3 k' e ⟨rfl, fun _ _ => rfl⟩)⟩
  cases o with
  | call f as =>
    have := call_cont (c := c) (C := C) (cs := []) hL (st := st) (e := e) (dst := dst) (f := f) (xs := as) (k := k) (res := res) (by simpa only [List.append_nil, opK] using hk)
    simpa only [List.append_nil, opK] using this
  | callv x as =>
    have main : ∀ s, callvS C e st s dst as k = some res → ∃ us, k us = some res ∧ ∃ n, ∀ m, n ≤ m → ∀ {R' : Type} (k' : Upd → Option R'), callvS (c m) e st s dst as k' = k' us := by
      intro s hk
      unfold callvS at hk
      cases hav : Env.get e s with
      | clo f cs =>
        rw [hav] at hk
        obtain ⟨us, h1, n, h2⟩ := call_cont (c := c) (C := C) hL hk
        exact ⟨us, h1, n, fun m hm R' k' => by simp only [callvS, hav]; exact h2 m hm k'⟩
      | _ => rw [hav] at hk; cases hk
    cases x with
    | t s => exact main s hk
    | a s r => exact main s hk
    | _ => cases hk
  | calli f s r as =>
    simp only [opK] at hk ⊢
    obtain ⟨V, mid, back, g1, g3⟩ := lendS_loc hk
    obtain ⟨b, xs, h1, h2⟩ := argsOf_nat g1
    obtain ⟨us, h3, _, h4⟩ := calliK_loc h1
    cases hr : C f (.val V :: xs) with
    | none => rw [hr] at h1; simp [calliK] at h1
    | some y =>
      obtain ⟨n, hn⟩ := hL f _ y hr
      refine ⟨us, h3, n, fun m hm R' k' => ?_⟩
      rw [g3 _ e ⟨rfl, fun _ _ => rfl⟩, h2, hn m hm, ← hr]
      exact h4 k'
  | mkf f xs =>
    simp only [opK] at hk ⊢
    obtain ⟨ds, us, h1, h2⟩ := caps_nat hk
    exact ⟨_, h1, 0, fun m _ R' k' => h2 _⟩
  | _ => exact free rfl fun m R' k' => rfl

theorem gstep_cont (hL : Lim c C) {R : Type} {res : R} {st : Nat} {e : Env} {o : AOper} {k : Env → Option R} (hk : gstep C glob st o e k = some res) :
    ∃ e', k e' = some res ∧ ∃ n, ∀ m, n ≤ m → ∀ {R' : Type} (k' : Env → Option R'), gstep (c m) glob st o e k' = k' e' := by
  have run : ∀ hk : (opK C glob st o.dst o.op e fun us => k (e.app us)) = some res, ∃ e', k e' = some res ∧ ∃ n, ∀ m, n ≤ m → ∀ {R' : Type} (k' : Env → Option R'), (opK (c m) glob st o.dst o.op e fun us => k' (e.app us)) = k' e' := by
    intro hk
    obtain ⟨us, h1, n, h2⟩ := opK_cont hL hk
    exact ⟨_, h1, n, fun m hm R' k' => h2 m hm _⟩
  unfold gstep at hk ⊢
  cases hg : o.guard with
  | none => rw [hg] at hk; exact run hk
  | some p =>
    obtain ⟨t, b⟩ := p
    rw [hg] at hk
    simp only at hk ⊢
    cases hav : Env.get e t with
    | val v =>
      rw [hav] at hk
      cases v with
      | agg ds => cases hk
      | one d => cases d with
        | bool v =>
          simp only at hk ⊢
          by_cases hv : v = b
          · rw [if_pos hv] at hk
            simp only [if_pos hv]
            exact run hk
          · rw [if_neg hv] at hk
            simp only [if_neg hv]
            exact ⟨_, hk, 0, fun m _ R' k' => rfl⟩
        | _ => cases hk
    | undef => rw [hav] at hk; exact ⟨_, hk, 0, fun m _ R' k' => rfl⟩
    | _ => rw [hav] at hk; cases hk
theorem evalOps_cont (hL : Lim c C) {R : Type} {res : R} {k : Nat → Env → Option R} : ∀ {os : List AOper} {st : Nat} {e : Env}, evalOps C glob st os e k = some res →
    ∃ st' e', k st' e' = some res ∧ ∃ n, ∀ m, n ≤ m → ∀ {R' : Type} (k' : Nat → Env → Option R'), evalOps (c m) glob st os e k' = k' st' e'
  | [], st, e, h => ⟨st, e, h, 0, fun m _ R' k' => rfl⟩
  | o :: os, st, e, h => by
    rw [evalOps_cons] at h
    obtain ⟨e1, h1, n1, h2⟩ := gstep_cont (c := c) hL h
    obtain ⟨st', e', g1, n2, g2⟩ := evalOps_cont hL h1
    refine ⟨st', e', g1, max n1 n2, fun m hm R' k' => ?_⟩
    rw [evalOps_cons, h2 m (Nat.le_trans (Nat.le_max_left ..) hm)]
    exact g2 m (Nat.le_trans (Nat.le_max_right ..) hm) k'

/-- What comes behind, met from below. -/
def KLim {R : Type} (k : Nat → AE → Nat → Env → Option R) (K : AE → Nat → Env → Option R) : Prop := ∀ x st e r, K x st e = some r → ∃ n, ∀ m, n ≤ m → k m x st e = some r
theorem exec_cont (hL : Lim c C) (ac : AC) : ∀ {R : Type} {res : R} {st : Nat} {e : Env} {K : AE → Nat → Env → Option R} {k : Nat → AE → Nat → Env → Option R}, KLim k K → exec C glob st ac e K = some res →
    ∃ n, ∀ m, n ≤ m → exec (c m) glob st ac e (k m) = some res := by
  induction ac with
  | skip => intro R res st e K k hk h; exact hk _ _ _ _ h
  | ret => intro R res st e K k hk h; exact hk _ _ _ _ h
  | exit i => intro R res st e K k hk h; exact hk _ _ _ _ h
  | reg aos =>
    intro R res st e K k hk h
    obtain ⟨st', e', h1, n1, h2⟩ := evalOps_cont (c := c) hL (by simpa only [exec] using h)
    obtain ⟨n2, h3⟩ := hk _ _ _ _ h1
    exact ⟨max n1 n2, fun m hm => by simp only [exec]; rw [h2 m (Nat.le_trans (Nat.le_max_left ..) hm)]; exact h3 m (Nat.le_trans (Nat.le_max_right ..) hm)⟩
  | seq a b iha ihb =>
    intro R res st e K k hk h
    simp only [exec] at h ⊢
    refine iha (fun x st1 e1 r h1 => ?_) h
    cases x with
    | normal => exact ihb hk h1
    | exit i => exact hk _ _ _ _ h1
    | ret => exact hk _ _ _ _ h1
  | cond x a b iha ihb =>
    intro R res st e K k hk h
    simp only [exec] at h ⊢
    obtain ⟨t, h1, h2⟩ := peekBool_loc h
    have h2' : ∀ {R' : Type} (k' : Bool → Option R'), peekBool e x k' = k' t := fun k' => h2 k' e ⟨rfl, fun _ _ => rfl⟩
    cases t with
    | true =>
      simp only [if_true] at h1
      obtain ⟨n, g⟩ := iha hk h1
      exact ⟨n, fun m hm => by rw [h2']; simp only [if_true]; exact g m hm⟩
    | false =>
      simp at h1
      obtain ⟨n, g⟩ := ihb hk h1
      exact ⟨n, fun m hm => by rw [h2']; simp; exact g m hm⟩
  | condn s a b iha ihb =>
    intro R res st e K k hk h
    simp only [exec] at h ⊢
    cases hav : Env.get e s with
    | someb =>
      rw [hav] at h
      simp only at h ⊢
      unfold bothK at h ⊢
      split at h
      · rename_i hab
        obtain ⟨n1, g1⟩ := iha hk h
        obtain ⟨n2, g2⟩ := ihb hk (hab ▸ h)
        refine ⟨max n1 n2, fun m hm => ?_⟩
        rw [g1 m (Nat.le_trans (Nat.le_max_left ..) hm), g2 m (Nat.le_trans (Nat.le_max_right ..) hm), if_pos rfl]
      · cases h
    | val v =>
      rw [hav] at h
      cases v with
      | agg ds => cases h
      | one d => cases d with
        | bool t =>
          simp only at h ⊢
          cases t with
          | true => simp only [if_true] at h ⊢; exact iha hk h
          | false => simp at h ⊢; exact ihb hk h
        | _ => cases h
    | _ => rw [hav] at h; cases h
  | block i a ih =>
    intro R res st e K k hk h
    simp only [exec] at h ⊢
    refine ih (fun x st1 e1 r h1 => ?_) h
    cases x with
    | normal => exact hk _ _ _ _ h1
    | exit j =>
      simp only at h1 ⊢
      split at h1
      · rename_i hj; simp only [if_pos hj]; exact hk _ _ _ _ h1
      · rename_i hj; simp only [if_neg hj]; exact hk _ _ _ _ h1
    | ret => exact hk _ _ _ _ h1
  | loop keep out a ih =>
    intro R res st e K k hk h
    simp only [exec] at h
    unfold loopK at h
    split at h
    · rename_i r hr
      obtain ⟨N, hN⟩ := loopF_some hr
      have key : ∀ (N : Nat) (e : Env), loopN (fun e => exec C glob 1 a e fun x st' e' => some (x, st', e')) keep N e = some r → ∃ n, ∀ m, n ≤ m → loopN (fun e => exec (c m) glob 1 a e fun x st' e' => some (x, st', e')) keep N e = some r := by
        intro N
        induction N with
        | zero => intro e h; cases h
        | succ N ihN =>
          intro e h
          simp only [loopN] at h
          cases hb : exec C glob 1 a (trim keep e) fun x st' e' => some (x, st', e') with
          | none => rw [hb] at h; cases h
          | some p =>
            obtain ⟨n1, h2⟩ := ih (k := fun _ x st' e' => some (x, st', e')) (fun x st e r h => ⟨0, fun _ _ => h⟩) hb
            rw [hb] at h
            obtain ⟨x, st', e'⟩ := p
            cases x with
            | normal =>
              obtain ⟨n2, h3⟩ := ihN e' h
              refine ⟨max n1 n2, fun m hm => ?_⟩
              simp only [loopN]
              rw [h2 m (Nat.le_trans (Nat.le_max_left ..) hm)]
              exact h3 m (Nat.le_trans (Nat.le_max_right ..) hm)
            | exit i => exact ⟨n1, fun m hm => by simp only [loopN]; rw [h2 m hm]; exact h⟩
            | ret => exact ⟨n1, fun m hm => by simp only [loopN]; rw [h2 m hm]; exact h⟩
      obtain ⟨n1, hn⟩ := key N e hN
      obtain ⟨n2, h3⟩ := hk _ _ _ _ h
      exact ⟨max n1 n2, fun m hm => by simp only [exec]; rw [loopF_of (hn m (Nat.le_trans (Nat.le_max_left ..) hm))]; exact h3 m (Nat.le_trans (Nat.le_max_right ..) hm)⟩
    · cases h

theorem runF_cont (hL : Lim c C) {x : AFn} {args : List AV} {r : AV} (h : runF C glob x args = some r) : ∃ n, ∀ m, n ≤ m → runF (c m) glob x args = some r := by
  unfold runF at h ⊢
  split at h
  · rename_i hl
    obtain ⟨n, h2⟩ := exec_cont (c := c) hL x.body (k := fun _ x _ e => match x with | .normal => finish _ e | .ret => finish _ e | _ => none) (fun x st e r h => ⟨0, fun _ _ => h⟩) h
    refine ⟨n, fun m hm => ?_⟩
    rw [if_pos hl]
    exact h2 m hm
  · cases h
end

section
variable {glob : Nat → List D} {prog : FuncId → Option AFn} {hand : FuncId → Option (List AV → Option AV)}
theorem callN_succ : ∀ (n : Nat) (f : FuncId) (args : List AV) (r : AV), callN prog hand glob n f args = some r → callN prog hand glob (n + 1) f args = some r
  | 0, f, args, r, h => by cases h
  | n + 1, f, args, r, h => by
    rw [callN] at h ⊢
    cases hf : hand f with
    | some g => rw [hf] at h; exact h
    | none =>
      rw [hf] at h
      cases hx : prog f with
      | none => rw [hx] at h; cases h
      | some x =>
        rw [hx] at h
        obtain ⟨k, hk⟩ := runF_cont (c := fun _ => callN prog hand glob (n + 1)) (C := callN prog hand glob n) (fun f a r h => ⟨0, fun _ _ => callN_succ n f a r h⟩) h
        exact hk k (Nat.le_refl _)
theorem callN_mono {n m : Nat} (hnm : n ≤ m) {f : FuncId} {args : List AV} {r : AV} (h : callN prog hand glob n f args = some r) : callN prog hand glob m f args = some r := by
  obtain ⟨d, rfl⟩ := Nat.exists_eq_add_of_le hnm
  induction d with
  | zero => exact h
  | succ d ih => exact callN_succ (n + d) f args r (ih (by omega))
theorem callF_of {n : Nat} {f : FuncId} {args : List AV} {r : AV} (h : callN prog hand glob n f args = some r) : callF prog hand glob f args = some r := by
  have hex : ∃ n r, callN prog hand glob n f args = some r := ⟨n, r, h⟩
  unfold callF
  rw [dif_pos hex]
  obtain ⟨r', hr'⟩ := hex.choose_spec
  have h1 := callN_mono (Nat.le_max_left hex.choose n) hr'
  have h2 := callN_mono (Nat.le_max_right hex.choose n) h
  rw [h1] at h2
  rw [hr', h2]
theorem callF_lim : Lim (callN prog hand glob) (callF prog hand glob) := by
  intro f a r h
  unfold callF at h
  split at h
  · exact ⟨_, fun m hm => callN_mono hm h⟩
  · cases h
/-- A call of a function whose code is told. -/
theorem callF_eq {f : FuncId} {x : AFn} {args : List AV} {r : AV} (hh : hand f = none) (hx : prog f = some x) (h : runF (callF prog hand glob) glob x args = some r) : callF prog hand glob f args = some r := by
  obtain ⟨n, hn⟩ := runF_cont (c := callN prog hand glob) callF_lim h
  exact callF_of (n := n + 1) (by rw [callN, hh, hx]; exact hn n (Nat.le_refl _))
theorem callF_hand {f : FuncId} {g : List AV → Option AV} {args : List AV} {r : AV} (hh : hand f = some g) (h : g args = some r) : callF prog hand glob f args = some r :=
  callF_of (n := 1) (by rw [callN, hh]; exact h)
end
end Go.Abs
set_option linter.unusedSimpArgs false
namespace Go.Abs
open Go
/-- The machine behind a curtain: the kernel does not run it while it looks at a proof. -/
structure Mach where
  ops : ∀ {R : Type}, Orc → (Nat → List D) → Nat → List AOper → Env → (Nat → Env → Option R) → Option R
  op : ∀ {R : Type}, Orc → (Nat → List D) → Nat → Option Nat → AOp → Env → (Upd → Option R) → Option R
  ex : ∀ {R : Type}, Orc → (Nat → List D) → Nat → AC → Env → (AE → Nat → Env → Option R) → Option R
noncomputable def realMach : Mach := ⟨fun c g st l e k => evalOps c g st l e k, fun c g st d o e k => opK c g st d o e k, fun c g st a e k => exec c g st a e k⟩
theorem mach_is : ∃ m : Mach, m = realMach := ⟨_, rfl⟩
noncomputable def mach : Mach := Classical.choose mach_is
theorem mach_eq : mach = realMach := Classical.choose_spec mach_is
noncomputable def xOps {R : Type} (c : Orc) (g : Nat → List D) (st : Nat) (l : List AOper) (e : Env) (k : Nat → Env → Option R) : Option R := mach.ops c g st l e k
noncomputable def xOp {R : Type} (c : Orc) (g : Nat → List D) (st : Nat) (d : Option Nat) (o : AOp) (e : Env) (k : Upd → Option R) : Option R := mach.op c g st d o e k
noncomputable def xEx {R : Type} (c : Orc) (g : Nat → List D) (st : Nat) (a : AC) (e : Env) (k : AE → Nat → Env → Option R) : Option R := mach.ex c g st a e k
theorem xOps_eq {R : Type} (c : Orc) (g : Nat → List D) (st : Nat) (l : List AOper) (e : Env) (k : Nat → Env → Option R) : xOps c g st l e k = evalOps c g st l e k := by
  unfold xOps; rw [mach_eq]; rfl
theorem xOp_eq {R : Type} (c : Orc) (g : Nat → List D) (st : Nat) (d : Option Nat) (o : AOp) (e : Env) (k : Upd → Option R) : xOp c g st d o e k = opK c g st d o e k := by
  unfold xOp; rw [mach_eq]; rfl
theorem xEx_eq {R : Type} (c : Orc) (g : Nat → List D) (st : Nat) (a : AC) (e : Env) (k : AE → Nat → Env → Option R) : xEx c g st a e k = exec c g st a e k := by
  unfold xEx; rw [mach_eq]; rfl
section
variable {R α : Type} {c : Orc} {g : Nat → List D} {v : AV} {e : Env} {st : Nat}
theorem onSome_some (a : α) (k : α → Option R) : onSome (some a) k = k a := rfl
theorem onSome_none (k : α → Option R) : onSome none k = none := rfl
theorem rowK_some (row : List D) (d : Option Nat) (k : Upd → Option R) : rowK (some row) d k = k (outU [] d (.rp row)) := rfl
theorem rowK_none (d : Option Nat) (k : Upd → Option R) : rowK none d k = none := rfl
theorem byteK_some (b : UInt8) (d : Option Nat) (k : Upd → Option R) : byteK (some b) d k = k (outU [] d (.val (.one (.int .u8 b.toNat)))) := rfl
theorem isIO_val (v : V) : isIO (.val v) = false := by simp only [isIO]
theorem isIO_tup (v : V) (l : List (Option V)) : isIO (.tup (some v :: l)) = false := by simp only [isIO]
theorem callK_lent (r : AV) (us : Upd) (d : Option Nat) (k : Upd → Option R) (h : isIO r = false) : callK (some r) true st us d k = if r.safe = true then k (outU us d (r.stamp st)) else none := by simp only [callK, h]
theorem callK_some (r : AV) (us : Upd) (d : Option Nat) (k : Upd → Option R) (h : isIO r = false) : callK (some r) false st us d k = k (outU us d (r.stamp st)) := by simp only [callK, h]
theorem rowWriteK_some (row : List D) (o : Nat) (ds : List D) (k : List D → Option R) :
    rowWriteK (some row) o ds k = if o + ds.length ≤ row.length then k (row.take o ++ ds ++ row.drop (o + ds.length)) else none := rfl
theorem rowReadK_some (row : List D) (a : Bool) (n o : Nat) (own : AV) (k : AV → Option R) : rowReadK (some row) a n o own k = readV a n (row.drop o) own .dead k := rfl
theorem rowLendK_some (st e i o : Nat) (rows : List (List D)) (row : List D) (k : V → AV → (V → Option AV) → Option R) : rowLendK st e i o rows (some row) k = match row[o]? with
    | some (.list true w inner) => k (.one (.list true w inner)) (.own st e (rows.set i (row.set o .gone))) (rowBack st e w i o rows row)
    | _ => none := rfl
theorem rowTakeK_some (row : List D) (o t : Nat) (k : V → Upd → Option R) : rowTakeK (some row) o t k = match row[o]? with
    | some (.list true w inner) => k (.one (.list true w inner)) [(t, .dead)]
    | _ => none := rfl
theorem loopK_some (x : AE) (n : Nat) (e : Env) (k : AE → Nat → Env → Option R) : loopK (some (x, n, e)) k = k x n e := rfl
theorem ops_nil (k : Nat → Env → Option R) : xOps c g st [] e k = k st e := by
  simp only [xOps_eq, xOp_eq, xEx_eq]; rfl
theorem ops_cons (d : Option Nat) (o : AOp) (os : List AOper) (k : Nat → Env → Option R) :
    xOps c g st (⟨d, none, o⟩ :: os) (v :: e) k = xOp c g st d o (v :: e) fun us => xOps c g (st + 1) os (Env.app (v :: e) us) k := by
  simp only [xOps_eq, xOp_eq, xEx_eq]; rfl
theorem ops_guard (d : Option Nat) (t : Nat) (b : Bool) (o : AOp) (os : List AOper) (k : Nat → Env → Option R) :
    xOps c g st (⟨d, some (t, b), o⟩ :: os) (v :: e) k = match Env.get (v :: e) t with
      | .val (.one (.bool u)) => match b with
        | true => if u = true then xOp c g st d o (Env.upd (v :: e) t (.val (.one (.bool true)))) fun us => xOps c g (st + 1) os (Env.app (Env.upd (v :: e) t (.val (.one (.bool true)))) us) k
          else xOps c g (st + 1) os (Env.app (Env.upd (v :: e) t (.val (.one (.bool false)))) (outU [] d .undef)) k
        | false => if u = true then xOps c g (st + 1) os (Env.app (Env.upd (v :: e) t (.val (.one (.bool true)))) (outU [] d .undef)) k
          else xOp c g st d o (Env.upd (v :: e) t (.val (.one (.bool false)))) fun us => xOps c g (st + 1) os (Env.app (Env.upd (v :: e) t (.val (.one (.bool false)))) us) k
      | .undef => xOps c g (st + 1) os (Env.app (v :: e) (outU [] d .undef)) k
      | _ => none := by
  simp only [xOps_eq, xOp_eq, xEx_eq]; rfl
theorem op_cons (d : Option Nat) (o : AOp) (k : Upd → Option R) : xOp c g st d o (v :: e) k = opK c g st d o (v :: e) k := by
  simp only [xOps_eq, xOp_eq, xEx_eq]
theorem exec_skip (k : AE → Nat → Env → Option R) : xEx c g st .skip e k = k .normal st e := by
  simp only [xOps_eq, xOp_eq, xEx_eq]; rfl
theorem exec_ret (k : AE → Nat → Env → Option R) : xEx c g st .ret e k = k .ret st e := by
  simp only [xOps_eq, xOp_eq, xEx_eq]; rfl
theorem exec_exit (i : Nat) (k : AE → Nat → Env → Option R) : xEx c g st (.exit i) e k = k (.exit i) st e := by
  simp only [xOps_eq, xOp_eq, xEx_eq]; rfl
theorem exec_reg (ops : List AOper) (k : AE → Nat → Env → Option R) : xEx c g st (.reg ops) (v :: e) k = xOps c g st ops (v :: e) (k .normal) := by
  simp only [xOps_eq, xOp_eq, xEx_eq]; rfl
theorem exec_seq (a b : AC) (k : AE → Nat → Env → Option R) : xEx c g st (.seq a b) (v :: e) k = xEx c g st a (v :: e) fun x st' e' => match x with
    | .normal => xEx c g st' b e' k
    | x => k x st' e' := by
  simp only [xOps_eq, xOp_eq, xEx_eq]; rfl
theorem exec_cond (x : X) (a b : AC) (k : AE → Nat → Env → Option R) : xEx c g st (.cond x a b) (v :: e) k = peekBool (v :: e) x fun t => if t = true then xEx c g st a (v :: e) k else xEx c g st b (v :: e) k := by
  simp only [xOps_eq, xOp_eq, xEx_eq]; rfl
theorem exec_condn (s : Nat) (a b : AC) (k : AE → Nat → Env → Option R) : xEx c g st (.condn s a b) (v :: e) k = match Env.get (v :: e) s with
    | .someb => bothK (xEx c g st a (v :: e) k) (xEx c g st b (v :: e) k)
    | .val (.one (.bool t)) => if t = true then xEx c g st a (v :: e) k else xEx c g st b (v :: e) k
    | _ => none := by
  simp only [xOps_eq, xOp_eq, xEx_eq]; rfl
theorem bothK_same (a : Option R) : bothK a a = a := by unfold bothK; rw [if_pos rfl]
theorem exec_block (i : Nat) (a : AC) (k : AE → Nat → Env → Option R) : xEx c g st (.block i a) (v :: e) k = xEx c g st a (v :: e) fun x st' e' => match x with
    | .exit j => if j = i then k .normal st' e' else k (.exit j) st' e'
    | x => k x st' e' := by
  simp only [xOps_eq, xOp_eq, xEx_eq]; rfl
/-- Behind a loop. -/
def loopE {R : Type} (o : Option (AE × Nat × Env)) (out : List Nat) (k : AE → Nat → Env → Option R) : Option R := loopK o fun x st' e' => k x (st' + 1) (trim out e')
@[congr] theorem loopE_congr {R : Type} {o o' : Option (AE × Nat × Env)} (out : List Nat) (k : AE → Nat → Env → Option R) (h : o = o') : loopE o out k = loopE o' out k := by rw [h]
/-- A loop's round. -/
noncomputable def bodyF (c : Orc) (g : Nat → List D) (a : AC) (e : Env) : Option (AE × Nat × Env) := xEx c g 1 a e fun x st' e' => some (x, st', e')
theorem exec_loop (keep out : List Nat) (a : AC) (k : AE → Nat → Env → Option R) : xEx c g st (.loop keep out a) (v :: e) k = loopE (loopF (bodyF c g a) keep (v :: e)) out k := by
  unfold bodyF loopE; simp only [xOps_eq, xOp_eq, xEx_eq]; rfl
noncomputable def xRun (c : Orc) (glob : Nat → List D) (fn : AFn) (args : List AV) : Option AV :=
  if args.length = fn.params then
    xEx c glob 1 fn.body (args.map (AV.stamp 0) ++ List.replicate (fn.ntmps - fn.params) .undef) fun x _ e => match x with
      | .normal => finish fn.results e
      | .ret => finish fn.results e
      | _ => none
  else none
theorem runF_eq : runF = xRun := by
  funext c glob fn args
  unfold runF xRun
  rw [xEx_eq]
  rfl
end
/-! Where a run waits for a fact, what comes behind is not looked into. (`nrfl`: a step that is not by computation alone; else the congruences do not fire.) -/
theorem nrfl {α : Sort _} {a b : α} (h : a = b) : a = b := h
theorem ownAt_n (L : Env) (t id : Nat) : ownAt L t none id = (match Env.get L t with | .own id' e rows => if id' = id then some (e, rows) else none | _ => none) := nrfl rfl
theorem ownAt_s (L : Env) (t j id : Nat) : ownAt L t (some j) id = (match Env.get L t with | .box _ ver ds => if ver = id then (match ds[j]? with | some (.list true e rows) => some (e, rows) | _ => none) else none | _ => none) := nrfl rfl
theorem ownBack_l (st e e' : Nat) (rows : List (List D)) : ownBack st e (.one (.list true e' rows)) = if e' = e then some (.own st e rows) else none := nrfl rfl
theorem cellBack_l (b ver j e e' : Nat) (ds : List D) (rows : List (List D)) : cellBack b ver j e ds (.one (.list true e' rows)) = if e' = e then some (.box b ver (ds.set j (.list true e rows))) else none := nrfl rfl
theorem rowBack_l (st e w w' i o : Nat) (rows inner : List (List D)) (row : List D) : rowBack st e w i o rows row (.one (.list true w' inner)) = if w' = w then some (.own st e (rows.set i (row.set o (.list true w inner)))) else none := nrfl rfl
theorem partBack_a (b ver off n : Nat) (ds ds' : List D) : partBack b ver off n ds (.agg ds') = if ds'.length = n ∧ sameW ((ds.drop off).take n) ds' = true then some (.box b ver (ds.take off ++ ds' ++ ds.drop (off + n))) else none := nrfl rfl
theorem boxBack_a (b ver : Nat) (ds ds' : List D) : boxBack b ver ds (.agg ds') = if sameW ds ds' = true then some (.box b ver ds') else none := nrfl rfl
theorem fillCells_n (z : List D) : fillCells z [] [] = some z := nrfl rfl
theorem fillCells_c (z : List D) (off n : Nat) (ps : List (Nat × Nat)) (v : V) (vs : List V) : fillCells z ((off, n) :: ps) (v :: vs) = if v.cells.length = n ∧ off + n ≤ z.length then fillCells (z.take off ++ v.cells ++ z.drop (off + n)) ps vs else none := nrfl rfl
@[congr] theorem onSome_congr {R α : Type} {o o' : Option α} (k : α → Option R) (h : o = o') : onSome o k = onSome o' k := by rw [h]
@[congr] theorem rowWriteK_congr {R : Type} {a a' : Option (List D)} (o : Nat) (ds : List D) (k : List D → Option R) (h : a = a') : rowWriteK a o ds k = rowWriteK a' o ds k := by rw [h]
@[congr] theorem rowReadK_congr {R : Type} {a a' : Option (List D)} (b : Bool) (n o : Nat) (own : AV) (k : AV → Option R) (h : a = a') : rowReadK a b n o own k = rowReadK a' b n o own k := by rw [h]
@[congr] theorem rowLendK_congr {R : Type} {a a' : Option (List D)} (st e i o : Nat) (rows : List (List D)) (k : V → AV → (V → Option AV) → Option R) (h : a = a') : rowLendK st e i o rows a k = rowLendK st e i o rows a' k := by rw [h]
@[congr] theorem rowTakeK_congr {R : Type} {a a' : Option (List D)} (o t : Nat) (k : V → Upd → Option R) (h : a = a') : rowTakeK a o t k = rowTakeK a' o t k := by rw [h]
attribute [simp] frkS eqsK eqInts peekO lenV subK ssubK sizeV errK mrfS mapS fillCells_n fillCells_c ownAt_n ownAt_s ownBack_l cellBack_l rowBack_l partBack_a boxBack_a cellV rowLendK_some isIO_val isIO_tup sameW lendS V.stale rowTakeK_some mmI ovAV ovSafe calliK onSome_some onSome_none rowK_some rowK_none byteK_some callK_lent callK_some rowWriteK_some rowReadK_some loopK_some ops_nil ops_cons ops_guard op_cons exec_skip exec_ret exec_exit exec_reg exec_seq exec_cond exec_condn bothK_same exec_block exec_loop
  opK nilV take takeS takes outU Env.app Env.get Env.upd AV.ofV AV.stamp peek peekS intS boolS peekBool peekInt binV beqV slenV binInt unV finish ioOf finPlain finIO resOf resAll readAt readS readV lenOf lenS argsOf movesOf argS plainL V.cells D.stale staleL staleLL writeAt writeS rowsOf V.ofCells repl AV.safe safeT V.safe D.safe safeL safeLL iaddrS offS offX mvS rfS extractS extractP flatD capS caps strAt fieldV callvS appendV
end Go.Abs
set_option linter.unusedVariables false
namespace Go.Abs
open Go
def okCodes (P : Program) (l : List (Nat × AFn)) : Bool := l.all fun p => match P.funcs[p.1]? with
  | some fn => okFn P fn p.2
  | none => false
theorem progOK_of {P : Program} {prog : FuncId → Option AFn} {l : List (Nat × AFn)} (h : okCodes P l = true) (hp : ∀ f x, prog f = some x → (f, x) ∈ l) : ProgOK P prog := by
  intro f x hx
  have := List.all_eq_true.1 h _ (hp f x hx)
  simp only at this
  split at this
  · exact ⟨_, ‹_›, this⟩
  · cases this
/-- A call of a function, told by its code. -/
theorem call_of {glob : Nat → List D} {prog : FuncId → Option AFn} {hand : FuncId → Option (List AV → Option AV)} {f : FuncId} {x : AFn} {args : List AV} {r : AV} (hh : hand f = none) (hx : prog f = some x)
    (h : xRun (callF prog hand glob) glob x args = some r) : callF prog hand glob f args = some r := callF_eq hh hx (by rw [runF_eq]; exact h)
end Go.Abs
set_option linter.unusedVariables false
namespace Go.Abs
open Go
/-- The loop comes to its end in a frame that Q holds of. -/
def LoopTo (body : Env → Option (AE × Nat × Env)) (keep out : List Nat) (e : Env) (Q : AE → Env → Prop) : Prop := ∃ x st e', loopF body keep e = some (x, st, e') ∧ Q x (trim out e')
/-- Behind a round. -/
def Round (o : Option (AE × Nat × Env)) (N : Env → Prop) (E : AE → Env → Prop) : Prop :=
  match o with
  | some (.normal, _, e) => N e
  | some (x, _, e) => E x e
  | none => False
@[simp] theorem Round_normal (st : Nat) (e : Env) (N : Env → Prop) (E : AE → Env → Prop) : Round (some (.normal, st, e)) N E = N e := rfl
@[simp] theorem Round_exit (i st : Nat) (e : Env) (N : Env → Prop) (E : AE → Env → Prop) : Round (some (.exit i, st, e)) N E = E (.exit i) e := rfl
@[simp] theorem Round_ret (st : Nat) (e : Env) (N : Env → Prop) (E : AE → Env → Prop) : Round (some (.ret, st, e)) N E = E .ret e := rfl
theorem LoopTo.step {body : Env → Option (AE × Nat × Env)} {keep out : List Nat} {e : Env} {Q : AE → Env → Prop} (h : Round (body (trim keep e)) (fun e' => LoopTo body keep out e' Q) fun x e' => Q x (trim out e')) : LoopTo body keep out e Q := by
  cases hb : body (trim keep e) with
  | none => rw [hb] at h; exact h.elim
  | some p =>
    obtain ⟨x, st, e'⟩ := p
    rw [hb] at h
    cases x with
    | normal =>
      obtain ⟨x, st', e2, h1, h2⟩ := h
      exact ⟨x, st', e2, loopF_next hb h1, h2⟩
    | exit i => exact ⟨_, _, _, loopF_done hb (by simp), h⟩
    | ret => exact ⟨_, _, _, loopF_done hb (by simp), h⟩
/-- The same, with what a round must hand on behind a variable. -/
theorem LoopTo.round {body : Env → Option (AE × Nat × Env)} {keep out : List Nat} {e e0 : Env} {Q : AE → Env → Prop} (he : trim keep e = e0) (h : ∀ N : Env → Prop, (∀ e', LoopTo body keep out e' Q → N e') → Round (body e0) N fun x e' => Q x (trim out e')) : LoopTo body keep out e Q :=
  .step (by rw [he]; exact h _ fun _ h => h)
theorem LoopTo.use {R : Type} {res : R} {body : Env → Option (AE × Nat × Env)} {keep out : List Nat} {e : Env} {Q : AE → Env → Prop} {k : AE → Nat → Env → Option R} (h : LoopTo body keep out e Q) (hk : ∀ x st e', Q x e' → k x (st + 1) e' = some res) :
    loopE (loopF body keep e) out k = some res := by
  obtain ⟨x, st, e', h1, h2⟩ := h
  unfold loopE
  rw [h1]
  exact hk x st _ h2
end Go.Abs
set_option linter.unusedVariables false
set_option linter.unusedSimpArgs false
namespace Go.Abs
open Go Go.RowKit

theorem Fr.of_below {w w' : World} {mine : Nat → Prop} (h : Below w.heap.size w w') : Fr mine w w' := ⟨h.os, h.tape, h.output, h.size, fun k hk _ => h.block k hk⟩
/-- strconv.Itoa. -/
def hItoa (args : List AV) : Option AV := match args with
  | [.val (.one (.int .i64 n))] => if -9223372036854775808 ≤ n ∧ n ≤ 9223372036854775807 then some (.val (.one (.str ⟨(Lib.itoa n).toArray⟩))) else none
  | _ => none
/-- The texts of a list. -/
def strsOf : List (List D) → Option (List ByteArray)
  | [] => some []
  | [.str s] :: l => match strsOf l with
    | some r => some (s :: r)
    | none => none
  | _ :: _ => none
/-- strings.Join. -/
def hJoin (args : List AV) : Option AV := match args with
  | [.val (.one (.list false 1 rows)), .val (.one (.str sep))] => match strsOf rows with
    | some xs => if xs.length ≤ 140737488355328 ∧ (Lib.join (xs.map (·.data.toList)) sep.data.toList).length ≤ 140737488355328 then some (.val (.one (.str ⟨(Lib.join (xs.map (·.data.toList)) sep.data.toList).toArray⟩))) else none
    | none => none
  | _ => none

section
variable {P : Program} {f : FuncId} {glob : Nat → List D}
theorem ArgsR.cons_inv {ok : Nat → Prop} {w : World} {vs : List Value} {a : AV} {as : List AV} {Bs : List Nat} (h : ArgsR ok w vs (a :: as) Bs) :
    ∃ v vs' B1 B2, vs = v :: vs' ∧ Bs = B1 ++ B2 ∧ AvR ok w v a B1 ∧ ArgsR ok w vs' as B2 ∧ ∀ b ∈ B1, b ∉ B2 := by
  cases h with
  | cons v a vs as B1 B2 ha h1 h2 hd => exact ⟨v, vs, B1, B2, rfl, rfl, h1, h2, hd⟩
theorem ArgsR.nil_inv {ok : Nat → Prop} {w : World} {vs : List Value} {Bs : List Nat} (h : ArgsR ok w vs [] Bs) : vs = [] ∧ Bs = [] := by
  cases h; exact ⟨rfl, rfl⟩
theorem Rd.int_inv {ok : Nat → Prop} {w : World} {v : Value} {k : IntKind} {n : Int} {B : List Nat} (h : Rd ok w v (.int k n) B) : v = .int k n ∧ B = [] := by cases h; exact ⟨rfl, rfl⟩
theorem Rd.str_inv {ok : Nat → Prop} {w : World} {v : Value} {s : ByteArray} {B : List Nat} (h : Rd ok w v (.str s) B) : v = .string s ∧ B = [] := by cases h; exact ⟨rfl, rfl⟩
theorem RdL.ints_inv {ok : Nat → Prop} {w : World} {k : IntKind} : ∀ {zs : List Int} {vs : List Value} {B : List Nat}, RdL ok w vs (zs.map (D.int k)) B → vs = zs.map (Value.int k)
  | [], _, _, h => by cases h; rfl
  | z :: zs, _, _, h => by
    cases h with
    | cons v d vs ds B1 B2 h1 h2 hd =>
      obtain ⟨rfl, _⟩ := h1.int_inv
      rw [RdL.ints_inv h2]; rfl
theorem strsOf_flat {ok : Nat → Prop} {w : World} : ∀ {rows : List (List D)} {xs : List ByteArray} {vs : List Value} {B : List Nat}, strsOf rows = some xs → RdL ok w vs rows.flatten B → vs = xs.map Value.string ∧ rows.length = xs.length
  | [], _, _, _, h, hr => by
    cases h; cases hr; exact ⟨rfl, rfl⟩
  | r :: rows, xs, vs, B, h, hr => by
    unfold strsOf at h
    split at h
    · cases ‹_ :: _ = []›
    · rename_i s l heq
      injection heq with h1 h2
      subst h1; subst h2
      split at h
      · rename_i r' hr'
        cases h
        simp only [List.flatten_cons, List.singleton_append] at hr
        cases hr with
        | cons v d vs ds B1 B2 h1 h2 hd =>
          obtain ⟨rfl, _⟩ := h1.str_inv
          obtain ⟨h3, h4⟩ := strsOf_flat hr' h2
          rw [h3]
          exact ⟨rfl, by simp [h4]⟩
      · cases h
    · cases h
/-- A call that yields what owns nothing and leaves what was there. -/
theorem callOK_flat {args : List AV} {d : D} {v : Value} (hent : Enter P f) (hrd : ∀ ok w, Rd ok w v d [])
    (h : ∀ (w : World) (vs : List Value) (okA : Nat → Prop) (Bs : List Nat), ArgsR okA w vs args Bs → GlobOK okA (fun k => w.heap.size ≤ k ∨ k ∈ Bs) glob w → Calls P f vs.toArray w fun e w' => e = .returned v ∧ Below w.heap.size w w') :
    CallOK P f glob args (.val (.one d)) :=
  ⟨hent, fun w vs okA Bs ha _ hg => (h w vs okA Bs ha hg).mono fun e w' ⟨he, hb⟩ => ⟨v, [], he, rfl, .val _ _ _ (.one _ _ _ (hrd _ _)), (fun b hb => by cases hb), .of_below hb⟩⟩
/-- A table of the package's is told. -/
theorem tabIs_of {okA mine : Nat → Prop} {w : World} {g : Nat} {name : String} {k : IntKind} {z : Int} {zs : List Int} (hn : P.globalNamed name = some g) (hg : glob g = (z :: zs).map (D.int k)) (h : GlobOK okA mine glob w) : Lib.TabIs P w name k (z :: zs) := by
  obtain ⟨vs, hr, _, hw⟩ := h g
  rw [hg] at hr
  have := hr.ints_inv
  subst this
  obtain ⟨E, k', hb⟩ := hw (by simp) (by rw [hg]; simp)
  unfold Lib.TabIs World.var?
  rw [hn]
  simp [hb]
theorem itoa_ok (hent : Enter P f) {g : Nat} (hn : P.globalNamed "internal/strconv.uint64pow10" = some g) (hg : glob g = Lib.pow10Tab.map (D.int .u64))
    (hc : ∀ (n : Int), -9223372036854775808 ≤ n → n ≤ 9223372036854775807 → ∀ w, Lib.TabIs P w "internal/strconv.uint64pow10" .u64 Lib.pow10Tab →
      Calls P f #[.int .i64 n] w fun e w' => e = .returned (.string ⟨(Lib.itoa n).toArray⟩) ∧ Below w.heap.size w w') {args : List AV} {r : AV} (h : hItoa args = some r) : CallOK P f glob args r := by
  unfold hItoa at h
  split at h
  · rename_i n
    split at h
    · rename_i hb
      cases h
      refine callOK_flat hent (fun _ _ => .str _) fun w vs okA Bs ha hgl => ?_
      obtain ⟨v, vs', B1, B2, rfl, _, h1, h2, _⟩ := ha.cons_inv
      obtain ⟨rfl, _⟩ := h2.nil_inv
      obtain ⟨rfl, _⟩ := h1.val_inv.one_inv.int_inv
      exact hc n hb.1 hb.2 w (tabIs_of (z := 1) (zs := Lib.pow10Tab.tail) hn hg hgl)
    · cases h
  · cases h
theorem join_ok (hent : Enter P f)
    (h0 : ∀ (a : Option Addr) (c : Nat) (sep : ByteArray) (w : World), Calls P f #[.slice a 0 c, .string sep] w fun e w' => e = .returned (.string ⟨#[]⟩) ∧ w' = w)
    (hc : ∀ (bk o c : Nat) (xs : List ByteArray) (sep : ByteArray) (w : World), (∀ (j : Nat) x, xs[j]? = some x → w.cell? ⟨bk, o + j, none⟩ = some (.string x)) → bk < w.heap.size → xs.length ≤ 140737488355328 → xs.length ≤ c →
      (Lib.join (xs.map (·.data.toList)) sep.data.toList).length ≤ 140737488355328 →
      Calls P f #[.slice (some ⟨bk, o, none⟩) xs.length c, .string sep] w fun e w' => e = .returned (.string ⟨(Lib.join (xs.map (·.data.toList)) sep.data.toList).toArray⟩) ∧ Below w.heap.size w w')
    {args : List AV} {r : AV} (h : hJoin args = some r) : CallOK P f glob args r := by
  unfold hJoin at h
  split at h
  · rename_i rows sep
    split at h
    · rename_i xs hxs
      split at h
      · rename_i hb
        cases h
        refine callOK_flat hent (fun _ _ => .str _) fun w vs okA Bs ha hgl => ?_
        obtain ⟨v, vs', B1, B2, rfl, _, h1, h2, _⟩ := ha.cons_inv
        obtain ⟨v2, vs2, B3, B4, rfl, _, h3, h4, _⟩ := h2.cons_inv
        obtain ⟨rfl, _⟩ := h4.nil_inv
        obtain ⟨rfl, _⟩ := h3.val_inv.one_inv.str_inv
        have h5 := h1.val_inv.one_inv
        cases h5 with
        | empty a =>
          cases hxs
          exact (h0 a 0 sep w).mono fun e w' ⟨he, hw⟩ => ⟨he, hw ▸ Below.refl _ _⟩
        | view b off n cap _ _ us he hn hcap hm hcell hr =>
          obtain ⟨h6, h7⟩ := strsOf_flat hxs hr
          subst hn
          rw [h7] at hcap ⊢
          match xs, h6, h7 with
          | [], _, _ => exact (h0 _ cap sep w).mono fun e w' ⟨he, hw⟩ => ⟨he, hw ▸ Below.refl _ _⟩
          | x :: xs, h6, h7 =>
            have hcl : ∀ (j : Nat) y, (x :: xs)[j]? = some y → okA b ∧ w.cell? ⟨b, off + j, none⟩ = some (.string y) := fun j y hj => hcell j _ (by rw [h6, List.getElem?_map, hj]; rfl)
            exact hc b off cap (x :: xs) sep w (fun j y hj => (hcl j y hj).2) (World.block_lt_of_cell? w _ (hcl 0 x rfl).2) hb.1 hcap hb.2
      · cases h
    · cases h
  · cases h
end
end Go.Abs
set_option linter.unusedVariables false
set_option linter.unusedSimpArgs false
namespace Go.Abs
open Go Go.RowKit

/-- strings.Split. -/
def hSplit (args : List AV) : Option AV := match args with
  | [.val (.one (.str s)), .val (.one (.str sep))] => if s.size < 4294967281 ∧ 1 ≤ sep.size then some (.val (.one (.list true 1 ((Lib.splitB sep 0 (Lib.countB s sep) s).map fun x => [D.str x])))) else none
  | _ => none
/-- strconv.Atoi. -/
def hAtoi (args : List AV) : Option AV := match args with
  | [.val (.one (.str s))] => if s.size ≤ 281474976710656 then (match Lib.atoiAll s.data.toList with
      | .ok v => some (.tup [some (.one (.int .i64 v)), some (.one (.err false))])
      | .range => some (.tup [some (.one (.int .i64 (Lib.atoiSat s.data.toList))), some (.one (.err true))])
      | _ => some (.tup [some (.one (.int .i64 0)), some (.one (.err true))])) else none
  | _ => none

section
variable {P : Program} {f : FuncId} {glob : Nat → List D}
theorem RdL.strs {ok : Nat → Prop} {w : World} : ∀ (xs : List ByteArray), RdL ok w (xs.map Value.string) (xs.map D.str) []
  | [] => .nil
  | x :: xs => by
    have := RdL.cons _ _ _ _ [] [] (Rd.str x) (RdL.strs (ok := ok) (w := w) xs) (by simp)
    simpa using this
theorem flat_strs (xs : List ByteArray) : (xs.map fun x => [D.str x]).flatten = xs.map D.str := by
  induction xs with
  | nil => rfl
  | cons x xs ih => simp [ih]
theorem split_ok (hent : Enter P f) {t : TypeId} {g : Nat} (hg : glob g = [D.anyi .i64])
    (hc : ∀ (s sep : ByteArray) (m : Int) (w : World), s.size < 4294967281 → w.cell? ⟨g, 0, none⟩ = some (.int .i64 m) → 1 ≤ sep.size →
      Calls P f #[.string s, .string sep] w fun e w' => e = .returned (.slice (some ⟨w.heap.size, 0, none⟩) (Lib.countB s sep + 1) (Lib.countB s sep + 1)) ∧ w' = w.alloc (.cells ((Lib.splitB sep 0 (Lib.countB s sep) s).map Value.string).toArray t))
    {args : List AV} {r : AV} (h : hSplit args = some r) : CallOK P f glob args r := by
  unfold hSplit at h
  split at h
  · rename_i s sep
    split at h
    · rename_i hb
      cases h
      refine ⟨hent, fun w vs okA Bs ha hno hgl => ?_⟩
      obtain ⟨v, vs', B1, B2, rfl, hBs, h1, h2, _⟩ := ha.cons_inv
      obtain ⟨v2, vs2, B3, B4, rfl, hB2, h3, h4, _⟩ := h2.cons_inv
      obtain ⟨rfl, rfl⟩ := h4.nil_inv
      obtain ⟨rfl, rfl⟩ := h3.val_inv.one_inv.str_inv
      obtain ⟨rfl, rfl⟩ := h1.val_inv.one_inv.str_inv
      obtain ⟨us, hr, hcl, _⟩ := hgl g
      rw [hg] at hr
      obtain ⟨m, hm⟩ : ∃ m, w.cell? ⟨g, 0, none⟩ = some (.int .i64 m) := by
        cases us with
        | nil => have := hr.length; simp at this
        | cons v us =>
          obtain ⟨B1, B2, _, h5, _, _⟩ := hr.cons_inv
          cases h5 with
          | anyi k n => exact ⟨n, (hcl 0 _ rfl).2⟩
      refine (hc s sep m w hb.1 hm hb.2).mono fun e w' ⟨he, hw⟩ => ?_
      subst hw
      have hlen : (Lib.splitB sep 0 (Lib.countB s sep) s).length = Lib.countB s sep + 1 := Lib.splitB_all sep hb.2 0 _ s rfl
      have hle := Lib.countB_le sep hb.2 s.size s (Nat.le_refl _)
      refine ⟨_, [w.heap.size], he, rfl, .val _ _ _ (.one _ _ _ ?_), fun b hb => ?_, ⟨rfl, rfl, rfl, by simp, fun k hk _ => heap_alloc_old w _ k hk⟩⟩
      · refine .own w.heap.size _ _ 1 _ t _ [] (fun r hr => ?_) (by simp [hlen]) trivial (Nat.le_refl _) (by simp only [maxLen]; omega) (heap_alloc_new w _) (by simp [hlen]) ?_ (by simp)
        · simp at hr; obtain ⟨a, _, rfl⟩ := hr; rfl
        · rw [flat_strs, List.take_of_length_le (by simp [hlen])]
          exact RdL.strs _
      · simp at hb; subst hb
        exact ⟨by simp, .inl (Nat.le_refl _)⟩
    · cases h
  · cases h
theorem callOK_pair {args : List AV} {n : Int} {b : Bool} (hent : Enter P f)
    (h : ∀ (w : World) (vs : List Value) (okA : Nat → Prop) (Bs : List Nat), ArgsR okA w vs args Bs → GlobOK okA (fun k => w.heap.size ≤ k ∨ k ∈ Bs) glob w → Calls P f vs.toArray w fun e w' => ∃ ev, errB ev = some b ∧ e = .returned (.tuple #[.int .i64 n, ev]) ∧ Below w.heap.size w w') :
    CallOK P f glob args (.tup [some (.one (.int .i64 n)), some (.one (.err b))]) :=
  ⟨hent, fun w vs okA Bs ha _ hg => (h w vs okA Bs ha hg).mono fun e w' ⟨ev, hev, he, hb⟩ => ⟨_, [], he, rfl, by
      have := TR.put (ok := fun k => (okA k ∨ w.heap.size ≤ k ∨ k ∈ Bs) ∧ k ∉ []) (w := w') _ _ _ _ [] [] (.one _ _ _ (.int .i64 n)) (TR.put _ _ _ _ [] [] (.one _ _ _ (.err ev b hev)) .nil (by simp)) (by simp)
      exact .tup _ _ _ this, (fun b hb => by cases hb), .of_below hb⟩⟩
theorem glob_err {okA mine : Nat → Prop} {w : World} {g : Nat} {name : String} (hn : P.globalNamed name = some g) (hg : glob g = [D.err true]) (h : GlobOK okA mine glob w) : ∃ tp p, w.var? P name = some #[.iface tp p] := by
  obtain ⟨us, hr, _, hw⟩ := h g
  rw [hg] at hr
  cases us with
  | nil => have := hr.length; simp at this
  | cons v us =>
    obtain ⟨B1, B2, _, h1, h2, _⟩ := hr.cons_inv
    have h3 := h2.length
    have : us = [] := List.eq_nil_of_length_eq_zero (by simpa using h3)
    subst this
    have hv : ∃ tp p, v = .iface tp p := by
      cases h1 with
      | err v b hb =>
        cases v with
        | iface tp p => exact ⟨tp, p, rfl⟩
        | nilIface => cases hb
        | _ => cases hb
    obtain ⟨tp, p, rfl⟩ := hv
    obtain ⟨E, k', hb⟩ := hw (by simp) (by rw [hg]; simp)
    refine ⟨tp, p, ?_⟩
    unfold World.var?
    rw [hn]
    simp [hb]
theorem atoi_ok (hent : Enter P f) {t5 tp : TypeId} {gs gr : Nat} (hns : P.globalNamed "strconv.ErrSyntax" = some gs) (hgs : glob gs = [D.err true]) (hnr : P.globalNamed "strconv.ErrRange" = some gr) (hgr : glob gr = [D.err true])
    (h1 : ∀ (s : ByteArray), s.size ≤ 9223372036854775806 → ∀ (v : Int), Lib.atoiAll s.data.toList = .ok v → ∀ (w : World),
      Calls P f #[.string s] w fun e w' => e = .returned (.tuple #[.int .i64 v, .nilIface]) ∧ (w' = w ∨ ∃ t, w' = Lib.bytesWorld w t5 t))
    (h2 : ∀ (s : ByteArray), s.size ≤ 281474976710656 → (∀ v, Lib.atoiAll s.data.toList ≠ .ok v) → Lib.atoiAll s.data.toList ≠ .range → ∀ (t : TypeId) (p : Value) (w : World), w.var? P "strconv.ErrSyntax" = some #[.iface t p] →
      Calls P f #[.string s] w fun e w' => ∃ N, e = .returned (.tuple #[.int .i64 0, .iface tp (.pointer (some ⟨N, 0, none⟩))]) ∧ Below w.heap.size w w')
    (h3 : ∀ (s : ByteArray), s.size ≤ 281474976710656 → Lib.atoiAll s.data.toList = .range → ∀ (t : TypeId) (p : Value) (w : World), w.var? P "strconv.ErrRange" = some #[.iface t p] →
      Calls P f #[.string s] w fun e w' => ∃ N, e = .returned (.tuple #[.int .i64 (Lib.atoiSat s.data.toList), .iface tp (.pointer (some ⟨N, 0, none⟩))]) ∧ Below w.heap.size w w')
    {args : List AV} {r : AV} (h : hAtoi args = some r) : CallOK P f glob args r := by
  unfold hAtoi at h
  split at h
  · rename_i s
    have key : ∀ (w : World) (vs : List Value) (okA : Nat → Prop) (Bs : List Nat), ArgsR okA w vs [.val (.one (.str s))] Bs → vs = [.string s] := fun w vs okA Bs ha => by
      obtain ⟨v, vs', B1, B2, rfl, hBs, h1, h2, _⟩ := ha.cons_inv
      obtain ⟨rfl, rfl⟩ := h2.nil_inv
      obtain ⟨rfl, _⟩ := h1.val_inv.one_inv.str_inv
      rfl
    split at h
    · rename_i hb
      split at h
      · rename_i v hv
        cases h
        refine callOK_pair hent fun w vs okA Bs ha hgl => ?_
        obtain rfl := key w vs okA Bs ha
        refine (h1 s (by omega) v hv w).mono fun e w' ⟨he, hw⟩ => ⟨_, rfl, he, ?_⟩
        rcases hw with rfl | ⟨t, rfl⟩
        · exact Below.refl _ _
        · exact Lib.bytesWorld_below ..
      · rename_i hv
        cases h
        refine callOK_pair hent fun w vs okA Bs ha hgl => ?_
        obtain rfl := key w vs okA Bs ha
        obtain ⟨t, p, hvar⟩ := glob_err hnr hgr hgl
        exact (h3 s hb hv t p w hvar).mono fun e w' ⟨N, he, hw⟩ => ⟨_, rfl, he, hw⟩
      · rename_i hv1 hv2
        cases h
        refine callOK_pair hent fun w vs okA Bs ha hgl => ?_
        obtain rfl := key w vs okA Bs ha
        obtain ⟨t, p, hvar⟩ := glob_err hns hgs hgl
        exact (h2 s hb (fun v hv => hv1 v hv) (fun hv => hv2 hv) t p w hvar).mono fun e w' ⟨N, he, hw⟩ => ⟨_, rfl, he, hw⟩
    · cases h
  · cases h
end
end Go.Abs
set_option linter.unusedVariables false
set_option linter.unusedSimpArgs false
namespace Go.Abs
open Go Go.RowKit

/-- slices.Delete. -/
def hDelete (args : List AV) : Option AV := match args with
  | [.val (.one (.list true 3 rows)), .val (.one (.int .i64 i)), .val (.one (.int .i64 j))] => if 0 ≤ i ∧ i < j ∧ j ≤ rows.length then some (.val (.one (.list true 3 (rows.take i.toNat ++ rows.drop j.toNat)))) else none
  | _ => none
/-- slices.Insert. -/
def hInsert (args : List AV) : Option AV := match args with
  | [.val (.one (.list true 3 rows)), .val (.one (.int .i64 i)), .val (.one (.list true 3 more))] => if 0 ≤ i ∧ i ≤ rows.length ∧ 0 < more.length ∧ rows.length + more.length ≤ 68719476736 then some (.val (.one (.list true 3 (rows.take i.toNat ++ more ++ rows.drop i.toNat)))) else none
  | _ => none
section
variable {P : Program} {f : FuncId} {glob : Nat → List D}
/-- A call that yields a list of its own. -/
theorem callOK_own {args : List AV} {d : D} (hent : Enter P f)
    (h : ∀ (w : World) (vs : List Value) (okA : Nat → Prop) (Bs : List Nat), ArgsR okA w vs args Bs → (∀ b ∈ Bs, ¬ okA b) → Calls P f vs.toArray w fun e w' => ∃ v B, e = .returned v ∧
      Rd (fun k => (okA k ∨ w.heap.size ≤ k ∨ k ∈ Bs) ∧ k ∉ B) w' v d B ∧ (∀ b ∈ B, b < w'.heap.size ∧ (w.heap.size ≤ b ∨ b ∈ Bs)) ∧ Fr (fun k => w.heap.size ≤ k ∨ k ∈ Bs) w w') :
    CallOK P f glob args (.val (.one d)) :=
  ⟨hent, fun w vs okA Bs ha hno hg => (h w vs okA Bs ha hno).mono fun e w' ⟨v, B, he, hr, hB, hf⟩ => ⟨v, B, he, rfl, .val _ _ _ (.one _ _ _ hr), hB, hf⟩⟩
theorem flat_take {e : Nat} : ∀ {rows : List (List D)} (i : Nat), (∀ r ∈ rows, r.length = e) → (rows.take i).flatten = rows.flatten.take (i * e)
  | [], i, h => by simp
  | r :: rows, 0, h => by simp
  | r :: rows, i + 1, h => by
    have h1 : r.length = e := h r (by simp)
    rw [List.take_succ_cons, List.flatten_cons, List.flatten_cons, flat_take i fun r hr => h r (by simp [hr]), show (i + 1) * e = r.length + i * e by rw [h1, Nat.add_mul]; omega, List.take_length_add_append]
theorem flat_drop {e : Nat} : ∀ {rows : List (List D)} (i : Nat), (∀ r ∈ rows, r.length = e) → (rows.drop i).flatten = rows.flatten.drop (i * e)
  | [], i, h => by simp
  | r :: rows, 0, h => by simp
  | r :: rows, i + 1, h => by
    have h1 : r.length = e := h r (by simp)
    rw [List.drop_succ_cons, List.flatten_cons, flat_drop i fun r hr => h r (by simp [hr]), show (i + 1) * e = r.length + i * e by rw [h1, Nat.add_mul]; omega, List.drop_length_add_append]
/-- What is left where a middle part is taken out. -/
theorem RdL.cutOut {ok : Nat → Prop} {w : World} {vs : List Value} {ds : List D} {B : List Nat} (h : RdL ok w vs ds B) {a b : Nat} (hab : a ≤ b) :
    ∃ B', RdL ok w (vs.take a ++ vs.drop b) (ds.take a ++ ds.drop b) B' ∧ ∀ x ∈ B', x ∈ B := by
  by_cases hb : b ≤ ds.length
  · have h1 := h
    rw [← List.take_append_drop a ds] at h1
    obtain ⟨B1, B2, rfl, g1, g2, gd⟩ := h1.split
    have hl : (ds.take a).length = a := by simp; omega
    rw [hl] at g1 g2
    obtain ⟨B', g3, g4⟩ := g2.drop (b - a)
    rw [List.drop_drop, List.drop_drop, show a + (b - a) = b by omega] at g3
    exact ⟨B1 ++ B', g1.app g3 fun x hx hx' => gd x hx (g4 x hx'), fun x hx => (List.mem_append.1 hx).elim (List.mem_append_left _) fun hx => List.mem_append_right _ (g4 x hx)⟩
  · have hl := h.length
    have h1 := h
    rw [List.drop_eq_nil_of_le (show ds.length ≤ b by omega), List.drop_eq_nil_of_le (show vs.length ≤ b by omega), List.append_nil, List.append_nil]
    rw [← List.take_append_drop a ds] at h1
    obtain ⟨B1, B2, rfl, g1, g2, gd⟩ := h1.split
    by_cases ha : a ≤ ds.length
    · rw [List.length_take, Nat.min_eq_left ha] at g1
      exact ⟨B1, g1, fun x hx => List.mem_append_left _ hx⟩
    · rw [List.take_of_length_le (show vs.length ≤ a by omega), List.take_of_length_le (show ds.length ≤ a by omega)]
      exact ⟨_, h, fun x hx => hx⟩
theorem delete_ok (hent : Enter P f)
    (hc : ∀ (g n cap i j : Nat) (cur : Array Value) (E : TypeId) (w : World), w.heap[g]? = some (.cells cur E (0, 0)) → cur.size = cap * 3 → n ≤ cap → cap ≤ maxLen → (∀ v ∈ cur.toList.take (n * 3), v.oneCell' = true) → i < j → j ≤ n →
      Calls P f #[.slice (some ⟨g, 0, none⟩) n cap, .int .i64 i, .int .i64 j] w fun e w' =>
        e = .returned (.slice (some ⟨g, 0, none⟩) (i + (n - j)) cap) ∧ ∃ zs, zs.length = (j - i) * 3 ∧
          w' = (w.drew.setRow g (cur.toList.take (i * 3) ++ (cur.toList.drop (j * 3)).take ((n - j) * 3) ++ cur.toList.drop (i * 3 + (n - j) * 3)).toArray).setRow g
            (cur.toList.take (i * 3) ++ (cur.toList.drop (j * 3)).take ((n - j) * 3) ++ zs ++ (cur.toList.drop (i * 3 + (n - j) * 3)).drop ((j - i) * 3)).toArray)
    {args : List AV} {r : AV} (h : hDelete args = some r) : CallOK P f glob args r := by
  unfold hDelete at h
  split at h
  · rename_i rows i j
    split at h
    · rename_i hb
      obtain ⟨i, rfl⟩ : ∃ n : Nat, i = n := ⟨i.toNat, by omega⟩
      obtain ⟨j, rfl⟩ : ∃ n : Nat, j = n := ⟨j.toNat, by omega⟩
      cases h
      simp only [Int.toNat_natCast]
      have hij : i < j := by omega
      have hjl : j ≤ rows.length := by omega
      refine callOK_own hent fun w vs okA Bs ha hno => ?_
      obtain ⟨v, vs', B1, B2, rfl, rfl, h1, h2, _⟩ := ha.cons_inv
      obtain ⟨v2, vs2, B3, B4, rfl, rfl, h3, h4, _⟩ := h2.cons_inv
      obtain ⟨v3, vs3, B5, B6, rfl, rfl, h5, h6, _⟩ := h4.cons_inv
      obtain ⟨rfl, rfl⟩ := h6.nil_inv
      obtain ⟨rfl, rfl⟩ := h3.val_inv.one_inv.int_inv
      obtain ⟨rfl, rfl⟩ := h5.val_inv.one_inv.int_inv
      have h7 := h1.val_inv.one_inv
      simp only [List.append_nil] at hno ⊢
      cases h7 with
      | empty a o e => simp at hjl; omega
      | own g n cap _ cur E _ B he hn hp hcap hm hg hs hr hB =>
        subst hn
        have hfl : rows.flatten.length = rows.length * 3 := flat_len he
        have hcl : (cur.toList.take (rows.length * 3)).length = rows.length * 3 := by rw [hr.length, hfl]
        refine (hc g rows.length cap i j cur E w hg hs hcap hm hr.ones hij hjl).mono fun e w' ⟨he', zs, hz, hw⟩ => ?_
        obtain ⟨B', k1, k2⟩ := hr.cutOut (a := i * 3) (b := j * 3) (by omega)
        have hgB : g ∉ B' := fun hh => hB (k2 g hh)
        have hblk : ∀ k, k ≠ g → w'.heap[k]? = w.heap[k]? := fun k hk => by rw [hw, setRow_other _ g k _ hk, setRow_other _ g k _ hk]; rfl
        have hsz : w'.heap.size = w.heap.size := by rw [hw, setRow_size, setRow_size]; rfl
        have hgl : g < w.heap.size := (Array.getElem?_eq_some_iff.1 hg).1
        have e1 : (rows.take i ++ rows.drop j).flatten = rows.flatten.take (i * 3) ++ rows.flatten.drop (j * 3) := by rw [List.flatten_append, flat_take i he, flat_drop j he]
        have e2 : (cur.toList.take (rows.length * 3)).take (i * 3) ++ (cur.toList.take (rows.length * 3)).drop (j * 3) = cur.toList.take (i * 3) ++ (cur.toList.drop (j * 3)).take ((rows.length - j) * 3) := by
          rw [List.take_take, Nat.min_eq_left (by omega), List.drop_take, Nat.sub_mul]
        rw [e2, ← e1] at k1
        have e3 : (cur.toList.take (i * 3) ++ (cur.toList.drop (j * 3)).take ((rows.length - j) * 3)).length = (i + (rows.length - j)) * 3 := by
          have : cur.toList.length = cap * 3 := by simpa using hs
          simp only [List.length_append, List.length_take, List.length_drop, this]
          omega
        refine ⟨_, g :: B', he', ?_, fun b hb => ?_, ?_⟩
        · have h8 : (cur.toList.take (i * 3) ++ (cur.toList.drop (j * 3)).take ((rows.length - j) * 3) ++ zs ++ (cur.toList.drop (i * 3 + (rows.length - j) * 3)).drop ((j - i) * 3)).length = cap * 3 := by
            have : cur.toList.length = cap * 3 := by simpa using hs
            simp only [List.length_append, List.length_take, List.length_drop, this, hz]
            omega
          have h9 := k1.step (ok' := fun k => (okA k ∨ w.heap.size ≤ k ∨ k ∈ g :: B) ∧ k ∉ g :: B') (w' := w')
            (fun k hk ho => ⟨.inl ho, fun hh => hno k ((List.mem_cons.1 hh).elim (fun h => h ▸ List.mem_cons_self ..) fun h => List.mem_cons_of_mem _ (k2 k h)) ho⟩)
            (fun k hk hh => hblk k fun hh' => by
              subst hh'
              exact hh.elim (hno k (List.mem_cons_self ..)) hgB)
          refine .own g _ cap 3 _ E _ B' (fun r hr => (List.mem_append.1 hr).elim (fun h => he r (List.mem_of_mem_take h)) fun h => he r (List.mem_of_mem_drop h)) (by simp; omega) trivial (by omega) hm
            (by rw [hw]; exact setRow_heap (w.drew.setRow g _) g _ _ E (0, 0) (setRow_heap w.drew g cur _ E (0, 0) hg)) (by simpa using h8) ?_ hgB
          rw [List.toList_toArray, List.append_assoc, List.take_left' e3]
          exact h9
        · refine ⟨?_, ?_⟩
          · rw [hsz]
            rcases List.mem_cons.1 hb with rfl | hb
            · exact hgl
            · exact k1.lt b hb
          · exact .inr ((List.mem_cons.1 hb).elim (fun h => h ▸ List.mem_cons_self ..) fun h => List.mem_cons_of_mem _ (k2 b h))
        · rw [hw]
          exact (Fr.drew _ w).trans ((Fr.setRow w.drew (.inr (List.mem_cons_self ..)) _).trans (Fr.setRow _ (.inr (List.mem_cons_self ..)) _))
    · cases h
  · cases h
/-- What stands where a part is put in. -/
theorem RdL.putIn {ok : Nat → Prop} {w : World} {vs us : List Value} {ds ms : List D} {B B2 : List Nat} (h : RdL ok w vs ds B) (hu : RdL ok w us ms B2) (hd : ∀ b ∈ B, b ∉ B2) {a : Nat} (ha : a ≤ ds.length) :
    ∃ B', RdL ok w (vs.take a ++ us ++ vs.drop a) (ds.take a ++ ms ++ ds.drop a) B' ∧ ∀ x ∈ B', x ∈ B ∨ x ∈ B2 := by
  have h1 := h
  rw [← List.take_append_drop a ds] at h1
  obtain ⟨B1, B3, rfl, g1, g2, gd⟩ := h1.split
  have hl : (ds.take a).length = a := by simp; omega
  rw [hl] at g1 g2
  refine ⟨B1 ++ B2 ++ B3, (g1.app hu fun x hx => hd x (List.mem_append_left _ hx)).app g2 fun x hx hx' => ?_, fun x hx => ?_⟩
  · rcases List.mem_append.1 hx with hx | hx
    · exact gd x hx hx'
    · exact hd x (List.mem_append_right _ hx') hx
  · rcases List.mem_append.1 hx with hx | hx
    · rcases List.mem_append.1 hx with hx | hx
      · exact .inl (List.mem_append_left _ hx)
      · exact .inr hx
    · exact .inl (List.mem_append_right _ hx)
theorem shift_list {L us : List Value} {n cap i m : Nat} (hL : L.length = cap * 3) (hi : i < n) (hroom : n + m ≤ cap) (hul : us.length = m * 3) {C : List Value}
    (hC : C = L.take ((i + m) * 3) ++ (L.drop (i * 3)).take ((n - i) * 3) ++ L.drop ((i + m) * 3 + (n - i) * 3)) :
    C.take (i * 3) ++ us ++ C.drop (i * 3 + m * 3) = ((L.take (n * 3)).take (i * 3) ++ us ++ (L.take (n * 3)).drop (i * 3)) ++ L.drop ((i + m) * 3 + (n - i) * 3) := by
  have h1 : (L.take ((i + m) * 3)).length = i * 3 + m * 3 := by rw [List.length_take, hL]; omega
  have h2 : C.take (i * 3) = (L.take (n * 3)).take (i * 3) := by
    rw [hC, List.append_assoc, List.take_append_of_le_length (by rw [h1]; omega), List.take_take, List.take_take]
    congr 1
    omega
  have h3 : C.drop (i * 3 + m * 3) = (L.drop (i * 3)).take ((n - i) * 3) ++ L.drop ((i + m) * 3 + (n - i) * 3) := by rw [hC, List.append_assoc, List.drop_left' h1]
  rw [h2, h3, List.drop_take, Nat.sub_mul]
  simp only [List.append_assoc]
theorem grow_list {L R0 R1 us : List Value} {n cap i m : Nat} (hL : L.length = cap * 3) (hi : i < n) (hn : n ≤ cap) (hul : us.length = m * 3) (hR : R0.take (i * 3) = L.take (i * 3)) (hR1 : R1 = R0.take (i * 3) ++ us ++ R0.drop (i * 3 + m * 3)) :
    R1.take ((i + m) * 3) ++ (L.drop (i * 3)).take ((n - i) * 3) ++ R1.drop ((i + m) * 3 + (n - i) * 3) = ((L.take (n * 3)).take (i * 3) ++ us ++ (L.take (n * 3)).drop (i * 3)) ++ R1.drop ((i + m) * 3 + (n - i) * 3) := by
  have h1 : (L.take (i * 3) ++ us).length = (i + m) * 3 := by rw [List.length_append, List.length_take, hL, hul]; omega
  have h2 : R1.take ((i + m) * 3) = L.take (i * 3) ++ us := by rw [hR1, hR, List.take_left' h1]
  rw [h2, List.take_take, Nat.min_eq_left (by omega), List.drop_take, Nat.sub_mul]
theorem insert_ok {t el : TypeId} {i0 : TypeInfo} {z : Value} (hent : Enter P f) (hu : P.underlying t = some (.slice el)) (hi0 : P.info? el = some i0) (hz : i0.zero = some z) (hsz : i0.size = 3) (hzs : z.cells.size = 3) (hby : i0.bytes ≤ 2048)
    (hshift : ∀ (g n cap i gb vo m vc : Nat) (cur : Array Value) (E : TypeId) (us : List Value) (w : World), w.heap[g]? = some (.cells cur E (0, 0)) → cur.size = cap * 3 → cap ≤ maxLen →
      (∀ v ∈ cur.toList.take (n * 3), v.oneCell' = true) → i < n → 0 < m → n + m ≤ cap → gb ≠ g → us.length = m * 3 → (∀ v ∈ us, v.oneCell' = true) →
      ∀ (curB : Array Value) (EB : TypeId), w.heap[gb]? = some (.cells curB EB (0, 0)) → (∀ t u, us[t]? = some u → curB[vo + t]? = some u) →
      Calls P f #[.slice (some ⟨g, 0, none⟩) n cap, .int .i64 i, .slice (some ⟨gb, vo, none⟩) m vc] w fun e w' =>
        e = .returned (.slice (some ⟨g, 0, none⟩) (n + m) cap) ∧ ∃ cur1 : List Value, cur1 = cur.toList.take ((i + m) * 3) ++ (cur.toList.drop (i * 3)).take ((n - i) * 3) ++ cur.toList.drop ((i + m) * 3 + (n - i) * 3) ∧
          w' = (w.drew.setRow g cur1.toArray).setRow g (cur1.take (i * 3) ++ us ++ cur1.drop (i * 3 + m * 3)).toArray)
    (hgrow : ∀ (g n cap i gb vo m vc : Nat) (cur : Array Value) (E : TypeId) (us : List Value) (w : World), w.heap[g]? = some (.cells cur E (0, 0)) → cur.size = cap * 3 → n ≤ cap →
      (∀ v ∈ cur.toList.take (n * 3), v.oneCell' = true) → i < n → 0 < m → cap < n + m → n + m ≤ 68719476736 → us.length = m * 3 → (∀ v ∈ us, v.oneCell' = true) →
      ∀ (curB : Array Value) (EB : TypeId), w.heap[gb]? = some (.cells curB EB (0, 0)) → (∀ t u, us[t]? = some u → curB[vo + t]? = some u) →
      Calls P f #[.slice (some ⟨g, 0, none⟩) n cap, .int .i64 i, .slice (some ⟨gb, vo, none⟩) m vc] w fun e w' =>
        ∃ (G : Nat) (R0 R1 : List Value), n + m ≤ G ∧ G ≤ maxLen ∧ e = .returned (.slice (some ⟨w.heap.size, 0, none⟩) (n + m) G) ∧ R0.length = G * 3 ∧ R0.take (i * 3) = cur.toList.take (i * 3) ∧
          R1 = R0.take (i * 3) ++ us ++ R0.drop (i * 3 + m * 3) ∧
          w' = ((((w.alloc (.cells R0.toArray el)).drew.setRow w.heap.size R1.toArray)).drew).setRow w.heap.size (R1.take ((i + m) * 3) ++ (cur.toList.drop (i * 3)).take ((n - i) * 3) ++ R1.drop ((i + m) * 3 + (n - i) * 3)).toArray)
    (hend : ∀ (base : Option Addr) (n c gb vo m vc : Nat) (w : World), 0 < m → n ≤ c → c ≤ maxLen → (base = none → n = 0) → ∀ (v' : Value) (w' : World),
      (Builtin.append_ #[t, t] t #[.slice base n c, .slice (some ⟨gb, vo, none⟩) m vc]).run P w = .ok v' w' →
      Calls P f #[.slice base n c, .int .i64 n, .slice (some ⟨gb, vo, none⟩) m vc] w fun e w1 => e = .returned v' ∧ w1 = w')
    {args : List AV} {r : AV} (h : hInsert args = some r) : CallOK P f glob args r := by
  unfold hInsert at h
  split at h
  · rename_i rows i more
    split at h
    · rename_i hb
      obtain ⟨i, rfl⟩ : ∃ n : Nat, i = n := ⟨i.toNat, by omega⟩
      cases h
      simp only [Int.toNat_natCast]
      obtain ⟨-, hil, hm0, hbig⟩ := hb
      have hil : i ≤ rows.length := by omega
      refine callOK_own hent fun w vs okA Bs ha hno => ?_
      obtain ⟨v, vs', B1, B2, rfl, rfl, h1, h2, hd1⟩ := ha.cons_inv
      obtain ⟨v2, vs2, B3, B4, rfl, rfl, h3, h4, _⟩ := h2.cons_inv
      obtain ⟨v3, vs3, B5, B6, rfl, rfl, h5, h6, _⟩ := h4.cons_inv
      obtain ⟨rfl, rfl⟩ := h6.nil_inv
      obtain ⟨rfl, rfl⟩ := h3.val_inv.one_inv.int_inv
      have h7 := h1.val_inv.one_inv.here
      have h8 := h5.val_inv.one_inv.here
      simp only [List.append_nil, List.nil_append] at hno hd1 ⊢
      have hok : ∀ (B : List Nat) (w' : World), (∀ b ∈ B, b ∈ B1 ∨ b ∈ B5 ∨ (w.heap.size ≤ b ∧ b < w'.heap.size)) → ∀ k, (okA k ∧ k < w.heap.size) → (okA k ∨ w.heap.size ≤ k ∨ k ∈ B1 ++ B5) ∧ k ∉ B := fun B w' hB k hk => ⟨.inl hk.1, fun hh => by
        rcases hB k hh with h | h | h
        · exact hno k (List.mem_append_left _ h) hk.1
        · exact hno k (List.mem_append_right _ h) hk.1
        · omega⟩
      by_cases hin : i = rows.length
      · -- at the end
        subst hin
        obtain ⟨v', w', B, hrun, hfr, hB, hrd⟩ := run_appendD (ty := t) hu hi0 hz hsz hzs hby h7 h8 (fun b hb hk => hno b (List.mem_append_left _ hb) hk.1) hd1 hbig
        have hfin : ∃ B0, Rd (fun k => (okA k ∨ w.heap.size ≤ k ∨ k ∈ B1 ++ B5) ∧ k ∉ B0) w' v' (.list true 3 (rows.take rows.length ++ more ++ rows.drop rows.length)) B0 ∧
            (∀ b ∈ B0, b < w'.heap.size ∧ (w.heap.size ≤ b ∨ b ∈ B1 ++ B5)) ∧ Fr (fun k => w.heap.size ≤ k ∨ k ∈ B1 ++ B5) w w' := by
          rw [List.take_length, List.drop_length, List.append_nil]
          refine ⟨B, hrd.step (fun k _ hk => hok B w' hB k hk) fun _ _ _ => rfl, fun b hb => ⟨hrd.lt b hb, ?_⟩, hfr.mono fun k hk => .inr (List.mem_append_left _ hk)⟩
          rcases hB b hb with h | h | h
          · exact .inr (List.mem_append_left _ h)
          · exact .inr (List.mem_append_right _ h)
          · exact .inl h.1
        cases h8 with
        | empty => exact absurd hm0 (by simp)
        | own gb mm vc _ curB EB _ BB heB hnB hpB hcB hmB hgB hsB hrB hBB =>
          obtain ⟨v0, w0, hv0⟩ : ∃ (a : Option Addr) (c : Nat), v = .slice a rows.length c ∧ rows.length ≤ c ∧ c ≤ maxLen ∧ (a = none → rows.length = 0) := by
            cases h7 with
            | empty a o e => exact ⟨a, 0, rfl, Nat.le_refl _, Nat.zero_le _, fun _ => rfl⟩
            | own g n cap _ cur E _ B he hn hp hcap hm hg hs hr hB => exact ⟨_, cap, by rw [hn], by omega, hm, fun hh => by cases hh⟩
          obtain ⟨rfl, q1, q2, q3⟩ := hv0
          refine (hend v0 rows.length w0 gb 0 mm vc w (by omega) q1 q2 q3 v' w' hrun).mono fun e w1 ⟨he, hw⟩ => ?_
          obtain ⟨B0, f1, f2, f3⟩ := hfin
          subst hw
          exact ⟨v', B0, he, f1, f2, f3⟩
      · have hi : i < rows.length := by omega
        cases h8 with
        | empty => exact absurd hm0 (by simp)
        | own gb mm vc _ curB EB _ BB heB hnB hpB hcB hmB hgB hsB hrB hBB =>
          subst hnB
          cases h7 with
          | empty => exact absurd hi (by simp)
          | own g n cap _ cur E _ B he hn hp hcap hm hg hs hr hB =>
            subst hn
            have hcurl : cur.toList.length = cap * 3 := by simpa using hs
            have hfl : rows.flatten.length = rows.length * 3 := flat_len he
            have hul : (curB.toList.take (more.length * 3)).length = more.length * 3 := by rw [hrB.length, flat_len heB]
            have hus : ∀ (t : Nat) u, (curB.toList.take (more.length * 3))[t]? = some u → curB[0 + t]? = some u := fun t u ht => by
              rw [List.getElem?_take] at ht
              split at ht
              · rw [Nat.zero_add]; simpa using ht
              · cases ht
            have hne : gb ≠ g := fun hh => hd1 g (List.mem_cons_self ..) (hh ▸ List.mem_cons_self ..)
            have hgl : g < w.heap.size := (Array.getElem?_eq_some_iff.1 hg).1
            have hdis : ∀ b ∈ B, b ∉ BB := fun b hb hb' => hd1 b (List.mem_cons_of_mem _ hb) (List.mem_cons_of_mem _ hb')
            obtain ⟨B', k1, k2⟩ := hr.putIn hrB hdis (a := i * 3) (by rw [hfl]; omega)
            have e1 : (rows.take i ++ more ++ rows.drop i).flatten = rows.flatten.take (i * 3) ++ more.flatten ++ rows.flatten.drop (i * 3) := by rw [List.flatten_append, List.flatten_append, flat_take i he, flat_drop i he]
            rw [← e1] at k1
            have hx : ∀ r ∈ rows.take i ++ more ++ rows.drop i, r.length = 3 := fun r hr => by
              rcases List.mem_append.1 hr with hr | hr
              · rcases List.mem_append.1 hr with hr | hr
                · exact he r (List.mem_of_mem_take hr)
                · exact heB r hr
              · exact he r (List.mem_of_mem_drop hr)
            have hxl : rows.length + more.length = (rows.take i ++ more ++ rows.drop i).length := by simp; omega
            have hgB' : g ∉ B' := fun hh => (k2 g hh).elim hB fun hh => hd1 g (List.mem_cons_self ..) (List.mem_cons_of_mem _ hh)
            have hl1 : ((cur.toList.take (rows.length * 3)).take (i * 3) ++ curB.toList.take (more.length * 3) ++ (cur.toList.take (rows.length * 3)).drop (i * 3)).length = (rows.length + more.length) * 3 := by
              have : (cur.toList.take (rows.length * 3)).length = rows.length * 3 := by rw [List.length_take, hcurl]; omega
              simp only [List.length_append, List.length_take, List.length_drop] at this hul ⊢
              omega
            by_cases hroom : rows.length + more.length ≤ cap
            · refine (hshift g rows.length cap i gb 0 more.length vc cur E _ w hg hs hm hr.ones hi hm0 hroom hne hul hrB.ones curB EB hgB hus).mono fun e w' ⟨he', C1, hC1, hw⟩ => ?_
              have e2 := shift_list hcurl hi hroom hul hC1
              rw [e2] at hw
              have hblk : ∀ k, k ≠ g → w'.heap[k]? = w.heap[k]? := fun k hk => by rw [hw, setRow_other _ g k _ hk, setRow_other _ g k _ hk]; rfl
              have hsz' : w'.heap.size = w.heap.size := by rw [hw, setRow_size, setRow_size]; rfl
              have hBs : ∀ b ∈ g :: B', b ∈ g :: B ∨ b ∈ gb :: BB ∨ (w.heap.size ≤ b ∧ b < w'.heap.size) := fun b hb => by
                rcases List.mem_cons.1 hb with rfl | hb
                · exact .inl (List.mem_cons_self ..)
                · exact (k2 b hb).elim (fun h => .inl (List.mem_cons_of_mem _ h)) fun h => .inr (.inl (List.mem_cons_of_mem _ h))
              refine ⟨_, g :: B', he', ?_, fun b hb => ⟨?_, ?_⟩, ?_⟩
              · have h9 := k1.step (ok' := fun k => (okA k ∨ w.heap.size ≤ k ∨ k ∈ g :: B ++ gb :: BB) ∧ k ∉ g :: B') (w' := w') (fun k _ hk => hok _ w' hBs k hk)
                  (fun k hk hh => hblk k fun hh' => by
                    subst hh'
                    exact hh.elim (fun hh => hno k (List.mem_append_left _ (List.mem_cons_self ..)) hh.1) hgB')
                refine .own g _ cap 3 _ E _ B' hx hxl trivial (by omega) hm
                  (by rw [hw]; exact setRow_heap (w.drew.setRow g _) g _ _ E (0, 0) (setRow_heap w.drew g cur _ E (0, 0) hg)) ?_ ?_ hgB'
                · simp only [List.size_toArray, List.length_append, List.length_drop, hcurl] at hl1 ⊢
                  omega
                · rw [List.toList_toArray, List.take_left' hl1]
                  exact h9
              · rw [hsz']
                rcases List.mem_cons.1 hb with rfl | hb
                · exact hgl
                · exact k1.lt b hb
              · rcases hBs b hb with h | h | h
                · exact .inr (List.mem_append_left _ h)
                · exact .inr (List.mem_append_right _ h)
                · exact .inl h.1
              · rw [hw]
                exact (Fr.drew _ w).trans ((Fr.setRow w.drew (.inr (List.mem_append_left _ (List.mem_cons_self ..))) _).trans (Fr.setRow _ (.inr (List.mem_append_left _ (List.mem_cons_self ..))) _))
            · refine (hgrow g rows.length cap i gb 0 more.length vc cur E _ w hg hs hcap hr.ones hi hm0 (by omega) hbig hul hrB.ones curB EB hgB hus).mono fun e w' ⟨G, R0, R1, hG1, hG2, he', hR0l, hR0, hR1, hw⟩ => ?_
              have e2 := grow_list hcurl hi hcap hul hR0 hR1
              have hR1l : R1.length = G * 3 := by
                rw [hR1]
                simp only [List.length_append, List.length_take, List.length_drop, hR0l] at hul ⊢
                omega
              rw [e2] at hw
              generalize hN : w.heap.size = N at *
              have hblk : ∀ k, k < N → w'.heap[k]? = w.heap[k]? := fun k hk => by
                rw [hw, setRow_other _ N k _ (by omega)]
                show ((w.alloc (.cells R0.toArray el)).drew.setRow N R1.toArray).heap[k]? = _
                rw [setRow_other _ N k _ (by omega)]
                exact heap_alloc_old w _ k (by omega)
              have hsz' : w'.heap.size = N + 1 := by
                rw [hw, setRow_size]
                show ((w.alloc (.cells R0.toArray el)).drew.setRow N R1.toArray).heap.size = _
                rw [setRow_size]
                show (w.alloc (.cells R0.toArray el)).heap.size = _
                simp [hN]
              have hlt : ∀ b ∈ B', b < N := fun b hb => by have := k1.lt b hb; omega
              have hNB : N ∉ B' := fun hh => Nat.lt_irrefl _ (hlt N hh)
              have hBs : ∀ b ∈ N :: B', b ∈ g :: B ∨ b ∈ gb :: BB ∨ (N ≤ b ∧ b < w'.heap.size) := fun b hb => by
                rcases List.mem_cons.1 hb with rfl | hb
                · exact .inr (.inr ⟨Nat.le_refl _, by omega⟩)
                · exact (k2 b hb).elim (fun h => .inl (List.mem_cons_of_mem _ h)) fun h => .inr (.inl (List.mem_cons_of_mem _ h))
              refine ⟨_, N :: B', he', ?_, fun b hb => ⟨?_, ?_⟩, ?_⟩
              · have h9 := k1.step (ok' := fun k => (okA k ∨ N ≤ k ∨ k ∈ g :: B ++ gb :: BB) ∧ k ∉ N :: B') (w' := w') (fun k _ hk => hok _ w' hBs k hk) (fun k hk hh => hblk k (by omega))
                refine .own N _ G 3 _ el _ B' hx hxl trivial hG1 hG2
                  (by rw [hw]; exact setRow_heap _ N _ _ el (0, 0) (setRow_heap _ N R0.toArray _ el (0, 0) (by rw [← hN]; exact heap_alloc_new w _))) ?_ ?_ hNB
                · simp only [List.size_toArray, List.length_append, List.length_drop, hR1l] at hl1 ⊢
                  omega
                · rw [List.toList_toArray, List.take_left' hl1]
                  exact h9
              · rw [hsz']
                rcases List.mem_cons.1 hb with rfl | hb
                · omega
                · have := hlt b hb; omega
              · rcases hBs b hb with h | h | h
                · exact .inr (List.mem_append_left _ h)
                · exact .inr (List.mem_append_right _ h)
                · exact .inl h.1
              · refine ⟨by rw [hw]; rfl, by rw [hw]; rfl, by rw [hw]; rfl, by omega, fun k hk _ => hblk k (by omega)⟩
    · cases h
  · cases h
end
end Go.Abs
set_option linter.unusedVariables false
set_option linter.unusedSimpArgs false
namespace Go.Abs
open Go Go.RowKit Go.ChangeShapes Go.WideShapes

/-- Cells that read as a datum of type t are an α's cells, and G holds of it. -/
structure OpnD {α : Type} (P : Program) (t : TypeId) (n : Nat) (enc : α → List D) (G : α → Prop) : Prop where
  cells : P.cellsOf t = n
  rows : ∀ a, (enc a).length = n
  read : ∀ (H : Type) (en : TypeId × Value → H) (w : World) (base : Nat) (held : Bool) (fuel : Nat) (cs : List Value) (x : DataW H × List MemPlace),
    DataW.trod en P w base (fun _ => true) held fuel t cs = some x → ∃ a : α, RdL (fun k => k < w.heap.size) w cs (enc a) [] ∧ G a

theorem opn_int {P : Program} {t : TypeId} (hu : P.underlying t = some (.int .i64)) (hc : P.cellsOf t = 1) : OpnD P t 1 (fun n : Int => [.int .i64 n]) (fun _ => True) :=
  ⟨hc, fun _ => rfl, fun H en w base held fuel cs x h => by
    obtain ⟨n, rfl, _, hw⟩ := DataW.trod_int hu h
    exact ⟨n, (Rd.int .i64 n).single, trivial⟩⟩
theorem opn_bool {P : Program} {t : TypeId} (hu : P.underlying t = some .bool) (hc : P.cellsOf t = 1) : OpnD P t 1 (fun b : Bool => [.bool b]) (fun _ => True) :=
  ⟨hc, fun _ => rfl, fun H en w base held fuel cs x h => by
    obtain ⟨n, rfl, _⟩ := DataW.trod_bool hu h
    exact ⟨n, (Rd.bool n).single, trivial⟩⟩
theorem opn_string {P : Program} {t : TypeId} (hu : P.underlying t = some .string) (hc : P.cellsOf t = 1) : OpnD P t 1 (fun s : ByteArray => [.str s]) (fun s => s.size ≤ maxLen) :=
  ⟨hc, fun _ => rfl, fun H en w base held fuel cs x h => by
    obtain ⟨n, rfl, _, hw⟩ := DataW.trod_string hu h
    exact ⟨n, (Rd.str n).single, hw⟩⟩
theorem addr_add' (b off k : Nat) : (⟨b, off, none⟩ : Addr).add k = ⟨b, off + k, none⟩ := by
  unfold Addr.add
  first | rfl | (split <;> simp_all)
theorem list_of {α : Type} {R : Nat → α → Prop} : ∀ n : Nat, (∀ i, i < n → ∃ a, R i a) → ∃ l : List α, l.length = n ∧ ∀ i a, l[i]? = some a → R i a
  | 0, _ => ⟨[], rfl, fun i a h => by simp at h⟩
  | n + 1, h => by
    obtain ⟨l, hl, hR⟩ := list_of n (fun i hi => h i (by omega))
    obtain ⟨a, ha⟩ := h n (by omega)
    refine ⟨l ++ [a], by simp [hl], fun i b hb => ?_⟩
    rcases Nat.lt_or_ge i l.length with hi | hi
    · rw [List.getElem?_append_left hi] at hb
      exact hR i b hb
    · rw [List.getElem?_append_right hi] at hb
      have h0 : i - l.length = 0 := by
        have := (List.getElem?_eq_some_iff.1 hb).1
        simp at this
        omega
      rw [h0] at hb
      simp at hb
      obtain rfl : i = n := by omega
      rw [← hb]; exact ha
theorem flat_cells {w : World} {b n : Nat} : ∀ (L : List (List Value)) (k : Nat), (∀ r ∈ L, r.length = n) → (∀ i r, L[i]? = some r → ∀ j u, r[j]? = some u → w.cell? ⟨b, k + i * n + j, none⟩ = some u) →
    ∀ j v, L.flatten[j]? = some v → w.cell? ⟨b, k + j, none⟩ = some v
  | [], k, _, _, j, v, h => by simp at h
  | r :: L, k, hl, hc, j, v, h => by
    have hr : r.length = n := hl r (List.mem_cons_self ..)
    rw [List.flatten_cons] at h
    rcases Nat.lt_or_ge j r.length with hj | hj
    · rw [List.getElem?_append_left hj] at h
      have := hc 0 r rfl j v h
      simpa using this
    · rw [List.getElem?_append_right hj] at h
      have := flat_cells L (k + n) (fun r' hr' => hl r' (List.mem_cons_of_mem _ hr')) (fun i r' hi j' u hu => by
        have := hc (i + 1) r' (by simpa using hi) j' u hu
        rw [Nat.add_mul, Nat.one_mul] at this
        rw [show k + n + i * n + j' = k + (i * n + n) + j' by omega]
        exact this) (j - r.length) v h
      rw [hr] at this hj
      rw [show k + n + (j - n) = k + j by omega] at this
      exact this
theorem flat_rd {w : World} {ok : Nat → Prop} {α : Type} {enc : α → List D} : ∀ (L : List (List Value × α)), (∀ p ∈ L, RdL ok w p.1 (enc p.2) []) → RdL ok w (L.map (·.1)).flatten (L.map fun p => enc p.2).flatten []
  | [], _ => .nil
  | p :: L, h => by
    have := (h p (List.mem_cons_self ..)).app (flat_rd L fun q hq => h q (List.mem_cons_of_mem _ hq)) (by simp)
    simpa using this
theorem opn_slice {α : Type} {n : Nat} {enc : α → List D} {G : α → Prop} {P : Program} {t e : TypeId} (hu : P.underlying t = some (.slice e)) (hc : P.cellsOf t = 1) (hn : 0 < n) (he : OpnD P e n enc G) :
    OpnD P t 1 (fun l : List α => [.list false n (l.map enc)]) (fun l => l.length ≤ maxLen ∧ ∀ a ∈ l, G a) :=
  ⟨hc, fun _ => rfl, fun H en w base held fuel cs x h => by
    rcases Go.Deep.open_slice hu h with ⟨rfl, _⟩ | ⟨a, len, cap, m, m', D', Pl, rfl, hb, hl, hm, hmm, _, hx⟩
    · exact ⟨[], (Rd.empty none false n).single, by simp, fun _ h => by simp at h⟩
    · simp only [if_true] at hmm
      subst hmm
      by_cases h0 : m = 0
      · subst h0
        obtain rfl : len = 0 := by omega
        exact ⟨[], (Rd.empty (some a) false n).single, by simp, fun _ h => by simp at h⟩
      have hel : ∀ i, i < len → ∃ p : List Value × α, (p.1.length = n ∧ RdL (fun k => k < w.heap.size) w p.1 (enc p.2) [] ∧ ∀ j u, p.1[j]? = some u → w.cell? (a.add (i * n + j)) = some u) ∧ G p.2 := by
        intro i hi
        obtain ⟨cs', hcs, ht⟩ := hx i (by omega)
        obtain ⟨y, hy, hg⟩ := he.read H en w base held m' cs' _ ht
        obtain ⟨_, hlen, hcell⟩ := World.cells?_some hcs
        rw [he.cells] at hlen hcell
        refine ⟨(cs', y), ⟨hlen, hy, fun j u hj => ?_⟩, hg⟩
        have hj' : j < n := by rw [← hlen]; exact (List.getElem?_eq_some_iff.1 hj).1
        have := hcell j hj'
        rw [Addr.add_add, hj] at this
        exact this
      -- the first cell tells that the address is a plain one
      obtain ⟨b, off, spot⟩ := a
      have hspot : spot = none := by
        obtain ⟨cs', hcs, ht⟩ := hx 0 (by omega)
        obtain ⟨_, hlen, hcell⟩ := World.cells?_some hcs
        rw [he.cells] at hlen hcell
        have := hcell 0 hn
        rw [List.getElem?_eq_getElem (by omega)] at this
        simpa [Addr.add] using World.cell?_spot this
      subst hspot
      obtain ⟨L, hll, hR⟩ := list_of len hel
      have hmem : ∀ p ∈ L, p.1.length = n ∧ RdL (fun k => k < w.heap.size) w p.1 (enc p.2) [] ∧ G p.2 := by
        intro p hp
        obtain ⟨j, hj⟩ := List.mem_iff_getElem?.1 hp
        exact ⟨(hR j p hj).1.1, (hR j p hj).1.2.1, (hR j p hj).2⟩
      refine ⟨L.map (·.2), ?_, by rw [List.length_map]; omega, fun y hy => ?_⟩
      · have hv := Rd.view (ok := fun k => k < w.heap.size) (w := w) b off len m n ((L.map (·.2)).map enc) (L.map (·.1)).flatten (fun r hr => by
            simp at hr
            obtain ⟨y, z, _, rfl⟩ := hr
            exact he.rows _) (by simp [hll]) hl hm (fun j v hj => by
            have := flat_cells (w := w) (b := b) (n := n) (L.map (·.1)) off (fun r hr => by
                simp at hr
                obtain ⟨y, hy⟩ := hr
                exact (hmem _ hy).1) (fun i r hi j u hu => by
                simp at hi
                obtain ⟨y, hy⟩ := hi
                have := (hR i _ hy).1.2.2 j u hu
                rw [addr_add'] at this
                rw [Nat.add_assoc]
                exact this) j v hj
            exact ⟨World.block_lt_of_cell? w _ this, this⟩) (by
            have := flat_rd (ok := fun k => k < w.heap.size) (w := w) (enc := enc) L fun p hp => (hmem p hp).2.1
            simpa [List.map_map, Function.comp_def] using this)
        exact hv.single
      · simp at hy
        obtain ⟨r, hr⟩ := hy
        exact (hmem _ hr).2.2⟩
/-- A struct's field: the cells from o on are its cells, then the others'. -/
theorem rdl_field {ok : Nat → Prop} {w : World} {cs : List Value} {o n : Nat} {d1 d2 : List D} (h1 : RdL ok w ((cs.drop o).take n) d1 []) (h2 : RdL ok w (cs.drop (o + n)) d2 []) : RdL ok w (cs.drop o) (d1 ++ d2) [] := by
  have := h1.app h2 (by simp)
  rw [← List.drop_drop, List.take_append_drop] at this
  simpa using this
theorem opn_field {α : Type} {P : Program} {t : TypeId} {n : Nat} {enc : α → List D} {G : α → Prop} (ho : OpnD P t n enc G) {H : Type} {en : TypeId × Value → H} {w : World} {base : Nat} {held : Bool} {fu off : Nat} {cs : List Value} {xs : List (DataW H × List MemPlace)} {i : Nat}
    (hi : i < xs.length) (h : DataW.trod en P w base (fun _ => true) held fu t ((cs.drop off).take (P.cellsOf t)) = xs[i]?) : ∃ a : α, RdL (fun k => k < w.heap.size) w ((cs.drop off).take n) (enc a) [] ∧ G a := by
  rw [List.getElem?_eq_getElem hi, ho.cells] at h
  exact ho.read H en w base held fu _ _ h
/-- An argument of one cell. -/
theorem arg_one {α : Type} {P : Program} {t : TypeId} {enc : α → D} {G : α → Prop} (ho : OpnD P t 1 (fun a => [enc a]) G) {H : Type} {en : TypeId × Value → H} {w : World} {base : Nat} {held : Bool} {v : Value} {dd : DataW H} {ps : List MemPlace}
    (h : DataW.Trod en P w base (fun _ => true) held t v dd ps) (hv : v.cells.toList = [v]) : ∃ a : α, AvR (fun k => k < w.heap.size) w v (.val (.one (enc a))) [] ∧ G a := by
  obtain ⟨fuel, hf⟩ := h
  rw [hv] at hf
  obtain ⟨a, h1, h2⟩ := ho.read H en w base held fuel _ _ hf
  exact ⟨a, .val _ _ _ (.one _ _ _ h1.single), h2⟩
/-- An argument that is a struct. -/
theorem arg_agg {α : Type} {P : Program} {t : TypeId} {n : Nat} {enc : α → List D} {G : α → Prop} (ho : OpnD P t n enc G) {H : Type} {en : TypeId × Value → H} {w : World} {base : Nat} {held : Bool} {cs : Array Value} {dd : DataW H} {ps : List MemPlace}
    (h : DataW.Trod en P w base (fun _ => true) held t (.agg cs) dd ps) : ∃ a : α, AvR (fun k => k < w.heap.size) w (.agg cs) (.val (.agg (enc a))) [] ∧ G a := by
  obtain ⟨fuel, hf⟩ := h
  obtain ⟨a, h1, h2⟩ := ho.read H en w base held fuel _ _ hf
  refine ⟨a, .val _ _ _ ?_, h2⟩
  have := VR.agg (w := w) _ _ _ h1
  simpa [Value.cells] using this
theorem opn_G {α : Type} {P : Program} {t : TypeId} {n : Nat} {enc : α → List D} {G G' : α → Prop} (h : OpnD P t n enc G) (hG : ∀ a, G a → G' a) : OpnD P t n enc G' :=
  ⟨h.cells, h.rows, fun H en w base held fuel cs x ht => by
    obtain ⟨a, ha, hg⟩ := h.read H en w base held fuel cs x ht
    exact ⟨a, ha, hG a hg⟩⟩
/-- A package variable's cells are told. -/
theorem glob_at {P : Program} {W : World} {name : String} {g : Nat} {glob : Nat → List D} {cs : Array Value} (hg : P.globalNamed name = some g) (hv : W.var? P name = some cs) (hr : RdL (fun _ => False) W cs.toList (glob g) []) :
    ∃ vs, RdL (fun _ => False) W vs (glob g) [] ∧ (∀ j u, vs[j]? = some u → (g < W.heap.size ∧ ¬ (W.heap.size ≤ g ∨ g ∈ ([] : List Nat))) ∧ W.cell? ⟨g, j, none⟩ = some u) ∧ (vs ≠ [] → glob g ≠ [.anyi .i64] → ∃ E k, W.heap[g]? = some (.cells vs.toArray E k)) := by
  have hb : ∃ E k, W.heap[g]? = some (.cells cs E k) := by
    unfold World.var? at hv
    rw [hg] at hv
    simp only [Option.bind_some] at hv
    split at hv
    · cases hv; exact ⟨_, _, ‹_›⟩
    · cases hv
  obtain ⟨E, k, hb⟩ := hb
  have hlt : g < W.heap.size := (Array.getElem?_eq_some_iff.1 hb).1
  refine ⟨cs.toList, hr, fun j u hj => ⟨⟨hlt, fun hh => hh.elim (fun hh => Nat.not_lt.2 hh hlt) fun hh => by cases hh⟩, ?_⟩, fun _ _ => ⟨E, k, by simpa using hb⟩⟩
  have := World.var?_cell hg hv j
  rw [this, ← Array.getElem?_toList]; exact hj
theorem glob_any {W : World} {g : Nat} {glob : Nat → List D} {m : Int} (hm : W.cell? ⟨g, 0, none⟩ = some (.int .i64 m)) (hgl : glob g = [.anyi .i64] := by rfl) :
    ∃ vs, RdL (fun _ => False) W vs (glob g) [] ∧ (∀ j u, vs[j]? = some u → (g < W.heap.size ∧ ¬ (W.heap.size ≤ g ∨ g ∈ ([] : List Nat))) ∧ W.cell? ⟨g, j, none⟩ = some u) ∧ (vs ≠ [] → glob g ≠ [.anyi .i64] → ∃ E k, W.heap[g]? = some (.cells vs.toArray E k)) := by
  have hlt : g < W.heap.size := World.block_lt_of_cell? W _ hm
  refine ⟨[.int .i64 m], by rw [hgl]; exact (Rd.anyi .i64 m).single, fun j u hj => ⟨⟨hlt, fun hh => hh.elim (fun hh => Nat.not_lt.2 hh hlt) fun hh => by cases hh⟩, ?_⟩, fun _ h => absurd hgl h⟩
  cases j with
  | zero => cases hj; exact hm
  | succ j => simp at hj
theorem glob_none {W : World} {g : Nat} {glob : Nat → List D} (h : glob g = []) :
    ∃ vs, RdL (fun _ => False) W vs (glob g) [] ∧ (∀ j u, vs[j]? = some u → (g < W.heap.size ∧ ¬ (W.heap.size ≤ g ∨ g ∈ ([] : List Nat))) ∧ W.cell? ⟨g, j, none⟩ = some u) ∧ (vs ≠ [] → glob g ≠ [.anyi .i64] → ∃ E k, W.heap[g]? = some (.cells vs.toArray E k)) :=
  ⟨[], by rw [h]; exact .nil, fun j u hj => by simp at hj, fun h => absurd rfl h⟩
theorem RdL.intsK {ok : Nat → Prop} {w : World} {k : IntKind} : ∀ (zs : List Int), RdL ok w (zs.map (Value.int k)) (zs.map (D.int k)) []
  | [] => .nil
  | z :: zs => by
    have := RdL.cons _ _ _ _ [] [] (Rd.int k z) (RdL.intsK (ok := ok) (w := w) (k := k) zs) (by simp)
    simpa using this
/-- As the kit's wrap for a row with a list, with the world's shape handed on. -/
theorem returns_shaped {H : Type} {enc : TypeId × Value → H} {a : Assume} {C : Checked} {os : Os} {f : FuncId} {fn : Func} {s : ChangeSpec} {conds : List PathCond} {apart fresh handsOn again : Bool} {X : World → Array Value → Prop}
    (hX : ∀ (w w' : World) (args : Array Value), w.heap = w'.heap → X w args → X w' args)
    (own : ownKnob C.prog.godebug = none) (started : os.Started) (noInit : C.prog.inits.idxOf? f = none) (hfn : C.prog.funcs[f]? = some fn)
    (witness : ∃ (w : World) (tape : Tape) (i : Input), w.os = os ∧ (w.forCall tape i).Shaped C.prog ∧ i.vars = [] ∧ Input.okWide C.prog (w.forCall tape i) .any w.heap.size f i ∧
      ((s.pre enc C.prog fn conds apart (w.forCall tape i).memory i.args ∧ X (w.forCall tape i).memory i.args) ∧ sizedMet enc C.prog fn (OpenSpec.ofChange s) apart (w.forCall tape i).memory i.args) ∧ a.holds C.prog (lone (Frame.enter C.prog f i.args .normal) [] (w.forCall tape i)))
    (contract : ∀ (W : World) (base : Nat) (args : Array Value) (ds gs : List (DataW H)) (before : List MemPlace),
      (∀ (j : Nat) t v, fn.params[j]? = some t → args[j]? = some v → Value.okWide C.prog W .any base t v) →
      DataW.Whole enc C.prog fn.params.toList s.vars apart W args.toList ds gs before →
      conds.all (PathCond.test C.prog ⟨fn.params.toList, ds, s.plain.varTypes C.prog, gs⟩) = true →
      (DataW.weightsEach C.prog (fn.params.toList ++ s.plain.varTypes C.prog) (ds ++ gs)).all (· ≤ reachBytes) = true → X W args → W.ShapedOpen C.prog →
      a.holds C.prog (lone (Frame.enter C.prog f args .normal) [] W) →
      Calls C.prog f args W fun e W' => ∃ v, e = .returned v ∧ s.post enc C.prog fn apart fresh handsOn again W args v W') :
    ReturnsInHanded a C os f .any (fun w args => (s.pre enc C.prog fn conds apart w args ∧ X w args) ∧ sizedMet enc C.prog fn (OpenSpec.ofChange s) apart w args) (s.post enc C.prog fn apart fresh handsOn again) := by
  refine returnsInHanded_of_calls own started noInit witness ?_
  intro w tape i _ hsh _ hok hpre hholds
  obtain ⟨_, _, _, fn', hfn', _, _, _, _, hval⟩ := hok
  have e : fn' = fn := Option.some.inj (hfn'.symm.trans hfn)
  subst e
  obtain ⟨⟨⟨ds, gs, before, hw, hc⟩, hx⟩, hz⟩ := hpre
  have hw' := DataW.Whole.of_heap (w' := w.forCall tape i) (by rfl) hw
  refine (contract (w.forCall tape i) w.heap.size i.args ds gs before hval hw' hc (hz.weights hw) (hX _ _ _ (by rfl) hx) hsh hholds).mono fun e W' ⟨v, he, hp⟩ => ?_
  subst he
  exact ChangeSpec.post_blind hp
end Go.Abs
