/- The law BattleLosses, run. -/
import Derived.Test.YtbbiikkiidgpaaaGreatDoorB7
set_option linter.unusedSimpArgs false
set_option linter.unusedVariables false
set_option maxRecDepth 100000
set_option maxHeartbeats 2000000
namespace Go.Abs.W
open Go Go.Abs Classical
attribute [-simp] Bool.decide_and
noncomputable def lossA (b : Board) (s : State) (x : Battle) (r : Int) : Int := if ResOK b s x r then stepsG s x.attackers - stepsG (applyM s x r) x.attackers else 0
noncomputable def lossD (b : Board) (s : State) (x : Battle) (r : Int) : Int := if ResOK b s x r then stepsG s x.defenders - stepsG (applyM s x r) x.defenders else 0
theorem small_G {s : State} {l : List Int} (hf : Few s) (hl : l.length ≤ 1048576) (hh : ∀ k ∈ l, Has s k) : 0 ≤ stepsG s l ∧ stepsG s l ≤ 104857600 := by
  have := sumI_le' (fun k => (unitAt s k).steps) l 100 fun k hk => hf.at (hh k hk)
  unfold stepsG
  omega
theorem c_spec_BattleLosses (b : Board) (s : State) (x : Battle) (r : Int) (gb : LenB b) (gs : Len s.units.length) (gx : LenBattle x) : C n_spec_BattleLosses [BoardV false b, StateV false s, BattleV false x, I r] = some (.tup [some (.one (.int .i64 (lossA b s x r))), some (.one (.int .i64 (lossD b s x r))), some (.one (.bool (decide (ResOK b s x r))))]) := by
  refine callC p_spec_BattleLosses rfl ?_
  have e1 := c_spec_aResult b s x r gb gs gx
  unfold lossA lossD
  by_cases h : ResOK b s x r
  rotate_left
  · simp [xRun, a_spec_BattleLosses, e1, h]
  obtain ⟨⟨h1, h2⟩, h3⟩ := h
  have hP : ResOK b s x r := ⟨⟨h1, h2⟩, h3⟩
  have hx := h2.sides h1 gx
  have hs12 := h1.lens
  have hbal := Bal2.apply h1 h2 hx r
  have hlen := apply_len s x r
  have e2 := c_spec_aApply s x r h1.few hx gs h3
  have e3 := c_spec_sOwner s x.pos (by omega)
  have hown := h2.own
  have ho : ownerM s x.pos = 0 ∨ ownerM s x.pos = 1 := by
    rcases owner_cases h1 h2.pos.1 with ⟨o1, _⟩ | ⟨o1, _⟩
    · omega
    · unfold Side at o1; omega
  have w0 : IntKind.i64.wrap (1 - ownerM s x.pos) = 1 - ownerM s x.pos := wrap_small (by omega) (by omega)
  have q1 := hbal.a.eq
  have q2 := hbal.d.eq
  have hf := hbal.f
  have ha : ∀ k ∈ x.attackers, Has (applyM s x r) k := fun k hk => (hbal.a.u k hk).1
  have hd : ∀ k ∈ x.defenders, Has (applyM s x r) k := fun k hk => (hbal.d.u k hk).1
  have gxa := gx.a
  have gxd := gx.d
  unfold Len at gxa gxd
  have s1 := small_G h1.few gxa hx.a
  have s2 := small_G h1.few gxd hx.d
  have s3 := small_G hf gxa ha
  have s4 := small_G hf gxd hd
  generalize applyM s x r = out at *
  have e4 := c_spec_sSteps s (1 - ownerM s x.pos) h1.few (by omega)
  have e5 := c_spec_sSteps s (ownerM s x.pos) h1.few (by omega)
  have e6 := c_spec_sSteps out (1 - ownerM s x.pos) hf (by omega)
  have e7 := c_spec_sSteps out (ownerM s x.pos) hf (by omega)
  have w1 : IntKind.i64.wrap (stepsG s (onSide s (1 - ownerM s x.pos)) - stepsG out (onSide out (1 - ownerM s x.pos))) = stepsG s x.attackers - stepsG out x.attackers := by rw [wrap_small (by omega) (by omega)]; omega
  have w2 : IntKind.i64.wrap (stepsG s (onSide s (ownerM s x.pos)) - stepsG out (onSide out (ownerM s x.pos))) = stepsG s x.defenders - stepsG out x.defenders := by rw [wrap_small (by omega) (by omega)]; omega
  simp [xRun, a_spec_BattleLosses, e1, hP, e2, e3, w0, e4, e5, e6, e7, w1, w2]
theorem c_impl_BattleLosses (b : Board) (s : State) (x : Battle) (r : Int) (gb : LenB b) (gs : Len s.units.length) (gx : LenBattle x) : C n_impl_BattleLosses [BoardV false b, StateV false s, BattleV false x, I r] = some (.tup [some (.one (.int .i64 (lossA b s x r))), some (.one (.int .i64 (lossD b s x r))), some (.one (.bool (decide (ResOK b s x r))))]) := by
  refine callC p_impl_BattleLosses rfl ?_
  have e1 := c_impl_ApplyResult b s x r gb gs gx
  unfold resS at e1
  unfold lossA lossD
  by_cases h : ResOK b s x r
  rotate_left
  · simp only [if_neg h, decide_eq_false h] at e1
    simp [xRun, a_impl_BattleLosses, e1, h]
  simp only [if_pos h, decide_eq_true h] at e1
  have hP := h
  obtain ⟨⟨h1, h2⟩, h3⟩ := h
  have hx := h2.sides h1 gx
  have hs12 := h1.lens
  have hbal := Bal2.apply h1 h2 hx r
  have hf := hbal.f
  have ha : ∀ k ∈ x.attackers, Has (applyM s x r) k := fun k hk => (hbal.a.u k hk).1
  have hd : ∀ k ∈ x.defenders, Has (applyM s x r) k := fun k hk => (hbal.d.u k hk).1
  have gxa := gx.a
  have gxd := gx.d
  unfold Len at gxa gxd
  have s1 := small_G h1.few gxa hx.a
  have s2 := small_G h1.few gxd hx.d
  have s3 := small_G hf gxa ha
  have s4 := small_G hf gxd hd
  generalize applyM s x r = out at *
  have e4 := c_impl_stepsOf s x.attackers h1.few hx.al hx.a
  have e5 := c_impl_stepsOf s x.defenders h1.few hx.dl hx.d
  have e6 := c_impl_stepsOf out x.attackers hf hx.al ha
  have e7 := c_impl_stepsOf out x.defenders hf hx.dl hd
  have w1 : IntKind.i64.wrap (stepsG s x.attackers - stepsG out x.attackers) = stepsG s x.attackers - stepsG out x.attackers := wrap_small (by omega) (by omega)
  have w2 : IntKind.i64.wrap (stepsG s x.defenders - stepsG out x.defenders) = stepsG s x.defenders - stepsG out x.defenders := wrap_small (by omega) (by omega)
  simp [xRun, a_impl_BattleLosses, e1, hP, e4, e5, e6, e7, w1, w2]
theorem law_BattleLosses (b : Board) (s : State) (x : Battle) (r : Int) (wb : WideB b) (ws : Wide s.units.length) (wx : WideBattle x) : C n_laws_FnExactBattleLosses [BoardV false b, StateV false s, BattleV false x, I r] = some (Bo true) := by
  refine callC p_laws_FnExactBattleLosses rfl ?_
  have z1 := c_laws_szBoard b _ left0 wb
  by_cases h1 : (1048576 : Int) < (cntB b : Nat)
  · rw [less_yes h1] at z1
    simp [xRun, a_laws_FnExactBattleLosses, z1]
  rw [less_no h1] at z1
  have h1' : ¬ (1048576 : Int) - (cntB b : Nat) < 0 := by omega
  have z2 := c_laws_szState s _ (less_left left0 h1) ws
  by_cases h2 : (1048576 : Int) - (cntB b : Nat) < (s.units.length : Nat)
  · rw [less_yes h2] at z2
    simp [xRun, a_laws_FnExactBattleLosses, z1, h1', z2]
  rw [less_no h2] at z2
  have h2' : ¬ (1048576 : Int) - (cntB b : Nat) - (s.units.length : Nat) < 0 := by omega
  have z3 := c_laws_szBattle x _ (less_left (less_left left0 h1) h2) wx
  by_cases h3 : (1048576 : Int) - (cntB b : Nat) - (s.units.length : Nat) < (cntBattle x : Nat)
  · rw [less_yes h3] at z3
    simp [xRun, a_laws_FnExactBattleLosses, z1, h1', z2, h2', z3]
  rw [less_no h3] at z3
  have h3' : ¬ (1048576 : Int) - (cntB b : Nat) - (s.units.length : Nat) - (cntBattle x : Nat) < 0 := by omega
  have gb : LenB b := LenB_of (by omega)
  have gs : Len s.units.length := by unfold Len; omega
  have gx : LenBattle x := LenBattle_of (by omega)
  simp [xRun, a_laws_FnExactBattleLosses, z1, h1', z2, h2', z3, h3', c_laws_toBoard b gb, c_laws_eqBoard b gb, c_laws_toState s gs, c_laws_eqState s gs, c_laws_toBattle x gx, c_laws_eqBattle x gx, c_spec_BattleLosses b s x r gb gs gx, c_impl_BattleLosses b s x r gb gs gx]
end Go.Abs.W
