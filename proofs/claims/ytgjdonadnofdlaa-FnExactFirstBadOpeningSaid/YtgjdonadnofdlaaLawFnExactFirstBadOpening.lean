/- The row of FnExactFirstBadOpening, out of its pure statement and the printed walk. -/
import Derived.Test.YtgjdonadnofdlaaRows
import Derived.Test.YtgjdonadnofdlaaFacts
import Derived.Test.YtgjdonadnofdlaaPx57
import Derived.Test.YtgjdonadnofdlaaPureFnExactFirstBadOpening
import Derived.Test.YtgjdonadnofdlaaOpenT
import Derived.WalkKit
import Derived.ProofKit
import Derived.OpenShut
import Derived.ShutString
import Derived.ChangeOld
import Derived.Below
import Derived.SizedLaws
import Derived.Carry
namespace Go.Proofs.Ytgjdonadnofdlaa.fnExactFirstBadOpening
open Go.ChangeShapes Go.WideShapes Go.ChangeAt Go.RowKit Go.Proofs.Ytgjdonadnofdlaa.P Go.Proofs.YtgjdonadnofdlaaW.PrintWords Go.Proofs.Ytgjdonadnofdlaa.Rd
open Go.ChangeMaps (open_string shut_string)
set_option linter.unusedVariables false
theorem own : ownKnob Try.prog.godebug = none := by kernel_rfl
theorem laidOut : laidOutB Try.prog = true := by kernel_rfl
set_option maxRecDepth 100000 in
theorem lifted (os : Os) (started : os.Started) (H : Type) (enc : TypeId × Value → H) :
    ReturnsInHanded {} Try.checked os 21 .any (Rows.fnExactFirstBadOpeningSpec.pre6 enc Try.prog Try.f21 Rows.fnExactFirstBadOpeningRow.domain false) (Rows.fnExactFirstBadOpeningSpec.post enc Try.prog Try.f21 false true false false) := by
  refine returnsInHanded_of_change_sized (C := Try.checked) own started (by kernel_rfl) Try.func21
    (ChangeSpec.witness6 (enc := enc) (C := Try.checked) false ⟨#[], #[.slice none 0 0, .slice none 0 0], []⟩ 12 (by kernel_rfl) (by kernel_rfl) (by kernel_rfl) (by kernel_rfl)) ?_
  intro W base args ds gs before hval0 hW hcnd hsz0 _
  have hsz : (DataW.weightsEach Try.prog (Try.f21.params.toList ++ Rows.fnExactFirstBadOpeningSpec.plain.varTypes Try.prog) (ds ++ gs)).all (· ≤ reachBytes) = true := hsz0
  have hval : ∀ (j : Nat) t v, Try.f21.params[j]? = some t → args[j]? = some v → Value.okWide Try.prog W .any base t v := hval0
  have hW' := hW
  obtain ⟨p, q, hA0, hV, rfl, hfz, hnd⟩ := hW
  have hA : DataW.TrodAll enc Try.prog W 0 (fun _ => true) true Try.f21.params.toList args.toList ds p := hA0
  rw [Try.params21] at hA hval hsz
  obtain ⟨v0, vs0, d0, ds0, p0, q0, hargs, rfl, rfl, h0, r0⟩ := trodAll_cons hA
  obtain ⟨v1, vs1, d1, ds1, p1, q1, rfl, rfl, rfl, h1, r1⟩ := trodAll_cons r0
  obtain ⟨rfl, rfl, rfl⟩ := trodAll_nil r1
  obtain rfl : args = #[v0, v1] := by cases args; simp_all
  obtain ⟨rfl, rfl⟩ := trodVars_none hV
  have k0 := h0
  have lt0 : ∀ x ∈ p0, x.block < W.heap.size := by obtain ⟨m, hm⟩ := k0; exact DataW.trod_lt m _ _ _ hm
  obtain ⟨a0, len0, cap0, rfl⟩ := okWide_slice Try.underlying62 (hval 0 62 v0 rfl rfl)
  obtain ⟨x0, ⟨A0, c0, e0, l0, C0⟩, G_0⟩ := arg_at (opens_slice Try.underlying62 (by kernel_rfl) open_T23) h0
  obtain ⟨rfl, rfl, rfl⟩ : a0 = A0 ∧ len0 = x0.length ∧ cap0 = c0 := by simpa [Value.cells] using e0
  have k1 := h1
  have lt1 : ∀ x ∈ p1, x.block < W.heap.size := by obtain ⟨m, hm⟩ := k1; exact DataW.trod_lt m _ _ _ hm
  obtain ⟨a1, len1, cap1, rfl⟩ := okWide_slice Try.underlying89 (hval 1 89 v1 rfl rfl)
  obtain ⟨x1, ⟨A1, c1, e1, l1, C1⟩, G_1⟩ := arg_at (opens_slice Try.underlying89 (by kernel_rfl) open_T51) h1
  obtain ⟨rfl, rfl, rfl⟩ : a1 = A1 ∧ len1 = x1.length ∧ cap1 = c1 := by simpa [Value.cells] using e1
  clear hA0 hval0 hsz0 hsz
  obtain ⟨k, hk⟩ := Pure.FnExactFirstBadOpening x0 x1 G_0 G_1
  refine (P.laws_FnExactFirstBadOpening.calls k _ _ x0 _ _ x1 true W C0 l0 C1 l1 hk).mono fun e W' ⟨he, bel⟩ => ?_
  subst he
  exact ⟨_, rfl, _, _, _, [], _, [], hW', trodAll_mk1 (shut_bool Try.underlying4 _), (trodAll_cons_mk (Below.trod laidOut (by kernel_rfl) (of_decide_eq_true (by kernel_rfl)) k0 bel lt0) (trodAll_cons_mk (Below.trod laidOut (by kernel_rfl) (of_decide_eq_true (by kernel_rfl)) k1 bel lt1) trodAll_mk0)), rfl, bel.frame _, fun h => by cases h⟩
theorem named : Try.prog.funcNamed "loop.example/g00886/laws.FnExactFirstBadOpening" = some 21 := by kernel_rfl
set_option maxRecDepth 100000 in
theorem closed : joinedFacts Try.prog 21 Try.f21 Rows.fnExactFirstBadOpeningSpec Rows.fnExactFirstBadOpeningRow = true := by
  unfold joinedFacts
  rw [Facts.mayEnter, Facts.liftsFinal, Facts.make]
  kernel_rfl
theorem over : Rows.fnExactFirstBadOpeningRow.holds Try.pinned (OpenSpec.ofChange Rows.fnExactFirstBadOpeningSpec) :=
  OpenClaim.holds_of_wide 21 Try.f21 rfl rfl rfl rfl rfl rfl rfl ⟨rfl, rfl, rfl, rfl, rfl⟩ rfl rfl rfl rfl rfl named Try.func21 closed
    (of_decide_eq_true (by kernel_rfl)) (by unfold Func.isWrapper; first | (rw [if_pos (by decide +kernel)]; kernel_rfl) | (rw [if_neg (by decide +kernel)]; exact ⟨rfl, rfl⟩))
    (fun os started H enc _ => lifted os started H enc)
theorem proved : Rows.FnExactFirstBadOpeningSaid := over
end Go.Proofs.Ytgjdonadnofdlaa.fnExactFirstBadOpening
namespace Go.Proofs.Ytgjdonadnofdlaa
/-- The row, under a short name, for the claim. -/
theorem fnExactFirstBadOpening_holds : Rows.FnExactFirstBadOpeningSaid := fnExactFirstBadOpening.proved
end Go.Proofs.Ytgjdonadnofdlaa
