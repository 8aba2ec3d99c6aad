/- The row of FnExactSealChain, out of its pure statement and the printed walk. -/
import Derived.Test.YtgjdonadnofdlaaRows
import Derived.Test.YtgjdonadnofdlaaFacts
import Derived.Test.YtgjdonadnofdlaaPx49
import Derived.Test.YtgjdonadnofdlaaPureFnExactSealChain
import Derived.Test.YtgjdonadnofdlaaOpenT
import Derived.WalkKit
import Derived.ProofKit
import Derived.OpenShut
import Derived.ShutString
import Derived.ChangeOld
import Derived.Below
import Derived.SizedLaws
import Derived.Carry
namespace Go.Proofs.Ytgjdonadnofdlaa.fnExactSealChain
open Go.ChangeShapes Go.WideShapes Go.ChangeAt Go.RowKit Go.Proofs.Ytgjdonadnofdlaa.P Go.Proofs.YtgjdonadnofdlaaW.PrintWords Go.Proofs.Ytgjdonadnofdlaa.Rd
open Go.ChangeMaps (open_string shut_string)
set_option linter.unusedVariables false
theorem own : ownKnob Try.prog.godebug = none := by kernel_rfl
theorem laidOut : laidOutB Try.prog = true := by kernel_rfl
set_option maxRecDepth 100000 in
theorem lifted (os : Os) (started : os.Started) (H : Type) (enc : TypeId × Value → H) :
    ReturnsInHanded {} Try.checked os 19 .any (Rows.fnExactSealChainSpec.pre6 enc Try.prog Try.f19 Rows.fnExactSealChainRow.domain false) (Rows.fnExactSealChainSpec.post enc Try.prog Try.f19 false true false false) := by
  refine returnsInHanded_of_change_sized (C := Try.checked) own started (by kernel_rfl) Try.func19
    (ChangeSpec.witness6 (enc := enc) (C := Try.checked) false ⟨#[], #[.slice none 0 0], []⟩ 12 (by kernel_rfl) (by kernel_rfl) (by kernel_rfl) (by kernel_rfl)) ?_
  intro W base args ds gs before hval0 hW hcnd hsz0 _
  have hsz : (DataW.weightsEach Try.prog (Try.f19.params.toList ++ Rows.fnExactSealChainSpec.plain.varTypes Try.prog) (ds ++ gs)).all (· ≤ reachBytes) = true := hsz0
  have hval : ∀ (j : Nat) t v, Try.f19.params[j]? = some t → args[j]? = some v → Value.okWide Try.prog W .any base t v := hval0
  have hW' := hW
  obtain ⟨p, q, hA0, hV, rfl, hfz, hnd⟩ := hW
  have hA : DataW.TrodAll enc Try.prog W 0 (fun _ => true) true Try.f19.params.toList args.toList ds p := hA0
  rw [Try.params19] at hA hval hsz
  obtain ⟨v0, vs0, d0, ds0, p0, q0, hargs, rfl, rfl, h0, r0⟩ := trodAll_cons hA
  obtain ⟨rfl, rfl, rfl⟩ := trodAll_nil r0
  obtain rfl : args = #[v0] := by cases args; simp_all
  obtain ⟨rfl, rfl⟩ := trodVars_none hV
  have k0 := h0
  have lt0 : ∀ x ∈ p0, x.block < W.heap.size := by obtain ⟨m, hm⟩ := k0; exact DataW.trod_lt m _ _ _ hm
  obtain ⟨a0, len0, cap0, rfl⟩ := okWide_slice Try.underlying62 (hval 0 62 v0 rfl rfl)
  obtain ⟨x0, ⟨A0, c0, e0, l0, C0⟩, G_0⟩ := arg_at (opens_slice Try.underlying62 (by kernel_rfl) open_T23) h0
  obtain ⟨rfl, rfl, rfl⟩ : a0 = A0 ∧ len0 = x0.length ∧ cap0 = c0 := by simpa [Value.cells] using e0
  clear hA0 hval0 hsz0 hsz
  obtain ⟨k, hk⟩ := Pure.FnExactSealChain x0 G_0
  refine (P.laws_FnExactSealChain.calls k _ _ x0 true W C0 l0 hk).mono fun e W' ⟨he, bel⟩ => ?_
  subst he
  exact ⟨_, rfl, _, _, _, [], _, [], hW', trodAll_mk1 (shut_bool Try.underlying4 _), (trodAll_cons_mk (Below.trod laidOut (by kernel_rfl) (of_decide_eq_true (by kernel_rfl)) k0 bel lt0) trodAll_mk0), rfl, bel.frame _, fun h => by cases h⟩
theorem named : Try.prog.funcNamed "loop.example/g00886/laws.FnExactSealChain" = some 19 := by kernel_rfl
set_option maxRecDepth 100000 in
theorem closed : joinedFacts Try.prog 19 Try.f19 Rows.fnExactSealChainSpec Rows.fnExactSealChainRow = true := by
  unfold joinedFacts
  rw [Facts.mayEnter, Facts.liftsFinal, Facts.make]
  kernel_rfl
theorem over : Rows.fnExactSealChainRow.holds Try.pinned (OpenSpec.ofChange Rows.fnExactSealChainSpec) :=
  OpenClaim.holds_of_wide 19 Try.f19 rfl rfl rfl rfl rfl rfl rfl ⟨rfl, rfl, rfl, rfl, rfl⟩ rfl rfl rfl rfl rfl named Try.func19 closed
    (of_decide_eq_true (by kernel_rfl)) (by unfold Func.isWrapper; first | (rw [if_pos (by decide +kernel)]; kernel_rfl) | (rw [if_neg (by decide +kernel)]; exact ⟨rfl, rfl⟩))
    (fun os started H enc _ => lifted os started H enc)
theorem proved : Rows.FnExactSealChainSaid := over
end Go.Proofs.Ytgjdonadnofdlaa.fnExactSealChain
namespace Go.Proofs.Ytgjdonadnofdlaa
/-- The row, under a short name, for the claim. -/
theorem fnExactSealChain_holds : Rows.FnExactSealChainSaid := fnExactSealChain.proved
end Go.Proofs.Ytgjdonadnofdlaa
