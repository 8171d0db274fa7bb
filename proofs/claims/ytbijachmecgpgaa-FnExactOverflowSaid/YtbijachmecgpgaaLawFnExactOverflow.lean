/- THE LAW FnExactOverflow: for every input that can be read the Go function returns true, and each argument reads behind the call as it read before; no condition beyond those of the given row. -/
import Derived.Test.YtbijachmecgpgaaRows
import Derived.Test.YtbijachmecgpgaaPx46
import Derived.Test.YtbijachmecgpgaaPOpen
import Derived.Test.YtbijachmecgpgaaPureFnExactOverflow
import Derived.Test.YtbijachmecgpgaaClosed
import Derived.WalkKit
import Derived.ProofKit
import Derived.OpenShut
import Derived.ShutString
import Derived.ChangeOld
import Derived.Below
import Derived.SizedLaws
namespace Go.Proofs.Ytbijachmecgpgaa.fnExactOverflow
open Go.ChangeShapes Go.WideShapes Go.ChangeAt Go.RowKit Go.Proofs.YtbijachmecgpgaaW.PrintWords Go.Proofs.Ytbijachmecgpgaa.P
open Go.ChangeMaps (open_string shut_string)
set_option linter.unusedVariables false
theorem own : ownKnob Try.prog.godebug = none := by kernel_rfl
theorem laidOut : laidOutB Try.prog = true := closed3.1
theorem cl : clo edgesL fuelE [11] [] = [11, 17, 46, 19, 47, 35, 31, 54, 15, 58, 56, 68, 36, 32, 55, 16, 45, 67, 74, 57, 21, 49] := by kernel_rfl
theorem jf : joinedFacts Try.prog 11 Try.f11 Rows.fnExactOverflowSpec Rows.fnExactOverflowRow = true := by
  unfold joinedFacts
  simp only [Bool.and_eq_true]
  repeat' (with_reducible apply And.intro)
  all_goals first | (with_reducible exact closed3.1) | (with_reducible exact closed3.2.1) | (with_reducible exact mayE) | (rw [closed3.2.2]; as_aux_lemma => kernel_rfl) | (rw [liftsF]; as_aux_lemma => kernel_rfl) | (rw [makeC]; as_aux_lemma => kernel_rfl) | (rw [Program.inPlace, closure_clo, cl]; as_aux_lemma => kernel_rfl) | (rw [Program.varsNamed, closure_clo, cl]; as_aux_lemma => kernel_rfl) | (rw [recurses_of cl]; as_aux_lemma => kernel_rfl) | (rw [unfollowed_of cl]; as_aux_lemma => kernel_rfl) | (as_aux_lemma => kernel_rfl)
set_option maxRecDepth 100000 in
theorem lifted (os : Os) (started : os.Started) (H : Type) (enc : TypeId × Value → H) :
    ReturnsInHanded {} Try.checked os 11 .any (Rows.fnExactOverflowSpec.pre6 enc Try.prog Try.f11 Rows.fnExactOverflowRow.domain false) (Rows.fnExactOverflowSpec.post enc Try.prog Try.f11 false true false false) := by
  refine returnsInHanded_of_change_sized (C := Try.checked) own started (by kernel_rfl) Try.func11
    (ChangeSpec.witness6 (enc := enc) (C := Try.checked) false ⟨#[], #[.slice none 0 0, .int .i64 0], []⟩ 8 (by kernel_rfl) (by kernel_rfl) (by kernel_rfl) (by kernel_rfl)) ?_
  intro W base args ds gs before hval0 hW hcnd hsz0 _
  have hsz : (DataW.weightsEach Try.prog (Try.f11.params.toList ++ Rows.fnExactOverflowSpec.plain.varTypes Try.prog) (ds ++ gs)).all (· ≤ reachBytes) = true := hsz0
  have hval : ∀ (j : Nat) t v, Try.f11.params[j]? = some t → args[j]? = some v → Value.okWide Try.prog W .any base t v := hval0
  have hW' := hW
  obtain ⟨p, q, hA0, hV, rfl, hfz, hnd⟩ := hW
  have hA : DataW.TrodAll enc Try.prog W 0 (fun _ => true) true Try.f11.params.toList args.toList ds p := hA0
  rw [Try.params11] at hA hval hsz
  obtain ⟨v0, vs0, d0, ds0, p0, q0, hargs, rfl, rfl, h0, r0⟩ := trodAll_cons hA
  obtain ⟨v1, vs1, d1, ds1, p1, q1, rfl, rfl, rfl, h1, r1⟩ := trodAll_cons r0
  obtain ⟨rfl, rfl, rfl⟩ := trodAll_nil r1
  obtain rfl : args = #[v0, v1] := by cases args; simp_all
  obtain ⟨rfl, rfl⟩ := trodVars_none hV
  obtain ⟨a0, len0, cap0, rfl⟩ := okWide_slice Try.underlying24 (hval 0 24 v0 rfl rfl)
  have k0 := h0
  have lt0 : ∀ x ∈ p0, x.block < W.heap.size := by obtain ⟨m, hm⟩ := k0; exact DataW.trod_lt m _ _ _ hm
  obtain ⟨l0, rfl, hl0, hC0, hF0⟩ := openS57 Try.underlying24 h0
  obtain ⟨a1, rfl, rfl, rfl, w1⟩ := open_int Try.underlying3 (hval 1 3 v1 rfl rfl) h1
  clear hA0 hval0 hsz0 hsz
  obtain ⟨k, hp⟩ := Pure.FnExactOverflow l0 a1 (Kd.C_max hC0) hF0 w1
  refine (P.laws_FnExactOverflow.calls k _ _ l0 a1 true W hC0 hl0 hp).mono fun e W' ⟨he, bel0⟩ => ?_
  have bel : Below W.heap.size W W' := bel0
  subst he
  exact ⟨_, rfl, _, _, _, [], _, [], hW', trodAll_mk1 (shut_bool Try.underlying4 _), (trodAll_cons_mk (Below.trod laidOut (by kernel_rfl) (of_decide_eq_true (by kernel_rfl)) k0 bel lt0) (trodAll_cons_mk (shut_int Try.underlying3 w1) trodAll_mk0)), rfl, bel.frame _, fun h => by cases h⟩
theorem over : Rows.fnExactOverflowRow.holds Try.pinned (OpenSpec.ofChange Rows.fnExactOverflowSpec) :=
  OpenClaim.holds_of_wide 11 Try.f11 rfl rfl rfl rfl rfl rfl rfl ⟨rfl, rfl, rfl, rfl, rfl⟩ rfl rfl rfl rfl rfl (by kernel_rfl) Try.func11 jf
    (of_decide_eq_true (by kernel_rfl)) (by unfold Func.isWrapper; first | (rw [if_pos (by decide +kernel)]; kernel_rfl) | (rw [if_neg (by decide +kernel)]; exact ⟨rfl, rfl⟩))
    (fun os started H enc _ => lifted os started H enc)
theorem proved : Rows.FnExactOverflowSaid := over
#print axioms proved
end Go.Proofs.Ytbijachmecgpgaa.fnExactOverflow
namespace Go.Proofs.Ytbijachmecgpgaa
/-- The row, under a short name, for the claim. -/
theorem fnExactOverflow_holds : Rows.FnExactOverflowSaid := fnExactOverflow.proved
end Go.Proofs.Ytbijachmecgpgaa
