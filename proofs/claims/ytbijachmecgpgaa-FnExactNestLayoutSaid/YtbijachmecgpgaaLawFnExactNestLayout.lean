/- THE LAW FnExactNestLayout: for every input that can be read the Go function returns true, and each argument reads behind the call as it read before; no condition beyond those of the given row. -/
import Derived.Test.YtbijachmecgpgaaRows
import Derived.Test.YtbijachmecgpgaaPx60
import Derived.Test.YtbijachmecgpgaaPOpen
import Derived.Test.YtbijachmecgpgaaPureFnExactNestLayout
import Derived.Test.YtbijachmecgpgaaClosed
import Derived.WalkKit
import Derived.ProofKit
import Derived.OpenShut
import Derived.ShutString
import Derived.ChangeOld
import Derived.Below
import Derived.SizedLaws
namespace Go.Proofs.Ytbijachmecgpgaa.fnExactNestLayout
open Go.ChangeShapes Go.WideShapes Go.ChangeAt Go.RowKit Go.Proofs.YtbijachmecgpgaaW.PrintWords Go.Proofs.Ytbijachmecgpgaa.P
open Go.ChangeMaps (open_string shut_string)
set_option linter.unusedVariables false
theorem own : ownKnob Try.prog.godebug = none := by kernel_rfl
theorem laidOut : laidOutB Try.prog = true := closed3.1
theorem cl : clo edgesL fuelE [13] [] = [13, 17, 46, 19, 47, 41, 31, 54, 15, 62, 42, 32, 55, 16, 45, 67, 74, 63, 69, 21, 49, 39, 61, 40] := by kernel_rfl
theorem jf : joinedFacts Try.prog 13 Try.f13 Rows.fnExactNestLayoutSpec Rows.fnExactNestLayoutRow = true := by
  unfold joinedFacts
  simp only [Bool.and_eq_true]
  repeat' (with_reducible apply And.intro)
  all_goals first | (with_reducible exact closed3.1) | (with_reducible exact closed3.2.1) | (with_reducible exact mayE) | (rw [closed3.2.2]; as_aux_lemma => kernel_rfl) | (rw [liftsF]; as_aux_lemma => kernel_rfl) | (rw [makeC]; as_aux_lemma => kernel_rfl) | (rw [Program.inPlace, closure_clo, cl]; as_aux_lemma => kernel_rfl) | (rw [Program.varsNamed, closure_clo, cl]; as_aux_lemma => kernel_rfl) | (rw [recurses_of cl]; as_aux_lemma => kernel_rfl) | (rw [unfollowed_of cl]; as_aux_lemma => kernel_rfl) | (as_aux_lemma => kernel_rfl)
set_option maxRecDepth 100000 in
theorem lifted (os : Os) (started : os.Started) (H : Type) (enc : TypeId × Value → H) :
    ReturnsInHanded {} Try.checked os 13 .any (Rows.fnExactNestLayoutSpec.pre6 enc Try.prog Try.f13 Rows.fnExactNestLayoutRow.domain false) (Rows.fnExactNestLayoutSpec.post enc Try.prog Try.f13 false true false false) := by
  refine returnsInHanded_of_change_sized (C := Try.checked) own started (by kernel_rfl) Try.func13
    (ChangeSpec.witness6 (enc := enc) (C := Try.checked) false ⟨#[], #[.int .i64 0, .slice none 0 0], []⟩ 8 (by kernel_rfl) (by kernel_rfl) (by kernel_rfl) (by kernel_rfl)) ?_
  intro W base args ds gs before hval0 hW hcnd hsz0 _
  have hsz : (DataW.weightsEach Try.prog (Try.f13.params.toList ++ Rows.fnExactNestLayoutSpec.plain.varTypes Try.prog) (ds ++ gs)).all (· ≤ reachBytes) = true := hsz0
  have hval : ∀ (j : Nat) t v, Try.f13.params[j]? = some t → args[j]? = some v → Value.okWide Try.prog W .any base t v := hval0
  have hW' := hW
  obtain ⟨p, q, hA0, hV, rfl, hfz, hnd⟩ := hW
  have hA : DataW.TrodAll enc Try.prog W 0 (fun _ => true) true Try.f13.params.toList args.toList ds p := hA0
  rw [Try.params13] at hA hval hsz
  obtain ⟨v0, vs0, d0, ds0, p0, q0, hargs, rfl, rfl, h0, r0⟩ := trodAll_cons hA
  obtain ⟨v1, vs1, d1, ds1, p1, q1, rfl, rfl, rfl, h1, r1⟩ := trodAll_cons r0
  obtain ⟨rfl, rfl, rfl⟩ := trodAll_nil r1
  obtain rfl : args = #[v0, v1] := by cases args; simp_all
  obtain ⟨rfl, rfl⟩ := trodVars_none hV
  obtain ⟨a0, rfl, rfl, rfl, w0⟩ := open_int Try.underlying3 (hval 0 3 v0 rfl rfl) h0
  obtain ⟨a1, len1, cap1, rfl⟩ := okWide_slice Try.underlying24 (hval 1 24 v1 rfl rfl)
  have k1 := h1
  have lt1 : ∀ x ∈ p1, x.block < W.heap.size := by obtain ⟨m, hm⟩ := k1; exact DataW.trod_lt m _ _ _ hm
  obtain ⟨l1, rfl, hl1, hC1, hF1⟩ := openS57 Try.underlying24 h1
  clear hA0 hval0 hsz0 hsz
  obtain ⟨k, hp⟩ := Pure.FnExactNestLayout a0 l1 w0 (Kd.C_max hC1) hF1
  refine (P.laws_FnExactNestLayout.calls k a0 _ _ l1 true W hC1 hl1 hp).mono fun e W' ⟨he, bel0⟩ => ?_
  have bel : Below W.heap.size W W' := bel0
  subst he
  exact ⟨_, rfl, _, _, _, [], _, [], hW', trodAll_mk1 (shut_bool Try.underlying4 _), (trodAll_cons_mk (shut_int Try.underlying3 w0) (trodAll_cons_mk (Below.trod laidOut (by kernel_rfl) (of_decide_eq_true (by kernel_rfl)) k1 bel lt1) trodAll_mk0)), rfl, bel.frame _, fun h => by cases h⟩
theorem over : Rows.fnExactNestLayoutRow.holds Try.pinned (OpenSpec.ofChange Rows.fnExactNestLayoutSpec) :=
  OpenClaim.holds_of_wide 13 Try.f13 rfl rfl rfl rfl rfl rfl rfl ⟨rfl, rfl, rfl, rfl, rfl⟩ rfl rfl rfl rfl rfl (by kernel_rfl) Try.func13 jf
    (of_decide_eq_true (by kernel_rfl)) (by unfold Func.isWrapper; first | (rw [if_pos (by decide +kernel)]; kernel_rfl) | (rw [if_neg (by decide +kernel)]; exact ⟨rfl, rfl⟩))
    (fun os started H enc _ => lifted os started H enc)
theorem proved : Rows.FnExactNestLayoutSaid := over
#print axioms proved
end Go.Proofs.Ytbijachmecgpgaa.fnExactNestLayout
namespace Go.Proofs.Ytbijachmecgpgaa
/-- The row, under a short name, for the claim. -/
theorem fnExactNestLayout_holds : Rows.FnExactNestLayoutSaid := fnExactNestLayout.proved
end Go.Proofs.Ytbijachmecgpgaa
