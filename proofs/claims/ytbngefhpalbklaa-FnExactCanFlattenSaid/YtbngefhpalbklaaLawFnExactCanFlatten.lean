/- THE LAW FnExactCanFlatten: for every input that can be read the Go function returns true, and each argument reads behind the call as it read before; no condition beyond those of the given row. -/
import Derived.Test.YtbngefhpalbklaaRows
import Derived.Test.YtbngefhpalbklaaPx21
import Derived.Test.YtbngefhpalbklaaPOpen
import Derived.Test.YtbngefhpalbklaaPureFnExactCanFlatten
import Derived.Test.YtbngefhpalbklaaClosed
import Derived.WalkKit
import Derived.ProofKit
import Derived.OpenShut
import Derived.ShutString
import Derived.ChangeOld
import Derived.Below
import Derived.SizedLaws
namespace Go.Proofs.Ytbngefhpalbklaa.fnExactCanFlatten
open Go.ChangeShapes Go.WideShapes Go.ChangeAt Go.RowKit Go.Proofs.YtbngefhpalbklaaW.PrintWords Go.Proofs.Ytbngefhpalbklaa.P
open Go.ChangeMaps (open_string shut_string)
set_option linter.unusedVariables false
theorem own : ownKnob Try.prog.godebug = none := by kernel_rfl
theorem laidOut : laidOutB Try.prog = true := closed3.1
theorem cl : clo edgesL fuelE [4] [] = [4, 19, 64, 21, 67, 24, 20, 65, 105, 106, 66, 70, 25, 22, 68, 107, 116, 129, 136, 71, 23, 69] := by kernel_rfl
theorem jf : joinedFacts Try.prog 4 Try.f4 Rows.fnExactCanFlattenSpec Rows.fnExactCanFlattenRow = true := by
  unfold joinedFacts
  simp only [Bool.and_eq_true]
  repeat' (with_reducible apply And.intro)
  all_goals first | (with_reducible exact closed3.1) | (with_reducible exact closed3.2.1) | (with_reducible exact mayE) | (rw [closed3.2.2]; as_aux_lemma => kernel_rfl) | (rw [liftsF]; as_aux_lemma => kernel_rfl) | (rw [makeC]; as_aux_lemma => kernel_rfl) | (rw [Program.inPlace, closure_clo, cl]; as_aux_lemma => kernel_rfl) | (rw [Program.varsNamed, closure_clo, cl]; as_aux_lemma => kernel_rfl) | (rw [recurses_of cl]; as_aux_lemma => kernel_rfl) | (rw [unfollowed_of cl]; as_aux_lemma => kernel_rfl) | (as_aux_lemma => kernel_rfl)
set_option maxRecDepth 100000 in
theorem lifted (os : Os) (started : os.Started) (H : Type) (enc : TypeId × Value → H) :
    ReturnsInHanded {} Try.checked os 4 .any (Rows.fnExactCanFlattenSpec.pre6 enc Try.prog Try.f4 Rows.fnExactCanFlattenRow.domain false) (Rows.fnExactCanFlattenSpec.post enc Try.prog Try.f4 false true false false) := by
  refine returnsInHanded_of_change_sized (C := Try.checked) own started (by kernel_rfl) Try.func4
    (ChangeSpec.witness6 (enc := enc) (C := Try.checked) false ⟨#[], #[.agg #[.int .i64 0, .int .i64 0, .string ByteArray.empty, .slice none 0 0]], []⟩ 8 (by kernel_rfl) (by kernel_rfl) (by kernel_rfl) (by kernel_rfl)) ?_
  intro W base args ds gs before hval0 hW hcnd hsz0 _
  have hsz : (DataW.weightsEach Try.prog (Try.f4.params.toList ++ Rows.fnExactCanFlattenSpec.plain.varTypes Try.prog) (ds ++ gs)).all (· ≤ reachBytes) = true := hsz0
  have hval : ∀ (j : Nat) t v, Try.f4.params[j]? = some t → args[j]? = some v → Value.okWide Try.prog W .any base t v := hval0
  have hW' := hW
  obtain ⟨p, q, hA0, hV, rfl, hfz, hnd⟩ := hW
  have hA : DataW.TrodAll enc Try.prog W 0 (fun _ => true) true Try.f4.params.toList args.toList ds p := hA0
  rw [Try.params4] at hA hval hsz
  obtain ⟨v0, vs0, d0, ds0, p0, q0, hargs, rfl, rfl, h0, r0⟩ := trodAll_cons hA
  obtain ⟨rfl, rfl, rfl⟩ := trodAll_nil r0
  obtain rfl : args = #[v0] := by cases args; simp_all
  obtain ⟨rfl, rfl⟩ := trodVars_none hV
  obtain ⟨cs0, rfl, _⟩ := okWide_struct Try.underlying24 (hval 0 24 v0 rfl rfl)
  have k0 := h0
  have lt0 : ∀ x ∈ p0, x.block < W.heap.size := by obtain ⟨m, hm⟩ := k0; exact DataW.trod_lt m _ _ _ hm
  obtain ⟨e0, hK0, hF0⟩ : ∃ e : SLDoc, k24.K W e cs0.toList ∧ FineLDoc e := by
    obtain ⟨fuel, hf⟩ := h0
    obtain ⟨e, h1, h2⟩ := open24 fuel _ _ (by simpa [Value.cells] using hf)
    exact ⟨e, h1, ⟨_, h2⟩⟩
  obtain ⟨A0_3, c0_3, hcs0, hl0_3, hC0_3⟩ := k24_open hK0
  obtain rfl : cs0 = #[.int .i64 e0.f0, .int .i64 e0.f1, .string e0.f2, .slice A0_3 e0.f3.length c0_3] := by cases cs0; simpa using hcs0
  clear hA0 hval0 hsz0 hsz
  obtain ⟨k, hp⟩ := Pure.FnExactCanFlatten e0.f0 e0.f1 e0.f2 e0.f3 (by cases e0; exact hF0)
  refine (P.laws_FnExactCanFlatten.calls k e0.f0 e0.f1 e0.f2 _ _ e0.f3 true W hC0_3 hl0_3 hp).mono fun e W' ⟨he, bel0⟩ => ?_
  have bel : Below W.heap.size W W' := bel0
  subst he
  exact ⟨_, rfl, _, _, _, [], _, [], hW', trodAll_mk1 (shut_bool Try.underlying4 _), (trodAll_cons_mk (Below.trod laidOut (by kernel_rfl) (of_decide_eq_true (by kernel_rfl)) k0 bel lt0) trodAll_mk0), rfl, bel.frame _, fun h => by cases h⟩
theorem over : Rows.fnExactCanFlattenRow.holds Try.pinned (OpenSpec.ofChange Rows.fnExactCanFlattenSpec) :=
  OpenClaim.holds_of_wide 4 Try.f4 rfl rfl rfl rfl rfl rfl rfl ⟨rfl, rfl, rfl, rfl, rfl⟩ rfl rfl rfl rfl rfl (by kernel_rfl) Try.func4 jf
    (of_decide_eq_true (by kernel_rfl)) (by unfold Func.isWrapper; first | (rw [if_pos (by decide +kernel)]; kernel_rfl) | (rw [if_neg (by decide +kernel)]; exact ⟨rfl, rfl⟩))
    (fun os started H enc _ => lifted os started H enc)
theorem proved : Rows.FnExactCanFlattenSaid := over
#print axioms proved
end Go.Proofs.Ytbngefhpalbklaa.fnExactCanFlatten
namespace Go.Proofs.Ytbngefhpalbklaa
/-- The row, under a short name, for the claim. -/
theorem fnExactCanFlatten_holds : Rows.FnExactCanFlattenSaid := fnExactCanFlatten.proved
end Go.Proofs.Ytbngefhpalbklaa
