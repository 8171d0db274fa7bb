/- THE LAW FnExactDocSame: for every input that can be read the Go function returns true, and each argument reads behind the call as it read before; no condition beyond those of the given row. -/
import Derived.Test.YtbijachmecgpgaaRows
import Derived.Test.YtbijachmecgpgaaPx31
import Derived.Test.YtbijachmecgpgaaPOpen
import Derived.Test.YtbijachmecgpgaaPureFnExactDocSame
import Derived.Test.YtbijachmecgpgaaClosed
import Derived.WalkKit
import Derived.ProofKit
import Derived.OpenShut
import Derived.ShutString
import Derived.ChangeOld
import Derived.Below
import Derived.SizedLaws
namespace Go.Proofs.Ytbijachmecgpgaa.fnExactDocSame
open Go.ChangeShapes Go.WideShapes Go.ChangeAt Go.RowKit Go.Proofs.YtbijachmecgpgaaW.PrintWords Go.Proofs.Ytbijachmecgpgaa.P
open Go.ChangeMaps (open_string shut_string)
set_option linter.unusedVariables false
theorem own : ownKnob Try.prog.godebug = none := by kernel_rfl
theorem laidOut : laidOutB Try.prog = true := closed3.1
theorem cl : clo edgesL fuelE [8] [] = [8, 22, 50, 24, 52, 29, 30, 26, 53] := by kernel_rfl
theorem jf : joinedFacts Try.prog 8 Try.f8 Rows.fnExactDocSameSpec Rows.fnExactDocSameRow = true := by
  unfold joinedFacts
  simp only [Bool.and_eq_true]
  repeat' (with_reducible apply And.intro)
  all_goals first | (with_reducible exact closed3.1) | (with_reducible exact closed3.2.1) | (with_reducible exact mayE) | (rw [closed3.2.2]; as_aux_lemma => kernel_rfl) | (rw [liftsF]; as_aux_lemma => kernel_rfl) | (rw [makeC]; as_aux_lemma => kernel_rfl) | (rw [Program.inPlace, closure_clo, cl]; as_aux_lemma => kernel_rfl) | (rw [Program.varsNamed, closure_clo, cl]; as_aux_lemma => kernel_rfl) | (rw [recurses_of cl]; as_aux_lemma => kernel_rfl) | (rw [unfollowed_of cl]; as_aux_lemma => kernel_rfl) | (as_aux_lemma => kernel_rfl)
set_option maxRecDepth 100000 in
theorem lifted (os : Os) (started : os.Started) (H : Type) (enc : TypeId × Value → H) :
    ReturnsInHanded {} Try.checked os 8 .any (Rows.fnExactDocSameSpec.pre6 enc Try.prog Try.f8 Rows.fnExactDocSameRow.domain false) (Rows.fnExactDocSameSpec.post enc Try.prog Try.f8 false true false false) := by
  refine returnsInHanded_of_change_sized (C := Try.checked) own started (by kernel_rfl) Try.func8
    (ChangeSpec.witness6 (enc := enc) (C := Try.checked) false ⟨#[], #[.agg #[.int .i64 0, .int .i64 0, .string ByteArray.empty, .slice none 0 0], .agg #[.int .i64 0, .int .i64 0, .string ByteArray.empty, .slice none 0 0]], []⟩ 8 (by kernel_rfl) (by kernel_rfl) (by kernel_rfl) (by kernel_rfl)) ?_
  intro W base args ds gs before hval0 hW hcnd hsz0 _
  have hsz : (DataW.weightsEach Try.prog (Try.f8.params.toList ++ Rows.fnExactDocSameSpec.plain.varTypes Try.prog) (ds ++ gs)).all (· ≤ reachBytes) = true := hsz0
  have hval : ∀ (j : Nat) t v, Try.f8.params[j]? = some t → args[j]? = some v → Value.okWide Try.prog W .any base t v := hval0
  have hW' := hW
  obtain ⟨p, q, hA0, hV, rfl, hfz, hnd⟩ := hW
  have hA : DataW.TrodAll enc Try.prog W 0 (fun _ => true) true Try.f8.params.toList args.toList ds p := hA0
  rw [Try.params8] at hA hval hsz
  obtain ⟨v0, vs0, d0, ds0, p0, q0, hargs, rfl, rfl, h0, r0⟩ := trodAll_cons hA
  obtain ⟨v1, vs1, d1, ds1, p1, q1, rfl, rfl, rfl, h1, r1⟩ := trodAll_cons r0
  obtain ⟨rfl, rfl, rfl⟩ := trodAll_nil r1
  obtain rfl : args = #[v0, v1] := by cases args; simp_all
  obtain ⟨rfl, rfl⟩ := trodVars_none hV
  obtain ⟨cs0, rfl, _⟩ := okWide_struct Try.underlying32 (hval 0 32 v0 rfl rfl)
  have k0 := h0
  have lt0 : ∀ x ∈ p0, x.block < W.heap.size := by obtain ⟨m, hm⟩ := k0; exact DataW.trod_lt m _ _ _ hm
  obtain ⟨e0, hK0, hF0⟩ : ∃ e : SLDoc, k32.K W e cs0.toList ∧ FineLDoc e := by
    obtain ⟨fuel, hf⟩ := h0
    obtain ⟨e, h1, h2⟩ := open32 fuel _ _ (by simpa [Value.cells] using hf)
    exact ⟨e, h1, ⟨_, h2⟩⟩
  obtain ⟨A0_3, c0_3, hcs0, hl0_3, hC0_3⟩ := k32_open hK0
  obtain rfl : cs0 = #[.int .i64 e0.f0, .int .i64 e0.f1, .string e0.f2, .slice A0_3 e0.f3.length c0_3] := by cases cs0; simpa using hcs0
  obtain ⟨cs1, rfl, _⟩ := okWide_struct Try.underlying32 (hval 1 32 v1 rfl rfl)
  have k1 := h1
  have lt1 : ∀ x ∈ p1, x.block < W.heap.size := by obtain ⟨m, hm⟩ := k1; exact DataW.trod_lt m _ _ _ hm
  obtain ⟨e1, hK1, hF1⟩ : ∃ e : SLDoc, k32.K W e cs1.toList ∧ FineLDoc e := by
    obtain ⟨fuel, hf⟩ := h1
    obtain ⟨e, h1, h2⟩ := open32 fuel _ _ (by simpa [Value.cells] using hf)
    exact ⟨e, h1, ⟨_, h2⟩⟩
  obtain ⟨A1_3, c1_3, hcs1, hl1_3, hC1_3⟩ := k32_open hK1
  obtain rfl : cs1 = #[.int .i64 e1.f0, .int .i64 e1.f1, .string e1.f2, .slice A1_3 e1.f3.length c1_3] := by cases cs1; simpa using hcs1
  clear hA0 hval0 hsz0 hsz
  obtain ⟨k, hp⟩ := Pure.FnExactDocSame e0.f0 e0.f1 e0.f2 e0.f3 e1.f0 e1.f1 e1.f2 e1.f3 (by cases e0; exact hF0) (by cases e1; exact hF1)
  refine (P.laws_FnExactDocSame.calls k e0.f0 e0.f1 e0.f2 _ _ e0.f3 e1.f0 e1.f1 e1.f2 _ _ e1.f3 true W hC0_3 hl0_3 hC1_3 hl1_3 hp).mono fun e W' ⟨he, bel0⟩ => ?_
  have bel : Below W.heap.size W W' := bel0
  subst he
  exact ⟨_, rfl, _, _, _, [], _, [], hW', trodAll_mk1 (shut_bool Try.underlying4 _), (trodAll_cons_mk (Below.trod laidOut (by kernel_rfl) (of_decide_eq_true (by kernel_rfl)) k0 bel lt0) (trodAll_cons_mk (Below.trod laidOut (by kernel_rfl) (of_decide_eq_true (by kernel_rfl)) k1 bel lt1) trodAll_mk0)), rfl, bel.frame _, fun h => by cases h⟩
theorem over : Rows.fnExactDocSameRow.holds Try.pinned (OpenSpec.ofChange Rows.fnExactDocSameSpec) :=
  OpenClaim.holds_of_wide 8 Try.f8 rfl rfl rfl rfl rfl rfl rfl ⟨rfl, rfl, rfl, rfl, rfl⟩ rfl rfl rfl rfl rfl (by kernel_rfl) Try.func8 jf
    (of_decide_eq_true (by kernel_rfl)) (by unfold Func.isWrapper; first | (rw [if_pos (by decide +kernel)]; kernel_rfl) | (rw [if_neg (by decide +kernel)]; exact ⟨rfl, rfl⟩))
    (fun os started H enc _ => lifted os started H enc)
theorem proved : Rows.FnExactDocSameSaid := over
#print axioms proved
end Go.Proofs.Ytbijachmecgpgaa.fnExactDocSame
namespace Go.Proofs.Ytbijachmecgpgaa
/-- The row, under a short name, for the claim. -/
theorem fnExactDocSame_holds : Rows.FnExactDocSameSaid := fnExactDocSame.proved
end Go.Proofs.Ytbijachmecgpgaa
