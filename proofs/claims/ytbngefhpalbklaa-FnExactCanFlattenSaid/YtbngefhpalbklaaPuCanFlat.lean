/- PLAIN LEMMAS: whether a document can be flattened. -/
import Derived.Test.YtbngefhpalbklaaPx0
import Derived.Test.YtbngefhpalbklaaPx18
import Derived.Test.YtbngefhpalbklaaPx20
import Derived.Test.YtbngefhpalbklaaPuCnt
import Derived.Test.YtbngefhpalbklaaPuDocV
namespace Go.Proofs.Ytbngefhpalbklaa.Pure
open Go.RowKit Go.Proofs.Ytbngefhpalbklaa.P Go.Proofs.YtbngefhpalbklaaW.PrintWords Go.Proofs.YtbngefhpalbklaaW.PrintLast Go.Proofs.YtbngefhpalbklaaW.PrintMore
set_option linter.unusedVariables false
set_option linter.unusedSimpArgs false
def canF (d : SDoc) : Bool := docV d && decide (cnt 5 d = 0)
theorem specCan_ev (d : SDoc) (hd : msz d ≤ 1099511627776) : Ev (fun k => spec_CanFlatten.f k d.f0 d.f1 d.f2 d.f3) (canF d) := by
  refine Ev.congr (fun k => by rw [spec_CanFlatten.f]) ?_
  refine Ev.bind (specValid_ev d hd) ?_
  cases hv : docV d with
  | false =>
    simp only [Bool.false_eq_true, if_false]
    rw [show canF d = false from by rw [canF, hv, Bool.false_and]]
    exact Ev.now _
  | true =>
    simp only [if_true]
    have := dsz_msz d
    refine Ev.bind (specCnt_ev 5 d (by omega)) ?_
    rw [show canF d = ((cnt 5 d : Int) == 0) from by rw [canF, hv, Bool.true_and, Bool.eq_iff_iff]; simp]
    exact Ev.now _
theorem implCan_ev (d : SDoc) (hd : msz d ≤ 1099511627776) : Ev (fun k => impl_CanFlatten.f k d.f0 d.f1 d.f2 d.f3) (canF d) := by
  refine Ev.congr (fun k => by rw [impl_CanFlatten.f]) ?_
  refine Ev.bind (implValid_ev d hd) ?_
  cases hv : docV d with
  | false =>
    simp only [Bool.false_eq_true, if_false]
    rw [show canF d = false from by rw [canF, hv, Bool.false_and]]
    exact Ev.now _
  | true =>
    simp only [if_true]
    have := dsz_msz d
    refine Ev.bind (implCnt_ev 5 d (by omega)) ?_
    rw [show canF d = ((cnt 5 d : Int) == 0) from by rw [canF, hv, Bool.true_and, Bool.eq_iff_iff]; simp]
    exact Ev.now _
theorem docV_wf {d : SDoc} (h : docV d = true) : wf d 40 = true := (docV_iff d).1 h |>.1
theorem wf_kids {o n : Int} {t : ByteArray} {ks : List SDoc} {deep : Nat} (h : wf ⟨o, n, t, ks⟩ deep = true) : ∀ y, y ∈ ks → wf y (deep - 1) = true := by
  have h3 := ((wf_mk o n t ks deep).1 h).2.2
  rw [wfL_all, List.all_eq_true] at h3
  exact h3
theorem wf_node {o n : Int} {t : ByteArray} {ks : List SDoc} {deep : Nat} (h : wf ⟨o, n, t, ks⟩ deep = true) : 1 ≤ o ∧ o ≤ 8 ∧ (ks.length : Int) = docKids o ∧ 0 ≤ n ∧ n ≤ 9 ∧ (n = 0 ∨ o = 6) ∧ (o = 2 → tv t = true) ∧ (o ≠ 2 → t = ⟨#[]⟩) := by
  have h2 := (nodeOk_iff o n t ks.length).1 ((wf_mk o n t ks deep).1 h).2.1
  obtain ⟨a, b, c, d, e, f, g⟩ := h2
  refine ⟨a, b, c, d, e, f, fun h => by rwa [if_pos h] at g, fun h => ?_⟩
  rw [if_neg h, decide_eq_true_eq, size_data, List.length_eq_zero_iff] at g
  obtain ⟨⟨l⟩⟩ := t
  simp at g
  subst g
  rfl
end Go.Proofs.Ytbngefhpalbklaa.Pure
