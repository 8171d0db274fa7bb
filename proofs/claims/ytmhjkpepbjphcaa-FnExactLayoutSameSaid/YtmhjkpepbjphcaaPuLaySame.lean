/- PLAIN LEMMAS: rows that are the same. -/
import Derived.Test.YtmhjkpepbjphcaaPx0
import Derived.Test.YtmhjkpepbjphcaaPx11
import Derived.Test.YtmhjkpepbjphcaaPx15
import Derived.Test.YtmhjkpepbjphcaaPuRowBase
namespace Go.Proofs.Ytmhjkpepbjphcaa.Pure
open Go.RowKit Go.Proofs.Ytmhjkpepbjphcaa.P Go.Proofs.YtmhjkpepbjphcaaW.PrintWords Go.Proofs.YtmhjkpepbjphcaaW.PrintLast Go.Proofs.YtmhjkpepbjphcaaW.PrintMore
set_option linter.unusedVariables false
set_option linter.unusedSimpArgs false
def rowEq (r s : SRow) : Bool := (r.f0 == s.f0) && (r.f1.toList == s.f1.toList)
def rsame : List SRow → List SRow → Bool
  | [], _ => true
  | _ :: _, [] => true
  | r :: a, s :: b => rowEq r s && rsame a b
theorem specLay_loop (suf : List SRow) : ∀ (pre pre' suf' : List SRow), pre.length = pre'.length → suf.length = suf'.length → pre.length + suf.length ≤ 4611686018427387904 →
    Ev (fun k => spec_LayoutSame.l0 k (pre ++ suf) (pre' ++ suf') (pre.length : Int)) (rsame suf suf') := by
  induction suf with
  | nil =>
    intro pre pre' suf' hp hs hm
    refine Ev.step (fun k => by rw [spec_LayoutSame.l0]) ?_
    simp only [List.append_nil, Int.lt_irrefl, if_false, rsame]
    exact Ev.now _
  | cons y suf ih =>
    intro pre pre' suf' hp hs hm
    cases suf' with
    | nil => simp at hs
    | cons e suf' =>
      simp only [List.length_cons] at hm hs
      refine Ev.step (fun k => by rw [spec_LayoutSame.l0]) ?_
      have c1 : (pre.length : Int) < ((pre ++ y :: suf).length : Int) := by simp; omega
      have c2 : (0 : Int) ≤ (pre.length : Int) := by omega
      have c3 : (pre.length : Int) < ((pre' ++ e :: suf').length : Int) := by simp; omega
      have r' : rd_TRow (pre' ++ e :: suf') (pre.length : Int) = e := by rw [hp]; exact rdR pre' suf' e
      have e0 : (!(y.f0 == e.f0) || !(y.f1.toList == e.f1.toList)) = !rowEq y e := by rw [rowEq, Bool.not_and]
      simp only [if_pos c1, if_pos c2, if_pos c3, rdR, r', e0]
      rw [w64 (by omega) (by omega), rsame]
      have := ih (pre ++ [y]) (pre' ++ [e]) suf' (by simp; omega) (by omega) (by simp; omega)
      rw [List.append_assoc, List.append_assoc, show ((pre ++ [y]).length : Int) = (pre.length : Int) + 1 by simp] at this
      cases rowEq y e
      · exact Ev.now _
      · simpa using this
theorem implLay_loop (suf : List SRow) : ∀ (pre pre' suf' : List SRow), pre.length = pre'.length → suf.length = suf'.length → pre.length + suf.length ≤ 4611686018427387904 →
    Ev (fun k => slices_Equal_Llimpl_Row.l0 k (pre ++ suf) (pre' ++ suf') ((pre ++ suf).length : Int) (pre.length : Int)) (rsame suf suf') := by
  induction suf with
  | nil =>
    intro pre pre' suf' hp hs hm
    refine Ev.step (fun k => by rw [slices_Equal_Llimpl_Row.l0]) ?_
    simp only [List.append_nil, Int.lt_irrefl, if_false, rsame]
    exact Ev.now _
  | cons y suf ih =>
    intro pre pre' suf' hp hs hm
    cases suf' with
    | nil => simp at hs
    | cons e suf' =>
      simp only [List.length_cons] at hm hs
      refine Ev.step (fun k => by rw [slices_Equal_Llimpl_Row.l0]) ?_
      have c1 : (pre.length : Int) < ((pre ++ y :: suf).length : Int) := by simp; omega
      have c2 : (0 : Int) ≤ (pre.length : Int) := by omega
      have c3 : (pre.length : Int) < ((pre' ++ e :: suf').length : Int) := by simp; omega
      have r' : rd_TRow (pre' ++ e :: suf') (pre.length : Int) = e := by rw [hp]; exact rdR pre' suf' e
      have e0 : (!(y.f0 == e.f0) || !(y.f1.toList == e.f1.toList)) = !rowEq y e := by rw [rowEq, Bool.not_and]
      simp only [if_pos c1, if_pos c2, if_pos c3, rdR, r', e0]
      rw [w64 (by omega) (by omega), rsame]
      have := ih (pre ++ [y]) (pre' ++ [e]) suf' (by simp; omega) (by omega) (by simp; omega)
      rw [List.append_assoc, List.append_assoc, show ((pre ++ [y]).length : Int) = (pre.length : Int) + 1 by simp] at this
      cases rowEq y e
      · exact Ev.now _
      · simpa using this
def laySame (a b : List SRow) : Bool := decide (a.length = b.length) && rsame a b
theorem specLay_ev (a b : List SRow) (h : a.length ≤ 4611686018427387904) : Ev (fun k => spec_LayoutSame.f k a b) (laySame a b) := by
  refine Ev.congr (fun k => by rw [spec_LayoutSame.f]) ?_
  refine Ev.iff (fun hc => ?_) (fun hc => ?_)
  · have hc : a.length = b.length := by omega
    have := specLay_loop a [] [] b rfl hc (by simpa using h)
    simpa [laySame, hc] using this
  · have hc : ¬ a.length = b.length := by omega
    rw [laySame, decide_eq_false hc]
    exact Ev.now _
theorem implLay_ev (a b : List SRow) (h : a.length ≤ 4611686018427387904) : Ev (fun k => impl_LayoutSame.f k a b) (laySame a b) := by
  refine Ev.congr (fun k => by rw [impl_LayoutSame.f]) ?_
  refine Ev.bind (r := laySame a b) ?_ (Ev.now _)
  refine Ev.congr (fun k => by rw [slices_Equal_Llimpl_Row.f]) ?_
  refine Ev.iff (fun hc => ?_) (fun hc => ?_)
  · have hc : a.length = b.length := by omega
    have := implLay_loop a [] [] b rfl hc (by simpa using h)
    simpa [laySame, hc] using this
  · have hc : ¬ a.length = b.length := by omega
    rw [laySame, decide_eq_false hc]
    exact Ev.now _
end Go.Proofs.Ytmhjkpepbjphcaa.Pure
