/- PLAIN LEMMAS: the width of a layout. -/
import Derived.Test.YtbijachmecgpgaaPx0
import Derived.Test.YtbijachmecgpgaaPx39
import Derived.Test.YtbijachmecgpgaaPx41
import Derived.Test.YtbijachmecgpgaaPuLayLine
namespace Go.Proofs.Ytbijachmecgpgaa.Pure
open Go.RowKit Go.Proofs.Ytbijachmecgpgaa.P Go.Proofs.YtbijachmecgpgaaW.PrintWords Go.Proofs.YtbijachmecgpgaaW.PrintLast Go.Proofs.YtbijachmecgpgaaW.PrintMore
set_option linter.unusedVariables false
set_option linter.unusedSimpArgs false
def widO : Int → List SRow → Int
  | n, [] => n
  | n, r :: l => widO (if lineN r > n then lineN r else n) l
theorem specWid_loop (L : List SRow) (hL : layV L = true) (suf : List SRow) : ∀ (pre : List SRow) (n : Int), L = pre ++ suf → pre.length + suf.length ≤ 1048576 →
    Ev (fun k => spec_LayoutWidth.l0 k L n (pre.length : Int)) (widO n suf) := by
  have hok := layV_ok hL
  have hv : Ev (fun k => spec_LayoutValid.f k L) true := by
    rw [← hL]
    exact specLV_ev L (by omega) (fun y hy => by have := rowOk_is (hok.2.2 y hy); omega)
  induction suf with
  | nil =>
    intro pre n e hm
    refine Ev.step (fun k => by rw [spec_LayoutWidth.l0]) ?_
    have c : ¬ (pre.length : Int) < (L.length : Int) := by rw [e]; simp
    simp only [if_neg c]
    refine Ev.step (fun k => by rw [spec_LayoutWidth.j1]) ?_
    simp only [Bool.false_eq_true, if_false]
    exact Ev.now _
  | cons y suf ih =>
    intro pre n e hm
    simp only [List.length_cons] at hm
    have hy := hok.2.2 y (by rw [e]; simp)
    refine Ev.step (fun k => by rw [spec_LayoutWidth.l0]) ?_
    have c1 : (pre.length : Int) < (L.length : Int) := by rw [e]; simp; omega
    have c2 : (0 : Int) ≤ (pre.length : Int) := by omega
    simp only [if_pos c1]
    refine Ev.bind hv ?_
    refine Ev.step (fun k => by rw [spec_LayoutWidth.j1]) ?_
    have r0 : rd_TRow L (pre.length : Int) = y := by rw [e]; exact rdR pre suf y
    simp only [if_true, if_pos c1, if_pos c2, r0]
    have hn := fun n => ih (pre ++ [y]) n (by rw [e]; simp) (by simp; omega)
    rw [show ((pre ++ [y]).length : Int) = (pre.length : Int) + 1 by simp] at hn
    refine Ev.bind (specLine_ev hy) ?_
    rw [line_size hy, widO, w64 (by omega) (by omega)]
    by_cases c : lineN y > n
    · simp only [if_pos c]
      refine Ev.bind (specLine_ev hy) ?_
      rw [line_size hy]
      exact hn _
    · simp only [if_neg c]
      exact hn _
theorem implWid_loop (suf : List SRow) : ∀ (pre : List SRow) (n : Int), (∀ y ∈ suf, rowOk y = true) → pre.length + suf.length ≤ 1048576 →
    Ev (fun k => impl_LayoutWidth.l0 k n (pre ++ suf) ((pre ++ suf).length : Int) (pre.length : Int)) (widO n suf) := by
  induction suf with
  | nil =>
    intro pre n _ hm
    refine Ev.step (fun k => by rw [impl_LayoutWidth.l0]) ?_
    simp only [List.append_nil, Int.lt_irrefl, if_false]
    exact Ev.now _
  | cons y suf ih =>
    intro pre n hy hm
    simp only [List.length_cons] at hm
    refine Ev.step (fun k => by rw [impl_LayoutWidth.l0]) ?_
    have c1 : (pre.length : Int) < ((pre ++ y :: suf).length : Int) := by simp; omega
    have c2 : (0 : Int) ≤ (pre.length : Int) := by omega
    simp only [if_pos c1, if_pos c2, rdR, implLen_eq (hy y List.mem_cons_self), Option.bind_some]
    rw [w64 (by omega) (by omega)]
    have := ih (pre ++ [y]) (mx n (lineN y)) (fun z hz => hy z (List.mem_cons_of_mem _ hz)) (by simp; omega)
    rw [List.append_assoc, show ((pre ++ [y]).length : Int) = (pre.length : Int) + 1 by simp] at this
    exact this
def layW (l : List SRow) : Int := if layV l = true then widO 0 l else 0
theorem specWid_ev (l : List SRow) (hl : l.length ≤ 1048576) (h : ∀ y ∈ l, y.f1.size ≤ 1048576) : Ev (fun k => spec_LayoutWidth.f k l) (layW l) := by
  refine Ev.congr (fun k => by rw [spec_LayoutWidth.f]) ?_
  by_cases hv : layV l = true
  · rw [layW, if_pos hv]
    exact specWid_loop l hv l [] 0 rfl (by simpa using hl)
  · have hv : layV l = false := by simpa using hv
    rw [layW, if_neg (by simp [hv])]
    refine Ev.step (fun k => by rw [spec_LayoutWidth.l0]) ?_
    have F : Ev (fun k => spec_LayoutWidth.j1 k l 0 0 false) 0 := by
      refine Ev.step (fun k => by rw [spec_LayoutWidth.j1]) ?_
      simp only [Bool.false_eq_true, if_false]
      exact Ev.now _
    refine Ev.iff (fun c => ?_) (fun c => F)
    refine Ev.bind (specLV_ev l (by omega) (fun y hy => by have := h y hy; omega)) ?_
    rw [hv]
    exact F
theorem implWid_ev (l : List SRow) (hl : l.length ≤ 1048576) (h : ∀ y ∈ l, y.f1.size ≤ 1048576) : Ev (fun k => impl_LayoutWidth.f k l) (layW l) := by
  refine Ev.congr (fun k => by rw [impl_LayoutWidth.f]) ?_
  refine Ev.bind (implLV_ev l (by omega) (fun y hy => by have := h y hy; omega)) ?_
  by_cases hv : layV l = true
  · rw [layW, if_pos hv]
    simp only [if_pos hv]
    have := implWid_loop l [] 0 (layV_ok hv).2.2 (by simpa using hl)
    simpa using this
  · rw [layW, if_neg hv]
    simp only [if_neg hv]
    exact Ev.now _
end Go.Proofs.Ytbijachmecgpgaa.Pure
