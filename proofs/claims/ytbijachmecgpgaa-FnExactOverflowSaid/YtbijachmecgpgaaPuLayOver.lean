/- PLAIN LEMMAS: what stands out of a layout. -/
import Derived.Test.YtbijachmecgpgaaPx0
import Derived.Test.YtbijachmecgpgaaPx44
import Derived.Test.YtbijachmecgpgaaPx45
import Derived.Test.YtbijachmecgpgaaPuLayLine
namespace Go.Proofs.Ytbijachmecgpgaa.Pure
open Go.RowKit Go.Proofs.Ytbijachmecgpgaa.P Go.Proofs.YtbijachmecgpgaaW.PrintWords Go.Proofs.YtbijachmecgpgaaW.PrintLast Go.Proofs.YtbijachmecgpgaaW.PrintMore
set_option linter.unusedVariables false
set_option linter.unusedSimpArgs false
def ovO (w : Int) : Int → List SRow → Int
  | n, [] => n
  | n, r :: l => ovO w (n + (if lineN r - w > 0 then lineN r - w else 0)) l
theorem specOv_loop (w : Int) (h0 : 0 ≤ w) (h1 : w ≤ 9223372036854775807) (suf : List SRow) : ∀ (pre : List SRow) (n : Int), (∀ y ∈ suf, rowOk y = true) → 0 ≤ n → n ≤ 2400 * pre.length → pre.length + suf.length ≤ 1048576 →
    Ev (fun k => spec_l2Over.l0 k (pre ++ suf) w n (pre.length : Int)) (ovO w n suf) := by
  induction suf with
  | nil =>
    intro pre n _ _ _ hm
    refine Ev.step (fun k => by rw [spec_l2Over.l0]) ?_
    simp only [List.append_nil, Int.lt_irrefl, if_false]
    exact Ev.now _
  | cons y suf ih =>
    intro pre n hy hn hn2 hm
    simp only [List.length_cons] at hm
    have hok := hy y List.mem_cons_self
    have hb := lineN_le hok
    refine Ev.step (fun k => by rw [spec_l2Over.l0]) ?_
    have c1 : (pre.length : Int) < ((pre ++ y :: suf).length : Int) := by simp; omega
    have c2 : (0 : Int) ≤ (pre.length : Int) := by omega
    simp only [if_pos c1, if_pos c2, rdR]
    refine Ev.bind (specLine_ev hok) ?_
    rw [line_size hok, w64 (i := lineN y - w) (by omega) (by omega), w64 (i := (pre.length : Int) + 1) (by omega) (by omega), ovO]
    have hn' := fun n h0 h1 => ih (pre ++ [y]) n (fun z hz => hy z (List.mem_cons_of_mem _ hz)) h0 h1 (by simp; omega)
    rw [show ((pre ++ [y]).length : Int) = (pre.length : Int) + 1 by simp, List.append_assoc] at hn'
    by_cases c : lineN y - w > 0
    · simp only [if_pos c]
      rw [w64 (by omega) (by omega)]
      exact hn' _ (by omega) (by omega)
    · simp only [if_neg c]
      rw [Int.add_zero]
      exact hn' _ (by omega) (by omega)
theorem implOv_loop (w : Int) (h0 : 0 ≤ w) (h1 : w ≤ 9223372036854775807) (suf : List SRow) : ∀ (pre : List SRow) (n : Int), (∀ y ∈ suf, rowOk y = true) → 0 ≤ n → n ≤ 2400 * pre.length → pre.length + suf.length ≤ 1048576 →
    Ev (fun k => impl_Overflow.l0 k w n (pre ++ suf) ((pre ++ suf).length : Int) (pre.length : Int)) (ovO w n suf) := by
  induction suf with
  | nil =>
    intro pre n _ _ _ hm
    refine Ev.step (fun k => by rw [impl_Overflow.l0]) ?_
    simp only [List.append_nil, Int.lt_irrefl, if_false]
    exact Ev.now _
  | cons y suf ih =>
    intro pre n hy hn hn2 hm
    simp only [List.length_cons] at hm
    have hok := hy y List.mem_cons_self
    have hb := lineN_le hok
    refine Ev.step (fun k => by rw [impl_Overflow.l0]) ?_
    have c1 : (pre.length : Int) < ((pre ++ y :: suf).length : Int) := by simp; omega
    have c2 : (0 : Int) ≤ (pre.length : Int) := by omega
    simp only [if_pos c1, if_pos c2, rdR, implLen_eq hok, Option.bind_some]
    have hn' := fun n h0 h1 => ih (pre ++ [y]) n (fun z hz => hy z (List.mem_cons_of_mem _ hz)) h0 h1 (by simp; omega)
    rw [show ((pre ++ [y]).length : Int) = (pre.length : Int) + 1 by simp, List.append_assoc] at hn'
    have e : mx 0 (lineN y - w) = if lineN y - w > 0 then lineN y - w else 0 := rfl
    rw [w64 (i := lineN y - w) (by omega) (by omega), e, w64 (i := (pre.length : Int) + 1) (by omega) (by omega), ovO, w64 (by split <;> omega) (by split <;> omega)]
    exact hn' _ (by split <;> omega) (by split <;> omega)
def layO (l : List SRow) (w : Int) : Int := if layV l = true ∧ 0 ≤ w then ovO w 0 l else 0
theorem specOv_ev (l : List SRow) (w : Int) (hw : w ≤ 9223372036854775807) (hl : l.length ≤ 1048576) (h : ∀ y ∈ l, y.f1.size ≤ 1048576) : Ev (fun k => spec_Overflow.f k l w) (layO l w) := by
  refine Ev.congr (fun k => by rw [spec_Overflow.f]) ?_
  refine Ev.bind (specLV_ev l (by omega) (fun y hy => by have := h y hy; omega)) ?_
  by_cases hv : layV l = true
  · simp only [if_pos hv]
    refine Ev.iff (fun c => ?_) (fun c => ?_)
    · rw [layO, if_neg (by omega)]; exact Ev.now _
    · rw [layO, if_pos ⟨hv, by omega⟩]
      refine Ev.bind (r := ovO w 0 l) ?_ (Ev.now _)
      refine Ev.congr (fun k => by rw [spec_l2Over.f]) ?_
      have := specOv_loop w (by omega) hw l [] 0 (layV_ok hv).2.2 (by omega) (by omega) (by simpa using hl)
      simpa using this
  · simp only [if_neg hv]
    rw [layO, if_neg (fun c => hv c.1)]
    exact Ev.now _
theorem implOv_ev (l : List SRow) (w : Int) (hw : w ≤ 9223372036854775807) (hl : l.length ≤ 1048576) (h : ∀ y ∈ l, y.f1.size ≤ 1048576) : Ev (fun k => impl_Overflow.f k l w) (layO l w) := by
  refine Ev.congr (fun k => by rw [impl_Overflow.f]) ?_
  refine Ev.bind (implLV_ev l (by omega) (fun y hy => by have := h y hy; omega)) ?_
  have F : Ev (fun k => impl_Overflow.j0 k l w true) 0 := Ev.step (fun k => by rw [impl_Overflow.j0]) (by simp only [if_true]; exact Ev.now _)
  by_cases hv : layV l = true
  · simp only [if_pos hv]
    by_cases c : w < 0
    · rw [layO, if_neg (by omega), decide_eq_true c]; exact F
    · rw [layO, if_pos ⟨hv, by omega⟩, decide_eq_false c]
      refine Ev.step (fun k => by rw [impl_Overflow.j0]) ?_
      simp only [Bool.false_eq_true, if_false]
      have := implOv_loop w (by omega) hw l [] 0 (layV_ok hv).2.2 (by omega) (by omega) (by simpa using hl)
      simpa using this
  · simp only [if_neg hv]
    rw [layO, if_neg (fun c => hv c.1)]
    exact F
end Go.Proofs.Ytbijachmecgpgaa.Pure
