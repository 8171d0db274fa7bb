/- PLAIN LEMMAS: a layout that is pushed in. -/
import Derived.Test.YtbijachmecgpgaaPx0
import Derived.Test.YtbijachmecgpgaaPx57
import Derived.Test.YtbijachmecgpgaaPx59
import Derived.Test.YtbijachmecgpgaaPuLayV
namespace Go.Proofs.Ytbijachmecgpgaa.Pure
open Go.RowKit Go.Proofs.Ytbijachmecgpgaa.P Go.Proofs.YtbijachmecgpgaaW.PrintWords Go.Proofs.YtbijachmecgpgaaW.PrintLast Go.Proofs.YtbijachmecgpgaaW.PrintMore
set_option linter.unusedVariables false
set_option linter.unusedSimpArgs false
def inR (n : Int) (r : SRow) : SRow := ⟨wrap64 (r.f0 + n), r.f1⟩
def nestO (n : Int) : List SRow → List SRow
  | [] => []
  | r :: t => r :: t.map (inR n)
theorem setN (a b : List SRow) (d z : SRow) : (a ++ d :: b).set (a.length : Int).toNat z = a ++ z :: b := by
  rw [Int.toNat_natCast, List.set_append_right _ _ (Nat.le_refl _), Nat.sub_self, List.set_cons_zero]
theorem specNest_loop (n : Int) (suf : List SRow) : ∀ pre : List SRow, pre.length + suf.length ≤ 1099511627776 →
    Ev (fun k => spec_l2Nest.l0 k n (pre ++ suf) (pre.length : Int)) (pre ++ suf.map (inR n)) := by
  induction suf with
  | nil =>
    intro pre hm
    refine Ev.step (fun k => by rw [spec_l2Nest.l0]) ?_
    simp only [List.append_nil, Int.lt_irrefl, if_false, List.map_nil]
    exact Ev.now _
  | cons y suf ih =>
    intro pre hm
    simp only [List.length_cons] at hm
    refine Ev.step (fun k => by rw [spec_l2Nest.l0]) ?_
    have c1 : (pre.length : Int) < ((pre ++ y :: suf).length : Int) := by simp; omega
    have c2 : (0 : Int) ≤ (pre.length : Int) := by omega
    simp only [if_pos c1, if_pos c2, rdR, setN]
    rw [w64 (i := (pre.length : Int) + 1) (by omega) (by omega)]
    have := ih (pre ++ [inR n y]) (by simp; omega)
    rw [List.append_assoc, List.append_assoc, show ((pre ++ [inR n y]).length : Int) = (pre.length : Int) + 1 by simp] at this
    exact this
theorem implNest_loop (n : Int) (suf : List SRow) : ∀ pre : List SRow, pre.length + suf.length ≤ 1099511627776 →
    Ev (fun k => impl_nestRows.l0 k n (pre ++ suf) (pre.length : Int)) (pre ++ suf.map (inR n)) := by
  induction suf with
  | nil =>
    intro pre hm
    refine Ev.step (fun k => by rw [impl_nestRows.l0]) ?_
    simp only [List.append_nil, Int.lt_irrefl, if_false, List.map_nil]
    exact Ev.now _
  | cons y suf ih =>
    intro pre hm
    simp only [List.length_cons] at hm
    refine Ev.step (fun k => by rw [impl_nestRows.l0]) ?_
    have c1 : (pre.length : Int) < ((pre ++ y :: suf).length : Int) := by simp; omega
    have c2 : (0 : Int) ≤ (pre.length : Int) := by omega
    simp only [if_pos c1, if_pos c2, rdR, setN]
    rw [w64 (i := (pre.length : Int) + 1) (by omega) (by omega)]
    have := ih (pre ++ [inR n y]) (by simp; omega)
    rw [List.append_assoc, List.append_assoc, show ((pre ++ [inR n y]).length : Int) = (pre.length : Int) + 1 by simp] at this
    exact this
theorem specNest_ev (n : Int) (l : List SRow) (h0 : 0 < l.length) (h1 : l.length ≤ 1048576) : Ev (fun k => spec_l2Nest.f k n l) (nestO n l) := by
  refine Ev.congr (fun k => by rw [spec_l2Nest.f]) ?_
  simp only [Option.bind_some, List.nil_append, List.length_nil, Nat.zero_add, if_pos (show l.length < 5864062014805 by omega)]
  cases l with
  | nil => simp at h0
  | cons r t => exact specNest_loop n t [r] (by simp at h1 ⊢; omega)
theorem implNest_ev (n : Int) (l : List SRow) (h0 : 0 < l.length) (h1 : l.length ≤ 1048576) : Ev (fun k => impl_nestRows.f k n l) (nestO n l) := by
  refine Ev.congr (fun k => by rw [impl_nestRows.f]) ?_
  simp only [slices_Clone_Llimpl_Row.f, if_pos (show l.length < 5864062014805 by omega), Option.bind_some]
  cases l with
  | nil => simp at h0
  | cons r t => exact implNest_loop n t [r] (by simp at h1 ⊢; omega)
theorem nestO_sizes (n : Int) {l : List SRow} (h : ∀ y ∈ l, y.f1.size ≤ 1048576) : (nestO n l).length = l.length ∧ ∀ y ∈ nestO n l, y.f1.size ≤ 1048576 := by
  cases l with
  | nil => exact ⟨rfl, h⟩
  | cons r t =>
    refine ⟨by simp [nestO], fun y hy => ?_⟩
    rcases List.mem_cons.1 hy with rfl | hy
    · exact h _ List.mem_cons_self
    · obtain ⟨z, hz, rfl⟩ := List.mem_map.1 hy
      exact h z (List.mem_cons_of_mem _ hz)
def nestL (n : Int) (l : List SRow) : List SRow × Bool := if layV l = true ∧ 0 ≤ n ∧ n ≤ 200 then (if layV (nestO n l) = true then (nestO n l, true) else ([], false)) else ([], false)
theorem nestL_len (n : Int) {l : List SRow} (h : ∀ y ∈ l, y.f1.size ≤ 1048576) (hl : l.length ≤ 1048576) : (nestL n l).1.length ≤ 1048576 := by
  unfold nestL
  have := (nestO_sizes n h).1
  split
  · split
    · show (nestO n l).length ≤ _
      omega
    · simp
  · simp
theorem specNestL_ev (n : Int) (l : List SRow) (hl : l.length ≤ 1048576) (h : ∀ y ∈ l, y.f1.size ≤ 1048576) : Ev (fun k => spec_NestLayout.f k n l) (nestL n l) := by
  refine Ev.congr (fun k => by rw [spec_NestLayout.f]) ?_
  refine Ev.bind (specLV_ev l (by omega) (fun y hy => by have := h y hy; omega)) ?_
  have F : Ev (fun k => spec_NestLayout.j0 k n l true) ([], false) := Ev.step (fun k => by rw [spec_NestLayout.j0]) (by simp only [if_true]; exact Ev.now _)
  by_cases hv : layV l = true
  · simp only [if_pos hv]
    have hz := nestO_sizes n h
    refine Ev.iff (fun c => ?_) (fun c => ?_)
    · rw [nestL, if_neg (by omega)]; exact F
    · by_cases c2 : n > 200
      · rw [nestL, if_neg (by omega), decide_eq_true c2]; exact F
      · rw [nestL, if_pos ⟨hv, by omega, by omega⟩, decide_eq_false c2]
        refine Ev.step (fun k => by rw [spec_NestLayout.j0]) ?_
        simp only [Bool.false_eq_true, if_false]
        refine Ev.bind (specNest_ev n l (layV_ok hv).1 hl) ?_
        refine Ev.bind (specLV_ev _ (by omega) (fun y hy => by have := hz.2 y hy; omega)) ?_
        by_cases ho : layV (nestO n l) = true
        · simp only [if_pos ho]; exact Ev.now _
        · simp only [if_neg ho]; exact Ev.now _
  · simp only [if_neg hv]
    rw [nestL, if_neg (fun c => hv c.1)]
    exact F
theorem implNestL_ev (n : Int) (l : List SRow) (hl : l.length ≤ 1048576) (h : ∀ y ∈ l, y.f1.size ≤ 1048576) : Ev (fun k => impl_NestLayout.f k n l) (nestL n l) := by
  refine Ev.congr (fun k => by rw [impl_NestLayout.f]) ?_
  refine Ev.bind (implLV_ev l (by omega) (fun y hy => by have := h y hy; omega)) ?_
  have F : Ev (fun k => impl_NestLayout.j0 k n l true) ([], false) := Ev.step (fun k => by rw [impl_NestLayout.j0]) (by simp only [if_true]; exact Ev.now _)
  by_cases hv : layV l = true
  · simp only [if_pos hv]
    have hz := nestO_sizes n h
    refine Ev.iff (fun c => ?_) (fun c => ?_)
    · rw [nestL, if_neg (by omega)]; exact F
    · by_cases c2 : n > 200
      · rw [nestL, if_neg (by omega), decide_eq_true c2]; exact F
      · rw [nestL, if_pos ⟨hv, by omega, by omega⟩, decide_eq_false c2]
        refine Ev.step (fun k => by rw [impl_NestLayout.j0]) ?_
        simp only [Bool.false_eq_true, if_false]
        refine Ev.bind (implNest_ev n l (layV_ok hv).1 hl) ?_
        refine Ev.bind (implLV_ev _ (by omega) (fun y hy => by have := hz.2 y hy; omega)) ?_
        by_cases ho : layV (nestO n l) = true
        · simp only [if_pos ho]; exact Ev.now _
        · simp only [if_neg ho]; exact Ev.now _
  · simp only [if_neg hv]
    rw [nestL, if_neg (fun c => hv c.1)]
    exact F
end Go.Proofs.Ytbijachmecgpgaa.Pure
