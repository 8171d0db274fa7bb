/- PLAIN LEMMAS: one layout behind another. -/
import Derived.Test.YtbijachmecgpgaaPx0
import Derived.Test.YtbijachmecgpgaaPx48
import Derived.Test.YtbijachmecgpgaaPx51
import Derived.Test.YtbijachmecgpgaaPuLayV
namespace Go.Proofs.Ytbijachmecgpgaa.Pure
open Go.RowKit Go.Proofs.Ytbijachmecgpgaa.P Go.Proofs.YtbijachmecgpgaaW.PrintWords Go.Proofs.YtbijachmecgpgaaW.PrintLast Go.Proofs.YtbijachmecgpgaaW.PrintMore
set_option linter.unusedVariables false
set_option linter.unusedSimpArgs false
def catO : List SRow → List SRow → List SRow
  | [], b => b
  | [r], [] => [r]
  | [r], s :: t => ⟨r.f0, r.f1 ++ s.f1⟩ :: t
  | r :: r' :: a, b => r :: catO (r' :: a) b
theorem catO_eq (r s : SRow) (t : List SRow) : ∀ pre : List SRow, catO (pre ++ [r]) (s :: t) = pre ++ ⟨r.f0, r.f1 ++ s.f1⟩ :: t
  | [] => rfl
  | [a] => rfl
  | a :: a' :: pre => by
    have := catO_eq r s t (a' :: pre)
    simp only [List.cons_append] at this ⊢
    rw [catO, this]
theorem setL (a b : List SRow) (d z : SRow) : (a ++ d :: b).set (a.length : Int).toNat z = a ++ z :: b := by
  rw [Int.toNat_natCast, List.set_append_right _ _ (Nat.le_refl _), Nat.sub_self, List.set_cons_zero]
theorem specCat_eq (pre t : List SRow) (r s : SRow) (h1 : pre.length + t.length ≤ 1099511627776) (h2 : r.f1.size + s.f1.size ≤ 9223372036854775807) :
    spec_l2Cat.f (pre ++ [r]) (s :: t) = some (pre ++ ⟨r.f0, r.f1 ++ s.f1⟩ :: t) := by
  have hl : (pre ++ [r]).length = pre.length + 1 := by simp
  have e0 : wrap64 (((pre ++ [r]).length : Int) - 1) = (pre.length : Int) := by rw [hl, w64 (by omega) (by omega)]; omega
  have r0 : rd_TRow (pre ++ [r]) (pre.length : Int) = r := rdR pre [] r
  have r1 : rd_TRow (s :: t) 0 = s := by simp [rd_TRow]
  rw [spec_l2Cat.f]
  simp only [Option.bind_some, List.nil_append, List.length_nil, Nat.zero_add, if_pos (show (pre ++ [r]).length < 5864062014805 by omega), e0, if_pos (show (0 : Int) ≤ (pre.length : Int) by omega),
    if_pos (show (pre.length : Int) < ((pre ++ [r]).length : Int) by omega), if_pos (show (0 : Int) < ((s :: t).length : Int) by rw [List.length_cons]; omega), r0, r1, if_pos h2, setL, if_pos (show (1 : Int) ≤ ((s :: t).length : Int) by rw [List.length_cons]; omega), List.drop_one, List.tail_cons]
  rw [if_pos (by simp; omega)]
  simp
theorem implCat_eq (pre t : List SRow) (r s : SRow) (h1 : pre.length + t.length ≤ 1099511627776) (h2 : r.f1.size + s.f1.size ≤ 9223372036854775807) :
    impl_catRows.f (pre ++ [r]) (s :: t) = some (pre ++ ⟨r.f0, r.f1 ++ s.f1⟩ :: t) := by
  have hl : (pre ++ [r]).length = pre.length + 1 := by simp
  have e0 : wrap64 (((pre ++ [r]).length : Int) - 1) = (pre.length : Int) := by rw [hl, w64 (by omega) (by omega)]; omega
  have r0 : rd_TRow (pre ++ r :: t) (pre.length : Int) = r := rdR pre t r
  have r1 : rd_TRow (s :: t) 0 = s := by simp [rd_TRow]
  rw [impl_catRows.f, slices_Clone_Llimpl_Row.f, if_pos (show (pre ++ [r]).length < 5864062014805 by omega)]
  simp only [Option.bind_some, if_pos (show (1 : Int) ≤ ((s :: t).length : Int) by rw [List.length_cons]; omega), List.drop_one, List.tail_cons, if_pos (show (pre ++ [r]).length + t.length < 5864062014805 by omega), List.append_assoc, List.cons_append, List.nil_append]
  rw [show ((pre ++ [r]).length : Int) - 1 = (pre.length : Int) by omega, w64 (by omega) (by omega)]
  simp only [if_pos (show (0 : Int) ≤ (pre.length : Int) by omega), if_pos (show (pre.length : Int) < ((pre ++ r :: t).length : Int) by simp; omega), if_pos (show (0 : Int) < ((s :: t).length : Int) by rw [List.length_cons]; omega), r0, r1, if_pos h2, setL]
def catL (a b : List SRow) : List SRow × Bool := if (layV a && layV b) = true then (if layV (catO a b) = true then (catO a b, true) else ([], false)) else ([], false)
theorem cat_split {a b : List SRow} (ha : layV a = true) (hb : layV b = true) : ∃ pre r s t, a = pre ++ [r] ∧ b = s :: t ∧ catO a b = pre ++ ⟨r.f0, r.f1 ++ s.f1⟩ :: t ∧ pre.length ≤ 199 ∧ t.length ≤ 199 := by
  have h1 := layV_ok ha
  have h2 := layV_ok hb
  rcases List.eq_nil_or_concat a with rfl | ⟨pre, r, e⟩
  · simp at h1
  · cases b with
    | nil => simp at h2
    | cons s t =>
      rw [List.concat_eq_append] at e
      refine ⟨pre, r, s, t, e, rfl, by rw [e]; exact catO_eq r s t pre, ?_, ?_⟩
      · have := h1.2.1; rw [e] at this; simp at this; omega
      · have := h2.2.1; simp at this; omega
theorem catO_sizes {a b : List SRow} (ha : ∀ y ∈ a, y.f1.size ≤ 1048576) (hb : ∀ y ∈ b, y.f1.size ≤ 1048576) (hv : layV a = true) (hw : layV b = true) : (catO a b).length ≤ 400 ∧ ∀ y ∈ catO a b, y.f1.size ≤ 4611686018427387904 := by
  obtain ⟨pre, r, s, t, e1, e2, e3, h1, h2⟩ := cat_split hv hw
  rw [e3]
  refine ⟨by simp; omega, fun y hy => ?_⟩
  have hr := ha r (by rw [e1]; simp)
  have hs := hb s (by rw [e2]; simp)
  rcases List.mem_append.1 hy with h | h
  · have := ha y (by rw [e1]; simp [h]); omega
  · rcases List.mem_cons.1 h with rfl | h
    · show (r.f1 ++ s.f1).size ≤ _
      rw [ByteArray.size_append]; omega
    · have := hb y (by rw [e2]; simp [h]); omega
theorem catL_len {a b : List SRow} (ha : ∀ y ∈ a, y.f1.size ≤ 1048576) (hb : ∀ y ∈ b, y.f1.size ≤ 1048576) : (catL a b).1.length ≤ 400 := by
  unfold catL
  split
  · next h =>
    simp only [Bool.and_eq_true] at h
    have := (catO_sizes ha hb h.1 h.2).1
    split
    · exact this
    · simp
  · simp
theorem specCatL_ev (a b : List SRow) (hla : a.length ≤ 1048576) (hlb : b.length ≤ 1048576) (ha : ∀ y ∈ a, y.f1.size ≤ 1048576) (hb : ∀ y ∈ b, y.f1.size ≤ 1048576) : Ev (fun k => spec_CatLayouts.f k a b) (catL a b) := by
  refine Ev.congr (fun k => by rw [spec_CatLayouts.f]) ?_
  refine Ev.bind (specLV_ev a (by omega) (fun y hy => by have := ha y hy; omega)) ?_
  have F : Ev (fun k => spec_CatLayouts.j0 k a b true) ([], false) := Ev.step (fun k => by rw [spec_CatLayouts.j0]) (by simp only [if_true]; exact Ev.now _)
  by_cases hv : layV a = true
  · simp only [if_pos hv]
    refine Ev.bind (specLV_ev b (by omega) (fun y hy => by have := hb y hy; omega)) ?_
    by_cases hw : layV b = true
    · obtain ⟨pre, r, s, t, e1, e2, e3, h1, h2⟩ := cat_split hv hw
      have hz := catO_sizes ha hb hv hw
      have hr := ha r (by rw [e1]; simp)
      have hs := hb s (by rw [e2]; simp)
      have e4 : spec_l2Cat.f a b = some (catO a b) := by rw [e3, e1, e2]; exact specCat_eq pre t r s (by omega) (by omega)
      refine Ev.step (fun k => by rw [spec_CatLayouts.j0]) ?_
      simp only [hw, Bool.not_true, Bool.false_eq_true, if_false, e4, Option.bind_some]
      refine Ev.bind (specLV_ev _ (by omega) hz.2) ?_
      rw [catL, hv, hw]
      simp only [Bool.and_self, if_true]
      by_cases ho : layV (catO a b) = true
      · simp only [if_pos ho]; exact Ev.now _
      · simp only [if_neg ho]; exact Ev.now _
    · have hw : layV b = false := by simpa using hw
      have e : catL a b = ([], false) := by simp [catL, hw]
      rw [e, hw]
      exact F
  · have hv : layV a = false := by simpa using hv
    have e : catL a b = ([], false) := by simp [catL, hv]
    rw [e, hv]
    exact F
theorem implCatL_ev (a b : List SRow) (hla : a.length ≤ 1048576) (hlb : b.length ≤ 1048576) (ha : ∀ y ∈ a, y.f1.size ≤ 1048576) (hb : ∀ y ∈ b, y.f1.size ≤ 1048576) : Ev (fun k => impl_CatLayouts.f k a b) (catL a b) := by
  refine Ev.congr (fun k => by rw [impl_CatLayouts.f]) ?_
  refine Ev.bind (implLV_ev a (by omega) (fun y hy => by have := ha y hy; omega)) ?_
  have F : Ev (fun k => impl_CatLayouts.j0 k a b true) ([], false) := Ev.step (fun k => by rw [impl_CatLayouts.j0]) (by simp only [if_true]; exact Ev.now _)
  by_cases hv : layV a = true
  · simp only [if_pos hv]
    refine Ev.bind (implLV_ev b (by omega) (fun y hy => by have := hb y hy; omega)) ?_
    by_cases hw : layV b = true
    · obtain ⟨pre, r, s, t, e1, e2, e3, h1, h2⟩ := cat_split hv hw
      have hz := catO_sizes ha hb hv hw
      have hr := ha r (by rw [e1]; simp)
      have hs := hb s (by rw [e2]; simp)
      have e4 : impl_catRows.f a b = some (catO a b) := by rw [e3, e1, e2]; exact implCat_eq pre t r s (by omega) (by omega)
      refine Ev.step (fun k => by rw [impl_CatLayouts.j0]) ?_
      simp only [hw, Bool.not_true, Bool.false_eq_true, if_false, e4, Option.bind_some]
      refine Ev.bind (implLV_ev _ (by omega) hz.2) ?_
      rw [catL, hv, hw]
      simp only [Bool.and_self, if_true]
      by_cases ho : layV (catO a b) = true
      · simp only [if_pos ho]; exact Ev.now _
      · simp only [if_neg ho]; exact Ev.now _
    · have hw : layV b = false := by simpa using hw
      have e : catL a b = ([], false) := by simp [catL, hw]
      rw [e, hw]
      exact F
  · have hv : layV a = false := by simpa using hv
    have e : catL a b = ([], false) := by simp [catL, hv]
    rw [e, hv]
    exact F
end Go.Proofs.Ytbijachmecgpgaa.Pure
