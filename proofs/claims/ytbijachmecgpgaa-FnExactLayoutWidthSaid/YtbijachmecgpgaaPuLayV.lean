/- PLAIN LEMMAS: layouts. -/
import Derived.Test.YtbijachmecgpgaaPx0
import Derived.Test.YtbijachmecgpgaaPx32
import Derived.Test.YtbijachmecgpgaaPx34
import Derived.Test.YtbijachmecgpgaaPx33
import Derived.Test.YtbijachmecgpgaaPx35
import Derived.Test.YtbijachmecgpgaaPuRowBase
import Derived.Test.YtbijachmecgpgaaPuText
namespace Go.Proofs.Ytbijachmecgpgaa.Pure
open Go.RowKit Go.Proofs.Ytbijachmecgpgaa.P Go.Proofs.YtbijachmecgpgaaW.PrintWords Go.Proofs.YtbijachmecgpgaaW.PrintLast Go.Proofs.YtbijachmecgpgaaW.PrintMore
set_option linter.unusedVariables false
set_option linter.unusedSimpArgs false
def rowB (b : UInt8) : Bool := (b == 32) || goodB b
/-- Can it be the text of a line? -/
def rowT (s : ByteArray) : Bool := s.data.toList.all rowB && decide (s.size < 2000)
theorem bt_32 {s : ByteArray} {pre suf : List UInt8} {b : UInt8} (h : s.data.toList = pre ++ b :: suf) : (bt s (pre.length : Int) = 32) ↔ (b == 32) = true := by
  rw [bt_mid h, beq_iff_eq]
  constructor
  · intro h; exact UInt8.toNat_inj.1 (by show b.toNat = 32; omega)
  · intro h; rw [h]; rfl
theorem one_data {s : ByteArray} {pre suf : List UInt8} {b : UInt8} (h : s.data.toList = pre ++ b :: suf) : (s.extract pre.length (pre.length + 1)).data.toList = [b] := by
  rw [ByteArray.data_extract, Array.toList_extract, List.extract_eq_take_drop, h]
  simp
theorem tv_one {s : ByteArray} {pre suf : List UInt8} {b : UInt8} (h : s.data.toList = pre ++ b :: suf) : tv (s.extract pre.length (pre.length + 1)) = goodB b ∧ (s.extract pre.length (pre.length + 1)).size = 1 := by
  have e := one_data h
  have z : (s.extract pre.length (pre.length + 1)).size = 1 := by rw [size_data, e]; rfl
  refine ⟨?_, z⟩
  rw [tv, z, e]
  simp
theorem specL2_loop {s : ByteArray} (hs : s.size ≤ 4611686018427387904) : ∀ (suf pre : List UInt8), s.data.toList = pre ++ suf → pre.length ≤ 2000 → Ev (fun k => spec_l2Text.l0 k s (pre.length : Int)) (suf.all rowB && decide (s.size < 2000)) := by
  intro suf
  induction suf with
  | nil =>
    intro pre h hp
    refine Ev.step (fun k => by rw [spec_l2Text.l0]) ?_
    have c1 : ¬ ((pre.length : Int) < (s.size : Int)) := by rw [size_data, h]; simp
    simp only [if_neg c1]
    refine Ev.step (fun k => by rw [spec_l2Text.j1]) ?_
    simp only [Bool.false_eq_true, if_false]
    rw [show (([] : List UInt8).all rowB && decide (s.size < 2000)) = decide ((s.size : Int) < 2000) from by simp; omega]
    exact Ev.now _
  | cons b suf ih =>
    intro pre h hp
    have hl : pre.length < s.size := by rw [size_data, h]; simp
    refine Ev.step (fun k => by rw [spec_l2Text.l0]) ?_
    have c1 : (pre.length : Int) < (s.size : Int) := by omega
    have c2 : (0 : Int) ≤ (pre.length : Int) := by omega
    simp only [if_pos c1]
    refine Ev.step (fun k => by rw [spec_l2Text.j1]) ?_
    by_cases hq : pre.length < 2000
    · have hq' : decide ((pre.length : Int) < 2000) = true := by simp; omega
      simp only [hq', if_true, if_pos c1, if_pos c2]
      rw [w64 (by omega) (by omega)]
      have hn : Ev (fun k => spec_l2Text.l0 k s ((pre.length : Int) + 1)) (suf.all rowB && decide (s.size < 2000)) := by
        have := ih (pre ++ [b]) (by rw [h]; simp) (by simp; omega)
        rw [show ((pre ++ [b]).length : Int) = (pre.length : Int) + 1 by simp] at this
        exact this
      have hb := bt_32 h
      by_cases h32 : (b == 32) = true
      · simp only [if_pos (hb.2 h32)]
        simpa [rowB, h32] using hn
      · have c3 : (pre.length : Int) ≤ (pre.length : Int) + 1 := by omega
        have c4 : (pre.length : Int) + 1 ≤ (s.size : Int) := by omega
        simp only [if_neg (fun h => h32 (hb.1 h)), if_pos c3, if_pos c4]
        have e := tv_one h
        rw [show ((pre.length : Int) + 1 : Int).toNat = pre.length + 1 by omega, Int.toNat_natCast]
        refine Ev.bind (specText_ev _ (by omega)) ?_
        rw [e.1]
        have h32' : (b == 32) = false := by simpa using h32
        rw [List.all_cons, rowB, h32', Bool.false_or]
        cases goodB b
        · exact Ev.now _
        · simpa using hn
    · have hq' : decide ((pre.length : Int) < 2000) = false := by simp; omega
      simp only [hq', Bool.false_eq_true, if_false]
      rw [show ((b :: suf).all rowB && decide (s.size < 2000)) = decide ((s.size : Int) < 2000) from by
        have e1 : decide (s.size < 2000) = false := by simp; omega
        have e2 : decide ((s.size : Int) < 2000) = false := by simp; omega
        rw [e1, e2, Bool.and_false]]
      exact Ev.now _
theorem specL2_ev (s : ByteArray) (hs : s.size ≤ 4611686018427387904) : Ev (fun k => spec_l2Text.f k s) (rowT s) := by
  refine Ev.congr (fun k => by rw [spec_l2Text.f]) ?_
  exact specL2_loop hs s.data.toList [] rfl (by simp)
theorem implRB_loop {s : ByteArray} (hs : s.size ≤ 4611686018427387904) : ∀ (suf pre : List UInt8), s.data.toList = pre ++ suf → Ev (fun k => impl_rowBytes.l0 k s (pre.length : Int)) (suf.all rowB) := by
  intro suf
  induction suf with
  | nil =>
    intro pre h
    refine Ev.step (fun k => by rw [impl_rowBytes.l0]) ?_
    have c1 : ¬ ((pre.length : Int) < (s.size : Int)) := by rw [size_data, h]; simp
    simp only [if_neg c1]
    exact Ev.now _
  | cons b suf ih =>
    intro pre h
    have hl : pre.length < s.size := by rw [size_data, h]; simp
    refine Ev.step (fun k => by rw [impl_rowBytes.l0]) ?_
    have c1 : (pre.length : Int) < (s.size : Int) := by omega
    have c2 : (0 : Int) ≤ (pre.length : Int) := by omega
    simp only [if_pos c1, if_pos c2]
    rw [w64 (by omega) (by omega)]
    have hn : Ev (fun k => impl_rowBytes.l0 k s ((pre.length : Int) + 1)) (suf.all rowB) := by
      have := ih (pre ++ [b]) (by rw [h]; simp)
      rw [show ((pre ++ [b]).length : Int) = (pre.length : Int) + 1 by simp] at this
      exact this
    have hb := bt_32 h
    by_cases h32 : (b == 32) = true
    · simp only [if_pos (hb.2 h32)]
      simpa [rowB, h32] using hn
    · have c3 : (pre.length : Int) ≤ (pre.length : Int) + 1 := by omega
      have c4 : (pre.length : Int) + 1 ≤ (s.size : Int) := by omega
      simp only [if_neg (fun h => h32 (hb.1 h)), if_pos c3, if_pos c4]
      have e := tv_one h
      rw [show ((pre.length : Int) + 1 : Int).toNat = pre.length + 1 by omega, Int.toNat_natCast]
      refine Ev.bind (implText_ev _ (by omega)) ?_
      rw [e.1]
      have h32' : (b == 32) = false := by simpa using h32
      rw [List.all_cons, rowB, h32', Bool.false_or]
      cases goodB b
      · exact Ev.now _
      · simpa using hn
theorem implRB_ev (s : ByteArray) (hs : s.size ≤ 4611686018427387904) : Ev (fun k => impl_rowBytes.f k s) (s.data.toList.all rowB) := by
  refine Ev.congr (fun k => by rw [impl_rowBytes.f]) ?_
  exact implRB_loop hs s.data.toList [] rfl
def rowOk (r : SRow) : Bool := decide (0 ≤ r.f0) && (decide (r.f0 ≤ 400) && rowT r.f1)
def rowsOk : Nat → List SRow → Bool
  | _, [] => true
  | i, r :: l => ((i != 0 || r.f0 == 0) && rowOk r) && rowsOk (i + 1) l
/-- Is it a layout? -/
def layV (l : List SRow) : Bool := rowsOk 0 l && (decide (0 < l.length) && decide (l.length ≤ 200))
theorem rowsOk_all : ∀ (l : List SRow) (i : Nat), rowsOk (i + 1) l = l.all rowOk
  | [], _ => rfl
  | r :: l, i => by rw [rowsOk, rowsOk_all l (i + 1)]; simp
theorem layV_ok {l : List SRow} (h : layV l = true) : 0 < l.length ∧ l.length ≤ 200 ∧ ∀ r ∈ l, rowOk r = true := by
  simp only [layV, Bool.and_eq_true, decide_eq_true_eq] at h
  refine ⟨h.2.1, h.2.2, ?_⟩
  cases l with
  | nil => intro r hr; cases hr
  | cons a l =>
    have h1 := h.1
    rw [rowsOk, rowsOk_all] at h1
    simp only [Bool.and_eq_true, List.all_eq_true] at h1
    intro r hr
    rcases List.mem_cons.1 hr with rfl | hr
    · exact h1.1.2
    · exact h1.2 r hr
theorem specLV_j2 {l : List SRow} {i : Int} {b R : Bool} (h : Ev (fun k => spec_LayoutValid.l0 k l (wrap64 (i + 1))) R) : Ev (fun k => spec_LayoutValid.j2 k l i (!b)) (b && R) := by
  refine Ev.step (fun k => by rw [spec_LayoutValid.j2]) ?_
  cases b
  · exact Ev.now _
  · simpa using h
theorem specLV_loop (suf : List SRow) : ∀ (pre : List SRow), (∀ y, y ∈ suf → y.f1.size ≤ 4611686018427387904) → pre.length ≤ 201 → pre.length + suf.length ≤ 4611686018427387904 →
    Ev (fun k => spec_LayoutValid.l0 k (pre ++ suf) (pre.length : Int)) (rowsOk pre.length suf && (decide (0 < (pre ++ suf).length) && decide ((pre ++ suf).length ≤ 200))) := by
  induction suf with
  | nil =>
    intro pre _ hp hm
    refine Ev.step (fun k => by rw [spec_LayoutValid.l0]) ?_
    simp only [List.append_nil, Int.lt_irrefl, if_false]
    refine Ev.step (fun k => by rw [spec_LayoutValid.j1]) ?_
    simp only [Bool.false_eq_true, if_false]
    refine Ev.iff (fun hc => ?_) (fun hc => ?_)
    · rw [show (rowsOk pre.length [] && (decide (0 < pre.length) && decide (pre.length ≤ 200))) = decide ((pre.length : Int) ≤ 200) from by
        have : 0 < pre.length := by omega
        simp [rowsOk, this]; omega]
      exact Ev.now _
    · rw [show (rowsOk pre.length [] && (decide (0 < pre.length) && decide (pre.length ≤ 200))) = false from by
        have : ¬ 0 < pre.length := by omega
        simp [this]]
      exact Ev.now _
  | cons y suf ih =>
    intro pre hy hp hm
    simp only [List.length_cons] at hm
    have hs := hy y List.mem_cons_self
    have c1 : (pre.length : Int) < ((pre ++ y :: suf).length : Int) := by simp; omega
    have c2 : (0 : Int) ≤ (pre.length : Int) := by omega
    refine Ev.step (fun k => by rw [spec_LayoutValid.l0]) ?_
    simp only [if_pos c1]
    refine Ev.step (fun k => by rw [spec_LayoutValid.j1]) ?_
    by_cases hq : pre.length ≤ 200
    · have hq' : decide ((pre.length : Int) ≤ 200) = true := by simp; omega
      simp only [hq', if_true, if_pos c1, if_pos c2, rdR]
      have hn : Ev (fun k => spec_LayoutValid.l0 k (pre ++ y :: suf) (wrap64 ((pre.length : Int) + 1))) (rowsOk (pre.length + 1) suf && (decide (0 < (pre ++ y :: suf).length) && decide ((pre ++ y :: suf).length ≤ 200))) := by
        rw [w64 (by omega) (by omega)]
        have := ih (pre ++ [y]) (fun z hz => hy z (List.mem_cons_of_mem _ hz)) (by simp; omega) (by simp; omega)
        rw [List.append_assoc, show ((pre ++ [y]).length : Int) = (pre.length : Int) + 1 by simp, show (pre ++ [y]).length = pre.length + 1 by simp] at this
        exact this
      have J := fun b => specLV_j2 (b := b) hn
      rw [rowsOk, Bool.and_assoc]
      refine Ev.iff (fun h0 => ?_) (fun h0 => ?_)
      · have e : rowOk y = false := by simp [rowOk]; omega
        have := J false
        simpa [e] using this
      refine Ev.iff (fun h1 => ?_) (fun h1 => ?_)
      · have e : rowOk y = false := by
          have : ¬ y.f0 ≤ 400 := by omega
          simp [rowOk, this]
        have := J false
        simpa [e] using this
      have e : rowOk y = rowT y.f1 := by
        have h0 : 0 ≤ y.f0 := by omega
        have h1 : y.f0 ≤ 400 := by omega
        simp [rowOk, h0, h1]
      rw [e]
      refine Ev.iff (fun h2 => ?_) (fun h2 => ?_)
      · refine Ev.iff (fun h3 => ?_) (fun h3 => ?_)
        · refine Ev.bind (specL2_ev _ hs) ?_
          have := J (rowT y.f1)
          simpa [h3] using this
        · have := J false
          have h2 : pre.length = 0 := by omega
          have h3 : (y.f0 == 0) = false := by simpa using h3
          simpa [h3, h2] using this
      · refine Ev.bind (specL2_ev _ hs) ?_
        have := J (rowT y.f1)
        have h2 : (pre.length != 0) = true := bne_iff_ne.2 (by omega)
        simpa [h2] using this
    · have hq' : decide ((pre.length : Int) ≤ 200) = false := by simp; omega
      simp only [hq', Bool.false_eq_true, if_false]
      have c3 : ((pre ++ y :: suf).length : Int) > 0 := by omega
      have c4 : decide ((pre ++ y :: suf).length ≤ 200) = false := by simp; omega
      have c5 : decide (((pre ++ y :: suf).length : Int) ≤ 200) = false := by simp; omega
      simp only [if_pos c3, c4, c5, Bool.and_false]
      exact Ev.now _
theorem specLV_ev (l : List SRow) (hl : l.length ≤ 4611686018427387904) (hs : ∀ y ∈ l, y.f1.size ≤ 4611686018427387904) : Ev (fun k => spec_LayoutValid.f k l) (layV l) := by
  refine Ev.congr (fun k => by rw [spec_LayoutValid.f]) ?_
  have := specLV_loop l [] hs (by simp) (by simpa using hl)
  simpa [layV] using this
theorem implLV_j2 {l : List SRow} {m i : Int} {b R : Bool} (h : Ev (fun k => impl_LayoutValid.l0 k l m (wrap64 (i + 1))) R) : Ev (fun k => impl_LayoutValid.j2 k l m i (!b)) (b && R) := by
  refine Ev.step (fun k => by rw [impl_LayoutValid.j2]) ?_
  cases b
  · exact Ev.now _
  · simpa using h
theorem implLV_loop (suf : List SRow) : ∀ (pre : List SRow), (∀ y, y ∈ suf → y.f1.size ≤ 4611686018427387904) → pre.length + suf.length ≤ 4611686018427387904 →
    Ev (fun k => impl_LayoutValid.l0 k (pre ++ suf) ((pre ++ suf).length : Int) (pre.length : Int)) (suf.all rowOk) := by
  induction suf with
  | nil =>
    intro pre _ hm
    refine Ev.step (fun k => by rw [impl_LayoutValid.l0]) ?_
    simp only [List.append_nil, Int.lt_irrefl, if_false]
    exact Ev.now _
  | cons y suf ih =>
    intro pre hy hm
    simp only [List.length_cons] at hm
    have hs := hy y List.mem_cons_self
    have c1 : (pre.length : Int) < ((pre ++ y :: suf).length : Int) := by simp; omega
    have c2 : (0 : Int) ≤ (pre.length : Int) := by omega
    refine Ev.step (fun k => by rw [impl_LayoutValid.l0]) ?_
    simp only [if_pos c1, if_pos c2, rdR]
    have hn : Ev (fun k => impl_LayoutValid.l0 k (pre ++ y :: suf) ((pre ++ y :: suf).length : Int) (wrap64 ((pre.length : Int) + 1))) (suf.all rowOk) := by
      rw [w64 (by omega) (by omega)]
      have := ih (pre ++ [y]) (fun z hz => hy z (List.mem_cons_of_mem _ hz)) (by simp; omega)
      rw [List.append_assoc, show ((pre ++ [y]).length : Int) = (pre.length : Int) + 1 by simp] at this
      exact this
    have J := fun b => implLV_j2 (b := b) hn
    rw [List.all_cons]
    refine Ev.iff (fun h0 => ?_) (fun h0 => ?_)
    · have e : rowOk y = false := by simp [rowOk]; omega
      have := J false
      simpa [e] using this
    refine Ev.iff (fun h1 => ?_) (fun h1 => ?_)
    · have e : rowOk y = false := by
        have : ¬ y.f0 ≤ 400 := by omega
        simp [rowOk, this]
      have := J false
      simpa [e] using this
    have e : rowOk y = rowT y.f1 := by
      have h0 : 0 ≤ y.f0 := by omega
      have h1 : y.f0 ≤ 400 := by omega
      simp [rowOk, h0, h1]
    rw [e]
    refine Ev.bind (implRB_ev _ hs) ?_
    have e2 : decide ((y.f1.size : Int) ≥ 2000) = !decide (y.f1.size < 2000) := by
      by_cases h : y.f1.size < 2000
      · have : ¬ (y.f1.size : Int) ≥ 2000 := by omega
        simp [h, this]
      · have : (y.f1.size : Int) ≥ 2000 := by omega
        simp [h, this]
    rw [e2]
    have J1 := J (rowT y.f1)
    have J0 := J false
    rw [rowT] at J1 ⊢
    generalize y.f1.data.toList.all rowB = A at J1 ⊢
    cases A
    · simpa using J0
    · simpa using J1
theorem implLV_ev (l : List SRow) (hl : l.length ≤ 4611686018427387904) (hs : ∀ y ∈ l, y.f1.size ≤ 4611686018427387904) : Ev (fun k => impl_LayoutValid.f k l) (layV l) := by
  refine Ev.congr (fun k => by rw [impl_LayoutValid.f]) ?_
  have F : Ev (fun k => impl_LayoutValid.j0 k l true) false := by
    refine Ev.step (fun k => by rw [impl_LayoutValid.j0]) ?_
    exact Ev.now _
  refine Ev.iff (fun h0 => ?_) (fun h0 => ?_)
  · have : ¬ 0 < l.length := by omega
    simpa [layV, this] using F
  refine Ev.iff (fun h1 => ?_) (fun h1 => ?_)
  · have : ¬ l.length ≤ 200 := by omega
    simpa [layV, this] using F
  have c : (0 : Int) < (l.length : Int) := by omega
  simp only [if_pos c]
  have h0' : 0 < l.length := by omega
  have h1' : l.length ≤ 200 := by omega
  cases l with
  | nil => simp at h0'
  | cons r l =>
    have e0 : rd_TRow (r :: l) 0 = r := by simp [rd_TRow]
    rw [e0]
    have L := implLV_loop (r :: l) [] hs (by simpa using hl)
    by_cases hr : r.f0 = 0
    · have e1 : (r.f0 != 0) = false := by simp [hr]
      rw [e1]
      refine Ev.step (fun k => by rw [impl_LayoutValid.j0]) ?_
      have e2 : layV (r :: l) = (r :: l).all rowOk := by
        simp only [layV, rowsOk, rowsOk_all, hr, h0', h1']
        simp
      rw [e2]
      simpa using L
    · have e1 : (r.f0 != 0) = true := by simp [hr]
      rw [e1]
      have e2 : layV (r :: l) = false := by
        simp [layV, rowsOk, hr]
      rw [e2]
      exact F
end Go.Proofs.Ytbijachmecgpgaa.Pure
