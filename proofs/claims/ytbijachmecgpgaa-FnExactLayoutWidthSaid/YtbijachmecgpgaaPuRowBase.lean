/- PLAIN LEMMAS: lists of rows, taken in, copied and compared. -/
import Derived.Test.YtbijachmecgpgaaPx0
import Derived.Test.YtbijachmecgpgaaPx10
import Derived.Test.YtbijachmecgpgaaPx9
import Derived.Test.YtbijachmecgpgaaPx13
import Derived.Test.YtbijachmecgpgaaPx12
import Derived.Test.YtbijachmecgpgaaPx17
import Derived.Test.YtbijachmecgpgaaPx16
import Derived.Test.YtbijachmecgpgaaPuBase
import Derived.Test.YtbijachmecgpgaaPuSzR
namespace Go.Proofs.Ytbijachmecgpgaa.Pure
open Go.RowKit Go.Proofs.Ytbijachmecgpgaa.P Go.Proofs.YtbijachmecgpgaaW.PrintWords Go.Proofs.YtbijachmecgpgaaW.PrintLast Go.Proofs.YtbijachmecgpgaaW.PrintMore
set_option linter.unusedVariables false
set_option linter.unusedSimpArgs false
theorem rdLR (a b : List SLRow) (d : SLRow) : rd_TLRow (a ++ d :: b) (a.length : Int) = d := by simp [rd_TLRow]
theorem rdR (a b : List SRow) (d : SRow) : rd_TRow (a ++ d :: b) (a.length : Int) = d := by simp [rd_TRow]
def convR (r : SLRow) : SRow := ⟨r.f0, r.f1⟩
def bsz : List SRow → Nat
  | [] => 0
  | r :: l => r.f1.size + bsz l
theorem bsz_mem : ∀ {l : List SRow} {r : SRow}, r ∈ l → r.f1.size ≤ bsz l
  | a :: l, r, h => by
    rcases List.mem_cons.1 h with rfl | h
    · simp [bsz]
    · have := bsz_mem h; simp [bsz]; omega
theorem szRowS_loop (suf : List SLRow) : ∀ (pre : List SLRow) (left : Int),
    (∀ y, y ∈ suf → y.f1.size ≤ maxLen) → 0 ≤ left → left ≤ 1048576 → pre.length + suf.length ≤ maxLen →
    Ev (fun k => laws_szRowS.l0 k (pre ++ suf) left (pre.length : Int)) (szR (bsz (suf.map convR)) left) := by
  induction suf with
  | nil =>
    intro pre left _ h0 h1 hm
    refine Ev.step (fun k => by rw [laws_szRowS.l0]) ?_
    simp only [List.append_nil, Int.lt_irrefl, if_false]
    rw [show szR (bsz (([] : List SLRow).map convR)) left = left from by simp [szR, bsz, h0]]
    exact Ev.now _
  | cons y suf ih =>
    intro pre left hy h0 h1 hm
    have hs := hy y List.mem_cons_self
    simp only [maxLen, List.length_cons] at hm hs
    refine Ev.step (fun k => by rw [laws_szRowS.l0]) ?_
    have c1 : (pre.length : Int) < ((pre ++ y :: suf).length : Int) := by simp; omega
    have c2 : (0 : Int) ≤ (pre.length : Int) := by omega
    simp only [if_pos c1, if_pos c2, rdLR]
    have e1 : laws_szRow.f y.f0 y.f1 left = some (szR y.f1.size left) := by
      rw [laws_szRow.f, w64 (by omega) (by omega)]
      by_cases hc : left - (y.f1.size : Int) < 0
      · rw [if_pos hc, szR, if_neg (by omega)]
      · rw [if_neg hc, szR, if_pos (by omega)]
    have e2 : bsz ((y :: suf).map convR) = y.f1.size + bsz (suf.map convR) := rfl
    simp only [e1, Option.bind_some, e2]
    by_cases hc : (y.f1.size : Int) ≤ left
    · have e : szR y.f1.size left = left - y.f1.size := by simp [szR, hc]
      rw [e]
      have c3 : ¬ (left - (y.f1.size : Int) < 0) := by omega
      simp only [if_neg c3]
      rw [w64 (by omega) (by omega)]
      have := ih (pre ++ [y]) (left - y.f1.size) (fun z hz => hy z (List.mem_cons_of_mem _ hz)) (by omega) (by omega) (by simp [maxLen]; omega)
      rw [List.append_assoc, show ((pre ++ [y]).length : Int) = (pre.length : Int) + 1 by simp] at this
      rw [szR_add _ _ _ hc]
      exact this
    · have e : szR y.f1.size left = -1 := by simp [szR, hc]
      rw [e]
      simp only [show ((-1 : Int) < 0) = True by simp, if_true]
      rw [szR_over _ _ _ hc]
      exact Ev.now _
theorem szRowS_ev (l : List SLRow) (hl : l.length ≤ maxLen) (hf : ∀ x ∈ l, FineLRow x) (left : Int) (h0 : 0 ≤ left) (h1 : left ≤ 1048576) :
    Ev (fun k => laws_szRowS.f k l left) (szR (l.length + bsz (l.map convR)) left) := by
  refine Ev.congr (fun k => by rw [laws_szRowS.f]) ?_
  have hl' : l.length ≤ 9223372036854775807 := hl
  rw [w64 (by omega) (by omega)]
  by_cases hc : left - (l.length : Int) < 0
  · simp only [if_pos hc]
    rw [szR_over _ _ _ (by omega)]
    exact Ev.now _
  · simp only [if_neg hc]
    rw [szR_add _ _ _ (by omega)]
    have := szRowS_loop l [] (left - (l.length : Int)) (fun y hy => (hf y hy).2) (by omega) (by omega) (by simpa using hl)
    simpa using this
theorem toRowS_loop (suf : List SLRow) : ∀ (pre : List SLRow), pre.length + suf.length ≤ maxLen →
    Ev (fun k => laws_toRowS.l0 k (pre ++ suf) (pre.map convR ++ List.replicate suf.length zRow) (pre.length : Int)) ((pre ++ suf).map convR) := by
  induction suf with
  | nil =>
    intro pre hm
    refine Ev.step (fun k => by rw [laws_toRowS.l0]) ?_
    simp only [List.append_nil, Int.lt_irrefl, if_false, List.length_nil, List.replicate_zero]
    exact Ev.now _
  | cons y suf ih =>
    intro pre hm
    simp only [maxLen, List.length_cons] at hm
    refine Ev.step (fun k => by rw [laws_toRowS.l0]) ?_
    have c1 : (pre.length : Int) < ((pre ++ y :: suf).length : Int) := by simp; omega
    have c2 : (0 : Int) ≤ (pre.length : Int) := by omega
    have c3 : (pre.length : Int) < ((pre.map convR ++ List.replicate (y :: suf).length zRow).length : Int) := by simp; omega
    simp only [if_pos c1, if_pos c2, if_pos c3, rdLR, laws_toRow.f, Option.bind_some]
    rw [w64 (by omega) (by omega)]
    have e : (pre.map convR ++ List.replicate (y :: suf).length zRow).set (pre.length : Int).toNat (⟨y.f0, y.f1⟩ : SRow) = (pre ++ [y]).map convR ++ List.replicate suf.length zRow := by
      rw [List.length_cons, List.replicate_succ, Int.toNat_natCast, List.set_append_right _ _ (by rw [List.length_map]; exact Nat.le_refl _), List.length_map, Nat.sub_self, List.set_cons_zero]
      simp [convR]
    simp only [e]
    have := ih (pre ++ [y]) (by simp [maxLen]; omega)
    rw [List.append_assoc, show ((pre ++ [y]).length : Int) = (pre.length : Int) + 1 by simp] at this
    exact this
theorem toRowS_ev (l : List SLRow) (hl : l.length ≤ 1048576) : Ev (fun k => laws_toRowS.f k l) (l.map convR) := by
  refine Ev.congr (fun k => by rw [laws_toRowS.f]) ?_
  have c1 : (0 : Int) ≤ (l.length : Int) := by omega
  have c2 : ((l.length : Int) : Int).toNat ≤ 11728124029610 := by omega
  simp only [if_pos c1, if_pos c2]
  have := toRowS_loop l [] (by simp [maxLen]; omega)
  simpa using this
theorem eqRowS_loop (suf : List SRow) : ∀ (pre : List SRow), pre.length + suf.length ≤ 4611686018427387904 →
    Ev (fun k => laws_eqRowS.l0 k (pre ++ suf) (pre ++ suf) (pre.length : Int)) true := by
  induction suf with
  | nil =>
    intro pre hm
    refine Ev.step (fun k => by rw [laws_eqRowS.l0]) ?_
    simp only [List.append_nil, Int.lt_irrefl, if_false]
    exact Ev.now _
  | cons y suf ih =>
    intro pre hm
    simp only [List.length_cons] at hm
    refine Ev.step (fun k => by rw [laws_eqRowS.l0]) ?_
    have c1 : (pre.length : Int) < ((pre ++ y :: suf).length : Int) := by simp; omega
    have c2 : (0 : Int) ≤ (pre.length : Int) := by omega
    simp only [if_pos c1, if_pos c2, rdR, laws_eqRow.f, if_true, Option.bind_some]
    rw [w64 (by omega) (by omega)]
    have := ih (pre ++ [y]) (by simp; omega)
    rw [List.append_assoc, show ((pre ++ [y]).length : Int) = (pre.length : Int) + 1 by simp] at this
    exact this
theorem eqRowS_refl (l : List SRow) (hl : l.length ≤ 4611686018427387904) : Ev (fun k => laws_eqRowS.f k l l) true := by
  refine Ev.congr (fun k => by rw [laws_eqRowS.f]) ?_
  simp only [if_true]
  have := eqRowS_loop l [] (by simpa using hl)
  simpa using this
/-- Rows that a law takes: told on, what is left over. -/
theorem rows_take {l : List SLRow} (hl : l.length ≤ maxLen) (hf : ∀ x ∈ l, FineLRow x) {left : Int} (h0 : 0 ≤ left) (h1 : left ≤ 1048576) {rest : Int → Nat → Option Bool}
    (h : ∀ r : Int, 0 ≤ r → r ≤ left → l.length + bsz (l.map convR) ≤ 1048576 → (∀ x ∈ l.map convR, (Lit.int .i64 x.f0).wf = true ∧ x.f1.size ≤ 1048576) → (l.map convR).length ≤ 1048576 → Ev (fun k => laws_toRowS.f k l) (l.map convR) → Ev (rest r) true) :
    Ev (fun k => (laws_szRowS.f k l left).bind fun t => if t < 0 then some true else rest t k) true := by
  refine Ev.bind (szRowS_ev l hl hf left h0 h1) ?_
  rcases szR_spec (l.length + bsz (l.map convR)) left with ⟨hw, e⟩ | ⟨_, e⟩
  · rw [e]
    have c : ¬ (left - ((l.length + bsz (l.map convR) : Nat) : Int) < 0) := by omega
    simp only [if_neg c]
    refine h _ (by omega) (by omega) (by omega) (fun x hx => ⟨?_, ?_⟩) (by simp; omega) (toRowS_ev l (by omega))
    · obtain ⟨y, hy, rfl⟩ := List.mem_map.1 hx
      exact (hf y hy).1
    · have := bsz_mem hx; omega
  · rw [e]
    exact Ev.now _
/-- A law over rows ends so: the rows that were handed over are as they were. -/
theorem rows_end {l : List SLRow} (hm : (l.map convR).length ≤ 1048576) (hT : Ev (fun k => laws_toRowS.f k l) (l.map convR)) :
    Ev (fun k => (laws_toRowS.f k l).bind fun bt => (laws_eqRowS.f k (l.map convR) bt).bind fun t => if t = true then some true else none) true := by
  refine Ev.bind hT ?_
  refine Ev.bind (eqRowS_refl _ (by omega)) ?_
  exact Ev.now _
end Go.Proofs.Ytbijachmecgpgaa.Pure
