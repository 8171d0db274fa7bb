/- PLAIN LEMMAS: what szDoc tells. -/
import Derived.Test.YtbijachmecgpgaaPx0
import Derived.Test.YtbijachmecgpgaaPx19
import Derived.Test.YtbijachmecgpgaaPuLBase
namespace Go.Proofs.Ytbijachmecgpgaa.Pure
open Go.RowKit Go.Proofs.Ytbijachmecgpgaa.P Go.Proofs.YtbijachmecgpgaaW.PrintWords Go.Proofs.YtbijachmecgpgaaW.PrintLast Go.Proofs.YtbijachmecgpgaaW.PrintMore
set_option linter.unusedVariables false
set_option linter.unusedSimpArgs false
def szR (s : Nat) (left : Int) : Int := if (s : Int) ≤ left then left - s else -1
theorem szR_spec (s : Nat) (left : Int) : ((s : Int) ≤ left ∧ szR s left = left - s) ∨ (left < (s : Int) ∧ szR s left = -1) := by
  by_cases h : (s : Int) ≤ left
  · exact .inl ⟨h, by simp [szR, h]⟩
  · exact .inr ⟨by omega, by simp [szR, h]⟩
theorem szR_add (a b : Nat) (left : Int) (h : (a : Int) ≤ left) : szR (a + b) left = szR b (left - a) := by
  rcases szR_spec (a + b) left with ⟨h1, e1⟩ | ⟨h1, e1⟩ <;> rcases szR_spec b (left - a) with ⟨h2, e2⟩ | ⟨h2, e2⟩ <;> rw [e1, e2] <;> omega
theorem szR_over (a b : Nat) (left : Int) (h : ¬ (a : Int) ≤ left) : szR (a + b) left = -1 := by
  rcases szR_spec (a + b) left with ⟨h1, e1⟩ | ⟨h1, e1⟩ <;> omega
theorem szDocS_loop (suf : List SLDoc) : ∀ (pre : List SLDoc) (left : Int),
    (∀ y, y ∈ suf → ∀ l : Int, 0 ≤ l → l ≤ 1048576 → Ev (fun k => laws_szDoc.f k y.f0 y.f1 y.f2 y.f3 l) (szR (wt y) l)) → 0 ≤ left → left ≤ 1048576 → pre.length + suf.length ≤ maxLen →
    Ev (fun k => laws_szDocS.l0 k (pre ++ suf) left (pre.length : Int)) (szR (wtL suf) left) := by
  induction suf with
  | nil =>
    intro pre left _ h0 h1 hm
    refine Ev.step (fun k => by rw [laws_szDocS.l0]) ?_
    simp only [List.append_nil, Int.lt_irrefl, if_false]
    rw [show szR (wtL []) left = left from by simp [szR, wtL, h0]]
    exact Ev.now _
  | cons y suf ih =>
    intro pre left hy h0 h1 hm
    simp only [maxLen, List.length_cons] at hm
    refine Ev.step (fun k => by rw [laws_szDocS.l0]) ?_
    have c1 : (pre.length : Int) < ((pre ++ y :: suf).length : Int) := by simp; omega
    have c2 : (0 : Int) ≤ (pre.length : Int) := by omega
    simp only [if_pos c1, if_pos c2, rdL]
    refine Ev.bind (hy y List.mem_cons_self left h0 h1) ?_
    by_cases hc : (wt y : Int) ≤ left
    · have e : szR (wt y) left = left - wt y := by simp [szR, hc]
      rw [e]
      have c3 : ¬ (left - (wt y : Int) < 0) := by omega
      simp only [if_neg c3]
      rw [w64 (by omega) (by omega)]
      have := ih (pre ++ [y]) (left - wt y) (fun z hz => hy z (List.mem_cons_of_mem _ hz)) (by omega) (by omega) (by simp [maxLen]; omega)
      rw [List.append_assoc, show ((pre ++ [y]).length : Int) = (pre.length : Int) + 1 by simp] at this
      rw [show wtL (y :: suf) = wt y + wtL suf from rfl, szR_add _ _ _ hc]
      exact this
    · have e : szR (wt y) left = -1 := by simp [szR, hc]
      rw [e]
      simp only [show ((-1 : Int) < 0) = True by simp, if_true]
      rw [show wtL (y :: suf) = wt y + wtL suf from rfl, szR_over _ _ _ hc]
      exact Ev.now _
theorem szDoc_ev : ∀ (d : SLDoc), FineLDoc d → ∀ left : Int, 0 ≤ left → left ≤ 1048576 → Ev (fun k => laws_szDoc.f k d.f0 d.f1 d.f2 d.f3 left) (szR (wt d) left) := by
  intro d
  induction d using SLDoc.ind with
  | h o n t ks ih =>
    intro hf left h0 h1
    obtain ⟨ht, hk, hks⟩ := fine_kids hf
    simp only [maxLen] at ht hk
    refine Ev.step (fun k => by rw [laws_szDoc.f]) ?_
    simp only []
    rw [w64 (by omega) (by omega)]
    by_cases hc : left - (t.size : Int) < 0
    · simp only [if_pos hc]
      rw [show wt ⟨o, n, t, ks⟩ = t.size + (ks.length + wtL ks) from rfl, szR_over _ _ _ (by omega)]
      exact Ev.now _
    · simp only [if_neg hc]
      have hS : Ev (fun k => laws_szDocS.f k ks (left - (t.size : Int))) (szR (ks.length + wtL ks) (left - t.size)) := by
        refine Ev.step (fun k => by rw [laws_szDocS.f]) ?_
        rw [w64 (by omega) (by omega)]
        by_cases hc2 : left - (t.size : Int) - (ks.length : Int) < 0
        · simp only [if_pos hc2]
          rw [szR_over ks.length (wtL ks) (left - (t.size : Int)) (by omega)]
          exact Ev.now _
        · simp only [if_neg hc2]
          have := szDocS_loop ks [] (left - (t.size : Int) - (ks.length : Int)) (fun y hy => ih y hy (hks y hy)) (by omega) (by omega) (by simp [maxLen]; omega)
          rw [szR_add ks.length (wtL ks) (left - (t.size : Int)) (by omega)]
          exact this
      refine Ev.bind hS ?_
      rw [show wt ⟨o, n, t, ks⟩ = t.size + (ks.length + wtL ks) from rfl, szR_add t.size (ks.length + wtL ks) left (by omega)]
      by_cases hc3 : szR (ks.length + wtL ks) (left - (t.size : Int)) < 0
      · simp only [if_pos hc3]
        have e : szR (ks.length + wtL ks) (left - (t.size : Int)) = -1 := by rcases szR_spec (ks.length + wtL ks) (left - (t.size : Int)) with ⟨_, e1⟩ | ⟨_, e1⟩ <;> omega
        rw [e]
        exact Ev.now _
      · simp only [if_neg hc3]
        exact Ev.now _
end Go.Proofs.Ytbijachmecgpgaa.Pure
