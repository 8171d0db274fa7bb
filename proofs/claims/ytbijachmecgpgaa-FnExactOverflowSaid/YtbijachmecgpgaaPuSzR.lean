/- PLAIN LEMMAS: what is left over. -/
import Derived.Test.YtbijachmecgpgaaPx0
namespace Go.Proofs.Ytbijachmecgpgaa.Pure
open Go.RowKit Go.Proofs.Ytbijachmecgpgaa.P Go.Proofs.YtbijachmecgpgaaW.PrintWords Go.Proofs.YtbijachmecgpgaaW.PrintLast Go.Proofs.YtbijachmecgpgaaW.PrintMore
set_option linter.unusedVariables false
set_option linter.unusedSimpArgs false
def szR (s : Nat) (left : Int) : Int := if (s : Int) ≤ left then left - s else -1
theorem szR_spec (s : Nat) (left : Int) : ((s : Int) ≤ left ∧ szR s left = left - s) ∨ (left < (s : Int) ∧ szR s left = -1) := by
  by_cases h : (s : Int) ≤ left
  · exact .inl ⟨h, by simp [szR, h]⟩
  · exact .inr ⟨by omega, by simp [szR, h]⟩
theorem szR_add (a b : Nat) (left : Int) (h : (a : Int) ≤ left) : szR (a + b) left = szR b (left - a) := by
  rcases szR_spec (a + b) left with ⟨h1, e1⟩ | ⟨h1, e1⟩ <;> rcases szR_spec b (left - a) with ⟨h2, e2⟩ | ⟨h2, e2⟩ <;> rw [e1, e2] <;> omega
theorem szR_over (a b : Nat) (left : Int) (h : ¬ (a : Int) ≤ left) : szR (a + b) left = -1 := by
  rcases szR_spec (a + b) left with ⟨h1, e1⟩ | ⟨h1, e1⟩ <;> omega
end Go.Proofs.Ytbijachmecgpgaa.Pure
