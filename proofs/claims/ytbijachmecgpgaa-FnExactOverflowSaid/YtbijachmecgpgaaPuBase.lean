/- PLAIN LEMMAS: trees, numbers, rounds. -/
import Derived.Test.YtbijachmecgpgaaPx0
namespace Go.Proofs.Ytbijachmecgpgaa.Pure
open Go.RowKit Go.Proofs.Ytbijachmecgpgaa.P Go.Proofs.YtbijachmecgpgaaW.PrintWords Go.Proofs.YtbijachmecgpgaaW.PrintLast Go.Proofs.YtbijachmecgpgaaW.PrintMore
set_option linter.unusedVariables false
set_option linter.unusedSimpArgs false
theorem w64 {i : Int} (h0 : -9223372036854775808 ≤ i) (h : i ≤ 9223372036854775807) : wrap64 i = i := by unfold wrap64; omega
theorem Ev.iff {α : Type} {c : Prop} [Decidable c] {f g : Nat → Option α} {r : α} (h1 : c → Ev f r) (h2 : ¬ c → Ev g r) : Ev (fun k => if c then f k else g k) r := by
  by_cases h : c
  · simp only [if_pos h]; exact h1 h
  · simp only [if_neg h]; exact h2 h
theorem SDoc.ind {P : SDoc → Prop} (h : ∀ o n t ks, (∀ k, k ∈ ks → P k) → P ⟨o, n, t, ks⟩) : ∀ d, P d
  | ⟨o, n, t, ks⟩ => h o n t ks (fun k hk => SDoc.ind h k)
termination_by d => SizeOf.sizeOf d
decreasing_by
  have := List.sizeOf_lt_of_mem hk
  simp
  omega
mutual
def dsz : SDoc → Nat
  | ⟨_, _, _, ks⟩ => 1 + dszL ks
def dszL : List SDoc → Nat
  | [] => 0
  | k :: ks => dsz k + dszL ks
end
theorem dszL_app : ∀ (a b : List SDoc), dszL (a ++ b) = dszL a + dszL b
  | [], b => by simp [dszL]
  | k :: a, b => by simp [dszL, dszL_app a b]; omega
theorem dszL_len : ∀ (a : List SDoc), a.length ≤ dszL a
  | [] => by simp [dszL]
  | ⟨_, _, _, ks⟩ :: a => by have := dszL_len a; simp [dszL, dsz]; omega
theorem dszL_mem : ∀ {a : List SDoc} {d : SDoc}, d ∈ a → dsz d ≤ dszL a
  | k :: a, d, h => by
    rcases List.mem_cons.1 h with rfl | h
    · simp [dszL]
    · have := dszL_mem h; simp [dszL]; omega
theorem dsz_pos (d : SDoc) : 1 ≤ dsz d := by obtain ⟨_, _, _, ks⟩ := d; simp [dsz]
theorem rdD (a b : List SDoc) (d : SDoc) : rd_TDoc (a ++ d :: b) (a.length : Int) = d := by simp [rd_TDoc]
theorem SDoc_eta (d : SDoc) : (⟨d.f0, d.f1, d.f2, d.f3⟩ : SDoc) = d := by cases d; rfl
theorem dec_eq {p q : Prop} [Decidable p] [Decidable q] (h : p ↔ q) : decide p = decide q := by
  by_cases hq : q
  · rw [decide_eq_true hq, decide_eq_true (h.2 hq)]
  · rw [decide_eq_false hq, decide_eq_false (fun hp => hq (h.1 hp))]
end Go.Proofs.Ytbijachmecgpgaa.Pure
