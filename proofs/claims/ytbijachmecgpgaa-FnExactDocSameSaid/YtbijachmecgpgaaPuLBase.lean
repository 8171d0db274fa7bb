/- PLAIN LEMMAS: the laws' own trees. -/
import Derived.Test.YtbijachmecgpgaaPx0
import Derived.Test.YtbijachmecgpgaaPuBase
namespace Go.Proofs.Ytbijachmecgpgaa.Pure
open Go.RowKit Go.Proofs.Ytbijachmecgpgaa.P Go.Proofs.YtbijachmecgpgaaW.PrintWords Go.Proofs.YtbijachmecgpgaaW.PrintLast Go.Proofs.YtbijachmecgpgaaW.PrintMore
set_option linter.unusedVariables false
set_option linter.unusedSimpArgs false
theorem SLDoc.ind {P : SLDoc → Prop} (h : ∀ o n t ks, (∀ k, k ∈ ks → P k) → P ⟨o, n, t, ks⟩) : ∀ d, P d
  | ⟨o, n, t, ks⟩ => h o n t ks (fun k hk => SLDoc.ind h k)
termination_by d => SizeOf.sizeOf d
decreasing_by
  have := List.sizeOf_lt_of_mem hk
  simp
  omega
theorem rdL (a b : List SLDoc) (d : SLDoc) : rd_TLDoc (a ++ d :: b) (a.length : Int) = d := by simp [rd_TLDoc]
mutual
def wt : SLDoc → Nat
  | ⟨_, _, t, ks⟩ => t.size + (ks.length + wtL ks)
def wtL : List SLDoc → Nat
  | [] => 0
  | k :: ks => wt k + wtL ks
end
mutual
def conv : SLDoc → SDoc
  | ⟨o, n, t, ks⟩ => ⟨o, n, t, convL ks⟩
def convL : List SLDoc → List SDoc
  | [] => []
  | k :: ks => conv k :: convL ks
end
theorem convL_len : ∀ (a : List SLDoc), (convL a).length = a.length
  | [] => rfl
  | k :: a => by simp [convL, convL_len a]
theorem convL_app : ∀ (a b : List SLDoc), convL (a ++ b) = convL a ++ convL b
  | [], b => rfl
  | k :: a, b => by simp [convL, convL_app a b]
theorem convL_mem : ∀ {a : List SLDoc} {d : SDoc}, d ∈ convL a → ∃ e, e ∈ a ∧ d = conv e
  | k :: a, d, h => by
    rcases List.mem_cons.1 (by simpa only [convL] using h) with rfl | h
    · exact ⟨k, List.mem_cons_self, rfl⟩
    · obtain ⟨e, he, rfl⟩ := convL_mem h; exact ⟨e, List.mem_cons_of_mem _ he, rfl⟩
theorem dsz_conv : ∀ d : SLDoc, dsz (conv d) ≤ 1 + wt d := by
  intro d
  induction d using SLDoc.ind with
  | h o n t ks ih =>
    have key : ∀ l : List SLDoc, (∀ k, k ∈ l → dsz (conv k) ≤ 1 + wt k) → dszL (convL l) ≤ l.length + wtL l := by
      intro l
      induction l with
      | nil => intro _; simp [convL, dszL, wtL]
      | cons y l ihl =>
        intro hl
        have h1 := hl y List.mem_cons_self
        have h2 := ihl (fun k hk => hl k (List.mem_cons_of_mem _ hk))
        simp only [convL, dszL, wtL, List.length_cons]
        omega
    have := key ks ih
    simp only [conv, dsz, wt]
    omega
theorem fine_kids {o n : Int} {t : ByteArray} {ks : List SLDoc} (h : FineLDoc ⟨o, n, t, ks⟩) : t.size ≤ maxLen ∧ ks.length ≤ maxLen ∧ ∀ y, y ∈ ks → FineLDoc y := by
  obtain ⟨m, h⟩ := h
  cases m with
  | zero => exact h.elim
  | succ m => obtain ⟨_, _, h2, h3, h4⟩ := h; exact ⟨h2, h3, fun y hy => ⟨m, h4 y hy⟩⟩
end Go.Proofs.Ytbijachmecgpgaa.Pure
