/- THE LAW FnExactCountChoices: for every input that can be read the Go function returns true, and each argument reads behind the call as it read before; no condition beyond those of the given row. -/
import Derived.Test.YtmccfpniolikhaaPx0
import Derived.Test.YtmccfpniolikhaaPx2
import Derived.Test.YtmccfpniolikhaaPx11
import Derived.Test.YtmccfpniolikhaaPx20
import Derived.Test.YtmccfpniolikhaaPx6
import Derived.Test.YtmccfpniolikhaaPx22
import Derived.Test.YtmccfpniolikhaaPx25
import Derived.Test.YtmccfpniolikhaaPx4
import Derived.Test.YtmccfpniolikhaaPx15
import Derived.Test.YtmccfpniolikhaaPx14
import Derived.Test.YtmccfpniolikhaaPx17
import Derived.Test.YtmccfpniolikhaaPx5
import Derived.Test.YtmccfpniolikhaaPx3
import Derived.Test.YtmccfpniolikhaaPx7
import Derived.Test.YtmccfpniolikhaaPx24
import Derived.Test.YtmccfpniolikhaaPx27
import Derived.Test.YtmccfpniolikhaaPx28
import Derived.Test.YtmccfpniolikhaaRows
import Derived.Test.YtmccfpniolikhaaPOpen
import Derived.Test.YtmccfpniolikhaaClosed
import Derived.WalkKit
import Derived.ProofKit
import Derived.OpenShut
import Derived.ShutString
import Derived.ChangeOld
import Derived.Below
import Derived.SizedLaws
namespace Go.Proofs.Ytmccfpniolikhaa.Pure
open Go.RowKit Go.Proofs.Ytmccfpniolikhaa.P Go.Proofs.YtmccfpniolikhaaW.PrintWords Go.Proofs.YtmccfpniolikhaaW.PrintLast Go.Proofs.YtmccfpniolikhaaW.PrintMore
set_option linter.unusedVariables false
set_option linter.unusedSimpArgs false
theorem w64 {i : Int} (h0 : -9223372036854775808 ≤ i) (h : i ≤ 9223372036854775807) : wrap64 i = i := by unfold wrap64; omega
theorem Ev.iff {α : Type} {c : Prop} [Decidable c] {f g : Nat → Option α} {r : α} (h1 : c → Ev f r) (h2 : ¬ c → Ev g r) : Ev (fun k => if c then f k else g k) r := by
  by_cases h : c
  · simp only [if_pos h]; exact h1 h
  · simp only [if_neg h]; exact h2 h
theorem SDoc.ind {P : SDoc → Prop} (h : ∀ o n t ks, (∀ k, k ∈ ks → P k) → P ⟨o, n, t, ks⟩) : ∀ d, P d
  | ⟨o, n, t, ks⟩ => h o n t ks (fun k hk => SDoc.ind h k)
termination_by d => SizeOf.sizeOf d
decreasing_by
  have := List.sizeOf_lt_of_mem hk
  simp
  omega
mutual
def dsz : SDoc → Nat
  | ⟨_, _, _, ks⟩ => 1 + dszL ks
def dszL : List SDoc → Nat
  | [] => 0
  | k :: ks => dsz k + dszL ks
end
theorem dszL_app : ∀ (a b : List SDoc), dszL (a ++ b) = dszL a + dszL b
  | [], b => by simp [dszL]
  | k :: a, b => by simp [dszL, dszL_app a b]; omega
theorem dszL_len : ∀ (a : List SDoc), a.length ≤ dszL a
  | [] => by simp [dszL]
  | ⟨_, _, _, ks⟩ :: a => by have := dszL_len a; simp [dszL, dsz]; omega
theorem dszL_mem : ∀ {a : List SDoc} {d : SDoc}, d ∈ a → dsz d ≤ dszL a
  | k :: a, d, h => by
    rcases List.mem_cons.1 h with rfl | h
    · simp [dszL]
    · have := dszL_mem h; simp [dszL]; omega
theorem dsz_pos (d : SDoc) : 1 ≤ dsz d := by obtain ⟨_, _, _, ks⟩ := d; simp [dsz]
theorem rdD (a b : List SDoc) (d : SDoc) : rd_TDoc (a ++ d :: b) (a.length : Int) = d := by simp [rd_TDoc]
theorem SDoc_eta (d : SDoc) : (⟨d.f0, d.f1, d.f2, d.f3⟩ : SDoc) = d := by cases d; rfl
theorem dec_eq {p q : Prop} [Decidable p] [Decidable q] (h : p ↔ q) : decide p = decide q := by
  by_cases hq : q
  · rw [decide_eq_true hq, decide_eq_true (h.2 hq)]
  · rw [decide_eq_false hq, decide_eq_false (fun hp => hq (h.1 hp))]
end Go.Proofs.Ytmccfpniolikhaa.Pure
namespace Go.Proofs.Ytmccfpniolikhaa.Pure
open Go.RowKit Go.Proofs.Ytmccfpniolikhaa.P Go.Proofs.YtmccfpniolikhaaW.PrintWords Go.Proofs.YtmccfpniolikhaaW.PrintLast Go.Proofs.YtmccfpniolikhaaW.PrintMore
set_option linter.unusedVariables false
set_option linter.unusedSimpArgs false
theorem SLDoc.ind {P : SLDoc → Prop} (h : ∀ o n t ks, (∀ k, k ∈ ks → P k) → P ⟨o, n, t, ks⟩) : ∀ d, P d
  | ⟨o, n, t, ks⟩ => h o n t ks (fun k hk => SLDoc.ind h k)
termination_by d => SizeOf.sizeOf d
decreasing_by
  have := List.sizeOf_lt_of_mem hk
  simp
  omega
theorem rdL (a b : List SLDoc) (d : SLDoc) : rd_TLDoc (a ++ d :: b) (a.length : Int) = d := by simp [rd_TLDoc]
mutual
def wt : SLDoc → Nat
  | ⟨_, _, t, ks⟩ => t.size + (ks.length + wtL ks)
def wtL : List SLDoc → Nat
  | [] => 0
  | k :: ks => wt k + wtL ks
end
mutual
def conv : SLDoc → SDoc
  | ⟨o, n, t, ks⟩ => ⟨o, n, t, convL ks⟩
def convL : List SLDoc → List SDoc
  | [] => []
  | k :: ks => conv k :: convL ks
end
theorem convL_len : ∀ (a : List SLDoc), (convL a).length = a.length
  | [] => rfl
  | k :: a => by simp [convL, convL_len a]
theorem convL_app : ∀ (a b : List SLDoc), convL (a ++ b) = convL a ++ convL b
  | [], b => rfl
  | k :: a, b => by simp [convL, convL_app a b]
theorem convL_mem : ∀ {a : List SLDoc} {d : SDoc}, d ∈ convL a → ∃ e, e ∈ a ∧ d = conv e
  | k :: a, d, h => by
    rcases List.mem_cons.1 (by simpa only [convL] using h) with rfl | h
    · exact ⟨k, List.mem_cons_self, rfl⟩
    · obtain ⟨e, he, rfl⟩ := convL_mem h; exact ⟨e, List.mem_cons_of_mem _ he, rfl⟩
theorem dsz_conv : ∀ d : SLDoc, dsz (conv d) ≤ 1 + wt d := by
  intro d
  induction d using SLDoc.ind with
  | h o n t ks ih =>
    have key : ∀ l : List SLDoc, (∀ k, k ∈ l → dsz (conv k) ≤ 1 + wt k) → dszL (convL l) ≤ l.length + wtL l := by
      intro l
      induction l with
      | nil => intro _; simp [convL, dszL, wtL]
      | cons y l ihl =>
        intro hl
        have h1 := hl y List.mem_cons_self
        have h2 := ihl (fun k hk => hl k (List.mem_cons_of_mem _ hk))
        simp only [convL, dszL, wtL, List.length_cons]
        omega
    have := key ks ih
    simp only [conv, dsz, wt]
    omega
theorem fine_kids {o n : Int} {t : ByteArray} {ks : List SLDoc} (h : FineLDoc ⟨o, n, t, ks⟩) : t.size ≤ maxLen ∧ ks.length ≤ maxLen ∧ ∀ y, y ∈ ks → FineLDoc y := by
  obtain ⟨m, h⟩ := h
  cases m with
  | zero => exact h.elim
  | succ m => obtain ⟨_, _, h2, h3, h4⟩ := h; exact ⟨h2, h3, fun y hy => ⟨m, h4 y hy⟩⟩
end Go.Proofs.Ytmccfpniolikhaa.Pure
namespace Go.Proofs.Ytmccfpniolikhaa.Pure
open Go.RowKit Go.Proofs.Ytmccfpniolikhaa.P Go.Proofs.YtmccfpniolikhaaW.PrintWords Go.Proofs.YtmccfpniolikhaaW.PrintLast Go.Proofs.YtmccfpniolikhaaW.PrintMore
set_option linter.unusedVariables false
set_option linter.unusedSimpArgs false
def szR (s : Nat) (left : Int) : Int := if (s : Int) ≤ left then left - s else -1
theorem szR_spec (s : Nat) (left : Int) : ((s : Int) ≤ left ∧ szR s left = left - s) ∨ (left < (s : Int) ∧ szR s left = -1) := by
  by_cases h : (s : Int) ≤ left
  · exact .inl ⟨h, by simp [szR, h]⟩
  · exact .inr ⟨by omega, by simp [szR, h]⟩
theorem szR_add (a b : Nat) (left : Int) (h : (a : Int) ≤ left) : szR (a + b) left = szR b (left - a) := by
  rcases szR_spec (a + b) left with ⟨h1, e1⟩ | ⟨h1, e1⟩ <;> rcases szR_spec b (left - a) with ⟨h2, e2⟩ | ⟨h2, e2⟩ <;> rw [e1, e2] <;> omega
theorem szR_over (a b : Nat) (left : Int) (h : ¬ (a : Int) ≤ left) : szR (a + b) left = -1 := by
  rcases szR_spec (a + b) left with ⟨h1, e1⟩ | ⟨h1, e1⟩ <;> omega
end Go.Proofs.Ytmccfpniolikhaa.Pure
namespace Go.Proofs.Ytmccfpniolikhaa.Pure
open Go.RowKit Go.Proofs.Ytmccfpniolikhaa.P Go.Proofs.YtmccfpniolikhaaW.PrintWords Go.Proofs.YtmccfpniolikhaaW.PrintLast Go.Proofs.YtmccfpniolikhaaW.PrintMore
set_option linter.unusedVariables false
set_option linter.unusedSimpArgs false
theorem szDocS_loop (suf : List SLDoc) : ∀ (pre : List SLDoc) (left : Int),
    (∀ y, y ∈ suf → ∀ l : Int, 0 ≤ l → l ≤ 1048576 → Ev (fun k => laws_szDoc.f k y.f0 y.f1 y.f2 y.f3 l) (szR (wt y) l)) → 0 ≤ left → left ≤ 1048576 → pre.length + suf.length ≤ maxLen →
    Ev (fun k => laws_szDocS.l0 k (pre ++ suf) left (pre.length : Int)) (szR (wtL suf) left) := by
  induction suf with
  | nil =>
    intro pre left _ h0 h1 hm
    refine Ev.step (fun k => by rw [laws_szDocS.l0]) ?_
    simp only [List.append_nil, Int.lt_irrefl, if_false]
    rw [show szR (wtL []) left = left from by simp [szR, wtL, h0]]
    exact Ev.now _
  | cons y suf ih =>
    intro pre left hy h0 h1 hm
    simp only [maxLen, List.length_cons] at hm
    refine Ev.step (fun k => by rw [laws_szDocS.l0]) ?_
    have c1 : (pre.length : Int) < ((pre ++ y :: suf).length : Int) := by simp; omega
    have c2 : (0 : Int) ≤ (pre.length : Int) := by omega
    simp only [if_pos c1, if_pos c2, rdL]
    refine Ev.bind (hy y List.mem_cons_self left h0 h1) ?_
    by_cases hc : (wt y : Int) ≤ left
    · have e : szR (wt y) left = left - wt y := by simp [szR, hc]
      rw [e]
      have c3 : ¬ (left - (wt y : Int) < 0) := by omega
      simp only [if_neg c3]
      rw [w64 (by omega) (by omega)]
      have := ih (pre ++ [y]) (left - wt y) (fun z hz => hy z (List.mem_cons_of_mem _ hz)) (by omega) (by omega) (by simp [maxLen]; omega)
      rw [List.append_assoc, show ((pre ++ [y]).length : Int) = (pre.length : Int) + 1 by simp] at this
      rw [show wtL (y :: suf) = wt y + wtL suf from rfl, szR_add _ _ _ hc]
      exact this
    · have e : szR (wt y) left = -1 := by simp [szR, hc]
      rw [e]
      simp only [show ((-1 : Int) < 0) = True by simp, if_true]
      rw [show wtL (y :: suf) = wt y + wtL suf from rfl, szR_over _ _ _ hc]
      exact Ev.now _
theorem szDoc_ev : ∀ (d : SLDoc), FineLDoc d → ∀ left : Int, 0 ≤ left → left ≤ 1048576 → Ev (fun k => laws_szDoc.f k d.f0 d.f1 d.f2 d.f3 left) (szR (wt d) left) := by
  intro d
  induction d using SLDoc.ind with
  | h o n t ks ih =>
    intro hf left h0 h1
    obtain ⟨ht, hk, hks⟩ := fine_kids hf
    simp only [maxLen] at ht hk
    refine Ev.step (fun k => by rw [laws_szDoc.f]) ?_
    simp only []
    rw [w64 (by omega) (by omega)]
    by_cases hc : left - (t.size : Int) < 0
    · simp only [if_pos hc]
      rw [show wt ⟨o, n, t, ks⟩ = t.size + (ks.length + wtL ks) from rfl, szR_over _ _ _ (by omega)]
      exact Ev.now _
    · simp only [if_neg hc]
      have hS : Ev (fun k => laws_szDocS.f k ks (left - (t.size : Int))) (szR (ks.length + wtL ks) (left - t.size)) := by
        refine Ev.step (fun k => by rw [laws_szDocS.f]) ?_
        rw [w64 (by omega) (by omega)]
        by_cases hc2 : left - (t.size : Int) - (ks.length : Int) < 0
        · simp only [if_pos hc2]
          rw [szR_over ks.length (wtL ks) (left - (t.size : Int)) (by omega)]
          exact Ev.now _
        · simp only [if_neg hc2]
          have := szDocS_loop ks [] (left - (t.size : Int) - (ks.length : Int)) (fun y hy => ih y hy (hks y hy)) (by omega) (by omega) (by simp [maxLen]; omega)
          rw [szR_add ks.length (wtL ks) (left - (t.size : Int)) (by omega)]
          exact this
      refine Ev.bind hS ?_
      rw [show wt ⟨o, n, t, ks⟩ = t.size + (ks.length + wtL ks) from rfl, szR_add t.size (ks.length + wtL ks) left (by omega)]
      by_cases hc3 : szR (ks.length + wtL ks) (left - (t.size : Int)) < 0
      · simp only [if_pos hc3]
        have e : szR (ks.length + wtL ks) (left - (t.size : Int)) = -1 := by rcases szR_spec (ks.length + wtL ks) (left - (t.size : Int)) with ⟨_, e1⟩ | ⟨_, e1⟩ <;> omega
        rw [e]
        exact Ev.now _
      · simp only [if_neg hc3]
        exact Ev.now _
end Go.Proofs.Ytmccfpniolikhaa.Pure
namespace Go.Proofs.Ytmccfpniolikhaa.Pure
open Go.RowKit Go.Proofs.Ytmccfpniolikhaa.P Go.Proofs.YtmccfpniolikhaaW.PrintWords Go.Proofs.YtmccfpniolikhaaW.PrintLast Go.Proofs.YtmccfpniolikhaaW.PrintMore
set_option linter.unusedVariables false
set_option linter.unusedSimpArgs false
theorem toDocS_loop (suf : List SLDoc) : ∀ (pre : List SLDoc),
    (∀ y, y ∈ suf → Ev (fun k => laws_toDoc.f k y.f0 y.f1 y.f2 y.f3) ((conv y).f0, (conv y).f1, (conv y).f2, (conv y).f3)) → pre.length + suf.length ≤ maxLen →
    Ev (fun k => laws_toDocS.l0 k (pre ++ suf) (convL pre ++ List.replicate suf.length zDoc) (pre.length : Int)) (convL (pre ++ suf)) := by
  induction suf with
  | nil =>
    intro pre _ hm
    refine Ev.step (fun k => by rw [laws_toDocS.l0]) ?_
    simp only [List.append_nil, Int.lt_irrefl, if_false, List.length_nil, List.replicate_zero]
    exact Ev.now _
  | cons y suf ih =>
    intro pre hy hm
    simp only [maxLen, List.length_cons] at hm
    refine Ev.step (fun k => by rw [laws_toDocS.l0]) ?_
    have c1 : (pre.length : Int) < ((pre ++ y :: suf).length : Int) := by simp; omega
    have c2 : (0 : Int) ≤ (pre.length : Int) := by omega
    have c3 : (pre.length : Int) < ((convL pre ++ List.replicate (y :: suf).length zDoc).length : Int) := by simp [convL_len]; omega
    simp only [if_pos c1, if_pos c2, if_pos c3, rdL]
    refine Ev.bind (hy y List.mem_cons_self) ?_
    rw [w64 (by omega) (by omega)]
    have e : (convL pre ++ List.replicate (y :: suf).length zDoc).set (pre.length : Int).toNat (⟨(conv y).f0, (conv y).f1, (conv y).f2, (conv y).f3⟩ : SDoc) = convL (pre ++ [y]) ++ List.replicate suf.length zDoc := by
      rw [List.length_cons, List.replicate_succ, Int.toNat_natCast, List.set_append_right _ _ (by rw [convL_len]; exact Nat.le_refl _), convL_len, Nat.sub_self, List.set_cons_zero, convL_app]
      simp [convL, SDoc_eta]
    simp only [e]
    have := ih (pre ++ [y]) (fun z hz => hy z (List.mem_cons_of_mem _ hz)) (by simp [maxLen]; omega)
    rw [List.append_assoc, show ((pre ++ [y]).length : Int) = (pre.length : Int) + 1 by simp] at this
    exact this
theorem toDoc_ev : ∀ (d : SLDoc), wt d ≤ 1048576 → Ev (fun k => laws_toDoc.f k d.f0 d.f1 d.f2 d.f3) ((conv d).f0, (conv d).f1, (conv d).f2, (conv d).f3) := by
  intro d
  induction d using SLDoc.ind with
  | h o n t ks ih =>
    intro hw
    simp only [wt] at hw
    refine Ev.step (fun k => by rw [laws_toDoc.f]) ?_
    have hS : Ev (fun k => laws_toDocS.f k ks) (convL ks) := by
      refine Ev.step (fun k => by rw [laws_toDocS.f]) ?_
      have c1 : (0 : Int) ≤ (ks.length : Int) := by omega
      have c2 : ((ks.length : Int) : Int).toNat ≤ 5026338869833 := by omega
      simp only [if_pos c1, if_pos c2]
      have hmem : ∀ y, y ∈ ks → wt y ≤ wtL ks := by
        intro y hy
        clear ih hw c1 c2
        induction ks with
        | nil => simp at hy
        | cons a l ihl =>
          simp only [wtL]
          rcases List.mem_cons.1 hy with rfl | h
          · omega
          · have := ihl h; omega
      have := toDocS_loop ks [] (fun y hy => ih y hy (by have := hmem y hy; omega)) (by simp [maxLen]; omega)
      simpa [convL] using this
    refine Ev.bind hS ?_
    exact Ev.now _
end Go.Proofs.Ytmccfpniolikhaa.Pure
namespace Go.Proofs.Ytmccfpniolikhaa.Pure
open Go.RowKit Go.Proofs.Ytmccfpniolikhaa.P Go.Proofs.YtmccfpniolikhaaW.PrintWords Go.Proofs.YtmccfpniolikhaaW.PrintLast Go.Proofs.YtmccfpniolikhaaW.PrintMore
set_option linter.unusedVariables false
set_option linter.unusedSimpArgs false
theorem eqDocS_loop (suf : List SDoc) : ∀ (pre : List SDoc),
    (∀ y, y ∈ suf → Ev (fun k => laws_eqDoc.f k y.f0 y.f1 y.f2 y.f3 y.f0 y.f1 y.f2 y.f3) true) → pre.length + suf.length ≤ 4611686018427387904 →
    Ev (fun k => laws_eqDocS.l0 k (pre ++ suf) (pre ++ suf) (pre.length : Int)) true := by
  induction suf with
  | nil =>
    intro pre _ hm
    refine Ev.step (fun k => by rw [laws_eqDocS.l0]) ?_
    simp only [List.append_nil, Int.lt_irrefl, if_false]
    exact Ev.now _
  | cons y suf ih =>
    intro pre hy hm
    simp only [List.length_cons] at hm
    refine Ev.step (fun k => by rw [laws_eqDocS.l0]) ?_
    have c1 : (pre.length : Int) < ((pre ++ y :: suf).length : Int) := by simp; omega
    have c2 : (0 : Int) ≤ (pre.length : Int) := by omega
    simp only [if_pos c1, if_pos c2, rdD]
    refine Ev.bind (hy y List.mem_cons_self) ?_
    simp only [if_true]
    rw [w64 (by omega) (by omega)]
    have := ih (pre ++ [y]) (fun z hz => hy z (List.mem_cons_of_mem _ hz)) (by simp; omega)
    rw [List.append_assoc, show ((pre ++ [y]).length : Int) = (pre.length : Int) + 1 by simp] at this
    exact this
theorem eqDoc_refl : ∀ (d : SDoc), dsz d ≤ 4611686018427387904 → Ev (fun k => laws_eqDoc.f k d.f0 d.f1 d.f2 d.f3 d.f0 d.f1 d.f2 d.f3) true := by
  intro d
  induction d using SDoc.ind with
  | h o n t ks ih =>
    intro hd
    simp only [dsz] at hd
    refine Ev.step (fun k => by rw [laws_eqDoc.f]) ?_
    simp only [if_true]
    have hS : Ev (fun k => laws_eqDocS.f k ks ks) true := by
      refine Ev.step (fun k => by rw [laws_eqDocS.f]) ?_
      simp only [if_true]
      have := eqDocS_loop ks [] (fun y hy => ih y hy (by have := dszL_mem hy; omega)) (by have := dszL_len ks; simp; omega)
      simpa using this
    refine Ev.bind hS ?_
    exact Ev.now _
end Go.Proofs.Ytmccfpniolikhaa.Pure
namespace Go.Proofs.Ytmccfpniolikhaa.Pure
open Go.RowKit Go.Proofs.Ytmccfpniolikhaa.P Go.Proofs.YtmccfpniolikhaaW.PrintWords Go.Proofs.YtmccfpniolikhaaW.PrintLast Go.Proofs.YtmccfpniolikhaaW.PrintMore
set_option linter.unusedVariables false
set_option linter.unusedSimpArgs false
mutual
/-- nodes and bytes of texts -/
def msz : SDoc → Nat
  | ⟨_, _, t, ks⟩ => 1 + t.size + mszL ks
def mszL : List SDoc → Nat
  | [] => 0
  | k :: ks => msz k + mszL ks
end
theorem mszL_len : ∀ (a : List SDoc), a.length ≤ mszL a
  | [] => by simp [mszL]
  | ⟨_, _, _, ks⟩ :: a => by have := mszL_len a; simp [mszL, msz]; omega
theorem mszL_mem : ∀ {a : List SDoc} {d : SDoc}, d ∈ a → msz d ≤ mszL a
  | k :: a, d, h => by
    rcases List.mem_cons.1 h with rfl | h
    · simp [mszL]
    · have := mszL_mem h; simp [mszL]; omega
theorem mszL_app : ∀ (a b : List SDoc), mszL (a ++ b) = mszL a + mszL b
  | [], b => by simp [mszL]
  | k :: a, b => by simp [mszL, mszL_app a b]; omega
theorem dsz_msz : ∀ d : SDoc, dsz d ≤ msz d := by
  intro d
  induction d using SDoc.ind with
  | h o n t ks ih =>
    have key : ∀ l : List SDoc, (∀ k, k ∈ l → dsz k ≤ msz k) → dszL l ≤ mszL l := by
      intro l
      induction l with
      | nil => intro _; simp [dszL, mszL]
      | cons y l ihl =>
        intro hl
        have h1 := hl y List.mem_cons_self
        have h2 := ihl (fun k hk => hl k (List.mem_cons_of_mem _ hk))
        simp only [dszL, mszL]
        omega
    have := key ks ih
    simp only [dsz, msz]
    omega
theorem specCount_loop (o n : Int) (t : ByteArray) (suf : List SDoc) : ∀ (pre : List SDoc) (acc : Int),
    (∀ y, y ∈ suf → Ev (fun k => spec_l1Count.f k y.f0 y.f1 y.f2 y.f3) (dsz y : Int)) → 0 ≤ acc → acc + dszL suf ≤ 9223372036854775807 → pre.length + suf.length ≤ 4611686018427387904 →
    Ev (fun k => spec_l1Count.l0 k acc (pre.length : Int) o n t (pre ++ suf)) (acc + dszL suf) := by
  induction suf with
  | nil =>
    intro pre acc _ h0 hs hm
    refine Ev.step (fun k => by rw [spec_l1Count.l0]) ?_
    simp only [List.append_nil, Int.lt_irrefl, if_false, dszL, Int.natCast_zero, Int.add_zero]
    exact Ev.now _
  | cons y suf ih =>
    intro pre acc hy h0 hs hm
    simp only [List.length_cons, dszL] at hm hs
    refine Ev.step (fun k => by rw [spec_l1Count.l0]) ?_
    have c1 : (pre.length : Int) < ((pre ++ y :: suf).length : Int) := by simp; omega
    have c2 : (0 : Int) ≤ (pre.length : Int) := by omega
    simp only [if_pos c1, if_pos c2, rdD]
    refine Ev.bind (hy y List.mem_cons_self) ?_
    rw [w64 (i := acc + dsz y) (by omega) (by omega), w64 (by omega) (by omega)]
    have := ih (pre ++ [y]) (acc + dsz y) (fun z hz => hy z (List.mem_cons_of_mem _ hz)) (by omega) (by omega) (by simp; omega)
    rw [List.append_assoc, show ((pre ++ [y]).length : Int) = (pre.length : Int) + 1 by simp] at this
    rw [show acc + (dszL (y :: suf) : Int) = acc + dsz y + dszL suf by simp [dszL]; omega]
    exact this
theorem specCount_ev : ∀ (d : SDoc), dsz d ≤ 4611686018427387904 → Ev (fun k => spec_l1Count.f k d.f0 d.f1 d.f2 d.f3) (dsz d : Int) := by
  intro d
  induction d using SDoc.ind with
  | h o n t ks ih =>
    intro hd
    simp only [dsz] at hd
    refine Ev.step (fun k => by rw [spec_l1Count.f]) ?_
    have := specCount_loop o n t ks [] 1 (fun y hy => ih y hy (by have := dszL_mem hy; omega)) (by omega) (by omega) (by have := dszL_len ks; simp; omega)
    rw [show ((dsz ⟨o, n, t, ks⟩ : Nat) : Int) = 1 + (dszL ks : Int) by simp [dsz]]
    simpa using this
end Go.Proofs.Ytmccfpniolikhaa.Pure
namespace Go.Proofs.Ytmccfpniolikhaa.Pure
open Go.RowKit Go.Proofs.Ytmccfpniolikhaa.P Go.Proofs.YtmccfpniolikhaaW.PrintWords Go.Proofs.YtmccfpniolikhaaW.PrintLast Go.Proofs.YtmccfpniolikhaaW.PrintMore
set_option linter.unusedVariables false
set_option linter.unusedSimpArgs false
theorem msz_conv : ∀ d : SLDoc, msz (conv d) ≤ 1 + wt d := by
  intro d
  induction d using SLDoc.ind with
  | h o n t ks ih =>
    have key : ∀ l : List SLDoc, (∀ k, k ∈ l → msz (conv k) ≤ 1 + wt k) → mszL (convL l) ≤ l.length + wtL l := by
      intro l
      induction l with
      | nil => intro _; simp [convL, mszL, wtL]
      | cons y l ihl =>
        intro hl
        have h1 := hl y List.mem_cons_self
        have h2 := ihl (fun k hk => hl k (List.mem_cons_of_mem _ hk))
        simp only [convL, mszL, wtL, List.length_cons]
        omega
    have := key ks ih
    simp only [conv, msz, wt]
    omega
/-- A law begins so: too large an input is passed over. -/
theorem law_begins {d : SLDoc} (hf : FineLDoc d) {rest : Nat → Option Bool}
    (h : msz (conv d) ≤ 1048577 → Ev (fun k => laws_toDoc.f k d.f0 d.f1 d.f2 d.f3) ((conv d).f0, (conv d).f1, (conv d).f2, (conv d).f3) → Ev rest true) :
    Ev (fun k => (laws_szDoc.f k d.f0 d.f1 d.f2 d.f3 1048576).bind fun t => if t < 0 then some true else rest k) true := by
  refine Ev.bind (szDoc_ev d hf 1048576 (by omega) (by omega)) ?_
  rcases szR_spec (wt d) 1048576 with ⟨hw, e⟩ | ⟨_, e⟩
  · rw [e]
    have c : ¬ ((1048576 : Int) - (wt d : Int) < 0) := by omega
    simp only [if_neg c]
    have := msz_conv d
    exact h (by omega) (toDoc_ev d (by omega))
  · rw [e]
    exact Ev.now _
/-- .. and ends so: the document that was handed over is as it was. -/
theorem law_ends {d : SLDoc} (hm : msz (conv d) ≤ 1048577) (hT : Ev (fun k => laws_toDoc.f k d.f0 d.f1 d.f2 d.f3) ((conv d).f0, (conv d).f1, (conv d).f2, (conv d).f3)) :
    Ev (fun k => (laws_toDoc.f k d.f0 d.f1 d.f2 d.f3).bind fun bt => (laws_eqDoc.f k (conv d).f0 (conv d).f1 (conv d).f2 (conv d).f3 bt.1 bt.2.1 bt.2.2.1 bt.2.2.2).bind fun t => if t = true then some true else none) true := by
  refine Ev.bind hT ?_
  have := dsz_msz (conv d)
  refine Ev.bind (eqDoc_refl _ (by omega)) ?_
  exact Ev.now _
/-- A later document of a law: what is left over is told on. -/
theorem law_takes {d : SLDoc} (hf : FineLDoc d) {left : Int} (h0 : 0 ≤ left) (h1 : left ≤ 1048576) {rest : Int → Nat → Option Bool}
    (h : ∀ l : Int, 0 ≤ l → l ≤ left → msz (conv d) ≤ 1048577 → Ev (fun k => laws_toDoc.f k d.f0 d.f1 d.f2 d.f3) ((conv d).f0, (conv d).f1, (conv d).f2, (conv d).f3) → Ev (rest l) true) :
    Ev (fun k => (laws_szDoc.f k d.f0 d.f1 d.f2 d.f3 left).bind fun t => if t < 0 then some true else rest t k) true := by
  refine Ev.bind (szDoc_ev d hf left (by omega) (by omega)) ?_
  rcases szR_spec (wt d) left with ⟨hw, e⟩ | ⟨_, e⟩
  · rw [e]
    have c : ¬ (left - (wt d : Int) < 0) := by omega
    simp only [if_neg c]
    have := msz_conv d
    exact h _ (by omega) (by omega) (by omega) (toDoc_ev d (by omega))
  · rw [e]
    exact Ev.now _
end Go.Proofs.Ytmccfpniolikhaa.Pure
namespace Go.Proofs.Ytmccfpniolikhaa.Pure
open Go.RowKit Go.Proofs.Ytmccfpniolikhaa.P Go.Proofs.YtmccfpniolikhaaW.PrintWords Go.Proofs.YtmccfpniolikhaaW.PrintLast Go.Proofs.YtmccfpniolikhaaW.PrintMore
set_option linter.unusedVariables false
set_option linter.unusedSimpArgs false
mutual
def cnt (op : Int) : SDoc → Nat
  | ⟨o, _, _, ks⟩ => (if o = op then 1 else 0) + cntL op ks
def cntL (op : Int) : List SDoc → Nat
  | [] => 0
  | k :: ks => cnt op k + cntL op ks
end
theorem cntL_cons (op : Int) (y : SDoc) (l : List SDoc) : cntL op (y :: l) = cnt op y + cntL op l := rfl
theorem cntL_app (op : Int) : ∀ (a b : List SDoc), cntL op (a ++ b) = cntL op a + cntL op b
  | [], b => by simp [cntL]
  | k :: a, b => by simp [cntL, cntL_app op a b]; omega
theorem cnt_le (op : Int) : ∀ d : SDoc, cnt op d ≤ dsz d := by
  intro d
  induction d using SDoc.ind with
  | h o n t ks ih =>
    have key : ∀ l : List SDoc, (∀ k, k ∈ l → cnt op k ≤ dsz k) → cntL op l ≤ dszL l := by
      intro l
      induction l with
      | nil => intro _; simp [dszL, cntL]
      | cons y l ihl =>
        intro hl
        have h1 := hl y List.mem_cons_self
        have h2 := ihl (fun k hk => hl k (List.mem_cons_of_mem _ hk))
        simp only [dszL, cntL]
        omega
    have := key ks ih
    simp only [dsz, cnt]
    split <;> omega
theorem cntL_le (op : Int) : ∀ l : List SDoc, cntL op l ≤ dszL l
  | [] => by simp [cntL]
  | y :: l => by have := cnt_le op y; have := cntL_le op l; simp only [cntL, dszL]; omega
theorem specCnt_loop (op o n : Int) (t : ByteArray) (suf : List SDoc) : ∀ (pre : List SDoc) (acc : Int),
    (∀ y, y ∈ suf → Ev (fun k => spec_CountOps.f k y.f0 y.f1 y.f2 y.f3 op) (cnt op y : Int)) → 0 ≤ acc → acc + cntL op suf ≤ 9223372036854775807 → pre.length + suf.length ≤ 4611686018427387904 →
    Ev (fun k => spec_CountOps.l0 k op acc (pre.length : Int) o n t (pre ++ suf)) (acc + cntL op suf) := by
  induction suf with
  | nil =>
    intro pre acc _ h0 hs hm
    refine Ev.step (fun k => by rw [spec_CountOps.l0]) ?_
    simp only [List.append_nil, Int.lt_irrefl, if_false, cntL, Int.natCast_zero, Int.add_zero]
    exact Ev.now _
  | cons y suf ih =>
    intro pre acc hy h0 hs hm
    simp only [List.length_cons] at hm
    rw [cntL_cons] at hs ⊢
    refine Ev.step (fun k => by rw [spec_CountOps.l0]) ?_
    have c1 : (pre.length : Int) < ((pre ++ y :: suf).length : Int) := by simp; omega
    have c2 : (0 : Int) ≤ (pre.length : Int) := by omega
    simp only [if_pos c1, if_pos c2, rdD]
    refine Ev.bind (hy y List.mem_cons_self) ?_
    rw [w64 (i := acc + cnt op y) (by omega) (by omega), w64 (by omega) (by omega)]
    have := ih (pre ++ [y]) (acc + cnt op y) (fun z hz => hy z (List.mem_cons_of_mem _ hz)) (by omega) (by omega) (by simp; omega)
    rw [List.append_assoc, show ((pre ++ [y]).length : Int) = (pre.length : Int) + 1 by simp] at this
    rw [show acc + ((cnt op y + cntL op suf : Nat) : Int) = acc + cnt op y + cntL op suf by omega]
    exact this
theorem specCnt_ev (op : Int) : ∀ (d : SDoc), dsz d ≤ 4611686018427387904 → Ev (fun k => spec_CountOps.f k d.f0 d.f1 d.f2 d.f3 op) (cnt op d : Int) := by
  intro d
  induction d using SDoc.ind with
  | h o n t ks ih =>
    intro hd
    simp only [dsz] at hd
    have hc := cntL_le op ks
    have hl := dszL_len ks
    have key : ∀ acc : Int, 0 ≤ acc → acc ≤ 1 → Ev (fun k => spec_CountOps.j0 k op acc o n t ks) (acc + cntL op ks) := fun acc h0 h1 => by
      refine Ev.step (fun k => by rw [spec_CountOps.j0]) ?_
      have := specCnt_loop op o n t ks [] acc (fun y hy => ih y hy (by have := dszL_mem hy; omega)) h0 (by omega) (by simp; omega)
      simpa using this
    refine Ev.step (fun k => by rw [spec_CountOps.f]) ?_
    by_cases h : o = op
    · simp only [if_pos h]
      rw [show ((cnt op ⟨o, n, t, ks⟩ : Nat) : Int) = 1 + (cntL op ks : Int) by simp [cnt, h]]
      exact key 1 (by omega) (by omega)
    · simp only [if_neg h]
      rw [show ((cnt op ⟨o, n, t, ks⟩ : Nat) : Int) = 0 + (cntL op ks : Int) by simp [cnt, h]]
      exact key 0 (by omega) (by omega)
theorem implCnt_loop (op : Int) (suf : List SDoc) : ∀ (pre : List SDoc) (acc N : Int), N = ((pre ++ suf).length : Int) →
    (∀ y, y ∈ suf → Ev (fun k => impl_CountOps.f k y.f0 y.f1 y.f2 y.f3 op) (cnt op y : Int)) → 0 ≤ acc → acc + cntL op suf ≤ 9223372036854775807 → pre.length + suf.length ≤ 4611686018427387904 →
    Ev (fun k => impl_CountOps.l0 k op acc (pre ++ suf) N (pre.length : Int)) (acc + cntL op suf) := by
  induction suf with
  | nil =>
    intro pre acc N hN _ h0 hs hm
    subst hN
    refine Ev.step (fun k => by rw [impl_CountOps.l0]) ?_
    simp only [List.append_nil, Int.lt_irrefl, if_false, cntL, Int.natCast_zero, Int.add_zero]
    exact Ev.now _
  | cons y suf ih =>
    intro pre acc N hN hy h0 hs hm
    simp only [List.length_cons] at hm
    rw [cntL_cons] at hs ⊢
    refine Ev.step (fun k => by rw [impl_CountOps.l0]) ?_
    have c1 : (pre.length : Int) < ((pre ++ y :: suf).length : Int) := by simp; omega
    have c0 : (pre.length : Int) < N := by omega
    have c2 : (0 : Int) ≤ (pre.length : Int) := by omega
    simp only [if_pos c0, if_pos c1, if_pos c2, rdD]
    refine Ev.bind (hy y List.mem_cons_self) ?_
    rw [w64 (i := acc + cnt op y) (by omega) (by omega), w64 (by omega) (by omega)]
    have := ih (pre ++ [y]) (acc + cnt op y) N (by rw [hN]; simp) (fun z hz => hy z (List.mem_cons_of_mem _ hz)) (by omega) (by omega) (by simp; omega)
    rw [List.append_assoc, show ((pre ++ [y]).length : Int) = (pre.length : Int) + 1 by simp] at this
    rw [show acc + ((cnt op y + cntL op suf : Nat) : Int) = acc + cnt op y + cntL op suf by omega]
    exact this
theorem implCnt_ev (op : Int) : ∀ (d : SDoc), dsz d ≤ 4611686018427387904 → Ev (fun k => impl_CountOps.f k d.f0 d.f1 d.f2 d.f3 op) (cnt op d : Int) := by
  intro d
  induction d using SDoc.ind with
  | h o n t ks ih =>
    intro hd
    simp only [dsz] at hd
    have hc := cntL_le op ks
    have hl := dszL_len ks
    have key : ∀ acc : Int, 0 ≤ acc → acc ≤ 1 → Ev (fun k => impl_CountOps.j0 k op acc o n t ks) (acc + cntL op ks) := fun acc h0 h1 => by
      refine Ev.step (fun k => by rw [impl_CountOps.j0]) ?_
      have := implCnt_loop op ks [] acc (ks.length : Int) (by simp) (fun y hy => ih y hy (by have := dszL_mem hy; omega)) h0 (by omega) (by simp; omega)
      simpa using this
    refine Ev.step (fun k => by rw [impl_CountOps.f]) ?_
    by_cases h : o = op
    · simp only [if_pos h]
      rw [show ((cnt op ⟨o, n, t, ks⟩ : Nat) : Int) = 1 + (cntL op ks : Int) by simp [cnt, h]]
      exact key 1 (by omega) (by omega)
    · simp only [if_neg h]
      rw [show ((cnt op ⟨o, n, t, ks⟩ : Nat) : Int) = 0 + (cntL op ks : Int) by simp [cnt, h]]
      exact key 0 (by omega) (by omega)
end Go.Proofs.Ytmccfpniolikhaa.Pure
namespace Go.Proofs.Ytmccfpniolikhaa.Pure
open Go.RowKit Go.Proofs.Ytmccfpniolikhaa.P Go.Proofs.YtmccfpniolikhaaW.PrintWords Go.Proofs.YtmccfpniolikhaaW.PrintLast Go.Proofs.YtmccfpniolikhaaW.PrintMore
set_option linter.unusedVariables false
set_option linter.unusedSimpArgs false
theorem size_data (s : ByteArray) : s.size = s.data.toList.length := by rw [Array.length_toList]; rfl
theorem bt_mid {s : ByteArray} {pre suf : List UInt8} {b : UInt8} (h : s.data.toList = pre ++ b :: suf) : bt s (pre.length : Int) = (b.toNat : Int) := by
  have hl : pre.length < s.size := by
    have := congrArg List.length h
    rw [List.length_append, List.length_cons] at this
    rw [size_data]; omega
  unfold bt
  rw [dif_pos (by simpa using hl)]
  have : s[(pre.length : Int).toNat]'(by simpa using hl) = b := by
    show s.data[(pre.length : Int).toNat]'(by simpa using hl) = b
    rw [← Array.getElem_toList]
    simp [h]
  rw [this]
def signC (c : Int) : Bool := c == 44 || (c == 58 || (c == 61 || (c == 123 || (c == 125 || (c == 40 || (c == 41 || (c == 91 || c == 93)))))))
def letC (c : Int) : Bool := (decide (97 ≤ c) && decide (c ≤ 122)) || (decide (48 ≤ c) && decide (c ≤ 57))
def goodC (c : Int) : Bool := letC c || signC c
def goodB (b : UInt8) : Bool := goodC (b.toNat : Int)
/-- Can it be the text of a document? -/
def tv (s : ByteArray) : Bool := decide (1 ≤ s.size) && (decide (s.size ≤ 12) && s.data.toList.all goodB)
theorem specText_j3 {s : ByteArray} {i : Int} {l g R : Bool} (h : Ev (fun k => spec_TextValid.l0 k s (wrap64 (i + 1))) R) : Ev (fun k => spec_TextValid.j3 k s i l g) ((l || g) && R) := by
  refine Ev.step (fun k => by rw [spec_TextValid.j3]) ?_
  cases l <;> cases g <;> simp
  · exact Ev.now _
  · exact h
  · exact h
  · exact h
theorem specText_j2 {s : ByteArray} {i c : Int} {l R : Bool} (h : Ev (fun k => spec_TextValid.l0 k s (wrap64 (i + 1))) R) : Ev (fun k => spec_TextValid.j2 k s i c l) ((l || signC c) && R) := by
  refine Ev.step (fun k => by rw [spec_TextValid.j2]) ?_
  have h3 : ∀ g, Ev (fun k => spec_TextValid.j3 k s i l g) ((l || g) && R) := fun g => specText_j3 h
  repeat' refine Ev.iff (fun hc => ?_) (fun hc => ?_)
  · subst hc; exact h3 true
  · subst hc; exact h3 true
  · subst hc; exact h3 true
  · subst hc; exact h3 true
  · subst hc; exact h3 true
  · subst hc; exact h3 true
  · subst hc; exact h3 true
  · subst hc; exact h3 true
  · have e : signC c = (c == 93) := by rw [Bool.eq_iff_iff]; simp [signC]; omega
    rw [e]; exact h3 _
theorem specText_l0 {s : ByteArray} (hs : s.size ≤ 4611686018427387904) : ∀ (suf pre : List UInt8), s.data.toList = pre ++ suf → Ev (fun k => spec_TextValid.l0 k s (pre.length : Int)) (suf.all goodB) := by
  intro suf
  induction suf with
  | nil =>
    intro pre h
    refine Ev.step (fun k => by rw [spec_TextValid.l0]) ?_
    have c1 : ¬ ((pre.length : Int) < (s.size : Int)) := by rw [size_data, h]; simp
    simp only [if_neg c1]
    exact Ev.now _
  | cons b suf ih =>
    intro pre h
    have hl : pre.length < s.size := by rw [size_data, h]; simp
    refine Ev.step (fun k => by rw [spec_TextValid.l0]) ?_
    have c1 : (pre.length : Int) < (s.size : Int) := by omega
    have c2 : (0 : Int) ≤ (pre.length : Int) := by omega
    simp only [if_pos c1, if_pos c2, bt_mid h]
    have hn : Ev (fun k => spec_TextValid.l0 k s (wrap64 ((pre.length : Int) + 1))) (suf.all goodB) := by
      rw [w64 (by omega) (by omega)]
      have := ih (pre ++ [b]) (by rw [h]; simp)
      rw [show ((pre ++ [b]).length : Int) = (pre.length : Int) + 1 by simp] at this
      exact this
    have h2 : ∀ l, l = letC (b.toNat : Int) → Ev (fun k => spec_TextValid.j2 k s (pre.length : Int) (b.toNat : Int) l) ((b :: suf).all goodB) := by
      intro l hl
      rw [List.all_cons, goodB, goodC, ← hl]
      exact specText_j2 hn
    repeat' refine Ev.iff (fun hc => ?_) (fun hc => ?_)
    all_goals refine h2 _ ?_
    all_goals simp [letC, *]
    all_goals omega
theorem specText_ev (s : ByteArray) (hs : s.size ≤ 4611686018427387904) : Ev (fun k => spec_TextValid.f k s) (tv s) := by
  refine Ev.congr (fun k => by rw [spec_TextValid.f]) ?_
  have hl := specText_l0 hs s.data.toList [] rfl
  have h0 : ∀ b, Ev (fun k => spec_TextValid.j0 k s b) (!b && s.data.toList.all goodB) := by
    intro b
    refine Ev.step (fun k => by rw [spec_TextValid.j0]) ?_
    cases b
    · simpa using hl
    · exact Ev.now _
  refine Ev.iff (fun hc => ?_) (fun hc => ?_)
  · have := h0 true
    rwa [show (!true && s.data.toList.all goodB) = tv s from by simp [tv]; omega] at this
  · have := h0 (decide ((s.size : Int) > 12))
    rwa [show (!decide ((s.size : Int) > 12) && s.data.toList.all goodB) = tv s from by
      have e1 : decide (1 ≤ s.size) = true := by simp; omega
      by_cases h12 : s.size ≤ 12
      · have : ¬ ((s.size : Int) > 12) := by omega
        simp [tv, e1, h12, this]
      · have : (s.size : Int) > 12 := by omega
        simp [tv, h12, this]] at this
theorem sign_idx : ∀ n : Nat, n < 256 → (decide (Lib.indexByte [44, 58, 61, 123, 125, 40, 41, 91, 93] (UInt8.ofNat n) ≥ 0)) = signC (n : Int) := by decide +kernel
theorem implText_j1 {s : ByteArray} {i : Int} {g R : Bool} (h : Ev (fun k => impl_TextValid.l0 k s (wrap64 (i + 1))) R) : Ev (fun k => impl_TextValid.j1 k s i (!g)) (g && R) := by
  refine Ev.step (fun k => by rw [impl_TextValid.j1]) ?_
  cases g <;> simp
  · exact Ev.now _
  · exact h
theorem implText_l0 {s : ByteArray} (hs : s.size ≤ 4611686018427387904) : ∀ (suf pre : List UInt8), s.data.toList = pre ++ suf → Ev (fun k => impl_TextValid.l0 k s (pre.length : Int)) (suf.all goodB && (decide (1 ≤ s.size) && decide (s.size ≤ 12))) := by
  intro suf
  induction suf with
  | nil =>
    intro pre h
    refine Ev.step (fun k => by rw [impl_TextValid.l0]) ?_
    have c1 : ¬ ((pre.length : Int) < (s.size : Int)) := by rw [size_data, h]; simp
    simp only [if_neg c1]
    refine Ev.iff (fun hc => ?_) (fun hc => ?_)
    · rw [show (([] : List UInt8).all goodB && (decide (1 ≤ s.size) && decide (s.size ≤ 12))) = decide ((s.size : Int) ≤ 12) from by
        have : 1 ≤ s.size := by omega
        simp [this]; omega]
      exact Ev.now _
    · rw [show (([] : List UInt8).all goodB && (decide (1 ≤ s.size) && decide (s.size ≤ 12))) = false from by
        have : ¬ 1 ≤ s.size := by omega
        simp [this]]
      exact Ev.now _
  | cons b suf ih =>
    intro pre h
    have hl : pre.length < s.size := by rw [size_data, h]; simp
    refine Ev.step (fun k => by rw [impl_TextValid.l0]) ?_
    have c1 : (pre.length : Int) < (s.size : Int) := by omega
    have c2 : (0 : Int) ≤ (pre.length : Int) := by omega
    simp only [if_pos c1, if_pos c2, bt_mid h]
    have hn : Ev (fun k => impl_TextValid.l0 k s (wrap64 ((pre.length : Int) + 1))) (suf.all goodB && (decide (1 ≤ s.size) && decide (s.size ≤ 12))) := by
      rw [w64 (by omega) (by omega)]
      have := ih (pre ++ [b]) (by rw [h]; simp)
      rw [show ((pre ++ [b]).length : Int) = (pre.length : Int) + 1 by simp] at this
      exact this
    have h2 : ∀ g, g = goodC (b.toNat : Int) → Ev (fun k => impl_TextValid.j1 k s (pre.length : Int) (!g)) ((b :: suf).all goodB && (decide (1 ≤ s.size) && decide (s.size ≤ 12))) := by
      intro g hg
      rw [List.all_cons, goodB, ← hg, Bool.and_assoc]
      exact implText_j1 hn
    have hb : b.toNat < 256 := b.toNat_lt
    have hi : strings_IndexByte.f (⟨#[44, 58, 61, 123, 125, 40, 41, 91, 93]⟩ : ByteArray) (b.toNat : Int) = some (Lib.indexByte [44, 58, 61, 123, 125, 40, 41, 91, 93] (UInt8.ofNat b.toNat)) := by
      simp [strings_IndexByte.f]
    have hsg := sign_idx b.toNat hb
    simp only [hi, Option.bind_some, hsg]
    repeat' refine Ev.iff (fun hc => ?_) (fun hc => ?_)
    all_goals refine h2 _ ?_
    all_goals
      have e : letC (b.toNat : Int) = true ∨ letC (b.toNat : Int) = false := by cases letC (b.toNat : Int) <;> simp
      rcases e with e | e <;> simp [goodC, e] <;> (simp [letC] at e; omega)
theorem implText_ev (s : ByteArray) (hs : s.size ≤ 4611686018427387904) : Ev (fun k => impl_TextValid.f k s) (tv s) := by
  refine Ev.congr (fun k => by rw [impl_TextValid.f]) ?_
  have hl := implText_l0 hs s.data.toList [] rfl
  rwa [show (s.data.toList.all goodB && (decide (1 ≤ s.size) && decide (s.size ≤ 12))) = tv s from by
    simp only [tv]
    cases s.data.toList.all goodB <;> simp] at hl
end Go.Proofs.Ytmccfpniolikhaa.Pure
namespace Go.Proofs.Ytmccfpniolikhaa.Pure
open Go.RowKit Go.Proofs.Ytmccfpniolikhaa.P Go.Proofs.YtmccfpniolikhaaW.PrintWords Go.Proofs.YtmccfpniolikhaaW.PrintLast Go.Proofs.YtmccfpniolikhaaW.PrintMore
set_option linter.unusedVariables false
set_option linter.unusedSimpArgs false
theorem toList_data (bs : ByteArray) : bs.toList = bs.data.toList := by
  have key : ∀ (n i : Nat) (r : List UInt8), bs.size - i = n → ByteArray.toList.loop bs i r = r.reverse ++ bs.data.toList.drop i := by
    intro n
    induction n with
    | zero =>
      intro i r h
      rw [ByteArray.toList.loop]
      have : ¬ i < bs.size := by omega
      simp [this]
      omega
    | succ n ih =>
      intro i r h
      rw [ByteArray.toList.loop]
      have hi : i < bs.size := by omega
      simp only [hi, if_true]
      rw [ih (i+1) _ (by omega)]
      have h2 : i < bs.data.toList.length := by rw [Array.length_toList]; exact hi
      rw [List.drop_eq_getElem_cons h2]
      have h3 : i < bs.data.size := hi
      have : bs.get! i = bs.data.toList[i] := by
        simp [ByteArray.get!, Array.getElem!_eq_getD, Array.getD, hi]
      simp [this]
  unfold ByteArray.toList
  rw [key bs.size 0 [] (by omega)]
  simp
theorem toList_inj {a b : ByteArray} : a.toList = b.toList ↔ a = b := by
  rw [toList_data, toList_data]
  constructor
  · intro h
    obtain ⟨⟨a⟩⟩ := a
    obtain ⟨⟨b⟩⟩ := b
    simp at h
    subst h
    rfl
  · rintro rfl; rfl
theorem toList_nil {a : ByteArray} : a.toList = [] ↔ a.size = 0 := by
  rw [toList_data, size_data, List.length_eq_zero_iff]
/-- Is a node, by itself, as a document asks? -/
def nodeOk (o n : Int) (t : ByteArray) (len : Nat) : Bool :=
  decide (1 ≤ o) && (decide (o ≤ 8) && (decide ((len : Int) = docKids o) && (decide (0 ≤ n) && (decide (n ≤ 9) && (decide (n = 0 ∨ o = 6) && (if o = 2 then tv t else decide (t.size = 0)))))))
mutual
def wf : SDoc → Nat → Bool
  | ⟨o, n, t, ks⟩, deep => decide (deep ≠ 0) && (nodeOk o n t ks.length && wfL ks (deep - 1))
def wfL : List SDoc → Nat → Bool
  | [], _ => true
  | k :: ks, deep => wf k deep && wfL ks deep
end
def docV (d : SDoc) : Bool := wf d 40 && decide (dsz d ≤ 80)
theorem wfL_all : ∀ (ks : List SDoc) (deep : Nat), wfL ks deep = ks.all fun k => wf k deep
  | [], _ => rfl
  | k :: ks, deep => by rw [wfL, wfL_all ks deep, List.all_cons]
theorem dszL_cons (y : SDoc) (l : List SDoc) : dszL (y :: l) = dsz y + dszL l := rfl
theorem dsz_mk (o n : Int) (t : ByteArray) (ks : List SDoc) : dsz ⟨o, n, t, ks⟩ = 1 + dszL ks := rfl
theorem wfL_cons (y : SDoc) (l : List SDoc) (deep : Nat) : wfL (y :: l) deep = true ↔ wf y deep = true ∧ wfL l deep = true := by rw [wfL, Bool.and_eq_true]
theorem wf_mk (o n : Int) (t : ByteArray) (ks : List SDoc) (deep : Nat) : wf ⟨o, n, t, ks⟩ deep = true ↔ deep ≠ 0 ∧ nodeOk o n t ks.length = true ∧ wfL ks (deep - 1) = true := by rw [wf, Bool.and_eq_true, Bool.and_eq_true, decide_eq_true_eq]
theorem nodeOk_iff (o n : Int) (t : ByteArray) (len : Nat) : nodeOk o n t len = true ↔ 1 ≤ o ∧ o ≤ 8 ∧ (len : Int) = docKids o ∧ 0 ≤ n ∧ n ≤ 9 ∧ (n = 0 ∨ o = 6) ∧ (if o = 2 then tv t else decide (t.size = 0)) = true := by
  simp only [nodeOk, Bool.and_eq_true, decide_eq_true_eq]
theorem docV_iff (d : SDoc) : docV d = true ↔ wf d 40 = true ∧ dsz d ≤ 80 := by rw [docV, Bool.and_eq_true, decide_eq_true_eq]
/-! ### the program's -/
theorem implOk_loop (deep : Nat) (hdp : deep ≤ 40) (suf : List SDoc) : ∀ (pre : List SDoc) (left : Int),
    (∀ y, y ∈ suf → ∀ left : Int, 0 ≤ left → left ≤ 80 → ∃ b l', Ev (fun k => impl_docOk.f k y.f0 y.f1 y.f2 y.f3 (wrap64 ((deep : Int) - 1)) left) (b, l') ∧ (b = true ↔ wf y (deep - 1) = true ∧ (dsz y : Int) ≤ left) ∧ (b = true → l' = left - dsz y)) →
    0 ≤ left → left ≤ 80 → pre.length + suf.length ≤ 4611686018427387904 →
    ∃ b l', Ev (fun k => impl_docOk.l0 k (pre ++ suf) (pre.length : Int) (deep : Int) left) (b, l') ∧ (b = true ↔ wfL suf (deep - 1) = true ∧ (dszL suf : Int) ≤ left) ∧ (b = true → l' = left - dszL suf) := by
  induction suf with
  | nil =>
    intro pre left _ h0 h1 hm
    refine ⟨true, left, ?_, by simp [wfL, dszL, h0], fun _ => by simp [dszL]⟩
    refine Ev.step (fun k => by rw [impl_docOk.l0]) ?_
    simp only [List.append_nil, Int.lt_irrefl, if_false]
    exact Ev.now _
  | cons y suf ih =>
    intro pre left hy h0 h1 hm
    simp only [List.length_cons] at hm
    obtain ⟨b, l1, he, hb, hl⟩ := hy y List.mem_cons_self left h0 h1
    have c1 : (pre.length : Int) < ((pre ++ y :: suf).length : Int) := by simp; omega
    have c2 : (0 : Int) ≤ (pre.length : Int) := by omega
    have hp := dsz_pos y
    rw [dszL_cons, wfL_cons]
    cases b with
    | false =>
      have hnb : ¬ (wf y (deep - 1) = true ∧ (dsz y : Int) ≤ left) := fun h => by have := hb.2 h; cases this
      refine ⟨false, l1, ?_, ?_, fun h => by cases h⟩
      · refine Ev.step (fun k => by rw [impl_docOk.l0]) ?_
        simp only [if_pos c1, if_pos c2, rdD]
        refine Ev.bind he ?_
        simp only [Bool.false_eq_true, if_false]
        exact Ev.now _
      · refine ⟨fun h => (by cases h), fun h => absurd ⟨h.1.1, ?_⟩ hnb⟩
        have := h.2
        omega
    | true =>
      obtain ⟨hw, hle⟩ := hb.1 rfl
      obtain rfl := hl rfl
      obtain ⟨b2, l2, he2, hb2, hl2⟩ := ih (pre ++ [y]) (left - dsz y) (fun z hz => hy z (List.mem_cons_of_mem _ hz)) (by omega) (by omega) (by simp; omega)
      refine ⟨b2, l2, ?_, ?_, fun h => ?_⟩
      · refine Ev.step (fun k => by rw [impl_docOk.l0]) ?_
        simp only [if_pos c1, if_pos c2, rdD]
        refine Ev.bind he ?_
        simp only [if_true]
        rw [w64 (by omega) (by omega)]
        rw [List.append_assoc, show ((pre ++ [y]).length : Int) = (pre.length : Int) + 1 by simp] at he2
        exact he2
      · rw [hb2]
        constructor
        · intro h; exact ⟨⟨hw, h.1⟩, by have := h.2; omega⟩
        · intro h; exact ⟨h.1.2, by have := h.2; omega⟩
      · have := hl2 h
        omega
theorem implOk_ev : ∀ (d : SDoc), msz d ≤ 1099511627776 → ∀ (deep : Nat), deep ≤ 40 → ∀ (left : Int), 0 ≤ left → left ≤ 80 →
    ∃ b l', Ev (fun k => impl_docOk.f k d.f0 d.f1 d.f2 d.f3 (deep : Int) left) (b, l') ∧ (b = true ↔ wf d deep = true ∧ (dsz d : Int) ≤ left) ∧ (b = true → l' = left - dsz d) := by
  intro d
  induction d using SDoc.ind with
  | h o n t ks ih =>
    intro hd deep hdp left h0 h1
    simp only [msz] at hd
    have hkl := mszL_len ks
    have hwl : wrap64 (left - 1) = left - 1 := w64 (by omega) (by omega)
    rw [wf_mk, dsz_mk, nodeOk_iff]
    by_cases a1 : (deep : Int) = 0 ∨ wrap64 (left - 1) < 0 ∨ o < 1 ∨ 8 < o
    · refine ⟨false, wrap64 (left - 1), ?_, ⟨fun h => (by cases h), fun h => ?_⟩, fun h => by cases h⟩
      · refine Ev.step (fun k => by rw [impl_docOk.f]) ?_
        simp only [if_pos a1]
        exact Ev.now _
      · exfalso
        rw [hwl] at a1
        obtain ⟨⟨h1, ⟨h2, h3, _⟩, _⟩, h4⟩ := h
        omega
    · have hd0 : deep ≠ 0 := fun e => a1 (.inl (by omega))
      have hl0 : ¬ (left - 1 < 0) := fun e => a1 (.inr (.inl (by omega)))
      have ho1 : ¬ o < 1 := fun e => a1 (.inr (.inr (.inl e)))
      have ho8 : ¬ 8 < o := fun e => a1 (.inr (.inr (.inr e)))
      by_cases a2 : ¬ ((ks.length : Int) = docKids o) ∨ n < 0 ∨ 9 < n ∨ (0 < n ∧ ¬ (o = 6))
      · refine ⟨false, wrap64 (left - 1), ?_, ⟨fun h => (by cases h), fun h => ?_⟩, fun h => by cases h⟩
        · refine Ev.step (fun k => by rw [impl_docOk.f]) ?_
          simp only [if_neg a1, if_pos a2]
          exact Ev.now _
        · exfalso
          obtain ⟨⟨_, ⟨_, _, h3, h4, h5, h6, _⟩, _⟩, _⟩ := h
          rcases a2 with a | a | a | a
          · exact a h3
          · omega
          · omega
          · rcases h6 with h6 | h6
            · omega
            · exact a.2 h6
      · have b3 : (ks.length : Int) = docKids o := Decidable.not_not.1 (fun e => a2 (.inl e))
        have b4 : ¬ n < 0 := fun e => a2 (.inr (.inl e))
        have b5 : ¬ 9 < n := fun e => a2 (.inr (.inr (.inl e)))
        have b6 : n = 0 ∨ o = 6 := by
          by_cases hn : 0 < n
          · exact .inr (Decidable.not_not.1 (fun e => a2 (.inr (.inr (.inr ⟨hn, e⟩)))))
          · exact .inl (by omega)
        -- the loop
        obtain ⟨b, l2, he2, hb2, hl2⟩ := implOk_loop deep hdp ks [] (left - 1) (fun y hy left' h0' h1' => by
            have hym := mszL_mem hy
            obtain ⟨b', l', h, h', h''⟩ := ih y hy (by omega) (deep - 1) (by omega) left' h0' h1'
            refine ⟨b', l', ?_, h', h''⟩
            rw [w64 (by omega) (by omega), show ((deep : Int) - 1) = ((deep - 1 : Nat) : Int) by omega]
            exact h) (by omega) (by omega) (by simp; omega)
        have hloop : Ev (fun k => impl_docOk.l0 k ks 0 (deep : Int) (wrap64 (left - 1))) (b, l2) := by rw [hwl]; simpa using he2
        have good : ∀ x : Prop, x → ((b = true ↔ (deep ≠ 0 ∧ (1 ≤ o ∧ o ≤ 8 ∧ (ks.length : Int) = docKids o ∧ 0 ≤ n ∧ n ≤ 9 ∧ (n = 0 ∨ o = 6) ∧ x) ∧ wfL ks (deep - 1) = true) ∧ ((1 + dszL ks : Nat) : Int) ≤ left) ∧ (b = true → l2 = left - ((1 + dszL ks : Nat) : Int))) := by
          intro x hx
          refine ⟨?_, fun h => by have := hl2 h; omega⟩
          rw [hb2]
          constructor
          · intro h; exact ⟨⟨hd0, ⟨by omega, by omega, b3, by omega, by omega, b6, hx⟩, h.1⟩, by have := h.2; omega⟩
          · intro h; exact ⟨h.1.2.2, by have := h.2; omega⟩
        have bad : ∀ x : Prop, ¬ x → (((false : Bool) = true ↔ (deep ≠ 0 ∧ (1 ≤ o ∧ o ≤ 8 ∧ (ks.length : Int) = docKids o ∧ 0 ≤ n ∧ n ≤ 9 ∧ (n = 0 ∨ o = 6) ∧ x) ∧ wfL ks (deep - 1) = true) ∧ ((1 + dszL ks : Nat) : Int) ≤ left) ∧ ((false : Bool) = true → wrap64 (left - 1) = left - ((1 + dszL ks : Nat) : Int))) := by
          intro x hx
          exact ⟨⟨fun h => (by cases h), fun h => absurd h.1.2.1.2.2.2.2.2.2 hx⟩, fun h => by cases h⟩
        by_cases e9 : o = 2
        · have hT := implText_ev t (by omega)
          rw [if_pos e9]
          cases htv : tv t with
          | false =>
            refine ⟨false, wrap64 (left - 1), ?_, bad _ (by simp)⟩
            refine Ev.step (fun k => by rw [impl_docOk.f]) ?_
            simp only [if_neg a1, if_neg a2, if_pos e9]
            refine Ev.bind hT ?_
            simp only [htv, Bool.false_eq_true, if_false]
            exact Ev.now _
          | true =>
            refine ⟨b, l2, ?_, good _ rfl⟩
            refine Ev.step (fun k => by rw [impl_docOk.f]) ?_
            simp only [if_neg a1, if_neg a2, if_pos e9]
            refine Ev.bind hT ?_
            simp only [htv, if_true]
            exact hloop
        · rw [if_neg e9, decide_eq_true_eq]
          by_cases e10 : t.toList = []
          · have hz := toList_nil.1 e10
            refine ⟨b, l2, ?_, good _ hz⟩
            refine Ev.step (fun k => by rw [impl_docOk.f]) ?_
            simp only [if_neg a1, if_neg a2, if_neg e9, if_pos e10]
            exact hloop
          · have hz : ¬ t.size = 0 := fun e => e10 (toList_nil.2 e)
            refine ⟨false, wrap64 (left - 1), ?_, bad _ hz⟩
            refine Ev.step (fun k => by rw [impl_docOk.f]) ?_
            simp only [if_neg a1, if_neg a2, if_neg e9, if_neg e10]
            exact Ev.now _
theorem implValid_ev (d : SDoc) (hd : msz d ≤ 1099511627776) : Ev (fun k => impl_DocValid.f k d.f0 d.f1 d.f2 d.f3) (docV d) := by
  obtain ⟨b, l', h, hb, _⟩ := implOk_ev d hd 40 (by omega) 80 (by omega) (by omega)
  refine Ev.congr (fun k => by rw [impl_DocValid.f]) ?_
  refine Ev.bind (h : Ev (fun k => impl_docOk.f k d.f0 d.f1 d.f2 d.f3 40 80) _) ?_
  rw [show docV d = b from by
    rw [Bool.eq_iff_iff, hb, docV_iff]
    constructor
    · intro h; exact ⟨h.1, by have := h.2; omega⟩
    · intro h; exact ⟨h.1, by have := h.2; omega⟩]
  exact Ev.now _
/-! ### the reference's -/
theorem specKids_ev (o : Int) : Ev (fun k => spec_l1Kids.f k o) (if o < 1 ∨ 8 < o then -1 else docKids o) := by
  have j1 : ∀ b, Ev (fun k => spec_l1Kids.j1 k o b) (if b = true then 1 else if o = 7 then 2 else -1) := by
    intro b
    refine Ev.step (fun k => by rw [spec_l1Kids.j1]) ?_
    cases b
    · simp only [Bool.false_eq_true, if_false]
      by_cases h : o = 7
      · simp only [if_pos h]; exact Ev.now _
      · simp only [if_neg h]; exact Ev.now _
    · exact Ev.now _
  have j0 : ∀ b, Ev (fun k => spec_l1Kids.j0 k o b) (if b = true then 0 else if o = 6 ∨ o = 8 then 1 else if o = 7 then 2 else -1) := by
    intro b
    refine Ev.step (fun k => by rw [spec_l1Kids.j0]) ?_
    cases b
    · simp only [Bool.false_eq_true, if_false]
      by_cases h : o = 6
      · simp only [if_pos h]
        have := j1 (o == 6)
        rw [h] at this ⊢
        simpa using this
      · simp only [if_neg h]
        have := j1 (o == 8)
        by_cases h8 : o = 8
        · rw [h8] at this ⊢
          simpa using this
        · rw [show (o == 8) = false by simpa using h8] at this ⊢
          simpa [h, h8] using this
    · exact Ev.now _
  refine Ev.congr (fun k => by rw [spec_l1Kids.f]) ?_
  have fin : ∀ x b, (o = x → b = true) → (b = true → 1 ≤ o ∧ o ≤ 5) → (b = false → ¬ (1 ≤ o ∧ o ≤ 5)) → Ev (fun k => spec_l1Kids.j0 k o b) (if o < 1 ∨ 8 < o then -1 else docKids o) := by
    intro x b _ h1 h2
    have := j0 b
    cases b
    · have := h2 rfl
      rename_i this'
      rw [show (if o < 1 ∨ 8 < o then -1 else docKids o) = (if (false : Bool) = true then 0 else if o = 6 ∨ o = 8 then 1 else if o = 7 then 2 else -1) from by
        by_cases q : o < 1 ∨ 8 < o
        · have : ¬ (o = 6 ∨ o = 8) := by omega
          have : ¬ o = 7 := by omega
          simp [*]
        · have : o = 6 ∨ o = 7 ∨ o = 8 := by omega
          rcases this with rfl | rfl | rfl <;> simp [docKids]]
      exact this'
    · have := h1 rfl
      rename_i this'
      rw [show (if o < 1 ∨ 8 < o then -1 else docKids o) = 0 from by
        have q : ¬ (o < 1 ∨ 8 < o) := by omega
        rw [if_neg q]
        have : o = 1 ∨ o = 2 ∨ o = 3 ∨ o = 4 ∨ o = 5 := by omega
        rcases this with rfl | rfl | rfl | rfl | rfl <;> rfl]
      exact this'
  repeat' refine Ev.iff (fun hc => ?_) (fun hc => ?_)
  · subst hc; exact fin 1 _ (fun _ => rfl) (fun _ => by omega) (fun h => by cases h)
  · subst hc; exact fin 2 _ (fun _ => rfl) (fun _ => by omega) (fun h => by cases h)
  · subst hc; exact fin 3 _ (fun _ => rfl) (fun _ => by omega) (fun h => by cases h)
  · subst hc; exact fin 4 _ (fun _ => rfl) (fun _ => by omega) (fun h => by cases h)
  · refine fin 5 _ (fun h => by simp [h]) (fun h => by have : o = 5 := by simpa using h
                                                       omega) (fun h => by have : ¬ o = 5 := by simpa using h
                                                                           omega)
theorem specIs_loop (o n : Int) (t : ByteArray) (deep : Nat) (suf : List SDoc) : ∀ (pre : List SDoc),
    (∀ y, y ∈ suf → Ev (fun k => spec_l1Is.f k y.f0 y.f1 y.f2 y.f3 (wrap64 ((deep : Int) - 1))) (wf y (deep - 1))) → pre.length + suf.length ≤ 4611686018427387904 →
    Ev (fun k => spec_l1Is.l0 k (deep : Int) (pre.length : Int) o n t (pre ++ suf)) (wfL suf (deep - 1)) := by
  induction suf with
  | nil =>
    intro pre _ hm
    refine Ev.step (fun k => by rw [spec_l1Is.l0]) ?_
    simp only [List.append_nil, Int.lt_irrefl, if_false]
    exact Ev.now _
  | cons y suf ih =>
    intro pre hy hm
    simp only [List.length_cons] at hm
    have c1 : (pre.length : Int) < ((pre ++ y :: suf).length : Int) := by simp; omega
    have c2 : (0 : Int) ≤ (pre.length : Int) := by omega
    refine Ev.step (fun k => by rw [spec_l1Is.l0]) ?_
    simp only [if_pos c1, if_pos c2, rdD]
    refine Ev.bind (hy y List.mem_cons_self) ?_
    cases hw : wf y (deep - 1) with
    | false =>
      simp only [Bool.false_eq_true, if_false]
      rw [show wfL (y :: suf) (deep - 1) = false from by rw [wfL, hw, Bool.false_and]]
      exact Ev.now _
    | true =>
      simp only [if_true]
      rw [w64 (by omega) (by omega), show wfL (y :: suf) (deep - 1) = wfL suf (deep - 1) from by rw [wfL, hw, Bool.true_and]]
      have := ih (pre ++ [y]) (fun z hz => hy z (List.mem_cons_of_mem _ hz)) (by simp; omega)
      rw [List.append_assoc, show ((pre ++ [y]).length : Int) = (pre.length : Int) + 1 by simp] at this
      exact this
theorem specIs_ev : ∀ (d : SDoc), msz d ≤ 1099511627776 → ∀ (deep : Nat), deep ≤ 40 → Ev (fun k => spec_l1Is.f k d.f0 d.f1 d.f2 d.f3 (deep : Int)) (wf d deep) := by
  intro d
  induction d using SDoc.ind with
  | h o n t ks ih =>
    intro hd deep hdp
    simp only [msz] at hd
    have hkl := mszL_len ks
    have hloop : deep ≠ 0 → Ev (fun k => spec_l1Is.l0 k (deep : Int) 0 o n t ks) (wfL ks (deep - 1)) := fun h0 => by
      have := specIs_loop o n t deep ks [] (fun y hy => by
        have hym := mszL_mem hy
        rw [w64 (by omega) (by omega), show ((deep : Int) - 1) = ((deep - 1 : Nat) : Int) by omega]
        exact ih y hy (by omega) (deep - 1) (by omega)) (by simp; omega)
      simpa using this
    -- the tests, from the last one on
    have j2 : deep ≠ 0 → ∀ b, Ev (fun k => spec_l1Is.j2 k (deep : Int) b o n t ks) (!b && wfL ks (deep - 1)) := fun h0 b => by
      refine Ev.step (fun k => by rw [spec_l1Is.j2]) ?_
      cases b
      · simpa using hloop h0
      · exact Ev.now _
    have j1 : deep ≠ 0 → ∀ b, Ev (fun k => spec_l1Is.j1 k (deep : Int) b o n t ks) (!b && (decide ((o = 6 ∧ 0 ≤ n ∧ n ≤ 9) ∨ (o ≠ 6 ∧ n = 0)) && wfL ks (deep - 1))) := fun h0 b => by
      refine Ev.step (fun k => by rw [spec_l1Is.j1]) ?_
      cases b
      · simp only [Bool.false_eq_true, if_false, Bool.not_false, Bool.true_and]
        have fin : ∀ b, (b = true ↔ ¬ ((o = 6 ∧ 0 ≤ n ∧ n ≤ 9) ∨ (o ≠ 6 ∧ n = 0))) → Ev (fun k => spec_l1Is.j2 k (deep : Int) b o n t ks) (decide ((o = 6 ∧ 0 ≤ n ∧ n ≤ 9) ∨ (o ≠ 6 ∧ n = 0)) && wfL ks (deep - 1)) := fun b hb => by
          have := j2 h0 b
          rwa [show (!b) = decide ((o = 6 ∧ 0 ≤ n ∧ n ≤ 9) ∨ (o ≠ 6 ∧ n = 0)) from by
            rw [Bool.eq_iff_iff, decide_eq_true_eq]
            cases b
            · have : (o = 6 ∧ 0 ≤ n ∧ n ≤ 9) ∨ (o ≠ 6 ∧ n = 0) := Decidable.not_not.1 (fun h => by have := hb.2 h; cases this)
              simpa using this
            · have := hb.1 rfl
              simpa using this] at this
        repeat' refine Ev.iff (fun hc => ?_) (fun hc => ?_)
        · exact fin true ⟨fun _ => by omega, fun _ => rfl⟩
        · exact fin true ⟨fun _ => by omega, fun _ => rfl⟩
        · exact fin false ⟨fun h => (by cases h), fun h => absurd (by omega) h⟩
        · refine fin (n != 0) ⟨fun h => ?_, fun h => ?_⟩
          · have : ¬ n = 0 := by simpa using h
            omega
          · have : ¬ n = 0 := by omega
            simpa using this
      · exact Ev.now _
    have j0 : deep ≠ 0 → ∀ b, Ev (fun k => spec_l1Is.j0 k (deep : Int) b o n t ks) (!b && ((if o = 2 then tv t else decide (t.size = 0)) && (decide ((o = 6 ∧ 0 ≤ n ∧ n ≤ 9) ∨ (o ≠ 6 ∧ n = 0)) && wfL ks (deep - 1)))) := fun h0 b => by
      refine Ev.step (fun k => by rw [spec_l1Is.j0]) ?_
      cases b
      · simp only [Bool.false_eq_true, if_false, Bool.not_false, Bool.true_and]
        by_cases h2 : o = 2
        · simp only [if_pos h2]
          refine Ev.bind (specText_ev t (by omega)) ?_
          cases tv t
          · simp only [Bool.false_eq_true, if_false]
            exact j1 h0 true
          · simp only [if_true]
            exact j1 h0 false
        · simp only [if_neg h2]
          have := j1 h0 (t.toList != ([] : List UInt8))
          rwa [show (!(t.toList != ([] : List UInt8))) = decide (t.size = 0) from by
            rw [Bool.eq_iff_iff, decide_eq_true_eq, ← toList_nil]; simp] at this
      · exact Ev.now _
    refine Ev.step (fun k => by rw [spec_l1Is.f]) ?_
    by_cases h0 : deep = 0
    · subst h0
      simp only [Int.natCast_zero, if_true]
      rw [show wf ⟨o, n, t, ks⟩ 0 = false from by rw [wf]; simp]
      refine Ev.step (fun k => by rw [spec_l1Is.j0]) ?_
      exact Ev.now _
    · have c0 : ¬ (deep : Int) = 0 := by omega
      simp only [if_neg c0]
      refine Ev.bind (specKids_ev o) ?_
      have := j0 h0 ((ks.length : Int) != (if o < 1 ∨ 8 < o then -1 else docKids o))
      rwa [show (!((ks.length : Int) != (if o < 1 ∨ 8 < o then -1 else docKids o)) && ((if o = 2 then tv t else decide (t.size = 0)) && (decide ((o = 6 ∧ 0 ≤ n ∧ n ≤ 9) ∨ (o ≠ 6 ∧ n = 0)) && wfL ks (deep - 1)))) = wf ⟨o, n, t, ks⟩ deep from by
        rw [Bool.eq_iff_iff, wf_mk, nodeOk_iff]
        simp only [Bool.and_eq_true, decide_eq_true_eq, Bool.not_eq_true', bne_eq_false_iff_eq]
        generalize (if o = 2 then tv t else decide (t.size = 0)) = tt
        constructor
        · rintro ⟨h1, h2, h3, h4⟩
          by_cases q : o < 1 ∨ 8 < o
          · rw [if_pos q] at h1; omega
          · rw [if_neg q] at h1
            exact ⟨h0, ⟨by omega, by omega, h1, by omega, by omega, by omega, h2⟩, h4⟩
        · rintro ⟨_, ⟨h1, h2, h3, h4, h5, h6, h7⟩, h8⟩
          have q : ¬ (o < 1 ∨ 8 < o) := by omega
          rw [if_neg q]
          exact ⟨h3, h7, by omega, h8⟩] at this
theorem specValid_ev (d : SDoc) (hd : msz d ≤ 1099511627776) : Ev (fun k => spec_DocValid.f k d.f0 d.f1 d.f2 d.f3) (docV d) := by
  refine Ev.congr (fun k => by rw [spec_DocValid.f]) ?_
  refine Ev.bind (specIs_ev d hd 40 (by omega)) ?_
  cases hw : wf d 40 with
  | false =>
    simp only [Bool.false_eq_true, if_false]
    rw [show docV d = false from by rw [docV, hw, Bool.false_and]]
    exact Ev.now _
  | true =>
    simp only [if_true]
    have := dsz_msz d
    refine Ev.bind (specCount_ev d (by omega)) ?_
    rw [show docV d = decide ((dsz d : Int) ≤ 80) from by rw [docV, hw, Bool.true_and]; exact dec_eq (by omega)]
    exact Ev.now _
end Go.Proofs.Ytmccfpniolikhaa.Pure
namespace Go.Proofs.Ytmccfpniolikhaa.Pure
open Go.RowKit Go.Proofs.Ytmccfpniolikhaa.P Go.Proofs.YtmccfpniolikhaaW.PrintWords Go.Proofs.YtmccfpniolikhaaW.PrintLast Go.Proofs.YtmccfpniolikhaaW.PrintMore
set_option linter.unusedVariables false
set_option linter.unusedSimpArgs false
def canF (d : SDoc) : Bool := docV d && decide (cnt 5 d = 0)
theorem docV_wf {d : SDoc} (h : docV d = true) : wf d 40 = true := (docV_iff d).1 h |>.1
theorem wf_kids {o n : Int} {t : ByteArray} {ks : List SDoc} {deep : Nat} (h : wf ⟨o, n, t, ks⟩ deep = true) : ∀ y, y ∈ ks → wf y (deep - 1) = true := by
  have h3 := ((wf_mk o n t ks deep).1 h).2.2
  rw [wfL_all, List.all_eq_true] at h3
  exact h3
theorem wf_node {o n : Int} {t : ByteArray} {ks : List SDoc} {deep : Nat} (h : wf ⟨o, n, t, ks⟩ deep = true) : 1 ≤ o ∧ o ≤ 8 ∧ (ks.length : Int) = docKids o ∧ 0 ≤ n ∧ n ≤ 9 ∧ (n = 0 ∨ o = 6) ∧ (o = 2 → tv t = true) ∧ (o ≠ 2 → t = ⟨#[]⟩) := by
  have h2 := (nodeOk_iff o n t ks.length).1 ((wf_mk o n t ks deep).1 h).2.1
  obtain ⟨a, b, c, d, e, f, g⟩ := h2
  refine ⟨a, b, c, d, e, f, fun h => by rwa [if_pos h] at g, fun h => ?_⟩
  rw [if_neg h, decide_eq_true_eq, size_data, List.length_eq_zero_iff] at g
  obtain ⟨⟨l⟩⟩ := t
  simp at g
  subst g
  rfl
end Go.Proofs.Ytmccfpniolikhaa.Pure
namespace Go.Proofs.Ytmccfpniolikhaa.Pure
open Go.RowKit Go.Proofs.Ytmccfpniolikhaa.P Go.Proofs.YtmccfpniolikhaaW.PrintWords Go.Proofs.YtmccfpniolikhaaW.PrintLast Go.Proofs.YtmccfpniolikhaaW.PrintMore
set_option linter.unusedVariables false
set_option linter.unusedSimpArgs false
theorem ch_rd0 (y : SDoc) (l : List SDoc) : rd_TDoc (y :: l) 0 = y := by simp [rd_TDoc]
theorem ch_rd1 (x y : SDoc) (l : List SDoc) : rd_TDoc (x :: y :: l) 1 = y := by simp [rd_TDoc]
theorem ch_kids1 {ks : List SDoc} (h : (ks.length : Int) = 1) : ∃ y, ks = [y] := by
  match ks, h with
  | [y], _ => exact ⟨y, rfl⟩
  | [], h => simp at h
  | _ :: _ :: _, h => simp only [List.length_cons] at h; omega
theorem ch_kids2 {ks : List SDoc} (h : (ks.length : Int) = 2) : ∃ x y, ks = [x, y] := by
  match ks, h with
  | [x, y], _ => exact ⟨x, y, rfl⟩
  | [], h => simp at h
  | [_], h => simp at h
  | _ :: _ :: _ :: _, h => simp only [List.length_cons] at h; omega
def cap (c : Int) : Int := if c > 100000 then 100001 else c
def neg (c : Int) : Int := if c > 100000 then -1 else c
theorem neg_cap (e : Int) : neg (cap e) = neg e := by
  unfold neg cap
  by_cases h : e > 100000
  · rw [if_pos h, if_pos h]; rfl
  · rw [if_neg h, if_neg h]
def capN (o : Int) (hard : Nat) (cs : List Int) : Int := if o = 6 then cs.getD 0 1 else if o = 7 then cap (cs.getD 0 1 * cs.getD 1 1) else if o = 8 then cap (cs.getD 0 1 + if o = 8 ∧ hard = 0 then 1 else 0) else 1
mutual
def cO : SDoc → Int
  | ⟨o, n, t, ks⟩ => capN o (cnt 5 ⟨o, n, t, ks⟩) (cL ks)
def cL : List SDoc → List Int
  | [] => []
  | k :: ks => cO k :: cL ks
end
theorem impl_j2 (acc : Int) : Ev (fun k => impl_choices.j2 k acc) (neg acc) := by
  refine Ev.step (fun k => by rw [impl_choices.j2]) ?_
  unfold neg
  by_cases c : acc > 100000
  · simp only [if_pos c]; exact Ev.now _
  · simp only [if_neg c]; exact Ev.now _
theorem impl_j1 (acc : Int) (b : Bool) (h0 : 0 ≤ acc) (h1 : acc ≤ 1099511627776) : Ev (fun k => impl_choices.j1 k acc b) (neg (acc + if b = true then 1 else 0)) := by
  refine Ev.step (fun k => by rw [impl_choices.j1]) ?_
  cases b
  · simp only [Bool.false_eq_true, if_false, Int.add_zero]
    exact impl_j2 acc
  · simp only [if_true]
    rw [w64 (by omega) (by omega)]
    exact impl_j2 _
/-- the end of the loop -/
theorem impl_end (o n : Int) (t : ByteArray) (ks : List SDoc) (hd : dsz ⟨o, n, t, ks⟩ ≤ 4611686018427387904) (acc i : Int) (hi : i = (ks.length : Int)) (h0 : 0 ≤ acc) (h1 : acc ≤ 1099511627776) :
    Ev (fun k => impl_choices.l0 k acc ks (ks.length : Int) i o n t ks) (neg (acc + if o = 8 ∧ cnt 5 ⟨o, n, t, ks⟩ = 0 then 1 else 0)) := by
  subst hi
  refine Ev.step (fun k => by rw [impl_choices.l0]) ?_
  simp only [Int.lt_irrefl, if_false]
  by_cases c : o = 8
  · simp only [if_pos c]
    refine Ev.bind (implCnt_ev 5 ⟨o, n, t, ks⟩ hd) ?_
    have := impl_j1 acc ((cnt 5 ⟨o, n, t, ks⟩ : Int) == 0) h0 h1
    rw [show (if ((cnt 5 ⟨o, n, t, ks⟩ : Int) == 0) = true then (1 : Int) else 0) = if o = 8 ∧ cnt 5 ⟨o, n, t, ks⟩ = 0 then 1 else 0 from by
      by_cases e : cnt 5 ⟨o, n, t, ks⟩ = 0
      · rw [if_pos (by simp [e]), if_pos ⟨c, e⟩]
      · rw [if_neg (by simp; omega), if_neg (fun h => e h.2)]] at this
    exact this
  · simp only [if_neg c]
    have := impl_j1 acc false h0 h1
    rw [if_neg (fun h => c h.1)]
    simpa using this
/-- one more kid -/
theorem impl_kid (o n : Int) (t : ByteArray) (ks : List SDoc) (acc i c R : Int) (y : SDoc) (h0 : 0 ≤ i) (h1 : i < (ks.length : Int)) (hl : (ks.length : Int) ≤ 1099511627776) (hy : rd_TDoc ks i = y)
    (hc0 : 1 ≤ c) (hc1 : c ≤ 100001) (ha : 0 ≤ acc) (ha1 : acc ≤ 100000) (h : Ev (fun k => impl_choices.f k y.f0 y.f1 y.f2 y.f3) (neg c)) (hR : c > 100000 → R = -1)
    (hn : c ≤ 100000 → Ev (fun k => impl_choices.l0 k (acc * c) ks (ks.length : Int) (i + 1) o n t ks) R) :
    Ev (fun k => impl_choices.l0 k acc ks (ks.length : Int) i o n t ks) R := by
  refine Ev.step (fun k => by rw [impl_choices.l0]) ?_
  simp only [if_pos h1, if_pos h0, hy]
  refine Ev.bind h ?_
  by_cases hc : c > 100000
  · rw [hR hc, neg, if_pos hc]
    simp only [show ((-1 : Int) < 0) = True by simp, if_true]
    exact Ev.now _
  · rw [neg, if_neg hc]
    simp only [if_neg (show ¬ c < 0 by omega)]
    have hm0 : 0 ≤ acc * c := Int.mul_nonneg ha (by omega)
    have hm1 : acc * c ≤ 100000 * 100000 := Int.mul_le_mul ha1 (by omega) (by omega) (by omega)
    rw [w64 (i := acc * c) (by omega) (by omega), w64 (i := i + 1) (by omega) (by omega)]
    exact hn (by omega)
theorem spec_j1 (c : Int) : Ev (fun k => spec_l3Count.j1 k c) (cap c) := by
  refine Ev.step (fun k => by rw [spec_l3Count.j1]) ?_
  unfold cap
  by_cases h : c > 100000
  · simp only [if_pos h]; exact Ev.now _
  · simp only [if_neg h]; exact Ev.now _
theorem choices_ev : ∀ (d : SDoc) (deep : Nat), wf d deep = true → msz d ≤ 1099511627776 → ∃ c : Int, c = cO d ∧ 1 ≤ c ∧ c ≤ 100001 ∧ Ev (fun k => spec_l3Count.f k d.f0 d.f1 d.f2 d.f3) c ∧ Ev (fun k => impl_choices.f k d.f0 d.f1 d.f2 d.f3) (neg c) := by
  intro d
  induction d using SDoc.ind with
  | h o n t ks ih =>
    intro deep hw hd
    obtain ⟨ho1, ho8, hk, _, _, _, _, _⟩ := wf_node hw
    have hks := wf_kids hw
    have hdz := dsz_msz ⟨o, n, t, ks⟩
    have hdz : dsz ⟨o, n, t, ks⟩ ≤ 4611686018427387904 := by omega
    simp only [msz] at hd
    have I0 : ∀ R, Ev (fun k => impl_choices.l0 k 1 ks (ks.length : Int) 0 o n t ks) R → Ev (fun k => impl_choices.f k o n t ks) R := fun R h => Ev.step (fun k => by rw [impl_choices.f]) h
    have hcase : o ≤ 5 ∨ o = 6 ∨ o = 7 ∨ o = 8 := by omega
    rcases hcase with h | h | h | h
    · have hk0 : ks = [] := List.length_eq_zero_iff.1 (by have : docKids o = 0 := by unfold docKids; (repeat' split) <;> omega
                                                          omega)
      subst hk0
      refine ⟨1, by rw [cO, capN, if_neg (by omega), if_neg (by omega), if_neg (by omega)], by omega, by omega, ?_, ?_⟩
      · refine Ev.step (fun k => by rw [spec_l3Count.f]) ?_
        simp only [if_neg (show ¬ o = 6 by omega), if_neg (show ¬ o = 7 by omega), if_neg (show ¬ o = 8 by omega)]
        exact Ev.now _
      · refine I0 _ ?_
        have := impl_end o n t [] hdz 1 0 rfl (by omega) (by omega)
        rw [if_neg (show ¬ (o = 8 ∧ _) from fun h => by omega)] at this
        exact this
    · subst h
      obtain ⟨y, rfl⟩ := ch_kids1 (hk.trans rfl)
      simp only [mszL] at hd
      obtain ⟨c, hcd, hc0, hc1, h1, h2⟩ := ih y List.mem_cons_self _ (hks y List.mem_cons_self) (by omega)
      refine ⟨c, by rw [hcd]; simp [cO, cL, capN], hc0, hc1, ?_, ?_⟩
      · refine Ev.step (fun k => by rw [spec_l3Count.f]) ?_
        simp only [if_true, if_pos (show (0 : Int) < (([y] : List SDoc).length : Int) by simp), ch_rd0]
        exact Ev.bind h1 (Ev.now _)
      · refine I0 _ (impl_kid 6 n t [y] 1 0 c _ y (by omega) (by simp) (by simp) (ch_rd0 y []) hc0 hc1 (by omega) (by omega) h2 (fun h => by rw [neg, if_pos h]) fun h => ?_)
        rw [Int.one_mul]
        have := impl_end 6 n t [y] hdz c (0 + 1) rfl (by omega) (by omega)
        rw [if_neg (show ¬ ((6 : Int) = 8 ∧ _) from fun h => by omega), Int.add_zero] at this
        exact this
    · subst h
      obtain ⟨x, y, rfl⟩ := ch_kids2 (hk.trans rfl)
      simp only [mszL] at hd
      have hx : x ∈ [x, y] := List.mem_cons_self
      have hy : y ∈ [x, y] := List.mem_cons_of_mem _ List.mem_cons_self
      obtain ⟨a, had, ha0, ha1, h1, h2⟩ := ih x hx _ (hks x hx) (by omega)
      obtain ⟨b, hbd, hb0, hb1, g1, g2⟩ := ih y hy _ (hks y hy) (by omega)
      have hab0 : 1 * 1 ≤ a * b := Int.mul_le_mul ha0 hb0 (by omega) (by omega)
      have hab1 : a * b ≤ 100001 * 100001 := Int.mul_le_mul ha1 hb1 (by omega) (by omega)
      have big : a > 100000 ∨ b > 100000 → a * b > 100000 := by
        intro h
        rcases h with h | h
        · have : 100001 * 1 ≤ a * b := Int.mul_le_mul (by omega) hb0 (by omega) (by omega)
          omega
        · have : 1 * 100001 ≤ a * b := Int.mul_le_mul ha0 (by omega) (by omega) (by omega)
          omega
      have hneg := neg_cap (a * b)
      refine ⟨cap (a * b), by rw [had, hbd]; simp [cO, cL, capN], by unfold cap; split <;> omega, by unfold cap; split <;> omega, ?_, ?_⟩
      · have J : ∀ w : Bool, w = decide (a * b > 100000) → Ev (fun k => spec_l3Count.j0 k a b w) (cap (a * b)) := by
          intro w hw
          refine Ev.step (fun k => by rw [spec_l3Count.j0]) ?_
          unfold cap
          by_cases c : a * b > 100000
          · rw [decide_eq_true c] at hw
            simp only [hw, if_true, if_pos c]; exact Ev.now _
          · rw [decide_eq_false c] at hw
            simp only [hw, Bool.false_eq_true, if_false, if_neg c]
            rw [w64 (by omega) (by omega)]
            exact Ev.now _
        refine Ev.step (fun k => by rw [spec_l3Count.f]) ?_
        simp only [if_neg (show ¬ (7 : Int) = 6 by omega), if_true, if_pos (show (0 : Int) < (([x, y] : List SDoc).length : Int) by simp), if_pos (show (1 : Int) < (([x, y] : List SDoc).length : Int) by simp), ch_rd0, ch_rd1]
        refine Ev.bind h1 (Ev.bind g1 ?_)
        rw [w64 (i := a * b) (by omega) (by omega)]
        refine Ev.iff (fun c => J _ ?_) (fun c => Ev.iff (fun c2 => J _ ?_) (fun c2 => J _ rfl))
        · exact (decide_eq_true (big (.inl c))).symm
        · exact (decide_eq_true (big (.inr c2))).symm
      · rw [hneg]
        refine I0 _ (impl_kid 7 n t [x, y] 1 0 a _ x (by omega) (by simp) (by simp) (ch_rd0 x [y]) ha0 ha1 (by omega) (by omega) h2 (fun h => by rw [neg, if_pos (big (.inl h))]) fun h => ?_)
        rw [Int.one_mul]
        refine impl_kid 7 n t [x, y] a (0 + 1) b _ y (by omega) (by simp) (by simp) (ch_rd1 x y []) hb0 hb1 (by omega) (by omega) g2 (fun h => by rw [neg, if_pos (big (.inr h))]) fun h => ?_
        have := impl_end 7 n t [x, y] hdz (a * b) (0 + 1 + 1) rfl (by omega) (by omega)
        rw [if_neg (show ¬ ((7 : Int) = 8 ∧ _) from fun h => by omega), Int.add_zero] at this
        exact this
    · subst h
      obtain ⟨y, rfl⟩ := ch_kids1 (hk.trans rfl)
      simp only [mszL] at hd
      obtain ⟨c, hcd, hc0, hc1, h1, h2⟩ := ih y List.mem_cons_self _ (hks y List.mem_cons_self) (by omega)
      have hneg := neg_cap
      have hc5 := cnt 5 ⟨8, n, t, [y]⟩
      refine ⟨cap (c + if (8 : Int) = 8 ∧ cnt 5 ⟨8, n, t, [y]⟩ = 0 then 1 else 0), by rw [hcd]; simp [cO, cL, capN], by unfold cap; split <;> (try split) <;> omega, by unfold cap; split <;> omega, ?_, ?_⟩
      · refine Ev.step (fun k => by rw [spec_l3Count.f]) ?_
        simp only [if_neg (show ¬ (8 : Int) = 6 by omega), if_neg (show ¬ (8 : Int) = 7 by omega), if_true, if_pos (show (0 : Int) < (([y] : List SDoc).length : Int) by simp), ch_rd0]
        refine Ev.bind h1 (Ev.bind (specCnt_ev 5 ⟨8, n, t, [y]⟩ hdz) ?_)
        refine Ev.iff (fun e => ?_) (fun e => ?_)
        · rw [if_pos ⟨trivial, by omega⟩, w64 (by omega) (by omega)]
          exact spec_j1 _
        · rw [if_neg (fun h => e (by omega)), Int.add_zero]
          exact spec_j1 _
      · rw [hneg]
        refine I0 _ (impl_kid 8 n t [y] 1 0 c _ y (by omega) (by simp) (by simp) (ch_rd0 y []) hc0 hc1 (by omega) (by omega) h2 (fun h => by rw [neg, if_pos (by split <;> omega)]) fun h => ?_)
        rw [Int.one_mul]
        exact impl_end 8 n t [y] hdz c (0 + 1) rfl (by omega) (by omega)
def chR (d : SDoc) : Int × Bool := if docV d = true then (if cO d > 100000 then (0, false) else (cO d, true)) else (0, false)
theorem countCh_ev (d : SDoc) (hd : msz d ≤ 1099511627776) : Ev (fun k => spec_CountChoices.f k d.f0 d.f1 d.f2 d.f3) (chR d) ∧ Ev (fun k => impl_CountChoices.f k d.f0 d.f1 d.f2 d.f3) (chR d) := by
  unfold chR
  by_cases hv : docV d = true
  · obtain ⟨c, hcd, hc0, hc1, h1, h2⟩ := choices_ev d 40 (docV_wf hv) hd
    rw [if_pos hv, ← hcd]
    refine ⟨Ev.congr (fun k => by rw [spec_CountChoices.f]) (Ev.bind (specValid_ev d hd) ?_), Ev.congr (fun k => by rw [impl_CountChoices.f]) (Ev.bind (implValid_ev d hd) ?_)⟩
    · simp only [if_pos hv]
      refine Ev.bind h1 ?_
      by_cases c' : c > 100000
      · simp only [if_pos c']; exact Ev.now _
      · simp only [if_neg c']; exact Ev.now _
    · simp only [if_pos hv]
      refine Ev.bind h2 ?_
      unfold neg
      by_cases c' : c > 100000
      · rw [if_pos c', if_pos c']
        simp only [show ((-1 : Int) < 0) = True by simp, if_true]
        exact Ev.now _
      · rw [if_neg c', if_neg c']
        simp only [if_neg (show ¬ c < 0 by omega)]
        exact Ev.now _
  · rw [if_neg hv]
    refine ⟨Ev.congr (fun k => by rw [spec_CountChoices.f]) (Ev.bind (specValid_ev d hd) ?_), Ev.congr (fun k => by rw [impl_CountChoices.f]) (Ev.bind (implValid_ev d hd) ?_)⟩
    · simp only [if_neg hv]; exact Ev.now _
    · simp only [if_neg hv]; exact Ev.now _
end Go.Proofs.Ytmccfpniolikhaa.Pure
namespace Go.Proofs.Ytmccfpniolikhaa.Pure
open Go.RowKit Go.Proofs.Ytmccfpniolikhaa.P Go.Proofs.YtmccfpniolikhaaW.PrintWords Go.Proofs.YtmccfpniolikhaaW.PrintLast Go.Proofs.YtmccfpniolikhaaW.PrintMore
set_option linter.unusedVariables false
set_option linter.unusedSimpArgs false
theorem FnExactCountChoices : laws_FnExactCountChoices.Pure := by
  intro o n t ks hf
  refine Ev.rounds (g := fun k => laws_FnExactCountChoices.f k o n t ks) ?_
  refine Ev.congr (fun k => by rw [laws_FnExactCountChoices.f]) (law_begins hf fun hm hT => ?_)
  obtain ⟨h1, h2⟩ := countCh_ev (conv ⟨o, n, t, ks⟩) (by omega)
  refine Ev.bind hT (Ev.bind h1 (Ev.bind hT (Ev.bind h2 ?_)))
  simp only [if_true, bne_self_eq_false]
  refine Ev.step (fun k => by rw [laws_FnExactCountChoices.j0]) ?_
  simp only [Bool.false_eq_true, if_false]
  exact law_ends hm hT
end Go.Proofs.Ytmccfpniolikhaa.Pure
namespace Go.Proofs.Ytmccfpniolikhaa.fnExactCountChoices
open Go.ChangeShapes Go.WideShapes Go.ChangeAt Go.RowKit Go.Proofs.YtmccfpniolikhaaW.PrintWords Go.Proofs.Ytmccfpniolikhaa.P
open Go.ChangeMaps (open_string shut_string)
set_option linter.unusedVariables false
theorem own : ownKnob Try.prog.godebug = none := by kernel_rfl
theorem laidOut : laidOutB Try.prog = true := closed3.1
theorem cl : clo edgesL fuelE [4] [] = [4, 15, 52, 17, 55, 20, 53, 91, 124, 125, 92, 59, 95, 21, 56, 94, 126, 104, 128, 137, 60, 96, 19, 58] := by kernel_rfl
theorem jf : joinedFacts Try.prog 4 Try.f4 Rows.fnExactCountChoicesSpec Rows.fnExactCountChoicesRow = true := by
  unfold joinedFacts
  simp only [Bool.and_eq_true]
  repeat' (with_reducible apply And.intro)
  all_goals first | (with_reducible exact closed3.1) | (with_reducible exact closed3.2.1) | (with_reducible exact mayE) | (rw [closed3.2.2]; as_aux_lemma => kernel_rfl) | (rw [liftsF]; as_aux_lemma => kernel_rfl) | (rw [makeC]; as_aux_lemma => kernel_rfl) | (rw [Program.inPlace, closure_clo, cl]; as_aux_lemma => kernel_rfl) | (rw [Program.varsNamed, closure_clo, cl]; as_aux_lemma => kernel_rfl) | (rw [recurses_of cl]; as_aux_lemma => kernel_rfl) | (rw [unfollowed_of cl]; as_aux_lemma => kernel_rfl) | (as_aux_lemma => kernel_rfl)
set_option maxRecDepth 100000 in
theorem lifted (os : Os) (started : os.Started) (H : Type) (enc : TypeId × Value → H) :
    ReturnsInHanded {} Try.checked os 4 .any (Rows.fnExactCountChoicesSpec.pre6 enc Try.prog Try.f4 Rows.fnExactCountChoicesRow.domain false) (Rows.fnExactCountChoicesSpec.post enc Try.prog Try.f4 false true false false) := by
  refine returnsInHanded_of_change_sized (C := Try.checked) own started (by kernel_rfl) Try.func4
    (ChangeSpec.witness6 (enc := enc) (C := Try.checked) false ⟨#[], #[.agg #[.int .i64 0, .int .i64 0, .string ByteArray.empty, .slice none 0 0]], []⟩ 8 (by kernel_rfl) (by kernel_rfl) (by kernel_rfl) (by kernel_rfl)) ?_
  intro W base args ds gs before hval0 hW hcnd hsz0 _
  have hsz : (DataW.weightsEach Try.prog (Try.f4.params.toList ++ Rows.fnExactCountChoicesSpec.plain.varTypes Try.prog) (ds ++ gs)).all (· ≤ reachBytes) = true := hsz0
  have hval : ∀ (j : Nat) t v, Try.f4.params[j]? = some t → args[j]? = some v → Value.okWide Try.prog W .any base t v := hval0
  have hW' := hW
  obtain ⟨p, q, hA0, hV, rfl, hfz, hnd⟩ := hW
  have hA : DataW.TrodAll enc Try.prog W 0 (fun _ => true) true Try.f4.params.toList args.toList ds p := hA0
  rw [Try.params4] at hA hval hsz
  obtain ⟨v0, vs0, d0, ds0, p0, q0, hargs, rfl, rfl, h0, r0⟩ := trodAll_cons hA
  obtain ⟨rfl, rfl, rfl⟩ := trodAll_nil r0
  obtain rfl : args = #[v0] := by cases args; simp_all
  obtain ⟨rfl, rfl⟩ := trodVars_none hV
  obtain ⟨cs0, rfl, _⟩ := okWide_struct Try.underlying24 (hval 0 24 v0 rfl rfl)
  have k0 := h0
  have lt0 : ∀ x ∈ p0, x.block < W.heap.size := by obtain ⟨m, hm⟩ := k0; exact DataW.trod_lt m _ _ _ hm
  obtain ⟨e0, hK0, hF0⟩ : ∃ e : SLDoc, k24.K W e cs0.toList ∧ FineLDoc e := by
    obtain ⟨fuel, hf⟩ := h0
    obtain ⟨e, h1, h2⟩ := open24 fuel _ _ (by simpa [Value.cells] using hf)
    exact ⟨e, h1, ⟨_, h2⟩⟩
  obtain ⟨A0_3, c0_3, hcs0, hl0_3, hC0_3⟩ := k24_open hK0
  obtain rfl : cs0 = #[.int .i64 e0.f0, .int .i64 e0.f1, .string e0.f2, .slice A0_3 e0.f3.length c0_3] := by cases cs0; simpa using hcs0
  clear hA0 hval0 hsz0 hsz
  obtain ⟨k, hp⟩ := Pure.FnExactCountChoices e0.f0 e0.f1 e0.f2 e0.f3 (by cases e0; exact hF0)
  refine (P.laws_FnExactCountChoices.calls k e0.f0 e0.f1 e0.f2 _ _ e0.f3 true W hC0_3 hl0_3 hp).mono fun e W' ⟨he, bel0⟩ => ?_
  have bel : Below W.heap.size W W' := bel0
  subst he
  exact ⟨_, rfl, _, _, _, [], _, [], hW', trodAll_mk1 (shut_bool Try.underlying4 _), (trodAll_cons_mk (Below.trod laidOut (by kernel_rfl) (of_decide_eq_true (by kernel_rfl)) k0 bel lt0) trodAll_mk0), rfl, bel.frame _, fun h => by cases h⟩
theorem over : Rows.fnExactCountChoicesRow.holds Try.pinned (OpenSpec.ofChange Rows.fnExactCountChoicesSpec) :=
  OpenClaim.holds_of_wide 4 Try.f4 rfl rfl rfl rfl rfl rfl rfl ⟨rfl, rfl, rfl, rfl, rfl⟩ rfl rfl rfl rfl rfl (by kernel_rfl) Try.func4 jf
    (of_decide_eq_true (by kernel_rfl)) (by unfold Func.isWrapper; first | (rw [if_pos (by decide +kernel)]; kernel_rfl) | (rw [if_neg (by decide +kernel)]; exact ⟨rfl, rfl⟩))
    (fun os started H enc _ => lifted os started H enc)
theorem proved : Rows.FnExactCountChoicesSaid := over
#print axioms proved
end Go.Proofs.Ytmccfpniolikhaa.fnExactCountChoices
namespace Go.Proofs.Ytmccfpniolikhaa
/-- The row, under a short name, for the claim. -/
theorem fnExactCountChoices_holds : Rows.FnExactCountChoicesSaid := fnExactCountChoices.proved
end Go.Proofs.Ytmccfpniolikhaa
