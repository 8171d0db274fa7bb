/- PLAIN LEMMAS: how many nodes of a kind. -/
import Derived.Test.YtbijachmecgpgaaPx0
import Derived.Test.YtbijachmecgpgaaPx26
import Derived.Test.YtbijachmecgpgaaPx27
import Derived.Test.YtbijachmecgpgaaPuCount
namespace Go.Proofs.Ytbijachmecgpgaa.Pure
open Go.RowKit Go.Proofs.Ytbijachmecgpgaa.P Go.Proofs.YtbijachmecgpgaaW.PrintWords Go.Proofs.YtbijachmecgpgaaW.PrintLast Go.Proofs.YtbijachmecgpgaaW.PrintMore
set_option linter.unusedVariables false
set_option linter.unusedSimpArgs false
mutual
def cnt (op : Int) : SDoc → Nat
  | ⟨o, _, _, ks⟩ => (if o = op then 1 else 0) + cntL op ks
def cntL (op : Int) : List SDoc → Nat
  | [] => 0
  | k :: ks => cnt op k + cntL op ks
end
theorem cntL_cons (op : Int) (y : SDoc) (l : List SDoc) : cntL op (y :: l) = cnt op y + cntL op l := rfl
theorem cntL_app (op : Int) : ∀ (a b : List SDoc), cntL op (a ++ b) = cntL op a + cntL op b
  | [], b => by simp [cntL]
  | k :: a, b => by simp [cntL, cntL_app op a b]; omega
theorem cnt_le (op : Int) : ∀ d : SDoc, cnt op d ≤ dsz d := by
  intro d
  induction d using SDoc.ind with
  | h o n t ks ih =>
    have key : ∀ l : List SDoc, (∀ k, k ∈ l → cnt op k ≤ dsz k) → cntL op l ≤ dszL l := by
      intro l
      induction l with
      | nil => intro _; simp [dszL, cntL]
      | cons y l ihl =>
        intro hl
        have h1 := hl y List.mem_cons_self
        have h2 := ihl (fun k hk => hl k (List.mem_cons_of_mem _ hk))
        simp only [dszL, cntL]
        omega
    have := key ks ih
    simp only [dsz, cnt]
    split <;> omega
theorem cntL_le (op : Int) : ∀ l : List SDoc, cntL op l ≤ dszL l
  | [] => by simp [cntL]
  | y :: l => by have := cnt_le op y; have := cntL_le op l; simp only [cntL, dszL]; omega
theorem specCnt_loop (op o n : Int) (t : ByteArray) (suf : List SDoc) : ∀ (pre : List SDoc) (acc : Int),
    (∀ y, y ∈ suf → Ev (fun k => spec_CountOps.f k y.f0 y.f1 y.f2 y.f3 op) (cnt op y : Int)) → 0 ≤ acc → acc + cntL op suf ≤ 9223372036854775807 → pre.length + suf.length ≤ 4611686018427387904 →
    Ev (fun k => spec_CountOps.l0 k op acc (pre.length : Int) o n t (pre ++ suf)) (acc + cntL op suf) := by
  induction suf with
  | nil =>
    intro pre acc _ h0 hs hm
    refine Ev.step (fun k => by rw [spec_CountOps.l0]) ?_
    simp only [List.append_nil, Int.lt_irrefl, if_false, cntL, Int.natCast_zero, Int.add_zero]
    exact Ev.now _
  | cons y suf ih =>
    intro pre acc hy h0 hs hm
    simp only [List.length_cons] at hm
    rw [cntL_cons] at hs ⊢
    refine Ev.step (fun k => by rw [spec_CountOps.l0]) ?_
    have c1 : (pre.length : Int) < ((pre ++ y :: suf).length : Int) := by simp; omega
    have c2 : (0 : Int) ≤ (pre.length : Int) := by omega
    simp only [if_pos c1, if_pos c2, rdD]
    refine Ev.bind (hy y List.mem_cons_self) ?_
    rw [w64 (i := acc + cnt op y) (by omega) (by omega), w64 (by omega) (by omega)]
    have := ih (pre ++ [y]) (acc + cnt op y) (fun z hz => hy z (List.mem_cons_of_mem _ hz)) (by omega) (by omega) (by simp; omega)
    rw [List.append_assoc, show ((pre ++ [y]).length : Int) = (pre.length : Int) + 1 by simp] at this
    rw [show acc + ((cnt op y + cntL op suf : Nat) : Int) = acc + cnt op y + cntL op suf by omega]
    exact this
theorem specCnt_ev (op : Int) : ∀ (d : SDoc), dsz d ≤ 4611686018427387904 → Ev (fun k => spec_CountOps.f k d.f0 d.f1 d.f2 d.f3 op) (cnt op d : Int) := by
  intro d
  induction d using SDoc.ind with
  | h o n t ks ih =>
    intro hd
    simp only [dsz] at hd
    have hc := cntL_le op ks
    have hl := dszL_len ks
    have key : ∀ acc : Int, 0 ≤ acc → acc ≤ 1 → Ev (fun k => spec_CountOps.j0 k op acc o n t ks) (acc + cntL op ks) := fun acc h0 h1 => by
      refine Ev.step (fun k => by rw [spec_CountOps.j0]) ?_
      have := specCnt_loop op o n t ks [] acc (fun y hy => ih y hy (by have := dszL_mem hy; omega)) h0 (by omega) (by simp; omega)
      simpa using this
    refine Ev.step (fun k => by rw [spec_CountOps.f]) ?_
    by_cases h : o = op
    · simp only [if_pos h]
      rw [show ((cnt op ⟨o, n, t, ks⟩ : Nat) : Int) = 1 + (cntL op ks : Int) by simp [cnt, h]]
      exact key 1 (by omega) (by omega)
    · simp only [if_neg h]
      rw [show ((cnt op ⟨o, n, t, ks⟩ : Nat) : Int) = 0 + (cntL op ks : Int) by simp [cnt, h]]
      exact key 0 (by omega) (by omega)
theorem implCnt_loop (op : Int) (suf : List SDoc) : ∀ (pre : List SDoc) (acc N : Int), N = ((pre ++ suf).length : Int) →
    (∀ y, y ∈ suf → Ev (fun k => impl_CountOps.f k y.f0 y.f1 y.f2 y.f3 op) (cnt op y : Int)) → 0 ≤ acc → acc + cntL op suf ≤ 9223372036854775807 → pre.length + suf.length ≤ 4611686018427387904 →
    Ev (fun k => impl_CountOps.l0 k op acc (pre ++ suf) N (pre.length : Int)) (acc + cntL op suf) := by
  induction suf with
  | nil =>
    intro pre acc N hN _ h0 hs hm
    subst hN
    refine Ev.step (fun k => by rw [impl_CountOps.l0]) ?_
    simp only [List.append_nil, Int.lt_irrefl, if_false, cntL, Int.natCast_zero, Int.add_zero]
    exact Ev.now _
  | cons y suf ih =>
    intro pre acc N hN hy h0 hs hm
    simp only [List.length_cons] at hm
    rw [cntL_cons] at hs ⊢
    refine Ev.step (fun k => by rw [impl_CountOps.l0]) ?_
    have c1 : (pre.length : Int) < ((pre ++ y :: suf).length : Int) := by simp; omega
    have c0 : (pre.length : Int) < N := by omega
    have c2 : (0 : Int) ≤ (pre.length : Int) := by omega
    simp only [if_pos c0, if_pos c1, if_pos c2, rdD]
    refine Ev.bind (hy y List.mem_cons_self) ?_
    rw [w64 (i := acc + cnt op y) (by omega) (by omega), w64 (by omega) (by omega)]
    have := ih (pre ++ [y]) (acc + cnt op y) N (by rw [hN]; simp) (fun z hz => hy z (List.mem_cons_of_mem _ hz)) (by omega) (by omega) (by simp; omega)
    rw [List.append_assoc, show ((pre ++ [y]).length : Int) = (pre.length : Int) + 1 by simp] at this
    rw [show acc + ((cnt op y + cntL op suf : Nat) : Int) = acc + cnt op y + cntL op suf by omega]
    exact this
theorem implCnt_ev (op : Int) : ∀ (d : SDoc), dsz d ≤ 4611686018427387904 → Ev (fun k => impl_CountOps.f k d.f0 d.f1 d.f2 d.f3 op) (cnt op d : Int) := by
  intro d
  induction d using SDoc.ind with
  | h o n t ks ih =>
    intro hd
    simp only [dsz] at hd
    have hc := cntL_le op ks
    have hl := dszL_len ks
    have key : ∀ acc : Int, 0 ≤ acc → acc ≤ 1 → Ev (fun k => impl_CountOps.j0 k op acc o n t ks) (acc + cntL op ks) := fun acc h0 h1 => by
      refine Ev.step (fun k => by rw [impl_CountOps.j0]) ?_
      have := implCnt_loop op ks [] acc (ks.length : Int) (by simp) (fun y hy => ih y hy (by have := dszL_mem hy; omega)) h0 (by omega) (by simp; omega)
      simpa using this
    refine Ev.step (fun k => by rw [impl_CountOps.f]) ?_
    by_cases h : o = op
    · simp only [if_pos h]
      rw [show ((cnt op ⟨o, n, t, ks⟩ : Nat) : Int) = 1 + (cntL op ks : Int) by simp [cnt, h]]
      exact key 1 (by omega) (by omega)
    · simp only [if_neg h]
      rw [show ((cnt op ⟨o, n, t, ks⟩ : Nat) : Int) = 0 + (cntL op ks : Int) by simp [cnt, h]]
      exact key 0 (by omega) (by omega)
end Go.Proofs.Ytbijachmecgpgaa.Pure
