/- PLAIN LEMMAS: measures of documents. -/
import Derived.Test.YtbijachmecgpgaaPx0
import Derived.Test.YtbijachmecgpgaaPx20
import Derived.Test.YtbijachmecgpgaaPuBase
namespace Go.Proofs.Ytbijachmecgpgaa.Pure
open Go.RowKit Go.Proofs.Ytbijachmecgpgaa.P Go.Proofs.YtbijachmecgpgaaW.PrintWords Go.Proofs.YtbijachmecgpgaaW.PrintLast Go.Proofs.YtbijachmecgpgaaW.PrintMore
set_option linter.unusedVariables false
set_option linter.unusedSimpArgs false
mutual
/-- nodes and bytes of texts -/
def msz : SDoc → Nat
  | ⟨_, _, t, ks⟩ => 1 + t.size + mszL ks
def mszL : List SDoc → Nat
  | [] => 0
  | k :: ks => msz k + mszL ks
end
theorem mszL_len : ∀ (a : List SDoc), a.length ≤ mszL a
  | [] => by simp [mszL]
  | ⟨_, _, _, ks⟩ :: a => by have := mszL_len a; simp [mszL, msz]; omega
theorem mszL_mem : ∀ {a : List SDoc} {d : SDoc}, d ∈ a → msz d ≤ mszL a
  | k :: a, d, h => by
    rcases List.mem_cons.1 h with rfl | h
    · simp [mszL]
    · have := mszL_mem h; simp [mszL]; omega
theorem mszL_app : ∀ (a b : List SDoc), mszL (a ++ b) = mszL a + mszL b
  | [], b => by simp [mszL]
  | k :: a, b => by simp [mszL, mszL_app a b]; omega
theorem dsz_msz : ∀ d : SDoc, dsz d ≤ msz d := by
  intro d
  induction d using SDoc.ind with
  | h o n t ks ih =>
    have key : ∀ l : List SDoc, (∀ k, k ∈ l → dsz k ≤ msz k) → dszL l ≤ mszL l := by
      intro l
      induction l with
      | nil => intro _; simp [dszL, mszL]
      | cons y l ihl =>
        intro hl
        have h1 := hl y List.mem_cons_self
        have h2 := ihl (fun k hk => hl k (List.mem_cons_of_mem _ hk))
        simp only [dszL, mszL]
        omega
    have := key ks ih
    simp only [dsz, msz]
    omega
theorem specCount_loop (o n : Int) (t : ByteArray) (suf : List SDoc) : ∀ (pre : List SDoc) (acc : Int),
    (∀ y, y ∈ suf → Ev (fun k => spec_l1Count.f k y.f0 y.f1 y.f2 y.f3) (dsz y : Int)) → 0 ≤ acc → acc + dszL suf ≤ 9223372036854775807 → pre.length + suf.length ≤ 4611686018427387904 →
    Ev (fun k => spec_l1Count.l0 k acc (pre.length : Int) o n t (pre ++ suf)) (acc + dszL suf) := by
  induction suf with
  | nil =>
    intro pre acc _ h0 hs hm
    refine Ev.step (fun k => by rw [spec_l1Count.l0]) ?_
    simp only [List.append_nil, Int.lt_irrefl, if_false, dszL, Int.natCast_zero, Int.add_zero]
    exact Ev.now _
  | cons y suf ih =>
    intro pre acc hy h0 hs hm
    simp only [List.length_cons, dszL] at hm hs
    refine Ev.step (fun k => by rw [spec_l1Count.l0]) ?_
    have c1 : (pre.length : Int) < ((pre ++ y :: suf).length : Int) := by simp; omega
    have c2 : (0 : Int) ≤ (pre.length : Int) := by omega
    simp only [if_pos c1, if_pos c2, rdD]
    refine Ev.bind (hy y List.mem_cons_self) ?_
    rw [w64 (i := acc + dsz y) (by omega) (by omega), w64 (by omega) (by omega)]
    have := ih (pre ++ [y]) (acc + dsz y) (fun z hz => hy z (List.mem_cons_of_mem _ hz)) (by omega) (by omega) (by simp; omega)
    rw [List.append_assoc, show ((pre ++ [y]).length : Int) = (pre.length : Int) + 1 by simp] at this
    rw [show acc + (dszL (y :: suf) : Int) = acc + dsz y + dszL suf by simp [dszL]; omega]
    exact this
theorem specCount_ev : ∀ (d : SDoc), dsz d ≤ 4611686018427387904 → Ev (fun k => spec_l1Count.f k d.f0 d.f1 d.f2 d.f3) (dsz d : Int) := by
  intro d
  induction d using SDoc.ind with
  | h o n t ks ih =>
    intro hd
    simp only [dsz] at hd
    refine Ev.step (fun k => by rw [spec_l1Count.f]) ?_
    have := specCount_loop o n t ks [] 1 (fun y hy => ih y hy (by have := dszL_mem hy; omega)) (by omega) (by omega) (by have := dszL_len ks; simp; omega)
    rw [show ((dsz ⟨o, n, t, ks⟩ : Nat) : Int) = 1 + (dszL ks : Int) by simp [dsz]]
    simpa using this
end Go.Proofs.Ytbijachmecgpgaa.Pure
