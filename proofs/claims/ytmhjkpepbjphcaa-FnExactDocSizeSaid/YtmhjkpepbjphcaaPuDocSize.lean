/- PLAIN LEMMAS: sizes. -/
import Derived.Test.YtmhjkpepbjphcaaPx0
import Derived.Test.YtmhjkpepbjphcaaPx23
import Derived.Test.YtmhjkpepbjphcaaPx21
import Derived.Test.YtmhjkpepbjphcaaPx20
import Derived.Test.YtmhjkpepbjphcaaPuBase
namespace Go.Proofs.Ytmhjkpepbjphcaa.Pure
open Go.RowKit Go.Proofs.Ytmhjkpepbjphcaa.P Go.Proofs.YtmhjkpepbjphcaaW.PrintWords Go.Proofs.YtmhjkpepbjphcaaW.PrintLast Go.Proofs.YtmhjkpepbjphcaaW.PrintMore
set_option linter.unusedVariables false
set_option linter.unusedSimpArgs false
theorem implSize_loop (suf : List SDoc) : ∀ (pre : List SDoc) (acc : Int) (N : Int), N = ((pre ++ suf).length : Int) →
    (∀ y, y ∈ suf → Ev (fun k => impl_DocSize.f k y.f0 y.f1 y.f2 y.f3) (dsz y : Int)) → 0 ≤ acc → acc + dszL suf ≤ 9223372036854775807 → pre.length + suf.length ≤ 4611686018427387904 →
    Ev (fun k => impl_DocSize.l0 k acc (pre ++ suf) N (pre.length : Int)) (acc + dszL suf) := by
  induction suf with
  | nil =>
    intro pre acc N hN _ h0 hs hm
    subst hN
    refine Ev.step (fun k => by rw [impl_DocSize.l0]) ?_
    simp only [List.append_nil, Int.lt_irrefl, if_false, dszL, Int.natCast_zero, Int.add_zero]
    exact Ev.now _
  | cons y suf ih =>
    intro pre acc N hN hy h0 hs hm
    simp only [List.length_cons, dszL] at hm hs
    refine Ev.step (fun k => by rw [impl_DocSize.l0]) ?_
    have c1 : (pre.length : Int) < ((pre ++ y :: suf).length : Int) := by simp; omega
    have c0 : (pre.length : Int) < N := by omega
    have c2 : (0 : Int) ≤ (pre.length : Int) := by omega
    simp only [if_pos c0, if_pos c1, if_pos c2, rdD]
    refine Ev.bind (hy y List.mem_cons_self) ?_
    rw [w64 (i := acc + dsz y) (by omega) (by omega), w64 (by omega) (by omega)]
    have := ih (pre ++ [y]) (acc + dsz y) N (by rw [hN]; simp) (fun z hz => hy z (List.mem_cons_of_mem _ hz)) (by omega) (by omega) (by simp; omega)
    rw [List.append_assoc, show ((pre ++ [y]).length : Int) = (pre.length : Int) + 1 by simp] at this
    rw [show acc + (dszL (y :: suf) : Int) = acc + dsz y + dszL suf by simp [dszL]; omega]
    exact this
theorem implSize_ev : ∀ (d : SDoc), dsz d ≤ 4611686018427387904 → Ev (fun k => impl_DocSize.f k d.f0 d.f1 d.f2 d.f3) (dsz d : Int) := by
  intro d
  induction d using SDoc.ind with
  | h o n t ks ih =>
    intro hd
    simp only [dsz] at hd
    refine Ev.step (fun k => by rw [impl_DocSize.f]) ?_
    have := implSize_loop ks [] 1 (ks.length : Int) (by simp) (fun y hy => ih y hy (by have := dszL_mem hy; omega)) (by omega) (by omega) (by have := dszL_len ks; simp; omega)
    rw [show ((dsz ⟨o, n, t, ks⟩ : Nat) : Int) = 1 + (dszL ks : Int) by simp [dsz]]
    simpa using this
theorem specCount_loop (o n : Int) (t : ByteArray) (suf : List SDoc) : ∀ (pre : List SDoc) (acc : Int),
    (∀ y, y ∈ suf → Ev (fun k => spec_l1Count.f k y.f0 y.f1 y.f2 y.f3) (dsz y : Int)) → 0 ≤ acc → acc + dszL suf ≤ 9223372036854775807 → pre.length + suf.length ≤ 4611686018427387904 →
    Ev (fun k => spec_l1Count.l0 k acc (pre.length : Int) o n t (pre ++ suf)) (acc + dszL suf) := by
  induction suf with
  | nil =>
    intro pre acc _ h0 hs hm
    refine Ev.step (fun k => by rw [spec_l1Count.l0]) ?_
    simp only [List.append_nil, Int.lt_irrefl, if_false, dszL, Int.natCast_zero, Int.add_zero]
    exact Ev.now _
  | cons y suf ih =>
    intro pre acc hy h0 hs hm
    simp only [List.length_cons, dszL] at hm hs
    refine Ev.step (fun k => by rw [spec_l1Count.l0]) ?_
    have c1 : (pre.length : Int) < ((pre ++ y :: suf).length : Int) := by simp; omega
    have c2 : (0 : Int) ≤ (pre.length : Int) := by omega
    simp only [if_pos c1, if_pos c2, rdD]
    refine Ev.bind (hy y List.mem_cons_self) ?_
    rw [w64 (i := acc + dsz y) (by omega) (by omega), w64 (by omega) (by omega)]
    have := ih (pre ++ [y]) (acc + dsz y) (fun z hz => hy z (List.mem_cons_of_mem _ hz)) (by omega) (by omega) (by simp; omega)
    rw [List.append_assoc, show ((pre ++ [y]).length : Int) = (pre.length : Int) + 1 by simp] at this
    rw [show acc + (dszL (y :: suf) : Int) = acc + dsz y + dszL suf by simp [dszL]; omega]
    exact this
theorem specCount_ev : ∀ (d : SDoc), dsz d ≤ 4611686018427387904 → Ev (fun k => spec_l1Count.f k d.f0 d.f1 d.f2 d.f3) (dsz d : Int) := by
  intro d
  induction d using SDoc.ind with
  | h o n t ks ih =>
    intro hd
    simp only [dsz] at hd
    refine Ev.step (fun k => by rw [spec_l1Count.f]) ?_
    have := specCount_loop o n t ks [] 1 (fun y hy => ih y hy (by have := dszL_mem hy; omega)) (by omega) (by omega) (by have := dszL_len ks; simp; omega)
    rw [show ((dsz ⟨o, n, t, ks⟩ : Nat) : Int) = 1 + (dszL ks : Int) by simp [dsz]]
    simpa using this
theorem specSize_ev (d : SDoc) (hd : dsz d ≤ 4611686018427387904) : Ev (fun k => spec_DocSize.f k d.f0 d.f1 d.f2 d.f3) (dsz d : Int) := by
  refine Ev.congr (fun k => by rw [spec_DocSize.f]) ?_
  refine Ev.bind (specCount_ev d hd) ?_
  exact Ev.now _
end Go.Proofs.Ytmhjkpepbjphcaa.Pure
