/- PLAIN LEMMAS: two documents that are the same. -/
import Derived.Test.YtbijachmecgpgaaPx0
import Derived.Test.YtbijachmecgpgaaPx29
import Derived.Test.YtbijachmecgpgaaPx30
import Derived.Test.YtbijachmecgpgaaPuBase
namespace Go.Proofs.Ytbijachmecgpgaa.Pure
open Go.RowKit Go.Proofs.Ytbijachmecgpgaa.P Go.Proofs.YtbijachmecgpgaaW.PrintWords Go.Proofs.YtbijachmecgpgaaW.PrintLast Go.Proofs.YtbijachmecgpgaaW.PrintMore
set_option linter.unusedVariables false
set_option linter.unusedSimpArgs false
mutual
def dsame : SDoc → SDoc → Bool
  | ⟨o, n, t, ks⟩, e => decide (o = e.f0) && (decide (n = e.f1) && (decide (t.toList = e.f2.toList) && (decide (ks.length = e.f3.length) && dsameL ks e.f3)))
def dsameL : List SDoc → List SDoc → Bool
  | [], _ => true
  | _ :: _, [] => true
  | k :: ks, e :: es => dsame k e && dsameL ks es
end
theorem specSame_loop (o n o' n' : Int) (t t' : ByteArray) (suf : List SDoc) : ∀ (pre pre' suf' : List SDoc),
    (∀ y, y ∈ suf → ∀ e, Ev (fun k => spec_DocSame.f k y.f0 y.f1 y.f2 y.f3 e.f0 e.f1 e.f2 e.f3) (dsame y e)) → pre.length = pre'.length → suf.length = suf'.length → pre.length + suf.length ≤ 4611686018427387904 →
    Ev (fun k => spec_DocSame.l0 k (pre.length : Int) o n t (pre ++ suf) o' n' t' (pre' ++ suf')) (dsameL suf suf') := by
  induction suf with
  | nil =>
    intro pre pre' suf' _ hp hs hm
    refine Ev.step (fun k => by rw [spec_DocSame.l0]) ?_
    simp only [List.append_nil, Int.lt_irrefl, if_false, dsameL]
    exact Ev.now _
  | cons y suf ih =>
    intro pre pre' suf' hy hp hs hm
    cases suf' with
    | nil => simp at hs
    | cons e suf' =>
      simp only [List.length_cons] at hm hs
      refine Ev.step (fun k => by rw [spec_DocSame.l0]) ?_
      have c1 : (pre.length : Int) < ((pre ++ y :: suf).length : Int) := by simp; omega
      have c2 : (0 : Int) ≤ (pre.length : Int) := by omega
      have c3 : (pre.length : Int) < ((pre' ++ e :: suf').length : Int) := by simp; omega
      have r' : rd_TDoc (pre' ++ e :: suf') (pre.length : Int) = e := by rw [hp]; exact rdD pre' suf' e
      simp only [if_pos c1, if_pos c2, if_pos c3, rdD, r']
      refine Ev.bind (hy y List.mem_cons_self e) ?_
      rw [w64 (by omega) (by omega)]
      have := ih (pre ++ [y]) (pre' ++ [e]) suf' (fun z hz => hy z (List.mem_cons_of_mem _ hz)) (by simp; omega) (by omega) (by simp; omega)
      rw [List.append_assoc, List.append_assoc, show ((pre ++ [y]).length : Int) = (pre.length : Int) + 1 by simp] at this
      rw [dsameL]
      cases dsame y e
      · exact Ev.now _
      · simpa using this
theorem specSame_ev : ∀ (d e : SDoc), dsz d ≤ 4611686018427387904 → Ev (fun k => spec_DocSame.f k d.f0 d.f1 d.f2 d.f3 e.f0 e.f1 e.f2 e.f3) (dsame d e) := by
  intro d
  induction d using SDoc.ind with
  | h o n t ks ih =>
    intro e hd
    simp only [dsz] at hd
    have hl := dszL_len ks
    have F : Ev (fun k => spec_DocSame.j0 k true o n t ks e.f0 e.f1 e.f2 e.f3) false := by
      refine Ev.step (fun k => by rw [spec_DocSame.j0]) ?_
      exact Ev.now _
    refine Ev.step (fun k => by rw [spec_DocSame.f]) ?_
    refine Ev.iff (fun h0 => ?_) (fun h0 => by simpa [dsame, h0] using F)
    refine Ev.iff (fun h1 => ?_) (fun h1 => by simpa [dsame, h1] using F)
    refine Ev.iff (fun h2 => ?_) (fun h2 => by simpa [dsame, h2] using F)
    have h0 : o = e.f0 := h0
    have h1 : n = e.f1 := h1
    have h2 : t.toList = e.f2.toList := h2
    by_cases h3 : ks.length = e.f3.length
    · have := specSame_loop o n e.f0 e.f1 t e.f2 ks [] [] e.f3 (fun y hy e => ih y hy e (by have := dszL_mem hy; omega)) rfl h3 (by simp; omega)
      refine Ev.step (fun k => by rw [spec_DocSame.j0]) ?_
      simpa [dsame, h0, h1, h2, h3] using this
    · have h4 : ((ks.length : Int) != (e.f3.length : Int)) = true := by simp; omega
      simpa [dsame, h3, h4] using F
theorem implSame_loop (o n o' n' : Int) (t t' : ByteArray) (suf : List SDoc) : ∀ (pre pre' suf' : List SDoc),
    (∀ y, y ∈ suf → ∀ e, Ev (fun k => impl_DocSame.f k y.f0 y.f1 y.f2 y.f3 e.f0 e.f1 e.f2 e.f3) (dsame y e)) → pre.length = pre'.length → suf.length = suf'.length → pre.length + suf.length ≤ 4611686018427387904 →
    Ev (fun k => impl_DocSame.l0 k ((pre ++ suf).length : Int) (pre.length : Int) o n t (pre ++ suf) o' n' t' (pre' ++ suf')) (dsameL suf suf') := by
  induction suf with
  | nil =>
    intro pre pre' suf' _ hp hs hm
    refine Ev.step (fun k => by rw [impl_DocSame.l0]) ?_
    simp only [List.append_nil, Int.lt_irrefl, if_false, dsameL]
    exact Ev.now _
  | cons y suf ih =>
    intro pre pre' suf' hy hp hs hm
    cases suf' with
    | nil => simp at hs
    | cons e suf' =>
      simp only [List.length_cons] at hm hs
      refine Ev.step (fun k => by rw [impl_DocSame.l0]) ?_
      have c1 : (pre.length : Int) < ((pre ++ y :: suf).length : Int) := by simp; omega
      have c2 : (0 : Int) ≤ (pre.length : Int) := by omega
      have c3 : (pre.length : Int) < ((pre' ++ e :: suf').length : Int) := by simp; omega
      have r' : rd_TDoc (pre' ++ e :: suf') (pre.length : Int) = e := by rw [hp]; exact rdD pre' suf' e
      simp only [if_pos c1, if_pos c2, if_pos c3, rdD, r']
      refine Ev.bind (hy y List.mem_cons_self e) ?_
      rw [w64 (by omega) (by omega)]
      have := ih (pre ++ [y]) (pre' ++ [e]) suf' (fun z hz => hy z (List.mem_cons_of_mem _ hz)) (by simp; omega) (by omega) (by simp; omega)
      rw [List.append_assoc, List.append_assoc, show ((pre ++ [y]).length : Int) = (pre.length : Int) + 1 by simp] at this
      rw [dsameL]
      cases dsame y e
      · exact Ev.now _
      · simpa using this
theorem implSame_ev : ∀ (d e : SDoc), dsz d ≤ 4611686018427387904 → Ev (fun k => impl_DocSame.f k d.f0 d.f1 d.f2 d.f3 e.f0 e.f1 e.f2 e.f3) (dsame d e) := by
  intro d
  induction d using SDoc.ind with
  | h o n t ks ih =>
    intro e hd
    simp only [dsz] at hd
    have hl := dszL_len ks
    have F : Ev (fun k => impl_DocSame.j0 k true o n t ks e.f0 e.f1 e.f2 e.f3) false := by
      refine Ev.step (fun k => by rw [impl_DocSame.j0]) ?_
      exact Ev.now _
    refine Ev.step (fun k => by rw [impl_DocSame.f]) ?_
    refine Ev.iff (fun h0 => ?_) (fun h0 => by simpa [dsame, h0] using F)
    refine Ev.iff (fun h1 => ?_) (fun h1 => by simpa [dsame, h1] using F)
    refine Ev.iff (fun h2 => ?_) (fun h2 => by simpa [dsame, h2] using F)
    have h0 : o = e.f0 := h0
    have h1 : n = e.f1 := h1
    have h2 : t.toList = e.f2.toList := h2
    by_cases h3 : ks.length = e.f3.length
    · have := implSame_loop o n e.f0 e.f1 t e.f2 ks [] [] e.f3 (fun y hy e => ih y hy e (by have := dszL_mem hy; omega)) rfl h3 (by simp; omega)
      refine Ev.step (fun k => by rw [impl_DocSame.j0]) ?_
      simpa [dsame, h0, h1, h2, h3] using this
    · have h4 : ((ks.length : Int) != (e.f3.length : Int)) = true := by simp; omega
      simpa [dsame, h3, h4] using F
end Go.Proofs.Ytbijachmecgpgaa.Pure
