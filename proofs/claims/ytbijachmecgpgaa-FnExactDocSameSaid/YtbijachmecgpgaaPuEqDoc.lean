/- PLAIN LEMMAS: a document is equal to itself. -/
import Derived.Test.YtbijachmecgpgaaPx0
import Derived.Test.YtbijachmecgpgaaPx24
import Derived.Test.YtbijachmecgpgaaPuBase
namespace Go.Proofs.Ytbijachmecgpgaa.Pure
open Go.RowKit Go.Proofs.Ytbijachmecgpgaa.P Go.Proofs.YtbijachmecgpgaaW.PrintWords Go.Proofs.YtbijachmecgpgaaW.PrintLast Go.Proofs.YtbijachmecgpgaaW.PrintMore
set_option linter.unusedVariables false
set_option linter.unusedSimpArgs false
theorem eqDocS_loop (suf : List SDoc) : ∀ (pre : List SDoc),
    (∀ y, y ∈ suf → Ev (fun k => laws_eqDoc.f k y.f0 y.f1 y.f2 y.f3 y.f0 y.f1 y.f2 y.f3) true) → pre.length + suf.length ≤ 4611686018427387904 →
    Ev (fun k => laws_eqDocS.l0 k (pre ++ suf) (pre ++ suf) (pre.length : Int)) true := by
  induction suf with
  | nil =>
    intro pre _ hm
    refine Ev.step (fun k => by rw [laws_eqDocS.l0]) ?_
    simp only [List.append_nil, Int.lt_irrefl, if_false]
    exact Ev.now _
  | cons y suf ih =>
    intro pre hy hm
    simp only [List.length_cons] at hm
    refine Ev.step (fun k => by rw [laws_eqDocS.l0]) ?_
    have c1 : (pre.length : Int) < ((pre ++ y :: suf).length : Int) := by simp; omega
    have c2 : (0 : Int) ≤ (pre.length : Int) := by omega
    simp only [if_pos c1, if_pos c2, rdD]
    refine Ev.bind (hy y List.mem_cons_self) ?_
    simp only [if_true]
    rw [w64 (by omega) (by omega)]
    have := ih (pre ++ [y]) (fun z hz => hy z (List.mem_cons_of_mem _ hz)) (by simp; omega)
    rw [List.append_assoc, show ((pre ++ [y]).length : Int) = (pre.length : Int) + 1 by simp] at this
    exact this
theorem eqDoc_refl : ∀ (d : SDoc), dsz d ≤ 4611686018427387904 → Ev (fun k => laws_eqDoc.f k d.f0 d.f1 d.f2 d.f3 d.f0 d.f1 d.f2 d.f3) true := by
  intro d
  induction d using SDoc.ind with
  | h o n t ks ih =>
    intro hd
    simp only [dsz] at hd
    refine Ev.step (fun k => by rw [laws_eqDoc.f]) ?_
    simp only [if_true]
    have hS : Ev (fun k => laws_eqDocS.f k ks ks) true := by
      refine Ev.step (fun k => by rw [laws_eqDocS.f]) ?_
      simp only [if_true]
      have := eqDocS_loop ks [] (fun y hy => ih y hy (by have := dszL_mem hy; omega)) (by have := dszL_len ks; simp; omega)
      simpa using this
    refine Ev.bind hS ?_
    exact Ev.now _
end Go.Proofs.Ytbijachmecgpgaa.Pure
