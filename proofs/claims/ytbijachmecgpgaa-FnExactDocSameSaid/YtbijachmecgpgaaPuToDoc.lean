/- PLAIN LEMMAS: what toDoc makes. -/
import Derived.Test.YtbijachmecgpgaaPx0
import Derived.Test.YtbijachmecgpgaaPx22
import Derived.Test.YtbijachmecgpgaaPuLBase
namespace Go.Proofs.Ytbijachmecgpgaa.Pure
open Go.RowKit Go.Proofs.Ytbijachmecgpgaa.P Go.Proofs.YtbijachmecgpgaaW.PrintWords Go.Proofs.YtbijachmecgpgaaW.PrintLast Go.Proofs.YtbijachmecgpgaaW.PrintMore
set_option linter.unusedVariables false
set_option linter.unusedSimpArgs false
theorem toDocS_loop (suf : List SLDoc) : ∀ (pre : List SLDoc),
    (∀ y, y ∈ suf → Ev (fun k => laws_toDoc.f k y.f0 y.f1 y.f2 y.f3) ((conv y).f0, (conv y).f1, (conv y).f2, (conv y).f3)) → pre.length + suf.length ≤ maxLen →
    Ev (fun k => laws_toDocS.l0 k (pre ++ suf) (convL pre ++ List.replicate suf.length zDoc) (pre.length : Int)) (convL (pre ++ suf)) := by
  induction suf with
  | nil =>
    intro pre _ hm
    refine Ev.step (fun k => by rw [laws_toDocS.l0]) ?_
    simp only [List.append_nil, Int.lt_irrefl, if_false, List.length_nil, List.replicate_zero]
    exact Ev.now _
  | cons y suf ih =>
    intro pre hy hm
    simp only [maxLen, List.length_cons] at hm
    refine Ev.step (fun k => by rw [laws_toDocS.l0]) ?_
    have c1 : (pre.length : Int) < ((pre ++ y :: suf).length : Int) := by simp; omega
    have c2 : (0 : Int) ≤ (pre.length : Int) := by omega
    have c3 : (pre.length : Int) < ((convL pre ++ List.replicate (y :: suf).length zDoc).length : Int) := by simp [convL_len]; omega
    simp only [if_pos c1, if_pos c2, if_pos c3, rdL]
    refine Ev.bind (hy y List.mem_cons_self) ?_
    rw [w64 (by omega) (by omega)]
    have e : (convL pre ++ List.replicate (y :: suf).length zDoc).set (pre.length : Int).toNat (⟨(conv y).f0, (conv y).f1, (conv y).f2, (conv y).f3⟩ : SDoc) = convL (pre ++ [y]) ++ List.replicate suf.length zDoc := by
      rw [List.length_cons, List.replicate_succ, Int.toNat_natCast, List.set_append_right _ _ (by rw [convL_len]; exact Nat.le_refl _), convL_len, Nat.sub_self, List.set_cons_zero, convL_app]
      simp [convL, SDoc_eta]
    simp only [e]
    have := ih (pre ++ [y]) (fun z hz => hy z (List.mem_cons_of_mem _ hz)) (by simp [maxLen]; omega)
    rw [List.append_assoc, show ((pre ++ [y]).length : Int) = (pre.length : Int) + 1 by simp] at this
    exact this
theorem toDoc_ev : ∀ (d : SLDoc), wt d ≤ 1048576 → Ev (fun k => laws_toDoc.f k d.f0 d.f1 d.f2 d.f3) ((conv d).f0, (conv d).f1, (conv d).f2, (conv d).f3) := by
  intro d
  induction d using SLDoc.ind with
  | h o n t ks ih =>
    intro hw
    simp only [wt] at hw
    refine Ev.step (fun k => by rw [laws_toDoc.f]) ?_
    have hS : Ev (fun k => laws_toDocS.f k ks) (convL ks) := by
      refine Ev.step (fun k => by rw [laws_toDocS.f]) ?_
      have c1 : (0 : Int) ≤ (ks.length : Int) := by omega
      have c2 : ((ks.length : Int) : Int).toNat ≤ 5026338869833 := by omega
      simp only [if_pos c1, if_pos c2]
      have hmem : ∀ y, y ∈ ks → wt y ≤ wtL ks := by
        intro y hy
        clear ih hw c1 c2
        induction ks with
        | nil => simp at hy
        | cons a l ihl =>
          simp only [wtL]
          rcases List.mem_cons.1 hy with rfl | h
          · omega
          · have := ihl h; omega
      have := toDocS_loop ks [] (fun y hy => ih y hy (by have := hmem y hy; omega)) (by simp [maxLen]; omega)
      simpa [convL] using this
    refine Ev.bind hS ?_
    exact Ev.now _
end Go.Proofs.Ytbijachmecgpgaa.Pure
