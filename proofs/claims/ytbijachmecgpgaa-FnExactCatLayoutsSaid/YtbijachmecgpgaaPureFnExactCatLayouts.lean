/- THE PURE STATEMENT OF THE LAW FnExactCatLayouts: for every two lists of rows that came in the law's function ends in true, after some number of rounds. -/
import Derived.Test.YtbijachmecgpgaaPx0
import Derived.Test.YtbijachmecgpgaaPx55
import Derived.Test.YtbijachmecgpgaaPuLayCat
import Derived.Test.YtbijachmecgpgaaPuMarks
namespace Go.Proofs.Ytbijachmecgpgaa.Pure
open Go.RowKit Go.Proofs.Ytbijachmecgpgaa.P Go.Proofs.YtbijachmecgpgaaW.PrintWords Go.Proofs.YtbijachmecgpgaaW.PrintLast Go.Proofs.YtbijachmecgpgaaW.PrintMore
set_option linter.unusedVariables false
set_option linter.unusedSimpArgs false
theorem FnExactCatLayouts : laws_FnExactCatLayouts.Pure := by
  intro a b ha hfa hb hfb
  refine Ev.rounds (g := fun k => laws_FnExactCatLayouts.f k a b) ?_
  refine Ev.congr (fun k => by rw [laws_FnExactCatLayouts.f]) (rows_take ha hfa (by omega) (by omega) fun l h0 h1 _ hz hm hT => rows_take hb hfb h0 h1 fun _ _ _ _ hz' hm' hT' => ?_)
  have hs := specCatL_ev _ _ hm hm' (fun y hy => (hz y hy).2) (fun y hy => (hz' y hy).2)
  have hi := implCatL_ev _ _ hm hm' (fun y hy => (hz y hy).2) (fun y hy => (hz' y hy).2)
  have hn := catL_len (fun y hy => (hz y hy).2) (fun y hy => (hz' y hy).2)
  have hR := eqRowS_refl (catL (a.map convR) (b.map convR)).1 (by omega)
  obtain ⟨A, mA, _⟩ := marks_ev (a.map convR) 1 (by omega) (by omega) (by omega)
  obtain ⟨B, mB, _⟩ := marks_ev (b.map convR) (1 + 2 * (a.map convR).length) (by omega) (by omega) (by omega)
  obtain ⟨G, mG, hG⟩ := marks_ev (catL (a.map convR) (b.map convR)).1 1 (by omega) (by omega) (by omega)
  refine Ev.bind hT (Ev.bind hT' (Ev.bind hs (Ev.bind hT (Ev.bind hT' (Ev.bind hi (Ev.bind hR ?_))))))
  simp only [if_true, bne_self_eq_false]
  refine Ev.step (fun k => by rw [laws_FnExactCatLayouts.j0]) ?_
  simp only [Bool.false_eq_true, if_false]
  refine Ev.bind hT (Ev.bind (eqRowS_refl _ (by omega)) ?_)
  simp only [if_true]
  refine Ev.bind hT' (Ev.bind (eqRowS_refl _ (by omega)) ?_)
  simp only [if_true]
  refine Ev.bind mA (Ev.bind mB ?_)
  simp only [if_neg (show ¬ (1 + 2 * ((a.map convR).length : Int) + 2 * ((b.map convR).length : Int) < 0) by omega)]
  refine Ev.bind hR ?_
  simp only [if_true, bne_self_eq_false]
  refine Ev.step (fun k => by rw [laws_FnExactCatLayouts.j1]) ?_
  simp only [Bool.false_eq_true, if_false]
  refine Ev.bind mG (Ev.bind hG ?_)
  simp only [if_neg (show ¬ (1 + 2 * ((catL (a.map convR) (b.map convR)).1.length : Int) < 0) by omega), if_true]
  refine Ev.bind hT (Ev.bind hT' (Ev.bind hi (Ev.bind hR ?_)))
  simp only [if_true, bne_self_eq_false]
  refine Ev.step (fun k => by rw [laws_FnExactCatLayouts.j2]) ?_
  simp only [Bool.false_eq_true, if_false]
  refine Ev.bind hG ?_
  simp only [if_neg (show ¬ (1 + 2 * ((catL (a.map convR) (b.map convR)).1.length : Int) < 0) by omega), if_true]
  exact Ev.now _
end Go.Proofs.Ytbijachmecgpgaa.Pure
