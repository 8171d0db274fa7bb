/- THE PURE STATEMENT OF THE LAW FnExactNestLayout: for every list of rows that came in the law's function ends in true, after some number of rounds. -/
import Derived.Test.YtbijachmecgpgaaPx0
import Derived.Test.YtbijachmecgpgaaPx60
import Derived.Test.YtbijachmecgpgaaPuLayNest
import Derived.Test.YtbijachmecgpgaaPuMarks
namespace Go.Proofs.Ytbijachmecgpgaa.Pure
open Go.RowKit Go.Proofs.Ytbijachmecgpgaa.P Go.Proofs.YtbijachmecgpgaaW.PrintWords Go.Proofs.YtbijachmecgpgaaW.PrintLast Go.Proofs.YtbijachmecgpgaaW.PrintMore
set_option linter.unusedVariables false
set_option linter.unusedSimpArgs false
theorem FnExactNestLayout : laws_FnExactNestLayout.Pure := by
  intro n a _ ha hfa
  refine Ev.rounds (g := fun k => laws_FnExactNestLayout.f k n a) ?_
  refine Ev.congr (fun k => by rw [laws_FnExactNestLayout.f]) (rows_take ha hfa (by omega) (by omega) fun l h0 h1 _ hz hm hT => ?_)
  have hs := specNestL_ev n _ hm (fun y hy => (hz y hy).2)
  have hi := implNestL_ev n _ hm (fun y hy => (hz y hy).2)
  have hn := nestL_len n (fun y hy => (hz y hy).2) hm
  have hR := eqRowS_refl (nestL n (a.map convR)).1 (by omega)
  obtain ⟨A, mA, _⟩ := marks_ev (a.map convR) 1 (by omega) (by omega) (by omega)
  obtain ⟨G, mG, hG⟩ := marks_ev (nestL n (a.map convR)).1 1 (by omega) (by omega) (by omega)
  refine Ev.bind hT (Ev.bind hs (Ev.bind hT (Ev.bind hi (Ev.bind hR ?_))))
  simp only [if_true, bne_self_eq_false]
  refine Ev.step (fun k => by rw [laws_FnExactNestLayout.j0]) ?_
  simp only [Bool.false_eq_true, if_false]
  refine Ev.bind hT (Ev.bind (eqRowS_refl _ (by omega)) ?_)
  simp only [if_true]
  refine Ev.bind mA ?_
  simp only [if_neg (show ¬ (1 + 2 * ((a.map convR).length : Int) < 0) by omega)]
  refine Ev.bind hR ?_
  simp only [if_true, bne_self_eq_false]
  refine Ev.step (fun k => by rw [laws_FnExactNestLayout.j1]) ?_
  simp only [Bool.false_eq_true, if_false]
  refine Ev.bind mG (Ev.bind hG ?_)
  simp only [if_neg (show ¬ (1 + 2 * ((nestL n (a.map convR)).1.length : Int) < 0) by omega), if_true]
  refine Ev.bind hT (Ev.bind hi (Ev.bind hR ?_))
  simp only [if_true, bne_self_eq_false]
  refine Ev.step (fun k => by rw [laws_FnExactNestLayout.j2]) ?_
  simp only [Bool.false_eq_true, if_false]
  refine Ev.bind hG ?_
  simp only [if_neg (show ¬ (1 + 2 * ((nestL n (a.map convR)).1.length : Int) < 0) by omega), if_true]
  exact Ev.now _
end Go.Proofs.Ytbijachmecgpgaa.Pure
