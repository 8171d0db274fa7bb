/- THE PURE STATEMENT OF THE LAW FnExactLayoutSame: for every two lists of rows that came in the law's function ends in true, after some number of rounds. -/
import Derived.Test.YtmhjkpepbjphcaaPx0
import Derived.Test.YtmhjkpepbjphcaaPx18
import Derived.Test.YtmhjkpepbjphcaaPuLaySame
namespace Go.Proofs.Ytmhjkpepbjphcaa.Pure
open Go.RowKit Go.Proofs.Ytmhjkpepbjphcaa.P Go.Proofs.YtmhjkpepbjphcaaW.PrintWords Go.Proofs.YtmhjkpepbjphcaaW.PrintLast Go.Proofs.YtmhjkpepbjphcaaW.PrintMore
set_option linter.unusedVariables false
set_option linter.unusedSimpArgs false
theorem FnExactLayoutSame : laws_FnExactLayoutSame.Pure := by
  intro a b ha hfa hb hfb
  refine Ev.rounds (g := fun k => laws_FnExactLayoutSame.f k a b) ?_
  refine Ev.congr (fun k => by rw [laws_FnExactLayoutSame.f]) (rows_take ha hfa (by omega) (by omega) fun l h0 h1 _ _ hm hT => rows_take hb hfb h0 h1 fun _ _ _ _ _ hm' hT' => ?_)
  refine Ev.bind hT (Ev.bind hT' ?_)
  refine Ev.bind (specLay_ev _ _ (by omega)) ?_
  refine Ev.bind hT (Ev.bind hT' ?_)
  refine Ev.bind (implLay_ev _ _ (by omega)) ?_
  simp only [bne_self_eq_false, Bool.false_eq_true, if_false]
  refine Ev.bind hT ?_
  refine Ev.bind (eqRowS_refl _ (by omega)) ?_
  simp only [if_true]
  exact rows_end hm' hT'
end Go.Proofs.Ytmhjkpepbjphcaa.Pure
