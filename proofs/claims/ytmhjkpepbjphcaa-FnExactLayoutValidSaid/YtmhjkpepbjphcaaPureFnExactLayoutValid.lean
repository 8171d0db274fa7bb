/- THE PURE STATEMENT OF THE LAW FnExactLayoutValid: for every list of rows that came in the law's function ends in true, after some number of rounds. -/
import Derived.Test.YtmhjkpepbjphcaaPx0
import Derived.Test.YtmhjkpepbjphcaaPx36
import Derived.Test.YtmhjkpepbjphcaaPuLayV
namespace Go.Proofs.Ytmhjkpepbjphcaa.Pure
open Go.RowKit Go.Proofs.Ytmhjkpepbjphcaa.P Go.Proofs.YtmhjkpepbjphcaaW.PrintWords Go.Proofs.YtmhjkpepbjphcaaW.PrintLast Go.Proofs.YtmhjkpepbjphcaaW.PrintMore
set_option linter.unusedVariables false
set_option linter.unusedSimpArgs false
theorem FnExactLayoutValid : laws_FnExactLayoutValid.Pure := by
  intro a ha hfa
  refine Ev.rounds (g := fun k => laws_FnExactLayoutValid.f k a) ?_
  refine Ev.congr (fun k => by rw [laws_FnExactLayoutValid.f]) (rows_take ha hfa (by omega) (by omega) fun l h0 h1 _ hz hm hT => ?_)
  refine Ev.bind hT ?_
  refine Ev.bind (specLV_ev _ (by omega) (fun y hy => by have := (hz y hy).2; omega)) ?_
  refine Ev.bind hT ?_
  refine Ev.bind (implLV_ev _ (by omega) (fun y hy => by have := (hz y hy).2; omega)) ?_
  simp only [bne_self_eq_false, Bool.false_eq_true, if_false]
  exact rows_end hm hT
end Go.Proofs.Ytmhjkpepbjphcaa.Pure
