/- THE PURE STATEMENT OF THE LAW FnExactCanFlatten: for every document that came in the law's function ends in true, after some number of rounds. -/
import Derived.Test.YtbngefhpalbklaaPx0
import Derived.Test.YtbngefhpalbklaaPx21
import Derived.Test.YtbngefhpalbklaaPuLawDoc
import Derived.Test.YtbngefhpalbklaaPuCanFlat
namespace Go.Proofs.Ytbngefhpalbklaa.Pure
open Go.RowKit Go.Proofs.Ytbngefhpalbklaa.P Go.Proofs.YtbngefhpalbklaaW.PrintWords Go.Proofs.YtbngefhpalbklaaW.PrintLast Go.Proofs.YtbngefhpalbklaaW.PrintMore
set_option linter.unusedVariables false
set_option linter.unusedSimpArgs false
theorem FnExactCanFlatten : laws_FnExactCanFlatten.Pure := by
  intro o n t ks hf
  refine Ev.rounds (g := fun k => laws_FnExactCanFlatten.f k o n t ks) ?_
  refine Ev.congr (fun k => by rw [laws_FnExactCanFlatten.f]) (law_begins hf fun hm hT => ?_)
  refine Ev.bind hT ?_
  refine Ev.bind (specCan_ev _ (by omega)) ?_
  refine Ev.bind hT ?_
  refine Ev.bind (implCan_ev _ (by omega)) ?_
  simp only [bne_self_eq_false, Bool.false_eq_true, if_false]
  exact law_ends hm hT
end Go.Proofs.Ytbngefhpalbklaa.Pure
