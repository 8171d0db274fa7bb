/- THE PURE STATEMENT OF THE LAW FnExactTextValid: for every text the law's function ends in true, after some number of rounds. -/
import Derived.Test.YtbijachmecgpgaaPx0
import Derived.Test.YtbijachmecgpgaaPx8
import Derived.Test.YtbijachmecgpgaaPuText
namespace Go.Proofs.Ytbijachmecgpgaa.Pure
open Go.RowKit Go.Proofs.Ytbijachmecgpgaa.P Go.Proofs.YtbijachmecgpgaaW.PrintWords Go.Proofs.YtbijachmecgpgaaW.PrintLast Go.Proofs.YtbijachmecgpgaaW.PrintMore
set_option linter.unusedVariables false
set_option linter.unusedSimpArgs false
theorem FnExactTextValid : laws_FnExactTextValid.Pure := by
  intro s hs
  refine Ev.rounds (g := fun k => laws_FnExactTextValid.f k s) ?_
  refine Ev.congr (fun k => by rw [laws_FnExactTextValid.f]) ?_
  refine Ev.iff (fun _ => Ev.now _) (fun _ => ?_)
  refine Ev.bind (specText_ev s (by omega)) ?_
  refine Ev.bind (implText_ev s (by omega)) ?_
  simp only [bne_self_eq_false, Bool.false_eq_true, if_false]
  exact Ev.now _
end Go.Proofs.Ytbijachmecgpgaa.Pure
