/- THE PURE STATEMENT OF THE LAW FnExactOverflow: for every list of rows that came in the law's function ends in true, after some number of rounds. -/
import Derived.Test.YtbijachmecgpgaaPx0
import Derived.Test.YtbijachmecgpgaaPx46
import Derived.Test.YtbijachmecgpgaaPuLayOver
namespace Go.Proofs.Ytbijachmecgpgaa.Pure
open Go.RowKit Go.Proofs.Ytbijachmecgpgaa.P Go.Proofs.YtbijachmecgpgaaW.PrintWords Go.Proofs.YtbijachmecgpgaaW.PrintLast Go.Proofs.YtbijachmecgpgaaW.PrintMore
set_option linter.unusedVariables false
set_option linter.unusedSimpArgs false
theorem FnExactOverflow : laws_FnExactOverflow.Pure := by
  intro a w ha hfa hw
  have hw : w ≤ 9223372036854775807 := by
    simp only [Lit.wf] at hw
    revert hw
    simp
  refine Ev.rounds (g := fun k => laws_FnExactOverflow.f k a w) ?_
  refine Ev.congr (fun k => by rw [laws_FnExactOverflow.f]) (rows_take ha hfa (by omega) (by omega) fun l h0 h1 _ hz hm hT => ?_)
  refine Ev.bind hT (Ev.bind (specOv_ev _ w hw hm (fun y hy => (hz y hy).2)) ?_)
  refine Ev.bind hT (Ev.bind (implOv_ev _ w hw hm (fun y hy => (hz y hy).2)) ?_)
  simp only [if_true]
  exact rows_end hm hT
end Go.Proofs.Ytbijachmecgpgaa.Pure
