/- THE PURE STATEMENT OF THE LAW FnExactLayoutWidth: for every list of rows that came in the law's function ends in true, after some number of rounds. -/
import Derived.Test.YtbijachmecgpgaaPx0
import Derived.Test.YtbijachmecgpgaaPx42
import Derived.Test.YtbijachmecgpgaaPuLayWide
namespace Go.Proofs.Ytbijachmecgpgaa.Pure
open Go.RowKit Go.Proofs.Ytbijachmecgpgaa.P Go.Proofs.YtbijachmecgpgaaW.PrintWords Go.Proofs.YtbijachmecgpgaaW.PrintLast Go.Proofs.YtbijachmecgpgaaW.PrintMore
set_option linter.unusedVariables false
set_option linter.unusedSimpArgs false
theorem FnExactLayoutWidth : laws_FnExactLayoutWidth.Pure := by
  intro a ha hfa
  refine Ev.rounds (g := fun k => laws_FnExactLayoutWidth.f k a) ?_
  refine Ev.congr (fun k => by rw [laws_FnExactLayoutWidth.f]) (rows_take ha hfa (by omega) (by omega) fun l h0 h1 _ hz hm hT => ?_)
  refine Ev.bind hT (Ev.bind (specWid_ev _ hm (fun y hy => (hz y hy).2)) ?_)
  refine Ev.bind hT (Ev.bind (implWid_ev _ hm (fun y hy => (hz y hy).2)) ?_)
  simp only [if_true]
  exact rows_end hm hT
end Go.Proofs.Ytbijachmecgpgaa.Pure
