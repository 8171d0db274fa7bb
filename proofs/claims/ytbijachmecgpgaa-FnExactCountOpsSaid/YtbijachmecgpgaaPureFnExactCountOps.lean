/- THE PURE STATEMENT OF THE LAW FnExactCountOps: for every document that came in the law's function ends in true, after some number of rounds. -/
import Derived.Test.YtbijachmecgpgaaPx0
import Derived.Test.YtbijachmecgpgaaPx28
import Derived.Test.YtbijachmecgpgaaPuLawDoc
import Derived.Test.YtbijachmecgpgaaPuCnt
namespace Go.Proofs.Ytbijachmecgpgaa.Pure
open Go.RowKit Go.Proofs.Ytbijachmecgpgaa.P Go.Proofs.YtbijachmecgpgaaW.PrintWords Go.Proofs.YtbijachmecgpgaaW.PrintLast Go.Proofs.YtbijachmecgpgaaW.PrintMore
set_option linter.unusedVariables false
set_option linter.unusedSimpArgs false
theorem FnExactCountOps : laws_FnExactCountOps.Pure := by
  intro o n t ks op hf _
  refine Ev.rounds (g := fun k => laws_FnExactCountOps.f k o n t ks op) ?_
  refine Ev.congr (fun k => by rw [laws_FnExactCountOps.f]) (law_begins hf fun hm hT => ?_)
  have := dsz_msz (conv ⟨o, n, t, ks⟩)
  refine Ev.bind hT ?_
  refine Ev.bind (specCnt_ev op _ (by omega)) ?_
  refine Ev.bind hT ?_
  refine Ev.bind (implCnt_ev op _ (by omega)) ?_
  simp only [if_true]
  exact law_ends hm hT
end Go.Proofs.Ytbijachmecgpgaa.Pure
