/- THE PURE STATEMENT OF THE LAW FnExactDocSame: for every two documents that came in the law's function ends in true, after some number of rounds. -/
import Derived.Test.YtbijachmecgpgaaPx0
import Derived.Test.YtbijachmecgpgaaPx31
import Derived.Test.YtbijachmecgpgaaPuLawDoc
import Derived.Test.YtbijachmecgpgaaPuDSame
namespace Go.Proofs.Ytbijachmecgpgaa.Pure
open Go.RowKit Go.Proofs.Ytbijachmecgpgaa.P Go.Proofs.YtbijachmecgpgaaW.PrintWords Go.Proofs.YtbijachmecgpgaaW.PrintLast Go.Proofs.YtbijachmecgpgaaW.PrintMore
set_option linter.unusedVariables false
set_option linter.unusedSimpArgs false
theorem FnExactDocSame : laws_FnExactDocSame.Pure := by
  intro o n t ks o' n' t' ks' hf hf'
  refine Ev.rounds (g := fun k => laws_FnExactDocSame.f k o n t ks o' n' t' ks') ?_
  refine Ev.congr (fun k => by rw [laws_FnExactDocSame.f]) (law_takes hf (by omega) (by omega) fun l h0 h1 hm hT => law_takes hf' h0 h1 fun _ _ _ hm' hT' => ?_)
  have := dsz_msz (conv ⟨o, n, t, ks⟩)
  refine Ev.bind hT (Ev.bind hT' ?_)
  refine Ev.bind (specSame_ev _ _ (by omega)) ?_
  refine Ev.bind hT (Ev.bind hT' ?_)
  refine Ev.bind (implSame_ev _ _ (by omega)) ?_
  simp only [bne_self_eq_false, Bool.false_eq_true, if_false]
  have e1 := law_ends hm hT
  have e2 := law_ends hm' hT'
  refine Ev.bind hT ?_
  refine Ev.bind (eqDoc_refl _ (by omega)) ?_
  simp only [if_true]
  exact e2
end Go.Proofs.Ytbijachmecgpgaa.Pure
