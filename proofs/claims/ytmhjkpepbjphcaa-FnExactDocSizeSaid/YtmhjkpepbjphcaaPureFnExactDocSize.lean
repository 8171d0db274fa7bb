/- THE PURE STATEMENT OF THE LAW FnExactDocSize: for every document that came in the law's function ends in true, after some number of rounds. -/
import Derived.Test.YtmhjkpepbjphcaaPx0
import Derived.Test.YtmhjkpepbjphcaaPx25
import Derived.Test.YtmhjkpepbjphcaaPuSzDoc
import Derived.Test.YtmhjkpepbjphcaaPuToDoc
import Derived.Test.YtmhjkpepbjphcaaPuEqDoc
import Derived.Test.YtmhjkpepbjphcaaPuDocSize
namespace Go.Proofs.Ytmhjkpepbjphcaa.Pure
open Go.RowKit Go.Proofs.Ytmhjkpepbjphcaa.P Go.Proofs.YtmhjkpepbjphcaaW.PrintWords Go.Proofs.YtmhjkpepbjphcaaW.PrintLast Go.Proofs.YtmhjkpepbjphcaaW.PrintMore
set_option linter.unusedVariables false
set_option linter.unusedSimpArgs false
theorem FnExactDocSize : laws_FnExactDocSize.Pure := by
  intro o n t ks hf
  have hsz := szDoc_ev ⟨o, n, t, ks⟩ hf 1048576 (by omega) (by omega)
  refine Ev.rounds (g := fun k => laws_FnExactDocSize.f k o n t ks) ?_
  refine Ev.congr (fun k => by rw [laws_FnExactDocSize.f]) ?_
  refine Ev.bind hsz ?_
  rcases szR_spec (wt ⟨o, n, t, ks⟩) 1048576 with ⟨hw, e⟩ | ⟨_, e⟩
  · rw [e]
    have c : ¬ ((1048576 : Int) - (wt ⟨o, n, t, ks⟩ : Int) < 0) := by omega
    simp only [if_neg c]
    have hw' : wt ⟨o, n, t, ks⟩ ≤ 1048576 := by omega
    have hT := toDoc_ev ⟨o, n, t, ks⟩ hw'
    have hd : dsz (conv ⟨o, n, t, ks⟩) ≤ 4611686018427387904 := by have := dsz_conv ⟨o, n, t, ks⟩; omega
    refine Ev.bind hT ?_
    refine Ev.bind (specSize_ev _ hd) ?_
    refine Ev.bind hT ?_
    refine Ev.bind (implSize_ev _ hd) ?_
    simp only [if_true]
    refine Ev.bind hT ?_
    refine Ev.bind (eqDoc_refl _ hd) ?_
    exact Ev.now _
  · rw [e]
    exact Ev.now _
end Go.Proofs.Ytmhjkpepbjphcaa.Pure
