/- PLAIN LEMMAS: the frame of the laws over one document. -/
import Derived.Test.YtbijachmecgpgaaPx0
import Derived.Test.YtbijachmecgpgaaPx19
import Derived.Test.YtbijachmecgpgaaPx22
import Derived.Test.YtbijachmecgpgaaPx24
import Derived.Test.YtbijachmecgpgaaPuSzDoc
import Derived.Test.YtbijachmecgpgaaPuToDoc
import Derived.Test.YtbijachmecgpgaaPuEqDoc
import Derived.Test.YtbijachmecgpgaaPuCount
namespace Go.Proofs.Ytbijachmecgpgaa.Pure
open Go.RowKit Go.Proofs.Ytbijachmecgpgaa.P Go.Proofs.YtbijachmecgpgaaW.PrintWords Go.Proofs.YtbijachmecgpgaaW.PrintLast Go.Proofs.YtbijachmecgpgaaW.PrintMore
set_option linter.unusedVariables false
set_option linter.unusedSimpArgs false
theorem msz_conv : ∀ d : SLDoc, msz (conv d) ≤ 1 + wt d := by
  intro d
  induction d using SLDoc.ind with
  | h o n t ks ih =>
    have key : ∀ l : List SLDoc, (∀ k, k ∈ l → msz (conv k) ≤ 1 + wt k) → mszL (convL l) ≤ l.length + wtL l := by
      intro l
      induction l with
      | nil => intro _; simp [convL, mszL, wtL]
      | cons y l ihl =>
        intro hl
        have h1 := hl y List.mem_cons_self
        have h2 := ihl (fun k hk => hl k (List.mem_cons_of_mem _ hk))
        simp only [convL, mszL, wtL, List.length_cons]
        omega
    have := key ks ih
    simp only [conv, msz, wt]
    omega
/-- A law begins so: too large an input is passed over. -/
theorem law_begins {d : SLDoc} (hf : FineLDoc d) {rest : Nat → Option Bool}
    (h : msz (conv d) ≤ 1048577 → Ev (fun k => laws_toDoc.f k d.f0 d.f1 d.f2 d.f3) ((conv d).f0, (conv d).f1, (conv d).f2, (conv d).f3) → Ev rest true) :
    Ev (fun k => (laws_szDoc.f k d.f0 d.f1 d.f2 d.f3 1048576).bind fun t => if t < 0 then some true else rest k) true := by
  refine Ev.bind (szDoc_ev d hf 1048576 (by omega) (by omega)) ?_
  rcases szR_spec (wt d) 1048576 with ⟨hw, e⟩ | ⟨_, e⟩
  · rw [e]
    have c : ¬ ((1048576 : Int) - (wt d : Int) < 0) := by omega
    simp only [if_neg c]
    have := msz_conv d
    exact h (by omega) (toDoc_ev d (by omega))
  · rw [e]
    exact Ev.now _
/-- .. and ends so: the document that was handed over is as it was. -/
theorem law_ends {d : SLDoc} (hm : msz (conv d) ≤ 1048577) (hT : Ev (fun k => laws_toDoc.f k d.f0 d.f1 d.f2 d.f3) ((conv d).f0, (conv d).f1, (conv d).f2, (conv d).f3)) :
    Ev (fun k => (laws_toDoc.f k d.f0 d.f1 d.f2 d.f3).bind fun bt => (laws_eqDoc.f k (conv d).f0 (conv d).f1 (conv d).f2 (conv d).f3 bt.1 bt.2.1 bt.2.2.1 bt.2.2.2).bind fun t => if t = true then some true else none) true := by
  refine Ev.bind hT ?_
  have := dsz_msz (conv d)
  refine Ev.bind (eqDoc_refl _ (by omega)) ?_
  exact Ev.now _
/-- A later document of a law: what is left over is told on. -/
theorem law_takes {d : SLDoc} (hf : FineLDoc d) {left : Int} (h0 : 0 ≤ left) (h1 : left ≤ 1048576) {rest : Int → Nat → Option Bool}
    (h : ∀ l : Int, 0 ≤ l → l ≤ left → msz (conv d) ≤ 1048577 → Ev (fun k => laws_toDoc.f k d.f0 d.f1 d.f2 d.f3) ((conv d).f0, (conv d).f1, (conv d).f2, (conv d).f3) → Ev (rest l) true) :
    Ev (fun k => (laws_szDoc.f k d.f0 d.f1 d.f2 d.f3 left).bind fun t => if t < 0 then some true else rest t k) true := by
  refine Ev.bind (szDoc_ev d hf left (by omega) (by omega)) ?_
  rcases szR_spec (wt d) left with ⟨hw, e⟩ | ⟨_, e⟩
  · rw [e]
    have c : ¬ (left - (wt d : Int) < 0) := by omega
    simp only [if_neg c]
    have := msz_conv d
    exact h _ (by omega) (by omega) (by omega) (toDoc_ev d (by omega))
  · rw [e]
    exact Ev.now _
end Go.Proofs.Ytbijachmecgpgaa.Pure
