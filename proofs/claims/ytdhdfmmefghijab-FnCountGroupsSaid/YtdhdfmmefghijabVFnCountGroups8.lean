/- CONTRACTS and lemmas: each contract says that a Go function of the program, called over the translation under the theorem's own hypotheses, returns what the Lean function beside it computes. -/
import Derived.Test.YtdhdfmmefghijabVFnCountGroups7
import Derived.Test.YtdhdfmmefghijabRows
import Derived.ClosedOfChecked
import Derived.KernelRfl
namespace Go.Proofs.Ytdhdfmmefghijab.Pure
open Go.RowKit Go.Proofs.Ytdhdfmmefghijab.P Go.Proofs.YtdhdfmmefghijabW.PrintWords Go.Proofs.YtdhdfmmefghijabW.PrintLast Go.Proofs.YtdhdfmmefghijabW.PrintMore
set_option linter.unusedVariables false
set_option linter.unusedSimpArgs false
theorem ch_rd0 (y : SDoc) (l : List SDoc) : rd_TDoc (y :: l) 0 = y := by simp [rd_TDoc]
theorem ch_rd1 (x y : SDoc) (l : List SDoc) : rd_TDoc (x :: y :: l) 1 = y := by simp [rd_TDoc]
theorem ch_kids1 {ks : List SDoc} (h : (ks.length : Int) = 1) : ∃ y, ks = [y] := by
  match ks, h with
  | [y], _ => exact ⟨y, rfl⟩
  | [], h => simp at h
  | _ :: _ :: _, h => simp only [List.length_cons] at h; omega
theorem ch_kids2 {ks : List SDoc} (h : (ks.length : Int) = 2) : ∃ x y, ks = [x, y] := by
  match ks, h with
  | [x, y], _ => exact ⟨x, y, rfl⟩
  | [], h => simp at h
  | [_], h => simp at h
  | _ :: _ :: _ :: _, h => simp only [List.length_cons] at h; omega
def cap (c : Int) : Int := if c > 100000 then 100001 else c
def neg (c : Int) : Int := if c > 100000 then -1 else c
theorem neg_cap (e : Int) : neg (cap e) = neg e := by
  unfold neg cap
  by_cases h : e > 100000
  · rw [if_pos h, if_pos h]; rfl
  · rw [if_neg h, if_neg h]
def capN (o : Int) (hard : Nat) (cs : List Int) : Int := if o = 6 then cs.getD 0 1 else if o = 7 then cap (cs.getD 0 1 * cs.getD 1 1) else if o = 8 then cap (cs.getD 0 1 + if o = 8 ∧ hard = 0 then 1 else 0) else 1
mutual
def cO : SDoc → Int
  | ⟨o, n, t, ks⟩ => capN o (cnt 5 ⟨o, n, t, ks⟩) (cL ks)
def cL : List SDoc → List Int
  | [] => []
  | k :: ks => cO k :: cL ks
end
theorem impl_j2 (acc : Int) : Ev (fun k => impl_choices.j2 k acc) (neg acc) := by
  refine Ev.step (fun k => by rw [impl_choices.j2]) ?_
  unfold neg
  by_cases c : acc > 100000
  · simp only [if_pos c]; exact Ev.now _
  · simp only [if_neg c]; exact Ev.now _
theorem impl_j1 (acc : Int) (b : Bool) (h0 : 0 ≤ acc) (h1 : acc ≤ 1099511627776) : Ev (fun k => impl_choices.j1 k acc b) (neg (acc + if b = true then 1 else 0)) := by
  refine Ev.step (fun k => by rw [impl_choices.j1]) ?_
  cases b
  · simp only [Bool.false_eq_true, if_false, Int.add_zero]
    exact impl_j2 acc
  · simp only [if_true]
    rw [w64 (by omega) (by omega)]
    exact impl_j2 _
theorem impl_end (o n : Int) (t : ByteArray) (ks : List SDoc) (hd : dsz ⟨o, n, t, ks⟩ ≤ 4611686018427387904) (acc i : Int) (hi : i = (ks.length : Int)) (h0 : 0 ≤ acc) (h1 : acc ≤ 1099511627776) :
    Ev (fun k => impl_choices.l0 k acc ks (ks.length : Int) i o n t ks) (neg (acc + if o = 8 ∧ cnt 5 ⟨o, n, t, ks⟩ = 0 then 1 else 0)) := by
  subst hi
  refine Ev.step (fun k => by rw [impl_choices.l0]) ?_
  simp only [Int.lt_irrefl, if_false]
  by_cases c : o = 8
  · simp only [if_pos c]
    refine Ev.bind (implCnt_ev 5 ⟨o, n, t, ks⟩ hd) ?_
    have := impl_j1 acc ((cnt 5 ⟨o, n, t, ks⟩ : Int) == 0) h0 h1
    rw [show (if ((cnt 5 ⟨o, n, t, ks⟩ : Int) == 0) = true then (1 : Int) else 0) = if o = 8 ∧ cnt 5 ⟨o, n, t, ks⟩ = 0 then 1 else 0 from by
      by_cases e : cnt 5 ⟨o, n, t, ks⟩ = 0
      · rw [if_pos (by simp [e]), if_pos ⟨c, e⟩]
      · rw [if_neg (by simp; omega), if_neg (fun h => e h.2)]] at this
    exact this
  · simp only [if_neg c]
    have := impl_j1 acc false h0 h1
    rw [if_neg (fun h => c h.1)]
    simpa using this
theorem impl_kid (o n : Int) (t : ByteArray) (ks : List SDoc) (acc i c R : Int) (y : SDoc) (h0 : 0 ≤ i) (h1 : i < (ks.length : Int)) (hl : (ks.length : Int) ≤ 1099511627776) (hy : rd_TDoc ks i = y)
    (hc0 : 1 ≤ c) (hc1 : c ≤ 100001) (ha : 0 ≤ acc) (ha1 : acc ≤ 100000) (h : Ev (fun k => impl_choices.f k y.f0 y.f1 y.f2 y.f3) (neg c)) (hR : c > 100000 → R = -1)
    (hn : c ≤ 100000 → Ev (fun k => impl_choices.l0 k (acc * c) ks (ks.length : Int) (i + 1) o n t ks) R) :
    Ev (fun k => impl_choices.l0 k acc ks (ks.length : Int) i o n t ks) R := by
  refine Ev.step (fun k => by rw [impl_choices.l0]) ?_
  simp only [if_pos h1, if_pos h0, hy]
  refine Ev.bind h ?_
  by_cases hc : c > 100000
  · rw [hR hc, neg, if_pos hc]
    simp only [show ((-1 : Int) < 0) = True by simp, if_true]
    exact Ev.now _
  · rw [neg, if_neg hc]
    simp only [if_neg (show ¬ c < 0 by omega)]
    have hm0 : 0 ≤ acc * c := Int.mul_nonneg ha (by omega)
    have hm1 : acc * c ≤ 100000 * 100000 := Int.mul_le_mul ha1 (by omega) (by omega) (by omega)
    rw [w64 (i := acc * c) (by omega) (by omega), w64 (i := i + 1) (by omega) (by omega)]
    exact hn (by omega)
theorem spec_j1 (c : Int) : Ev (fun k => spec_l3Count.j1 k c) (cap c) := by
  refine Ev.step (fun k => by rw [spec_l3Count.j1]) ?_
  unfold cap
  by_cases h : c > 100000
  · simp only [if_pos h]; exact Ev.now _
  · simp only [if_neg h]; exact Ev.now _
theorem choices_ev : ∀ (d : SDoc) (deep : Nat), wf d deep = true → msz d ≤ 1099511627776 → ∃ c : Int, c = cO d ∧ 1 ≤ c ∧ c ≤ 100001 ∧ Ev (fun k => spec_l3Count.f k d.f0 d.f1 d.f2 d.f3) c ∧ Ev (fun k => impl_choices.f k d.f0 d.f1 d.f2 d.f3) (neg c) := by
  intro d
  induction d using SDoc.ind with
  | h o n t ks ih =>
    intro deep hw hd
    obtain ⟨ho1, ho8, hk, _, _, _, _, _⟩ := wf_node hw
    have hks := wf_kids hw
    have hdz := dsz_msz ⟨o, n, t, ks⟩
    have hdz : dsz ⟨o, n, t, ks⟩ ≤ 4611686018427387904 := by omega
    simp only [msz] at hd
    have I0 : ∀ R, Ev (fun k => impl_choices.l0 k 1 ks (ks.length : Int) 0 o n t ks) R → Ev (fun k => impl_choices.f k o n t ks) R := fun R h => Ev.step (fun k => by rw [impl_choices.f]) h
    have hcase : o ≤ 5 ∨ o = 6 ∨ o = 7 ∨ o = 8 := by omega
    rcases hcase with h | h | h | h
    · have hk0 : ks = [] := List.length_eq_zero_iff.1 (by have : docKids o = 0 := by unfold docKids; (repeat' split) <;> omega
                                                          omega)
      subst hk0
      refine ⟨1, by rw [cO, capN, if_neg (by omega), if_neg (by omega), if_neg (by omega)], by omega, by omega, ?_, ?_⟩
      · refine Ev.step (fun k => by rw [spec_l3Count.f]) ?_
        simp only [if_neg (show ¬ o = 6 by omega), if_neg (show ¬ o = 7 by omega), if_neg (show ¬ o = 8 by omega)]
        exact Ev.now _
      · refine I0 _ ?_
        have := impl_end o n t [] hdz 1 0 rfl (by omega) (by omega)
        rw [if_neg (show ¬ (o = 8 ∧ _) from fun h => by omega)] at this
        exact this
    · subst h
      obtain ⟨y, rfl⟩ := ch_kids1 (hk.trans rfl)
      simp only [mszL] at hd
      obtain ⟨c, hcd, hc0, hc1, h1, h2⟩ := ih y List.mem_cons_self _ (hks y List.mem_cons_self) (by omega)
      refine ⟨c, by rw [hcd]; simp [cO, cL, capN], hc0, hc1, ?_, ?_⟩
      · refine Ev.step (fun k => by rw [spec_l3Count.f]) ?_
        simp only [if_true, if_pos (show (0 : Int) < (([y] : List SDoc).length : Int) by simp), ch_rd0]
        exact Ev.bind h1 (Ev.now _)
      · refine I0 _ (impl_kid 6 n t [y] 1 0 c _ y (by omega) (by simp) (by simp) (ch_rd0 y []) hc0 hc1 (by omega) (by omega) h2 (fun h => by rw [neg, if_pos h]) fun h => ?_)
        rw [Int.one_mul]
        have := impl_end 6 n t [y] hdz c (0 + 1) rfl (by omega) (by omega)
        rw [if_neg (show ¬ ((6 : Int) = 8 ∧ _) from fun h => by omega), Int.add_zero] at this
        exact this
    · subst h
      obtain ⟨x, y, rfl⟩ := ch_kids2 (hk.trans rfl)
      simp only [mszL] at hd
      have hx : x ∈ [x, y] := List.mem_cons_self
      have hy : y ∈ [x, y] := List.mem_cons_of_mem _ List.mem_cons_self
      obtain ⟨a, had, ha0, ha1, h1, h2⟩ := ih x hx _ (hks x hx) (by omega)
      obtain ⟨b, hbd, hb0, hb1, g1, g2⟩ := ih y hy _ (hks y hy) (by omega)
      have hab0 : 1 * 1 ≤ a * b := Int.mul_le_mul ha0 hb0 (by omega) (by omega)
      have hab1 : a * b ≤ 100001 * 100001 := Int.mul_le_mul ha1 hb1 (by omega) (by omega)
      have big : a > 100000 ∨ b > 100000 → a * b > 100000 := by
        intro h
        rcases h with h | h
        · have : 100001 * 1 ≤ a * b := Int.mul_le_mul (by omega) hb0 (by omega) (by omega)
          omega
        · have : 1 * 100001 ≤ a * b := Int.mul_le_mul ha0 (by omega) (by omega) (by omega)
          omega
      have hneg := neg_cap (a * b)
      refine ⟨cap (a * b), by rw [had, hbd]; simp [cO, cL, capN], by unfold cap; split <;> omega, by unfold cap; split <;> omega, ?_, ?_⟩
      · have J : ∀ w : Bool, w = decide (a * b > 100000) → Ev (fun k => spec_l3Count.j0 k a b w) (cap (a * b)) := by
          intro w hw
          refine Ev.step (fun k => by rw [spec_l3Count.j0]) ?_
          unfold cap
          by_cases c : a * b > 100000
          · rw [decide_eq_true c] at hw
            simp only [hw, if_true, if_pos c]; exact Ev.now _
          · rw [decide_eq_false c] at hw
            simp only [hw, Bool.false_eq_true, if_false, if_neg c]
            rw [w64 (by omega) (by omega)]
            exact Ev.now _
        refine Ev.step (fun k => by rw [spec_l3Count.f]) ?_
        simp only [if_neg (show ¬ (7 : Int) = 6 by omega), if_true, if_pos (show (0 : Int) < (([x, y] : List SDoc).length : Int) by simp), if_pos (show (1 : Int) < (([x, y] : List SDoc).length : Int) by simp), ch_rd0, ch_rd1]
        refine Ev.bind h1 (Ev.bind g1 ?_)
        rw [w64 (i := a * b) (by omega) (by omega)]
        refine Ev.iff (fun c => J _ ?_) (fun c => Ev.iff (fun c2 => J _ ?_) (fun c2 => J _ rfl))
        · exact (decide_eq_true (big (.inl c))).symm
        · exact (decide_eq_true (big (.inr c2))).symm
      · rw [hneg]
        refine I0 _ (impl_kid 7 n t [x, y] 1 0 a _ x (by omega) (by simp) (by simp) (ch_rd0 x [y]) ha0 ha1 (by omega) (by omega) h2 (fun h => by rw [neg, if_pos (big (.inl h))]) fun h => ?_)
        rw [Int.one_mul]
        refine impl_kid 7 n t [x, y] a (0 + 1) b _ y (by omega) (by simp) (by simp) (ch_rd1 x y []) hb0 hb1 (by omega) (by omega) g2 (fun h => by rw [neg, if_pos (big (.inr h))]) fun h => ?_
        have := impl_end 7 n t [x, y] hdz (a * b) (0 + 1 + 1) rfl (by omega) (by omega)
        rw [if_neg (show ¬ ((7 : Int) = 8 ∧ _) from fun h => by omega), Int.add_zero] at this
        exact this
    · subst h
      obtain ⟨y, rfl⟩ := ch_kids1 (hk.trans rfl)
      simp only [mszL] at hd
      obtain ⟨c, hcd, hc0, hc1, h1, h2⟩ := ih y List.mem_cons_self _ (hks y List.mem_cons_self) (by omega)
      have hneg := neg_cap
      have hc5 := cnt 5 ⟨8, n, t, [y]⟩
      refine ⟨cap (c + if (8 : Int) = 8 ∧ cnt 5 ⟨8, n, t, [y]⟩ = 0 then 1 else 0), by rw [hcd]; simp [cO, cL, capN], by unfold cap; split <;> (try split) <;> omega, by unfold cap; split <;> omega, ?_, ?_⟩
      · refine Ev.step (fun k => by rw [spec_l3Count.f]) ?_
        simp only [if_neg (show ¬ (8 : Int) = 6 by omega), if_neg (show ¬ (8 : Int) = 7 by omega), if_true, if_pos (show (0 : Int) < (([y] : List SDoc).length : Int) by simp), ch_rd0]
        refine Ev.bind h1 (Ev.bind (specCnt_ev 5 ⟨8, n, t, [y]⟩ hdz) ?_)
        refine Ev.iff (fun e => ?_) (fun e => ?_)
        · rw [if_pos ⟨trivial, by omega⟩, w64 (by omega) (by omega)]
          exact spec_j1 _
        · rw [if_neg (fun h => e (by omega)), Int.add_zero]
          exact spec_j1 _
      · rw [hneg]
        refine I0 _ (impl_kid 8 n t [y] 1 0 c _ y (by omega) (by simp) (by simp) (ch_rd0 y []) hc0 hc1 (by omega) (by omega) h2 (fun h => by rw [neg, if_pos (by split <;> omega)]) fun h => ?_)
        rw [Int.one_mul]
        exact impl_end 8 n t [y] hdz c (0 + 1) rfl (by omega) (by omega)
def chR (d : SDoc) : Int × Bool := if docV d = true then (if cO d > 100000 then (0, false) else (cO d, true)) else (0, false)
theorem countCh_ev (d : SDoc) (hd : msz d ≤ 1099511627776) : Ev (fun k => spec_CountChoices.f k d.f0 d.f1 d.f2 d.f3) (chR d) ∧ Ev (fun k => impl_CountChoices.f k d.f0 d.f1 d.f2 d.f3) (chR d) := by
  unfold chR
  by_cases hv : docV d = true
  · obtain ⟨c, hcd, hc0, hc1, h1, h2⟩ := choices_ev d 40 (docV_wf hv) hd
    rw [if_pos hv, ← hcd]
    refine ⟨Ev.congr (fun k => by rw [spec_CountChoices.f]) (Ev.bind (specValid_ev d hd) ?_), Ev.congr (fun k => by rw [impl_CountChoices.f]) (Ev.bind (implValid_ev d hd) ?_)⟩
    · simp only [if_pos hv]
      refine Ev.bind h1 ?_
      by_cases c' : c > 100000
      · simp only [if_pos c']; exact Ev.now _
      · simp only [if_neg c']; exact Ev.now _
    · simp only [if_pos hv]
      refine Ev.bind h2 ?_
      unfold neg
      by_cases c' : c > 100000
      · rw [if_pos c', if_pos c']
        simp only [show ((-1 : Int) < 0) = True by simp, if_true]
        exact Ev.now _
      · rw [if_neg c', if_neg c']
        simp only [if_neg (show ¬ c < 0 by omega)]
        exact Ev.now _
  · rw [if_neg hv]
    refine ⟨Ev.congr (fun k => by rw [spec_CountChoices.f]) (Ev.bind (specValid_ev d hd) ?_), Ev.congr (fun k => by rw [impl_CountChoices.f]) (Ev.bind (implValid_ev d hd) ?_)⟩
    · simp only [if_neg hv]; exact Ev.now _
    · simp only [if_neg hv]; exact Ev.now _
end Go.Proofs.Ytdhdfmmefghijab.Pure
namespace Go.Proofs.Ytdhdfmmefghijab.Pure
open Go.RowKit Go.Proofs.Ytdhdfmmefghijab.P Go.Proofs.YtdhdfmmefghijabW.PrintWords Go.Proofs.YtdhdfmmefghijabW.PrintLast Go.Proofs.YtdhdfmmefghijabW.PrintMore
set_option linter.unusedVariables false
set_option linter.unusedSimpArgs false
theorem parse_msz {s : List UInt8} {d : SDoc} (h : parseR s = some d) : msz d ≤ s.length := by
  unfold parseR at h
  split at h
  · rename_i e heq
    split at h
    · cases h
      have := (pD_good 40 _ _ _ heq).1
      simp only [List.length_nil] at this
      omega
    · cases h
  · cases h
theorem small_loop {b : List Int} (hb : Code b) : ∀ (m i : Nat), i + m = 4 → ∀ p : Int, 0 ≤ p → p ≤ 90000000 + 100000 * i → ∃ (d : SDoc) (q : Int), Ev (fun k => spec_l3Small.l0 k (i : Int) b p) (d.f0, d.f1, d.f2, d.f3, q) ∧ msz d ≤ 1066 := by
  intro m
  induction m with
  | zero =>
    intro i hi p _ _
    have h3 : ¬ ((i : Int) < 4) := by omega
    cases hp : parseR (⟨#[91, 40, 34, 97, 34, 40, 95, 91, 40, 34, 98, 34, 40, 46, 34, 99, 34, 41, 41, 93, 41, 41, 93]⟩ : ByteArray).data.toList with
    | none =>
      have g := specParse_ev (⟨#[91, 40, 34, 97, 34, 40, 95, 91, 40, 34, 98, 34, 40, 46, 34, 99, 34, 41, 41, 93, 41, 41, 93]⟩ : ByteArray) (by decide +kernel)
      rw [hp] at g
      refine ⟨⟨0, 0, ⟨#[]⟩, []⟩, p, Ev.step (fun k => by rw [spec_l3Small.l0]) ?_, by simp [msz, mszL, ByteArray.size]⟩
      simp only [if_neg h3]
      exact Ev.bind g (Ev.now _)
    | some d =>
      have g := specParse_ev (⟨#[91, 40, 34, 97, 34, 40, 95, 91, 40, 34, 98, 34, 40, 46, 34, 99, 34, 41, 41, 93, 41, 41, 93]⟩ : ByteArray) (by decide +kernel)
      rw [hp] at g
      have hm := parse_msz hp
      refine ⟨d, p, Ev.step (fun k => by rw [spec_l3Small.l0]) ?_, by simp only [List.length_cons, List.length_nil] at hm; omega⟩
      simp only [if_neg h3]
      exact Ev.bind g (Ev.now _)
  | succ m ih =>
    intro i hi p hp0 hp1
    have h3 : (i : Int) < 4 := by omega
    obtain ⟨d, q, h1, h2, q0, q1⟩ := draw_ev hb p hp0 (by omega)
    have hm := h2.2
    obtain ⟨c, _, _, _, hc, _⟩ := choices_ev d 40 (docV_wf h2.1) (by omega)
    by_cases c6 : c ≤ 60
    · refine ⟨d, q, Ev.step (fun k => by rw [spec_l3Small.l0]) ?_, by omega⟩
      simp only [if_pos h3]
      refine Ev.bind h1 (Ev.bind hc ?_)
      simp only [if_pos c6]
      exact Ev.now _
    · obtain ⟨d', q', g1, g2⟩ := ih (i + 1) (by omega) q (by omega) (by omega)
      refine ⟨d', q', Ev.step (fun k => by rw [spec_l3Small.l0]) ?_, g2⟩
      simp only [if_pos h3]
      refine Ev.bind h1 (Ev.bind hc ?_)
      simp only [if_neg c6]
      rw [w64 (by omega) (by omega), show (i : Int) + 1 = ((i + 1 : Nat) : Int) by omega]
      exact g1
theorem case_ev (l : List Int) (hl : l.length ≤ maxLen) (h : ∀ x ∈ l, (Lit.int .u8 x).wf = true) : ∃ d : SDoc, Ev (fun k => spec_l3Case.f k l) (d.f0, d.f1, d.f2, d.f3) ∧ msz d ≤ 1066 := by
  obtain ⟨b, hb, e⟩ := open_ev l hl h
  obtain ⟨i, g, _, _⟩ := pick_ev hb 0 16 (by omega) (by omega)
  by_cases c0 : i = 0
  · obtain ⟨d, q, h1, h2, h3, h4⟩ := draw_ev hb (0 + 1) (by omega) (by omega)
    have hm := h2.2
    obtain ⟨d1, d2, q1, q2, i1, i2, i3, i4, i5, i6, i7⟩ := mutate2_ev hb d q (by omega) (by omega) (by omega)
    refine ⟨d2, Ev.congr (fun k => by rw [spec_l3Case.f, e]) ?_, by omega⟩
    simp only [Option.bind_some]
    refine Ev.bind g ?_
    simp only [if_pos c0]
    exact Ev.bind h1 (Ev.bind i1 (Ev.bind i2 (Ev.now _)))
  by_cases c1 : i = 1
  · obtain ⟨d, q, h1, h2, h3, h4⟩ := draw_ev hb (0 + 1) (by omega) (by omega)
    have hm := h2.2
    refine ⟨d, Ev.congr (fun k => by rw [spec_l3Case.f, e]) ?_, by omega⟩
    simp only [Option.bind_some]
    refine Ev.bind g ?_
    simp only [if_neg c0, if_pos c1]
    exact Ev.bind h1 (Ev.now _)
  · obtain ⟨d, q, h1, h2⟩ := small_loop hb 4 0 rfl (0 + 1) (by omega) (by omega)
    refine ⟨d, Ev.congr (fun k => by rw [spec_l3Case.f, e]) ?_, h2⟩
    simp only [Option.bind_some]
    refine Ev.bind g ?_
    simp only [if_neg c0, if_neg c1]
    refine Ev.bind (Ev.congr (fun k => by rw [spec_l3Small.f]; rfl) h1) (Ev.now _)
theorem drawCount_ev (l : List Int) (hl : l.length ≤ maxLen) (h : ∀ x ∈ l, (Lit.int .u8 x).wf = true) : ∃ d : SDoc, Ev (fun k => spec_DrawCountChoices.f k l) (d.f0, d.f1, d.f2, d.f3) ∧ msz d ≤ 1066 := by
  obtain ⟨d, h1, h2⟩ := case_ev l hl h
  exact ⟨d, Ev.congr (fun k => by rw [spec_DrawCountChoices.f]) (Ev.bind h1 (Ev.now _)), h2⟩
end Go.Proofs.Ytdhdfmmefghijab.Pure
namespace Go.Proofs.Ytdhdfmmefghijab.Pure
open Go.RowKit Go.Proofs.Ytdhdfmmefghijab.P Go.Proofs.YtdhdfmmefghijabW.PrintWords Go.Proofs.YtdhdfmmefghijabW.PrintLast Go.Proofs.YtdhdfmmefghijabW.PrintMore
set_option linter.unusedVariables false
set_option linter.unusedSimpArgs false
theorem cap_le (c : Int) : cap c ≤ c := by unfold cap; split <;> omega
theorem cO_le : ∀ (d : SDoc) (deep : Nat), wf d deep = true → msz d ≤ 1099511627776 → cO d ≤ 2 ^ cnt 8 d := by
  intro d
  induction d using SDoc.ind with
  | h o n t ks ih =>
    intro deep hw hd
    obtain ⟨ho1, ho8, hk, _, _, _, _, _⟩ := wf_node hw
    have hks := wf_kids hw
    simp only [msz] at hd
    have hcase : o ≤ 5 ∨ o = 6 ∨ o = 7 ∨ o = 8 := by omega
    have one : (1 : Int) ≤ 2 ^ cnt 8 ⟨o, n, t, ks⟩ := Int.pow_pos (by omega)
    rcases hcase with h | h | h | h
    · rw [cO, capN, if_neg (by omega), if_neg (by omega), if_neg (by omega)]; exact one
    · subst h
      obtain ⟨y, rfl⟩ := ch_kids1 (hk.trans rfl)
      simp only [mszL] at hd
      have := ih y List.mem_cons_self _ (hks y List.mem_cons_self) (by omega)
      rw [cO, capN, if_pos rfl]
      simpa [cL, cnt, cntL] using this
    · subst h
      obtain ⟨x, y, rfl⟩ := ch_kids2 (hk.trans rfl)
      simp only [mszL] at hd
      have hx : x ∈ [x, y] := List.mem_cons_self
      have hy : y ∈ [x, y] := List.mem_cons_of_mem _ List.mem_cons_self
      have a1 := ih x hx _ (hks x hx) (by omega)
      have b1 := ih y hy _ (hks y hy) (by omega)
      obtain ⟨_, rfl, _, _, _, _⟩ := choices_ev x _ (hks x hx) (by omega)
      obtain ⟨_, rfl, _, _, _, _⟩ := choices_ev y _ (hks y hy) (by omega)
      have hm : cO x * cO y ≤ 2 ^ cnt 8 x * 2 ^ cnt 8 y := Int.mul_le_mul a1 b1 (by omega) (Int.le_of_lt (Int.pow_pos (by omega)))
      have he : cnt 8 ⟨7, n, t, [x, y]⟩ = cnt 8 x + cnt 8 y := by simp [cnt, cntL]
      rw [he, Int.pow_add, cO, capN, if_neg (by decide), if_pos rfl]
      exact Int.le_trans (cap_le _) hm
    · subst h
      obtain ⟨y, rfl⟩ := ch_kids1 (hk.trans rfl)
      simp only [mszL] at hd
      have a1 := ih y List.mem_cons_self _ (hks y List.mem_cons_self) (by omega)
      have hp : (1 : Int) ≤ 2 ^ cnt 8 y := Int.pow_pos (by omega)
      have he : cnt 8 ⟨8, n, t, [y]⟩ = cnt 8 y + 1 := by simp [cnt, cntL]; omega
      rw [he, Int.pow_succ, cO, capN, if_neg (by decide), if_neg (by decide), if_pos rfl]
      refine Int.le_trans (cap_le _) ?_
      show cO y + _ ≤ _
      split <;> omega
theorem grp_loop (d : SDoc) (hd : dsz d ≤ 1000000) (x4 : Int) (h1 : 1 ≤ x4) (h2 : x4 ≤ 100000) (h3 : x4 ≤ 2 ^ cnt 8 d) : ∀ (m i : Nat) (x8 : Int), i + m = cnt 8 d → x8 = 2 ^ i → x8 ≤ 200000 → Ev (fun k => laws_FnCountGroups.l0 k x4 x8 (i : Int) d.f0 d.f1 d.f2 d.f3) true := by
  intro m
  induction m with
  | zero =>
    intro i x8 hi hx hb
    refine Ev.step (fun k => by rw [laws_FnCountGroups.l0]) ?_
    refine Ev.bind (implCnt_ev 8 d (by omega)) ?_
    have h4 : x4 ≤ x8 := by rw [hx, show i = cnt 8 d by omega]; exact h3
    simp only [if_neg (show ¬ (i : Int) < (cnt 8 d : Int) by omega), if_pos (show x4 ≥ 1 from h1), decide_eq_true h4]
    exact Ev.now _
  | succ m ih =>
    intro i x8 hi hx hb
    have hp : (1 : Int) ≤ 2 ^ i := Int.pow_pos (by omega)
    have hc := cnt_le 8 d
    refine Ev.step (fun k => by rw [laws_FnCountGroups.l0]) ?_
    refine Ev.bind (implCnt_ev 8 d (by omega)) ?_
    simp only [if_pos (show (i : Int) < (cnt 8 d : Int) by omega)]
    by_cases c : x8 ≤ 100000
    · simp only [if_pos c]
      have e1 : wrap64 (x8 * 2) = x8 * 2 := w64 (by omega) (by omega)
      have e2 : wrap64 ((i : Int) + 1) = ((i + 1 : Nat) : Int) := by rw [w64 (by omega) (by omega)]; omega
      rw [e1, e2]
      exact ih (i + 1) (x8 * 2) (by omega) (by rw [Int.pow_succ, hx]) (by omega)
    · have h4 : x4 ≤ x8 := by omega
      simp only [if_neg c, if_pos (show x4 ≥ 1 from h1), decide_eq_true h4]
      exact Ev.now _
theorem FnCountGroups : laws_FnCountGroups.Pure := by
  intro l hl _ hw
  refine Ev.rounds (g := fun k => laws_FnCountGroups.f k l) (Ev.congr (fun k => by rw [laws_FnCountGroups.f]) (big_or ?_))
  obtain ⟨d, hd, hm⟩ := drawCount_ev l hl hw
  have hz := dsz_msz d
  refine Ev.bind hd (Ev.bind (countCh_ev d (by omega)).2 (Ev.bind (countCh_ev d (by omega)).1 ?_))
  simp only [if_true, bne_self_eq_false, Bool.false_eq_true, if_false]
  refine Ev.step (fun k => by rw [laws_FnCountGroups.j0]) ?_
  have no : chR d = (0, false) ∨ (docV d = true ∧ cO d ≤ 100000 ∧ chR d = (cO d, true)) := by
    unfold chR
    by_cases hv : docV d = true
    · by_cases hc : cO d > 100000
      · rw [if_pos hv, if_pos hc]; exact .inl rfl
      · rw [if_pos hv, if_neg hc]; exact .inr ⟨hv, by omega, rfl⟩
    · rw [if_neg hv]; exact .inl rfl
  rcases no with h | ⟨hv, hc, h⟩
  · rw [h]
    simp only [Bool.not_false, if_true, beq_self_eq_true]
    exact Ev.now _
  · rw [h]
    simp only [Bool.not_true, Bool.false_eq_true, if_false]
    obtain ⟨_, rfl, c1, _, _, _⟩ := choices_ev d 40 (docV_wf hv) (by omega)
    exact grp_loop d (by omega) (cO d) c1 hc (cO_le d 40 (docV_wf hv) (by omega)) (cnt 8 d) 0 1 (by omega) rfl (by omega)
end Go.Proofs.Ytdhdfmmefghijab.Pure
namespace Go.Proofs.Ytdhdfmmefghijab
theorem closed3:laidOutB Try.prog=true∧mapsRowed Try.prog=true∧Try.prog.plainKeys=true:=Go.ClosedOfChecked.closed_of_checked Try.checked (by kernel_rfl) (by kernel_rfl) (by kernel_rfl)
def edgesL:List (List Nat):=[[],[],[1],[15,16,17,18,16,16,19,18,18],[15,15,16,17,18,18,16,16,16,18],[15,16,17,18,18,19,18,18],[20,21,22,18,18,21,21,18],[20,21,22,18,18,21,18,18],[15,16,17,18,18,21,21,21,16,18],[23,24,25,24,18,18,21,18],[23,24,25,18,18,26,26,26,19,24,24,16,18],[27,18,28,18,18,19,29,30,30,19,19],[31,32,33,19,33,30,32],[31,32,34,30,33,35,36,19,33,35,36],[37,38,39,26],[40,41,41],[19,19,42,19],[29,29,43,29],[44],[45],[40,46,41],[19,47,19],[29,48,29],[49],[50,51],[52,53],[26],[40,41,54,54,41],[],[55],[19,56,57],[40,41,46],[19,58],[29,59],[19,58],[29,60,60],[29,61],[62],[50,63],[52,64],[],[65,53,54,54,46,66],[67],[],[],[68],[54],[67],[],[40,65,54,69,69],[70],[51,47,51,51,42,51],[71,72],[53,48,53,53,43,53],[],[73],[74],[75,76,76,76,77],[],[60],[78],[60],[40,54,65,69,69,65,79],[63,26],[64,64,64,64,80],[54,54,81,46,82,52,72,82],[54],[],[83],[84,54,54,69,54,46,46,66],[68,70],[85,73,71],[72],[],[86,87,87,87,87,87,75,76,88,88,88,77,76,77],[89,90],[89],[],[],[65,64,81],[80],[91,52],[54,92,54,82,46,82,82,54,82,82,93,93,82,82,93,93,82,82,93],[94],[84],[],[95,96],[97],[],[98],[99],[100,101,101,101],[66],[],[102],[],[],[],[],[],[],[91],[],[],[],[],[],[],[],[],[],[],[],[],[],[],[],[],[],[],[]]
theorem edges:Try.prog.funcs.toList.map Try.prog.leadsTo=edgesL:=by kernel_rfl
def clo (E:List (List Nat)):Nat→List Nat→List Nat→List Nat
 | 0,_,seen=>seen.reverse
 | _,[],seen=>seen.reverse
 | n+1,f :: todo,seen=>if seen.contains f then clo E n todo seen else clo E n ((E[f]?).getD []++todo) (f :: seen)
set_option maxRecDepth 100000 in
theorem elim_edges (f:Nat):(Try.prog.funcs[f]?).elim [] Try.prog.leadsTo=(edgesL[f]?).getD []:=by
 rw [← edges,List.getElem?_map,Array.getElem?_toList]
 cases Try.prog.funcs[f]? <;> rfl
theorem closureVia_clo:∀ (n:Nat) (todo seen:List Nat),Try.prog.closureVia n todo seen=clo edgesL n todo seen
 | 0,_,_=>by simp [Program.closureVia,clo]
 | n+1,[],_=>by simp [Program.closureVia,clo]
 | n+1,f :: todo,seen=>by
  rw [Program.closureVia,clo,elim_edges,closureVia_clo n,closureVia_clo n]
def fuelE:Nat:=1+(edgesL.map fun l=>l.length+1).sum
set_option maxRecDepth 100000 in
theorem fuel_eq:1+(Try.prog.funcs.toList.map fun g=>(Try.prog.leadsTo g).length+1).sum=fuelE:=by
 rw [fuelE,← edges,List.map_map]
 rfl
theorem closure_clo (f:Nat):Try.prog.closure f=clo edgesL fuelE [f] []:=by
 rw [Program.closure,fuel_eq,closureVia_clo]
noncomputable def unfB (fn:Func):Bool:=match fn.body with|some c=>c.unfollowed|none=>entryCalls fn
noncomputable def unfL:List Bool:=Try.prog.funcs.toList.map unfB
set_option maxRecDepth 100000 in
theorem any_unf (f:Nat):((Try.prog.funcs[f]?).any fun fn=>match fn.body with|some c=>c.unfollowed|none=>entryCalls fn)=(unfL[f]?).getD false:=by
 rw [unfL,List.getElem?_map,Array.getElem?_toList]
 cases Try.prog.funcs[f]? <;> rfl
set_option maxRecDepth 100000 in
theorem unfollowed_of {f:Nat} {L:List Nat} (h:clo edgesL fuelE [f] []=L):Try.prog.unfollowed f=L.any fun g=>(unfL[g]?).getD false:=by
 rw [Program.unfollowed,closure_clo,h]
 congr 1
 funext g
 exact any_unf g
set_option maxRecDepth 100000 in
theorem recurses_of {f:Nat} {L:List Nat} (h:clo edgesL fuelE [f] []=L):Try.prog.recurses f=((L.any fun g=>(unfL[g]?).getD false) || L.any fun g=>((edgesL[g]?).getD []).any fun h=>(clo edgesL fuelE [h] []).contains g):=by
 rw [Program.recurses,unfollowed_of h,closure_clo,h]
 congr 1
 congr 1
 funext g
 rw [elim_edges]
 congr 1
 funext h
 rw [closure_clo]
def signs:List Char:=([104,97,114,110,101,115,115,32,55,54,56,99,97,49,97,102,102,49,51,102,102,53,98,56,101,49,51,49,48,100,52,48,54,57,51,99,52,57,49,51,56,51,50,50,102,48,48,49,55,54,100,98,100,48,101,52,101,50,48,97,52,51,54,97,98,55,99,102,56,57,98,55,32,99,117,116,32,97,116,32,108,111,111,112,46,101,120,97,109,112,108,101,47,100,111,99,97,108,103,101,98,114,97,47,108,97,119,115,46,70,110,67,97,116,69,109,112,116,121,32,108,111,111,112,46,101,120,97,109,112,108,101,47,100,111,99,97,108,103,101,98,114,97,47,108,97,119,115,46,70,110,67,97,116,71,114,111,117,112,115,32,108,111,111,112,46,101,120,97,109,112,108,101,47,100,111,99,97,108,103,101,98,114,97,47,108,97,119,115,46,70,110,67,97,116,76,97,121,111,117,116,115,32,108,111,111,112,46,101,120,97,109,112,108,101,47,100,111,99,97,108,103,101,98,114,97,47,108,97,119,115,46,70,110,78,101,115,116,76,97,121,111,117,116,32,108,111,111,112,46,101,120,97,109,112,108,101,47,100,111,99,97,108,103,101,98,114,97,47,108,97,119,115,46,70,110,78,101,115,116,90,101,114,111,32,108,111,111,112,46,101,120,97,109,112,108,101,47,100,111,99,97,108,103,101,98,114,97,47,108,97,119,115,46,70,110,78,101,115,116,67,97,116,32,108,111,111,112,46,101,120,97,109,112,108,101,47,100,111,99,97,108,103,101,98,114,97,47,108,97,119,115,46,70,110,79,112,101,110,78,101,115,116,32,108,111,111,112,46,101,120,97,109,112,108,101,47,100,111,99,97,108,103,101,98,114,97,47,108,97,119,115,46,70,110,79,112,101,110,76,97,121,111,117,116,32,108,111,111,112,46,101,120,97,109,112,108,101,47,100,111,99,97,108,103,101,98,114,97,47,108,97,119,115,46,70,110,76,97,121,111,117,116,83,97,109,101,32,108,111,111,112,46,101,120,97,109,112,108,101,47,100,111,99,97,108,103,101,98,114,97,47,108,97,119,115,46,70,110,79,118,101,114,102,108,111,119,83,117,109,32,108,111,111,112,46,101,120,97,109,112,108,101,47,100,111,99,97,108,103,101,98,114,97,47,108,97,119,115,46,70,110,76,97,121,111,117,116,87,105,100,116,104,32,108,111,111,112,46,101,120,97,109,112,108,101,47,100,111,99,97,108,103,101,98,114,97,47,108,97,119,115,46,70,110,67,111,117,110,116,71,114,111,117,112,115]:List Nat).map Char.ofNat
def wordsL:List (List Char):=([[104,97,114,110,101,115,115],[55,54,56,99,97,49,97,102,102,49,51,102,102,53,98,56,101,49,51,49,48,100,52,48,54,57,51,99,52,57,49,51,56,51,50,50,102,48,48,49,55,54,100,98,100,48,101,52,101,50,48,97,52,51,54,97,98,55,99,102,56,57,98,55],[99,117,116],[97,116],[108,111,111,112,46,101,120,97,109,112,108,101,47,100,111,99,97,108,103,101,98,114,97,47,108,97,119,115,46,70,110,67,97,116,69,109,112,116,121],[108,111,111,112,46,101,120,97,109,112,108,101,47,100,111,99,97,108,103,101,98,114,97,47,108,97,119,115,46,70,110,67,97,116,71,114,111,117,112,115],[108,111,111,112,46,101,120,97,109,112,108,101,47,100,111,99,97,108,103,101,98,114,97,47,108,97,119,115,46,70,110,67,97,116,76,97,121,111,117,116,115],[108,111,111,112,46,101,120,97,109,112,108,101,47,100,111,99,97,108,103,101,98,114,97,47,108,97,119,115,46,70,110,78,101,115,116,76,97,121,111,117,116],[108,111,111,112,46,101,120,97,109,112,108,101,47,100,111,99,97,108,103,101,98,114,97,47,108,97,119,115,46,70,110,78,101,115,116,90,101,114,111],[108,111,111,112,46,101,120,97,109,112,108,101,47,100,111,99,97,108,103,101,98,114,97,47,108,97,119,115,46,70,110,78,101,115,116,67,97,116],[108,111,111,112,46,101,120,97,109,112,108,101,47,100,111,99,97,108,103,101,98,114,97,47,108,97,119,115,46,70,110,79,112,101,110,78,101,115,116],[108,111,111,112,46,101,120,97,109,112,108,101,47,100,111,99,97,108,103,101,98,114,97,47,108,97,119,115,46,70,110,79,112,101,110,76,97,121,111,117,116],[108,111,111,112,46,101,120,97,109,112,108,101,47,100,111,99,97,108,103,101,98,114,97,47,108,97,119,115,46,70,110,76,97,121,111,117,116,83,97,109,101],[108,111,111,112,46,101,120,97,109,112,108,101,47,100,111,99,97,108,103,101,98,114,97,47,108,97,119,115,46,70,110,79,118,101,114,102,108,111,119,83,117,109],[108,111,111,112,46,101,120,97,109,112,108,101,47,100,111,99,97,108,103,101,98,114,97,47,108,97,119,115,46,70,110,76,97,121,111,117,116,87,105,100,116,104],[108,111,111,112,46,101,120,97,109,112,108,101,47,100,111,99,97,108,103,101,98,114,97,47,108,97,119,115,46,70,110,67,111,117,110,116,71,114,111,117,112,115]]:List (List Nat)).map (List.map Char.ofNat)
theorem headI:Try.prog.initOrder=String.ofList signs:=by kernel_rfl
theorem headS:wordsSigns Try.prog.initOrder.toList=wordsL:=by
 rw [headI,String.toList_ofList]
 kernel_rfl
theorem headLifts_of {P : Program} {ws} (h : wordsSigns P.initOrder.toList = ws) : P.headLifts = if ((stripLifts liftWords (behindMainWord ws)).2.head? == some "cut".toList) = true then (stripLifts liftWords (behindMainWord ws)).1 else [] := by
 subst h;rfl
theorem headL:Try.prog.headLifts=[]:=(headLifts_of headS).trans (by kernel_rfl)
theorem liftsFinal_of {P : Program} {ws l} (h : wordsSigns P.initOrder.toList = ws) (hl : P.headLifts = l) : P.liftsFinal = (((behindMainWord ws).head? == some "carried".toList && (behindMainWord ws).take 3 != ["carried".toList, "gc".toList, "cut".toList]) || l.contains "finals") := by
 subst h;subst hl;rfl
theorem liftsF:Try.prog.liftsFinal=false:=(liftsFinal_of headS headL).trans (by kernel_rfl)
theorem mayEnter_of {P:Program} (h:wordsSigns P.initOrder.toList=wordsL) (h1:P.laysLater=false) (h2:P.bearsReflect=false):P.mayEnter=P.doorFits []:=by
 delta Program.mayEnter
 rw [h,h1,h2]
 kernel_rfl
theorem mayE:Try.prog.mayEnter=true:=(mayEnter_of headS (by kernel_rfl) (by kernel_rfl)).trans (by kernel_rfl)
theorem make_of {P:Program} (h:wordsSigns P.initOrder.toList=wordsL):P.make=some .cut:=by
 delta Program.make
 rw [h]
 kernel_rfl
theorem makeC:Try.prog.make=some .cut:=make_of headS
end Go.Proofs.Ytdhdfmmefghijab
