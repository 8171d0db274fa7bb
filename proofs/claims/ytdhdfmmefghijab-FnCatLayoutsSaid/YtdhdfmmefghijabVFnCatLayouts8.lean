/- CONTRACTS and lemmas: each contract says that a Go function of the program, called over the translation under the theorem's own hypotheses, returns what the Lean function beside it computes. -/
import Derived.Test.YtdhdfmmefghijabVFnCatLayouts7
import Derived.Test.YtdhdfmmefghijabRows
import Derived.ClosedOfChecked
import Derived.KernelRfl
namespace Go.Proofs.Ytdhdfmmefghijab.Pure
open Go.RowKit Go.Proofs.Ytdhdfmmefghijab.P Go.Proofs.YtdhdfmmefghijabW.PrintWords Go.Proofs.YtdhdfmmefghijabW.PrintLast Go.Proofs.YtdhdfmmefghijabW.PrintMore
set_option linter.unusedVariables false
set_option linter.unusedSimpArgs false
def eR : SRow := ⟨0, ⟨#[]⟩⟩
def openN (o n : Int) (t : ByteArray) (rs : List (List SRow)) : List SRow :=
  if o = 2 then [⟨0, t⟩] else if o = 3 ∨ o = 4 ∨ o = 5 then [eR, eR] else if o = 6 then nestO n (rs.getD 0 []) else if o = 7 then catO (rs.getD 0 []) (rs.getD 1 []) else if o = 8 then rs.getD 0 [] else [eR]
mutual
def openO : SDoc → List SRow
  | ⟨o, n, t, ks⟩ => openN o n t (openL ks)
def openL : List SDoc → List (List SRow)
  | [] => []
  | k :: ks => openO k :: openL ks
end
def nl (d : SDoc) : Nat := cnt 3 d + cnt 4 d + cnt 5 d
def nlL (l : List SDoc) : Nat := cntL 3 l + cntL 4 l + cntL 5 l
theorem op_kids1 {ks : List SDoc} (h : (ks.length : Int) = 1) : ∃ y, ks = [y] := by
  match ks, h with
  | [y], _ => exact ⟨y, rfl⟩
  | [], h => simp at h
  | _ :: _ :: _, h => simp only [List.length_cons] at h; omega
theorem op_kids2 {ks : List SDoc} (h : (ks.length : Int) = 2) : ∃ x y, ks = [x, y] := by
  match ks, h with
  | [x, y], _ => exact ⟨x, y, rfl⟩
  | [], h => simp at h
  | [_], h => simp at h
  | _ :: _ :: _ :: _, h => simp only [List.length_cons] at h; omega
theorem op_rd0 (y : SDoc) (l : List SDoc) : rd_TDoc (y :: l) 0 = y := by simp [rd_TDoc]
theorem op_rd1 (x y : SDoc) (l : List SDoc) : rd_TDoc (x :: y :: l) 1 = y := by simp [rd_TDoc]
theorem wf_cases {o n : Int} {t : ByteArray} {ks : List SDoc} {deep : Nat} (h : wf ⟨o, n, t, ks⟩ deep = true) :
    0 < deep ∧ 0 ≤ n ∧ n ≤ 9 ∧ (((o = 1 ∨ o = 3 ∨ o = 4 ∨ o = 5) ∧ ks = [] ∧ t = ⟨#[]⟩ ∧ n = 0) ∨ (o = 2 ∧ ks = [] ∧ tv t = true ∧ n = 0) ∨ ((o = 6 ∨ (o = 8 ∧ n = 0)) ∧ t = ⟨#[]⟩ ∧ ∃ y, ks = [y] ∧ wf y (deep - 1) = true) ∨ (o = 7 ∧ n = 0 ∧ t = ⟨#[]⟩ ∧ ∃ x y, ks = [x, y] ∧ wf x (deep - 1) = true ∧ wf y (deep - 1) = true)) := by
  obtain ⟨h1, h8, hk, hn0, hn9, hn, ht, ht'⟩ := wf_node h
  have hks := wf_kids h
  have hdp : 0 < deep := by rw [wf_mk] at h; omega
  refine ⟨hdp, hn0, hn9, ?_⟩
  have hcase : (o = 1 ∨ o = 3 ∨ o = 4 ∨ o = 5) ∨ o = 2 ∨ o = 6 ∨ o = 7 ∨ o = 8 := by omega
  rcases hcase with c | c | c | c | c
  · refine .inl ⟨c, List.length_eq_zero_iff.1 ?_, ht' (by omega), by omega⟩
    have : docKids o = 0 := by unfold docKids; (repeat' split) <;> omega
    omega
  · subst c
    exact .inr (.inl ⟨rfl, List.length_eq_zero_iff.1 (by have : docKids 2 = 0 := rfl; omega), ht rfl, by omega⟩)
  · subst c
    obtain ⟨y, rfl⟩ := op_kids1 (hk.trans rfl)
    exact .inr (.inr (.inl ⟨.inl rfl, ht' (by omega), y, rfl, hks y (by simp)⟩))
  · subst c
    obtain ⟨x, y, rfl⟩ := op_kids2 (hk.trans rfl)
    exact .inr (.inr (.inr ⟨rfl, by omega, ht' (by omega), x, y, rfl, hks x (by simp), hks y (by simp)⟩))
  · subst c
    obtain ⟨y, rfl⟩ := op_kids1 (hk.trans rfl)
    exact .inr (.inr (.inl ⟨.inr ⟨rfl, by omega⟩, ht' (by omega), y, rfl, hks y (by simp)⟩))
theorem open_keeps : ∀ (d : SDoc) (deep : Nat), deep ≤ 40 → wf d deep = true → LP (msz d) deep (openO d) ∧ (openO d).length = nl d + 1 := by
  intro d
  induction d using SDoc.ind with
  | h o n t ks ih =>
    intro deep hdp hw
    obtain ⟨hd0, hn0, hn9, hc⟩ := wf_cases hw
    rcases hc with ⟨ho, rfl, rfl, rfl⟩ | ⟨rfl, rfl, ht, rfl⟩ | ⟨ho, rfl, y, rfl, hy⟩ | ⟨rfl, rfl, rfl, x, y, rfl, hx, hy⟩
    · rcases ho with rfl | rfl | rfl | rfl
      · exact ⟨LP.one (Nat.zero_le _) rfl, rfl⟩
      · exact ⟨LP.two, rfl⟩
      · exact ⟨LP.two, rfl⟩
      · exact ⟨LP.two, rfl⟩
    · have := tv_rows ht
      exact ⟨LP.one (by simp only [msz]; omega) this.1, rfl⟩
    · obtain ⟨k1, k2⟩ := ih y (by simp) (deep - 1) (by omega) hy
      rcases ho with rfl | ⟨rfl, rfl⟩
      · have hn := k1.nest n hn0 hn9 (by omega)
        have e : openO ⟨6, n, ⟨#[]⟩, [y]⟩ = nestO n (openO y) := by simp [openO, openN, openL]
        rw [e]
        refine ⟨hn.1.mono (by simp only [msz, mszL]; omega) (by omega), ?_⟩
        rw [hn.2, k2]
        simp [nl, cnt, cntL]
      · have e : openO ⟨8, 0, ⟨#[]⟩, [y]⟩ = openO y := by simp [openO, openN, openL]
        rw [e]
        refine ⟨k1.mono (by simp only [msz, mszL]; omega) (by omega), ?_⟩
        rw [k2]
        simp [nl, cnt, cntL]
    · obtain ⟨k1, k2⟩ := ih x (by simp) (deep - 1) (by omega) hx
      obtain ⟨j1, j2⟩ := ih y (by simp) (deep - 1) (by omega) hy
      have hc := k1.cat j1
      have e : openO ⟨7, 0, ⟨#[]⟩, [x, y]⟩ = catO (openO x) (openO y) := by simp [openO, openN, openL]
      rw [e]
      refine ⟨hc.1.mono (by simp only [msz, mszL]; omega) (by omega), ?_⟩
      have := hc.2.1
      have e2 : nl ⟨7, 0, ⟨#[]⟩, [x, y]⟩ = nl x + nl y := by
        simp only [nl, cnt, cntL, if_neg (show ¬ (7 : Int) = 3 by omega), if_neg (show ¬ (7 : Int) = 4 by omega), if_neg (show ¬ (7 : Int) = 5 by omega)]
        omega
      omega
theorem nl_le (d : SDoc) : nl d ≤ dsz d := by
  have key : ∀ d : SDoc, nl d ≤ dsz d := by
    intro d
    induction d using SDoc.ind with
    | h o n t ks ih =>
      have : ∀ l : List SDoc, (∀ y, y ∈ l → nl y ≤ dsz y) → nlL l ≤ dszL l := by
        intro l
        induction l with
        | nil => intro _; simp [nlL, cntL, dszL]
        | cons y l ihl =>
          intro hl
          have h1 := hl y List.mem_cons_self
          have h2 := ihl (fun z hz => hl z (List.mem_cons_of_mem _ hz))
          simp only [nlL, nl, cntL, dszL] at *
          omega
      have := this ks ih
      simp only [nl, nlL, cnt, dsz] at *
      split <;> split <;> split <;> omega
  exact key d
theorem open_valid {d : SDoc} (h : docV d = true) : layV (openO d) = true ∧ LP (msz d) 40 (openO d) ∧ (openO d).length ≤ 81 := by
  obtain ⟨h1, h2⟩ := (docV_iff d).1 h
  obtain ⟨k1, k2⟩ := open_keeps d 40 (Nat.le_refl _) h1
  have hn := nl_le d
  have hm : msz d ≤ 13 * dsz d := by
    have key : ∀ (d : SDoc) (m : Nat), wf d m = true → msz d ≤ 13 * dsz d := by
      intro d
      induction d using SDoc.ind with
      | h o n t ks ih =>
        intro m h
        obtain ⟨_, _, _, _, _, _, h2, h3⟩ := wf_node h
        have hk := wf_kids h
        have key : ∀ l : List SDoc, (∀ y, y ∈ l → msz y ≤ 13 * dsz y) → mszL l ≤ 13 * dszL l := by
          intro l
          induction l with
          | nil => intro _; simp [mszL, dszL]
          | cons y l ihl =>
            intro hl
            have h1 := hl y List.mem_cons_self
            have h2 := ihl (fun z hz => hl z (List.mem_cons_of_mem _ hz))
            simp only [mszL, dszL]
            omega
        have := key ks (fun y hy => ih y hy (m - 1) (hk y hy))
        have ht : t.size ≤ 12 := by
          by_cases c : o = 2
          · exact (tv_rows (h2 c)).2
          · rw [h3 c]; show 0 ≤ 12; omega
        simp only [msz, dsz]
        omega
    exact key d 40 h1
  exact ⟨k1.lay (by omega) (by omega) (by omega), k1, by omega⟩
theorem specOpen_ev : ∀ (d : SDoc) (deep : Nat), deep ≤ 40 → wf d deep = true → msz d ≤ 100000 → dsz d ≤ 100000 → Ev (fun k => spec_l2Open.f k d.f0 d.f1 d.f2 d.f3) (openO d) := by
  intro d
  induction d using SDoc.ind with
  | h o n t ks ih =>
    intro deep hdp hw hm hs
    obtain ⟨hd0, hn0, hn9, hc⟩ := wf_cases hw
    have keeps := fun (y : SDoc) (hy : wf y (deep - 1) = true) => open_keeps y (deep - 1) (by omega) hy
    have J : ∀ (w : Bool) (R : List SRow), o ≠ 2 → w = (decide (o = 3) || (decide (o = 4) || decide (o = 5))) → Ev (fun k => spec_l2Open.j0 k o w o n t ks) R → Ev (fun k => spec_l2Open.f k o n t ks) R := by
      intro w R h2 hw h
      refine Ev.step (fun k => by rw [spec_l2Open.f]) ?_
      simp only [if_neg h2]
      refine Ev.iff (fun c => ?_) (fun c => Ev.iff (fun c' => ?_) (fun c' => ?_))
      · rw [show (o == 3) = w by rw [hw, decide_eq_true (show o = 3 from c), show o = 3 from c]; rfl]
        exact h
      · rw [show (o == 4) = w by rw [hw, decide_eq_false (show ¬ o = 3 from c), decide_eq_true (show o = 4 from c'), show o = 4 from c']; rfl]
        exact h
      · rw [show (o == 5) = w by rw [hw, decide_eq_false (show ¬ o = 3 from c), decide_eq_false (show ¬ o = 4 from c')]; rfl]
        exact h
    rcases hc with ⟨ho, rfl, rfl, rfl⟩ | ⟨rfl, rfl, ht, rfl⟩ | ⟨ho, rfl, y, rfl, hy⟩ | ⟨rfl, rfl, rfl, x, y, rfl, hx, hy⟩
    · rcases ho with rfl | rfl | rfl | rfl
      · refine J false _ (by omega) rfl (Ev.step (fun k => by rw [spec_l2Open.j0]) ?_)
        simp only [Bool.false_eq_true, if_false, if_neg (show ¬ (1 : Int) = 6 by omega), if_neg (show ¬ (1 : Int) = 7 by omega), if_neg (show ¬ (1 : Int) = 8 by omega)]
        exact Ev.now _
      · refine J true _ (by omega) rfl (Ev.step (fun k => by rw [spec_l2Open.j0]) ?_)
        simp only [if_true]
        exact Ev.now _
      · refine J true _ (by omega) rfl (Ev.step (fun k => by rw [spec_l2Open.j0]) ?_)
        simp only [if_true]
        exact Ev.now _
      · refine J true _ (by omega) rfl (Ev.step (fun k => by rw [spec_l2Open.j0]) ?_)
        simp only [if_true]
        exact Ev.now _
    · refine Ev.step (fun k => by rw [spec_l2Open.f]) ?_
      simp only [if_true]
      exact Ev.now _
    · simp only [msz, mszL, dsz, dszL] at hm hs
      obtain ⟨k1, k2⟩ := keeps y hy
      have hnl := nl_le y
      have hev := ih y (by simp) (deep - 1) (by omega) hy (by omega) (by omega)
      rcases ho with rfl | ⟨rfl, rfl⟩
      · refine J false _ (by omega) rfl (Ev.step (fun k => by rw [spec_l2Open.j0]) ?_)
        have e : openO ⟨6, n, ⟨#[]⟩, [y]⟩ = nestO n (openO y) := by simp [openO, openN, openL]
        rw [e]
        simp only [Bool.false_eq_true, if_false, if_true, if_pos (show (0 : Int) < (([y] : List SDoc).length : Int) by simp), op_rd0]
        exact Ev.bind hev (Ev.bind (specNest_ev n _ k1.ne (by omega)) (Ev.now _))
      · refine J false _ (by omega) rfl (Ev.step (fun k => by rw [spec_l2Open.j0]) ?_)
        have e : openO ⟨8, 0, ⟨#[]⟩, [y]⟩ = openO y := by simp [openO, openN, openL]
        rw [e]
        simp only [Bool.false_eq_true, if_false, if_neg (show ¬ (8 : Int) = 6 by omega), if_neg (show ¬ (8 : Int) = 7 by omega), if_true, if_pos (show (0 : Int) < (([y] : List SDoc).length : Int) by simp), op_rd0]
        exact Ev.bind hev (Ev.now _)
    · simp only [msz, mszL, dsz, dszL] at hm hs
      obtain ⟨k1, k2⟩ := keeps x hx
      obtain ⟨j1, j2⟩ := keeps y hy
      have hnx := nl_le x
      have hny := nl_le y
      have hx' := ih x (by simp) (deep - 1) (by omega) hx (by omega) (by omega)
      have hy' := ih y (by simp) (deep - 1) (by omega) hy (by omega) (by omega)
      refine J false _ (by omega) rfl (Ev.step (fun k => by rw [spec_l2Open.j0]) ?_)
      have e : openO ⟨7, 0, ⟨#[]⟩, [x, y]⟩ = catO (openO x) (openO y) := by simp [openO, openN, openL]
      rw [e]
      simp only [Bool.false_eq_true, if_false, if_neg (show ¬ (7 : Int) = 6 by omega), if_true, if_pos (show (0 : Int) < (([x, y] : List SDoc).length : Int) by simp), if_pos (show (1 : Int) < (([x, y] : List SDoc).length : Int) by simp), op_rd0, op_rd1]
      refine Ev.bind hx' (Ev.bind hy' ?_)
      rw [specCat_of k1 j1 (by omega) (by omega)]
      exact Ev.now _
end Go.Proofs.Ytdhdfmmefghijab.Pure
namespace Go.Proofs.Ytdhdfmmefghijab.P
open Go.RowKit Go.Proofs.YtdhdfmmefghijabW.PrintWords Go.Proofs.YtdhdfmmefghijabW.PrintLast Go.Proofs.YtdhdfmmefghijabW.PrintMore
attribute [local go_sem] max2_int min2_int max_two min_two max_three min_three max_four min_four
set_option linter.unusedVariables false
set_option linter.unusedSimpArgs false
def spec_DrawNestLayout.f (k:Nat) (l0:List Int):Option (Int × (List (SRow))):=(spec_l15Open.f l0).bind fun bt581=>((spec_l15Rd_num.f k bt581.1 bt581.2 (([2,1,4,0,(-1),200]:List Int))).bind fun bt587=>((spec_l2Draw.f k bt581.1 bt587.2).bind fun bt589=>(some (bt587.1,bt589.1))))
end Go.Proofs.Ytdhdfmmefghijab.P
namespace Go.Proofs.Ytdhdfmmefghijab.Pure
open Go.RowKit Go.Proofs.Ytdhdfmmefghijab.P Go.Proofs.YtdhdfmmefghijabW.PrintWords Go.Proofs.YtdhdfmmefghijabW.PrintLast Go.Proofs.YtdhdfmmefghijabW.PrintMore
set_option linter.unusedVariables false
set_option linter.unusedSimpArgs false
def Rows (l : List SRow) : Prop := l.length ≤ 1048576 ∧ ∀ y ∈ l, y.f1.size ≤ 1048576
theorem rows_set {l : List SRow} {i : Nat} {r : SRow} (h : ∀ y ∈ l, y.f1.size ≤ 1048576) (hr : r.f1.size ≤ 1048576) : ∀ y ∈ l.set i r, y.f1.size ≤ 1048576 := by
  intro y hy
  rcases List.mem_or_eq_of_mem_set hy with h' | rfl
  · exact h y h'
  · exact hr
theorem l2Draw_ev {b : List Int} (hb : Code b) (p : Int) (hp0 : 0 ≤ p) (hp : p ≤ 90000000) : ∃ (l : List SRow) (q : Int), Ev (fun k => spec_l2Draw.f k b p) (l, q) ∧ Rows l ∧ p ≤ q ∧ q ≤ p + 30000 := by
  obtain ⟨d, q, g0, hv, hq0, hq1⟩ := draw_ev hb p hp0 (by omega)
  obtain ⟨o1, o2, o3⟩ := open_valid hv.1
  have hm := hv.2
  obtain ⟨hw, hdz⟩ := (docV_iff d).1 hv.1
  have hsz := o2.sizes
  have hR : ∀ y ∈ openO d, y.f1.size ≤ 1048576 := fun y hy => by have := hsz y hy; omega
  have hne := o2.ne
  obtain ⟨i, g1, hi0, hi⟩ := pick_ev hb q ((openO d).length : Int) (by omega) (by omega)
  have hi := hi (by omega)
  have hil : i.toNat < (openO d).length := by omega
  obtain ⟨r, g2, _, _⟩ := pick_ev hb (q + 1) 16 (by omega) (by omega)
  have hrd : rd_TRow (openO d) i = (openO d)[i.toNat] := by
    unfold rd_TRow
    rw [List.getD_eq_getElem?_getD, List.getElem?_eq_getElem hil]
    rfl
  have hri := hR _ (List.getElem_mem hil)
  have S : ∀ R, Ev (fun k => if r = 0 then ((spec_l15Rd_num.f k b (q + 1 + 1) (([(-1), 401, 3] : List Int))).bind fun bt405 => (if 0 ≤ i then (if i < ((openO d).length : Int) then (some (((openO d).set (i : Int).toNat (⟨bt405.1, (rd_TRow (openO d) i).f1⟩ : SRow)), bt405.2)) else (none)) else (none))) else (if r = 1 then ((spec_l15Rd_of.f k b (q + 1 + 1) (([(⟨#[65]⟩ : ByteArray), (⟨#[97, 32, 98]⟩ : ByteArray), (⟨#[120, 10]⟩ : ByteArray), (⟨#[]⟩ : ByteArray)] : List ByteArray))).bind fun bt411 => (if 0 ≤ i then (if i < ((openO d).length : Int) then (some (((openO d).set (i : Int).toNat (⟨(rd_TRow (openO d) i).f0, bt411.1⟩ : SRow)), bt411.2)) else (none)) else (none))) else (if r = 2 then (if 0 ≤ ((openO d).length : Int) then (some (((openO d).take (0 : Int).toNat), (q + 1 + 1))) else (none)) else (some (openO d, (q + 1 + 1)))))) R → Ev (fun k => spec_l2Draw.f k b p) R := by
    intro R h
    exact Ev.congr (fun k => by rw [spec_l2Draw.f]) (Ev.bind g0 (Ev.bind (specOpen_ev d 40 (Nat.le_refl _) hw (by omega) (by omega)) (Ev.bind g1 (Ev.bind g2 h))))
  by_cases c0 : r = 0
  · obtain ⟨s, _, g3⟩ := num_ev hb (q + 1 + 1) [(-1), 401, 3] (by simp) (by omega) (by omega)
    refine ⟨(openO d).set i.toNat ⟨s, (openO d)[i.toNat].f1⟩, q + 1 + 1 + 1, S _ ?_, ⟨by rw [List.length_set]; omega, rows_set hR hri⟩, by omega, by omega⟩
    simp only [if_pos c0]
    refine Ev.bind g3 ?_
    simp only [if_pos hi0, if_pos hi, hrd]
    exact Ev.now _
  by_cases c1 : r = 1
  · obtain ⟨s, hs, g3⟩ := of_ev hb (q + 1 + 1) [(⟨#[65]⟩ : ByteArray), (⟨#[97, 32, 98]⟩ : ByteArray), (⟨#[120, 10]⟩ : ByteArray), (⟨#[]⟩ : ByteArray)] (by simp) (by omega) (by omega)
    have hz : s.size ≤ 1048576 := by
      have : ∀ s ∈ [(⟨#[65]⟩ : ByteArray), (⟨#[97, 32, 98]⟩ : ByteArray), (⟨#[120, 10]⟩ : ByteArray), (⟨#[]⟩ : ByteArray)], s.size ≤ 1048576 := by decide +kernel
      exact this s hs
    refine ⟨(openO d).set i.toNat ⟨(openO d)[i.toNat].f0, s⟩, q + 1 + 1 + 1, S _ ?_, ⟨by rw [List.length_set]; omega, rows_set hR hz⟩, by omega, by omega⟩
    simp only [if_neg c0, if_pos c1]
    refine Ev.bind g3 ?_
    simp only [if_pos hi0, if_pos hi, hrd]
    exact Ev.now _
  by_cases c2 : r = 2
  · refine ⟨[], q + 1 + 1, S _ ?_, ⟨by simp, fun y hy => by cases hy⟩, by omega, by omega⟩
    simp only [if_neg c0, if_neg c1, if_pos c2, if_pos (show (0 : Int) ≤ ((openO d).length : Int) by omega)]
    exact Ev.now _
  · refine ⟨openO d, q + 1 + 1, S _ ?_, ⟨by omega, hR⟩, by omega, by omega⟩
    simp only [if_neg c0, if_neg c1, if_neg c2]
    exact Ev.now _
theorem drawCat_ev (l : List Int) (hl : l.length ≤ maxLen) (h : ∀ x ∈ l, (Lit.int .u8 x).wf = true) : ∃ a c : List SRow, Ev (fun k => spec_DrawCatLayouts.f k l) (a, c) ∧ Rows a ∧ Rows c := by
  obtain ⟨b, hb, e⟩ := open_ev l hl h
  obtain ⟨a, q, h1, h2, h3, h4⟩ := l2Draw_ev hb 0 (by omega) (by omega)
  obtain ⟨c, q', i1, i2, i3, i4⟩ := l2Draw_ev hb q (by omega) (by omega)
  refine ⟨a, c, Ev.congr (fun k => by rw [spec_DrawCatLayouts.f, e]) ?_, h2, i2⟩
  simp only [Option.bind_some]
  exact Ev.bind h1 (Ev.bind i1 (Ev.now _))
end Go.Proofs.Ytdhdfmmefghijab.Pure
namespace Go.Proofs.Ytdhdfmmefghijab.Pure
open Go.RowKit Go.Proofs.Ytdhdfmmefghijab.P Go.Proofs.YtdhdfmmefghijabW.PrintWords Go.Proofs.YtdhdfmmefghijabW.PrintLast Go.Proofs.YtdhdfmmefghijabW.PrintMore
set_option linter.unusedVariables false
set_option linter.unusedSimpArgs false
theorem rsame_eq : ∀ {a b : List SRow}, a.length = b.length → (rsame a b = true ↔ a = b)
  | [], [], _ => by simp [rsame]
  | [], _ :: _, h => by simp at h
  | _ :: _, [], h => by simp at h
  | r :: a, s :: b, h => by
    have ih := rsame_eq (a := a) (b := b) (by simpa using h)
    rw [rsame, Bool.and_eq_true, ih, rowEq, Bool.and_eq_true]
    constructor
    · rintro ⟨⟨h1, h2⟩, rfl⟩
      have e1 : r.f0 = s.f0 := by simpa using h1
      have e2 : r.f1 = s.f1 := toList_inj.1 (by simpa using h2)
      cases r; cases s
      simp only at e1 e2
      subst e1 e2
      rfl
    · intro h
      injection h with h1 h2
      subst h1 h2
      exact ⟨⟨by simp, by simp⟩, rfl⟩
theorem laySame_iff {a b : List SRow} : laySame a b = true ↔ a = b := by
  rw [laySame, Bool.and_eq_true, decide_eq_true_eq]
  constructor
  · rintro ⟨h1, h2⟩; exact (rsame_eq h1).1 h2
  · rintro rfl; exact ⟨rfl, (rsame_eq rfl).2 rfl⟩
theorem laySame_refl (a : List SRow) : laySame a a = true := laySame_iff.2 rfl
theorem same_ev {a : List SRow} (h : Rows a) : Ev (fun k => impl_LayoutSame.f k a a) true := by
  have := implLay_ev a a (by have := h.1; omega)
  rwa [laySame_refl] at this
theorem rows_nil : Rows [] := ⟨by simp, fun y hy => by cases hy⟩
theorem layV_rows {l : List SRow} (h : layV l = true) : Rows l := by
  obtain ⟨h1, h2, h3⟩ := layV_ok h
  refine ⟨by omega, fun y hy => ?_⟩
  have h4 := h3 y hy
  simp only [rowOk, rowT, Bool.and_eq_true, decide_eq_true_eq] at h4
  omega
theorem catL_rows (a b : List SRow) : Rows (catL a b).1 := by
  unfold catL
  split
  · split
    · rename_i h; exact layV_rows h
    · exact rows_nil
  · exact rows_nil
theorem catL_true {a b : List SRow} (h : (catL a b).2 = true) : layV a = true ∧ layV b = true ∧ layV (catO a b) = true ∧ catL a b = (catO a b, true) := by
  unfold catL at h ⊢
  split at h
  · rename_i h1
    rw [Bool.and_eq_true] at h1
    split at h
    · rename_i h2
      exact ⟨h1.1, h1.2, h2, by rw [if_pos (by rw [h1.1, h1.2]; rfl), if_pos h2]⟩
    · cases h
  · cases h
theorem catI_ev {a b : List SRow} (ha : Rows a) (hb : Rows b) : Ev (fun k => impl_CatLayouts.f k a b) (catL a b) := implCatL_ev a b ha.1 hb.1 ha.2 hb.2
theorem catS_ev {a b : List SRow} (ha : Rows a) (hb : Rows b) : Ev (fun k => spec_CatLayouts.f k a b) (catL a b) := specCatL_ev a b ha.1 hb.1 ha.2 hb.2
theorem big_or {l : List Int} {f : Nat → Option Bool} (h : Ev f true) : Ev (fun k => if (l.length : Int) > 1048576 then (some true) else f k) true := Ev.iff (fun _ => Ev.now _) (fun _ => h)
end Go.Proofs.Ytdhdfmmefghijab.Pure
namespace Go.Proofs.Ytdhdfmmefghijab.Pure
open Go.RowKit Go.Proofs.Ytdhdfmmefghijab.P Go.Proofs.YtdhdfmmefghijabW.PrintWords Go.Proofs.YtdhdfmmefghijabW.PrintLast Go.Proofs.YtdhdfmmefghijabW.PrintMore
set_option linter.unusedVariables false
set_option linter.unusedSimpArgs false
theorem cat_ifs (P T : Nat) : (0 : Int) ≤ (P : Int) ∧ (P : Int) < (P : Int) + (T : Int) + 1 ∧ (P : Int) < (P : Int) + 1 ∧ (0 : Int) < (T : Int) + 1 ∧ (P : Int) ≤ (P : Int) + (T : Int) + 1 ∧ (P : Int) ≤ (P : Int) + 1 ∧ (0 : Int) ≤ (P : Int) + 1 ∧ (P : Int) + 1 ≤ (P : Int) + (T : Int) + 1 ∧ (1 : Int) ≤ (T : Int) + 1 := by omega
theorem cat_szs (a b : Nat) (h : a ≤ 1048576) (h' : b ≤ 1048576) : a + b ≤ 9223372036854775807 := by omega
theorem cat_w1 (P : Nat) (h : P ≤ 199) : wrap64 ((P : Int) + 1 - 1) = (P : Int) := by rw [w64 (by omega) (by omega)]; omega
theorem cat_w2 (P T : Nat) (h : P ≤ 199) (h' : T ≤ 199) : wrap64 (wrap64 ((P : Int) + 1 + ((T : Int) + 1)) - 1) = (P : Int) + (T : Int) + 1 := by
  have h1 : wrap64 ((P : Int) + 1 + ((T : Int) + 1)) = (P : Int) + 1 + ((T : Int) + 1) := w64 (by omega) (by omega)
  rw [h1, w64 (by omega) (by omega)]
  omega
theorem cat_w3 (P : Nat) : ((P : Int) + 1).toNat = P + 1 := by omega
theorem FnCatLayouts : laws_FnCatLayouts.Pure := by
  intro l hl _ hw
  refine Ev.rounds (g := fun k => laws_FnCatLayouts.f k l) (Ev.congr (fun k => by rw [laws_FnCatLayouts.f]) (big_or ?_))
  obtain ⟨a, b, hd, ha, hb⟩ := drawCat_ev l hl hw
  refine Ev.bind hd (Ev.bind (catI_ev ha hb) (Ev.bind (catS_ev ha hb) (Ev.bind (same_ev (catL_rows a b)) ?_)))
  simp only [if_true, bne_self_eq_false, Bool.false_eq_true, if_false]
  refine Ev.step (fun k => by rw [laws_FnCatLayouts.j0]) ?_
  cases hx : (catL a b).2 with
  | false =>
    simp only [Bool.not_false, if_true]
    refine Ev.bind (same_ev (catL_rows a b)) ?_
    simp only [if_true, beq_self_eq_true]
    exact Ev.now _
  | true =>
    obtain ⟨x1, x2, x3, x4⟩ := catL_true hx
    simp only [Bool.not_true, Bool.false_eq_true, if_false]
    rw [x4]
    have hR := layV_rows x3
    refine Ev.bind (implLV_ev (catO a b) (by have := hR.1; omega) (fun y hy => by have := hR.2 y hy; omega)) ?_
    simp only [if_pos x3]
    obtain ⟨pre, r, s, t, e1, e2, e3, hp, ht⟩ := cat_split x1 x2
    have hr := ha.2 r (by rw [e1]; simp)
    have hs := hb.2 s (by rw [e2]; simp)
    have hpre : Rows pre := ⟨by omega, fun y hy => ha.2 y (by rw [e1]; simp [hy])⟩
    have htl : Rows t := ⟨by omega, fun y hy => hb.2 y (by rw [e2]; simp [hy])⟩
    rw [e3]
    clear hd ha hb hx x1 x2 x3 x4 hR e3
    subst e1 e2
    have z1 : (((pre ++ [r]).length : Nat) : Int) = (pre.length : Int) + 1 := by simp
    have z2 : (((s :: t).length : Nat) : Int) = (t.length : Int) + 1 := by simp
    have z3 : (((pre ++ ⟨r.f0, r.f1 ++ s.f1⟩ :: t).length : Nat) : Int) = (pre.length : Int) + (t.length : Int) + 1 := by simp only [List.length_append, List.length_cons]; rw [Int.natCast_add, Int.natCast_add, Int.add_assoc]; rfl
    have w1 := cat_w1 pre.length hp
    have w2 := cat_w2 pre.length t.length hp ht
    obtain ⟨q1, q2, q3, q4, q5, q6, q7, q8, q9⟩ := cat_ifs pre.length t.length
    have qz := cat_szs _ _ hr hs
    have d1 : rd_TRow (pre ++ [r]) (pre.length : Int) = r := rdR pre [] r
    have d2 : rd_TRow (s :: t) 0 = s := rdR [] t s
    have d3 : rd_TRow (pre ++ ⟨r.f0, r.f1 ++ s.f1⟩ :: t) (pre.length : Int) = ⟨r.f0, r.f1 ++ s.f1⟩ := rdR pre t _
    have k1 : (pre ++ ⟨r.f0, r.f1 ++ s.f1⟩ :: t).take pre.length = pre := by simp
    have k2 : (pre ++ [r]).take pre.length = pre := by simp
    have k3 : (pre ++ ⟨r.f0, r.f1 ++ s.f1⟩ :: t).drop ((pre.length : Int) + 1).toNat = t := by
      rw [cat_w3, List.drop_append]
      simp
    have k4 : (s :: t).drop 1 = t := rfl
    simp only [z1, z2, z3, w1, w2, d1, d2, d3, Int.toNat_natCast, k1, k2, k3, k4, if_true]
    simp only [if_pos q1, if_pos q2, if_pos q3, if_pos q4, if_pos qz, if_pos q5, if_pos q6]
    refine Ev.bind (same_ev hpre) ?_
    simp only [if_true, if_pos q7, if_pos q8, if_pos q9]
    exact Ev.bind (same_ev htl) (Ev.now _)
end Go.Proofs.Ytdhdfmmefghijab.Pure
namespace Go.Proofs.Ytdhdfmmefghijab
theorem closed3:laidOutB Try.prog=true∧mapsRowed Try.prog=true∧Try.prog.plainKeys=true:=Go.ClosedOfChecked.closed_of_checked Try.checked (by kernel_rfl) (by kernel_rfl) (by kernel_rfl)
def edgesL:List (List Nat):=[[],[],[1],[15,16,17,18,16,16,19,18,18],[15,15,16,17,18,18,16,16,16,18],[15,16,17,18,18,19,18,18],[20,21,22,18,18,21,21,18],[20,21,22,18,18,21,18,18],[15,16,17,18,18,21,21,21,16,18],[23,24,25,24,18,18,21,18],[23,24,25,18,18,26,26,26,19,24,24,16,18],[27,18,28,18,18,19,29,30,30,19,19],[31,32,33,19,33,30,32],[31,32,34,30,33,35,36,19,33,35,36],[37,38,39,26],[40,41,41],[19,19,42,19],[29,29,43,29],[44],[45],[40,46,41],[19,47,19],[29,48,29],[49],[50,51],[52,53],[26],[40,41,54,54,41],[],[55],[19,56,57],[40,41,46],[19,58],[29,59],[19,58],[29,60,60],[29,61],[62],[50,63],[52,64],[],[65,53,54,54,46,66],[67],[],[],[68],[54],[67],[],[40,65,54,69,69],[70],[51,47,51,51,42,51],[71,72],[53,48,53,53,43,53],[],[73],[74],[75,76,76,76,77],[],[60],[78],[60],[40,54,65,69,69,65,79],[63,26],[64,64,64,64,80],[54,54,81,46,82,52,72,82],[54],[],[83],[84,54,54,69,54,46,46,66],[68,70],[85,73,71],[72],[],[86,87,87,87,87,87,75,76,88,88,88,77,76,77],[89,90],[89],[],[],[65,64,81],[80],[91,52],[54,92,54,82,46,82,82,54,82,82,93,93,82,82,93,93,82,82,93],[94],[84],[],[95,96],[97],[],[98],[99],[100,101,101,101],[66],[],[102],[],[],[],[],[],[],[91],[],[],[],[],[],[],[],[],[],[],[],[],[],[],[],[],[],[],[]]
theorem edges:Try.prog.funcs.toList.map Try.prog.leadsTo=edgesL:=by kernel_rfl
def clo (E:List (List Nat)):Nat→List Nat→List Nat→List Nat
 | 0,_,seen=>seen.reverse
 | _,[],seen=>seen.reverse
 | n+1,f :: todo,seen=>if seen.contains f then clo E n todo seen else clo E n ((E[f]?).getD []++todo) (f :: seen)
set_option maxRecDepth 100000 in
theorem elim_edges (f:Nat):(Try.prog.funcs[f]?).elim [] Try.prog.leadsTo=(edgesL[f]?).getD []:=by
 rw [← edges,List.getElem?_map,Array.getElem?_toList]
 cases Try.prog.funcs[f]? <;> rfl
theorem closureVia_clo:∀ (n:Nat) (todo seen:List Nat),Try.prog.closureVia n todo seen=clo edgesL n todo seen
 | 0,_,_=>by simp [Program.closureVia,clo]
 | n+1,[],_=>by simp [Program.closureVia,clo]
 | n+1,f :: todo,seen=>by
  rw [Program.closureVia,clo,elim_edges,closureVia_clo n,closureVia_clo n]
def fuelE:Nat:=1+(edgesL.map fun l=>l.length+1).sum
set_option maxRecDepth 100000 in
theorem fuel_eq:1+(Try.prog.funcs.toList.map fun g=>(Try.prog.leadsTo g).length+1).sum=fuelE:=by
 rw [fuelE,← edges,List.map_map]
 rfl
theorem closure_clo (f:Nat):Try.prog.closure f=clo edgesL fuelE [f] []:=by
 rw [Program.closure,fuel_eq,closureVia_clo]
noncomputable def unfB (fn:Func):Bool:=match fn.body with|some c=>c.unfollowed|none=>entryCalls fn
noncomputable def unfL:List Bool:=Try.prog.funcs.toList.map unfB
set_option maxRecDepth 100000 in
theorem any_unf (f:Nat):((Try.prog.funcs[f]?).any fun fn=>match fn.body with|some c=>c.unfollowed|none=>entryCalls fn)=(unfL[f]?).getD false:=by
 rw [unfL,List.getElem?_map,Array.getElem?_toList]
 cases Try.prog.funcs[f]? <;> rfl
set_option maxRecDepth 100000 in
theorem unfollowed_of {f:Nat} {L:List Nat} (h:clo edgesL fuelE [f] []=L):Try.prog.unfollowed f=L.any fun g=>(unfL[g]?).getD false:=by
 rw [Program.unfollowed,closure_clo,h]
 congr 1
 funext g
 exact any_unf g
set_option maxRecDepth 100000 in
theorem recurses_of {f:Nat} {L:List Nat} (h:clo edgesL fuelE [f] []=L):Try.prog.recurses f=((L.any fun g=>(unfL[g]?).getD false) || L.any fun g=>((edgesL[g]?).getD []).any fun h=>(clo edgesL fuelE [h] []).contains g):=by
 rw [Program.recurses,unfollowed_of h,closure_clo,h]
 congr 1
 congr 1
 funext g
 rw [elim_edges]
 congr 1
 funext h
 rw [closure_clo]
def signs:List Char:=([104,97,114,110,101,115,115,32,55,54,56,99,97,49,97,102,102,49,51,102,102,53,98,56,101,49,51,49,48,100,52,48,54,57,51,99,52,57,49,51,56,51,50,50,102,48,48,49,55,54,100,98,100,48,101,52,101,50,48,97,52,51,54,97,98,55,99,102,56,57,98,55,32,99,117,116,32,97,116,32,108,111,111,112,46,101,120,97,109,112,108,101,47,100,111,99,97,108,103,101,98,114,97,47,108,97,119,115,46,70,110,67,97,116,69,109,112,116,121,32,108,111,111,112,46,101,120,97,109,112,108,101,47,100,111,99,97,108,103,101,98,114,97,47,108,97,119,115,46,70,110,67,97,116,71,114,111,117,112,115,32,108,111,111,112,46,101,120,97,109,112,108,101,47,100,111,99,97,108,103,101,98,114,97,47,108,97,119,115,46,70,110,67,97,116,76,97,121,111,117,116,115,32,108,111,111,112,46,101,120,97,109,112,108,101,47,100,111,99,97,108,103,101,98,114,97,47,108,97,119,115,46,70,110,78,101,115,116,76,97,121,111,117,116,32,108,111,111,112,46,101,120,97,109,112,108,101,47,100,111,99,97,108,103,101,98,114,97,47,108,97,119,115,46,70,110,78,101,115,116,90,101,114,111,32,108,111,111,112,46,101,120,97,109,112,108,101,47,100,111,99,97,108,103,101,98,114,97,47,108,97,119,115,46,70,110,78,101,115,116,67,97,116,32,108,111,111,112,46,101,120,97,109,112,108,101,47,100,111,99,97,108,103,101,98,114,97,47,108,97,119,115,46,70,110,79,112,101,110,78,101,115,116,32,108,111,111,112,46,101,120,97,109,112,108,101,47,100,111,99,97,108,103,101,98,114,97,47,108,97,119,115,46,70,110,79,112,101,110,76,97,121,111,117,116,32,108,111,111,112,46,101,120,97,109,112,108,101,47,100,111,99,97,108,103,101,98,114,97,47,108,97,119,115,46,70,110,76,97,121,111,117,116,83,97,109,101,32,108,111,111,112,46,101,120,97,109,112,108,101,47,100,111,99,97,108,103,101,98,114,97,47,108,97,119,115,46,70,110,79,118,101,114,102,108,111,119,83,117,109,32,108,111,111,112,46,101,120,97,109,112,108,101,47,100,111,99,97,108,103,101,98,114,97,47,108,97,119,115,46,70,110,76,97,121,111,117,116,87,105,100,116,104,32,108,111,111,112,46,101,120,97,109,112,108,101,47,100,111,99,97,108,103,101,98,114,97,47,108,97,119,115,46,70,110,67,111,117,110,116,71,114,111,117,112,115]:List Nat).map Char.ofNat
def wordsL:List (List Char):=([[104,97,114,110,101,115,115],[55,54,56,99,97,49,97,102,102,49,51,102,102,53,98,56,101,49,51,49,48,100,52,48,54,57,51,99,52,57,49,51,56,51,50,50,102,48,48,49,55,54,100,98,100,48,101,52,101,50,48,97,52,51,54,97,98,55,99,102,56,57,98,55],[99,117,116],[97,116],[108,111,111,112,46,101,120,97,109,112,108,101,47,100,111,99,97,108,103,101,98,114,97,47,108,97,119,115,46,70,110,67,97,116,69,109,112,116,121],[108,111,111,112,46,101,120,97,109,112,108,101,47,100,111,99,97,108,103,101,98,114,97,47,108,97,119,115,46,70,110,67,97,116,71,114,111,117,112,115],[108,111,111,112,46,101,120,97,109,112,108,101,47,100,111,99,97,108,103,101,98,114,97,47,108,97,119,115,46,70,110,67,97,116,76,97,121,111,117,116,115],[108,111,111,112,46,101,120,97,109,112,108,101,47,100,111,99,97,108,103,101,98,114,97,47,108,97,119,115,46,70,110,78,101,115,116,76,97,121,111,117,116],[108,111,111,112,46,101,120,97,109,112,108,101,47,100,111,99,97,108,103,101,98,114,97,47,108,97,119,115,46,70,110,78,101,115,116,90,101,114,111],[108,111,111,112,46,101,120,97,109,112,108,101,47,100,111,99,97,108,103,101,98,114,97,47,108,97,119,115,46,70,110,78,101,115,116,67,97,116],[108,111,111,112,46,101,120,97,109,112,108,101,47,100,111,99,97,108,103,101,98,114,97,47,108,97,119,115,46,70,110,79,112,101,110,78,101,115,116],[108,111,111,112,46,101,120,97,109,112,108,101,47,100,111,99,97,108,103,101,98,114,97,47,108,97,119,115,46,70,110,79,112,101,110,76,97,121,111,117,116],[108,111,111,112,46,101,120,97,109,112,108,101,47,100,111,99,97,108,103,101,98,114,97,47,108,97,119,115,46,70,110,76,97,121,111,117,116,83,97,109,101],[108,111,111,112,46,101,120,97,109,112,108,101,47,100,111,99,97,108,103,101,98,114,97,47,108,97,119,115,46,70,110,79,118,101,114,102,108,111,119,83,117,109],[108,111,111,112,46,101,120,97,109,112,108,101,47,100,111,99,97,108,103,101,98,114,97,47,108,97,119,115,46,70,110,76,97,121,111,117,116,87,105,100,116,104],[108,111,111,112,46,101,120,97,109,112,108,101,47,100,111,99,97,108,103,101,98,114,97,47,108,97,119,115,46,70,110,67,111,117,110,116,71,114,111,117,112,115]]:List (List Nat)).map (List.map Char.ofNat)
theorem headI:Try.prog.initOrder=String.ofList signs:=by kernel_rfl
theorem headS:wordsSigns Try.prog.initOrder.toList=wordsL:=by
 rw [headI,String.toList_ofList]
 kernel_rfl
theorem headLifts_of {P : Program} {ws} (h : wordsSigns P.initOrder.toList = ws) : P.headLifts = if ((stripLifts liftWords (behindMainWord ws)).2.head? == some "cut".toList) = true then (stripLifts liftWords (behindMainWord ws)).1 else [] := by
 subst h;rfl
theorem headL:Try.prog.headLifts=[]:=(headLifts_of headS).trans (by kernel_rfl)
theorem liftsFinal_of {P : Program} {ws l} (h : wordsSigns P.initOrder.toList = ws) (hl : P.headLifts = l) : P.liftsFinal = (((behindMainWord ws).head? == some "carried".toList && (behindMainWord ws).take 3 != ["carried".toList, "gc".toList, "cut".toList]) || l.contains "finals") := by
 subst h;subst hl;rfl
theorem liftsF:Try.prog.liftsFinal=false:=(liftsFinal_of headS headL).trans (by kernel_rfl)
theorem mayEnter_of {P:Program} (h:wordsSigns P.initOrder.toList=wordsL) (h1:P.laysLater=false) (h2:P.bearsReflect=false):P.mayEnter=P.doorFits []:=by
 delta Program.mayEnter
 rw [h,h1,h2]
 kernel_rfl
theorem mayE:Try.prog.mayEnter=true:=(mayEnter_of headS (by kernel_rfl) (by kernel_rfl)).trans (by kernel_rfl)
theorem make_of {P:Program} (h:wordsSigns P.initOrder.toList=wordsL):P.make=some .cut:=by
 delta Program.make
 rw [h]
 kernel_rfl
theorem makeC:Try.prog.make=some .cut:=make_of headS
end Go.Proofs.Ytdhdfmmefghijab
