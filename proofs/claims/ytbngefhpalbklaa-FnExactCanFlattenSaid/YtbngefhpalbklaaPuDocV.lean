/- PLAIN LEMMAS: validity of documents. -/
import Derived.Test.YtbngefhpalbklaaPx0
import Derived.Test.YtbngefhpalbklaaPx14
import Derived.Test.YtbngefhpalbklaaPx5
import Derived.Test.YtbngefhpalbklaaPx3
import Derived.Test.YtbngefhpalbklaaPx7
import Derived.Test.YtbngefhpalbklaaPx6
import Derived.Test.YtbngefhpalbklaaPuText
import Derived.Test.YtbngefhpalbklaaPuCount
namespace Go.Proofs.Ytbngefhpalbklaa.Pure
open Go.RowKit Go.Proofs.Ytbngefhpalbklaa.P Go.Proofs.YtbngefhpalbklaaW.PrintWords Go.Proofs.YtbngefhpalbklaaW.PrintLast Go.Proofs.YtbngefhpalbklaaW.PrintMore
set_option linter.unusedVariables false
set_option linter.unusedSimpArgs false
theorem toList_data (bs : ByteArray) : bs.toList = bs.data.toList := by
  have key : ∀ (n i : Nat) (r : List UInt8), bs.size - i = n → ByteArray.toList.loop bs i r = r.reverse ++ bs.data.toList.drop i := by
    intro n
    induction n with
    | zero =>
      intro i r h
      rw [ByteArray.toList.loop]
      have : ¬ i < bs.size := by omega
      simp [this]
      omega
    | succ n ih =>
      intro i r h
      rw [ByteArray.toList.loop]
      have hi : i < bs.size := by omega
      simp only [hi, if_true]
      rw [ih (i+1) _ (by omega)]
      have h2 : i < bs.data.toList.length := by rw [Array.length_toList]; exact hi
      rw [List.drop_eq_getElem_cons h2]
      have h3 : i < bs.data.size := hi
      have : bs.get! i = bs.data.toList[i] := by
        simp [ByteArray.get!, Array.getElem!_eq_getD, Array.getD, hi]
      simp [this]
  unfold ByteArray.toList
  rw [key bs.size 0 [] (by omega)]
  simp
theorem toList_inj {a b : ByteArray} : a.toList = b.toList ↔ a = b := by
  rw [toList_data, toList_data]
  constructor
  · intro h
    obtain ⟨⟨a⟩⟩ := a
    obtain ⟨⟨b⟩⟩ := b
    simp at h
    subst h
    rfl
  · rintro rfl; rfl
theorem toList_nil {a : ByteArray} : a.toList = [] ↔ a.size = 0 := by
  rw [toList_data, size_data, List.length_eq_zero_iff]
/-- Is a node, by itself, as a document asks? -/
def nodeOk (o n : Int) (t : ByteArray) (len : Nat) : Bool :=
  decide (1 ≤ o) && (decide (o ≤ 8) && (decide ((len : Int) = docKids o) && (decide (0 ≤ n) && (decide (n ≤ 9) && (decide (n = 0 ∨ o = 6) && (if o = 2 then tv t else decide (t.size = 0)))))))
mutual
def wf : SDoc → Nat → Bool
  | ⟨o, n, t, ks⟩, deep => decide (deep ≠ 0) && (nodeOk o n t ks.length && wfL ks (deep - 1))
def wfL : List SDoc → Nat → Bool
  | [], _ => true
  | k :: ks, deep => wf k deep && wfL ks deep
end
def docV (d : SDoc) : Bool := wf d 40 && decide (dsz d ≤ 80)
theorem wfL_all : ∀ (ks : List SDoc) (deep : Nat), wfL ks deep = ks.all fun k => wf k deep
  | [], _ => rfl
  | k :: ks, deep => by rw [wfL, wfL_all ks deep, List.all_cons]
theorem dszL_cons (y : SDoc) (l : List SDoc) : dszL (y :: l) = dsz y + dszL l := rfl
theorem dsz_mk (o n : Int) (t : ByteArray) (ks : List SDoc) : dsz ⟨o, n, t, ks⟩ = 1 + dszL ks := rfl
theorem wfL_cons (y : SDoc) (l : List SDoc) (deep : Nat) : wfL (y :: l) deep = true ↔ wf y deep = true ∧ wfL l deep = true := by rw [wfL, Bool.and_eq_true]
theorem wf_mk (o n : Int) (t : ByteArray) (ks : List SDoc) (deep : Nat) : wf ⟨o, n, t, ks⟩ deep = true ↔ deep ≠ 0 ∧ nodeOk o n t ks.length = true ∧ wfL ks (deep - 1) = true := by rw [wf, Bool.and_eq_true, Bool.and_eq_true, decide_eq_true_eq]
theorem nodeOk_iff (o n : Int) (t : ByteArray) (len : Nat) : nodeOk o n t len = true ↔ 1 ≤ o ∧ o ≤ 8 ∧ (len : Int) = docKids o ∧ 0 ≤ n ∧ n ≤ 9 ∧ (n = 0 ∨ o = 6) ∧ (if o = 2 then tv t else decide (t.size = 0)) = true := by
  simp only [nodeOk, Bool.and_eq_true, decide_eq_true_eq]
theorem docV_iff (d : SDoc) : docV d = true ↔ wf d 40 = true ∧ dsz d ≤ 80 := by rw [docV, Bool.and_eq_true, decide_eq_true_eq]
/-! ### the program's -/
theorem implOk_loop (deep : Nat) (hdp : deep ≤ 40) (suf : List SDoc) : ∀ (pre : List SDoc) (left : Int),
    (∀ y, y ∈ suf → ∀ left : Int, 0 ≤ left → left ≤ 80 → ∃ b l', Ev (fun k => impl_docOk.f k y.f0 y.f1 y.f2 y.f3 (wrap64 ((deep : Int) - 1)) left) (b, l') ∧ (b = true ↔ wf y (deep - 1) = true ∧ (dsz y : Int) ≤ left) ∧ (b = true → l' = left - dsz y)) →
    0 ≤ left → left ≤ 80 → pre.length + suf.length ≤ 4611686018427387904 →
    ∃ b l', Ev (fun k => impl_docOk.l0 k (pre ++ suf) (pre.length : Int) (deep : Int) left) (b, l') ∧ (b = true ↔ wfL suf (deep - 1) = true ∧ (dszL suf : Int) ≤ left) ∧ (b = true → l' = left - dszL suf) := by
  induction suf with
  | nil =>
    intro pre left _ h0 h1 hm
    refine ⟨true, left, ?_, by simp [wfL, dszL, h0], fun _ => by simp [dszL]⟩
    refine Ev.step (fun k => by rw [impl_docOk.l0]) ?_
    simp only [List.append_nil, Int.lt_irrefl, if_false]
    exact Ev.now _
  | cons y suf ih =>
    intro pre left hy h0 h1 hm
    simp only [List.length_cons] at hm
    obtain ⟨b, l1, he, hb, hl⟩ := hy y List.mem_cons_self left h0 h1
    have c1 : (pre.length : Int) < ((pre ++ y :: suf).length : Int) := by simp; omega
    have c2 : (0 : Int) ≤ (pre.length : Int) := by omega
    have hp := dsz_pos y
    rw [dszL_cons, wfL_cons]
    cases b with
    | false =>
      have hnb : ¬ (wf y (deep - 1) = true ∧ (dsz y : Int) ≤ left) := fun h => by have := hb.2 h; cases this
      refine ⟨false, l1, ?_, ?_, fun h => by cases h⟩
      · refine Ev.step (fun k => by rw [impl_docOk.l0]) ?_
        simp only [if_pos c1, if_pos c2, rdD]
        refine Ev.bind he ?_
        simp only [Bool.false_eq_true, if_false]
        exact Ev.now _
      · refine ⟨fun h => (by cases h), fun h => absurd ⟨h.1.1, ?_⟩ hnb⟩
        have := h.2
        omega
    | true =>
      obtain ⟨hw, hle⟩ := hb.1 rfl
      obtain rfl := hl rfl
      obtain ⟨b2, l2, he2, hb2, hl2⟩ := ih (pre ++ [y]) (left - dsz y) (fun z hz => hy z (List.mem_cons_of_mem _ hz)) (by omega) (by omega) (by simp; omega)
      refine ⟨b2, l2, ?_, ?_, fun h => ?_⟩
      · refine Ev.step (fun k => by rw [impl_docOk.l0]) ?_
        simp only [if_pos c1, if_pos c2, rdD]
        refine Ev.bind he ?_
        simp only [if_true]
        rw [w64 (by omega) (by omega)]
        rw [List.append_assoc, show ((pre ++ [y]).length : Int) = (pre.length : Int) + 1 by simp] at he2
        exact he2
      · rw [hb2]
        constructor
        · intro h; exact ⟨⟨hw, h.1⟩, by have := h.2; omega⟩
        · intro h; exact ⟨h.1.2, by have := h.2; omega⟩
      · have := hl2 h
        omega
theorem implOk_ev : ∀ (d : SDoc), msz d ≤ 1099511627776 → ∀ (deep : Nat), deep ≤ 40 → ∀ (left : Int), 0 ≤ left → left ≤ 80 →
    ∃ b l', Ev (fun k => impl_docOk.f k d.f0 d.f1 d.f2 d.f3 (deep : Int) left) (b, l') ∧ (b = true ↔ wf d deep = true ∧ (dsz d : Int) ≤ left) ∧ (b = true → l' = left - dsz d) := by
  intro d
  induction d using SDoc.ind with
  | h o n t ks ih =>
    intro hd deep hdp left h0 h1
    simp only [msz] at hd
    have hkl := mszL_len ks
    have hwl : wrap64 (left - 1) = left - 1 := w64 (by omega) (by omega)
    rw [wf_mk, dsz_mk, nodeOk_iff]
    by_cases a1 : (deep : Int) = 0 ∨ wrap64 (left - 1) < 0 ∨ o < 1 ∨ 8 < o
    · refine ⟨false, wrap64 (left - 1), ?_, ⟨fun h => (by cases h), fun h => ?_⟩, fun h => by cases h⟩
      · refine Ev.step (fun k => by rw [impl_docOk.f]) ?_
        simp only [if_pos a1]
        exact Ev.now _
      · exfalso
        rw [hwl] at a1
        obtain ⟨⟨h1, ⟨h2, h3, _⟩, _⟩, h4⟩ := h
        omega
    · have hd0 : deep ≠ 0 := fun e => a1 (.inl (by omega))
      have hl0 : ¬ (left - 1 < 0) := fun e => a1 (.inr (.inl (by omega)))
      have ho1 : ¬ o < 1 := fun e => a1 (.inr (.inr (.inl e)))
      have ho8 : ¬ 8 < o := fun e => a1 (.inr (.inr (.inr e)))
      by_cases a2 : ¬ ((ks.length : Int) = docKids o) ∨ n < 0 ∨ 9 < n ∨ (0 < n ∧ ¬ (o = 6))
      · refine ⟨false, wrap64 (left - 1), ?_, ⟨fun h => (by cases h), fun h => ?_⟩, fun h => by cases h⟩
        · refine Ev.step (fun k => by rw [impl_docOk.f]) ?_
          simp only [if_neg a1, if_pos a2]
          exact Ev.now _
        · exfalso
          obtain ⟨⟨_, ⟨_, _, h3, h4, h5, h6, _⟩, _⟩, _⟩ := h
          rcases a2 with a | a | a | a
          · exact a h3
          · omega
          · omega
          · rcases h6 with h6 | h6
            · omega
            · exact a.2 h6
      · have b3 : (ks.length : Int) = docKids o := Decidable.not_not.1 (fun e => a2 (.inl e))
        have b4 : ¬ n < 0 := fun e => a2 (.inr (.inl e))
        have b5 : ¬ 9 < n := fun e => a2 (.inr (.inr (.inl e)))
        have b6 : n = 0 ∨ o = 6 := by
          by_cases hn : 0 < n
          · exact .inr (Decidable.not_not.1 (fun e => a2 (.inr (.inr (.inr ⟨hn, e⟩)))))
          · exact .inl (by omega)
        -- the loop
        obtain ⟨b, l2, he2, hb2, hl2⟩ := implOk_loop deep hdp ks [] (left - 1) (fun y hy left' h0' h1' => by
            have hym := mszL_mem hy
            obtain ⟨b', l', h, h', h''⟩ := ih y hy (by omega) (deep - 1) (by omega) left' h0' h1'
            refine ⟨b', l', ?_, h', h''⟩
            rw [w64 (by omega) (by omega), show ((deep : Int) - 1) = ((deep - 1 : Nat) : Int) by omega]
            exact h) (by omega) (by omega) (by simp; omega)
        have hloop : Ev (fun k => impl_docOk.l0 k ks 0 (deep : Int) (wrap64 (left - 1))) (b, l2) := by rw [hwl]; simpa using he2
        have good : ∀ x : Prop, x → ((b = true ↔ (deep ≠ 0 ∧ (1 ≤ o ∧ o ≤ 8 ∧ (ks.length : Int) = docKids o ∧ 0 ≤ n ∧ n ≤ 9 ∧ (n = 0 ∨ o = 6) ∧ x) ∧ wfL ks (deep - 1) = true) ∧ ((1 + dszL ks : Nat) : Int) ≤ left) ∧ (b = true → l2 = left - ((1 + dszL ks : Nat) : Int))) := by
          intro x hx
          refine ⟨?_, fun h => by have := hl2 h; omega⟩
          rw [hb2]
          constructor
          · intro h; exact ⟨⟨hd0, ⟨by omega, by omega, b3, by omega, by omega, b6, hx⟩, h.1⟩, by have := h.2; omega⟩
          · intro h; exact ⟨h.1.2.2, by have := h.2; omega⟩
        have bad : ∀ x : Prop, ¬ x → (((false : Bool) = true ↔ (deep ≠ 0 ∧ (1 ≤ o ∧ o ≤ 8 ∧ (ks.length : Int) = docKids o ∧ 0 ≤ n ∧ n ≤ 9 ∧ (n = 0 ∨ o = 6) ∧ x) ∧ wfL ks (deep - 1) = true) ∧ ((1 + dszL ks : Nat) : Int) ≤ left) ∧ ((false : Bool) = true → wrap64 (left - 1) = left - ((1 + dszL ks : Nat) : Int))) := by
          intro x hx
          exact ⟨⟨fun h => (by cases h), fun h => absurd h.1.2.1.2.2.2.2.2.2 hx⟩, fun h => by cases h⟩
        by_cases e9 : o = 2
        · have hT := implText_ev t (by omega)
          rw [if_pos e9]
          cases htv : tv t with
          | false =>
            refine ⟨false, wrap64 (left - 1), ?_, bad _ (by simp)⟩
            refine Ev.step (fun k => by rw [impl_docOk.f]) ?_
            simp only [if_neg a1, if_neg a2, if_pos e9]
            refine Ev.bind hT ?_
            simp only [htv, Bool.false_eq_true, if_false]
            exact Ev.now _
          | true =>
            refine ⟨b, l2, ?_, good _ rfl⟩
            refine Ev.step (fun k => by rw [impl_docOk.f]) ?_
            simp only [if_neg a1, if_neg a2, if_pos e9]
            refine Ev.bind hT ?_
            simp only [htv, if_true]
            exact hloop
        · rw [if_neg e9, decide_eq_true_eq]
          by_cases e10 : t.toList = []
          · have hz := toList_nil.1 e10
            refine ⟨b, l2, ?_, good _ hz⟩
            refine Ev.step (fun k => by rw [impl_docOk.f]) ?_
            simp only [if_neg a1, if_neg a2, if_neg e9, if_pos e10]
            exact hloop
          · have hz : ¬ t.size = 0 := fun e => e10 (toList_nil.2 e)
            refine ⟨false, wrap64 (left - 1), ?_, bad _ hz⟩
            refine Ev.step (fun k => by rw [impl_docOk.f]) ?_
            simp only [if_neg a1, if_neg a2, if_neg e9, if_neg e10]
            exact Ev.now _
theorem implValid_ev (d : SDoc) (hd : msz d ≤ 1099511627776) : Ev (fun k => impl_DocValid.f k d.f0 d.f1 d.f2 d.f3) (docV d) := by
  obtain ⟨b, l', h, hb, _⟩ := implOk_ev d hd 40 (by omega) 80 (by omega) (by omega)
  refine Ev.congr (fun k => by rw [impl_DocValid.f]) ?_
  refine Ev.bind (h : Ev (fun k => impl_docOk.f k d.f0 d.f1 d.f2 d.f3 40 80) _) ?_
  rw [show docV d = b from by
    rw [Bool.eq_iff_iff, hb, docV_iff]
    constructor
    · intro h; exact ⟨h.1, by have := h.2; omega⟩
    · intro h; exact ⟨h.1, by have := h.2; omega⟩]
  exact Ev.now _
/-! ### the reference's -/
theorem specKids_ev (o : Int) : Ev (fun k => spec_l1Kids.f k o) (if o < 1 ∨ 8 < o then -1 else docKids o) := by
  have j1 : ∀ b, Ev (fun k => spec_l1Kids.j1 k o b) (if b = true then 1 else if o = 7 then 2 else -1) := by
    intro b
    refine Ev.step (fun k => by rw [spec_l1Kids.j1]) ?_
    cases b
    · simp only [Bool.false_eq_true, if_false]
      by_cases h : o = 7
      · simp only [if_pos h]; exact Ev.now _
      · simp only [if_neg h]; exact Ev.now _
    · exact Ev.now _
  have j0 : ∀ b, Ev (fun k => spec_l1Kids.j0 k o b) (if b = true then 0 else if o = 6 ∨ o = 8 then 1 else if o = 7 then 2 else -1) := by
    intro b
    refine Ev.step (fun k => by rw [spec_l1Kids.j0]) ?_
    cases b
    · simp only [Bool.false_eq_true, if_false]
      by_cases h : o = 6
      · simp only [if_pos h]
        have := j1 (o == 6)
        rw [h] at this ⊢
        simpa using this
      · simp only [if_neg h]
        have := j1 (o == 8)
        by_cases h8 : o = 8
        · rw [h8] at this ⊢
          simpa using this
        · rw [show (o == 8) = false by simpa using h8] at this ⊢
          simpa [h, h8] using this
    · exact Ev.now _
  refine Ev.congr (fun k => by rw [spec_l1Kids.f]) ?_
  have fin : ∀ x b, (o = x → b = true) → (b = true → 1 ≤ o ∧ o ≤ 5) → (b = false → ¬ (1 ≤ o ∧ o ≤ 5)) → Ev (fun k => spec_l1Kids.j0 k o b) (if o < 1 ∨ 8 < o then -1 else docKids o) := by
    intro x b _ h1 h2
    have := j0 b
    cases b
    · have := h2 rfl
      rename_i this'
      rw [show (if o < 1 ∨ 8 < o then -1 else docKids o) = (if (false : Bool) = true then 0 else if o = 6 ∨ o = 8 then 1 else if o = 7 then 2 else -1) from by
        by_cases q : o < 1 ∨ 8 < o
        · have : ¬ (o = 6 ∨ o = 8) := by omega
          have : ¬ o = 7 := by omega
          simp [*]
        · have : o = 6 ∨ o = 7 ∨ o = 8 := by omega
          rcases this with rfl | rfl | rfl <;> simp [docKids]]
      exact this'
    · have := h1 rfl
      rename_i this'
      rw [show (if o < 1 ∨ 8 < o then -1 else docKids o) = 0 from by
        have q : ¬ (o < 1 ∨ 8 < o) := by omega
        rw [if_neg q]
        have : o = 1 ∨ o = 2 ∨ o = 3 ∨ o = 4 ∨ o = 5 := by omega
        rcases this with rfl | rfl | rfl | rfl | rfl <;> rfl]
      exact this'
  repeat' refine Ev.iff (fun hc => ?_) (fun hc => ?_)
  · subst hc; exact fin 1 _ (fun _ => rfl) (fun _ => by omega) (fun h => by cases h)
  · subst hc; exact fin 2 _ (fun _ => rfl) (fun _ => by omega) (fun h => by cases h)
  · subst hc; exact fin 3 _ (fun _ => rfl) (fun _ => by omega) (fun h => by cases h)
  · subst hc; exact fin 4 _ (fun _ => rfl) (fun _ => by omega) (fun h => by cases h)
  · refine fin 5 _ (fun h => by simp [h]) (fun h => by have : o = 5 := by simpa using h
                                                       omega) (fun h => by have : ¬ o = 5 := by simpa using h
                                                                           omega)
theorem specIs_loop (o n : Int) (t : ByteArray) (deep : Nat) (suf : List SDoc) : ∀ (pre : List SDoc),
    (∀ y, y ∈ suf → Ev (fun k => spec_l1Is.f k y.f0 y.f1 y.f2 y.f3 (wrap64 ((deep : Int) - 1))) (wf y (deep - 1))) → pre.length + suf.length ≤ 4611686018427387904 →
    Ev (fun k => spec_l1Is.l0 k (deep : Int) (pre.length : Int) o n t (pre ++ suf)) (wfL suf (deep - 1)) := by
  induction suf with
  | nil =>
    intro pre _ hm
    refine Ev.step (fun k => by rw [spec_l1Is.l0]) ?_
    simp only [List.append_nil, Int.lt_irrefl, if_false]
    exact Ev.now _
  | cons y suf ih =>
    intro pre hy hm
    simp only [List.length_cons] at hm
    have c1 : (pre.length : Int) < ((pre ++ y :: suf).length : Int) := by simp; omega
    have c2 : (0 : Int) ≤ (pre.length : Int) := by omega
    refine Ev.step (fun k => by rw [spec_l1Is.l0]) ?_
    simp only [if_pos c1, if_pos c2, rdD]
    refine Ev.bind (hy y List.mem_cons_self) ?_
    cases hw : wf y (deep - 1) with
    | false =>
      simp only [Bool.false_eq_true, if_false]
      rw [show wfL (y :: suf) (deep - 1) = false from by rw [wfL, hw, Bool.false_and]]
      exact Ev.now _
    | true =>
      simp only [if_true]
      rw [w64 (by omega) (by omega), show wfL (y :: suf) (deep - 1) = wfL suf (deep - 1) from by rw [wfL, hw, Bool.true_and]]
      have := ih (pre ++ [y]) (fun z hz => hy z (List.mem_cons_of_mem _ hz)) (by simp; omega)
      rw [List.append_assoc, show ((pre ++ [y]).length : Int) = (pre.length : Int) + 1 by simp] at this
      exact this
theorem specIs_ev : ∀ (d : SDoc), msz d ≤ 1099511627776 → ∀ (deep : Nat), deep ≤ 40 → Ev (fun k => spec_l1Is.f k d.f0 d.f1 d.f2 d.f3 (deep : Int)) (wf d deep) := by
  intro d
  induction d using SDoc.ind with
  | h o n t ks ih =>
    intro hd deep hdp
    simp only [msz] at hd
    have hkl := mszL_len ks
    have hloop : deep ≠ 0 → Ev (fun k => spec_l1Is.l0 k (deep : Int) 0 o n t ks) (wfL ks (deep - 1)) := fun h0 => by
      have := specIs_loop o n t deep ks [] (fun y hy => by
        have hym := mszL_mem hy
        rw [w64 (by omega) (by omega), show ((deep : Int) - 1) = ((deep - 1 : Nat) : Int) by omega]
        exact ih y hy (by omega) (deep - 1) (by omega)) (by simp; omega)
      simpa using this
    -- the tests, from the last one on
    have j2 : deep ≠ 0 → ∀ b, Ev (fun k => spec_l1Is.j2 k (deep : Int) b o n t ks) (!b && wfL ks (deep - 1)) := fun h0 b => by
      refine Ev.step (fun k => by rw [spec_l1Is.j2]) ?_
      cases b
      · simpa using hloop h0
      · exact Ev.now _
    have j1 : deep ≠ 0 → ∀ b, Ev (fun k => spec_l1Is.j1 k (deep : Int) b o n t ks) (!b && (decide ((o = 6 ∧ 0 ≤ n ∧ n ≤ 9) ∨ (o ≠ 6 ∧ n = 0)) && wfL ks (deep - 1))) := fun h0 b => by
      refine Ev.step (fun k => by rw [spec_l1Is.j1]) ?_
      cases b
      · simp only [Bool.false_eq_true, if_false, Bool.not_false, Bool.true_and]
        have fin : ∀ b, (b = true ↔ ¬ ((o = 6 ∧ 0 ≤ n ∧ n ≤ 9) ∨ (o ≠ 6 ∧ n = 0))) → Ev (fun k => spec_l1Is.j2 k (deep : Int) b o n t ks) (decide ((o = 6 ∧ 0 ≤ n ∧ n ≤ 9) ∨ (o ≠ 6 ∧ n = 0)) && wfL ks (deep - 1)) := fun b hb => by
          have := j2 h0 b
          rwa [show (!b) = decide ((o = 6 ∧ 0 ≤ n ∧ n ≤ 9) ∨ (o ≠ 6 ∧ n = 0)) from by
            rw [Bool.eq_iff_iff, decide_eq_true_eq]
            cases b
            · have : (o = 6 ∧ 0 ≤ n ∧ n ≤ 9) ∨ (o ≠ 6 ∧ n = 0) := Decidable.not_not.1 (fun h => by have := hb.2 h; cases this)
              simpa using this
            · have := hb.1 rfl
              simpa using this] at this
        repeat' refine Ev.iff (fun hc => ?_) (fun hc => ?_)
        · exact fin true ⟨fun _ => by omega, fun _ => rfl⟩
        · exact fin true ⟨fun _ => by omega, fun _ => rfl⟩
        · exact fin false ⟨fun h => (by cases h), fun h => absurd (by omega) h⟩
        · refine fin (n != 0) ⟨fun h => ?_, fun h => ?_⟩
          · have : ¬ n = 0 := by simpa using h
            omega
          · have : ¬ n = 0 := by omega
            simpa using this
      · exact Ev.now _
    have j0 : deep ≠ 0 → ∀ b, Ev (fun k => spec_l1Is.j0 k (deep : Int) b o n t ks) (!b && ((if o = 2 then tv t else decide (t.size = 0)) && (decide ((o = 6 ∧ 0 ≤ n ∧ n ≤ 9) ∨ (o ≠ 6 ∧ n = 0)) && wfL ks (deep - 1)))) := fun h0 b => by
      refine Ev.step (fun k => by rw [spec_l1Is.j0]) ?_
      cases b
      · simp only [Bool.false_eq_true, if_false, Bool.not_false, Bool.true_and]
        by_cases h2 : o = 2
        · simp only [if_pos h2]
          refine Ev.bind (specText_ev t (by omega)) ?_
          cases tv t
          · simp only [Bool.false_eq_true, if_false]
            exact j1 h0 true
          · simp only [if_true]
            exact j1 h0 false
        · simp only [if_neg h2]
          have := j1 h0 (t.toList != ([] : List UInt8))
          rwa [show (!(t.toList != ([] : List UInt8))) = decide (t.size = 0) from by
            rw [Bool.eq_iff_iff, decide_eq_true_eq, ← toList_nil]; simp] at this
      · exact Ev.now _
    refine Ev.step (fun k => by rw [spec_l1Is.f]) ?_
    by_cases h0 : deep = 0
    · subst h0
      simp only [Int.natCast_zero, if_true]
      rw [show wf ⟨o, n, t, ks⟩ 0 = false from by rw [wf]; simp]
      refine Ev.step (fun k => by rw [spec_l1Is.j0]) ?_
      exact Ev.now _
    · have c0 : ¬ (deep : Int) = 0 := by omega
      simp only [if_neg c0]
      refine Ev.bind (specKids_ev o) ?_
      have := j0 h0 ((ks.length : Int) != (if o < 1 ∨ 8 < o then -1 else docKids o))
      rwa [show (!((ks.length : Int) != (if o < 1 ∨ 8 < o then -1 else docKids o)) && ((if o = 2 then tv t else decide (t.size = 0)) && (decide ((o = 6 ∧ 0 ≤ n ∧ n ≤ 9) ∨ (o ≠ 6 ∧ n = 0)) && wfL ks (deep - 1)))) = wf ⟨o, n, t, ks⟩ deep from by
        rw [Bool.eq_iff_iff, wf_mk, nodeOk_iff]
        simp only [Bool.and_eq_true, decide_eq_true_eq, Bool.not_eq_true', bne_eq_false_iff_eq]
        generalize (if o = 2 then tv t else decide (t.size = 0)) = tt
        constructor
        · rintro ⟨h1, h2, h3, h4⟩
          by_cases q : o < 1 ∨ 8 < o
          · rw [if_pos q] at h1; omega
          · rw [if_neg q] at h1
            exact ⟨h0, ⟨by omega, by omega, h1, by omega, by omega, by omega, h2⟩, h4⟩
        · rintro ⟨_, ⟨h1, h2, h3, h4, h5, h6, h7⟩, h8⟩
          have q : ¬ (o < 1 ∨ 8 < o) := by omega
          rw [if_neg q]
          exact ⟨h3, h7, by omega, h8⟩] at this
theorem specValid_ev (d : SDoc) (hd : msz d ≤ 1099511627776) : Ev (fun k => spec_DocValid.f k d.f0 d.f1 d.f2 d.f3) (docV d) := by
  refine Ev.congr (fun k => by rw [spec_DocValid.f]) ?_
  refine Ev.bind (specIs_ev d hd 40 (by omega)) ?_
  cases hw : wf d 40 with
  | false =>
    simp only [Bool.false_eq_true, if_false]
    rw [show docV d = false from by rw [docV, hw, Bool.false_and]]
    exact Ev.now _
  | true =>
    simp only [if_true]
    have := dsz_msz d
    refine Ev.bind (specCount_ev d (by omega)) ?_
    rw [show docV d = decide ((dsz d : Int) ≤ 80) from by rw [docV, hw, Bool.true_and]; exact dec_eq (by omega)]
    exact Ev.now _
end Go.Proofs.Ytbngefhpalbklaa.Pure
