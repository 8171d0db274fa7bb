/- CONTRACTS and lemmas: each contract says that a Go function of the program, called over the translation under the theorem's own hypotheses, returns what the Lean function beside it computes. -/
import Derived.Test.YtdhdfmmefghijaaVFnDocSame8
import Derived.Test.YtdhdfmmefghijaaRows
import Derived.ClosedOfChecked
import Derived.KernelRfl
namespace Go.Proofs.Ytdhdfmmefghijaa.Pure
open Go.RowKit Go.Proofs.Ytdhdfmmefghijaa.P Go.Proofs.YtdhdfmmefghijaaW.PrintWords Go.Proofs.YtdhdfmmefghijaaW.PrintLast Go.Proofs.YtdhdfmmefghijaaW.PrintMore
set_option linter.unusedVariables false
set_option linter.unusedSimpArgs false
theorem bt_at {L pre suf : List UInt8} {c : UInt8} (h : L = pre ++ c :: suf) : bt (ba L) (pre.length : Int) = (c.toNat : Int) := bt_mid (s := ba L) (by rw [ba_data]; exact h)
def wordR (N : Nat) (mid : List UInt8) : Option (List UInt8 × List UInt8) → Int × Int × ByteArray × List SDoc × Int
  | some q => (2, 0, ba (mid ++ q.1), [], (N : Int) - (q.2.length : Int))
  | none => (0, 0, ⟨#[]⟩, [], -1)
theorem specWord_loop {L pre : List UInt8} {c0 : UInt8} (hL : L.length ≤ 1099511627776) : ∀ (suf mid : List UInt8), L = pre ++ c0 :: (mid ++ suf) →
    Ev (fun k => spec_l1Word.l0 k (ba L) (pre.length : Int) ((pre.length + 1 + mid.length : Nat) : Int)) (wordR L.length mid (pW suf)) := by
  intro suf
  induction suf with
  | nil =>
    intro mid h
    have hl : L.length = pre.length + 1 + mid.length := by rw [h]; simp; omega
    refine Ev.step (fun k => by rw [spec_l1Word.l0]) ?_
    simp only [ba_size, if_neg (show ¬ (((pre.length + 1 + mid.length : Nat) : Int) < (L.length : Int)) by omega)]
    refine Ev.step (fun k => by rw [spec_l1Word.j1]) ?_
    simp only [ba_size, if_pos (show ((pre.length + 1 + mid.length : Nat) : Int) ≥ (L.length : Int) by omega)]
    exact Ev.now _
  | cons c suf ih =>
    intro mid h
    have hl : L.length = pre.length + 1 + mid.length + 1 + suf.length := by rw [h]; simp; omega
    have hb : bt (ba L) ((pre.length + 1 + mid.length : Nat) : Int) = (c.toNat : Int) := by
      have := bt_at (L := L) (pre := pre ++ c0 :: mid) (suf := suf) (c := c) (by rw [h]; simp)
      rw [show ((pre.length + 1 + mid.length : Nat) : Int) = (((pre ++ c0 :: mid).length : Nat) : Int) by simp; omega]
      exact this
    refine Ev.step (fun k => by rw [spec_l1Word.l0]) ?_
    simp only [ba_size, if_pos (show ((pre.length + 1 + mid.length : Nat) : Int) < (L.length : Int) by omega), if_pos (show (0 : Int) ≤ ((pre.length + 1 + mid.length : Nat) : Int) by omega), hb]
    rw [pW]
    by_cases e : (c.toNat : Int) = 34
    · simp only [if_pos e]
      refine Ev.step (fun k => by rw [spec_l1Word.j1]) ?_
      have w1 : wrap64 ((pre.length : Int) + 1) = ((pre.length + 1 : Nat) : Int) := by rw [w64 (by omega) (by omega)]; omega
      have w2 : wrap64 (((pre.length + 1 + mid.length : Nat) : Int) + 1) = (L.length : Int) - (suf.length : Int) := by rw [w64 (by omega) (by omega)]; omega
      have hx : (ba L).extract (((pre.length + 1 : Nat) : Int).toNat) (((pre.length + 1 + mid.length : Nat) : Int).toNat) = ba mid := by
        rw [ba_extract, Int.toNat_natCast, Int.toNat_natCast, h, show pre ++ c0 :: (mid ++ c :: suf) = (pre ++ [c0]) ++ (mid ++ c :: suf) by simp, List.drop_left' (by simp), List.take_left' (by omega)]
      simp only [ba_size, if_neg (show ¬ (((pre.length + 1 + mid.length : Nat) : Int) ≥ (L.length : Int)) by omega), w1, w2, if_pos (show (0 : Int) ≤ ((pre.length + 1 : Nat) : Int) by omega),
        if_pos (show ((pre.length + 1 : Nat) : Int) ≤ ((pre.length + 1 + mid.length : Nat) : Int) by omega), if_pos (show ((pre.length + 1 + mid.length : Nat) : Int) ≤ (L.length : Int) by omega), hx]
      simp only [wordR, List.append_nil]
      exact Ev.now _
    · simp only [if_neg e]
      have w1 : wrap64 (((pre.length + 1 + mid.length : Nat) : Int) + 1) = ((pre.length + 1 + (mid ++ [c]).length : Nat) : Int) := by rw [w64 (by omega) (by omega)]; simp; omega
      rw [w1]
      have := ih (mid ++ [c]) (by rw [h]; simp)
      have e2 : wordR L.length (mid ++ [c]) (pW suf) = wordR L.length mid ((pW suf).map fun q => (c :: q.1, q.2)) := by
        cases pW suf <;> simp [wordR]
      rw [← e2]
      exact this
def RdS (L : List UInt8) (n : Nat) : Prop := ∀ pre suf : List UInt8, L = pre ++ suf → ∃ d : SDoc, Ev (fun k => spec_l1Read.f k (ba L) (pre.length : Int) (n : Int)) (d.f0, d.f1, d.f2, d.f3, endAt L.length (pD n suf)) ∧ ∀ d' r, pD n suf = some (d', r) → d' = d
theorem specInner_loop {L : List UInt8} (hL : L.length ≤ 1099511627776) {n : Nat} (hn : n + 1 ≤ 40) (IH : RdS L n) (e : Int) (x2 : Nat) (hx2 : x2 ≤ 2) : ∀ (m : Nat), m ≤ x2 → ∀ (pre suf : List UInt8) (out : List SDoc), L = pre ++ suf → out.length + m = x2 →
    ∃ l : List SDoc, Ev (fun k => spec_l1Inner.l0 k (ba L) (pre.length : Int) (x2 : Int) e ((n + 1 : Nat) : Int) out (out.length : Int)) (l, endAt L.length (pK (pD n) m e suf)) ∧ ∀ ks r, pK (pD n) m e suf = some (ks, r) → l = out ++ ks := by
  intro m
  induction m with
  | zero =>
    intro _ pre suf out h ho
    refine ⟨out, Ev.step (fun k => by rw [spec_l1Inner.l0]) ?_, ?_⟩
    · simp only [if_neg (show ¬ ((out.length : Int) < (x2 : Int)) by omega), ba_size]
      match suf, h with
      | [], h =>
        have hl : L.length = pre.length := by rw [h]; simp
        simp only [if_pos (show (pre.length : Int) ≥ (L.length : Int) by omega)]
        exact Ev.now _
      | c :: suf, h =>
        have hl : L.length = pre.length + 1 + suf.length := by rw [h]; simp; omega
        simp only [if_neg (show ¬ ((pre.length : Int) ≥ (L.length : Int)) by omega), if_pos (show (0 : Int) ≤ (pre.length : Int) by omega), if_pos (show (pre.length : Int) < (L.length : Int) by omega), bt_at h, pK]
        by_cases c1 : (c.toNat : Int) = e
        · simp only [if_pos c1]
          rw [w64 (by omega) (by omega), show endAt L.length (some (([] : List SDoc), suf)) = (pre.length : Int) + 1 by simp [endAt]; omega]
          exact Ev.now _
        · simp only [if_neg c1]
          exact Ev.now _
    · intro ks r hk
      match suf, hk with
      | [], hk => simp [pK] at hk
      | c :: suf, hk =>
        rw [pK] at hk
        by_cases c1 : (c.toNat : Int) = e
        · rw [if_pos c1] at hk
          obtain ⟨rfl, rfl⟩ := Prod.mk.inj (Option.some.inj hk)
          simp
        · rw [if_neg c1] at hk; cases hk
  | succ m ih =>
    intro hm pre suf out h ho
    obtain ⟨d, hd, hd'⟩ := IH pre suf h
    have w1 : wrap64 (((n + 1 : Nat) : Int) - 1) = (n : Int) := by rw [w64 (by omega) (by omega)]; omega
    have c1 : (out.length : Int) < (x2 : Int) := by omega
    cases hp : pD n suf with
    | none =>
      rw [hp] at hd
      refine ⟨out, Ev.step (fun k => by rw [spec_l1Inner.l0]) ?_, ?_⟩
      · simp only [if_pos c1, w1]
        refine Ev.bind hd ?_
        simp only [endAt, show ((-1 : Int) < 0) = True by simp, if_true]
        rw [pK, hp]
        exact Ev.now _
      · intro ks r hk
        rw [pK, hp] at hk
        cases hk
    | some q =>
      obtain ⟨d1, r1⟩ := q
      obtain rfl := hd' d1 r1 hp
      obtain ⟨_, u, rfl⟩ := pD_good n _ _ _ hp
      have hl : L.length = pre.length + u.length + r1.length := by rw [h]; simp; omega
      obtain ⟨l, hl1, hl2⟩ := ih (by omega) (pre ++ u) r1 (out ++ [d1]) (by rw [h]; simp) (by simp; omega)
      rw [hp] at hd
      have e1 : endAt L.length (some (d1, r1)) = (((pre ++ u).length : Nat) : Int) := by simp [endAt]; omega
      rw [e1] at hd
      refine ⟨l, Ev.step (fun k => by rw [spec_l1Inner.l0]) ?_, ?_⟩
      · simp only [if_pos c1, w1]
        refine Ev.bind hd ?_
        simp only [if_neg (show ¬ ((((pre ++ u).length : Nat) : Int) < 0) by omega), if_pos (show out.length < 2513169434916 by omega), SDoc_eta]
        rw [w64 (by omega) (by omega), show (out.length : Int) + 1 = ((out ++ [d1]).length : Int) by simp]
        rw [pK, hp]
        have e2 : endAt L.length (((some (d1, r1)).bind fun q => (pK (pD n) m e q.2).map fun p => (q.1 :: p.1, p.2)) : Option (List SDoc × List UInt8)) = endAt L.length (pK (pD n) m e r1) := by
          simp only [Option.bind_some]
          cases pK (pD n) m e r1 <;> rfl
        rw [e2]
        exact hl1
      · intro ks r hk
        rw [pK, hp] at hk
        simp only [Option.bind_some] at hk
        obtain ⟨⟨l2, r2⟩, h1, h2⟩ := Option.map_eq_some_iff.1 hk
        obtain ⟨rfl, rfl⟩ := Prod.mk.inj h2
        rw [hl2 l2 r2 h1]
        simp
theorem specRead_ev {L : List UInt8} (hL : L.length ≤ 1099511627776) : ∀ n : Nat, n ≤ 40 → RdS L n := by
  intro n
  induction n with
  | zero =>
    intro _ pre suf h
    refine ⟨⟨0, 0, ⟨#[]⟩, []⟩, Ev.step (fun k => by rw [spec_l1Read.f]) ?_, fun d' r hp => by simp [pD] at hp⟩
    have J : Ev (fun k => spec_l1Read.j0 k (ba L) (pre.length : Int) ((0 : Nat) : Int) true) (0, 0, (⟨#[]⟩ : ByteArray), ([] : List SDoc), -1) := by
      refine Ev.step (fun k => by rw [spec_l1Read.j0]) ?_
      simp only [if_true]
      exact Ev.now _
    exact Ev.iff (fun _ => J) (fun _ => J)
  | succ n ih =>
    intro hn pre suf h
    have IH := ih (by omega)
    match suf, h with
    | [], h =>
      have hl : L.length = pre.length := by rw [h]; simp
      refine ⟨⟨0, 0, ⟨#[]⟩, []⟩, Ev.step (fun k => by rw [spec_l1Read.f]) ?_, fun d' r hp => by simp [pD, pN] at hp⟩
      simp only [ba_size, if_pos (show (pre.length : Int) ≥ (L.length : Int) by omega)]
      refine Ev.step (fun k => by rw [spec_l1Read.j0]) ?_
      simp only [if_true]
      exact Ev.now _
    | c :: suf, h =>
      have hl : L.length = pre.length + 1 + suf.length := by rw [h]; simp; omega
      have h' : L = (pre ++ [c]) ++ suf := by rw [h]; simp
      have w1 : wrap64 ((pre.length : Int) + 1) = (((pre ++ [c]).length : Nat) : Int) := by rw [w64 (by omega) (by omega)]; simp
      have start : ∀ R, Ev (fun k => spec_l1Read.j0 k (ba L) (pre.length : Int) ((n + 1 : Nat) : Int) false) R → Ev (fun k => spec_l1Read.f k (ba L) (pre.length : Int) ((n + 1 : Nat) : Int)) R := by
        intro R hR
        refine Ev.step (fun k => by rw [spec_l1Read.f]) ?_
        simp only [ba_size, if_neg (show ¬ ((pre.length : Int) ≥ (L.length : Int)) by omega)]
        rw [show (((n + 1 : Nat) : Int) == 0) = false by simp; omega]
        exact hR
      have inner : ∀ (pre' suf' : List UInt8) (m : Nat) (e : Int), L = pre' ++ suf' → m ≤ 2 → ∃ l : List SDoc, Ev (fun k => spec_l1Inner.f k (ba L) (pre'.length : Int) (m : Int) e ((n + 1 : Nat) : Int)) (l, endAt L.length (pK (pD n) m e suf')) ∧ ∀ ks r, pK (pD n) m e suf' = some (ks, r) → l = ks := by
        intro pre' suf' m e hp hm
        obtain ⟨l, h1, h2⟩ := specInner_loop hL (by omega) IH e m hm m (Nat.le_refl _) pre' suf' [] hp (by simp)
        exact ⟨l, Ev.step (fun k => by rw [spec_l1Inner.f]; rfl) h1, fun ks r hk => by rw [h2 ks r hk]; rfl⟩
      have leafs : ∀ o : Int, pD (n + 1) (c :: suf) = some (⟨o, 0, ba [], []⟩, suf) → Ev (fun k => spec_l1Read.j0 k (ba L) (pre.length : Int) ((n + 1 : Nat) : Int) false) (o, 0, (⟨#[]⟩ : ByteArray), ([] : List SDoc), (((pre ++ [c]).length : Nat) : Int)) →
          ∃ d : SDoc, Ev (fun k => spec_l1Read.f k (ba L) (pre.length : Int) ((n + 1 : Nat) : Int)) (d.f0, d.f1, d.f2, d.f3, endAt L.length (pD (n + 1) (c :: suf))) ∧ ∀ d' r, pD (n + 1) (c :: suf) = some (d', r) → d' = d := by
        intro o hp hR
        refine ⟨⟨o, 0, ba [], []⟩, start _ ?_, fun d' r hd => by rw [hp] at hd; exact (Prod.mk.inj (Option.some.inj hd)).1.symm⟩
        rw [hp, show endAt L.length (some ((⟨o, 0, ba [], []⟩ : SDoc), suf)) = (((pre ++ [c]).length : Nat) : Int) by simp [endAt]; omega]
        exact hR
      have J : ∀ R, (Ev (fun k => if (c.toNat : Int) = 126 then (some ((1 : Int), (0 : Int), (⟨#[]⟩ : ByteArray), ([] : List SDoc), (((pre ++ [c]).length : Nat) : Int))) else (if (c.toNat : Int) = 95 then (some (3, 0, (⟨#[]⟩ : ByteArray), ([] : List SDoc), (((pre ++ [c]).length : Nat) : Int))) else (if (c.toNat : Int) = 46 then (some (4, 0, (⟨#[]⟩ : ByteArray), ([] : List SDoc), (((pre ++ [c]).length : Nat) : Int))) else (if (c.toNat : Int) = 33 then (some (5, 0, (⟨#[]⟩ : ByteArray), ([] : List SDoc), (((pre ++ [c]).length : Nat) : Int))) else (if (c.toNat : Int) = 34 then ((spec_l1Word.f k (ba L) (pre.length : Int)).bind fun b => (some (b.1, b.2.1, b.2.2.1, b.2.2.2.1, b.2.2.2.2))) else (if (c.toNat : Int) = 40 then ((spec_l1Inner.f k (ba L) (((pre ++ [c]).length : Nat) : Int) 2 41 ((n + 1 : Nat) : Int)).bind fun b => (some (7, 0, (⟨#[]⟩ : ByteArray), b.1, b.2))) else (if (c.toNat : Int) = 91 then ((spec_l1Inner.f k (ba L) (((pre ++ [c]).length : Nat) : Int) 1 93 ((n + 1 : Nat) : Int)).bind fun b => (some (8, 0, (⟨#[]⟩ : ByteArray), b.1, b.2))) else (if (c.toNat : Int) ≥ 48 then (if (c.toNat : Int) ≤ 57 then (if (((pre ++ [c]).length : Nat) : Int) < (L.length : Int) then (if 0 ≤ (((pre ++ [c]).length : Nat) : Int) then (spec_l1Read.j1 k (ba L) (pre.length : Int) ((n + 1 : Nat) : Int) ((bt (ba L) (((pre ++ [c]).length : Nat) : Int)) == 60)) else (none)) else (spec_l1Read.j1 k (ba L) (pre.length : Int) ((n + 1 : Nat) : Int) false)) else (spec_l1Read.j1 k (ba L) (pre.length : Int) ((n + 1 : Nat) : Int) false)) else (spec_l1Read.j1 k (ba L) (pre.length : Int) ((n + 1 : Nat) : Int) false))))))))) R) →
          Ev (fun k => spec_l1Read.j0 k (ba L) (pre.length : Int) ((n + 1 : Nat) : Int) false) R := by
        intro R hR
        refine Ev.step (fun k => by rw [spec_l1Read.j0]) ?_
        simp only [Bool.false_eq_true, if_false, if_pos (show (0 : Int) ≤ (pre.length : Int) by omega), ba_size, if_pos (show (pre.length : Int) < (L.length : Int) by omega), bt_at h, w1]
        exact hR
      by_cases c1 : (c.toNat : Int) = 126
      · refine leafs 1 (by rw [pD, pN, if_pos c1]) (J _ ?_)
        simp only [if_pos c1]; exact Ev.now _
      by_cases c2 : (c.toNat : Int) = 95
      · refine leafs 3 (by rw [pD, pN, if_neg c1, if_pos c2]) (J _ ?_)
        simp only [if_neg c1, if_pos c2]; exact Ev.now _
      by_cases c3 : (c.toNat : Int) = 46
      · refine leafs 4 (by rw [pD, pN, if_neg c1, if_neg c2, if_pos c3]) (J _ ?_)
        simp only [if_neg c1, if_neg c2, if_pos c3]; exact Ev.now _
      by_cases c4 : (c.toNat : Int) = 33
      · refine leafs 5 (by rw [pD, pN, if_neg c1, if_neg c2, if_neg c3, if_pos c4]) (J _ ?_)
        simp only [if_neg c1, if_neg c2, if_neg c3, if_pos c4]; exact Ev.now _
      by_cases c5 : (c.toNat : Int) = 34
      · have hp : pD (n + 1) (c :: suf) = (pW suf).map fun q => (⟨2, 0, ba q.1, []⟩, q.2) := by rw [pD, pN, if_neg c1, if_neg c2, if_neg c3, if_neg c4, if_pos c5]
        have hw := specWord_loop (L := L) (pre := pre) (c0 := c) hL suf [] h
        have hw' : Ev (fun k => spec_l1Word.f k (ba L) (pre.length : Int)) (wordR L.length [] (pW suf)) := by
          refine Ev.congr (fun k => by rw [spec_l1Word.f]) ?_
          rw [w64 (by omega) (by omega), show (pre.length : Int) + 1 = ((pre.length + 1 + ([] : List UInt8).length : Nat) : Int) by simp]
          exact hw
        rw [hp]
        cases hq : pW suf with
        | none =>
          rw [hq] at hw'
          refine ⟨⟨0, 0, ⟨#[]⟩, []⟩, start _ (J _ ?_), fun d' r hd => by cases hd⟩
          simp only [if_neg c1, if_neg c2, if_neg c3, if_neg c4, if_pos c5]
          exact Ev.bind hw' (Ev.now _)
        | some q =>
          rw [hq] at hw'
          refine ⟨⟨2, 0, ba q.1, []⟩, start _ (J _ ?_), fun d' r hd => (Prod.mk.inj (Option.some.inj hd)).1.symm⟩
          simp only [if_neg c1, if_neg c2, if_neg c3, if_neg c4, if_pos c5]
          exact Ev.bind hw' (Ev.now _)
      by_cases c6 : (c.toNat : Int) = 40
      · have hp : pD (n + 1) (c :: suf) = (pK (pD n) 2 41 suf).map fun q => (⟨7, 0, ba [], q.1⟩, q.2) := by rw [pD, pN, if_neg c1, if_neg c2, if_neg c3, if_neg c4, if_neg c5, if_pos c6]
        obtain ⟨l, h1, h2⟩ := inner (pre ++ [c]) suf 2 41 h' (by omega)
        refine ⟨⟨7, 0, ba [], l⟩, start _ (J _ ?_), fun d' r hd => ?_⟩
        · simp only [if_neg c1, if_neg c2, if_neg c3, if_neg c4, if_neg c5, if_pos c6]
          refine Ev.bind h1 ?_
          rw [hp, show endAt L.length ((pK (pD n) 2 41 suf).map fun q => ((⟨7, 0, ba [], q.1⟩ : SDoc), q.2)) = endAt L.length (pK (pD n) 2 41 suf) by cases pK (pD n) 2 41 suf <;> rfl]
          exact Ev.now _
        · rw [hp] at hd
          obtain ⟨⟨ks, r'⟩, e1, e2⟩ := Option.map_eq_some_iff.1 hd
          obtain ⟨rfl, rfl⟩ := Prod.mk.inj e2
          rw [h2 ks r' e1]
      by_cases c7 : (c.toNat : Int) = 91
      · have hp : pD (n + 1) (c :: suf) = (pK (pD n) 1 93 suf).map fun q => (⟨8, 0, ba [], q.1⟩, q.2) := by rw [pD, pN, if_neg c1, if_neg c2, if_neg c3, if_neg c4, if_neg c5, if_neg c6, if_pos c7]
        obtain ⟨l, h1, h2⟩ := inner (pre ++ [c]) suf 1 93 h' (by omega)
        refine ⟨⟨8, 0, ba [], l⟩, start _ (J _ ?_), fun d' r hd => ?_⟩
        · simp only [if_neg c1, if_neg c2, if_neg c3, if_neg c4, if_neg c5, if_neg c6, if_pos c7]
          refine Ev.bind h1 ?_
          rw [hp, show endAt L.length ((pK (pD n) 1 93 suf).map fun q => ((⟨8, 0, ba [], q.1⟩ : SDoc), q.2)) = endAt L.length (pK (pD n) 1 93 suf) by cases pK (pD n) 1 93 suf <;> rfl]
          exact Ev.now _
        · rw [hp] at hd
          obtain ⟨⟨ks, r'⟩, e1, e2⟩ := Option.map_eq_some_iff.1 hd
          obtain ⟨rfl, rfl⟩ := Prod.mk.inj e2
          rw [h2 ks r' e1]
      have bad : (¬ (48 ≤ (c.toNat : Int) ∧ (c.toNat : Int) ≤ 57 ∧ hd60 suf = true)) → Ev (fun k => spec_l1Read.j1 k (ba L) (pre.length : Int) ((n + 1 : Nat) : Int) false) ((0 : Int), (0 : Int), (⟨#[]⟩ : ByteArray), ([] : List SDoc), (-1 : Int)) := by
        intro _
        refine Ev.step (fun k => by rw [spec_l1Read.j1]) ?_
        simp only [Bool.false_eq_true, if_false]
        exact Ev.now _
      by_cases c8 : 48 ≤ (c.toNat : Int) ∧ (c.toNat : Int) ≤ 57 ∧ hd60 suf = true
      · have hp : pD (n + 1) (c :: suf) = (pK (pD n) 1 62 suf.tail).map fun q => (⟨6, (c.toNat : Int) - 48, ba [], q.1⟩, q.2) := by rw [pD, pN, if_neg c1, if_neg c2, if_neg c3, if_neg c4, if_neg c5, if_neg c6, if_neg c7, if_pos c8]
        obtain ⟨c80, c81, c82⟩ := c8
        match suf, h, h', c82, hp, hl with
        | [], _, _, c82, _, _ => simp [hd60] at c82
        | q :: suf, h, h', c82, hp, hl =>
          have hq : (q.toNat : Int) = 60 := by simpa [hd60] using c82
          simp only [List.length_cons] at hl
          obtain ⟨l, h1, h2⟩ := inner (pre ++ [c] ++ [q]) suf 1 62 (by rw [h]; simp) (by omega)
          have w2 : wrap64 ((pre.length : Int) + 2) = (((pre ++ [c] ++ [q]).length : Nat) : Int) := by rw [w64 (by omega) (by omega)]; simp
          refine ⟨⟨6, (c.toNat : Int) - 48, ba [], l⟩, start _ (J _ ?_), fun d' r hd => ?_⟩
          · simp only [if_neg c1, if_neg c2, if_neg c3, if_neg c4, if_neg c5, if_neg c6, if_neg c7, if_pos (show (c.toNat : Int) ≥ 48 from c80), if_pos c81]
            rw [bt_at (L := L) (pre := pre ++ [c]) (suf := suf) (c := q) h']
            simp only [if_pos (show (((pre ++ [c]).length : Nat) : Int) < (L.length : Int) by simp; omega), if_pos (show (0 : Int) ≤ (((pre ++ [c]).length : Nat) : Int) by omega), hq, beq_self_eq_true]
            refine Ev.step (fun k => by rw [spec_l1Read.j1]) ?_
            simp only [if_true, w2]
            refine Ev.bind h1 ?_
            simp only [ba_size, if_pos (show (0 : Int) ≤ (pre.length : Int) by omega), if_pos (show (pre.length : Int) < (L.length : Int) by omega), bt_at h]
            rw [show ((c.toNat : Int) - 48) % 256 = (c.toNat : Int) - 48 by omega, hp]
            simp only [List.tail_cons]
            rw [show endAt L.length ((pK (pD n) 1 62 suf).map fun p => ((⟨6, (c.toNat : Int) - 48, ba [], p.1⟩ : SDoc), p.2)) = endAt L.length (pK (pD n) 1 62 suf) by cases pK (pD n) 1 62 suf <;> rfl]
            exact Ev.now _
          · rw [hp] at hd
            simp only [List.tail_cons] at hd
            obtain ⟨⟨ks, r'⟩, e1, e2⟩ := Option.map_eq_some_iff.1 hd
            obtain ⟨rfl, rfl⟩ := Prod.mk.inj e2
            rw [h2 ks r' e1]
      · have hp : pD (n + 1) (c :: suf) = none := by rw [pD, pN, if_neg c1, if_neg c2, if_neg c3, if_neg c4, if_neg c5, if_neg c6, if_neg c7, if_neg c8]
        rw [hp]
        refine ⟨⟨0, 0, ⟨#[]⟩, []⟩, start _ (J _ ?_), fun d' r hd => by cases hd⟩
        simp only [if_neg c1, if_neg c2, if_neg c3, if_neg c4, if_neg c5, if_neg c6, if_neg c7]
        refine Ev.iff (fun c80 => Ev.iff (fun c81 => ?_) (fun _ => bad c8)) (fun _ => bad c8)
        match suf, h, h', c8 with
        | [], h, _, c8 =>
          simp only [List.length_append, List.length_cons, List.length_nil] at hl
          simp only [if_neg (show ¬ ((((pre ++ [c]).length : Nat) : Int) < (L.length : Int)) by simp; omega)]
          exact bad c8
        | q :: suf, h, h', c8 =>
          have hq : ((q.toNat : Int) == 60) = false := by
            cases hb : ((q.toNat : Int) == 60) with
            | false => rfl
            | true => exact absurd ⟨c80, c81, by simpa [hd60] using hb⟩ c8
          simp only [List.length_cons] at hl
          simp only [if_pos (show (((pre ++ [c]).length : Nat) : Int) < (L.length : Int) by simp; omega), if_pos (show (0 : Int) ≤ (((pre ++ [c]).length : Nat) : Int) by omega), bt_at (L := L) (pre := pre ++ [c]) (suf := suf) (c := q) h', hq]
          exact bad c8
theorem specParse_ev (s : ByteArray) (hs : s.size ≤ 1099511627776) : Ev (fun k => spec_ParseDoc.f k s) (docR (parseR s.data.toList)) := by
  have hs' : s.data.toList.length ≤ 1099511627776 := by rw [← size_data]; exact hs
  obtain ⟨d, h1, h2⟩ := specRead_ev hs' 40 (Nat.le_refl _) [] s.data.toList rfl
  rw [ba_of] at h1
  have h1 : Ev (fun k => spec_l1Read.f k s 0 40) (d.f0, d.f1, d.f2, d.f3, endAt s.data.toList.length (pD 40 s.data.toList)) := h1
  refine Ev.congr (fun k => by rw [spec_ParseDoc.f]) (Ev.bind h1 ?_)
  rw [size_data]
  unfold parseR
  cases hp : pD 40 s.data.toList with
  | none =>
    simp only [endAt, if_neg (show ¬ ((-1 : Int) = (s.data.toList.length : Int)) by omega)]
    exact Ev.now _
  | some q =>
    obtain ⟨d', r⟩ := q
    obtain rfl := h2 d' r hp
    obtain ⟨hm, u, hu⟩ := pD_good 40 _ _ _ hp
    match r, hp, hm, hu with
    | [], hp, hm, hu =>
      simp only [endAt, List.length_nil, if_pos (show ((s.data.toList.length : Int) - ((0 : Nat) : Int) = (s.data.toList.length : Int)) by omega)]
      refine Ev.bind (specValid_ev d' (by omega)) ?_
      by_cases hv : docV d' = true
      · simp only [if_pos hv, docR]; exact Ev.now _
      · simp only [if_neg hv, docR]; exact Ev.now _
    | c :: r, hp, hm, hu =>
      simp only [endAt, List.length_cons, if_neg (show ¬ ((s.data.toList.length : Int) - ((r.length + 1 : Nat) : Int) = (s.data.toList.length : Int)) by omega)]
      exact Ev.now _
end Go.Proofs.Ytdhdfmmefghijaa.Pure
namespace Go.Proofs.Ytdhdfmmefghijaa.P
open Go.RowKit Go.Proofs.YtdhdfmmefghijaaW.PrintWords Go.Proofs.YtdhdfmmefghijaaW.PrintLast Go.Proofs.YtdhdfmmefghijaaW.PrintMore
attribute [local go_sem] max2_int min2_int max_two min_two max_three min_three max_four min_four
set_option linter.unusedVariables false
set_option linter.unusedSimpArgs false
mutual
def spec_CountOps.j0:Nat→Int→Int→Int→Int→ByteArray→List (SDoc)→Option (Int)
 | 0,_,_,_,_,_,_=>none
 | k+1,x1,x5,x542000,x542001,x542002,x542003=>spec_CountOps.l0 k x1 x5 0 x542000 x542001 x542002 x542003
def spec_CountOps.l0:Nat→Int→Int→Int→Int→Int→ByteArray→List (SDoc)→Option (Int)
 | 0,_,_,_,_,_,_,_=>none
 | k+1,x1,x5,x6,x542000,x542001,x542002,x542003=>if x6 < (x542003.length:Int) then (if 0≤x6 then ((spec_CountOps.f k ((rd_TDoc x542003 x6).f0) ((rd_TDoc x542003 x6).f1) ((rd_TDoc x542003 x6).f2) ((rd_TDoc x542003 x6).f3) x1).bind fun t543=>(spec_CountOps.l0 k x1 (wrap64 (x5+t543)) (wrap64 (x6+1)) x542000 x542001 x542002 x542003)) else (none)) else (some x5)
def spec_CountOps.f:Nat→Int→Int→ByteArray→List (SDoc)→Int→Option (Int)
 | 0,_,_,_,_,_=>none
 | k+1,a0_0,a0_1,a0_2,l0_3,a1=>if a0_0=a1 then (spec_CountOps.j0 k a1 1 a0_0 a0_1 a0_2 l0_3) else (spec_CountOps.j0 k a1 0 a0_0 a0_1 a0_2 l0_3)
end
end Go.Proofs.Ytdhdfmmefghijaa.P
namespace Go.Proofs.Ytdhdfmmefghijaa.P
open Go.RowKit Go.Proofs.YtdhdfmmefghijaaW.PrintWords Go.Proofs.YtdhdfmmefghijaaW.PrintLast Go.Proofs.YtdhdfmmefghijaaW.PrintMore
attribute [local go_sem] max2_int min2_int max_two min_two max_three min_three max_four min_four
set_option linter.unusedVariables false
set_option linter.unusedSimpArgs false
mutual
def impl_CountOps.j0:Nat→Int→Int→Int→Int→ByteArray→List (SDoc)→Option (Int)
 | 0,_,_,_,_,_,_=>none
 | k+1,x1,x5,x510000,x510001,x510002,x510003=>impl_CountOps.l0 k x1 x5 x510003 (x510003.length:Int) 0
def impl_CountOps.l0:Nat→Int→Int→List (SDoc)→Int→Int→Option (Int)
 | 0,_,_,_,_,_=>none
 | k+1,x1,x5,x13,x14,x15=>if x15 < x14 then (if 0≤x15 then (if x15 < (x13.length:Int) then ((impl_CountOps.f k ((rd_TDoc x13 x15).f0) ((rd_TDoc x13 x15).f1) ((rd_TDoc x13 x15).f2) ((rd_TDoc x13 x15).f3) x1).bind fun t512=>(impl_CountOps.l0 k x1 (wrap64 (x5+t512)) x13 x14 (wrap64 (x15+1)))) else (none)) else (none)) else (some x5)
def impl_CountOps.f:Nat→Int→Int→ByteArray→List (SDoc)→Int→Option (Int)
 | 0,_,_,_,_,_=>none
 | k+1,a0_0,a0_1,a0_2,l0_3,a1=>if a0_0=a1 then (impl_CountOps.j0 k a1 1 a0_0 a0_1 a0_2 l0_3) else (impl_CountOps.j0 k a1 0 a0_0 a0_1 a0_2 l0_3)
end
end Go.Proofs.Ytdhdfmmefghijaa.P
namespace Go.Proofs.Ytdhdfmmefghijaa.Pure
open Go.RowKit Go.Proofs.Ytdhdfmmefghijaa.P Go.Proofs.YtdhdfmmefghijaaW.PrintWords Go.Proofs.YtdhdfmmefghijaaW.PrintLast Go.Proofs.YtdhdfmmefghijaaW.PrintMore
set_option linter.unusedVariables false
set_option linter.unusedSimpArgs false
end Go.Proofs.Ytdhdfmmefghijaa.Pure
namespace Go.Proofs.Ytdhdfmmefghijaa.P
open Go.RowKit Go.Proofs.YtdhdfmmefghijaaW.PrintWords Go.Proofs.YtdhdfmmefghijaaW.PrintLast Go.Proofs.YtdhdfmmefghijaaW.PrintMore
attribute [local go_sem] max2_int min2_int max_two min_two max_three min_three max_four min_four
set_option linter.unusedVariables false
set_option linter.unusedSimpArgs false
def spec_CanFlatten.f (k:Nat) (a0_0:Int) (a0_1:Int) (a0_2:ByteArray) (l0_3:List (SDoc)):Option (Bool):=(spec_DocValid.f k a0_0 a0_1 a0_2 l0_3).bind fun t545=>(if t545=true then ((spec_CountOps.f k a0_0 a0_1 a0_2 l0_3 5).bind fun t546=>(some (t546 == 0))) else (some false))
end Go.Proofs.Ytdhdfmmefghijaa.P
namespace Go.Proofs.Ytdhdfmmefghijaa.P
open Go.RowKit Go.Proofs.YtdhdfmmefghijaaW.PrintWords Go.Proofs.YtdhdfmmefghijaaW.PrintLast Go.Proofs.YtdhdfmmefghijaaW.PrintMore
attribute [local go_sem] max2_int min2_int max_two min_two max_three min_three max_four min_four
set_option linter.unusedVariables false
set_option linter.unusedSimpArgs false
def impl_CanFlatten.f (k:Nat) (a0_0:Int) (a0_1:Int) (a0_2:ByteArray) (l0_3:List (SDoc)):Option (Bool):=(impl_DocValid.f k a0_0 a0_1 a0_2 l0_3).bind fun t514=>(if t514=true then ((impl_CountOps.f k a0_0 a0_1 a0_2 l0_3 5).bind fun t515=>(some (t515 == 0))) else (some false))
end Go.Proofs.Ytdhdfmmefghijaa.P
namespace Go.Proofs.Ytdhdfmmefghijaa.Pure
open Go.RowKit Go.Proofs.Ytdhdfmmefghijaa.P Go.Proofs.YtdhdfmmefghijaaW.PrintWords Go.Proofs.YtdhdfmmefghijaaW.PrintLast Go.Proofs.YtdhdfmmefghijaaW.PrintMore
set_option linter.unusedVariables false
set_option linter.unusedSimpArgs false
theorem docV_wf {d : SDoc} (h : docV d = true) : wf d 40 = true := (docV_iff d).1 h |>.1
theorem wf_kids {o n : Int} {t : ByteArray} {ks : List SDoc} {deep : Nat} (h : wf ⟨o, n, t, ks⟩ deep = true) : ∀ y, y ∈ ks → wf y (deep - 1) = true := by
  have h3 := ((wf_mk o n t ks deep).1 h).2.2
  rw [wfL_all, List.all_eq_true] at h3
  exact h3
theorem wf_node {o n : Int} {t : ByteArray} {ks : List SDoc} {deep : Nat} (h : wf ⟨o, n, t, ks⟩ deep = true) : 1 ≤ o ∧ o ≤ 8 ∧ (ks.length : Int) = docKids o ∧ 0 ≤ n ∧ n ≤ 9 ∧ (n = 0 ∨ o = 6) ∧ (o = 2 → tv t = true) ∧ (o ≠ 2 → t = ⟨#[]⟩) := by
  have h2 := (nodeOk_iff o n t ks.length).1 ((wf_mk o n t ks deep).1 h).2.1
  obtain ⟨a, b, c, d, e, f, g⟩ := h2
  refine ⟨a, b, c, d, e, f, fun h => by rwa [if_pos h] at g, fun h => ?_⟩
  rw [if_neg h, decide_eq_true_eq, size_data, List.length_eq_zero_iff] at g
  obtain ⟨⟨l⟩⟩ := t
  simp at g
  subst g
  rfl
end Go.Proofs.Ytdhdfmmefghijaa.Pure
namespace Go.Proofs.Ytdhdfmmefghijaa.P
open Go.RowKit Go.Proofs.YtdhdfmmefghijaaW.PrintWords Go.Proofs.YtdhdfmmefghijaaW.PrintLast Go.Proofs.YtdhdfmmefghijaaW.PrintMore
attribute [local go_sem] max2_int min2_int max_two min_two max_three min_three max_four min_four
set_option linter.unusedVariables false
set_option linter.unusedSimpArgs false
mutual
def impl_copyDoc.l0:Nat→List (SDoc)→Int→Int→Int→Int→ByteArray→List (SDoc)→Option (Int × Int × ByteArray × (List (SDoc)))
 | 0,_,_,_,_,_,_,_=>none
 | k+1,x9,x10,x11,x677000,x677001,x677002,x677003=>if x11 < x10 then (if 0≤x11 then (if x11 < (x9.length:Int) then ((impl_copyDoc.f k ((rd_TDoc x9 x11).f0) ((rd_TDoc x9 x11).f1) ((rd_TDoc x9 x11).f2) ((rd_TDoc x9 x11).f3)).bind fun bt680=>(if x677003.length < 2513169434916 then (impl_copyDoc.l0 k x9 x10 (wrap64 (x11+1)) x677000 x677001 x677002 (x677003++[(⟨bt680.1,bt680.2.1,bt680.2.2.1,bt680.2.2.2⟩:SDoc)])) else (none))) else (none)) else (none)) else (some (x677000,x677001,x677002,x677003))
def impl_copyDoc.f:Nat→Int→Int→ByteArray→List (SDoc)→Option (Int × Int × ByteArray × (List (SDoc)))
 | 0,_,_,_,_=>none
 | k+1,a0_0,a0_1,a0_2,l0_3=>impl_copyDoc.l0 k l0_3 (l0_3.length:Int) 0 a0_0 a0_1 a0_2 ([]:List (SDoc))
end
def impl_copyDoc.T6:Bool × List (List Nat × List Nat):=(true,[([],[]),([0],[0]),([],[]),([2],[2]),([3],[3]),([1,4,3],[1,4]),([0,1,2,3,4,5],[]),([6,5,5,0,1,2,3,4,5],[5,6])])
def impl_copyDoc.B6:List Nat:=[0,1,0,4,12,31,63,127]
theorem impl_copyDoc.tab6:rtab .any (opsOf Try.f74 6)=impl_copyDoc.T6:=by kernel_rfl
theorem impl_copyDoc.bits6:waitsOk impl_copyDoc.T6.2 impl_copyDoc.B6=true:=by kernel_rfl
end Go.Proofs.Ytdhdfmmefghijaa.P
namespace Go.Proofs.Ytdhdfmmefghijaa.Pure
open Go.RowKit Go.Proofs.Ytdhdfmmefghijaa.P Go.Proofs.YtdhdfmmefghijaaW.PrintWords Go.Proofs.YtdhdfmmefghijaaW.PrintLast Go.Proofs.YtdhdfmmefghijaaW.PrintMore
set_option linter.unusedVariables false
set_option linter.unusedSimpArgs false
theorem specCopy_loop (o n : Int) (t : ByteArray) (suf : List SDoc) : ∀ (pre : List SDoc),
    (∀ y, y ∈ suf → Ev (fun k => spec_l1Copy.f k y.f0 y.f1 y.f2 y.f3) (y.f0, y.f1, y.f2, y.f3)) → pre.length + suf.length ≤ 1099511627776 →
    ∀ o' n' t', Ev (fun k => spec_l1Copy.l0 k (pre.length : Int) o n t (pre ++ suf) o' n' t' pre) (o', n', t', pre ++ suf) := by
  induction suf with
  | nil =>
    intro pre _ hm o' n' t'
    refine Ev.step (fun k => by rw [spec_l1Copy.l0]) ?_
    simp only [List.append_nil, Int.lt_irrefl, if_false]
    exact Ev.now _
  | cons y suf ih =>
    intro pre hy hm o' n' t'
    simp only [List.length_cons] at hm
    refine Ev.step (fun k => by rw [spec_l1Copy.l0]) ?_
    have c1 : (pre.length : Int) < ((pre ++ y :: suf).length : Int) := by simp; omega
    have c2 : (0 : Int) ≤ (pre.length : Int) := by omega
    simp only [if_pos c1, if_pos c2, rdD]
    refine Ev.bind (hy y List.mem_cons_self) ?_
    simp only [if_pos (show pre.length < 2513169434916 by omega), SDoc_eta]
    rw [w64 (by omega) (by omega)]
    have := ih (pre ++ [y]) (fun z hz => hy z (List.mem_cons_of_mem _ hz)) (by simp; omega) o' n' t'
    rw [List.append_assoc, show ((pre ++ [y]).length : Int) = (pre.length : Int) + 1 by simp] at this
    exact this
theorem specCopy_ev : ∀ (d : SDoc), msz d ≤ 1099511627776 → Ev (fun k => spec_l1Copy.f k d.f0 d.f1 d.f2 d.f3) (d.f0, d.f1, d.f2, d.f3) := by
  intro d
  induction d using SDoc.ind with
  | h o n t ks ih =>
    intro hd
    simp only [msz] at hd
    have hl := mszL_len ks
    refine Ev.step (fun k => by rw [spec_l1Copy.f]) ?_
    exact specCopy_loop o n t ks [] (fun y hy => ih y hy (by have := mszL_mem hy; omega)) (by simp; omega) o n t
end Go.Proofs.Ytdhdfmmefghijaa.Pure
namespace Go.Proofs.Ytdhdfmmefghijaa.Pure
open Go.RowKit Go.Proofs.Ytdhdfmmefghijaa.P Go.Proofs.YtdhdfmmefghijaaW.PrintWords Go.Proofs.YtdhdfmmefghijaaW.PrintLast Go.Proofs.YtdhdfmmefghijaaW.PrintMore
set_option linter.unusedVariables false
set_option linter.unusedSimpArgs false
theorem word2_ev {b : List Int} (hb : Code b) (p : Int) (hp0 : 0 ≤ p) (hp : p ≤ 1000000000) : ∃ s, tv s = true ∧ Ev (fun k => spec_l1Word2.f k b p) (s, p + 1) := by
  obtain ⟨s, hs, h⟩ := of_ev hb p [(⟨#[97]⟩ : ByteArray), (⟨#[98, 98]⟩ : ByteArray), (⟨#[99, 99, 99]⟩ : ByteArray), (⟨#[100, 100, 100, 100]⟩ : ByteArray), (⟨#[102, 40]⟩ : ByteArray), (⟨#[41]⟩ : ByteArray), (⟨#[44]⟩ : ByteArray), (⟨#[120, 61, 49]⟩ : ByteArray), (⟨#[97, 98, 99, 100, 101, 102, 103, 104]⟩ : ByteArray), (⟨#[101]⟩ : ByteArray)] (by simp) hp0 hp
  refine ⟨s, ?_, Ev.congr (fun k => by rw [spec_l1Word2.f]) (Ev.bind h (Ev.now _))⟩
  have : ∀ s ∈ [(⟨#[97]⟩ : ByteArray), (⟨#[98, 98]⟩ : ByteArray), (⟨#[99, 99, 99]⟩ : ByteArray), (⟨#[100, 100, 100, 100]⟩ : ByteArray), (⟨#[102, 40]⟩ : ByteArray), (⟨#[41]⟩ : ByteArray), (⟨#[44]⟩ : ByteArray), (⟨#[120, 61, 49]⟩ : ByteArray), (⟨#[97, 98, 99, 100, 101, 102, 103, 104]⟩ : ByteArray), (⟨#[101]⟩ : ByteArray)], tv s = true := by decide +kernel
  exact this s hs
theorem tv_size {s : ByteArray} (h : tv s = true) : 1 ≤ s.size ∧ s.size ≤ 12 := by
  simp only [tv, Bool.and_eq_true, decide_eq_true_eq] at h
  exact ⟨h.1, h.2.1⟩
theorem wf_mono : ∀ (d : SDoc) (m m' : Nat), m ≤ m' → wf d m = true → wf d m' = true := by
  intro d
  induction d using SDoc.ind with
  | h o n t ks ih =>
    intro m m' hm h
    rw [wf_mk] at h ⊢
    refine ⟨by omega, h.2.1, ?_⟩
    rw [wfL_all, List.all_eq_true] at h ⊢
    exact fun y hy => ih y hy (m - 1) (m' - 1) (by omega) (h.2.2 y hy)
theorem wf_msz : ∀ (d : SDoc) (m : Nat), wf d m = true → msz d ≤ 13 * dsz d := by
  intro d
  induction d using SDoc.ind with
  | h o n t ks ih =>
    intro m h
    obtain ⟨_, _, _, _, _, _, h2, h3⟩ := wf_node h
    have hk := wf_kids h
    have key : ∀ l : List SDoc, (∀ y, y ∈ l → msz y ≤ 13 * dsz y) → mszL l ≤ 13 * dszL l := by
      intro l
      induction l with
      | nil => intro _; simp [mszL, dszL]
      | cons y l ihl =>
        intro hl
        have h1 := hl y List.mem_cons_self
        have h2 := ihl (fun z hz => hl z (List.mem_cons_of_mem _ hz))
        simp only [mszL, dszL]
        omega
    have := key ks (fun y hy => ih y hy (m - 1) (hk y hy))
    have ht : t.size ≤ 12 := by
      by_cases c : o = 2
      · exact (tv_size (h2 c)).2
      · rw [h3 c]; show 0 ≤ 12; omega
    simp only [msz, dsz]
    omega
theorem wf_of {o n : Int} {t : ByteArray} {ks : List SDoc} {m : Nat} (h1 : 1 ≤ o) (h8 : o ≤ 8) (hk : (ks.length : Int) = docKids o) (hn0 : 0 ≤ n) (hn9 : n ≤ 9) (hn : n = 0 ∨ o = 6) (ht : o = 2 → tv t = true) (ht' : o ≠ 2 → t = ⟨#[]⟩) (hks : ∀ y, y ∈ ks → wf y m = true) : wf ⟨o, n, t, ks⟩ (m + 1) = true := by
  rw [wf_mk]
  refine ⟨by omega, (nodeOk_iff _ _ _ _).2 ⟨h1, h8, hk, hn0, hn9, hn, ?_⟩, ?_⟩
  · by_cases c : o = 2
    · rw [if_pos c]; exact ht c
    · rw [if_neg c, ht' c]; rfl
  · rw [wfL_all, List.all_eq_true]
    exact hks
theorem three_pos (n : Nat) : 1 ≤ 3 ^ n := by
  induction n with
  | zero => exact Nat.le_refl 1
  | succ n ih => rw [Nat.pow_succ]; omega
theorem dr_leaf (o : Int) (h : o = 1 ∨ o = 3 ∨ o = 4 ∨ o = 5) (m : Nat) : wf ⟨o, 0, ⟨#[]⟩, []⟩ (m + 1) = true := wf_of (by omega) (by omega) (by rcases h with rfl | rfl | rfl | rfl <;> rfl) (by omega) (by omega) (.inl rfl) (by omega) (fun _ => rfl) (fun y hy => by cases hy)
theorem some0_ev {b : List Int} (hb : Code b) (p : Int) (hp0 : 0 ≤ p) (hp : p ≤ 900000000) : ∃ (d : SDoc) (q : Int), Ev (fun k => spec_l1Some.f k b p 0) (d.f0, d.f1, d.f2, d.f3, q) ∧ wf d 1 = true ∧ dsz d = 1 ∧ p ≤ q ∧ q ≤ p + 2 := by
  obtain ⟨r, h1, hr0, hr⟩ := pick_ev hb p 8 hp0 (by omega)
  obtain ⟨s, hs, h2⟩ := word2_ev hb (p + 1) (by omega) (by omega)
  have J : ∀ R, Ev (fun k => (spec_l15Rd_pick.f k b p 8).bind fun bt237 => (if bt237.1 = 0 then (some ((1 : Int), (0 : Int), (⟨#[]⟩ : ByteArray), ([] : List SDoc), bt237.2)) else (if bt237.1 = 1 then (spec_l1Some.j0 k bt237.1 (bt237.1 == 1) b bt237.2) else (spec_l1Some.j0 k bt237.1 (bt237.1 == 2) b bt237.2)))) R → Ev (fun k => spec_l1Some.f k b p 0) R := by
    intro R h
    refine Ev.step (fun k => by rw [spec_l1Some.f]) ?_
    simp only [if_true]
    exact h
  by_cases c0 : r = 0
  · refine ⟨⟨1, 0, ⟨#[]⟩, []⟩, p + 1, J _ (Ev.bind h1 ?_), dr_leaf 1 (by omega) 0, rfl, by omega, by omega⟩
    simp only [if_pos c0]
    exact Ev.now _
  have J2 : ∀ (R : Int × Int × ByteArray × List SDoc × Int) (w : Bool), w = (decide (r = 1) || decide (r = 2)) → Ev (fun k => spec_l1Some.j0 k r w b (p + 1)) R → Ev (fun k => spec_l1Some.f k b p 0) R := by
    intro R w hw h
    refine J _ (Ev.bind h1 ?_)
    simp only [if_neg c0]
    refine Ev.iff (fun c => ?_) (fun c => ?_)
    · rw [show (r == 1) = w by rw [hw]; simp [c]]
      exact h
    · rw [show (r == 2) = w by rw [hw, decide_eq_false (show ¬ r = 1 from c), Bool.false_or]; rfl]
      exact h
  by_cases c1 : r = 1 ∨ r = 2
  · refine ⟨⟨3, 0, ⟨#[]⟩, []⟩, p + 1, J2 _ true (by rcases c1 with rfl | rfl <;> rfl) (Ev.step (fun k => by rw [spec_l1Some.j0]) ?_), dr_leaf 3 (by omega) 0, rfl, by omega, by omega⟩
    simp only [if_true]
    exact Ev.now _
  have hw : false = (decide (r = 1) || decide (r = 2)) := by
    rw [decide_eq_false (fun e => c1 (.inl e)), decide_eq_false (fun e => c1 (.inr e))]; rfl
  by_cases c3 : r = 3
  · refine ⟨⟨4, 0, ⟨#[]⟩, []⟩, p + 1, J2 _ false hw (Ev.step (fun k => by rw [spec_l1Some.j0]) ?_), dr_leaf 4 (by omega) 0, rfl, by omega, by omega⟩
    simp only [Bool.false_eq_true, if_false, if_pos c3]
    exact Ev.now _
  · refine ⟨⟨2, 0, s, []⟩, p + 1 + 1, J2 _ false hw (Ev.step (fun k => by rw [spec_l1Some.j0]) ?_), ?_, rfl, by omega, by omega⟩
    · simp only [Bool.false_eq_true, if_false, if_neg c3]
      exact Ev.bind h2 (Ev.now _)
    · exact wf_of (by omega) (by omega) rfl (by omega) (by omega) (.inl rfl) (fun _ => hs) (fun h => absurd rfl h) (fun y hy => by cases hy)
theorem some_ev {b : List Int} (hb : Code b) : ∀ (n : Nat), n ≤ 5 → ∀ (p : Int), 0 ≤ p → p + 12 * 3 ^ n ≤ 800000000 → ∃ (d : SDoc) (q : Int), Ev (fun k => spec_l1Some.f k b p (n : Int)) (d.f0, d.f1, d.f2, d.f3, q) ∧ wf d (n + 3) = true ∧ dsz d ≤ 5 * 3 ^ n - 4 ∧ p ≤ q ∧ q ≤ p + 12 * 3 ^ n := by
  intro n
  induction n with
  | zero =>
    intro _ p hp0 hp
    obtain ⟨d, q, h, h1, h2, h3, h4⟩ := some0_ev hb p hp0 (by omega)
    exact ⟨d, q, h, wf_mono d 1 3 (by omega) h1, by omega, h3, by omega⟩
  | succ n ih =>
    intro hn p hp0 hp
    have ih := ih (by omega)
    have h3 := three_pos n
    have h3b : 3 ^ n ≤ 3 ^ 5 := Nat.pow_le_pow_right (by omega) (by omega)
    have h3c : (3 : Nat) ^ 5 = 243 := rfl
    have e3 : 3 ^ (n + 1) = 3 * 3 ^ n := by rw [Nat.pow_succ]; omega
    have e3i : ((3 : Int) ^ (n + 1)) = 3 * ((3 ^ n : Nat) : Int) := by rw [Int.pow_succ]; simp; omega
    have e3j : ((3 : Int) ^ n) = ((3 ^ n : Nat) : Int) := by simp
    rw [e3i] at hp ⊢
    rw [e3j] at ih
    rw [e3]
    generalize 3 ^ n = T at *
    obtain ⟨r, g1, hr0, hr⟩ := pick_ev hb p 12 hp0 (by omega)
    have hr := hr (by omega)
    have w1 : wrap64 (((n + 1 : Nat) : Int) - 1) = (n : Int) := by rw [w64 (by omega) (by omega)]; omega
    have J : ∀ R, Ev (fun k => (spec_l15Rd_pick.f k b p 12).bind fun bt241 => (if bt241.1 = 0 then ((spec_l1Some.f k b bt241.2 0).bind fun bt243 => (some (bt243.1, bt243.2.1, bt243.2.2.1, bt243.2.2.2.1, bt243.2.2.2.2))) else (if bt241.1 = 1 then (spec_l1Some.j1 k ((n + 1 : Nat) : Int) bt241.1 (bt241.1 == 1) b bt241.2) else (spec_l1Some.j1 k ((n + 1 : Nat) : Int) bt241.1 (bt241.1 == 2) b bt241.2)))) R → Ev (fun k => spec_l1Some.f k b p ((n + 1 : Nat) : Int)) R := by
      intro R h
      refine Ev.step (fun k => by rw [spec_l1Some.f]) ?_
      simp only [if_neg (show ¬ ((n + 1 : Nat) : Int) = 0 by omega)]
      exact h
    by_cases c0 : r = 0
    · obtain ⟨d, q, h, h1, h2, h4, h5⟩ := some0_ev hb (p + 1) (by omega) (by omega)
      refine ⟨d, q, J _ (Ev.bind g1 ?_), wf_mono d 1 _ (by omega) h1, by omega, by omega, by omega⟩
      simp only [if_pos c0]
      exact Ev.bind h (Ev.now _)
    have J2 : ∀ (R : Int × Int × ByteArray × List SDoc × Int) (w : Bool), w = (decide (r = 1) || decide (r = 2)) → Ev (fun k => spec_l1Some.j1 k ((n + 1 : Nat) : Int) r w b (p + 1)) R → Ev (fun k => spec_l1Some.f k b p ((n + 1 : Nat) : Int)) R := by
      intro R w hw h
      refine J _ (Ev.bind g1 ?_)
      simp only [if_neg c0]
      refine Ev.iff (fun c => ?_) (fun c => ?_)
      · rw [show (r == 1) = w by rw [hw]; simp [c]]
        exact h
      · rw [show (r == 2) = w by rw [hw, decide_eq_false (show ¬ r = 1 from c), Bool.false_or]; rfl]
        exact h
    by_cases c1 : r = 1 ∨ r = 2
    · obtain ⟨m, hm, g2⟩ := num_ev hb (p + 1) [2, 1, 4, 0, 9] (by simp) (by omega) (by omega)
      have hm9 : 0 ≤ m ∧ m ≤ 9 := by
        simp only [List.mem_cons, List.not_mem_nil, or_false] at hm
        omega
      obtain ⟨d, q, h, h1, h2, h4, h5⟩ := ih (p + 1 + 1) (by omega) (by omega)
      refine ⟨⟨6, m, ⟨#[]⟩, [d]⟩, q, J2 _ true (by rcases c1 with rfl | rfl <;> rfl) (Ev.step (fun k => by rw [spec_l1Some.j1]) ?_), ?_, ?_, by omega, by omega⟩
      · simp only [if_true, w1]
        refine Ev.bind g2 (Ev.bind h ?_)
        simp only [SDoc_eta]
        exact Ev.now _
      · exact wf_of (by omega) (by omega) rfl hm9.1 hm9.2 (.inr rfl) (by omega) (fun _ => rfl) (fun y hy => by rw [List.mem_singleton.1 hy]; exact h1)
      · simp only [dsz, dszL]; omega
    have hw : false = (decide (r = 1) || decide (r = 2)) := by
      rw [decide_eq_false (fun e => c1 (.inl e)), decide_eq_false (fun e => c1 (.inr e))]; rfl
    have J3 : ∀ (R : Int × Int × ByteArray × List SDoc × Int) (w : Bool), w = (decide (r = 3) || (decide (r = 4) || decide (r = 5))) → Ev (fun k => spec_l1Some.j2 k ((n + 1 : Nat) : Int) r w b (p + 1)) R → Ev (fun k => spec_l1Some.f k b p ((n + 1 : Nat) : Int)) R := by
      intro R w hw' h
      refine J2 _ false hw (Ev.step (fun k => by rw [spec_l1Some.j1]) ?_)
      simp only [Bool.false_eq_true, if_false]
      refine Ev.iff (fun c => ?_) (fun c => Ev.iff (fun c' => ?_) (fun c' => ?_))
      · rw [show (r == 3) = w by rw [hw']; simp [c]]
        exact h
      · rw [show (r == 4) = w by rw [hw', decide_eq_false (show ¬ r = 3 from c), Bool.false_or, decide_eq_true (show r = 4 from c'), show (r == 4) = true by rw [show r = 4 from c']; rfl]; rfl]
        exact h
      · rw [show (r == 5) = w by rw [hw', decide_eq_false (show ¬ r = 3 from c), Bool.false_or, decide_eq_false (show ¬ r = 4 from c'), Bool.false_or]; rfl]
        exact h
    by_cases c3 : r = 3 ∨ r = 4 ∨ r = 5
    · obtain ⟨d, q, h, h1, h2, h4, h5⟩ := ih (p + 1) (by omega) (by omega)
      refine ⟨⟨8, 0, ⟨#[]⟩, [d]⟩, q, J3 _ true (by rcases c3 with rfl | rfl | rfl <;> rfl) (Ev.step (fun k => by rw [spec_l1Some.j2]) ?_), ?_, ?_, by omega, by omega⟩
      · simp only [if_true, w1]
        refine Ev.bind h ?_
        simp only [SDoc_eta]
        exact Ev.now _
      · exact wf_of (by omega) (by omega) rfl (by omega) (by omega) (.inl rfl) (by omega) (fun _ => rfl) (fun y hy => by rw [List.mem_singleton.1 hy]; exact h1)
      · simp only [dsz, dszL]; omega
    have hw3 : false = (decide (r = 3) || (decide (r = 4) || decide (r = 5))) := by
      rw [decide_eq_false (fun e => c3 (.inl e)), decide_eq_false (fun e => c3 (.inr (.inl e))), decide_eq_false (fun e => c3 (.inr (.inr e)))]; rfl
    have cat : ∀ (x y : SDoc) (m : Nat), wf x m = true → wf y m = true → wf ⟨7, 0, ⟨#[]⟩, [x, y]⟩ (m + 1) = true := by
      intro x y m hx hy
      refine wf_of (by omega) (by omega) rfl (by omega) (by omega) (.inl rfl) (by omega) (fun _ => rfl) (fun z hz => ?_)
      simp only [List.mem_cons, List.not_mem_nil, or_false] at hz
      rcases hz with rfl | rfl
      · exact hx
      · exact hy
    by_cases c6 : r = 6
    · obtain ⟨s, g2, hs0, hs⟩ := pick_ev hb (p + 1) 3 (by omega) (by omega)
      obtain ⟨d, q, h, h1, h2, h4, h5⟩ := ih (p + 1 + 1) (by omega) (by omega)
      obtain ⟨d0, q0, i, i1, i2, i4, i5⟩ := some0_ev hb q (by omega) (by omega)
      have hd0 := wf_mono d0 1 (n + 1) (by omega) i1
      have fin : ∀ o : Int, (o = 5 ∨ o = 3) → wf ⟨7, 0, ⟨#[]⟩, [d, ⟨7, 0, ⟨#[]⟩, [⟨o, 0, ⟨#[]⟩, []⟩, d0]⟩]⟩ (n + 1 + 3) = true ∧ dsz ⟨7, 0, ⟨#[]⟩, [d, ⟨7, 0, ⟨#[]⟩, [⟨o, 0, ⟨#[]⟩, []⟩, d0]⟩]⟩ ≤ 5 * (3 * T) - 4 := by
        intro o ho
        refine ⟨cat _ _ (n + 3) h1 (wf_mono _ (n + 1 + 1) _ (by omega) (cat _ _ (n + 1) (dr_leaf o (by omega) n) hd0)), ?_⟩
        simp only [dsz, dszL]
        omega
      by_cases cs : s = 0
      · refine ⟨⟨7, 0, ⟨#[]⟩, [d, ⟨7, 0, ⟨#[]⟩, [⟨5, 0, ⟨#[]⟩, []⟩, d0]⟩]⟩, q0, J3 _ false hw3 (Ev.step (fun k => by rw [spec_l1Some.j2]) ?_), (fin 5 (.inl rfl)).1, (fin 5 (.inl rfl)).2, by omega, by omega⟩
        simp only [Bool.false_eq_true, if_false, if_pos c6, w1]
        refine Ev.bind g2 ?_
        simp only [if_pos cs]
        refine Ev.bind h (Ev.bind i ?_)
        simp only [spec_l1Cat.f, Option.bind_some, SDoc_eta]
        exact Ev.now _
      · refine ⟨⟨7, 0, ⟨#[]⟩, [d, ⟨7, 0, ⟨#[]⟩, [⟨3, 0, ⟨#[]⟩, []⟩, d0]⟩]⟩, q0, J3 _ false hw3 (Ev.step (fun k => by rw [spec_l1Some.j2]) ?_), (fin 3 (.inr rfl)).1, (fin 3 (.inr rfl)).2, by omega, by omega⟩
        simp only [Bool.false_eq_true, if_false, if_pos c6, w1]
        refine Ev.bind g2 ?_
        simp only [if_neg cs]
        refine Ev.bind h (Ev.bind i ?_)
        simp only [spec_l1Cat.f, Option.bind_some, SDoc_eta]
        exact Ev.now _
    · obtain ⟨d, q, h, h1, h2, h4, h5⟩ := ih (p + 1) (by omega) (by omega)
      obtain ⟨d', q', i, i1, i2, i4, i5⟩ := ih q (by omega) (by omega)
      refine ⟨⟨7, 0, ⟨#[]⟩, [d, d']⟩, q', J3 _ false hw3 (Ev.step (fun k => by rw [spec_l1Some.j2]) ?_), cat _ _ (n + 3) h1 i1, ?_, by omega, by omega⟩
      · simp only [Bool.false_eq_true, if_false, if_neg c6, w1]
        refine Ev.bind h (Ev.bind i ?_)
        simp only [spec_l1Cat.f, Option.bind_some, SDoc_eta]
        exact Ev.now _
      · simp only [dsz, dszL]; omega
def VDoc (d : SDoc) : Prop := docV d = true ∧ msz d ≤ 1040
theorem vdoc_of {d : SDoc} (h : docV d = true) : VDoc d := by
  obtain ⟨h1, h2⟩ := (docV_iff d).1 h
  have := wf_msz d 40 h1
  exact ⟨h, by omega⟩
theorem draw_loop {b : List Int} (hb : Code b) (L : List ByteArray) (hL0 : 0 < L.length) (hL : ∀ s ∈ L, s.size ≤ 1000) : ∀ (m : Nat) (i : Nat), i + m = 3 → ∀ p : Int, 0 ≤ p → p ≤ 100000000 + 10000 * i →
    ∃ (d : SDoc) (q : Int), Ev (fun k => spec_l1Draw.l0 k L (i : Int) b p) (d.f0, d.f1, d.f2, d.f3, q) ∧ VDoc d ∧ p ≤ q ∧ q ≤ p + 5000 * (m + 1) := by
  intro m
  induction m with
  | zero =>
    intro i hi p hp0 hp
    obtain ⟨d, q, h, h1, h2, h3, h4⟩ := some_ev hb 2 (by omega) p hp0 (by omega)
    refine ⟨d, q, Ev.step (fun k => by rw [spec_l1Draw.l0]) ?_, vdoc_of ((docV_iff d).2 ⟨wf_mono d 5 40 (by omega) h1, by omega⟩), h3, by omega⟩
    simp only [if_neg (show ¬ (i : Int) < 3 by omega)]
    exact Ev.bind h (Ev.now _)
  | succ m ih =>
    intro i hi p hp0 hp
    have c : (i : Int) < 3 := by omega
    have w1 : wrap64 ((i : Int) + 1) = ((i + 1 : Nat) : Int) := by rw [w64 (by omega) (by omega)]; omega
    obtain ⟨r, g1, hr0, hr⟩ := pick_ev hb p 3 hp0 (by omega)
    have J1 : ∀ p' : Int, p + 1 ≤ p' → p' ≤ p + 2 → ∃ (d : SDoc) (q : Int), Ev (fun k => spec_l1Draw.j1 k L (i : Int) b p') (d.f0, d.f1, d.f2, d.f3, q) ∧ VDoc d ∧ p ≤ q ∧ q ≤ p + 5000 * (m + 1 + 1) := by
      intro p' h1 h2
      obtain ⟨n, hn, g2⟩ := num_ev hb p' [4, 3, 5, 2] (by simp) (by omega) (by omega)
      simp only [List.mem_cons, List.not_mem_nil, or_false] at hn
      obtain ⟨n', hn', rfl⟩ : ∃ n' : Nat, n' ≤ 5 ∧ n = (n' : Int) := ⟨n.toNat, by omega, by omega⟩
      obtain ⟨d, q, h, k1, k2, k3, k4⟩ := some_ev hb n' hn' (p' + 1) (by omega) (by
        have h3b : 3 ^ n' ≤ 3 ^ 5 := Nat.pow_le_pow_right (by omega) hn'
        have h3c : (3 : Nat) ^ 5 = 243 := rfl
        have e3j : ((3 : Int) ^ n') = ((3 ^ n' : Nat) : Int) := by simp
        rw [e3j]
        omega)
      have h3b : 3 ^ n' ≤ 3 ^ 5 := Nat.pow_le_pow_right (by omega) hn'
      have h3c : (3 : Nat) ^ 5 = 243 := rfl
      have e3j : ((3 : Int) ^ n') = ((3 ^ n' : Nat) : Int) := by simp
      rw [e3j] at k4
      generalize 3 ^ n' = T at *
      have km := wf_msz d _ k1
      obtain ⟨d2, q2, h2', v2, m2, m3⟩ := ih (i + 1) (by omega) q (by omega) (by omega)
      by_cases cv : docV d = true
      · by_cases c4 : (dsz d : Int) ≤ 40
        · refine ⟨d, q, Ev.step (fun k => by rw [spec_l1Draw.j1]) (Ev.bind g2 (Ev.bind h (Ev.bind (specValid_ev d (by omega)) ?_))), vdoc_of cv, by omega, by omega⟩
          simp only [if_pos cv]
          refine Ev.bind (specCount_ev d (by omega)) ?_
          simp only [if_pos c4]
          exact Ev.now _
        · refine ⟨d2, q2, Ev.step (fun k => by rw [spec_l1Draw.j1]) (Ev.bind g2 (Ev.bind h (Ev.bind (specValid_ev d (by omega)) ?_))), v2, by omega, by omega⟩
          simp only [if_pos cv]
          refine Ev.bind (specCount_ev d (by omega)) ?_
          simp only [if_neg c4, w1]
          exact h2'
      · refine ⟨d2, q2, Ev.step (fun k => by rw [spec_l1Draw.j1]) (Ev.bind g2 (Ev.bind h (Ev.bind (specValid_ev d (by omega)) ?_))), v2, by omega, by omega⟩
        simp only [if_neg cv, w1]
        exact h2'
    by_cases c0 : r = 0
    · obtain ⟨j, g2, hj0, hj⟩ := pick_ev hb (p + 1) (L.length : Int) (by omega) (by omega)
      have hj := hj (by omega)
      have hjl : j.toNat < L.length := by omega
      have hsz : (rdOf ByteArray.empty L j).size ≤ 1000 := by
        unfold rdOf
        rw [List.getD_eq_getElem?_getD, List.getElem?_eq_getElem hjl]
        exact hL _ (List.getElem_mem hjl)
      have hp := specParse_ev (rdOf ByteArray.empty L j) (by omega)
      cases hd : parseR (rdOf ByteArray.empty L j).data.toList with
      | none =>
        rw [hd] at hp
        obtain ⟨d, q, h1, h2, h3, h4⟩ := J1 (p + 1 + 1) (by omega) (by omega)
        refine ⟨d, q, Ev.step (fun k => by rw [spec_l1Draw.l0]) ?_, h2, h3, h4⟩
        simp only [if_pos c]
        refine Ev.bind g1 ?_
        simp only [if_pos c0]
        refine Ev.bind g2 ?_
        simp only [if_pos hj0, if_pos hj]
        refine Ev.bind hp ?_
        simp only [docR, Bool.false_eq_true, if_false]
        exact h1
      | some d =>
        rw [hd] at hp
        have hv : docV d = true := by
          unfold parseR at hd
          split at hd
          · split at hd
            · rename_i hv
              obtain rfl := Option.some.inj hd
              exact hv
            · cases hd
          · cases hd
        refine ⟨d, p + 1 + 1, Ev.step (fun k => by rw [spec_l1Draw.l0]) ?_, vdoc_of hv, by omega, by omega⟩
        simp only [if_pos c]
        refine Ev.bind g1 ?_
        simp only [if_pos c0]
        refine Ev.bind g2 ?_
        simp only [if_pos hj0, if_pos hj]
        refine Ev.bind hp ?_
        simp only [docR, if_true]
        exact Ev.now _
    · obtain ⟨d, q, h1, h2, h3, h4⟩ := J1 (p + 1) (by omega) (by omega)
      refine ⟨d, q, Ev.step (fun k => by rw [spec_l1Draw.l0]) ?_, h2, h3, h4⟩
      simp only [if_pos c]
      refine Ev.bind g1 ?_
      simp only [if_neg c0]
      exact h1
theorem draw_ev {b : List Int} (hb : Code b) (p : Int) (hp0 : 0 ≤ p) (hp : p ≤ 100000000) : ∃ (d : SDoc) (q : Int), Ev (fun k => spec_l1Draw.f k b p) (d.f0, d.f1, d.f2, d.f3, q) ∧ VDoc d ∧ p ≤ q ∧ q ≤ p + 20000 := by
  have key : ∀ L : List ByteArray, 0 < L.length → (∀ s ∈ L, s.size ≤ 1000) → ∃ (d : SDoc) (q : Int), Ev (fun k => spec_l1Draw.l0 k L 0 b p) (d.f0, d.f1, d.f2, d.f3, q) ∧ VDoc d ∧ p ≤ q ∧ q ≤ p + 20000 := by
    intro L h1 h2
    obtain ⟨d, q, h, v, m1, m2⟩ := draw_loop hb L h1 h2 3 0 (by omega) p hp0 (by omega)
    exact ⟨d, q, h, v, m1, by omega⟩
  have : ∀ L : List ByteArray, (0 < L.length ∧ ∀ s ∈ L, s.size ≤ 1000) → (∀ k, spec_l1Draw.f k b p = spec_l1Draw.l0 k L 0 b p) → ∃ (d : SDoc) (q : Int), Ev (fun k => spec_l1Draw.f k b p) (d.f0, d.f1, d.f2, d.f3, q) ∧ VDoc d ∧ p ≤ q ∧ q ≤ p + 20000 := by
    intro L hL hf
    obtain ⟨d, q, h, v⟩ := key L hL.1 hL.2
    exact ⟨d, q, Ev.congr hf h, v⟩
  refine this _ ?_ (fun k => rfl)
  decide +kernel
end Go.Proofs.Ytdhdfmmefghijaa.Pure
namespace Go.Proofs.Ytdhdfmmefghijaa.Pure
open Go.RowKit Go.Proofs.Ytdhdfmmefghijaa.P Go.Proofs.YtdhdfmmefghijaaW.PrintWords Go.Proofs.YtdhdfmmefghijaaW.PrintLast Go.Proofs.YtdhdfmmefghijaaW.PrintMore
set_option linter.unusedVariables false
set_option linter.unusedSimpArgs false
theorem mszL_set : ∀ (ks : List SDoc) (i : Nat) (y : SDoc) (h : i < ks.length), mszL (ks.set i y) + msz ks[i] = mszL ks + msz y
  | k :: ks, 0, y, _ => by simp [mszL]; omega
  | k :: ks, i + 1, y, h => by
    have := mszL_set ks i y (by simpa using h)
    simp [mszL]
    omega
theorem mutate_ev {b : List Int} (hb : Code b) : ∀ (d : SDoc) (p : Int), 0 ≤ p → p + 4 * dsz d ≤ 800000000 → msz d ≤ 1000000 → ∃ (d' : SDoc) (q : Int), Ev (fun k => spec_l1Mutate.f k b p d.f0 d.f1 d.f2 d.f3) (d'.f0, d'.f1, d'.f2, d'.f3, q) ∧ msz d' ≤ msz d + 13 ∧ p ≤ q ∧ q ≤ p + 4 * dsz d := by
  intro d
  induction d using SDoc.ind with
  | h o n t ks ih =>
    intro p hp0 hp hm
    have hcp := specCopy_ev ⟨o, n, t, ks⟩ (by omega)
    simp only [dsz] at hp ⊢
    have hml := mszL_len ks
    simp only [msz] at hm
    have J0 : ∀ p' : Int, 0 ≤ p' → p ≤ p' → p' ≤ p + 1 → ∃ (d' : SDoc) (q : Int), Ev (fun k => spec_l1Mutate.j0 k false b p' o n t ks) (d'.f0, d'.f1, d'.f2, d'.f3, q) ∧ msz d' ≤ msz ⟨o, n, t, ks⟩ + 13 ∧ p ≤ q ∧ q ≤ p + 3 := by
      intro p' h0 h1 h2
      obtain ⟨r, g1, _, _⟩ := pick_ev hb p' 14 h0 (by omega)
      have S : ∀ R, Ev (fun k => (spec_l15Rd_pick.f k b p' 14).bind fun bt729 => (if bt729.1 = 0 then ((spec_l15Rd_num.f k b bt729.2 (([0, 9, 1, 3, 7] : List Int))).bind fun bt734 => (some (bt734.1, n, t, ks, bt734.2))) else (if bt729.1 = 1 then ((spec_l15Rd_num.f k b bt729.2 (([10, (-1), 1] : List Int))).bind fun bt739 => (some (o, bt739.1, t, ks, bt739.2))) else (if bt729.1 = 2 then ((spec_l15Rd_of.f k b bt729.2 (([(⟨#[]⟩ : ByteArray), (⟨#[65]⟩ : ByteArray), (⟨#[97, 98, 99, 100, 101, 102, 103, 104, 105, 106, 107, 108, 109]⟩ : ByteArray), (⟨#[120, 32, 121]⟩ : ByteArray), (⟨#[122]⟩ : ByteArray)] : List ByteArray))).bind fun bt744 => (some (o, n, bt744.1, ks, bt744.2))) else (if bt729.1 = 3 then (if ks.length < 2513169434916 then (some (o, n, t, (ks ++ [(⟨1, 0, (⟨#[]⟩ : ByteArray), ([] : List (SDoc))⟩ : SDoc)]), bt729.2)) else (none)) else (some (o, n, t, ks, bt729.2))))))) R → Ev (fun k => spec_l1Mutate.j0 k false b p' o n t ks) R := by
        intro R h
        refine Ev.step (fun k => by rw [spec_l1Mutate.j0]) ?_
        simp only [Bool.false_eq_true, if_false]
        exact h
      by_cases c0 : r = 0
      · obtain ⟨s, _, g2⟩ := num_ev hb (p' + 1) [0, 9, 1, 3, 7] (by simp) (by omega) (by omega)
        refine ⟨⟨s, n, t, ks⟩, p' + 1 + 1, S _ (Ev.bind g1 ?_), by simp only [msz]; omega, by omega, by omega⟩
        simp only [if_pos c0]
        exact Ev.bind g2 (Ev.now _)
      by_cases c1 : r = 1
      · obtain ⟨s, _, g2⟩ := num_ev hb (p' + 1) [10, (-1), 1] (by simp) (by omega) (by omega)
        refine ⟨⟨o, s, t, ks⟩, p' + 1 + 1, S _ (Ev.bind g1 ?_), by simp only [msz]; omega, by omega, by omega⟩
        simp only [if_neg c0, if_pos c1]
        exact Ev.bind g2 (Ev.now _)
      by_cases c2 : r = 2
      · obtain ⟨s, hs, g2⟩ := of_ev hb (p' + 1) [(⟨#[]⟩ : ByteArray), (⟨#[65]⟩ : ByteArray), (⟨#[97, 98, 99, 100, 101, 102, 103, 104, 105, 106, 107, 108, 109]⟩ : ByteArray), (⟨#[120, 32, 121]⟩ : ByteArray), (⟨#[122]⟩ : ByteArray)] (by simp) (by omega) (by omega)
        have hz : s.size ≤ 13 := by
          have : ∀ s ∈ [(⟨#[]⟩ : ByteArray), (⟨#[65]⟩ : ByteArray), (⟨#[97, 98, 99, 100, 101, 102, 103, 104, 105, 106, 107, 108, 109]⟩ : ByteArray), (⟨#[120, 32, 121]⟩ : ByteArray), (⟨#[122]⟩ : ByteArray)], s.size ≤ 13 := by decide +kernel
          exact this s hs
        refine ⟨⟨o, n, s, ks⟩, p' + 1 + 1, S _ (Ev.bind g1 ?_), by simp only [msz]; omega, by omega, by omega⟩
        simp only [if_neg c0, if_neg c1, if_pos c2]
        exact Ev.bind g2 (Ev.now _)
      by_cases c3 : r = 3
      · refine ⟨⟨o, n, t, ks ++ [⟨1, 0, ⟨#[]⟩, []⟩]⟩, p' + 1, S _ (Ev.bind g1 ?_), ?_, by omega, by omega⟩
        · simp only [if_neg c0, if_neg c1, if_neg c2, if_pos c3, if_pos (show ks.length < 2513169434916 by omega)]
          exact Ev.now _
        · simp only [msz, mszL_app, mszL]
          show 1 + t.size + (mszL ks + (1 + 0 + 0 + 0)) ≤ _
          omega
      · refine ⟨⟨o, n, t, ks⟩, p' + 1, S _ (Ev.bind g1 ?_), by simp only [msz]; omega, by omega, by omega⟩
        simp only [if_neg c0, if_neg c1, if_neg c2, if_neg c3]
        exact Ev.now _
    by_cases c : (ks.length : Int) > 0
    · obtain ⟨r, g1, hr0, hr⟩ := pick_ev hb p 2 hp0 (by omega)
      by_cases cr : r > 0
      · obtain ⟨j, g2, hj0, hj⟩ := pick_ev hb (p + 1) (ks.length : Int) (by omega) (by omega)
        have hj := hj (by omega)
        have hjl : j.toNat < ks.length := by omega
        have hmem : ks[j.toNat] ∈ ks := List.getElem_mem hjl
        have hd := dszL_mem hmem
        have hz := mszL_mem hmem
        have hrd : rd_TDoc ks j = ks[j.toNat] := by
          unfold rd_TDoc
          rw [List.getD_eq_getElem?_getD, List.getElem?_eq_getElem hjl]
          rfl
        obtain ⟨y, q, h, h1, h2, h3⟩ := ih _ hmem (p + 1 + 1) (by omega) (by omega) (by omega)
        refine ⟨⟨o, n, t, ks.set j.toNat y⟩, q, Ev.step (fun k => by rw [spec_l1Mutate.f]) (Ev.bind hcp ?_), ?_, by omega, by omega⟩
        · simp only [if_pos c]
          refine Ev.bind g1 ?_
          rw [decide_eq_true cr]
          refine Ev.step (fun k => by rw [spec_l1Mutate.j0]) ?_
          simp only [if_true]
          refine Ev.bind g2 ?_
          simp only [if_pos hj0, if_pos hj, hrd]
          refine Ev.bind h ?_
          simp only [SDoc_eta]
          exact Ev.now _
        · have := mszL_set ks j.toNat y hjl
          simp only [msz]
          omega
      · obtain ⟨d', q, h, h1, h2, h3⟩ := J0 (p + 1) (by omega) (by omega) (by omega)
        refine ⟨d', q, Ev.step (fun k => by rw [spec_l1Mutate.f]) (Ev.bind hcp ?_), h1, h2, by omega⟩
        simp only [if_pos c]
        refine Ev.bind g1 ?_
        rw [decide_eq_false cr]
        exact h
    · obtain ⟨d', q, h, h1, h2, h3⟩ := J0 p hp0 (by omega) (by omega)
      refine ⟨d', q, Ev.step (fun k => by rw [spec_l1Mutate.f]) (Ev.bind hcp ?_), h1, h2, by omega⟩
      simp only [if_neg c]
      exact h
theorem mutate2_ev {b : List Int} (hb : Code b) (d : SDoc) (p : Int) (hp0 : 0 ≤ p) (hp : p ≤ 700000000) (hm : msz d ≤ 100000) : ∃ (d1 d2 : SDoc) (q q2 : Int), Ev (fun k => spec_l1Mutate.f k b p d.f0 d.f1 d.f2 d.f3) (d1.f0, d1.f1, d1.f2, d1.f3, q) ∧ Ev (fun k => spec_l1Mutate.f k b q d1.f0 d1.f1 d1.f2 d1.f3) (d2.f0, d2.f1, d2.f2, d2.f3, q2) ∧ msz d1 ≤ msz d + 13 ∧ msz d2 ≤ msz d + 26 ∧ p ≤ q ∧ q ≤ q2 ∧ q2 ≤ p + 900000 := by
  have e := dsz_msz d
  obtain ⟨d1, q, h, h1, h2, h3⟩ := mutate_ev hb d p hp0 (by omega) (by omega)
  have e1 := dsz_msz d1
  obtain ⟨d2, q2, k, k1, k2, k3⟩ := mutate_ev hb d1 q (by omega) (by omega) (by omega)
  exact ⟨d1, d2, q, q2, h, k, h1, by omega, h2, k2, by omega⟩
end Go.Proofs.Ytdhdfmmefghijaa.Pure
namespace Go.Proofs.Ytdhdfmmefghijaa.P
open Go.RowKit Go.Proofs.YtdhdfmmefghijaaW.PrintWords Go.Proofs.YtdhdfmmefghijaaW.PrintLast Go.Proofs.YtdhdfmmefghijaaW.PrintMore
attribute [local go_sem] max2_int min2_int max_two min_two max_three min_three max_four min_four
set_option linter.unusedVariables false
set_option linter.unusedSimpArgs false
def spec_DrawDocValid.f (k:Nat) (l0:List Int):Option (Int × Int × ByteArray × (List (SDoc))):=(spec_l15Open.f l0).bind fun bt485=>((spec_l1Draw.f k bt485.1 bt485.2).bind fun bt488=>((spec_l1Mutate.f k bt485.1 bt488.2.2.2.2 bt488.1 bt488.2.1 bt488.2.2.1 bt488.2.2.2.1).bind fun bt495=>((spec_l1Mutate.f k bt485.1 bt495.2.2.2.2 bt495.1 bt495.2.1 bt495.2.2.1 bt495.2.2.2.1).bind fun bt502=>(some (bt502.1,bt502.2.1,bt502.2.2.1,bt502.2.2.2.1)))))
end Go.Proofs.Ytdhdfmmefghijaa.P
namespace Go.Proofs.Ytdhdfmmefghijaa.P
open Go.RowKit Go.Proofs.YtdhdfmmefghijaaW.PrintWords Go.Proofs.YtdhdfmmefghijaaW.PrintLast Go.Proofs.YtdhdfmmefghijaaW.PrintMore
attribute [local go_sem] max2_int min2_int max_two min_two max_three min_three max_four min_four
set_option linter.unusedVariables false
set_option linter.unusedSimpArgs false
def spec_DrawCanFlatten.f (k:Nat) (l0:List Int):Option (Int × Int × ByteArray × (List (SDoc))):=(spec_DrawDocValid.f k l0).bind fun bt535=>(some (bt535.1,bt535.2.1,bt535.2.2.1,bt535.2.2.2))
end Go.Proofs.Ytdhdfmmefghijaa.P
namespace Go.Proofs.Ytdhdfmmefghijaa.P
open Go.RowKit Go.Proofs.YtdhdfmmefghijaaW.PrintWords Go.Proofs.YtdhdfmmefghijaaW.PrintLast Go.Proofs.YtdhdfmmefghijaaW.PrintMore
attribute [local go_sem] max2_int min2_int max_two min_two max_three min_three max_four min_four
set_option linter.unusedVariables false
set_option linter.unusedSimpArgs false
def spec_DrawFormatDoc.f (k:Nat) (l0:List Int):Option (Int × Int × ByteArray × (List (SDoc))):=(spec_DrawDocValid.f k l0).bind fun bt832=>(some (bt832.1,bt832.2.1,bt832.2.2.1,bt832.2.2.2))
end Go.Proofs.Ytdhdfmmefghijaa.P
namespace Go.Proofs.Ytdhdfmmefghijaa.P
open Go.RowKit Go.Proofs.YtdhdfmmefghijaaW.PrintWords Go.Proofs.YtdhdfmmefghijaaW.PrintLast Go.Proofs.YtdhdfmmefghijaaW.PrintMore
attribute [local go_sem] max2_int min2_int max_two min_two max_three min_three max_four min_four
set_option linter.unusedVariables false
set_option linter.unusedSimpArgs false
def spec_DrawCatDocs.f (k:Nat) (l0:List Int):Option (Int × Int × ByteArray × (List (SDoc)) × Int × Int × ByteArray × (List (SDoc))):=(spec_l15Open.f l0).bind fun bt645=>((spec_l1Draw.f k bt645.1 bt645.2).bind fun bt648=>((spec_l1Mutate.f k bt645.1 bt648.2.2.2.2 bt648.1 bt648.2.1 bt648.2.2.1 bt648.2.2.2.1).bind fun bt655=>((spec_l1Draw.f k bt645.1 bt655.2.2.2.2).bind fun bt662=>((spec_l1Mutate.f k bt645.1 bt662.2.2.2.2 bt662.1 bt662.2.1 bt662.2.2.1 bt662.2.2.2.1).bind fun bt669=>(some (bt655.1,bt655.2.1,bt655.2.2.1,bt655.2.2.2.1,bt669.1,bt669.2.1,bt669.2.2.1,bt669.2.2.2.1))))))
end Go.Proofs.Ytdhdfmmefghijaa.P
namespace Go.Proofs.Ytdhdfmmefghijaa.P
open Go.RowKit Go.Proofs.YtdhdfmmefghijaaW.PrintWords Go.Proofs.YtdhdfmmefghijaaW.PrintLast Go.Proofs.YtdhdfmmefghijaaW.PrintMore
attribute [local go_sem] max2_int min2_int max_two min_two max_three min_three max_four min_four
set_option linter.unusedVariables false
set_option linter.unusedSimpArgs false
def spec_DrawFlatText.f (k:Nat) (l0:List Int):Option (Int × Int × ByteArray × (List (SDoc))):=(spec_l15Open.f l0).bind fun bt777=>((spec_l1Draw.f k bt777.1 bt777.2).bind fun bt780=>((spec_l15Rd_pick.f k bt777.1 bt780.2.2.2.2 12).bind fun bt788=>(if bt788.1=0 then ((spec_l1Mutate.f k bt777.1 bt788.2 bt780.1 bt780.2.1 bt780.2.2.1 bt780.2.2.2.1).bind fun bt790=>((spec_l1Mutate.f k bt777.1 bt790.2.2.2.2 bt790.1 bt790.2.1 bt790.2.2.1 bt790.2.2.2.1).bind fun bt797=>(some (bt797.1,bt797.2.1,bt797.2.2.1,bt797.2.2.2.1)))) else (some (bt780.1,bt780.2.1,bt780.2.2.1,bt780.2.2.2.1)))))
end Go.Proofs.Ytdhdfmmefghijaa.P
namespace Go.Proofs.Ytdhdfmmefghijaa.Pure
open Go.RowKit Go.Proofs.Ytdhdfmmefghijaa.P Go.Proofs.YtdhdfmmefghijaaW.PrintWords Go.Proofs.YtdhdfmmefghijaaW.PrintLast Go.Proofs.YtdhdfmmefghijaaW.PrintMore
set_option linter.unusedVariables false
set_option linter.unusedSimpArgs false
theorem drawSame_ev (l : List Int) (hl : l.length ≤ maxLen) (h : ∀ x ∈ l, (Lit.int .u8 x).wf = true) : ∃ d c : SDoc, Ev (fun k => spec_DrawDocSame.f k l) (d.f0, d.f1, d.f2, d.f3, c.f0, c.f1, c.f2, c.f3) ∧ msz d ≤ 1066 ∧ msz c ≤ 1066 := by
  obtain ⟨b, hb, e⟩ := open_ev l hl h
  obtain ⟨d, q, h1, h2, h3, h4⟩ := draw_ev hb 0 (by omega) (by omega)
  have hm := h2.2
  obtain ⟨i, g, _, _⟩ := pick_ev hb q 4 (by omega) (by omega)
  by_cases c0 : i = 0
  · obtain ⟨c, q', i1, i2, _, _⟩ := draw_ev hb (q + 1) (by omega) (by omega)
    have hm' := i2.2
    refine ⟨d, c, Ev.congr (fun k => by rw [spec_DrawDocSame.f, e]) ?_, by omega, by omega⟩
    simp only [Option.bind_some]
    refine Ev.bind h1 (Ev.bind g ?_)
    simp only [if_pos c0]
    exact Ev.bind i1 (Ev.now _)
  · obtain ⟨d1, d2, q1, q2, i1, i2, i3, i4, i5, i6, i7⟩ := mutate2_ev hb d (q + 1) (by omega) (by omega) (by omega)
    refine ⟨d, d2, Ev.congr (fun k => by rw [spec_DrawDocSame.f, e]) ?_, by omega, by omega⟩
    simp only [Option.bind_some]
    refine Ev.bind h1 (Ev.bind g ?_)
    simp only [if_neg c0]
    exact Ev.bind i1 (Ev.bind i2 (Ev.now _))
end Go.Proofs.Ytdhdfmmefghijaa.Pure
namespace Go.Proofs.Ytdhdfmmefghijaa.Pure
open Go.RowKit Go.Proofs.Ytdhdfmmefghijaa.P Go.Proofs.YtdhdfmmefghijaaW.PrintWords Go.Proofs.YtdhdfmmefghijaaW.PrintLast Go.Proofs.YtdhdfmmefghijaaW.PrintMore
set_option linter.unusedVariables false
set_option linter.unusedSimpArgs false
theorem big_or {l : List Int} {f : Nat → Option Bool} (h : Ev f true) : Ev (fun k => if (l.length : Int) > 1048576 then (some true) else f k) true := Ev.iff (fun _ => Ev.now _) (fun _ => h)
end Go.Proofs.Ytdhdfmmefghijaa.Pure
namespace Go.Proofs.Ytdhdfmmefghijaa.Pure
open Go.RowKit Go.Proofs.Ytdhdfmmefghijaa.P Go.Proofs.YtdhdfmmefghijaaW.PrintWords Go.Proofs.YtdhdfmmefghijaaW.PrintLast Go.Proofs.YtdhdfmmefghijaaW.PrintMore
set_option linter.unusedVariables false
set_option linter.unusedSimpArgs false
mutual
def dsame : SDoc → SDoc → Bool
  | ⟨o, n, t, ks⟩, e => decide (o = e.f0) && (decide (n = e.f1) && (decide (t.toList = e.f2.toList) && (decide (ks.length = e.f3.length) && dsameL ks e.f3)))
def dsameL : List SDoc → List SDoc → Bool
  | [], _ => true
  | _ :: _, [] => true
  | k :: ks, e :: es => dsame k e && dsameL ks es
end
theorem specSame_loop (o n o' n' : Int) (t t' : ByteArray) (suf : List SDoc) : ∀ (pre pre' suf' : List SDoc),
    (∀ y, y ∈ suf → ∀ e, Ev (fun k => spec_DocSame.f k y.f0 y.f1 y.f2 y.f3 e.f0 e.f1 e.f2 e.f3) (dsame y e)) → pre.length = pre'.length → suf.length = suf'.length → pre.length + suf.length ≤ 4611686018427387904 →
    Ev (fun k => spec_DocSame.l0 k (pre.length : Int) o n t (pre ++ suf) o' n' t' (pre' ++ suf')) (dsameL suf suf') := by
  induction suf with
  | nil =>
    intro pre pre' suf' _ hp hs hm
    refine Ev.step (fun k => by rw [spec_DocSame.l0]) ?_
    simp only [List.append_nil, Int.lt_irrefl, if_false, dsameL]
    exact Ev.now _
  | cons y suf ih =>
    intro pre pre' suf' hy hp hs hm
    cases suf' with
    | nil => simp at hs
    | cons e suf' =>
      simp only [List.length_cons] at hm hs
      refine Ev.step (fun k => by rw [spec_DocSame.l0]) ?_
      have c1 : (pre.length : Int) < ((pre ++ y :: suf).length : Int) := by simp; omega
      have c2 : (0 : Int) ≤ (pre.length : Int) := by omega
      have c3 : (pre.length : Int) < ((pre' ++ e :: suf').length : Int) := by simp; omega
      have r' : rd_TDoc (pre' ++ e :: suf') (pre.length : Int) = e := by rw [hp]; exact rdD pre' suf' e
      simp only [if_pos c1, if_pos c2, if_pos c3, rdD, r']
      refine Ev.bind (hy y List.mem_cons_self e) ?_
      rw [w64 (by omega) (by omega)]
      have := ih (pre ++ [y]) (pre' ++ [e]) suf' (fun z hz => hy z (List.mem_cons_of_mem _ hz)) (by simp; omega) (by omega) (by simp; omega)
      rw [List.append_assoc, List.append_assoc, show ((pre ++ [y]).length : Int) = (pre.length : Int) + 1 by simp] at this
      rw [dsameL]
      cases dsame y e
      · exact Ev.now _
      · simpa using this
theorem specSame_ev : ∀ (d e : SDoc), dsz d ≤ 4611686018427387904 → Ev (fun k => spec_DocSame.f k d.f0 d.f1 d.f2 d.f3 e.f0 e.f1 e.f2 e.f3) (dsame d e) := by
  intro d
  induction d using SDoc.ind with
  | h o n t ks ih =>
    intro e hd
    simp only [dsz] at hd
    have hl := dszL_len ks
    have F : Ev (fun k => spec_DocSame.j0 k true o n t ks e.f0 e.f1 e.f2 e.f3) false := by
      refine Ev.step (fun k => by rw [spec_DocSame.j0]) ?_
      exact Ev.now _
    refine Ev.step (fun k => by rw [spec_DocSame.f]) ?_
    refine Ev.iff (fun h0 => ?_) (fun h0 => by simpa [dsame, h0] using F)
    refine Ev.iff (fun h1 => ?_) (fun h1 => by simpa [dsame, h1] using F)
    refine Ev.iff (fun h2 => ?_) (fun h2 => by simpa [dsame, h2] using F)
    have h0 : o = e.f0 := h0
    have h1 : n = e.f1 := h1
    have h2 : t.toList = e.f2.toList := h2
    by_cases h3 : ks.length = e.f3.length
    · have := specSame_loop o n e.f0 e.f1 t e.f2 ks [] [] e.f3 (fun y hy e => ih y hy e (by have := dszL_mem hy; omega)) rfl h3 (by simp; omega)
      refine Ev.step (fun k => by rw [spec_DocSame.j0]) ?_
      simpa [dsame, h0, h1, h2, h3] using this
    · have h4 : ((ks.length : Int) != (e.f3.length : Int)) = true := by simp; omega
      simpa [dsame, h3, h4] using F
theorem implSame_loop (o n o' n' : Int) (t t' : ByteArray) (suf : List SDoc) : ∀ (pre pre' suf' : List SDoc),
    (∀ y, y ∈ suf → ∀ e, Ev (fun k => impl_DocSame.f k y.f0 y.f1 y.f2 y.f3 e.f0 e.f1 e.f2 e.f3) (dsame y e)) → pre.length = pre'.length → suf.length = suf'.length → pre.length + suf.length ≤ 4611686018427387904 →
    Ev (fun k => impl_DocSame.l0 k ((pre ++ suf).length : Int) (pre.length : Int) o n t (pre ++ suf) o' n' t' (pre' ++ suf')) (dsameL suf suf') := by
  induction suf with
  | nil =>
    intro pre pre' suf' _ hp hs hm
    refine Ev.step (fun k => by rw [impl_DocSame.l0]) ?_
    simp only [List.append_nil, Int.lt_irrefl, if_false, dsameL]
    exact Ev.now _
  | cons y suf ih =>
    intro pre pre' suf' hy hp hs hm
    cases suf' with
    | nil => simp at hs
    | cons e suf' =>
      simp only [List.length_cons] at hm hs
      refine Ev.step (fun k => by rw [impl_DocSame.l0]) ?_
      have c1 : (pre.length : Int) < ((pre ++ y :: suf).length : Int) := by simp; omega
      have c2 : (0 : Int) ≤ (pre.length : Int) := by omega
      have c3 : (pre.length : Int) < ((pre' ++ e :: suf').length : Int) := by simp; omega
      have r' : rd_TDoc (pre' ++ e :: suf') (pre.length : Int) = e := by rw [hp]; exact rdD pre' suf' e
      simp only [if_pos c1, if_pos c2, if_pos c3, rdD, r']
      refine Ev.bind (hy y List.mem_cons_self e) ?_
      rw [w64 (by omega) (by omega)]
      have := ih (pre ++ [y]) (pre' ++ [e]) suf' (fun z hz => hy z (List.mem_cons_of_mem _ hz)) (by simp; omega) (by omega) (by simp; omega)
      rw [List.append_assoc, List.append_assoc, show ((pre ++ [y]).length : Int) = (pre.length : Int) + 1 by simp] at this
      rw [dsameL]
      cases dsame y e
      · exact Ev.now _
      · simpa using this
theorem implSame_ev : ∀ (d e : SDoc), dsz d ≤ 4611686018427387904 → Ev (fun k => impl_DocSame.f k d.f0 d.f1 d.f2 d.f3 e.f0 e.f1 e.f2 e.f3) (dsame d e) := by
  intro d
  induction d using SDoc.ind with
  | h o n t ks ih =>
    intro e hd
    simp only [dsz] at hd
    have hl := dszL_len ks
    have F : Ev (fun k => impl_DocSame.j0 k true o n t ks e.f0 e.f1 e.f2 e.f3) false := by
      refine Ev.step (fun k => by rw [impl_DocSame.j0]) ?_
      exact Ev.now _
    refine Ev.step (fun k => by rw [impl_DocSame.f]) ?_
    refine Ev.iff (fun h0 => ?_) (fun h0 => by simpa [dsame, h0] using F)
    refine Ev.iff (fun h1 => ?_) (fun h1 => by simpa [dsame, h1] using F)
    refine Ev.iff (fun h2 => ?_) (fun h2 => by simpa [dsame, h2] using F)
    have h0 : o = e.f0 := h0
    have h1 : n = e.f1 := h1
    have h2 : t.toList = e.f2.toList := h2
    by_cases h3 : ks.length = e.f3.length
    · have := implSame_loop o n e.f0 e.f1 t e.f2 ks [] [] e.f3 (fun y hy e => ih y hy e (by have := dszL_mem hy; omega)) rfl h3 (by simp; omega)
      refine Ev.step (fun k => by rw [impl_DocSame.j0]) ?_
      simpa [dsame, h0, h1, h2, h3] using this
    · have h4 : ((ks.length : Int) != (e.f3.length : Int)) = true := by simp; omega
      simpa [dsame, h3, h4] using F
end Go.Proofs.Ytdhdfmmefghijaa.Pure
namespace Go.Proofs.Ytdhdfmmefghijaa.Pure
open Go.RowKit Go.Proofs.Ytdhdfmmefghijaa.P Go.Proofs.YtdhdfmmefghijaaW.PrintWords Go.Proofs.YtdhdfmmefghijaaW.PrintLast Go.Proofs.YtdhdfmmefghijaaW.PrintMore
set_option linter.unusedVariables false
set_option linter.unusedSimpArgs false
theorem dsameL_iff : ∀ (ks es : List SDoc), ks.length = es.length → (∀ k ∈ ks, ∀ e, dsame k e = true ↔ k = e) → (dsameL ks es = true ↔ ks = es)
  | [], [], _, _ => by simp [dsameL]
  | k :: ks, e :: es, hl, h => by
    rw [dsameL, Bool.and_eq_true, h k List.mem_cons_self e, dsameL_iff ks es (by simpa using hl) (fun z hz => h z (List.mem_cons_of_mem _ hz)), List.cons.injEq]
theorem dsame_iff : ∀ d e : SDoc, dsame d e = true ↔ d = e := by
  intro d
  induction d using SDoc.ind with
  | h o n t ks ih =>
    intro e
    obtain ⟨o', n', t', ks'⟩ := e
    rw [dsame]
    simp only [Bool.and_eq_true, decide_eq_true_eq, SDoc.mk.injEq]
    constructor
    · intro ⟨h1, h2, h3, h4, h5⟩
      exact ⟨h1, h2, toList_inj.1 h3, (dsameL_iff ks ks' h4 (fun k hk e => ih k hk e)).1 h5⟩
    · intro ⟨h1, h2, h3, h4⟩
      subst h4
      exact ⟨h1, h2, toList_inj.2 h3, rfl, (dsameL_iff ks ks rfl (fun k hk e => ih k hk e)).2 rfl⟩
theorem dsame_comm (d e : SDoc) : dsame e d = dsame d e := by rw [Bool.eq_iff_iff, dsame_iff, dsame_iff]; exact eq_comm
theorem dsame_refl (d : SDoc) : dsame d d = true := (dsame_iff d d).2 rfl
end Go.Proofs.Ytdhdfmmefghijaa.Pure
namespace Go.Proofs.Ytdhdfmmefghijaa.P
open Go.RowKit Go.Proofs.YtdhdfmmefghijaaW.PrintWords Go.Proofs.YtdhdfmmefghijaaW.PrintLast Go.Proofs.YtdhdfmmefghijaaW.PrintMore
attribute [local go_sem] max2_int min2_int max_two min_two max_three min_three max_four min_four
set_option linter.unusedVariables false
set_option linter.unusedSimpArgs false
mutual
def spec_l15Dec.l0:Nat→Int→ByteArray→Option (ByteArray)
 | 0,_,_=>none
 | k+1,x0,x3=>if x0 > 9 then ((some (([(wrap64 (48+(Int.tmod x0 10))) % 256]:List Int):List Int)).bind fun y839=>(if (strOfNums y839).size+x3.size≤9223372036854775807 then (spec_l15Dec.l0 k (wrap64 (Int.tdiv x0 10)) ((strOfNums y839)++x3)) else (none))) else ((some (([(wrap64 (48+x0)) % 256]:List Int):List Int)).bind fun y842=>(if (strOfNums y842).size+x3.size≤9223372036854775807 then (some ((strOfNums y842)++x3)) else (none)))
def spec_l15Dec.f:Nat→Int→Option (ByteArray)
 | 0,_=>none
 | k+1,a0=>if a0 < (-9223372036854775807) then (some (⟨#[45,57,50,50,51,51,55,50,48,51,54,56,53,52,55,55,53,56,48,56]⟩:ByteArray)) else (if a0 < 0 then ((spec_l15Dec.f k (wrap64 (-a0))).bind fun t838=>(if 1+t838.size≤9223372036854775807 then (some ((⟨#[45]⟩:ByteArray)++t838)) else (none))) else (spec_l15Dec.l0 k a0 (⟨#[]⟩:ByteArray)))
end
end Go.Proofs.Ytdhdfmmefghijaa.P
namespace Go.Proofs.Ytdhdfmmefghijaa.P
open Go.RowKit Go.Proofs.YtdhdfmmefghijaaW.PrintWords Go.Proofs.YtdhdfmmefghijaaW.PrintLast Go.Proofs.YtdhdfmmefghijaaW.PrintMore
attribute [local go_sem] max2_int min2_int max_two min_two max_three min_three max_four min_four
set_option linter.unusedVariables false
set_option linter.unusedSimpArgs false
def spec_l1Text.f:Nat→Int→Int→ByteArray→List (SDoc)→Option (ByteArray)
 | 0,_,_,_,_=>none
 | k+1,a0_0,a0_1,a0_2,l0_3=>if a0_0=1 then (some (⟨#[126]⟩:ByteArray)) else (if a0_0=2 then (if 1+a0_2.size≤9223372036854775807 then (if ((⟨#[34]⟩:ByteArray)++a0_2).size+1≤9223372036854775807 then (some (((⟨#[34]⟩:ByteArray)++a0_2)++(⟨#[34]⟩:ByteArray))) else (none)) else (none)) else (if a0_0=3 then (some (⟨#[95]⟩:ByteArray)) else (if a0_0=4 then (some (⟨#[46]⟩:ByteArray)) else (if a0_0=5 then (some (⟨#[33]⟩:ByteArray)) else (if a0_0=6 then ((spec_l15Dec.f k a0_1).bind fun t846=>(if t846.size+1≤9223372036854775807 then (if 0 < (l0_3.length:Int) then ((spec_l1Text.f k ((rd_TDoc l0_3 0).f0) ((rd_TDoc l0_3 0).f1) ((rd_TDoc l0_3 0).f2) ((rd_TDoc l0_3 0).f3)).bind fun t848=>(if (t846++(⟨#[60]⟩:ByteArray)).size+t848.size≤9223372036854775807 then (if ((t846++(⟨#[60]⟩:ByteArray))++t848).size+1≤9223372036854775807 then (some (((t846++(⟨#[60]⟩:ByteArray))++t848)++(⟨#[62]⟩:ByteArray))) else (none)) else (none))) else (none)) else (none))) else (if a0_0=7 then (if 0 < (l0_3.length:Int) then ((spec_l1Text.f k ((rd_TDoc l0_3 0).f0) ((rd_TDoc l0_3 0).f1) ((rd_TDoc l0_3 0).f2) ((rd_TDoc l0_3 0).f3)).bind fun t850=>(if 1+t850.size≤9223372036854775807 then (if 1 < (l0_3.length:Int) then ((spec_l1Text.f k ((rd_TDoc l0_3 1).f0) ((rd_TDoc l0_3 1).f1) ((rd_TDoc l0_3 1).f2) ((rd_TDoc l0_3 1).f3)).bind fun t852=>(if ((⟨#[40]⟩:ByteArray)++t850).size+t852.size≤9223372036854775807 then (if (((⟨#[40]⟩:ByteArray)++t850)++t852).size+1≤9223372036854775807 then (some ((((⟨#[40]⟩:ByteArray)++t850)++t852)++(⟨#[41]⟩:ByteArray))) else (none)) else (none))) else (none)) else (none))) else (none)) else (if 0 < (l0_3.length:Int) then ((spec_l1Text.f k ((rd_TDoc l0_3 0).f0) ((rd_TDoc l0_3 0).f1) ((rd_TDoc l0_3 0).f2) ((rd_TDoc l0_3 0).f3)).bind fun t854=>(if 1+t854.size≤9223372036854775807 then (if ((⟨#[91]⟩:ByteArray)++t854).size+1≤9223372036854775807 then (some (((⟨#[91]⟩:ByteArray)++t854)++(⟨#[93]⟩:ByteArray))) else (none)) else (none))) else (none))))))))
def spec_l1Text.T13:Bool × List (List Nat × List Nat):=(true,[([],[]),([0],[0]),([1],[1]),([2],[2]),([],[]),([4],[4]),([5],[5]),([6],[6]),([7,2],[7]),([3,8],[3,8]),([9],[9]),([10,8,0,1,2,3,4,5,6,7,8,9,10],[10])])
def spec_l1Text.B13:List Nat:=[0,1,3,7,0,16,48,112,247,511,1023,2047]
theorem spec_l1Text.tab13:rtab .any (opsOf Try.f63 13)=spec_l1Text.T13:=by kernel_rfl
theorem spec_l1Text.bits13:waitsOk spec_l1Text.T13.2 spec_l1Text.B13=true:=by kernel_rfl
def spec_l1Text.T15:Bool × List (List Nat × List Nat):=(true,[([],[]),([0],[0]),([1],[1]),([2],[2]),([3],[3]),([4],[4]),([],[]),([6],[6]),([7],[7]),([8],[8]),([9,4],[9]),([5,10],[5,10]),([11],[11]),([12,10,0,1,2,3,4,5,6,7,8,9,10,11,12],[12])])
def spec_l1Text.B15:List Nat:=[0,1,3,7,15,31,0,64,192,448,991,2047,4095,8191]
theorem spec_l1Text.tab15:rtab .any (opsOf Try.f63 15)=spec_l1Text.T15:=by kernel_rfl
theorem spec_l1Text.bits15:waitsOk spec_l1Text.T15.2 spec_l1Text.B15=true:=by kernel_rfl
end Go.Proofs.Ytdhdfmmefghijaa.P
namespace Go.Proofs.Ytdhdfmmefghijaa.P
open Go.RowKit Go.Proofs.YtdhdfmmefghijaaW.PrintWords Go.Proofs.YtdhdfmmefghijaaW.PrintLast Go.Proofs.YtdhdfmmefghijaaW.PrintMore
attribute [local go_sem] max2_int min2_int max_two min_two max_three min_three max_four min_four
set_option linter.unusedVariables false
set_option linter.unusedSimpArgs false
def spec_FormatDoc.f (k:Nat) (a0_0:Int) (a0_1:Int) (a0_2:ByteArray) (l0_3:List (SDoc)):Option (ByteArray):=(spec_DocValid.f k a0_0 a0_1 a0_2 l0_3).bind fun t856=>(if t856=true then ((spec_l1Text.f k a0_0 a0_1 a0_2 l0_3).bind fun t857=>(some t857)) else (some (⟨#[]⟩:ByteArray)))
end Go.Proofs.Ytdhdfmmefghijaa.P
namespace Go.Proofs.Ytdhdfmmefghijaa.Pure
open Go.RowKit Go.Proofs.Ytdhdfmmefghijaa.P Go.Proofs.YtdhdfmmefghijaaW.PrintWords Go.Proofs.YtdhdfmmefghijaaW.PrintLast Go.Proofs.YtdhdfmmefghijaaW.PrintMore
set_option linter.unusedVariables false
set_option linter.unusedSimpArgs false
theorem dec1 (n : Int) (h0 : 0 ≤ n) (h1 : n ≤ 9) : Ev (fun k => spec_l15Dec.f k n) (strOfNums [wrap64 (48 + n) % 256]) := by
  refine Ev.step (fun k => by rw [spec_l15Dec.f]) ?_
  simp only [if_neg (show ¬ n < -9223372036854775807 by omega), if_neg (show ¬ n < 0 by omega)]
  refine Ev.step (fun k => by rw [spec_l15Dec.l0]) ?_
  have hz : (strOfNums [wrap64 (48 + n) % 256]).size + (⟨#[]⟩ : ByteArray).size ≤ 9223372036854775807 := by
    rw [show (strOfNums [wrap64 (48 + n) % 256]).size = 1 from rfl]
    show 1 + 0 ≤ _
    omega
  simp only [if_neg (show ¬ n > 9 by omega), Option.bind_some, if_pos hz]
  rw [show strOfNums [wrap64 (48 + n) % 256] ++ (⟨#[]⟩ : ByteArray) = strOfNums [wrap64 (48 + n) % 256] from by apply ByteArray.ext; apply Array.ext'; simp]
  exact Ev.now _
theorem rd0 (y : SDoc) (l : List SDoc) : rd_TDoc (y :: l) 0 = y := by simp [rd_TDoc]
theorem rd1 (x y : SDoc) (l : List SDoc) : rd_TDoc (x :: y :: l) 1 = y := by simp [rd_TDoc]
theorem kids1 {ks : List SDoc} (h : (ks.length : Int) = 1) : ∃ y, ks = [y] := by
  match ks, h with
  | [y], _ => exact ⟨y, rfl⟩
  | [], h => simp at h
  | _ :: _ :: _, h => simp only [List.length_cons] at h; omega
theorem kids2 {ks : List SDoc} (h : (ks.length : Int) = 2) : ∃ x y, ks = [x, y] := by
  match ks, h with
  | [x, y], _ => exact ⟨x, y, rfl⟩
  | [], h => simp at h
  | [_], h => simp at h
  | _ :: _ :: _ :: _, h => simp only [List.length_cons] at h; omega
def fmtN (o n : Int) (t : ByteArray) (ss : List ByteArray) : ByteArray :=
  if o = 1 then ⟨#[126]⟩ else if o = 2 then ((⟨#[34]⟩ : ByteArray) ++ t) ++ (⟨#[34]⟩ : ByteArray) else if o = 3 then ⟨#[95]⟩ else if o = 4 then ⟨#[46]⟩ else if o = 5 then ⟨#[33]⟩
  else if o = 6 then ((strOfNums [wrap64 (48 + n) % 256] ++ (⟨#[60]⟩ : ByteArray)) ++ ss.getD 0 ⟨#[]⟩) ++ (⟨#[62]⟩ : ByteArray) else if o = 7 then (((⟨#[40]⟩ : ByteArray) ++ ss.getD 0 ⟨#[]⟩) ++ ss.getD 1 ⟨#[]⟩) ++ (⟨#[41]⟩ : ByteArray)
  else ((⟨#[91]⟩ : ByteArray) ++ ss.getD 0 ⟨#[]⟩) ++ (⟨#[93]⟩ : ByteArray)
mutual
def fmtB : SDoc → ByteArray
  | ⟨o, n, t, ks⟩ => fmtN o n t (fmtL ks)
def fmtL : List SDoc → List ByteArray
  | [] => []
  | k :: ks => fmtB k :: fmtL ks
end
theorem fmt_ev : ∀ (d : SDoc) (deep : Nat), wf d deep = true → msz d ≤ 1099511627776 → ∃ s : ByteArray, s = fmtB d ∧ s.size ≤ 4 * msz d ∧ Ev (fun k => spec_l1Text.f k d.f0 d.f1 d.f2 d.f3) s ∧ Ev (fun k => impl_formatDoc.f k d.f0 d.f1 d.f2 d.f3) s := by
  intro d
  induction d using SDoc.ind with
  | h o n t ks ih =>
    intro deep hw hd
    obtain ⟨ho1, ho8, hk, hn0, hn9, _, _, ht⟩ := wf_node hw
    have hks := wf_kids hw
    simp only [msz] at hd
    have key : ∀ s : ByteArray, (o = 1 → s = ⟨#[126]⟩) → (o = 3 → s = ⟨#[95]⟩) → (o = 4 → s = ⟨#[46]⟩) → (o = 5 → s = ⟨#[33]⟩) → (o = 1 ∨ o = 3 ∨ o = 4 ∨ o = 5) →
        Ev (fun k => spec_l1Text.f k o n t ks) s ∧ Ev (fun k => impl_formatDoc.f k o n t ks) s := by
      intro s h1 h3 h4 h5 h
      constructor
      · refine Ev.step (fun k => by rw [spec_l1Text.f]) ?_
        rcases h with h | h | h | h <;> subst h <;> simp [h1, h3, h4, h5] <;> exact Ev.now _
      · refine Ev.step (fun k => by rw [impl_formatDoc.f]) ?_
        rcases h with h | h | h | h <;> subst h <;> simp [h1, h3, h4, h5] <;> exact Ev.now _
    have hcase : o = 1 ∨ o = 2 ∨ o = 3 ∨ o = 4 ∨ o = 5 ∨ o = 6 ∨ o = 7 ∨ o = 8 := by omega
    rcases hcase with h | h | h | h | h | h | h | h
    · refine ⟨⟨#[126]⟩, by subst h; rfl, by show 1 ≤ _; simp only [msz]; omega, key _ (fun _ => rfl) (by omega) (by omega) (by omega) (by omega)⟩
    · subst h
      have e1 : 1 + t.size ≤ 9223372036854775807 := by omega
      have e2 : ((⟨#[34]⟩ : ByteArray) ++ t).size + 1 ≤ 9223372036854775807 := by rw [ByteArray.size_append]; show 1 + t.size + 1 ≤ _; omega
      refine ⟨((⟨#[34]⟩ : ByteArray) ++ t) ++ (⟨#[34]⟩ : ByteArray), rfl, ?_, ?_, ?_⟩
      · rw [ByteArray.size_append, ByteArray.size_append]
        show 1 + t.size + 1 ≤ _
        simp only [msz]; omega
      · refine Ev.step (fun k => by rw [spec_l1Text.f]) ?_
        simp only [if_neg (show ¬ (2 : Int) = 1 by omega), if_true, if_pos e1, if_pos e2]
        exact Ev.now _
      · refine Ev.step (fun k => by rw [impl_formatDoc.f]) ?_
        simp only [if_neg (show ¬ (2 : Int) = 1 by omega), if_true, if_pos e1, if_pos e2]
        exact Ev.now _
    · refine ⟨⟨#[95]⟩, by subst h; rfl, by show 1 ≤ _; simp only [msz]; omega, key _ (by omega) (fun _ => rfl) (by omega) (by omega) (by omega)⟩
    · refine ⟨⟨#[46]⟩, by subst h; rfl, by show 1 ≤ _; simp only [msz]; omega, key _ (by omega) (by omega) (fun _ => rfl) (by omega) (by omega)⟩
    · refine ⟨⟨#[33]⟩, by subst h; rfl, by show 1 ≤ _; simp only [msz]; omega, key _ (by omega) (by omega) (by omega) (fun _ => rfl) (by omega)⟩
    · subst h
      obtain ⟨y, rfl⟩ := kids1 (hk.trans rfl)
      simp only [mszL] at hd
      obtain ⟨s, hse, hs, h1, h2⟩ := ih y List.mem_cons_self _ (hks y List.mem_cons_self) (by omega)
      have z : (strOfNums [wrap64 (48 + n) % 256]).size = 1 := rfl
      have e1 : (strOfNums [wrap64 (48 + n) % 256]).size + 1 ≤ 9223372036854775807 := by rw [z]; omega
      have z2 : (strOfNums [wrap64 (48 + n) % 256] ++ (⟨#[60]⟩ : ByteArray)).size = 2 := by rw [ByteArray.size_append, z]; rfl
      have e2 : (strOfNums [wrap64 (48 + n) % 256] ++ (⟨#[60]⟩ : ByteArray)).size + s.size ≤ 9223372036854775807 := by rw [z2]; omega
      have e3 : ((strOfNums [wrap64 (48 + n) % 256] ++ (⟨#[60]⟩ : ByteArray)) ++ s).size + 1 ≤ 9223372036854775807 := by rw [ByteArray.size_append, z2]; omega
      refine ⟨((strOfNums [wrap64 (48 + n) % 256] ++ (⟨#[60]⟩ : ByteArray)) ++ s) ++ (⟨#[62]⟩ : ByteArray), by rw [hse]; rfl, ?_, ?_, ?_⟩
      · rw [ByteArray.size_append, ByteArray.size_append, z2]
        show 2 + s.size + 1 ≤ _
        simp only [msz, mszL]; omega
      · refine Ev.step (fun k => by rw [spec_l1Text.f]) ?_
        simp only [if_neg (show ¬ (6 : Int) = 1 by omega), if_neg (show ¬ (6 : Int) = 2 by omega), if_neg (show ¬ (6 : Int) = 3 by omega), if_neg (show ¬ (6 : Int) = 4 by omega), if_neg (show ¬ (6 : Int) = 5 by omega), if_true]
        refine Ev.bind (dec1 n hn0 hn9) ?_
        simp only [if_pos e1, if_pos (show (0 : Int) < (([y] : List SDoc).length : Int) by simp), rd0]
        refine Ev.bind h1 ?_
        simp only [if_pos e2, if_pos e3]
        exact Ev.now _
      · refine Ev.step (fun k => by rw [impl_formatDoc.f]) ?_
        simp only [if_neg (show ¬ (6 : Int) = 1 by omega), if_neg (show ¬ (6 : Int) = 2 by omega), if_neg (show ¬ (6 : Int) = 3 by omega), if_neg (show ¬ (6 : Int) = 4 by omega), if_neg (show ¬ (6 : Int) = 5 by omega), if_true, Option.bind_some,
          if_pos e1, if_pos (show (0 : Int) < (([y] : List SDoc).length : Int) by simp), rd0]
        refine Ev.bind h2 ?_
        simp only [if_pos e2, if_pos e3]
        exact Ev.now _
    · subst h
      obtain ⟨x, y, rfl⟩ := kids2 (hk.trans rfl)
      simp only [mszL] at hd
      have hx : x ∈ [x, y] := List.mem_cons_self
      have hy : y ∈ [x, y] := List.mem_cons_of_mem _ List.mem_cons_self
      obtain ⟨s, hse, hs, h1, h2⟩ := ih x hx _ (hks x hx) (by omega)
      obtain ⟨u, hue, hu, g1, g2⟩ := ih y hy _ (hks y hy) (by omega)
      have e1 : 1 + s.size ≤ 9223372036854775807 := by omega
      have z2 : ((⟨#[40]⟩ : ByteArray) ++ s).size = 1 + s.size := by rw [ByteArray.size_append]; rfl
      have e2 : ((⟨#[40]⟩ : ByteArray) ++ s).size + u.size ≤ 9223372036854775807 := by rw [z2]; omega
      have e3 : (((⟨#[40]⟩ : ByteArray) ++ s) ++ u).size + 1 ≤ 9223372036854775807 := by rw [ByteArray.size_append, z2]; omega
      refine ⟨(((⟨#[40]⟩ : ByteArray) ++ s) ++ u) ++ (⟨#[41]⟩ : ByteArray), by rw [hse, hue]; rfl, ?_, ?_, ?_⟩
      · rw [ByteArray.size_append, ByteArray.size_append, z2]
        show 1 + s.size + u.size + 1 ≤ _
        simp only [msz, mszL]; omega
      · refine Ev.step (fun k => by rw [spec_l1Text.f]) ?_
        simp only [if_neg (show ¬ (7 : Int) = 1 by omega), if_neg (show ¬ (7 : Int) = 2 by omega), if_neg (show ¬ (7 : Int) = 3 by omega), if_neg (show ¬ (7 : Int) = 4 by omega), if_neg (show ¬ (7 : Int) = 5 by omega), if_neg (show ¬ (7 : Int) = 6 by omega), if_true,
          if_pos (show (0 : Int) < (([x, y] : List SDoc).length : Int) by simp), if_pos (show (1 : Int) < (([x, y] : List SDoc).length : Int) by simp), rd0, rd1]
        refine Ev.bind h1 ?_
        simp only [if_pos e1]
        refine Ev.bind g1 ?_
        simp only [if_pos e2, if_pos e3]
        exact Ev.now _
      · refine Ev.step (fun k => by rw [impl_formatDoc.f]) ?_
        simp only [if_neg (show ¬ (7 : Int) = 1 by omega), if_neg (show ¬ (7 : Int) = 2 by omega), if_neg (show ¬ (7 : Int) = 3 by omega), if_neg (show ¬ (7 : Int) = 4 by omega), if_neg (show ¬ (7 : Int) = 5 by omega), if_neg (show ¬ (7 : Int) = 6 by omega), if_true,
          if_pos (show (0 : Int) < (([x, y] : List SDoc).length : Int) by simp), if_pos (show (1 : Int) < (([x, y] : List SDoc).length : Int) by simp), rd0, rd1]
        refine Ev.bind h2 ?_
        simp only [if_pos e1]
        refine Ev.bind g2 ?_
        simp only [if_pos e2, if_pos e3]
        exact Ev.now _
    · subst h
      obtain ⟨y, rfl⟩ := kids1 (hk.trans rfl)
      simp only [mszL] at hd
      obtain ⟨s, hse, hs, h1, h2⟩ := ih y List.mem_cons_self _ (hks y List.mem_cons_self) (by omega)
      have e1 : 1 + s.size ≤ 9223372036854775807 := by omega
      have z2 : ((⟨#[91]⟩ : ByteArray) ++ s).size = 1 + s.size := by rw [ByteArray.size_append]; rfl
      have e3 : ((⟨#[91]⟩ : ByteArray) ++ s).size + 1 ≤ 9223372036854775807 := by rw [z2]; omega
      refine ⟨((⟨#[91]⟩ : ByteArray) ++ s) ++ (⟨#[93]⟩ : ByteArray), by rw [hse]; rfl, ?_, ?_, ?_⟩
      · rw [ByteArray.size_append, z2]
        show 1 + s.size + 1 ≤ _
        simp only [msz, mszL]; omega
      · refine Ev.step (fun k => by rw [spec_l1Text.f]) ?_
        simp only [if_neg (show ¬ (8 : Int) = 1 by omega), if_neg (show ¬ (8 : Int) = 2 by omega), if_neg (show ¬ (8 : Int) = 3 by omega), if_neg (show ¬ (8 : Int) = 4 by omega), if_neg (show ¬ (8 : Int) = 5 by omega), if_neg (show ¬ (8 : Int) = 6 by omega), if_neg (show ¬ (8 : Int) = 7 by omega),
          if_pos (show (0 : Int) < (([y] : List SDoc).length : Int) by simp), rd0]
        refine Ev.bind h1 ?_
        simp only [if_pos e1, if_pos e3]
        exact Ev.now _
      · refine Ev.step (fun k => by rw [impl_formatDoc.f]) ?_
        simp only [if_neg (show ¬ (8 : Int) = 1 by omega), if_neg (show ¬ (8 : Int) = 2 by omega), if_neg (show ¬ (8 : Int) = 3 by omega), if_neg (show ¬ (8 : Int) = 4 by omega), if_neg (show ¬ (8 : Int) = 5 by omega), if_neg (show ¬ (8 : Int) = 6 by omega), if_neg (show ¬ (8 : Int) = 7 by omega),
          if_pos (show (0 : Int) < (([y] : List SDoc).length : Int) by simp), rd0]
        refine Ev.bind h2 ?_
        simp only [if_pos e1, if_pos e3]
        exact Ev.now _
def fmtT (d : SDoc) : ByteArray := if docV d = true then fmtB d else ⟨#[]⟩
theorem fmtDoc_ev (d : SDoc) (hd : msz d ≤ 1099511627776) : Ev (fun k => spec_FormatDoc.f k d.f0 d.f1 d.f2 d.f3) (fmtT d) ∧ Ev (fun k => impl_FormatDoc.f k d.f0 d.f1 d.f2 d.f3) (fmtT d) := by
  unfold fmtT
  by_cases hv : docV d = true
  · obtain ⟨s, rfl, _, h1, h2⟩ := fmt_ev d 40 (docV_wf hv) hd
    rw [if_pos hv]
    refine ⟨Ev.congr (fun k => by rw [spec_FormatDoc.f]) (Ev.bind (specValid_ev d hd) ?_), Ev.congr (fun k => by rw [impl_FormatDoc.f]) (Ev.bind (implValid_ev d hd) ?_)⟩
    · simp only [if_pos hv]
      exact Ev.bind h1 (Ev.now _)
    · simp only [if_pos hv]
      exact Ev.bind h2 (Ev.now _)
  · rw [if_neg hv]
    refine ⟨Ev.congr (fun k => by rw [spec_FormatDoc.f]) (Ev.bind (specValid_ev d hd) ?_), Ev.congr (fun k => by rw [impl_FormatDoc.f]) (Ev.bind (implValid_ev d hd) ?_)⟩
    · simp only [if_neg hv]; exact Ev.now _
    · simp only [if_neg hv]; exact Ev.now _
end Go.Proofs.Ytdhdfmmefghijaa.Pure
namespace Go.Proofs.Ytdhdfmmefghijaa.Pure
open Go.RowKit Go.Proofs.Ytdhdfmmefghijaa.P Go.Proofs.YtdhdfmmefghijaaW.PrintWords Go.Proofs.YtdhdfmmefghijaaW.PrintLast Go.Proofs.YtdhdfmmefghijaaW.PrintMore
set_option linter.unusedVariables false
set_option linter.unusedSimpArgs false
theorem d1 (c : UInt8) : (⟨#[c]⟩ : ByteArray) = ba [c] := rfl
theorem data_ap (a b : ByteArray) : (a ++ b).data.toList = a.data.toList ++ b.data.toList := by simp
theorem digit_data (n : Int) (h0 : 0 ≤ n) (h9 : n ≤ 9) : ∃ c : UInt8, (strOfNums [wrap64 (48 + n) % 256]).data.toList = [c] ∧ (c.toNat : Int) = 48 + n := by
  have : n = 0 ∨ n = 1 ∨ n = 2 ∨ n = 3 ∨ n = 4 ∨ n = 5 ∨ n = 6 ∨ n = 7 ∨ n = 8 ∨ n = 9 := by omega
  rcases this with rfl | rfl | rfl | rfl | rfl | rfl | rfl | rfl | rfl | rfl
  · exact ⟨48, by decide +kernel, rfl⟩
  · exact ⟨49, by decide +kernel, rfl⟩
  · exact ⟨50, by decide +kernel, rfl⟩
  · exact ⟨51, by decide +kernel, rfl⟩
  · exact ⟨52, by decide +kernel, rfl⟩
  · exact ⟨53, by decide +kernel, rfl⟩
  · exact ⟨54, by decide +kernel, rfl⟩
  · exact ⟨55, by decide +kernel, rfl⟩
  · exact ⟨56, by decide +kernel, rfl⟩
  · exact ⟨57, by decide +kernel, rfl⟩
theorem pW_app : ∀ {a r : List UInt8} {c : UInt8}, (∀ b ∈ a, (b.toNat : Int) ≠ 34) → (c.toNat : Int) = 34 → pW (a ++ c :: r) = some (a, r)
  | [], r, c, _, hc => by simp [pW, hc]
  | b :: a, r, c, ha, hc => by
    rw [List.cons_append, pW, if_neg (ha b (by simp)), pW_app (fun x hx => ha x (by simp [hx])) hc]
    rfl
theorem good_no34 {b : UInt8} (h : goodB b = true) : (b.toNat : Int) ≠ 34 := by
  intro e
  simp only [goodB, goodC, e] at h
  revert h
  decide
theorem tv_no34 {t : ByteArray} (h : tv t = true) : ∀ b ∈ t.data.toList, (b.toNat : Int) ≠ 34 := by
  simp only [tv, Bool.and_eq_true, decide_eq_true_eq] at h
  exact fun b hb => good_no34 (List.all_eq_true.1 h.2.2 b hb)
theorem read_fmt : ∀ (d : SDoc) (deep : Nat), wf d deep = true → ∀ n, deep ≤ n → ∀ r : List UInt8, pD n ((fmtB d).data.toList ++ r) = some (d, r) := by
  intro d
  induction d using SDoc.ind with
  | h o n t ks ih =>
    intro deep hw m hm r
    obtain ⟨h1, h8, hk, hn0, hn9, hn, ht, ht'⟩ := wf_node hw
    have hks := wf_kids hw
    have hd0 : 0 < deep := by rw [wf_mk] at hw; omega
    obtain ⟨m, rfl⟩ : ∃ m', m = m' + 1 := ⟨m - 1, by omega⟩
    have hcase : o = 1 ∨ o = 2 ∨ o = 3 ∨ o = 4 ∨ o = 5 ∨ o = 6 ∨ o = 7 ∨ o = 8 := by omega
    have nil : ∀ {k : Int}, docKids k = 0 → (ks.length : Int) = docKids k → ks = [] := fun h1 h2 => List.length_eq_zero_iff.1 (by omega)
    rcases hcase with h | h | h | h | h | h | h | h
    · subst h
      obtain rfl := nil rfl hk
      obtain rfl : n = 0 := by omega
      obtain rfl := ht' (by omega)
      rfl
    · subst h
      obtain rfl := nil rfl hk
      obtain rfl : n = 0 := by omega
      have e : (fmtB ⟨2, 0, t, []⟩).data.toList ++ r = 34 :: (t.data.toList ++ 34 :: r) := by
        show ((((⟨#[34]⟩ : ByteArray) ++ t) ++ (⟨#[34]⟩ : ByteArray)).data.toList) ++ r = _
        simp
      rw [e, pD, pN, if_neg (by decide), if_neg (by decide), if_neg (by decide), if_neg (by decide), if_pos (by decide), pW_app (tv_no34 (ht rfl)) rfl]
      simp only [Option.map_some, ba_of]
    · subst h
      obtain rfl := nil rfl hk
      obtain rfl : n = 0 := by omega
      obtain rfl := ht' (by omega)
      rfl
    · subst h
      obtain rfl := nil rfl hk
      obtain rfl : n = 0 := by omega
      obtain rfl := ht' (by omega)
      rfl
    · subst h
      obtain rfl := nil rfl hk
      obtain rfl : n = 0 := by omega
      obtain rfl := ht' (by omega)
      rfl
    · subst h
      obtain ⟨y, rfl⟩ := kids1 (hk.trans rfl)
      obtain rfl := ht' (by omega)
      obtain ⟨c, hc, hcn⟩ := digit_data n hn0 hn9
      have hy := ih y (by simp) (deep - 1) (hks y (by simp)) m (by omega)
      have e : (fmtB ⟨6, n, ⟨#[]⟩, [y]⟩).data.toList ++ r = c :: 60 :: ((fmtB y).data.toList ++ 62 :: r) := by
        show ((((strOfNums [wrap64 (48 + n) % 256] ++ (⟨#[60]⟩ : ByteArray)) ++ fmtB y) ++ (⟨#[62]⟩ : ByteArray)).data.toList) ++ r = _
        rw [data_ap, data_ap, data_ap, hc]
        simp
      rw [e, pD, pN, if_neg (by omega), if_neg (by omega), if_neg (by omega), if_neg (by omega), if_neg (by omega), if_neg (by omega), if_neg (by omega), if_pos ⟨by omega, by omega, rfl⟩]
      rw [List.tail_cons, pK, hy]
      simp only [Option.bind_some, pK]
      rw [if_pos (by decide)]
      simp only [Option.map_some]
      rw [show (c.toNat : Int) - 48 = n by omega]
      rfl
    · subst h
      obtain ⟨x, y, rfl⟩ := kids2 (hk.trans rfl)
      obtain rfl : n = 0 := by omega
      obtain rfl := ht' (by omega)
      have hx := ih x (by simp) (deep - 1) (hks x (by simp)) m (by omega)
      have hy := ih y (by simp) (deep - 1) (hks y (by simp)) m (by omega)
      have e : (fmtB ⟨7, 0, ⟨#[]⟩, [x, y]⟩).data.toList ++ r = 40 :: ((fmtB x).data.toList ++ ((fmtB y).data.toList ++ 41 :: r)) := by
        show (((((⟨#[40]⟩ : ByteArray) ++ fmtB x) ++ fmtB y) ++ (⟨#[41]⟩ : ByteArray)).data.toList) ++ r = _
        rw [data_ap, data_ap, data_ap]
        simp
      rw [e, pD, pN, if_neg (by decide), if_neg (by decide), if_neg (by decide), if_neg (by decide), if_neg (by decide), if_pos (by decide)]
      rw [pK, hx]
      simp only [Option.bind_some]
      rw [pK, hy]
      simp only [Option.bind_some, pK]
      rw [if_pos (by decide)]
      simp only [Option.map_some]
      rfl
    · subst h
      obtain ⟨y, rfl⟩ := kids1 (hk.trans rfl)
      obtain rfl : n = 0 := by omega
      obtain rfl := ht' (by omega)
      have hy := ih y (by simp) (deep - 1) (hks y (by simp)) m (by omega)
      have e : (fmtB ⟨8, 0, ⟨#[]⟩, [y]⟩).data.toList ++ r = 91 :: ((fmtB y).data.toList ++ 93 :: r) := by
        show ((((⟨#[91]⟩ : ByteArray) ++ fmtB y) ++ (⟨#[93]⟩ : ByteArray)).data.toList) ++ r = _
        rw [data_ap, data_ap]
        simp
      rw [e, pD, pN, if_neg (by decide), if_neg (by decide), if_neg (by decide), if_neg (by decide), if_neg (by decide), if_neg (by decide), if_pos (by decide)]
      rw [pK, hy]
      simp only [Option.bind_some, pK]
      rw [if_pos (by decide)]
      simp only [Option.map_some]
      rfl
theorem parse_fmt {d : SDoc} (h : docV d = true) : parseR (fmtB d).data.toList = some d := by
  have := read_fmt d 40 (docV_wf h) 40 (Nat.le_refl _) []
  rw [List.append_nil] at this
  unfold parseR
  rw [this]
  simp only [if_pos h]
end Go.Proofs.Ytdhdfmmefghijaa.Pure
namespace Go.Proofs.Ytdhdfmmefghijaa.Pure
open Go.RowKit Go.Proofs.Ytdhdfmmefghijaa.P Go.Proofs.YtdhdfmmefghijaaW.PrintWords Go.Proofs.YtdhdfmmefghijaaW.PrintLast Go.Proofs.YtdhdfmmefghijaaW.PrintMore
set_option linter.unusedVariables false
set_option linter.unusedSimpArgs false
theorem fmt_eq {d e : SDoc} (h : docV d = true) (h' : docV e = true) : fmtB d = fmtB e ↔ d = e := by
  refine ⟨fun c => ?_, fun c => by rw [c]⟩
  have h1 := parse_fmt h
  rw [c, parse_fmt h'] at h1
  exact (Option.some.inj h1).symm
theorem FnDocSame : laws_FnDocSame.Pure := by
  intro l hl _ hw
  refine Ev.rounds (g := fun k => laws_FnDocSame.f k l) (Ev.congr (fun k => by rw [laws_FnDocSame.f]) (big_or ?_))
  obtain ⟨d, e, hd, hm, hm'⟩ := drawSame_ev l hl hw
  have hz := dsz_msz d
  have hz' := dsz_msz e
  refine Ev.bind hd (Ev.bind (implSame_ev d e (by omega)) (Ev.bind (specSame_ev d e (by omega)) ?_))
  simp only [bne_self_eq_false, Bool.false_eq_true, if_false]
  refine Ev.bind (implSame_ev e d (by omega)) ?_
  rw [dsame_comm]
  simp only [bne_self_eq_false, Bool.false_eq_true, if_false]
  refine Ev.bind (implSame_ev d d (by omega)) ?_
  rw [dsame_refl]
  refine Ev.step (fun k => by rw [laws_FnDocSame.j0]) ?_
  simp only [Bool.not_true, Bool.false_eq_true, if_false]
  refine Ev.bind (implValid_ev d (by omega)) (Ev.iff (fun v1 => Ev.bind (implValid_ev e (by omega)) (Ev.iff (fun v2 => ?_) (fun _ => Ev.now _))) (fun _ => Ev.now _))
  refine Ev.bind (fmtDoc_ev d (by omega)).2 (Ev.bind (fmtDoc_ev e (by omega)).2 ?_)
  rw [fmtT, if_pos v1, fmtT, if_pos v2]
  rw [show (dsame e d == ((fmtB d).toList == (fmtB e).toList)) = true from by
    rw [beq_iff_eq, Bool.eq_iff_iff, dsame_iff, beq_iff_eq, toList_inj, fmt_eq v1 v2]; exact eq_comm]
  exact Ev.now _
end Go.Proofs.Ytdhdfmmefghijaa.Pure
namespace Go.Proofs.Ytdhdfmmefghijaa
theorem closed3:laidOutB Try.prog=true∧mapsRowed Try.prog=true∧Try.prog.plainKeys=true:=Go.ClosedOfChecked.closed_of_checked Try.checked (by kernel_rfl) (by kernel_rfl) (by kernel_rfl)
def edgesL:List (List Nat):=[[],[],[1],[15,16,17,18],[19,20,21,20,22,22],[23,24,25,25,24,22,22,26,26],[27,26,28,24,28,26],[19,20,21,22,29,24,21,22,29,20,22],[30,31,32,33,34,34,32,34,34,34],[31,34,35,34,34,24,24,36,36],[30,32,33,34,34,24,22,22,22,26,26,26],[37,38,39,38],[40,36,41,41,22,20],[42,17,43,34,34,17,17,24],[40,36,17,24,41,25,34,42,17,43,34,36],[44,46,45],[47],[48,24],[],[23,44,49],[20],[21],[22],[44,51,50,50],[52],[53,54],[24,20],[23],[25,21],[54],[44,51,50,51,50],[44,51,55,51,50,50],[57,56],[58,25,59],[34],[35],[24,60],[44,51,55,50,50],[26,61],[28,62],[23],[25,63],[44,51,63,45],[64,25],[],[55,55,65,55],[65],[66],[47,67,68,69,70,48,71],[55],[59,55,55,50,55,49,49,65],[55,55,43,49,72,25,54,72],[16,52],[73,18,53],[54],[],[24,74],[],[],[59],[60,60,60,60],[61],[62],[75,63,63,63,63],[76,77,77,77],[55],[78],[],[79],[],[80],[81],[55,46,55,72,49,72,72,55,72,72,58,58,72,72,58,58,72,72,58],[],[74],[75],[],[64],[],[82],[],[80],[66,83,66,84,83,85],[],[],[86],[],[],[],[],[],[],[],[],[],[],[],[],[],[],[],[],[],[]]
theorem edges:Try.prog.funcs.toList.map Try.prog.leadsTo=edgesL:=by kernel_rfl
def clo (E:List (List Nat)):Nat→List Nat→List Nat→List Nat
 | 0,_,seen=>seen.reverse
 | _,[],seen=>seen.reverse
 | n+1,f :: todo,seen=>if seen.contains f then clo E n todo seen else clo E n ((E[f]?).getD []++todo) (f :: seen)
set_option maxRecDepth 100000 in
theorem elim_edges (f:Nat):(Try.prog.funcs[f]?).elim [] Try.prog.leadsTo=(edgesL[f]?).getD []:=by
 rw [← edges,List.getElem?_map,Array.getElem?_toList]
 cases Try.prog.funcs[f]? <;> rfl
theorem closureVia_clo:∀ (n:Nat) (todo seen:List Nat),Try.prog.closureVia n todo seen=clo edgesL n todo seen
 | 0,_,_=>by simp [Program.closureVia,clo]
 | n+1,[],_=>by simp [Program.closureVia,clo]
 | n+1,f :: todo,seen=>by
  rw [Program.closureVia,clo,elim_edges,closureVia_clo n,closureVia_clo n]
def fuelE:Nat:=1+(edgesL.map fun l=>l.length+1).sum
set_option maxRecDepth 100000 in
theorem fuel_eq:1+(Try.prog.funcs.toList.map fun g=>(Try.prog.leadsTo g).length+1).sum=fuelE:=by
 rw [fuelE,← edges,List.map_map]
 rfl
theorem closure_clo (f:Nat):Try.prog.closure f=clo edgesL fuelE [f] []:=by
 rw [Program.closure,fuel_eq,closureVia_clo]
noncomputable def unfB (fn:Func):Bool:=match fn.body with|some c=>c.unfollowed|none=>entryCalls fn
noncomputable def unfL:List Bool:=Try.prog.funcs.toList.map unfB
set_option maxRecDepth 100000 in
theorem any_unf (f:Nat):((Try.prog.funcs[f]?).any fun fn=>match fn.body with|some c=>c.unfollowed|none=>entryCalls fn)=(unfL[f]?).getD false:=by
 rw [unfL,List.getElem?_map,Array.getElem?_toList]
 cases Try.prog.funcs[f]? <;> rfl
set_option maxRecDepth 100000 in
theorem unfollowed_of {f:Nat} {L:List Nat} (h:clo edgesL fuelE [f] []=L):Try.prog.unfollowed f=L.any fun g=>(unfL[g]?).getD false:=by
 rw [Program.unfollowed,closure_clo,h]
 congr 1
 funext g
 exact any_unf g
set_option maxRecDepth 100000 in
theorem recurses_of {f:Nat} {L:List Nat} (h:clo edgesL fuelE [f] []=L):Try.prog.recurses f=((L.any fun g=>(unfL[g]?).getD false) || L.any fun g=>((edgesL[g]?).getD []).any fun h=>(clo edgesL fuelE [h] []).contains g):=by
 rw [Program.recurses,unfollowed_of h,closure_clo,h]
 congr 1
 congr 1
 funext g
 rw [elim_edges]
 congr 1
 funext h
 rw [closure_clo]
def signs:List Char:=([104,97,114,110,101,115,115,32,50,54,100,52,101,52,102,53,97,56,53,54,57,100,98,57,98,55,99,101,48,57,101,101,51,49,51,101,50,53,49,57,55,102,56,55,99,52,55,52,53,50,49,49,99,101,55,101,101,51,100,102,53,102,102,53,52,98,98,54,51,49,102,55,32,99,117,116,32,97,116,32,108,111,111,112,46,101,120,97,109,112,108,101,47,100,111,99,97,108,103,101,98,114,97,47,108,97,119,115,46,70,110,84,101,120,116,86,97,108,105,100,32,108,111,111,112,46,101,120,97,109,112,108,101,47,100,111,99,97,108,103,101,98,114,97,47,108,97,119,115,46,70,110,67,111,117,110,116,80,97,114,116,115,32,108,111,111,112,46,101,120,97,109,112,108,101,47,100,111,99,97,108,103,101,98,114,97,47,108,97,119,115,46,70,110,68,111,99,80,97,114,116,115,32,108,111,111,112,46,101,120,97,109,112,108,101,47,100,111,99,97,108,103,101,98,114,97,47,108,97,119,115,46,70,110,70,108,97,116,116,101,110,80,97,114,116,115,32,108,111,111,112,46,101,120,97,109,112,108,101,47,100,111,99,97,108,103,101,98,114,97,47,108,97,119,115,46,70,110,67,111,117,110,116,79,112,115,32,108,111,111,112,46,101,120,97,109,112,108,101,47,100,111,99,97,108,103,101,98,114,97,47,108,97,119,115,46,70,110,67,97,116,83,97,109,101,32,108,111,111,112,46,101,120,97,109,112,108,101,47,100,111,99,97,108,103,101,98,114,97,47,108,97,119,115,46,70,110,68,111,99,83,97,109,101,32,108,111,111,112,46,101,120,97,109,112,108,101,47,100,111,99,97,108,103,101,98,114,97,47,108,97,119,115,46,70,110,67,97,116,68,111,99,115,32,108,111,111,112,46,101,120,97,109,112,108,101,47,100,111,99,97,108,103,101,98,114,97,47,108,97,119,115,46,70,110,70,108,97,116,84,101,120,116,32,108,111,111,112,46,101,120,97,109,112,108,101,47,100,111,99,97,108,103,101,98,114,97,47,108,97,119,115,46,70,110,68,111,99,66,121,116,101,115,32,108,111,111,112,46,101,120,97,109,112,108,101,47,100,111,99,97,108,103,101,98,114,97,47,108,97,119,115,46,70,110,80,97,114,115,101,83,105,122,101,32,108,111,111,112,46,101,120,97,109,112,108,101,47,100,111,99,97,108,103,101,98,114,97,47,108,97,119,115,46,70,110,68,111,99,84,101,120,116]:List Nat).map Char.ofNat
def wordsL:List (List Char):=([[104,97,114,110,101,115,115],[50,54,100,52,101,52,102,53,97,56,53,54,57,100,98,57,98,55,99,101,48,57,101,101,51,49,51,101,50,53,49,57,55,102,56,55,99,52,55,52,53,50,49,49,99,101,55,101,101,51,100,102,53,102,102,53,52,98,98,54,51,49,102,55],[99,117,116],[97,116],[108,111,111,112,46,101,120,97,109,112,108,101,47,100,111,99,97,108,103,101,98,114,97,47,108,97,119,115,46,70,110,84,101,120,116,86,97,108,105,100],[108,111,111,112,46,101,120,97,109,112,108,101,47,100,111,99,97,108,103,101,98,114,97,47,108,97,119,115,46,70,110,67,111,117,110,116,80,97,114,116,115],[108,111,111,112,46,101,120,97,109,112,108,101,47,100,111,99,97,108,103,101,98,114,97,47,108,97,119,115,46,70,110,68,111,99,80,97,114,116,115],[108,111,111,112,46,101,120,97,109,112,108,101,47,100,111,99,97,108,103,101,98,114,97,47,108,97,119,115,46,70,110,70,108,97,116,116,101,110,80,97,114,116,115],[108,111,111,112,46,101,120,97,109,112,108,101,47,100,111,99,97,108,103,101,98,114,97,47,108,97,119,115,46,70,110,67,111,117,110,116,79,112,115],[108,111,111,112,46,101,120,97,109,112,108,101,47,100,111,99,97,108,103,101,98,114,97,47,108,97,119,115,46,70,110,67,97,116,83,97,109,101],[108,111,111,112,46,101,120,97,109,112,108,101,47,100,111,99,97,108,103,101,98,114,97,47,108,97,119,115,46,70,110,68,111,99,83,97,109,101],[108,111,111,112,46,101,120,97,109,112,108,101,47,100,111,99,97,108,103,101,98,114,97,47,108,97,119,115,46,70,110,67,97,116,68,111,99,115],[108,111,111,112,46,101,120,97,109,112,108,101,47,100,111,99,97,108,103,101,98,114,97,47,108,97,119,115,46,70,110,70,108,97,116,84,101,120,116],[108,111,111,112,46,101,120,97,109,112,108,101,47,100,111,99,97,108,103,101,98,114,97,47,108,97,119,115,46,70,110,68,111,99,66,121,116,101,115],[108,111,111,112,46,101,120,97,109,112,108,101,47,100,111,99,97,108,103,101,98,114,97,47,108,97,119,115,46,70,110,80,97,114,115,101,83,105,122,101],[108,111,111,112,46,101,120,97,109,112,108,101,47,100,111,99,97,108,103,101,98,114,97,47,108,97,119,115,46,70,110,68,111,99,84,101,120,116]]:List (List Nat)).map (List.map Char.ofNat)
theorem headI:Try.prog.initOrder=String.ofList signs:=by kernel_rfl
theorem headS:wordsSigns Try.prog.initOrder.toList=wordsL:=by
 rw [headI,String.toList_ofList]
 kernel_rfl
theorem headLifts_of {P : Program} {ws} (h : wordsSigns P.initOrder.toList = ws) : P.headLifts = if ((stripLifts liftWords (behindMainWord ws)).2.head? == some "cut".toList) = true then (stripLifts liftWords (behindMainWord ws)).1 else [] := by
 subst h;rfl
theorem headL:Try.prog.headLifts=[]:=(headLifts_of headS).trans (by kernel_rfl)
theorem liftsFinal_of {P : Program} {ws l} (h : wordsSigns P.initOrder.toList = ws) (hl : P.headLifts = l) : P.liftsFinal = (((behindMainWord ws).head? == some "carried".toList && (behindMainWord ws).take 3 != ["carried".toList, "gc".toList, "cut".toList]) || l.contains "finals") := by
 subst h;subst hl;rfl
theorem liftsF:Try.prog.liftsFinal=false:=(liftsFinal_of headS headL).trans (by kernel_rfl)
theorem mayEnter_of {P:Program} (h:wordsSigns P.initOrder.toList=wordsL) (h1:P.laysLater=false) (h2:P.bearsReflect=false):P.mayEnter=P.doorFits []:=by
 delta Program.mayEnter
 rw [h,h1,h2]
 kernel_rfl
theorem mayE:Try.prog.mayEnter=true:=(mayEnter_of headS (by kernel_rfl) (by kernel_rfl)).trans (by kernel_rfl)
theorem make_of {P:Program} (h:wordsSigns P.initOrder.toList=wordsL):P.make=some .cut:=by
 delta Program.make
 rw [h]
 kernel_rfl
theorem makeC:Try.prog.make=some .cut:=make_of headS
end Go.Proofs.Ytdhdfmmefghijaa
