/- CONTRACTS and lemmas: each contract says that a Go function of the program, called over the translation under the theorem's own hypotheses, returns what the Lean function beside it computes. -/
import Derived.Test.YtdhdfmmefghijaaVFnParseSize7
import Derived.Test.YtdhdfmmefghijaaRows
import Derived.ClosedOfChecked
import Derived.KernelRfl
namespace Go.Proofs.Ytdhdfmmefghijaa.Pure
open Go.RowKit Go.Proofs.Ytdhdfmmefghijaa.P Go.Proofs.YtdhdfmmefghijaaW.PrintWords Go.Proofs.YtdhdfmmefghijaaW.PrintLast Go.Proofs.YtdhdfmmefghijaaW.PrintMore
set_option linter.unusedVariables false
set_option linter.unusedSimpArgs false
theorem u8_eq (c : UInt8) (m : Nat) (hm : m < 256) : (c == UInt8.ofNat m) = decide ((c.toNat : Int) = (m : Int)) := by
  have h : (c = UInt8.ofNat m) ↔ ((c.toNat : Int) = (m : Int)) := by
    constructor
    · rintro rfl
      rw [UInt8.toNat_ofNat_of_lt' hm]
    · intro h
      apply UInt8.toNat_inj.1
      rw [UInt8.toNat_ofNat_of_lt' hm]
      omega
  by_cases e : c = UInt8.ofNat m
  · rw [decide_eq_true (h.1 e), e]; simp
  · rw [decide_eq_false (fun x => e (h.2 x))]; simpa using e
theorem leaf_idx : ∀ n : Nat, n < 256 → Lib.indexByte [126, 95, 46, 33] (UInt8.ofNat n) = (if (n : Int) = 126 then 0 else if (n : Int) = 95 then 1 else if (n : Int) = 46 then 2 else if (n : Int) = 33 then 3 else -1) := by decide +kernel
theorem leaf_ev (c : UInt8) : strings_IndexByte.f (⟨#[126, 95, 46, 33]⟩ : ByteArray) (c.toNat : Int) = some (if (c.toNat : Int) = 126 then 0 else if (c.toNat : Int) = 95 then 1 else if (c.toNat : Int) = 46 then 2 else if (c.toNat : Int) = 33 then 3 else -1) := by
  rw [strings_IndexByte.f]
  have h := leaf_idx c.toNat (UInt8.toNat_lt c)
  rw [← h]
  simp
theorem indexByte_pW : ∀ s : List UInt8, Lib.indexByte s 34 = (match pW s with | some q => (q.1.length : Int) | none => -1)
  | [] => rfl
  | c :: s => by
    rw [Lib.indexByte, indexByte_pW s, pW]
    have e := u8_eq c 34 (by omega)
    rw [show (UInt8.ofNat 34) = (34 : UInt8) from rfl] at e
    rw [e]
    by_cases h : (c.toNat : Int) = 34
    · rw [if_pos h, decide_eq_true (by simpa using h)]
      rfl
    · rw [if_neg h, decide_eq_false (by simpa using h)]
      cases pW s with
      | none => rfl
      | some q =>
        have : ¬ ((q.1.length : Int) == -1) = true := by simp
        simp [this]
theorem pW_split : ∀ {s a r : List UInt8}, pW s = some (a, r) → s.take a.length = a ∧ s.drop (a.length + 1) = r ∧ s.length = a.length + 1 + r.length := by
  intro s a r h
  obtain ⟨c, _, rfl⟩ := pW_is h
  refine ⟨by simp, ?_, by simp; omega⟩
  rw [show a ++ c :: r = (a ++ [c]) ++ r by simp, List.drop_left' (by simp)]
theorem cut_eq (l : List UInt8) (hl : l.length ≤ 1099511627776) : strings_Cut.f (ba l) (⟨#[34]⟩ : ByteArray) = some (match pW l with | some q => (ba q.1, ba q.2, true) | none => (ba l, ⟨#[]⟩, false)) := by
  have hi : stringslite_Index.f (ba l) (⟨#[34]⟩ : ByteArray) = some (Lib.indexByte l 34) := by
    rw [stringslite_Index.f]
    simp only [ba_data]
  rw [strings_Cut.f, stringslite_Cut.f, hi, indexByte_pW]
  cases h : pW l with
  | none => simp
  | some q =>
    obtain ⟨a, r⟩ := q
    obtain ⟨h1, h2, h3⟩ := pW_split h
    have w1 : wrap64 ((a.length : Int) + (((⟨#[34]⟩ : ByteArray).size : Nat) : Int)) = ((a.length + 1 : Nat) : Int) := by
      rw [show (((⟨#[34]⟩ : ByteArray).size : Nat) : Int) = 1 from rfl, w64 (by omega) (by omega)]
      omega
    simp only [Option.bind_some, ba_size, w1, if_pos (show (a.length : Int) ≥ 0 by omega), if_pos (show (0 : Int) ≤ (a.length : Int) by omega), if_pos (show (a.length : Int) ≤ (l.length : Int) by omega),
      if_pos (show (0 : Int) ≤ ((a.length + 1 : Nat) : Int) by omega), if_pos (show ((a.length + 1 : Nat) : Int) ≤ (l.length : Int) by omega), Int.toNat_natCast]
    have e1 : (ba l).extract 0 a.length = ba a := by rw [ba_extract, List.drop_zero, Nat.sub_zero, h1]
    have e2 : (ba l).extract (a.length + 1) l.length = ba r := by rw [ba_extract, h2, List.take_of_length_le (by omega)]
    rw [e1, e2]
theorem pre_eq (l : List UInt8) (m : Nat) (hm : m < 256) : stringslite_HasPrefix.f (ba l) (⟨#[UInt8.ofNat m]⟩ : ByteArray) = some (match l with | [] => false | c :: _ => decide ((c.toNat : Int) = (m : Int))) := by
  rw [stringslite_HasPrefix.f]
  have z : (((⟨#[UInt8.ofNat m]⟩ : ByteArray).size : Nat) : Int) = 1 := rfl
  simp only [z, ba_size]
  cases l with
  | nil => simp
  | cons c r =>
    have e : (ba (c :: r)).extract 0 (1 : Int).toNat = ba [c] := by rw [ba_extract]; rfl
    simp only [List.length_cons, if_pos (show ((r.length + 1 : Nat) : Int) ≥ 1 by omega), if_pos (show (0 : Int) ≤ 1 by omega), if_pos (show (1 : Int) ≤ ((r.length + 1 : Nat) : Int) by omega), e, ba_toList]
    rw [show (⟨#[UInt8.ofNat m]⟩ : ByteArray) = ba [UInt8.ofNat m] from rfl, ba_toList, ← u8_eq c m hm]
    simp
theorem cutpre_eq (l : List UInt8) (m : Nat) (hm : m < 256) : strings_CutPrefix.f (ba l) (⟨#[UInt8.ofNat m]⟩ : ByteArray) = some (match l with | [] => (ba [], false) | c :: r => if (c.toNat : Int) = (m : Int) then (ba r, true) else (ba (c :: r), false)) := by
  rw [strings_CutPrefix.f, stringslite_CutPrefix.f, pre_eq l m hm]
  have z : (((⟨#[UInt8.ofNat m]⟩ : ByteArray).size : Nat) : Int) = 1 := rfl
  cases l with
  | nil => simp
  | cons c r =>
    simp only [Option.bind_some, z, ba_size]
    by_cases h : (c.toNat : Int) = (m : Int)
    · rw [decide_eq_true h, if_pos h]
      have e : (ba (c :: r)).extract (1 : Int).toNat (c :: r).length = ba r := by
        have := ba_tail (c :: r) 1
        rw [ba_size] at this
        exact this
      simp only [if_true, if_pos (show (0 : Int) ≤ 1 by omega), if_pos (show (1 : Int) ≤ ((c :: r).length : Int) by simp; omega), Option.bind_some, e]
    · rw [decide_eq_false h, if_neg h]
      simp
theorem extract1 (c : UInt8) (s : List UInt8) : (ba (c :: s)).extract 1 (s.length + 1) = ba s := by
  have := ba_tail (c :: s) 1
  rw [ba_size] at this
  exact this
def RdI (n : Nat) (s : List UInt8) : Prop := ∃ (d : SDoc) (r : List UInt8), Ev (fun k => impl_parseDoc.f k (ba s) (n : Int)) (d.f0, d.f1, d.f2, d.f3, ba r, (pD n s).isSome) ∧ ∀ d' r', pD n s = some (d', r') → d' = d ∧ r' = r
theorem implInner_loop {n : Nat} (hn : n + 1 ≤ 40) (N : Nat) (hN : N ≤ 1099511627776) (IH : ∀ s : List UInt8, s.length ≤ N → RdI n s) (e : Nat) (he : e < 256) (x2 : Nat) (hx2 : x2 ≤ 2) (o c : Int) : ∀ (m : Nat), m ≤ x2 → ∀ (s : List UInt8) (out : List SDoc), s.length ≤ N → out.length + m = x2 →
    ∃ (d : SDoc) (r : List UInt8), Ev (fun k => impl_parseDoc.l0 k (ba s) ((n + 1 : Nat) : Int) (⟨#[UInt8.ofNat e]⟩ : ByteArray) (x2 : Int) (out.length : Int) o c (ba []) out) (d.f0, d.f1, d.f2, d.f3, ba r, (pK (pD n) m (e : Int) s).isSome) ∧ ∀ ks r', pK (pD n) m (e : Int) s = some (ks, r') → d = ⟨o, c, ba [], out ++ ks⟩ ∧ r' = r := by
  intro m
  induction m with
  | zero =>
    intro _ s out hs ho
    have hc := cutpre_eq s e he
    match s, hs, hc with
    | [], _, hc =>
      refine ⟨⟨o, c, ba [], out⟩, [], Ev.step (fun k => by rw [impl_parseDoc.l0]) ?_, fun ks r' hk => by simp [pK] at hk⟩
      simp only [if_neg (show ¬ ((out.length : Int) < (x2 : Int)) by omega), hc, Option.bind_some, pK]
      exact Ev.now _
    | q :: s, _, hc =>
      by_cases h : (q.toNat : Int) = (e : Int)
      · refine ⟨⟨o, c, ba [], out⟩, s, Ev.step (fun k => by rw [impl_parseDoc.l0]) ?_, fun ks r' hk => ?_⟩
        · simp only [if_neg (show ¬ ((out.length : Int) < (x2 : Int)) by omega), hc, Option.bind_some, pK, if_pos h]
          exact Ev.now _
        · rw [pK, if_pos h] at hk
          obtain ⟨rfl, rfl⟩ := Prod.mk.inj (Option.some.inj hk)
          exact ⟨by rw [List.append_nil], rfl⟩
      · refine ⟨⟨o, c, ba [], out⟩, q :: s, Ev.step (fun k => by rw [impl_parseDoc.l0]) ?_, fun ks r' hk => by rw [pK, if_neg h] at hk; cases hk⟩
        simp only [if_neg (show ¬ ((out.length : Int) < (x2 : Int)) by omega), hc, Option.bind_some, pK, if_neg h]
        exact Ev.now _
  | succ m ih =>
    intro hm s out hs ho
    obtain ⟨d, r, hd, hd'⟩ := IH s hs
    have w1 : wrap64 (((n + 1 : Nat) : Int) - 1) = (n : Int) := by rw [w64 (by omega) (by omega)]; omega
    have c1 : (out.length : Int) < (x2 : Int) := by omega
    cases hp : pD n s with
    | none =>
      rw [hp] at hd
      refine ⟨⟨0, 0, ⟨#[]⟩, []⟩, s, Ev.step (fun k => by rw [impl_parseDoc.l0]) ?_, fun ks r' hk => by rw [pK, hp] at hk; cases hk⟩
      simp only [if_pos c1, w1]
      refine Ev.bind hd ?_
      simp only [Option.isSome_none, Bool.false_eq_true, if_false]
      rw [pK, hp]
      exact Ev.now _
    | some q =>
      obtain ⟨d1, r1⟩ := q
      obtain ⟨rfl, rfl⟩ := hd' d1 r1 hp
      obtain ⟨_, u, rfl⟩ := pD_good n _ _ _ hp
      obtain ⟨d2, r2, h1, h2⟩ := ih (by omega) r1 (out ++ [d1]) (by simp at hs; omega) (by simp; omega)
      rw [hp] at hd
      refine ⟨d2, r2, Ev.step (fun k => by rw [impl_parseDoc.l0]) ?_, fun ks r' hk => ?_⟩
      · simp only [if_pos c1, w1]
        refine Ev.bind hd ?_
        simp only [Option.isSome_some, if_true, if_pos (show out.length < 2513169434916 by omega), SDoc_eta]
        rw [w64 (by omega) (by omega), show (out.length : Int) + 1 = ((out ++ [d1]).length : Int) by simp]
        rw [pK, hp]
        have e2 : (((some (d1, r1)).bind fun q => (pK (pD n) m (e : Int) q.2).map fun p => (q.1 :: p.1, p.2)) : Option (List SDoc × List UInt8)).isSome = (pK (pD n) m (e : Int) r1).isSome := by
          simp only [Option.bind_some]
          cases pK (pD n) m (e : Int) r1 <;> rfl
        rw [e2]
        exact h1
      · rw [pK, hp] at hk
        simp only [Option.bind_some] at hk
        obtain ⟨⟨l2, r3⟩, h3, h4⟩ := Option.map_eq_some_iff.1 hk
        obtain ⟨rfl, rfl⟩ := Prod.mk.inj h4
        obtain ⟨e3, e4⟩ := h2 l2 r3 h3
        exact ⟨by rw [e3]; simp, e4⟩
theorem implRead_ev : ∀ n : Nat, n ≤ 40 → ∀ s : List UInt8, s.length ≤ 1099511627776 → RdI n s := by
  intro n
  induction n with
  | zero =>
    intro _ s hs
    have J : Ev (fun k => impl_parseDoc.j0 k (ba s) ((0 : Nat) : Int) true) (0, 0, (⟨#[]⟩ : ByteArray), ([] : List SDoc), ba s, false) := by
      refine Ev.step (fun k => by rw [impl_parseDoc.j0]) ?_
      simp only [if_true]
      exact Ev.now _
    exact ⟨⟨0, 0, ⟨#[]⟩, []⟩, s, Ev.step (fun k => by rw [impl_parseDoc.f, show (((0 : Nat) : Int) == 0) = true from rfl]) (Ev.iff (c := (ba s).toList = []) (fun _ => J) (fun _ => J)), fun d' r' hp => by simp [pD] at hp⟩
  | succ n ih =>
    intro hn s hs
    have IH := ih (by omega)
    match s, hs with
    | [], _ =>
      refine ⟨⟨0, 0, ⟨#[]⟩, []⟩, [], Ev.step (fun k => by rw [impl_parseDoc.f]) ?_, fun d' r' hp => by simp [pD, pN] at hp⟩
      simp only [if_pos (show (ba []).toList = ([] : List UInt8) from ba_toList [])]
      refine Ev.step (fun k => by rw [impl_parseDoc.j0]) ?_
      simp only [if_true]
      exact Ev.now _
    | c :: s, hs =>
      simp only [List.length_cons] at hs
      have start : ∀ R, Ev (fun k => impl_parseDoc.j0 k (ba (c :: s)) ((n + 1 : Nat) : Int) false) R → Ev (fun k => impl_parseDoc.f k (ba (c :: s)) ((n + 1 : Nat) : Int)) R := by
        intro R hR
        refine Ev.step (fun k => by rw [impl_parseDoc.f]) ?_
        simp only [if_neg (show ¬ (ba (c :: s)).toList = ([] : List UInt8) by rw [ba_toList]; simp)]
        rw [show (((n + 1 : Nat) : Int) == 0) = false by simp; omega]
        exact hR
      have inner : ∀ (s' : List UInt8) (m : Nat) (e : Nat) (o q : Int), s'.length ≤ s.length → m ≤ 2 → e < 256 → ∃ (d : SDoc) (r : List UInt8), Ev (fun k => impl_parseDoc.j2 k (ba s') ((n + 1 : Nat) : Int) (m : Int) (⟨#[UInt8.ofNat e]⟩ : ByteArray) o q (ba [])) (d.f0, d.f1, d.f2, d.f3, ba r, (pK (pD n) m (e : Int) s').isSome) ∧ ∀ ks r', pK (pD n) m (e : Int) s' = some (ks, r') → d = ⟨o, q, ba [], ks⟩ ∧ r' = r := by
        intro s' m e o q hl hm he
        obtain ⟨d, r, h1, h2⟩ := implInner_loop (n := n) (by omega) 1099511627776 (Nat.le_refl _) IH e he m hm o q m (Nat.le_refl _) s' [] (by omega) (by simp)
        exact ⟨d, r, Ev.step (fun k => by rw [impl_parseDoc.j2]; rfl) h1, fun ks r' hk => by simpa using h2 ks r' hk⟩
      have hsz : ((ba (c :: s)).size : Int) = (s.length : Int) + 1 := by rw [ba_size]; simp
      have hsz' : (ba (c :: s)).size = s.length + 1 := by rw [ba_size]; simp
      have J : ∀ R, (Ev (fun k => if (if (c.toNat : Int) = 126 then (0 : Int) else if (c.toNat : Int) = 95 then 1 else if (c.toNat : Int) = 46 then 2 else if (c.toNat : Int) = 33 then 3 else -1) ≥ 0 then
            (if 0 ≤ (if (c.toNat : Int) = 126 then (0 : Int) else if (c.toNat : Int) = 95 then 1 else if (c.toNat : Int) = 46 then 2 else if (c.toNat : Int) = 33 then 3 else -1) then (if (if (c.toNat : Int) = 126 then (0 : Int) else if (c.toNat : Int) = 95 then 1 else if (c.toNat : Int) = 46 then 2 else if (c.toNat : Int) = 33 then 3 else -1) < ((([1, 3, 4, 5] : List Int).length : Nat) : Int) then
              (some (rd ([1, 3, 4, 5] : List Int) (if (c.toNat : Int) = 126 then (0 : Int) else if (c.toNat : Int) = 95 then 1 else if (c.toNat : Int) = 46 then 2 else if (c.toNat : Int) = 33 then 3 else -1), (0 : Int), (⟨#[]⟩ : ByteArray), ([] : List SDoc), ba s, true)) else (none)) else (none))
          else (if (c.toNat : Int) = 34 then ((strings_Cut.f (ba s) (⟨#[34]⟩ : ByteArray)).bind fun bt640 => ((impl_word.f bt640.1).bind fun bt643 => (some (bt643.1, bt643.2.1, bt643.2.2.1, bt643.2.2.2, bt640.2.1, bt640.2.2)))) else (if (c.toNat : Int) ≥ 48 then (if (c.toNat : Int) ≤ 57 then ((strings_HasPrefix.f (ba s) (⟨#[60]⟩ : ByteArray)).bind fun t649 => (impl_parseDoc.j1 k (ba s) ((n + 1 : Nat) : Int) (c.toNat : Int) 1 t649 0 0 (⟨#[]⟩ : ByteArray))) else (impl_parseDoc.j1 k (ba s) ((n + 1 : Nat) : Int) (c.toNat : Int) 1 false 0 0 (⟨#[]⟩ : ByteArray))) else (impl_parseDoc.j1 k (ba s) ((n + 1 : Nat) : Int) (c.toNat : Int) 1 false 0 0 (⟨#[]⟩ : ByteArray))))) R) →
          Ev (fun k => impl_parseDoc.j0 k (ba (c :: s)) ((n + 1 : Nat) : Int) false) R := by
        intro R hR
        refine Ev.step (fun k => by rw [impl_parseDoc.j0]) ?_
        simp only [Bool.false_eq_true, if_false, hsz', if_pos (show (0 : Int) < ((s.length + 1 : Nat) : Int) by omega), if_pos (show (1 : Int) ≤ ((s.length + 1 : Nat) : Int) by omega), ba_bt, leaf_ev, Option.bind_some, extract1, impl_leaf.f]
        exact hR
      have leafs : ∀ (o i : Int), pD (n + 1) (c :: s) = some (⟨o, 0, ba [], []⟩, s) → (if (c.toNat : Int) = 126 then (0 : Int) else if (c.toNat : Int) = 95 then 1 else if (c.toNat : Int) = 46 then 2 else if (c.toNat : Int) = 33 then 3 else -1) = i → 0 ≤ i → i < 4 → rd ([1, 3, 4, 5] : List Int) i = o → RdI (n + 1) (c :: s) := by
        intro o i hp hi h0 h4 ho
        refine ⟨⟨o, 0, ba [], []⟩, s, start _ (J _ ?_), fun d' r' hd => by rw [hp] at hd; obtain ⟨e1, e2⟩ := Prod.mk.inj (Option.some.inj hd); exact ⟨e1.symm, e2.symm⟩⟩
        simp only [hi, if_pos (show i ≥ 0 from h0), if_pos h0, if_pos (show i < ((([1, 3, 4, 5] : List Int).length : Nat) : Int) from h4), ho, hp]
        exact Ev.now _
      by_cases c1 : (c.toNat : Int) = 126
      · exact leafs 1 0 (by rw [pD, pN, if_pos c1]) (by rw [if_pos c1]) (by omega) (by omega) rfl
      by_cases c2 : (c.toNat : Int) = 95
      · exact leafs 3 1 (by rw [pD, pN, if_neg c1, if_pos c2]) (by rw [if_neg c1, if_pos c2]) (by omega) (by omega) rfl
      by_cases c3 : (c.toNat : Int) = 46
      · exact leafs 4 2 (by rw [pD, pN, if_neg c1, if_neg c2, if_pos c3]) (by rw [if_neg c1, if_neg c2, if_pos c3]) (by omega) (by omega) rfl
      by_cases c4 : (c.toNat : Int) = 33
      · exact leafs 5 3 (by rw [pD, pN, if_neg c1, if_neg c2, if_neg c3, if_pos c4]) (by rw [if_neg c1, if_neg c2, if_neg c3, if_pos c4]) (by omega) (by omega) rfl
      have J' : ∀ R, (Ev (fun k => if (c.toNat : Int) = 34 then ((strings_Cut.f (ba s) (⟨#[34]⟩ : ByteArray)).bind fun bt640 => ((impl_word.f bt640.1).bind fun bt643 => (some (bt643.1, bt643.2.1, bt643.2.2.1, bt643.2.2.2, bt640.2.1, bt640.2.2)))) else (if (c.toNat : Int) ≥ 48 then (if (c.toNat : Int) ≤ 57 then ((strings_HasPrefix.f (ba s) (⟨#[60]⟩ : ByteArray)).bind fun t649 => (impl_parseDoc.j1 k (ba s) ((n + 1 : Nat) : Int) (c.toNat : Int) 1 t649 0 0 (⟨#[]⟩ : ByteArray))) else (impl_parseDoc.j1 k (ba s) ((n + 1 : Nat) : Int) (c.toNat : Int) 1 false 0 0 (⟨#[]⟩ : ByteArray))) else (impl_parseDoc.j1 k (ba s) ((n + 1 : Nat) : Int) (c.toNat : Int) 1 false 0 0 (⟨#[]⟩ : ByteArray)))) R) → Ev (fun k => impl_parseDoc.f k (ba (c :: s)) ((n + 1 : Nat) : Int)) R := by
        intro R hR
        refine start _ (J _ ?_)
        simp only [if_neg c1, if_neg c2, if_neg c3, if_neg c4, if_neg (show ¬ ((-1 : Int) ≥ 0) by omega)]
        exact hR
      by_cases c5 : (c.toNat : Int) = 34
      · have hp : pD (n + 1) (c :: s) = (pW s).map fun q => (⟨2, 0, ba q.1, []⟩, q.2) := by rw [pD, pN, if_neg c1, if_neg c2, if_neg c3, if_neg c4, if_pos c5]
        have hc := cut_eq s (by omega)
        unfold RdI
        rw [hp]
        cases hq : pW s with
        | none =>
          rw [hq] at hc
          refine ⟨⟨2, 0, ba s, []⟩, [], J' _ ?_, fun d' r' hd => by cases hd⟩
          simp only [if_pos c5, hc, Option.bind_some, impl_word.f]
          exact Ev.now _
        | some q =>
          rw [hq] at hc
          refine ⟨⟨2, 0, ba q.1, []⟩, q.2, J' _ ?_, fun d' r' hd => by obtain ⟨e1, e2⟩ := Prod.mk.inj (Option.some.inj hd); exact ⟨e1.symm, e2.symm⟩⟩
          simp only [if_pos c5, hc, Option.bind_some, impl_word.f]
          exact Ev.now _
      have J1 : ∀ (R : Int × Int × ByteArray × List SDoc × ByteArray × Bool) (b : Bool), b = (decide ((c.toNat : Int) ≥ 48) && (decide ((c.toNat : Int) ≤ 57) && hd60 s)) → Ev (fun k => impl_parseDoc.j1 k (ba s) ((n + 1 : Nat) : Int) (c.toNat : Int) 1 b 0 0 (⟨#[]⟩ : ByteArray)) R → Ev (fun k => impl_parseDoc.f k (ba (c :: s)) ((n + 1 : Nat) : Int)) R := by
        intro R b hb hR
        refine J' _ ?_
        simp only [if_neg c5]
        refine Ev.iff (fun h1 => Ev.iff (fun h2 => ?_) (fun h2 => ?_)) (fun h1 => ?_)
        · have hh : strings_HasPrefix.f (ba s) (⟨#[60]⟩ : ByteArray) = some (hd60 s) := by
            rw [strings_HasPrefix.f]
            have := pre_eq s 60 (by omega)
            rw [show (UInt8.ofNat 60) = (60 : UInt8) from rfl] at this
            rw [this]
            cases s with
            | nil => rfl
            | cons q s => simp only [Option.bind_some, hd60]; rfl
          rw [decide_eq_true h1, decide_eq_true h2] at hb
          simp only [hh, Option.bind_some]
          rw [show hd60 s = b by rw [hb]; simp]
          exact hR
        · rw [decide_eq_true h1, decide_eq_false h2] at hb
          simp only [Bool.false_and, Bool.and_false] at hb
          subst hb; exact hR
        · rw [decide_eq_false h1] at hb
          simp only [Bool.false_and] at hb
          subst hb; exact hR
      by_cases c6 : (c.toNat : Int) = 40
      · have hp : pD (n + 1) (c :: s) = (pK (pD n) 2 41 s).map fun q => (⟨7, 0, ba [], q.1⟩, q.2) := by rw [pD, pN, if_neg c1, if_neg c2, if_neg c3, if_neg c4, if_neg c5, if_pos c6]
        obtain ⟨d, r, h1, h2⟩ := inner s 2 41 7 0 (Nat.le_refl _) (by omega) (by omega)
        refine ⟨d, r, J1 _ false (by rw [decide_eq_false (show ¬ ((c.toNat : Int) ≥ 48) by omega)]; rfl) (Ev.step (fun k => by rw [impl_parseDoc.j1]) ?_), fun d' r' hd => ?_⟩
        · simp only [Bool.false_eq_true, if_false, if_pos c6]
          rw [hp, show ((pK (pD n) 2 41 s).map fun q => ((⟨7, 0, ba [], q.1⟩ : SDoc), q.2)).isSome = (pK (pD n) 2 41 s).isSome by cases pK (pD n) 2 41 s <;> rfl]
          exact h1
        · rw [hp] at hd
          obtain ⟨⟨ks, r2⟩, e1, e2⟩ := Option.map_eq_some_iff.1 hd
          obtain ⟨rfl, rfl⟩ := Prod.mk.inj e2
          obtain ⟨e3, e4⟩ := h2 ks r2 e1
          exact ⟨e3.symm, e4⟩
      by_cases c7 : (c.toNat : Int) = 91
      · have hp : pD (n + 1) (c :: s) = (pK (pD n) 1 93 s).map fun q => (⟨8, 0, ba [], q.1⟩, q.2) := by rw [pD, pN, if_neg c1, if_neg c2, if_neg c3, if_neg c4, if_neg c5, if_neg c6, if_pos c7]
        obtain ⟨d, r, h1, h2⟩ := inner s 1 93 8 0 (Nat.le_refl _) (by omega) (by omega)
        refine ⟨d, r, J1 _ false (by rw [decide_eq_false (show ¬ ((c.toNat : Int) ≤ 57) by omega)]; simp) (Ev.step (fun k => by rw [impl_parseDoc.j1]) ?_), fun d' r' hd => ?_⟩
        · simp only [Bool.false_eq_true, if_false, if_neg c6, if_pos c7]
          rw [hp, show ((pK (pD n) 1 93 s).map fun q => ((⟨8, 0, ba [], q.1⟩ : SDoc), q.2)).isSome = (pK (pD n) 1 93 s).isSome by cases pK (pD n) 1 93 s <;> rfl]
          exact h1
        · rw [hp] at hd
          obtain ⟨⟨ks, r2⟩, e1, e2⟩ := Option.map_eq_some_iff.1 hd
          obtain ⟨rfl, rfl⟩ := Prod.mk.inj e2
          obtain ⟨e3, e4⟩ := h2 ks r2 e1
          exact ⟨e3.symm, e4⟩
      by_cases c8 : 48 ≤ (c.toNat : Int) ∧ (c.toNat : Int) ≤ 57 ∧ hd60 s = true
      · have hp : pD (n + 1) (c :: s) = (pK (pD n) 1 62 s.tail).map fun q => (⟨6, (c.toNat : Int) - 48, ba [], q.1⟩, q.2) := by rw [pD, pN, if_neg c1, if_neg c2, if_neg c3, if_neg c4, if_neg c5, if_neg c6, if_neg c7, if_pos c8]
        obtain ⟨c80, c81, c82⟩ := c8
        match s, hs, inner, J1, hp, c82 with
        | q :: s, hs, inner, J1, hp, c82 =>
          simp only [List.length_cons] at hs
          obtain ⟨d, r, h1, h2⟩ := inner s 1 62 6 ((c.toNat : Int) - 48) (by simp) (by omega) (by omega)
          refine ⟨d, r, J1 _ true (by rw [decide_eq_true (show (c.toNat : Int) ≥ 48 from c80), decide_eq_true c81, c82]; rfl) (Ev.step (fun k => by rw [impl_parseDoc.j1]) ?_), fun d' r' hd => ?_⟩
          · have z1 : ((ba (q :: s)).size : Int) = (s.length : Int) + 1 := by rw [ba_size]; simp
            have z2 : (ba (q :: s)).size = s.length + 1 := by rw [ba_size]; simp
            simp only [if_true, z2, if_pos (show (1 : Int) ≤ ((s.length + 1 : Nat) : Int) by omega), extract1]
            rw [show ((c.toNat : Int) - 48) % 256 = (c.toNat : Int) - 48 by omega, hp]
            simp only [List.tail_cons]
            rw [show ((pK (pD n) 1 62 s).map fun p => ((⟨6, (c.toNat : Int) - 48, ba [], p.1⟩ : SDoc), p.2)).isSome = (pK (pD n) 1 62 s).isSome by cases pK (pD n) 1 62 s <;> rfl]
            exact h1
          · rw [hp] at hd
            simp only [List.tail_cons] at hd
            obtain ⟨⟨ks, r2⟩, e1, e2⟩ := Option.map_eq_some_iff.1 hd
            obtain ⟨rfl, rfl⟩ := Prod.mk.inj e2
            obtain ⟨e3, e4⟩ := h2 ks r2 e1
            exact ⟨e3.symm, e4⟩
        | [], _, _, _, _, c82 => simp [hd60] at c82
      · have hp : pD (n + 1) (c :: s) = none := by rw [pD, pN, if_neg c1, if_neg c2, if_neg c3, if_neg c4, if_neg c5, if_neg c6, if_neg c7, if_neg c8]
        unfold RdI
        rw [hp]
        refine ⟨⟨0, 0, ⟨#[]⟩, []⟩, s, J1 _ false ?_ (Ev.step (fun k => by rw [impl_parseDoc.j1]) ?_), fun d' r' hd => by cases hd⟩
        · symm
          rw [Bool.eq_false_iff]
          intro h
          simp only [Bool.and_eq_true, decide_eq_true_eq] at h
          exact c8 ⟨h.1, h.2.1, h.2.2⟩
        · simp only [Bool.false_eq_true, if_false, if_neg c6, if_neg c7]
          exact Ev.now _
theorem implParse_ev (s : ByteArray) (hs : s.size ≤ 1099511627776) : Ev (fun k => impl_ParseDoc.f k s) (docR (parseR s.data.toList)) := by
  have hs' : s.data.toList.length ≤ 1099511627776 := by rw [← size_data]; exact hs
  obtain ⟨d, r, h1, h2⟩ := implRead_ev 40 (Nat.le_refl _) s.data.toList hs'
  rw [ba_of] at h1
  have h1 : Ev (fun k => impl_parseDoc.f k s 40) (d.f0, d.f1, d.f2, d.f3, ba r, (pD 40 s.data.toList).isSome) := h1
  have J : ∀ (o n : Int) (t : ByteArray) (ks : List SDoc) (w : Bool), Ev (fun k => impl_ParseDoc.j0 k w o n t ks) (if w = true then ((0 : Int), (0 : Int), (⟨#[]⟩ : ByteArray), ([] : List SDoc), false) else (o, n, t, ks, true)) := by
    intro o n t ks w
    refine Ev.step (fun k => by rw [impl_ParseDoc.j0]) ?_
    cases w with
    | true => simp only [if_true]; exact Ev.now _
    | false => simp only [Bool.false_eq_true, if_false]; exact Ev.now _
  refine Ev.congr (fun k => by rw [impl_ParseDoc.f]) (Ev.bind h1 ?_)
  unfold parseR
  cases hp : pD 40 s.data.toList with
  | none =>
    simp only [Option.isSome_none, Bool.false_eq_true, if_false]
    exact J _ _ _ _ true
  | some q =>
    obtain ⟨d', r'⟩ := q
    obtain ⟨rfl, rfl⟩ := h2 d' r' hp
    obtain ⟨hm, u, hu⟩ := pD_good 40 _ _ _ hp
    simp only [Option.isSome_some, if_true]
    match r', hp, hm, hu with
    | [], hp, hm, hu =>
      simp only [if_pos (show (ba []).toList = ([] : List UInt8) from ba_toList [])]
      refine Ev.bind (implValid_ev d' (by omega)) ?_
      have := J d'.f0 d'.f1 d'.f2 d'.f3 (!docV d')
      by_cases hv : docV d' = true
      · rw [hv] at this ⊢
        simpa [docR] using this
      · have hv' : docV d' = false := by simpa using hv
        rw [hv'] at this ⊢
        simpa [docR] using this
    | c :: r', hp, hm, hu =>
      simp only [if_neg (show ¬ (ba (c :: r')).toList = ([] : List UInt8) by rw [ba_toList]; simp)]
      exact J _ _ _ _ true
end Go.Proofs.Ytdhdfmmefghijaa.Pure
namespace Go.Proofs.Ytdhdfmmefghijaa.Pure
open Go.RowKit Go.Proofs.Ytdhdfmmefghijaa.P Go.Proofs.YtdhdfmmefghijaaW.PrintWords Go.Proofs.YtdhdfmmefghijaaW.PrintLast Go.Proofs.YtdhdfmmefghijaaW.PrintMore
set_option linter.unusedVariables false
set_option linter.unusedSimpArgs false
theorem d1 (c : UInt8) : (⟨#[c]⟩ : ByteArray) = ba [c] := rfl
theorem data_ap (a b : ByteArray) : (a ++ b).data.toList = a.data.toList ++ b.data.toList := by simp
theorem digit_data (n : Int) (h0 : 0 ≤ n) (h9 : n ≤ 9) : ∃ c : UInt8, (strOfNums [wrap64 (48 + n) % 256]).data.toList = [c] ∧ (c.toNat : Int) = 48 + n := by
  have : n = 0 ∨ n = 1 ∨ n = 2 ∨ n = 3 ∨ n = 4 ∨ n = 5 ∨ n = 6 ∨ n = 7 ∨ n = 8 ∨ n = 9 := by omega
  rcases this with rfl | rfl | rfl | rfl | rfl | rfl | rfl | rfl | rfl | rfl
  · exact ⟨48, by decide +kernel, rfl⟩
  · exact ⟨49, by decide +kernel, rfl⟩
  · exact ⟨50, by decide +kernel, rfl⟩
  · exact ⟨51, by decide +kernel, rfl⟩
  · exact ⟨52, by decide +kernel, rfl⟩
  · exact ⟨53, by decide +kernel, rfl⟩
  · exact ⟨54, by decide +kernel, rfl⟩
  · exact ⟨55, by decide +kernel, rfl⟩
  · exact ⟨56, by decide +kernel, rfl⟩
  · exact ⟨57, by decide +kernel, rfl⟩
def Ext (f : List UInt8 → Option (SDoc × List UInt8)) : Prop := ∀ s d r x, f s = some (d, r) → f (s ++ x) = some (d, r ++ x)
theorem pW_ext : ∀ {s a r : List UInt8} (x : List UInt8), pW s = some (a, r) → pW (s ++ x) = some (a, r ++ x)
  | c :: s, a, r, x, h => by
    rw [pW] at h
    rw [List.cons_append, pW]
    by_cases e : (c.toNat : Int) = 34
    · rw [if_pos e] at h ⊢
      obtain ⟨rfl, rfl⟩ := Prod.mk.inj (Option.some.inj h)
      rfl
    · rw [if_neg e] at h ⊢
      obtain ⟨⟨a', r'⟩, h1, h2⟩ := Option.map_eq_some_iff.1 h
      obtain ⟨rfl, rfl⟩ := Prod.mk.inj h2
      rw [pW_ext x h1]
      rfl
theorem pK_ext {f} (hf : Ext f) : ∀ (m : Nat) (e : Int) (s : List UInt8) (ks : List SDoc) (r x : List UInt8), pK f m e s = some (ks, r) → pK f m e (s ++ x) = some (ks, r ++ x)
  | 0, e, [], ks, r, x, h => by simp [pK] at h
  | 0, e, c :: s, ks, r, x, h => by
    rw [pK] at h
    rw [List.cons_append, pK]
    by_cases e' : (c.toNat : Int) = e
    · rw [if_pos e'] at h ⊢
      obtain ⟨rfl, rfl⟩ := Prod.mk.inj (Option.some.inj h)
      rfl
    · rw [if_neg e'] at h; cases h
  | m + 1, e, s, ks, r, x, h => by
    rw [pK] at h ⊢
    obtain ⟨⟨d, r1⟩, h1, h⟩ := Option.bind_eq_some_iff.1 h
    obtain ⟨⟨l, r2⟩, h2, h⟩ := Option.map_eq_some_iff.1 h
    obtain ⟨rfl, rfl⟩ := Prod.mk.inj h
    rw [hf _ _ _ x h1]
    simp only [Option.bind_some]
    rw [pK_ext hf m e _ _ _ x h2]
    rfl
theorem hd60_ext {s : List UInt8} (x : List UInt8) (h : hd60 s = true) : hd60 (s ++ x) = true ∧ (s ++ x).tail = s.tail ++ x := by
  cases s with
  | nil => simp [hd60] at h
  | cons c s => exact ⟨h, rfl⟩
theorem pN_ext {f} (hf : Ext f) : Ext (pN f) := by
  intro s d r x h
  match s, h with
  | c :: s, h =>
    rw [List.cons_append]
    rw [pN] at h ⊢
    by_cases c1 : (c.toNat : Int) = 126
    · rw [if_pos c1] at h ⊢; obtain ⟨rfl, rfl⟩ := Prod.mk.inj (Option.some.inj h); rfl
    rw [if_neg c1] at h ⊢
    by_cases c2 : (c.toNat : Int) = 95
    · rw [if_pos c2] at h ⊢; obtain ⟨rfl, rfl⟩ := Prod.mk.inj (Option.some.inj h); rfl
    rw [if_neg c2] at h ⊢
    by_cases c3 : (c.toNat : Int) = 46
    · rw [if_pos c3] at h ⊢; obtain ⟨rfl, rfl⟩ := Prod.mk.inj (Option.some.inj h); rfl
    rw [if_neg c3] at h ⊢
    by_cases c4 : (c.toNat : Int) = 33
    · rw [if_pos c4] at h ⊢; obtain ⟨rfl, rfl⟩ := Prod.mk.inj (Option.some.inj h); rfl
    rw [if_neg c4] at h ⊢
    by_cases c5 : (c.toNat : Int) = 34
    · rw [if_pos c5] at h ⊢
      obtain ⟨⟨a, r'⟩, h1, h2⟩ := Option.map_eq_some_iff.1 h
      obtain ⟨rfl, rfl⟩ := Prod.mk.inj h2
      rw [pW_ext x h1]; rfl
    rw [if_neg c5] at h ⊢
    by_cases c6 : (c.toNat : Int) = 40
    · rw [if_pos c6] at h ⊢
      obtain ⟨⟨a, r'⟩, h1, h2⟩ := Option.map_eq_some_iff.1 h
      obtain ⟨rfl, rfl⟩ := Prod.mk.inj h2
      rw [pK_ext hf _ _ _ _ _ x h1]; rfl
    rw [if_neg c6] at h ⊢
    by_cases c7 : (c.toNat : Int) = 91
    · rw [if_pos c7] at h ⊢
      obtain ⟨⟨a, r'⟩, h1, h2⟩ := Option.map_eq_some_iff.1 h
      obtain ⟨rfl, rfl⟩ := Prod.mk.inj h2
      rw [pK_ext hf _ _ _ _ _ x h1]; rfl
    rw [if_neg c7] at h ⊢
    by_cases c8 : 48 ≤ (c.toNat : Int) ∧ (c.toNat : Int) ≤ 57 ∧ hd60 s = true
    · obtain ⟨e1, e2⟩ := hd60_ext x c8.2.2
      rw [if_pos c8] at h
      rw [if_pos ⟨c8.1, c8.2.1, e1⟩, e2]
      obtain ⟨⟨a, r'⟩, h1, h2⟩ := Option.map_eq_some_iff.1 h
      obtain ⟨rfl, rfl⟩ := Prod.mk.inj h2
      rw [pK_ext hf _ _ _ _ _ x h1]; rfl
    · rw [if_neg c8] at h; cases h
theorem pD_ext : ∀ n, Ext (pD n)
  | 0 => fun s d r x h => by simp [pD] at h
  | n + 1 => pN_ext (pD_ext n)
def Wr (f : List UInt8 → Option (SDoc × List UInt8)) : Prop := ∀ s d r, f s = some (d, r) → s = (fmtB d).data.toList ++ r
def fmtC : List SDoc → List UInt8
  | [] => []
  | k :: ks => (fmtB k).data.toList ++ fmtC ks
theorem pK_wr {f} (hf : Wr f) : ∀ (m : Nat) (e : Int) (s : List UInt8) (ks : List SDoc) (r : List UInt8), pK f m e s = some (ks, r) → ks.length = m ∧ ∃ c : UInt8, (c.toNat : Int) = e ∧ s = fmtC ks ++ c :: r
  | 0, e, [], ks, r, h => by simp [pK] at h
  | 0, e, c :: s, ks, r, h => by
    rw [pK] at h
    by_cases e' : (c.toNat : Int) = e
    · rw [if_pos e'] at h
      obtain ⟨rfl, rfl⟩ := Prod.mk.inj (Option.some.inj h)
      exact ⟨rfl, c, e', rfl⟩
    · rw [if_neg e'] at h; cases h
  | m + 1, e, s, ks, r, h => by
    rw [pK] at h
    obtain ⟨⟨d, r1⟩, h1, h⟩ := Option.bind_eq_some_iff.1 h
    obtain ⟨⟨l, r2⟩, h2, h⟩ := Option.map_eq_some_iff.1 h
    obtain ⟨rfl, rfl⟩ := Prod.mk.inj h
    obtain ⟨g1, c, hc, e2⟩ := pK_wr hf m e _ _ _ h2
    have e1 := hf _ _ _ h1
    simp only at e2
    exact ⟨by simp [g1], c, hc, by rw [e1, e2]; simp [fmtC]⟩
theorem u8_of {c : UInt8} {m : UInt8} (h : (c.toNat : Int) = (m.toNat : Int)) : c = m := UInt8.toNat_inj.1 (by omega)
theorem pN_wr {f} (hf : Wr f) : Wr (pN f) := by
  intro s d r h
  match s, h with
  | c :: s, h =>
    rw [pN] at h
    by_cases c1 : (c.toNat : Int) = 126
    · rw [if_pos c1] at h; obtain ⟨rfl, rfl⟩ := Prod.mk.inj (Option.some.inj h)
      obtain rfl := u8_of (m := 126) c1; rfl
    rw [if_neg c1] at h
    by_cases c2 : (c.toNat : Int) = 95
    · rw [if_pos c2] at h; obtain ⟨rfl, rfl⟩ := Prod.mk.inj (Option.some.inj h)
      obtain rfl := u8_of (m := 95) c2; rfl
    rw [if_neg c2] at h
    by_cases c3 : (c.toNat : Int) = 46
    · rw [if_pos c3] at h; obtain ⟨rfl, rfl⟩ := Prod.mk.inj (Option.some.inj h)
      obtain rfl := u8_of (m := 46) c3; rfl
    rw [if_neg c3] at h
    by_cases c4 : (c.toNat : Int) = 33
    · rw [if_pos c4] at h; obtain ⟨rfl, rfl⟩ := Prod.mk.inj (Option.some.inj h)
      obtain rfl := u8_of (m := 33) c4; rfl
    rw [if_neg c4] at h
    by_cases c5 : (c.toNat : Int) = 34
    · rw [if_pos c5] at h
      obtain ⟨⟨a, r'⟩, h1, h2⟩ := Option.map_eq_some_iff.1 h
      obtain ⟨rfl, rfl⟩ := Prod.mk.inj h2
      obtain ⟨q, hq, rfl⟩ := pW_is h1
      obtain rfl := u8_of (m := 34) c5
      obtain rfl := u8_of (m := 34) hq
      show _ = ((((⟨#[34]⟩ : ByteArray) ++ ba a) ++ (⟨#[34]⟩ : ByteArray)).data.toList) ++ r'
      rw [data_ap, data_ap, ba_data]
      simp
    rw [if_neg c5] at h
    by_cases c6 : (c.toNat : Int) = 40
    · rw [if_pos c6] at h
      obtain ⟨⟨a, r'⟩, h1, h2⟩ := Option.map_eq_some_iff.1 h
      obtain ⟨rfl, rfl⟩ := Prod.mk.inj h2
      obtain ⟨hl, q, hq, rfl⟩ := pK_wr hf _ _ _ _ _ h1
      obtain rfl := u8_of (m := 40) c6
      obtain rfl := u8_of (m := 41) hq
      match a, hl with
      | [x, y], _ =>
        show _ = (((((⟨#[40]⟩ : ByteArray) ++ fmtB x) ++ fmtB y) ++ (⟨#[41]⟩ : ByteArray)).data.toList) ++ r'
        rw [data_ap, data_ap, data_ap]
        simp [fmtC]
    rw [if_neg c6] at h
    by_cases c7 : (c.toNat : Int) = 91
    · rw [if_pos c7] at h
      obtain ⟨⟨a, r'⟩, h1, h2⟩ := Option.map_eq_some_iff.1 h
      obtain ⟨rfl, rfl⟩ := Prod.mk.inj h2
      obtain ⟨hl, q, hq, rfl⟩ := pK_wr hf _ _ _ _ _ h1
      obtain rfl := u8_of (m := 91) c7
      obtain rfl := u8_of (m := 93) hq
      match a, hl with
      | [y], _ =>
        show _ = ((((⟨#[91]⟩ : ByteArray) ++ fmtB y) ++ (⟨#[93]⟩ : ByteArray)).data.toList) ++ r'
        rw [data_ap, data_ap]
        simp [fmtC]
    rw [if_neg c7] at h
    by_cases c8 : 48 ≤ (c.toNat : Int) ∧ (c.toNat : Int) ≤ 57 ∧ hd60 s = true
    · rw [if_pos c8] at h
      obtain ⟨⟨a, r'⟩, h1, h2⟩ := Option.map_eq_some_iff.1 h
      obtain ⟨rfl, rfl⟩ := Prod.mk.inj h2
      obtain ⟨hl, q, hq, e⟩ := pK_wr hf _ _ _ _ _ h1
      obtain rfl := u8_of (m := 62) hq
      obtain ⟨y, rfl⟩ : ∃ y, a = [y] := List.length_eq_one_iff.1 hl
      match s, c8, e with
      | [], c8, _ => simp [hd60] at c8
      | z :: s, c8, e =>
        have hz : (z.toNat : Int) = 60 := by simpa [hd60] using c8.2.2
        obtain rfl := u8_of (m := 60) hz
        obtain ⟨c', hc', hcn⟩ := digit_data ((c.toNat : Int) - 48) (by omega) (by omega)
        have hcc : c = c' := UInt8.toNat_inj.1 (by omega)
        subst hcc
        simp only [List.tail_cons] at e
        subst e
        show _ = ((((strOfNums [wrap64 (48 + ((c.toNat : Int) - 48)) % 256] ++ (⟨#[60]⟩ : ByteArray)) ++ fmtB y) ++ (⟨#[62]⟩ : ByteArray)).data.toList) ++ r'
        rw [data_ap, data_ap, data_ap, hc']
        simp [fmtC]
    · rw [if_neg c8] at h; cases h
theorem pD_wr : ∀ n, Wr (pD n)
  | 0 => fun s d r h => by simp [pD] at h
  | n + 1 => pN_wr (pD_wr n)
theorem parse_is {s : List UInt8} {d : SDoc} (h : parseR s = some d) : docV d = true ∧ s = (fmtB d).data.toList ∧ pD 40 s = some (d, []) := by
  unfold parseR at h
  split at h
  · rename_i d' hp
    split at h
    · rename_i hv
      obtain rfl := Option.some.inj h
      exact ⟨hv, by have := pD_wr 40 _ _ _ hp; simpa using this, hp⟩
    · cases h
  · cases h
theorem parse_more {s : List UInt8} {d : SDoc} {c : UInt8} (h : parseR s = some d) : parseR (s ++ [c]) = none := by
  obtain ⟨_, _, hp⟩ := parse_is h
  have := pD_ext 40 _ _ _ [c] hp
  unfold parseR
  rw [this]
  rfl
end Go.Proofs.Ytdhdfmmefghijaa.Pure
namespace Go.Proofs.Ytdhdfmmefghijaa.P
open Go.RowKit Go.Proofs.YtdhdfmmefghijaaW.PrintWords Go.Proofs.YtdhdfmmefghijaaW.PrintLast Go.Proofs.YtdhdfmmefghijaaW.PrintMore
attribute [local go_sem] max2_int min2_int max_two min_two max_three min_three max_four min_four
set_option linter.unusedVariables false
set_option linter.unusedSimpArgs false
mutual
def spec_DocSame.j0:Nat→Bool→Int→Int→ByteArray→List (SDoc)→Int→Int→ByteArray→List (SDoc)→Option (Bool)
 | 0,_,_,_,_,_,_,_,_,_=>none
 | k+1,x33,x602000,x602001,x602002,x602003,x603000,x603001,x603002,x603003=>if x33=true then (some false) else (spec_DocSame.l0 k 0 x602000 x602001 x602002 x602003 x603000 x603001 x603002 x603003)
def spec_DocSame.l0:Nat→Int→Int→Int→ByteArray→List (SDoc)→Int→Int→ByteArray→List (SDoc)→Option (Bool)
 | 0,_,_,_,_,_,_,_,_,_=>none
 | k+1,x5,x602000,x602001,x602002,x602003,x603000,x603001,x603002,x603003=>if x5 < (x602003.length:Int) then (if 0≤x5 then (if x5 < (x603003.length:Int) then ((spec_DocSame.f k ((rd_TDoc x602003 x5).f0) ((rd_TDoc x602003 x5).f1) ((rd_TDoc x602003 x5).f2) ((rd_TDoc x602003 x5).f3) ((rd_TDoc x603003 x5).f0) ((rd_TDoc x603003 x5).f1) ((rd_TDoc x603003 x5).f2) ((rd_TDoc x603003 x5).f3)).bind fun t605=>(if t605=true then (spec_DocSame.l0 k (wrap64 (x5+1)) x602000 x602001 x602002 x602003 x603000 x603001 x603002 x603003) else (some false))) else (none)) else (none)) else (some true)
def spec_DocSame.f:Nat→Int→Int→ByteArray→List (SDoc)→Int→Int→ByteArray→List (SDoc)→Option (Bool)
 | 0,_,_,_,_,_,_,_,_=>none
 | k+1,a0_0,a0_1,a0_2,l0_3,a1_0,a1_1,a1_2,l1_3=>if a0_0=a1_0 then (if a0_1=a1_1 then (if a0_2.toList=a1_2.toList then (spec_DocSame.j0 k ((l0_3.length:Int) != (l1_3.length:Int)) a0_0 a0_1 a0_2 l0_3 a1_0 a1_1 a1_2 l1_3) else (spec_DocSame.j0 k true a0_0 a0_1 a0_2 l0_3 a1_0 a1_1 a1_2 l1_3)) else (spec_DocSame.j0 k true a0_0 a0_1 a0_2 l0_3 a1_0 a1_1 a1_2 l1_3)) else (spec_DocSame.j0 k true a0_0 a0_1 a0_2 l0_3 a1_0 a1_1 a1_2 l1_3)
end
def spec_DocSame.T6:Bool × List (List Nat × List Nat):=(true,[([],[]),([0],[0]),([],[]),([1,2],[1,2]),([3],[3]),([],[]),([5],[5]),([],[]),([6,7],[6,7]),([8],[8]),([4,9],[4,9]),([10],[10])])
def spec_DocSame.B6:List Nat:=[0,1,0,7,15,0,32,0,224,480,1023,2047]
theorem spec_DocSame.tab6:rtab .any (opsOf Try.f35 6)=spec_DocSame.T6:=by kernel_rfl
theorem spec_DocSame.bits6:waitsOk spec_DocSame.T6.2 spec_DocSame.B6=true:=by kernel_rfl
end Go.Proofs.Ytdhdfmmefghijaa.P
namespace Go.Proofs.Ytdhdfmmefghijaa.Pure
open Go.RowKit Go.Proofs.Ytdhdfmmefghijaa.P Go.Proofs.YtdhdfmmefghijaaW.PrintWords Go.Proofs.YtdhdfmmefghijaaW.PrintLast Go.Proofs.YtdhdfmmefghijaaW.PrintMore
set_option linter.unusedVariables false
set_option linter.unusedSimpArgs false
mutual
def dsame : SDoc → SDoc → Bool
  | ⟨o, n, t, ks⟩, e => decide (o = e.f0) && (decide (n = e.f1) && (decide (t.toList = e.f2.toList) && (decide (ks.length = e.f3.length) && dsameL ks e.f3)))
def dsameL : List SDoc → List SDoc → Bool
  | [], _ => true
  | _ :: _, [] => true
  | k :: ks, e :: es => dsame k e && dsameL ks es
end
theorem implSame_loop (o n o' n' : Int) (t t' : ByteArray) (suf : List SDoc) : ∀ (pre pre' suf' : List SDoc),
    (∀ y, y ∈ suf → ∀ e, Ev (fun k => impl_DocSame.f k y.f0 y.f1 y.f2 y.f3 e.f0 e.f1 e.f2 e.f3) (dsame y e)) → pre.length = pre'.length → suf.length = suf'.length → pre.length + suf.length ≤ 4611686018427387904 →
    Ev (fun k => impl_DocSame.l0 k ((pre ++ suf).length : Int) (pre.length : Int) o n t (pre ++ suf) o' n' t' (pre' ++ suf')) (dsameL suf suf') := by
  induction suf with
  | nil =>
    intro pre pre' suf' _ hp hs hm
    refine Ev.step (fun k => by rw [impl_DocSame.l0]) ?_
    simp only [List.append_nil, Int.lt_irrefl, if_false, dsameL]
    exact Ev.now _
  | cons y suf ih =>
    intro pre pre' suf' hy hp hs hm
    cases suf' with
    | nil => simp at hs
    | cons e suf' =>
      simp only [List.length_cons] at hm hs
      refine Ev.step (fun k => by rw [impl_DocSame.l0]) ?_
      have c1 : (pre.length : Int) < ((pre ++ y :: suf).length : Int) := by simp; omega
      have c2 : (0 : Int) ≤ (pre.length : Int) := by omega
      have c3 : (pre.length : Int) < ((pre' ++ e :: suf').length : Int) := by simp; omega
      have r' : rd_TDoc (pre' ++ e :: suf') (pre.length : Int) = e := by rw [hp]; exact rdD pre' suf' e
      simp only [if_pos c1, if_pos c2, if_pos c3, rdD, r']
      refine Ev.bind (hy y List.mem_cons_self e) ?_
      rw [w64 (by omega) (by omega)]
      have := ih (pre ++ [y]) (pre' ++ [e]) suf' (fun z hz => hy z (List.mem_cons_of_mem _ hz)) (by simp; omega) (by omega) (by simp; omega)
      rw [List.append_assoc, List.append_assoc, show ((pre ++ [y]).length : Int) = (pre.length : Int) + 1 by simp] at this
      rw [dsameL]
      cases dsame y e
      · exact Ev.now _
      · simpa using this
theorem implSame_ev : ∀ (d e : SDoc), dsz d ≤ 4611686018427387904 → Ev (fun k => impl_DocSame.f k d.f0 d.f1 d.f2 d.f3 e.f0 e.f1 e.f2 e.f3) (dsame d e) := by
  intro d
  induction d using SDoc.ind with
  | h o n t ks ih =>
    intro e hd
    simp only [dsz] at hd
    have hl := dszL_len ks
    have F : Ev (fun k => impl_DocSame.j0 k true o n t ks e.f0 e.f1 e.f2 e.f3) false := by
      refine Ev.step (fun k => by rw [impl_DocSame.j0]) ?_
      exact Ev.now _
    refine Ev.step (fun k => by rw [impl_DocSame.f]) ?_
    refine Ev.iff (fun h0 => ?_) (fun h0 => by simpa [dsame, h0] using F)
    refine Ev.iff (fun h1 => ?_) (fun h1 => by simpa [dsame, h1] using F)
    refine Ev.iff (fun h2 => ?_) (fun h2 => by simpa [dsame, h2] using F)
    have h0 : o = e.f0 := h0
    have h1 : n = e.f1 := h1
    have h2 : t.toList = e.f2.toList := h2
    by_cases h3 : ks.length = e.f3.length
    · have := implSame_loop o n e.f0 e.f1 t e.f2 ks [] [] e.f3 (fun y hy e => ih y hy e (by have := dszL_mem hy; omega)) rfl h3 (by simp; omega)
      refine Ev.step (fun k => by rw [impl_DocSame.j0]) ?_
      simpa [dsame, h0, h1, h2, h3] using this
    · have h4 : ((ks.length : Int) != (e.f3.length : Int)) = true := by simp; omega
      simpa [dsame, h3, h4] using F
end Go.Proofs.Ytdhdfmmefghijaa.Pure
namespace Go.Proofs.Ytdhdfmmefghijaa.Pure
open Go.RowKit Go.Proofs.Ytdhdfmmefghijaa.P Go.Proofs.YtdhdfmmefghijaaW.PrintWords Go.Proofs.YtdhdfmmefghijaaW.PrintLast Go.Proofs.YtdhdfmmefghijaaW.PrintMore
set_option linter.unusedVariables false
set_option linter.unusedSimpArgs false
theorem dsameL_iff : ∀ (ks es : List SDoc), ks.length = es.length → (∀ k ∈ ks, ∀ e, dsame k e = true ↔ k = e) → (dsameL ks es = true ↔ ks = es)
  | [], [], _, _ => by simp [dsameL]
  | k :: ks, e :: es, hl, h => by
    rw [dsameL, Bool.and_eq_true, h k List.mem_cons_self e, dsameL_iff ks es (by simpa using hl) (fun z hz => h z (List.mem_cons_of_mem _ hz)), List.cons.injEq]
theorem dsame_iff : ∀ d e : SDoc, dsame d e = true ↔ d = e := by
  intro d
  induction d using SDoc.ind with
  | h o n t ks ih =>
    intro e
    obtain ⟨o', n', t', ks'⟩ := e
    rw [dsame]
    simp only [Bool.and_eq_true, decide_eq_true_eq, SDoc.mk.injEq]
    constructor
    · intro ⟨h1, h2, h3, h4, h5⟩
      exact ⟨h1, h2, toList_inj.1 h3, (dsameL_iff ks ks' h4 (fun k hk e => ih k hk e)).1 h5⟩
    · intro ⟨h1, h2, h3, h4⟩
      subst h4
      exact ⟨h1, h2, toList_inj.2 h3, rfl, (dsameL_iff ks ks rfl (fun k hk e => ih k hk e)).2 rfl⟩
theorem dsame_refl (d : SDoc) : dsame d d = true := (dsame_iff d d).2 rfl
end Go.Proofs.Ytdhdfmmefghijaa.Pure
namespace Go.Proofs.Ytdhdfmmefghijaa.Pure
open Go.RowKit Go.Proofs.Ytdhdfmmefghijaa.P Go.Proofs.YtdhdfmmefghijaaW.PrintWords Go.Proofs.YtdhdfmmefghijaaW.PrintLast Go.Proofs.YtdhdfmmefghijaaW.PrintMore
set_option linter.unusedVariables false
set_option linter.unusedSimpArgs false
theorem parse_less {s : List UInt8} {d : SDoc} (h : parseR s = some d) : parseR (s.take (s.length - 1)) = none := by
  have hne : s ≠ [] := by
    intro c
    subst c
    simp [parseR, pD, pN] at h
  cases hp : parseR (s.take (s.length - 1)) with
  | none => rfl
  | some e =>
    have hl := List.dropLast_concat_getLast hne
    have := parse_more (c := s.getLast hne) hp
    rw [← List.dropLast_eq_take, hl, h] at this
    cases this
theorem FnParseSize : laws_FnParseSize.Pure := by
  intro l hl _ hw
  refine Ev.rounds (g := fun k => laws_FnParseSize.f k l) (Ev.congr (fun k => by rw [laws_FnParseSize.f]) (big_or ?_))
  obtain ⟨s, hs, hz⟩ := drawParse_ev l hl hw
  refine Ev.bind hs (Ev.bind (implParse_ev s (by omega)) (Ev.bind (specParse_ev s (by omega)) ?_))
  cases hp : parseR s.data.toList with
  | none =>
    have hd := implSame_ev (⟨0, 0, ⟨#[]⟩, []⟩ : SDoc) ⟨0, 0, ⟨#[]⟩, []⟩ (by simp [dsz, dszL])
    rw [dsame_refl] at hd
    refine Ev.bind hd ?_
    simp only [docR, if_true, bne_self_eq_false, Bool.false_eq_true, if_false, Bool.not_false]
    refine Ev.step (fun k => by rw [laws_FnParseSize.j0]) ?_
    simp only [if_true]
    refine Ev.bind hd ?_
    simp only [if_true, beq_self_eq_true]
    exact Ev.now _
  | some d =>
    obtain ⟨hv, hf, hg⟩ := parse_is hp
    have hm := (pD_good 40 _ _ _ hg).1
    rw [← size_data] at hm
    have hm : msz d ≤ 5000 := by simp only [List.length_nil] at hm; omega
    have hd := implSame_ev d d (by have := dsz_msz d; omega)
    rw [dsame_refl] at hd
    refine Ev.bind hd ?_
    simp only [docR, if_true, bne_self_eq_false, Bool.false_eq_true, if_false, Bool.not_true]
    refine Ev.step (fun k => by rw [laws_FnParseSize.j0]) ?_
    have h1 : 1 ≤ s.size := by
      rw [size_data]
      cases hc : s.data.toList with
      | nil => rw [hc] at hp; simp [parseR, pD, pN] at hp
      | cons => simp
    have hw1 : wrap64 ((s.size : Int) - 1) = ((s.size - 1 : Nat) : Int) := by rw [w64 (by omega) (by omega)]; omega
    simp only [Bool.false_eq_true, if_false, if_pos (show s.size + 1 ≤ 9223372036854775807 by omega), hw1, if_pos (show (0 : Int) ≤ ((s.size - 1 : Nat) : Int) by omega), if_pos (show ((s.size - 1 : Nat) : Int) ≤ (s.size : Int) by omega), Int.toNat_natCast]
    have e1 : (s ++ (⟨#[126]⟩ : ByteArray)).data.toList = s.data.toList ++ [126] := by simp
    have e2 : (s.extract 0 (s.size - 1)).data.toList = s.data.toList.take (s.data.toList.length - 1) := by
      rw [← ba_of s, ba_extract, ba_data, ba_data, ba_size]
      simp
    have z1 : (s ++ (⟨#[126]⟩ : ByteArray)).size = s.size + 1 := by rw [ByteArray.size_append]; rfl
    have z2 : (s.extract 0 (s.size - 1)).size ≤ s.size := by rw [size_data, e2, size_data]; simp
    have g1 := implParse_ev (s ++ (⟨#[126]⟩ : ByteArray)) (by omega)
    have g2 := implParse_ev (s.extract 0 (s.size - 1)) (by omega)
    rw [e1, parse_more hp] at g1
    rw [e2, parse_less hp] at g2
    refine Ev.bind g1 (Ev.bind g2 (Ev.bind (implValid_ev d (by omega)) ?_))
    simp only [if_pos hv, docR, Bool.false_eq_true, if_false, Bool.not_false]
    exact Ev.now _
end Go.Proofs.Ytdhdfmmefghijaa.Pure
namespace Go.Proofs.Ytdhdfmmefghijaa
theorem closed3:laidOutB Try.prog=true∧mapsRowed Try.prog=true∧Try.prog.plainKeys=true:=Go.ClosedOfChecked.closed_of_checked Try.checked (by kernel_rfl) (by kernel_rfl) (by kernel_rfl)
def edgesL:List (List Nat):=[[],[],[1],[15,16,17,18],[19,20,21,20,22,22],[23,24,25,25,24,22,22,26,26],[27,26,28,24,28,26],[19,20,21,22,29,24,21,22,29,20,22],[30,31,32,33,34,34,32,34,34,34],[31,34,35,34,34,24,24,36,36],[30,32,33,34,34,24,22,22,22,26,26,26],[37,38,39,38],[40,36,41,41,22,20],[42,17,43,34,34,17,17,24],[40,36,17,24,41,25,34,42,17,43,34,36],[44,46,45],[47],[48,24],[],[23,44,49],[20],[21],[22],[44,51,50,50],[52],[53,54],[24,20],[23],[25,21],[54],[44,51,50,51,50],[44,51,55,51,50,50],[57,56],[58,25,59],[34],[35],[24,60],[44,51,55,50,50],[26,61],[28,62],[23],[25,63],[44,51,63,45],[64,25],[],[55,55,65,55],[65],[66],[47,67,68,69,70,48,71],[55],[59,55,55,50,55,49,49,65],[55,55,43,49,72,25,54,72],[16,52],[73,18,53],[54],[],[24,74],[],[],[59],[60,60,60,60],[61],[62],[75,63,63,63,63],[76,77,77,77],[55],[78],[],[79],[],[80],[81],[55,46,55,72,49,72,72,55,72,72,58,58,72,72,58,58,72,72,58],[],[74],[75],[],[64],[],[82],[],[80],[66,83,66,84,83,85],[],[],[86],[],[],[],[],[],[],[],[],[],[],[],[],[],[],[],[],[],[]]
theorem edges:Try.prog.funcs.toList.map Try.prog.leadsTo=edgesL:=by kernel_rfl
def clo (E:List (List Nat)):Nat→List Nat→List Nat→List Nat
 | 0,_,seen=>seen.reverse
 | _,[],seen=>seen.reverse
 | n+1,f :: todo,seen=>if seen.contains f then clo E n todo seen else clo E n ((E[f]?).getD []++todo) (f :: seen)
set_option maxRecDepth 100000 in
theorem elim_edges (f:Nat):(Try.prog.funcs[f]?).elim [] Try.prog.leadsTo=(edgesL[f]?).getD []:=by
 rw [← edges,List.getElem?_map,Array.getElem?_toList]
 cases Try.prog.funcs[f]? <;> rfl
theorem closureVia_clo:∀ (n:Nat) (todo seen:List Nat),Try.prog.closureVia n todo seen=clo edgesL n todo seen
 | 0,_,_=>by simp [Program.closureVia,clo]
 | n+1,[],_=>by simp [Program.closureVia,clo]
 | n+1,f :: todo,seen=>by
  rw [Program.closureVia,clo,elim_edges,closureVia_clo n,closureVia_clo n]
def fuelE:Nat:=1+(edgesL.map fun l=>l.length+1).sum
set_option maxRecDepth 100000 in
theorem fuel_eq:1+(Try.prog.funcs.toList.map fun g=>(Try.prog.leadsTo g).length+1).sum=fuelE:=by
 rw [fuelE,← edges,List.map_map]
 rfl
theorem closure_clo (f:Nat):Try.prog.closure f=clo edgesL fuelE [f] []:=by
 rw [Program.closure,fuel_eq,closureVia_clo]
noncomputable def unfB (fn:Func):Bool:=match fn.body with|some c=>c.unfollowed|none=>entryCalls fn
noncomputable def unfL:List Bool:=Try.prog.funcs.toList.map unfB
set_option maxRecDepth 100000 in
theorem any_unf (f:Nat):((Try.prog.funcs[f]?).any fun fn=>match fn.body with|some c=>c.unfollowed|none=>entryCalls fn)=(unfL[f]?).getD false:=by
 rw [unfL,List.getElem?_map,Array.getElem?_toList]
 cases Try.prog.funcs[f]? <;> rfl
set_option maxRecDepth 100000 in
theorem unfollowed_of {f:Nat} {L:List Nat} (h:clo edgesL fuelE [f] []=L):Try.prog.unfollowed f=L.any fun g=>(unfL[g]?).getD false:=by
 rw [Program.unfollowed,closure_clo,h]
 congr 1
 funext g
 exact any_unf g
set_option maxRecDepth 100000 in
theorem recurses_of {f:Nat} {L:List Nat} (h:clo edgesL fuelE [f] []=L):Try.prog.recurses f=((L.any fun g=>(unfL[g]?).getD false) || L.any fun g=>((edgesL[g]?).getD []).any fun h=>(clo edgesL fuelE [h] []).contains g):=by
 rw [Program.recurses,unfollowed_of h,closure_clo,h]
 congr 1
 congr 1
 funext g
 rw [elim_edges]
 congr 1
 funext h
 rw [closure_clo]
def signs:List Char:=([104,97,114,110,101,115,115,32,50,54,100,52,101,52,102,53,97,56,53,54,57,100,98,57,98,55,99,101,48,57,101,101,51,49,51,101,50,53,49,57,55,102,56,55,99,52,55,52,53,50,49,49,99,101,55,101,101,51,100,102,53,102,102,53,52,98,98,54,51,49,102,55,32,99,117,116,32,97,116,32,108,111,111,112,46,101,120,97,109,112,108,101,47,100,111,99,97,108,103,101,98,114,97,47,108,97,119,115,46,70,110,84,101,120,116,86,97,108,105,100,32,108,111,111,112,46,101,120,97,109,112,108,101,47,100,111,99,97,108,103,101,98,114,97,47,108,97,119,115,46,70,110,67,111,117,110,116,80,97,114,116,115,32,108,111,111,112,46,101,120,97,109,112,108,101,47,100,111,99,97,108,103,101,98,114,97,47,108,97,119,115,46,70,110,68,111,99,80,97,114,116,115,32,108,111,111,112,46,101,120,97,109,112,108,101,47,100,111,99,97,108,103,101,98,114,97,47,108,97,119,115,46,70,110,70,108,97,116,116,101,110,80,97,114,116,115,32,108,111,111,112,46,101,120,97,109,112,108,101,47,100,111,99,97,108,103,101,98,114,97,47,108,97,119,115,46,70,110,67,111,117,110,116,79,112,115,32,108,111,111,112,46,101,120,97,109,112,108,101,47,100,111,99,97,108,103,101,98,114,97,47,108,97,119,115,46,70,110,67,97,116,83,97,109,101,32,108,111,111,112,46,101,120,97,109,112,108,101,47,100,111,99,97,108,103,101,98,114,97,47,108,97,119,115,46,70,110,68,111,99,83,97,109,101,32,108,111,111,112,46,101,120,97,109,112,108,101,47,100,111,99,97,108,103,101,98,114,97,47,108,97,119,115,46,70,110,67,97,116,68,111,99,115,32,108,111,111,112,46,101,120,97,109,112,108,101,47,100,111,99,97,108,103,101,98,114,97,47,108,97,119,115,46,70,110,70,108,97,116,84,101,120,116,32,108,111,111,112,46,101,120,97,109,112,108,101,47,100,111,99,97,108,103,101,98,114,97,47,108,97,119,115,46,70,110,68,111,99,66,121,116,101,115,32,108,111,111,112,46,101,120,97,109,112,108,101,47,100,111,99,97,108,103,101,98,114,97,47,108,97,119,115,46,70,110,80,97,114,115,101,83,105,122,101,32,108,111,111,112,46,101,120,97,109,112,108,101,47,100,111,99,97,108,103,101,98,114,97,47,108,97,119,115,46,70,110,68,111,99,84,101,120,116]:List Nat).map Char.ofNat
def wordsL:List (List Char):=([[104,97,114,110,101,115,115],[50,54,100,52,101,52,102,53,97,56,53,54,57,100,98,57,98,55,99,101,48,57,101,101,51,49,51,101,50,53,49,57,55,102,56,55,99,52,55,52,53,50,49,49,99,101,55,101,101,51,100,102,53,102,102,53,52,98,98,54,51,49,102,55],[99,117,116],[97,116],[108,111,111,112,46,101,120,97,109,112,108,101,47,100,111,99,97,108,103,101,98,114,97,47,108,97,119,115,46,70,110,84,101,120,116,86,97,108,105,100],[108,111,111,112,46,101,120,97,109,112,108,101,47,100,111,99,97,108,103,101,98,114,97,47,108,97,119,115,46,70,110,67,111,117,110,116,80,97,114,116,115],[108,111,111,112,46,101,120,97,109,112,108,101,47,100,111,99,97,108,103,101,98,114,97,47,108,97,119,115,46,70,110,68,111,99,80,97,114,116,115],[108,111,111,112,46,101,120,97,109,112,108,101,47,100,111,99,97,108,103,101,98,114,97,47,108,97,119,115,46,70,110,70,108,97,116,116,101,110,80,97,114,116,115],[108,111,111,112,46,101,120,97,109,112,108,101,47,100,111,99,97,108,103,101,98,114,97,47,108,97,119,115,46,70,110,67,111,117,110,116,79,112,115],[108,111,111,112,46,101,120,97,109,112,108,101,47,100,111,99,97,108,103,101,98,114,97,47,108,97,119,115,46,70,110,67,97,116,83,97,109,101],[108,111,111,112,46,101,120,97,109,112,108,101,47,100,111,99,97,108,103,101,98,114,97,47,108,97,119,115,46,70,110,68,111,99,83,97,109,101],[108,111,111,112,46,101,120,97,109,112,108,101,47,100,111,99,97,108,103,101,98,114,97,47,108,97,119,115,46,70,110,67,97,116,68,111,99,115],[108,111,111,112,46,101,120,97,109,112,108,101,47,100,111,99,97,108,103,101,98,114,97,47,108,97,119,115,46,70,110,70,108,97,116,84,101,120,116],[108,111,111,112,46,101,120,97,109,112,108,101,47,100,111,99,97,108,103,101,98,114,97,47,108,97,119,115,46,70,110,68,111,99,66,121,116,101,115],[108,111,111,112,46,101,120,97,109,112,108,101,47,100,111,99,97,108,103,101,98,114,97,47,108,97,119,115,46,70,110,80,97,114,115,101,83,105,122,101],[108,111,111,112,46,101,120,97,109,112,108,101,47,100,111,99,97,108,103,101,98,114,97,47,108,97,119,115,46,70,110,68,111,99,84,101,120,116]]:List (List Nat)).map (List.map Char.ofNat)
theorem headI:Try.prog.initOrder=String.ofList signs:=by kernel_rfl
theorem headS:wordsSigns Try.prog.initOrder.toList=wordsL:=by
 rw [headI,String.toList_ofList]
 kernel_rfl
theorem headLifts_of {P : Program} {ws} (h : wordsSigns P.initOrder.toList = ws) : P.headLifts = if ((stripLifts liftWords (behindMainWord ws)).2.head? == some "cut".toList) = true then (stripLifts liftWords (behindMainWord ws)).1 else [] := by
 subst h;rfl
theorem headL:Try.prog.headLifts=[]:=(headLifts_of headS).trans (by kernel_rfl)
theorem liftsFinal_of {P : Program} {ws l} (h : wordsSigns P.initOrder.toList = ws) (hl : P.headLifts = l) : P.liftsFinal = (((behindMainWord ws).head? == some "carried".toList && (behindMainWord ws).take 3 != ["carried".toList, "gc".toList, "cut".toList]) || l.contains "finals") := by
 subst h;subst hl;rfl
theorem liftsF:Try.prog.liftsFinal=false:=(liftsFinal_of headS headL).trans (by kernel_rfl)
theorem mayEnter_of {P:Program} (h:wordsSigns P.initOrder.toList=wordsL) (h1:P.laysLater=false) (h2:P.bearsReflect=false):P.mayEnter=P.doorFits []:=by
 delta Program.mayEnter
 rw [h,h1,h2]
 kernel_rfl
theorem mayE:Try.prog.mayEnter=true:=(mayEnter_of headS (by kernel_rfl) (by kernel_rfl)).trans (by kernel_rfl)
theorem make_of {P:Program} (h:wordsSigns P.initOrder.toList=wordsL):P.make=some .cut:=by
 delta Program.make
 rw [h]
 kernel_rfl
theorem makeC:Try.prog.make=some .cut:=make_of headS
end Go.Proofs.Ytdhdfmmefghijaa
