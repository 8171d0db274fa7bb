/- PLAIN LEMMAS: marks that are set and found again. -/
import Derived.Test.YtbijachmecgpgaaPx0
import Derived.Test.YtbijachmecgpgaaPx52
import Derived.Test.YtbijachmecgpgaaPx53
import Derived.Test.YtbijachmecgpgaaPx54
import Derived.Test.YtbijachmecgpgaaPuRowBase
namespace Go.Proofs.Ytbijachmecgpgaa.Pure
open Go.RowKit Go.Proofs.Ytbijachmecgpgaa.P Go.Proofs.YtbijachmecgpgaaW.PrintWords Go.Proofs.YtbijachmecgpgaaW.PrintLast Go.Proofs.YtbijachmecgpgaaW.PrintMore
set_option linter.unusedVariables false
set_option linter.unusedSimpArgs false
theorem num_size (c : Int) : (strOfNums [c]).size = 1 := rfl
theorem markText_loop : ∀ (m n : Nat) (acc : ByteArray), n ≤ m → n + acc.size ≤ 4611686018427387904 → ∃ s, Ev (fun k => laws_markText.l0 k (n : Int) acc) s := by
  intro m
  induction m with
  | zero =>
    intro n acc h hs
    obtain rfl : n = 0 := by omega
    refine ⟨(⟨#[109]⟩ : ByteArray) ++ acc, Ev.step (fun k => by rw [laws_markText.l0]) ?_⟩
    simp only [Int.natCast_zero, gt_iff_lt, Int.lt_irrefl, if_false, if_pos (show 1 + acc.size ≤ 9223372036854775807 by omega)]
    exact Ev.now _
  | succ m ih =>
    intro n acc h hs
    by_cases hn : n = 0
    · exact ih n acc (by omega) hs
    · have c : (n : Int) > 0 := by omega
      have e1 : Int.tdiv (n : Int) 10 = ((n / 10 : Nat) : Int) := rfl
      obtain ⟨s, hs'⟩ := ih (n / 10) (strOfNums [wrap64 (48 + Int.tmod (n : Int) 10) % 256] ++ acc) (by omega) (by rw [ByteArray.size_append, num_size]; omega)
      refine ⟨s, Ev.step (fun k => by rw [laws_markText.l0]) ?_⟩
      have c3 : 1 + acc.size ≤ 9223372036854775807 := by omega
      simp only [if_pos c, Option.bind_some, num_size, c3, if_true, e1]
      rw [w64 (i := ((n / 10 : Nat) : Int)) (by omega) (by omega)]
      exact hs'
theorem markText_ev (n : Int) (h0 : 0 ≤ n) (h1 : n ≤ 1099511627776) : ∃ s, Ev (fun k => laws_markText.f k n) s := by
  by_cases c : n ≤ 0
  · refine ⟨(⟨#[109, 48]⟩ : ByteArray), Ev.congr (fun k => by rw [laws_markText.f, if_pos c]) (Ev.now _)⟩
  · obtain ⟨s, hs⟩ := markText_loop n.toNat n.toNat ⟨#[]⟩ (Nat.le_refl _) (by show n.toNat + 0 ≤ _; omega)
    refine ⟨s, Ev.congr (fun k => by rw [laws_markText.f, if_neg c]) ?_⟩
    rw [show ((n.toNat : Nat) : Int) = n by omega] at hs
    exact hs
theorem setR (a b : List SRow) (d z : SRow) : (a ++ d :: b).set (a.length : Int).toNat z = a ++ z :: b := by
  rw [Int.toNat_natCast, List.set_append_right _ _ (Nat.le_refl _), Nat.sub_self, List.set_cons_zero]
theorem mark_rows (suf : List SRow) : ∀ (pre : List SRow) (x : Int), 0 ≤ x → x + 2 * suf.length ≤ 1099511627770 → pre.length + suf.length ≤ 1099511627776 →
    ∃ M : List SRow, M.length = suf.length ∧ Ev (fun k => laws_markRowS.l0 k (pre ++ suf) x (pre.length : Int)) (x + 2 * suf.length, pre ++ M) ∧
      ∀ pre' : List SRow, pre'.length = pre.length → Ev (fun k => laws_heldRowS.l0 k (pre' ++ M) x (pre.length : Int)) (x + 2 * suf.length) := by
  induction suf with
  | nil =>
    intro pre x h0 h1 hm
    refine ⟨[], rfl, ?_, ?_⟩
    · refine Ev.step (fun k => by rw [laws_markRowS.l0]) ?_
      simp only [List.append_nil, Int.lt_irrefl, if_false, List.length_nil, Int.natCast_zero, Int.mul_zero, Int.add_zero]
      exact Ev.now _
    · intro pre' hp
      refine Ev.step (fun k => by rw [laws_heldRowS.l0]) ?_
      simp only [List.append_nil, hp, Int.lt_irrefl, if_false, List.length_nil, Int.natCast_zero, Int.mul_zero, Int.add_zero]
      exact Ev.now _
  | cons y suf ih =>
    intro pre x h0 h1 hm
    simp only [List.length_cons] at h1 hm
    obtain ⟨s, hs⟩ := markText_ev (x + 1) (by omega) (by omega)
    obtain ⟨M, hM, hm1, hh⟩ := ih (pre ++ [⟨x, s⟩]) (x + 2) (by omega) (by omega) (by simp; omega)
    have e2 : x + 2 * ((y :: suf).length : Int) = x + 2 + 2 * (suf.length : Int) := by simp; omega
    rw [show ((pre ++ [(⟨x, s⟩ : SRow)]).length : Int) = (pre.length : Int) + 1 by simp] at hm1 hh
    refine ⟨⟨x, s⟩ :: M, by simp [hM], ?_, ?_⟩
    · refine Ev.step (fun k => by rw [laws_markRowS.l0]) ?_
      have c1 : (pre.length : Int) < ((pre ++ y :: suf).length : Int) := by simp; omega
      have c2 : (0 : Int) ≤ (pre.length : Int) := by omega
      simp only [if_pos c1, if_pos c2, Option.bind_some, setR, rdR]
      rw [w64 (i := x + 1) (by omega) (by omega), w64 (i := x + 1 + 1) (by omega) (by omega), w64 (by omega) (by omega), show x + 1 + 1 = x + 2 by omega, e2]
      refine Ev.bind hs ?_
      rw [List.append_assoc, List.append_assoc] at hm1
      exact hm1
    · intro pre' hp
      refine Ev.step (fun k => by rw [laws_heldRowS.l0]) ?_
      have c1 : (pre.length : Int) < ((pre' ++ (⟨x, s⟩ : SRow) :: M).length : Int) := by simp; omega
      have c2 : (0 : Int) ≤ (pre.length : Int) := by omega
      have r' : rd_TRow (pre' ++ (⟨x, s⟩ : SRow) :: M) (pre.length : Int) = ⟨x, s⟩ := by rw [← hp]; exact rdR pre' M _
      simp only [if_pos c1, if_pos c2, r', if_true]
      rw [w64 (i := x + 1) (by omega) (by omega), w64 (i := x + 1 + 1) (by omega) (by omega), w64 (by omega) (by omega), show x + 1 + 1 = x + 2 by omega, e2]
      refine Ev.bind hs ?_
      simp only [if_true]
      have := hh (pre' ++ [⟨x, s⟩]) (by simp; omega)
      rw [List.append_assoc] at this
      exact this
theorem marks_ev (l : List SRow) (x : Int) (h0 : 0 ≤ x) (h1 : x + 2 * l.length ≤ 1099511627770) (h2 : l.length ≤ 1099511627776) :
    ∃ M : List SRow, Ev (fun k => laws_markRowS.f k l x) (x + 2 * l.length, M) ∧ Ev (fun k => laws_heldRowS.f k M x) (x + 2 * l.length) := by
  obtain ⟨M, _, h3, h4⟩ := mark_rows l [] x h0 h1 (by simpa using h2)
  exact ⟨M, Ev.congr (fun k => by rw [laws_markRowS.f]; rfl) h3, Ev.congr (fun k => by rw [laws_heldRowS.f]; rfl) (h4 [] rfl)⟩
end Go.Proofs.Ytbijachmecgpgaa.Pure
