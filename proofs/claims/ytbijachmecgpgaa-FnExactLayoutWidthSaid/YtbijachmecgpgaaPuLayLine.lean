/- PLAIN LEMMAS: the text of a line. -/
import Derived.Test.YtbijachmecgpgaaPx0
import Derived.Test.YtbijachmecgpgaaPx38
import Derived.Test.YtbijachmecgpgaaPx37
import Derived.Test.YtbijachmecgpgaaPx40
import Derived.Test.YtbijachmecgpgaaPuLayV
namespace Go.Proofs.Ytbijachmecgpgaa.Pure
open Go.RowKit Go.Proofs.Ytbijachmecgpgaa.P Go.Proofs.YtbijachmecgpgaaW.PrintWords Go.Proofs.YtbijachmecgpgaaW.PrintLast Go.Proofs.YtbijachmecgpgaaW.PrintMore
set_option linter.unusedVariables false
set_option linter.unusedSimpArgs false
def spB (n : Nat) : ByteArray := ⟨(List.replicate n (32 : UInt8)).toArray⟩
theorem spB_succ (acc : ByteArray) (n : Nat) : acc ++ spB (n + 1) = (acc ++ (⟨#[32]⟩ : ByteArray)) ++ spB n := by
  apply ByteArray.ext
  apply Array.ext'
  simp [spB, List.replicate_succ]
theorem spB_size (n : Nat) : (spB n).size = n := by simp [spB, ByteArray.size]
theorem spaces_loop (n : Int) : ∀ (m : Nat) (i : Int) (acc : ByteArray), i + m = n → 0 ≤ i → n ≤ 1048576 → acc.size ≤ 1099511627776 + i.toNat →
    Ev (fun k => spec_l2Spaces.l0 k n acc i) (acc ++ spB m) := by
  intro m
  induction m with
  | zero =>
    intro i acc h h0 h1 hs
    refine Ev.step (fun k => by rw [spec_l2Spaces.l0]) ?_
    simp only [if_neg (show ¬ i < n by omega)]
    rw [show acc ++ spB 0 = acc from by apply ByteArray.ext; simp [spB]]
    exact Ev.now _
  | succ m ih =>
    intro i acc h h0 h1 hs
    refine Ev.step (fun k => by rw [spec_l2Spaces.l0]) ?_
    simp only [if_pos (show i < n by omega), if_pos (show acc.size + 1 ≤ 9223372036854775807 by omega)]
    rw [w64 (by omega) (by omega), spB_succ]
    exact ih (i + 1) _ (by omega) (by omega) h1 (by rw [ByteArray.size_append]; show acc.size + 1 ≤ _; omega)
theorem spaces_ev (n : Int) (h0 : 0 ≤ n) (h1 : n ≤ 1048576) : Ev (fun k => spec_l2Spaces.f k n) (spB n.toNat) := by
  refine Ev.congr (fun k => by rw [spec_l2Spaces.f]) ?_
  have := spaces_loop n n.toNat 0 ⟨#[]⟩ (by omega) (by omega) h1 (by show 0 ≤ _; omega)
  rw [show (⟨#[]⟩ : ByteArray) ++ spB n.toNat = spB n.toNat from by apply ByteArray.ext; simp [spB]] at this
  exact this
/-- the text of a line -/
def lineB (r : SRow) : ByteArray := if r.f1.toList = ([] : List UInt8) then ⟨#[]⟩ else spB r.f0.toNat ++ r.f1
/-- .. and its length -/
def lineN (r : SRow) : Int := if r.f1.toList = ([] : List UInt8) then 0 else r.f0 + (r.f1.size : Int)
theorem rowOk_is {r : SRow} (h : rowOk r = true) : 0 ≤ r.f0 ∧ r.f0 ≤ 400 ∧ r.f1.size < 2000 := by
  simp only [rowOk, rowT, Bool.and_eq_true, decide_eq_true_eq] at h
  exact ⟨h.1, h.2.1, h.2.2.2⟩
theorem line_size {r : SRow} (h : rowOk r = true) : ((lineB r).size : Int) = lineN r := by
  have := rowOk_is h
  unfold lineB lineN
  by_cases c : r.f1.toList = ([] : List UInt8)
  · rw [if_pos c, if_pos c]; rfl
  · rw [if_neg c, if_neg c, ByteArray.size_append, spB_size]; omega
theorem lineN_le {r : SRow} (h : rowOk r = true) : 0 ≤ lineN r ∧ lineN r ≤ 2400 := by
  have := rowOk_is h
  unfold lineN
  split <;> omega
theorem specLine_ev {r : SRow} (h : rowOk r = true) : Ev (fun k => spec_l2Line.f k r.f0 r.f1) (lineB r) := by
  have hh := rowOk_is h
  refine Ev.congr (fun k => by rw [spec_l2Line.f]) ?_
  unfold lineB
  by_cases c : r.f1.toList = ([] : List UInt8)
  · simp only [if_pos c]; exact Ev.now _
  · simp only [if_neg c]
    refine Ev.bind (spaces_ev _ hh.1 (by omega)) ?_
    simp only [spB_size, if_pos (show r.f0.toNat + r.f1.size ≤ 9223372036854775807 by omega)]
    exact Ev.now _
theorem implLen_eq {r : SRow} (h : rowOk r = true) : impl_rowLen.f r.f0 r.f1 = some (lineN r) := by
  have hh := rowOk_is h
  rw [impl_rowLen.f, w64 (by omega) (by omega), lineN]
  split <;> rfl
end Go.Proofs.Ytbijachmecgpgaa.Pure
