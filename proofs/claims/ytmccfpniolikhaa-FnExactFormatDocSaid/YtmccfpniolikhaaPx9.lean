/- CONTRACTS: each theorem here says that a Go function of the program, called over the translation under the theorem's own hypotheses, returns what the Lean function beside it computes. Written by the session's program xprint.py. -/
import Derived.Test.YtmccfpniolikhaaPx0
import Derived.Test.YtmccfpniolikhaaPx8
namespace Go.Proofs.Ytmccfpniolikhaa.P
open Go.RowKit Go.Proofs.YtmccfpniolikhaaW.PrintWords Go.Proofs.YtmccfpniolikhaaW.PrintLast Go.Proofs.YtmccfpniolikhaaW.PrintMore
attribute [local go_sem] max2_int min2_int max_two min_two max_three min_three max_four min_four   -- for this text's walks alone
set_option linter.unusedVariables false
set_option linter.unusedSimpArgs false

/-! ### spec_l1Text: function 54 -/
def spec_l1Text.f : Nat → Int → Int → ByteArray → List (SDoc) → Option (ByteArray)
  | 0, _, _, _, _ => none
  | k + 1, a0_0, a0_1, a0_2, l0_3 => if a0_0 = 1 then (some (⟨#[126]⟩ : ByteArray)) else (if a0_0 = 2 then (if 1 + a0_2.size ≤ 9223372036854775807 then (if ((⟨#[34]⟩ : ByteArray) ++ a0_2).size + 1 ≤ 9223372036854775807 then (some (((⟨#[34]⟩ : ByteArray) ++ a0_2) ++ (⟨#[34]⟩ : ByteArray))) else (none)) else (none)) else (if a0_0 = 3 then (some (⟨#[95]⟩ : ByteArray)) else (if a0_0 = 4 then (some (⟨#[46]⟩ : ByteArray)) else (if a0_0 = 5 then (some (⟨#[33]⟩ : ByteArray)) else (if a0_0 = 6 then ((spec_l15Dec.f k a0_1).bind fun t124 => (if t124.size + 1 ≤ 9223372036854775807 then (if 0 < (l0_3.length : Int) then ((spec_l1Text.f k ((rd_TDoc l0_3 0).f0) ((rd_TDoc l0_3 0).f1) ((rd_TDoc l0_3 0).f2) ((rd_TDoc l0_3 0).f3)).bind fun t126 => (if (t124 ++ (⟨#[60]⟩ : ByteArray)).size + t126.size ≤ 9223372036854775807 then (if ((t124 ++ (⟨#[60]⟩ : ByteArray)) ++ t126).size + 1 ≤ 9223372036854775807 then (some (((t124 ++ (⟨#[60]⟩ : ByteArray)) ++ t126) ++ (⟨#[62]⟩ : ByteArray))) else (none)) else (none))) else (none)) else (none))) else (if a0_0 = 7 then (if 0 < (l0_3.length : Int) then ((spec_l1Text.f k ((rd_TDoc l0_3 0).f0) ((rd_TDoc l0_3 0).f1) ((rd_TDoc l0_3 0).f2) ((rd_TDoc l0_3 0).f3)).bind fun t128 => (if 1 + t128.size ≤ 9223372036854775807 then (if 1 < (l0_3.length : Int) then ((spec_l1Text.f k ((rd_TDoc l0_3 1).f0) ((rd_TDoc l0_3 1).f1) ((rd_TDoc l0_3 1).f2) ((rd_TDoc l0_3 1).f3)).bind fun t130 => (if ((⟨#[40]⟩ : ByteArray) ++ t128).size + t130.size ≤ 9223372036854775807 then (if (((⟨#[40]⟩ : ByteArray) ++ t128) ++ t130).size + 1 ≤ 9223372036854775807 then (some ((((⟨#[40]⟩ : ByteArray) ++ t128) ++ t130) ++ (⟨#[41]⟩ : ByteArray))) else (none)) else (none))) else (none)) else (none))) else (none)) else (if 0 < (l0_3.length : Int) then ((spec_l1Text.f k ((rd_TDoc l0_3 0).f0) ((rd_TDoc l0_3 0).f1) ((rd_TDoc l0_3 0).f2) ((rd_TDoc l0_3 0).f3)).bind fun t132 => (if 1 + t132.size ≤ 9223372036854775807 then (if ((⟨#[91]⟩ : ByteArray) ++ t132).size + 1 ≤ 9223372036854775807 then (some (((⟨#[91]⟩ : ByteArray) ++ t132) ++ (⟨#[93]⟩ : ByteArray))) else (none)) else (none))) else (none))))))))
theorem spec_l1Text.mono_l : ∀ k, (∀ y0 y1 y2 y3, LeO (spec_l1Text.f k y0 y1 y2 y3) (spec_l1Text.f (k + 1) y0 y1 y2 y3))
  | 0 => fun _ _ _ _ r h => by simp [spec_l1Text.f] at h
  | k + 1 => by
    have ih0 := spec_l1Text.mono_l k
    · intro y0 y1 y2 y3
      unfold spec_l1Text.f
      repeat' first
      | (with_reducible exact ih0 _ _ _ _)
      | (with_reducible exact spec_l15Dec.mono _ _)
      | (with_reducible exact LeO.refl _)
      | (with_reducible exact LeO.none _)
      | (with_reducible refine LeO.ite ?_ ?_)
      | (with_reducible refine LeO.bind ?_ (fun _ => ?_))
      | exact ih0 _ _ _ _
      | exact spec_l15Dec.mono _ _
      | exact LeO.none _
      | refine LeO.ite ?_ ?_
      | refine LeO.bind ?_ (fun _ => ?_)
theorem spec_l1Text.mono : ∀ a0 a1 a2 a3 k, LeO (spec_l1Text.f k a0 a1 a2 a3) (spec_l1Text.f (k + 1) a0 a1 a2 a3) := by
  intro a0 a1 a2 a3 k
  have ih0 := spec_l1Text.mono_l k
  exact ih0 a0 a1 a2 a3
def spec_l1Text.T13 : Bool × List (List Nat × List Nat) := (true, [([], []), ([0], [0]), ([1], [1]), ([2], [2]), ([], []), ([4], [4]), ([5], [5]), ([6], [6]), ([7, 2], [7]), ([3, 8], [3, 8]), ([9], [9]), ([10, 8, 0, 1, 2, 3, 4, 5, 6, 7, 8, 9, 10], [10])])
def spec_l1Text.B13 : List Nat := [0, 1, 3, 7, 0, 16, 48, 112, 247, 511, 1023, 2047]
theorem spec_l1Text.tab13 : rtab .any (opsOf Try.f54 13) = spec_l1Text.T13 := by kernel_rfl
theorem spec_l1Text.bits13 : waitsOk spec_l1Text.T13.2 spec_l1Text.B13 = true := by kernel_rfl
def spec_l1Text.T15 : Bool × List (List Nat × List Nat) := (true, [([], []), ([0], [0]), ([1], [1]), ([2], [2]), ([3], [3]), ([4], [4]), ([], []), ([6], [6]), ([7], [7]), ([8], [8]), ([9, 4], [9]), ([5, 10], [5, 10]), ([11], [11]), ([12, 10, 0, 1, 2, 3, 4, 5, 6, 7, 8, 9, 10, 11, 12], [12])])
def spec_l1Text.B15 : List Nat := [0, 1, 3, 7, 15, 31, 0, 64, 192, 448, 991, 2047, 4095, 8191]
theorem spec_l1Text.tab15 : rtab .any (opsOf Try.f54 15) = spec_l1Text.T15 := by kernel_rfl
theorem spec_l1Text.bits15 : waitsOk spec_l1Text.T15.2 spec_l1Text.B15 = true := by kernel_rfl
set_option maxHeartbeats 8000000 in
set_option maxRecDepth 100000 in
theorem spec_l1Text.calls (k : Nat) : ∀ (a0_0 : Int) (a0_1 : Int) (a0_2 : ByteArray) (A0_3 : Option Addr) (c0_3 : Nat) (l0_3 : List (SDoc)) (r : ByteArray) (w : World) (hr0_3 : Kd.C k29 w A0_3 l0_3.length l0_3) (hc0_3 : l0_3.length ≤ c0_3) (h : spec_l1Text.f k a0_0 a0_1 a0_2 l0_3 = some r),
    Calls Try.prog 54 #[.agg #[.int .i64 a0_0, .int .i64 a0_1, .string a0_2, .slice A0_3 l0_3.length c0_3]] w fun e w' => e = .returned (.string r) ∧ Below w.heap.size w w' := by
  induction k using Nat.strongRecOn with
  | _ k ih =>
  intro a0_0 a0_1 a0_2 A0_3 c0_3 l0_3 r w hr0_3 hc0_3 h
  cases k with
  | zero => exact absurd h (by simp [spec_l1Text.f])
  | succ k =>
  simp only [spec_l1Text.f] at h
  have hu29 := Try.underlying29
  have HR0_3 := Aside0.mk hr0_3
  have HC0_3 := Aside0.mk hc0_3
  clear hr0_3 hc0_3
  have HB := Aside0.mk (Below.refl w.heap.size w)
  have H : (if a0_0 = 1 then (some (⟨#[126]⟩ : ByteArray)) else (if a0_0 = 2 then (if 1 + a0_2.size ≤ 9223372036854775807 then (if ((⟨#[34]⟩ : ByteArray) ++ a0_2).size + 1 ≤ 9223372036854775807 then (some (((⟨#[34]⟩ : ByteArray) ++ a0_2) ++ (⟨#[34]⟩ : ByteArray))) else (none)) else (none)) else (if a0_0 = 3 then (some (⟨#[95]⟩ : ByteArray)) else (if a0_0 = 4 then (some (⟨#[46]⟩ : ByteArray)) else (if a0_0 = 5 then (some (⟨#[33]⟩ : ByteArray)) else (if a0_0 = 6 then ((spec_l15Dec.f k a0_1).bind fun t124 => (if t124.size + 1 ≤ 9223372036854775807 then (if 0 < (l0_3.length : Int) then ((spec_l1Text.f k ((rd_TDoc l0_3 0).f0) ((rd_TDoc l0_3 0).f1) ((rd_TDoc l0_3 0).f2) ((rd_TDoc l0_3 0).f3)).bind fun t126 => (if (t124 ++ (⟨#[60]⟩ : ByteArray)).size + t126.size ≤ 9223372036854775807 then (if ((t124 ++ (⟨#[60]⟩ : ByteArray)) ++ t126).size + 1 ≤ 9223372036854775807 then (some (((t124 ++ (⟨#[60]⟩ : ByteArray)) ++ t126) ++ (⟨#[62]⟩ : ByteArray))) else (none)) else (none))) else (none)) else (none))) else (if a0_0 = 7 then (if 0 < (l0_3.length : Int) then ((spec_l1Text.f k ((rd_TDoc l0_3 0).f0) ((rd_TDoc l0_3 0).f1) ((rd_TDoc l0_3 0).f2) ((rd_TDoc l0_3 0).f3)).bind fun t128 => (if 1 + t128.size ≤ 9223372036854775807 then (if 1 < (l0_3.length : Int) then ((spec_l1Text.f k ((rd_TDoc l0_3 1).f0) ((rd_TDoc l0_3 1).f1) ((rd_TDoc l0_3 1).f2) ((rd_TDoc l0_3 1).f3)).bind fun t130 => (if ((⟨#[40]⟩ : ByteArray) ++ t128).size + t130.size ≤ 9223372036854775807 then (if (((⟨#[40]⟩ : ByteArray) ++ t128) ++ t130).size + 1 ≤ 9223372036854775807 then (some ((((⟨#[40]⟩ : ByteArray) ++ t128) ++ t130) ++ (⟨#[41]⟩ : ByteArray))) else (none)) else (none))) else (none)) else (none))) else (none)) else (if 0 < (l0_3.length : Int) then ((spec_l1Text.f k ((rd_TDoc l0_3 0).f0) ((rd_TDoc l0_3 0).f1) ((rd_TDoc l0_3 0).f2) ((rd_TDoc l0_3 0).f3)).bind fun t132 => (if 1 + t132.size ≤ 9223372036854775807 then (if ((⟨#[91]⟩ : ByteArray) ++ t132).size + 1 ≤ 9223372036854775807 then (some (((⟨#[91]⟩ : ByteArray) ++ t132) ++ (⟨#[93]⟩ : ByteArray))) else (none)) else (none))) else (none))))))))) = some r := h
  clear h
  by_cases c2 : a0_0 = 1
  · rw [if_pos c2] at H
    have c2b0 : (a0_0 == 1) = true := beq_iff_eq.mpr c2
    have c2b1 : (a0_0 != 1) = false := bne_eq_false_iff_eq.mpr c2
    clear c2
    obtain rfl := Option.some.inj H
    go_enter Try.func54, Try.ntmps54
    go_wp2_with (first | ((with_reducible refine gate_dst (N := 1) rfl ?_); refine box_event ?hg (N := 1) ?hd (cs := #[.int .i64 a0_0, .int .i64 a0_1, .string a0_2, .slice A0_3 l0_3.length c0_3]) (t := 29) ?hr ?_; (case hd => rfl); (case hg => rfl); (case hr => first | (go_simp; done) | (go_simp; rfl)); intro gb123 hg w3 hbox hb; have n0_ := Aside0.mk (below_step (by repeat (first | (with_reducible first | exact HB.out | apply below_alloc | apply pw_below_drewN | apply below_drew1) | exact HB.out)) hb); have n1_ := Aside0.mk (hbox); have n2_ := Aside0.mk ((by rw [hg]; exact (below_size (by repeat (first | (with_reducible first | exact HB.out | apply below_alloc | apply pw_below_drewN | apply below_drew1) | exact HB.out))) : w.heap.size ≤ gb123)); have n3_ := Aside0.mk ((by rw [hg]; exact (below_size (by repeat (first | (with_reducible first | exact HB.out | apply below_alloc | apply pw_below_drewN | apply below_drew1) | exact HB.out))) : w.heap.size ≤ gb123)); clear HB; have HB := n0_; have BK123 := n1_; have GW123 := n2_; have GE123 := n3_; clear n0_ n1_ n2_ n3_; clear hb hbox hg; have hcz4_0 : w3.cell? ⟨gb123, 0, none⟩ = some (.int .i64 a0_0) := (blk_cell BK123.out 0).trans rfl; have hcz4_1 : w3.cell? ⟨gb123, 1, none⟩ = some (.int .i64 a0_1) := (blk_cell BK123.out 1).trans rfl; have hcz4_2 : w3.cell? ⟨gb123, 2, none⟩ = some (.string a0_2) := (blk_cell BK123.out 2).trans rfl; have hcz4_3 : w3.cell? ⟨gb123, 3, none⟩ = some (.slice A0_3 l0_3.length c0_3) := (blk_cell BK123.out 3).trans rfl; have hfz4_0 := blk_frozen BK123.out 0; have hfz4_1 := blk_frozen BK123.out 1; have hfz4_2 := blk_frozen BK123.out 2; have hfz4_3 := blk_frozen BK123.out 3))
    go_ret
    exact ⟨by first | rfl | (simp [errW_none, errW_some] <;> rfl) | (simp [*, errW_none, errW_some] <;> rfl), by repeat (first | (with_reducible first | exact HB.out | apply below_alloc | apply pw_below_drewN | apply below_drew1 | refine below_set ?_ GE123.out) | exact HB.out)⟩
  · rw [if_neg c2] at H
    have c2b0 : (a0_0 == 1) = false := beq_eq_false_iff_ne.mpr c2
    have c2b1 : (a0_0 != 1) = true := bne_iff_ne.mpr c2
    by_cases c5 : a0_0 = 2
    · rw [if_pos c5] at H
      have c5b0 : (a0_0 == 2) = true := beq_iff_eq.mpr c5
      have c5b1 : (a0_0 != 2) = false := bne_eq_false_iff_eq.mpr c5
      clear c5
      by_cases c6 : 1 + a0_2.size ≤ 9223372036854775807
      · rw [if_pos c6] at H
        have c6b0 := eq_true c6
        have c6b1 : decide (1 + a0_2.size ≤ 9223372036854775807) = true := decide_eq_true c6
        try have c6b2 : (9223372036854775807 < 1 + a0_2.size) = False := eq_false (Nat.not_lt.2 c6)
        by_cases c7 : ((⟨#[34]⟩ : ByteArray) ++ a0_2).size + 1 ≤ 9223372036854775807
        · rw [if_pos c7] at H
          have c7b0 := eq_true c7
          have c7b1 : decide (((⟨#[34]⟩ : ByteArray) ++ a0_2).size + 1 ≤ 9223372036854775807) = true := decide_eq_true c7
          try (have c7b4 := c7; (conv at c7b4 => (lhs; simp)); have c7b5 := eq_false (Nat.not_lt.2 c7b4))
          try (have c7b6 := c7; (conv at c7b6 => (lhs; simp [go_sem])); have c7b7 := eq_false (Nat.not_lt.2 c7b6))
          try have c7b2 : (9223372036854775807 < ((⟨#[34]⟩ : ByteArray) ++ a0_2).size + 1) = False := eq_false (Nat.not_lt.2 c7)
          obtain rfl := Option.some.inj H
          go_enter Try.func54, Try.ntmps54
          go_wp2_with (first | ((with_reducible refine gate_dst (N := 1) rfl ?_); refine box_event ?hg (N := 1) ?hd (cs := #[.int .i64 a0_0, .int .i64 a0_1, .string a0_2, .slice A0_3 l0_3.length c0_3]) (t := 29) ?hr ?_; (case hd => rfl); (case hg => rfl); (case hr => first | (go_simp; done) | (go_simp; rfl)); intro gb123 hg w8 hbox hb; have n0_ := Aside0.mk (below_step (by repeat (first | (with_reducible first | exact HB.out | apply below_alloc | apply pw_below_drewN | apply below_drew1) | exact HB.out)) hb); have n1_ := Aside0.mk (hbox); have n2_ := Aside0.mk ((by rw [hg]; exact (below_size (by repeat (first | (with_reducible first | exact HB.out | apply below_alloc | apply pw_below_drewN | apply below_drew1) | exact HB.out))) : w.heap.size ≤ gb123)); have n3_ := Aside0.mk ((by rw [hg]; exact (below_size (by repeat (first | (with_reducible first | exact HB.out | apply below_alloc | apply pw_below_drewN | apply below_drew1) | exact HB.out))) : w.heap.size ≤ gb123)); clear HB; have HB := n0_; have BK123 := n1_; have GW123 := n2_; have GE123 := n3_; clear n0_ n1_ n2_ n3_; clear hb hbox hg; have hcz9_0 : w8.cell? ⟨gb123, 0, none⟩ = some (.int .i64 a0_0) := (blk_cell BK123.out 0).trans rfl; have hcz9_1 : w8.cell? ⟨gb123, 1, none⟩ = some (.int .i64 a0_1) := (blk_cell BK123.out 1).trans rfl; have hcz9_2 : w8.cell? ⟨gb123, 2, none⟩ = some (.string a0_2) := (blk_cell BK123.out 2).trans rfl; have hcz9_3 : w8.cell? ⟨gb123, 3, none⟩ = some (.slice A0_3 l0_3.length c0_3) := (blk_cell BK123.out 3).trans rfl; have hfz9_0 := blk_frozen BK123.out 0; have hfz9_1 := blk_frozen BK123.out 1; have hfz9_2 := blk_frozen BK123.out 2; have hfz9_3 := blk_frozen BK123.out 3))
          go_ret
          exact ⟨by first | rfl | (simp [errW_none, errW_some] <;> rfl) | (simp [*, errW_none, errW_some] <;> rfl), by repeat (first | (with_reducible first | exact HB.out | apply below_alloc | apply pw_below_drewN | apply below_drew1 | refine below_set ?_ GE123.out) | exact HB.out)⟩
        · rw [if_neg c7] at H
          exact absurd H (by simp)
      · rw [if_neg c6] at H
        exact absurd H (by simp)
    · rw [if_neg c5] at H
      have c5b0 : (a0_0 == 2) = false := beq_eq_false_iff_ne.mpr c5
      have c5b1 : (a0_0 != 2) = true := bne_iff_ne.mpr c5
      by_cases c10 : a0_0 = 3
      · rw [if_pos c10] at H
        have c10b0 : (a0_0 == 3) = true := beq_iff_eq.mpr c10
        have c10b1 : (a0_0 != 3) = false := bne_eq_false_iff_eq.mpr c10
        clear c10
        obtain rfl := Option.some.inj H
        go_enter Try.func54, Try.ntmps54
        go_wp2_with (first | ((with_reducible refine gate_dst (N := 1) rfl ?_); refine box_event ?hg (N := 1) ?hd (cs := #[.int .i64 a0_0, .int .i64 a0_1, .string a0_2, .slice A0_3 l0_3.length c0_3]) (t := 29) ?hr ?_; (case hd => rfl); (case hg => rfl); (case hr => first | (go_simp; done) | (go_simp; rfl)); intro gb123 hg w11 hbox hb; have n0_ := Aside0.mk (below_step (by repeat (first | (with_reducible first | exact HB.out | apply below_alloc | apply pw_below_drewN | apply below_drew1) | exact HB.out)) hb); have n1_ := Aside0.mk (hbox); have n2_ := Aside0.mk ((by rw [hg]; exact (below_size (by repeat (first | (with_reducible first | exact HB.out | apply below_alloc | apply pw_below_drewN | apply below_drew1) | exact HB.out))) : w.heap.size ≤ gb123)); have n3_ := Aside0.mk ((by rw [hg]; exact (below_size (by repeat (first | (with_reducible first | exact HB.out | apply below_alloc | apply pw_below_drewN | apply below_drew1) | exact HB.out))) : w.heap.size ≤ gb123)); clear HB; have HB := n0_; have BK123 := n1_; have GW123 := n2_; have GE123 := n3_; clear n0_ n1_ n2_ n3_; clear hb hbox hg; have hcz12_0 : w11.cell? ⟨gb123, 0, none⟩ = some (.int .i64 a0_0) := (blk_cell BK123.out 0).trans rfl; have hcz12_1 : w11.cell? ⟨gb123, 1, none⟩ = some (.int .i64 a0_1) := (blk_cell BK123.out 1).trans rfl; have hcz12_2 : w11.cell? ⟨gb123, 2, none⟩ = some (.string a0_2) := (blk_cell BK123.out 2).trans rfl; have hcz12_3 : w11.cell? ⟨gb123, 3, none⟩ = some (.slice A0_3 l0_3.length c0_3) := (blk_cell BK123.out 3).trans rfl; have hfz12_0 := blk_frozen BK123.out 0; have hfz12_1 := blk_frozen BK123.out 1; have hfz12_2 := blk_frozen BK123.out 2; have hfz12_3 := blk_frozen BK123.out 3))
        go_ret
        exact ⟨by first | rfl | (simp [errW_none, errW_some] <;> rfl) | (simp [*, errW_none, errW_some] <;> rfl), by repeat (first | (with_reducible first | exact HB.out | apply below_alloc | apply pw_below_drewN | apply below_drew1 | refine below_set ?_ GE123.out) | exact HB.out)⟩
      · rw [if_neg c10] at H
        have c10b0 : (a0_0 == 3) = false := beq_eq_false_iff_ne.mpr c10
        have c10b1 : (a0_0 != 3) = true := bne_iff_ne.mpr c10
        by_cases c13 : a0_0 = 4
        · rw [if_pos c13] at H
          have c13b0 : (a0_0 == 4) = true := beq_iff_eq.mpr c13
          have c13b1 : (a0_0 != 4) = false := bne_eq_false_iff_eq.mpr c13
          clear c13
          obtain rfl := Option.some.inj H
          go_enter Try.func54, Try.ntmps54
          go_wp2_with (first | ((with_reducible refine gate_dst (N := 1) rfl ?_); refine box_event ?hg (N := 1) ?hd (cs := #[.int .i64 a0_0, .int .i64 a0_1, .string a0_2, .slice A0_3 l0_3.length c0_3]) (t := 29) ?hr ?_; (case hd => rfl); (case hg => rfl); (case hr => first | (go_simp; done) | (go_simp; rfl)); intro gb123 hg w14 hbox hb; have n0_ := Aside0.mk (below_step (by repeat (first | (with_reducible first | exact HB.out | apply below_alloc | apply pw_below_drewN | apply below_drew1) | exact HB.out)) hb); have n1_ := Aside0.mk (hbox); have n2_ := Aside0.mk ((by rw [hg]; exact (below_size (by repeat (first | (with_reducible first | exact HB.out | apply below_alloc | apply pw_below_drewN | apply below_drew1) | exact HB.out))) : w.heap.size ≤ gb123)); have n3_ := Aside0.mk ((by rw [hg]; exact (below_size (by repeat (first | (with_reducible first | exact HB.out | apply below_alloc | apply pw_below_drewN | apply below_drew1) | exact HB.out))) : w.heap.size ≤ gb123)); clear HB; have HB := n0_; have BK123 := n1_; have GW123 := n2_; have GE123 := n3_; clear n0_ n1_ n2_ n3_; clear hb hbox hg; have hcz15_0 : w14.cell? ⟨gb123, 0, none⟩ = some (.int .i64 a0_0) := (blk_cell BK123.out 0).trans rfl; have hcz15_1 : w14.cell? ⟨gb123, 1, none⟩ = some (.int .i64 a0_1) := (blk_cell BK123.out 1).trans rfl; have hcz15_2 : w14.cell? ⟨gb123, 2, none⟩ = some (.string a0_2) := (blk_cell BK123.out 2).trans rfl; have hcz15_3 : w14.cell? ⟨gb123, 3, none⟩ = some (.slice A0_3 l0_3.length c0_3) := (blk_cell BK123.out 3).trans rfl; have hfz15_0 := blk_frozen BK123.out 0; have hfz15_1 := blk_frozen BK123.out 1; have hfz15_2 := blk_frozen BK123.out 2; have hfz15_3 := blk_frozen BK123.out 3))
          go_ret
          exact ⟨by first | rfl | (simp [errW_none, errW_some] <;> rfl) | (simp [*, errW_none, errW_some] <;> rfl), by repeat (first | (with_reducible first | exact HB.out | apply below_alloc | apply pw_below_drewN | apply below_drew1 | refine below_set ?_ GE123.out) | exact HB.out)⟩
        · rw [if_neg c13] at H
          have c13b0 : (a0_0 == 4) = false := beq_eq_false_iff_ne.mpr c13
          have c13b1 : (a0_0 != 4) = true := bne_iff_ne.mpr c13
          by_cases c16 : a0_0 = 5
          · rw [if_pos c16] at H
            have c16b0 : (a0_0 == 5) = true := beq_iff_eq.mpr c16
            have c16b1 : (a0_0 != 5) = false := bne_eq_false_iff_eq.mpr c16
            clear c16
            obtain rfl := Option.some.inj H
            go_enter Try.func54, Try.ntmps54
            go_wp2_with (first | ((with_reducible refine gate_dst (N := 1) rfl ?_); refine box_event ?hg (N := 1) ?hd (cs := #[.int .i64 a0_0, .int .i64 a0_1, .string a0_2, .slice A0_3 l0_3.length c0_3]) (t := 29) ?hr ?_; (case hd => rfl); (case hg => rfl); (case hr => first | (go_simp; done) | (go_simp; rfl)); intro gb123 hg w17 hbox hb; have n0_ := Aside0.mk (below_step (by repeat (first | (with_reducible first | exact HB.out | apply below_alloc | apply pw_below_drewN | apply below_drew1) | exact HB.out)) hb); have n1_ := Aside0.mk (hbox); have n2_ := Aside0.mk ((by rw [hg]; exact (below_size (by repeat (first | (with_reducible first | exact HB.out | apply below_alloc | apply pw_below_drewN | apply below_drew1) | exact HB.out))) : w.heap.size ≤ gb123)); have n3_ := Aside0.mk ((by rw [hg]; exact (below_size (by repeat (first | (with_reducible first | exact HB.out | apply below_alloc | apply pw_below_drewN | apply below_drew1) | exact HB.out))) : w.heap.size ≤ gb123)); clear HB; have HB := n0_; have BK123 := n1_; have GW123 := n2_; have GE123 := n3_; clear n0_ n1_ n2_ n3_; clear hb hbox hg; have hcz18_0 : w17.cell? ⟨gb123, 0, none⟩ = some (.int .i64 a0_0) := (blk_cell BK123.out 0).trans rfl; have hcz18_1 : w17.cell? ⟨gb123, 1, none⟩ = some (.int .i64 a0_1) := (blk_cell BK123.out 1).trans rfl; have hcz18_2 : w17.cell? ⟨gb123, 2, none⟩ = some (.string a0_2) := (blk_cell BK123.out 2).trans rfl; have hcz18_3 : w17.cell? ⟨gb123, 3, none⟩ = some (.slice A0_3 l0_3.length c0_3) := (blk_cell BK123.out 3).trans rfl; have hfz18_0 := blk_frozen BK123.out 0; have hfz18_1 := blk_frozen BK123.out 1; have hfz18_2 := blk_frozen BK123.out 2; have hfz18_3 := blk_frozen BK123.out 3))
            go_ret
            exact ⟨by first | rfl | (simp [errW_none, errW_some] <;> rfl) | (simp [*, errW_none, errW_some] <;> rfl), by repeat (first | (with_reducible first | exact HB.out | apply below_alloc | apply pw_below_drewN | apply below_drew1 | refine below_set ?_ GE123.out) | exact HB.out)⟩
          · rw [if_neg c16] at H
            have c16b0 : (a0_0 == 5) = false := beq_eq_false_iff_ne.mpr c16
            have c16b1 : (a0_0 != 5) = true := bne_iff_ne.mpr c16
            by_cases c19 : a0_0 = 6
            · rw [if_pos c19] at H
              have c19b0 : (a0_0 == 6) = true := beq_iff_eq.mpr c19
              have c19b1 : (a0_0 != 6) = false := bne_eq_false_iff_eq.mpr c19
              clear c19
              replace H := Option.bind_eq_some_iff.mp H
              obtain ⟨t124, A200, H⟩ := H
              replace H : (if t124.size + 1 ≤ 9223372036854775807 then (if 0 < (l0_3.length : Int) then ((spec_l1Text.f k ((rd_TDoc l0_3 0).f0) ((rd_TDoc l0_3 0).f1) ((rd_TDoc l0_3 0).f2) ((rd_TDoc l0_3 0).f3)).bind fun t126 => (if (t124 ++ (⟨#[60]⟩ : ByteArray)).size + t126.size ≤ 9223372036854775807 then (if ((t124 ++ (⟨#[60]⟩ : ByteArray)) ++ t126).size + 1 ≤ 9223372036854775807 then (some (((t124 ++ (⟨#[60]⟩ : ByteArray)) ++ t126) ++ (⟨#[62]⟩ : ByteArray))) else (none)) else (none))) else (none)) else (none)) = some r := H
              have A20 := Aside0.mk A200
              clear A200
              by_cases c21 : t124.size + 1 ≤ 9223372036854775807
              · rw [if_pos c21] at H
                have c21b0 := eq_true c21
                have c21b1 : decide (t124.size + 1 ≤ 9223372036854775807) = true := decide_eq_true c21
                try have c21b2 : (9223372036854775807 < t124.size + 1) = False := eq_false (Nat.not_lt.2 c21)
                by_cases c22 : 0 < (l0_3.length : Int)
                · rw [if_pos c22] at H
                  have c22b0 : decide (0 < (l0_3.length : Int)) = true := decide_eq_true c22
                  have c22b1 : decide (0 < l0_3.length) = true := decide_eq_true (by omega)
                  clear c22
                  replace H := Option.bind_eq_some_iff.mp H
                  obtain ⟨t126, A230, H⟩ := H
                  replace H : (if (t124 ++ (⟨#[60]⟩ : ByteArray)).size + t126.size ≤ 9223372036854775807 then (if ((t124 ++ (⟨#[60]⟩ : ByteArray)) ++ t126).size + 1 ≤ 9223372036854775807 then (some (((t124 ++ (⟨#[60]⟩ : ByteArray)) ++ t126) ++ (⟨#[62]⟩ : ByteArray))) else (none)) else (none)) = some r := H
                  have A23 := Aside0.mk A230
                  clear A230
                  by_cases c24 : (t124 ++ (⟨#[60]⟩ : ByteArray)).size + t126.size ≤ 9223372036854775807
                  · rw [if_pos c24] at H
                    have c24b0 := eq_true c24
                    have c24b1 : decide ((t124 ++ (⟨#[60]⟩ : ByteArray)).size + t126.size ≤ 9223372036854775807) = true := decide_eq_true c24
                    try (have c24b4 := c24; (conv at c24b4 => (lhs; simp)); have c24b5 := eq_false (Nat.not_lt.2 c24b4))
                    try (have c24b6 := c24; (conv at c24b6 => (lhs; simp [go_sem])); have c24b7 := eq_false (Nat.not_lt.2 c24b6))
                    try have c24b2 : (9223372036854775807 < (t124 ++ (⟨#[60]⟩ : ByteArray)).size + t126.size) = False := eq_false (Nat.not_lt.2 c24)
                    by_cases c25 : ((t124 ++ (⟨#[60]⟩ : ByteArray)) ++ t126).size + 1 ≤ 9223372036854775807
                    · rw [if_pos c25] at H
                      have c25b0 := eq_true c25
                      have c25b1 : decide (((t124 ++ (⟨#[60]⟩ : ByteArray)) ++ t126).size + 1 ≤ 9223372036854775807) = true := decide_eq_true c25
                      try (have c25b4 := c25; (conv at c25b4 => (lhs; simp)); have c25b5 := eq_false (Nat.not_lt.2 c25b4))
                      try (have c25b6 := c25; (conv at c25b6 => (lhs; simp [go_sem])); have c25b7 := eq_false (Nat.not_lt.2 c25b6))
                      try have c25b2 : (9223372036854775807 < ((t124 ++ (⟨#[60]⟩ : ByteArray)) ++ t126).size + 1) = False := eq_false (Nat.not_lt.2 c25)
                      obtain rfl := Option.some.inj H
                      go_enter Try.func54, Try.ntmps54
                      try go_wp2_with (first | ((with_reducible refine gate_dst (N := 1) rfl ?_); refine box_event ?hg (N := 1) ?hd (cs := #[.int .i64 a0_0, .int .i64 a0_1, .string a0_2, .slice A0_3 l0_3.length c0_3]) (t := 29) ?hr ?_; (case hd => rfl); (case hg => rfl); (case hr => first | (go_simp; done) | (go_simp; rfl)); intro gb123 hg w26 hbox hb; have n0_ := Aside0.mk (below_step (by repeat (first | (with_reducible first | exact HB.out | apply below_alloc | apply pw_below_drewN | apply below_drew1) | exact HB.out)) hb); have n1_ := Aside0.mk (hbox); have n2_ := Aside0.mk ((by rw [hg]; exact (below_size (by repeat (first | (with_reducible first | exact HB.out | apply below_alloc | apply pw_below_drewN | apply below_drew1) | exact HB.out))) : w.heap.size ≤ gb123)); have n3_ := Aside0.mk ((by rw [hg]; exact (below_size (by repeat (first | (with_reducible first | exact HB.out | apply below_alloc | apply pw_below_drewN | apply below_drew1) | exact HB.out))) : w.heap.size ≤ gb123)); clear HB; have HB := n0_; have BK123 := n1_; have GW123 := n2_; have GE123 := n3_; clear n0_ n1_ n2_ n3_; clear hb hbox hg; have hcz27_0 : w26.cell? ⟨gb123, 0, none⟩ = some (.int .i64 a0_0) := (blk_cell BK123.out 0).trans rfl; have hcz27_1 : w26.cell? ⟨gb123, 1, none⟩ = some (.int .i64 a0_1) := (blk_cell BK123.out 1).trans rfl; have hcz27_2 : w26.cell? ⟨gb123, 2, none⟩ = some (.string a0_2) := (blk_cell BK123.out 2).trans rfl; have hcz27_3 : w26.cell? ⟨gb123, 3, none⟩ = some (.slice A0_3 l0_3.length c0_3) := (blk_cell BK123.out 3).trans rfl; have hfz27_0 := blk_frozen BK123.out 0; have hfz27_1 := blk_frozen BK123.out 1; have hfz27_2 := blk_frozen BK123.out 2; have hfz27_3 := blk_frozen BK123.out 3))
                      have n0_ := Aside0.mk (blk_drew BK123.out)
                      have n1_ := Aside0.mk (below_drew1 HB.out)
                      clear BK123
                      clear HB
                      have BK123 := n0_
                      have HB := n1_
                      clear n0_ n1_
                      have p125 : 0 ≤ (0 : Int) := (by omega)
                      have q125 : 0 < (l0_3.length : Int) := of_decide_eq_true (by first | (with_reducible assumption) | assumption)
                      obtain ⟨ad125, A125_3, c125_3, e125, hx125_0, hx125_1, hx125_2, hx125_3, hl125_3, hi125_3⟩ := at_TDoc HR0_3.out 0 p125 q125
                      have hw125_3 := hx125_3
                      (try rw [show ((0 : Int)).toNat = 0 from rfl] at hw125_3)
                      (try rw [show 0 * 4 = 0 from rfl] at hw125_3)
                      (try rw [Addr.add_zero'] at hw125_3)
                      have hw125_2 := hx125_2
                      (try rw [show ((0 : Int)).toNat = 0 from rfl] at hw125_2)
                      (try rw [show 0 * 4 = 0 from rfl] at hw125_2)
                      (try rw [Addr.add_zero'] at hw125_2)
                      have hw125_1 := hx125_1
                      (try rw [show ((0 : Int)).toNat = 0 from rfl] at hw125_1)
                      (try rw [show 0 * 4 = 0 from rfl] at hw125_1)
                      (try rw [Addr.add_zero'] at hw125_1)
                      have hw125_0 := hx125_0
                      (try rw [show ((0 : Int)).toNat = 0 from rfl] at hw125_0)
                      (try rw [show 0 * 4 = 0 from rfl] at hw125_0)
                      (try rw [Addr.add_zero'] at hw125_0)
                      cases e125
                      have qi125 : (0 < l0_3.length) = True := eq_true (by omega)
                      (try rw [show ((0 : Int)).toNat = 0 from rfl] at hx125_0)
                      (try rw [show 0 * 4 = 0 from rfl] at hx125_0)
                      (try rw [Addr.add_zero'] at hx125_0)
                      (try rw [show ((0 : Int)).toNat = 0 from rfl] at hx125_1)
                      (try rw [show 0 * 4 = 0 from rfl] at hx125_1)
                      (try rw [Addr.add_zero'] at hx125_1)
                      (try rw [show ((0 : Int)).toNat = 0 from rfl] at hx125_2)
                      (try rw [show 0 * 4 = 0 from rfl] at hx125_2)
                      (try rw [Addr.add_zero'] at hx125_2)
                      (try rw [show ((0 : Int)).toNat = 0 from rfl] at hx125_3)
                      (try rw [show 0 * 4 = 0 from rfl] at hx125_3)
                      (try rw [Addr.add_zero'] at hx125_3)
                      replace hx125_0 := (HB.out.cell (World.block_lt_of_cell? w _ hx125_0)).trans hx125_0
                      replace hx125_1 := (HB.out.cell (World.block_lt_of_cell? w _ hx125_1)).trans hx125_1
                      replace hx125_2 := (HB.out.cell (World.block_lt_of_cell? w _ hx125_2)).trans hx125_2
                      replace hx125_3 := (HB.out.cell (World.block_lt_of_cell? w _ hx125_3)).trans hx125_3
                      have HR125_3 := Aside0.mk hi125_3
                      have HC125_3 := Aside0.mk hl125_3
                      clear hi125_3 hl125_3
                      replace p125 := eq_true p125
                      replace q125 := eq_true q125
                      refine start_ (n := 12) (S := fun w' => w'.cell? ⟨gb123, 0, none⟩ = some (.int .i64 a0_0) ∧ w'.cell? ⟨gb123, 1, none⟩ = some (.int .i64 a0_1) ∧ w'.cell? ⟨gb123, 2, none⟩ = some (.string a0_2) ∧ w'.cell? ⟨gb123, 3, none⟩ = some (.slice (some ad125) l0_3.length c0_3) ∧ w'.cell? ad125 = some (.int .i64 ((rd_TDoc l0_3 0).f0)) ∧ w'.cell? ⟨ad125.block, ad125.off + 1, none⟩ = some (.int .i64 ((rd_TDoc l0_3 0).f1)) ∧ w'.cell? ⟨ad125.block, ad125.off + 2, none⟩ = some (.string ((rd_TDoc l0_3 0).f2)) ∧ w'.cell? ⟨ad125.block, ad125.off + 3, none⟩ = some (.slice A125_3 ((rd_TDoc l0_3 0).f3).length c125_3)) (ds := []) #[false, false, false, false, false, false, false, false, false, false, false, false] (by kernel_rfl) rfl rfl ⟨(blk_cell BK123.out 0).trans rfl, (blk_cell BK123.out 1).trans rfl, (blk_cell BK123.out 2).trans rfl, (blk_cell BK123.out 3).trans rfl, ((HB.out.cell (World.block_lt_of_cell? w _ hw125_0)).trans hw125_0), ((HB.out.cell (World.block_lt_of_cell? w _ hw125_1)).trans hw125_1), ((HB.out.cell (World.block_lt_of_cell? w _ hw125_2)).trans hw125_2), ((HB.out.cell (World.block_lt_of_cell? w _ hw125_3)).trans hw125_3)⟩ (fun hHeld => ?_); refine with_tabW spec_l1Text.tab13 spec_l1Text.bits13 (fun HT_ HW_ => ?_)
                      generalize w26.drew = w28 at BK123 HB HR125_3 hx125_0 hx125_1 hx125_2 hx125_3 hHeld ⊢
                      refine pure_ (i := 0) (N := some 21) (v := ?_) (a' := ?_) #[true, false, false, false, false, false, false, false, false, false, false, false] rfl rfl (any_of HT_.out (by kernel_rfl)) (fun _ _ _ h => h) (Or.inl ⟨by rfl, ?_⟩) ?_ ?_
                      rotate_left
                      · intro w'
                        go_simp
                        with_reducible rfl
                      rotate_left
                      · simp only [Act.put, List.setIfInBounds_toArray, List.set_cons_zero, List.set_cons_succ, i64_w, i32_w]
                        rfl
                      refine pure_ (i := 4) (N := some 25) (v := ?_) (a' := ?_) #[true, false, false, false, true, false, false, false, false, false, false, false] rfl rfl (any_of HT_.out (by kernel_rfl)) (fun _ _ _ h => h) (Or.inl ⟨by rfl, ?_⟩) ?_ ?_
                      rotate_left
                      · intro w'
                        go_simp
                        with_reducible rfl
                      rotate_left
                      · simp only [Act.put, List.setIfInBounds_toArray, List.set_cons_zero, List.set_cons_succ, i64_w, i32_w]
                        rfl
                      refine take_ (i := 1) (N := some 22) (v := ?_) (a' := ?_) #[true, true, false, false, true, false, false, false, false, false, false, false] rfl rfl (take_ofW HT_.out HW_.out (by kernel_rfl)) (fun _ _ _ h => h) (Or.inl ⟨by rfl, ?_⟩) hHeld ?_ ?_
                      rotate_left
                      · rintro w' ⟨s0, s1, s2, s3, s4, s5, s6, s7⟩
                        go_simp
                        with_reducible rfl
                      rotate_left
                      · simp only [Act.put, List.setIfInBounds_toArray, List.set_cons_zero, List.set_cons_succ, i64_w, i32_w]
                        rfl
                      refine take_ (i := 5) (N := some 26) (v := ?_) (a' := ?_) #[true, true, false, false, true, true, false, false, false, false, false, false] rfl rfl (take_ofW HT_.out HW_.out (by kernel_rfl)) (fun _ _ _ h => h) (Or.inl ⟨by rfl, ?_⟩) hHeld ?_ ?_
                      rotate_left
                      · rintro w' ⟨s0, s1, s2, s3, s4, s5, s6, s7⟩
                        go_simp
                        with_reducible rfl
                      rotate_left
                      · simp only [Act.put, List.setIfInBounds_toArray, List.set_cons_zero, List.set_cons_succ, i64_w, i32_w]
                        rfl
                      refine pure_ (i := 6) (N := some 27) (v := ?_) (a' := ?_) #[true, true, false, false, true, true, true, false, false, false, false, false] rfl rfl (any_of HT_.out (by kernel_rfl)) (fun _ _ _ h => h) (Or.inl ⟨by rfl, ?_⟩) ?_ ?_
                      rotate_left
                      · intro w'
                        go_simp
                        with_reducible rfl
                      rotate_left
                      · simp only [Act.put, List.setIfInBounds_toArray, List.set_cons_zero, List.set_cons_succ, i64_w, i32_w]
                        rfl
                      refine take_ (i := 7) (N := some 28) (v := ?_) (a' := ?_) #[true, true, false, false, true, true, true, true, false, false, false, false] rfl rfl (take_ofW HT_.out HW_.out (by kernel_rfl)) (fun _ _ _ h => h) (Or.inl ⟨by rfl, ?_⟩) hHeld ?_ ?_
                      rotate_left
                      · rintro w' ⟨s0, s1, s2, s3, s4, s5, s6, s7⟩
                        go_simp
                        with_reducible rfl
                      rotate_left
                      · simp only [Act.put, List.setIfInBounds_toArray, List.set_cons_zero, List.set_cons_succ, i64_w, i32_w]
                        rfl
                      refine one_ (i := 2) (N := some 23) #[true, true, true, false, true, true, true, true, false, false, false, false] rfl rfl (one_of HT_.out (by kernel_rfl)) (by decide) (fun K hK => ?_)
                      refine goes_ Try.func93 (by kernel_rfl) rfl #[.int .i64 a0_1] (by rfl) rfl rfl (by (try simp only [List.map_toArray, List.map_cons, List.map_nil]); first | done | rfl | (simp only [List.length_drop, List.length_take]; rfl)) ?_
                      with_reducible refine (spec_l15Dec.calls k a0_1 t124 _ A20.out).mono ?_
                      rintro e w29 ⟨rfl, hb⟩
                      refine ⟨_, rfl, ?_⟩
                      have n0_ := Aside0.mk (blk_below (g := gb123) (o := .cells #[.int .i64 a0_0, .int .i64 a0_1, .string a0_2, .slice (some ad125) l0_3.length c0_3] 29 (0, 0)) (by (with_reducible repeat (first | refine blk_drewN ?_ _ | refine blk_drew ?_ | refine blk_alloc ?_ _)); exact BK123.out) hb)
                      have n1_ := Aside0.mk (below_step (by repeat (first | (with_reducible first | exact HB.out | apply below_alloc | apply pw_below_drewN | apply below_drew1 | refine below_set ?_ GE123.out) | exact HB.out)) hb)
                      clear BK123
                      clear HB
                      have BK123 := n0_
                      have HB := n1_
                      clear n0_ n1_
                      (try clear hb)
                      (try clear hb2)
                      (try clear hk)
                      (try clear hi)
                      refine hK.out _ _ ⟨(blk_cell BK123.out 0).trans rfl, (blk_cell BK123.out 1).trans rfl, (blk_cell BK123.out 2).trans rfl, (blk_cell BK123.out 3).trans rfl, ((HB.out.cell (World.block_lt_of_cell? w _ hw125_0)).trans hw125_0), ((HB.out.cell (World.block_lt_of_cell? w _ hw125_1)).trans hw125_1), ((HB.out.cell (World.block_lt_of_cell? w _ hw125_2)).trans hw125_2), ((HB.out.cell (World.block_lt_of_cell? w _ hw125_3)).trans hw125_3)⟩ (fun hHeld => ?_)
                      clear hK K
                      refine norm_ (a' := ?_) ?_ ?_
                      rotate_left
                      · show Act.put _ (some 23) _ = _
                        simp only [Act.put, List.setIfInBounds_toArray, List.set_cons_zero, List.set_cons_succ, i64_w, i32_w]
                        rfl
                      refine pure_ (i := 3) (N := some 24) (v := ?_) (a' := ?_) #[true, true, true, true, true, true, true, true, false, false, false, false] rfl rfl (any_of HT_.out (by kernel_rfl)) (fun _ _ _ h => h) (Or.inl ⟨by rfl, ?_⟩) ?_ ?_
                      rotate_left
                      · intro w'
                        go_simp
                        with_reducible rfl
                      rotate_left
                      · simp only [Act.put, List.setIfInBounds_toArray, List.set_cons_zero, List.set_cons_succ, i64_w, i32_w]
                        rfl
                      refine one_ (i := 8) (N := some 29) #[true, true, true, true, true, true, true, true, true, false, false, false] rfl rfl (one_of HT_.out (by kernel_rfl)) (by decide) (fun K hK => ?_)
                      refine goes_ Try.func54 (by kernel_rfl) rfl #[.agg #[.int .i64 ((rd_TDoc l0_3 0).f0), .int .i64 ((rd_TDoc l0_3 0).f1), .string ((rd_TDoc l0_3 0).f2), .slice A125_3 ((rd_TDoc l0_3 0).f3).length c125_3]] (by rfl) rfl rfl (by (try simp only [List.map_toArray, List.map_cons, List.map_nil]); first | done | rfl | (simp only [List.length_drop, List.length_take]; rfl)) ?_
                      with_reducible refine (ih k (by omega) ((rd_TDoc l0_3 0).f0) ((rd_TDoc l0_3 0).f1) ((rd_TDoc l0_3 0).f2) _ _ ((rd_TDoc l0_3 0).f3) t126 _ ?side1 ?side2 A23.out).mono ?_
                      (case side1 => repeat (first | exact (Kd.C_below HR125_3.out HB.out) | (with_reducible refine Kd.C_alloc ?_ _) | (with_reducible refine Kd.C_drewN ?_ _) | (with_reducible refine Kd.C_drew ?_)))
                      (case side2 => exact HC125_3.out)
                      rintro e w30 ⟨rfl, hb⟩
                      refine ⟨_, rfl, ?_⟩
                      have n0_ := Aside0.mk (blk_below (g := gb123) (o := .cells #[.int .i64 a0_0, .int .i64 a0_1, .string a0_2, .slice (some ad125) l0_3.length c0_3] 29 (0, 0)) (by (with_reducible repeat (first | refine blk_drewN ?_ _ | refine blk_drew ?_ | refine blk_alloc ?_ _)); exact BK123.out) hb)
                      have n1_ := Aside0.mk (below_step (by repeat (first | (with_reducible first | exact HB.out | apply below_alloc | apply pw_below_drewN | apply below_drew1 | refine below_set ?_ GE123.out) | exact HB.out)) hb)
                      clear BK123
                      clear HB
                      have BK123 := n0_
                      have HB := n1_
                      clear n0_ n1_
                      (try clear hb)
                      (try clear hb2)
                      (try clear hk)
                      (try clear hi)
                      refine hK.out _ _ ⟨(blk_cell BK123.out 0).trans rfl, (blk_cell BK123.out 1).trans rfl, (blk_cell BK123.out 2).trans rfl, (blk_cell BK123.out 3).trans rfl, ((HB.out.cell (World.block_lt_of_cell? w _ hw125_0)).trans hw125_0), ((HB.out.cell (World.block_lt_of_cell? w _ hw125_1)).trans hw125_1), ((HB.out.cell (World.block_lt_of_cell? w _ hw125_2)).trans hw125_2), ((HB.out.cell (World.block_lt_of_cell? w _ hw125_3)).trans hw125_3)⟩ (fun hHeld => ?_)
                      clear hK K
                      refine norm_ (a' := ?_) ?_ ?_
                      rotate_left
                      · show Act.put _ (some 29) _ = _
                        simp only [Act.put, List.setIfInBounds_toArray, List.set_cons_zero, List.set_cons_succ, i64_w, i32_w]
                        rfl
                      refine pure_ (i := 9) (N := some 30) (v := ?_) (a' := ?_) #[true, true, true, true, true, true, true, true, true, true, false, false] rfl rfl (any_of HT_.out (by kernel_rfl)) (fun _ _ _ h => h) (Or.inl ⟨by rfl, ?_⟩) ?_ ?_
                      rotate_left
                      · intro w'
                        go_simp
                        with_reducible rfl
                      rotate_left
                      · simp only [Act.put, List.setIfInBounds_toArray, List.set_cons_zero, List.set_cons_succ, i64_w, i32_w]
                        rfl
                      refine pure_ (i := 10) (N := some 31) (v := ?_) (a' := ?_) #[true, true, true, true, true, true, true, true, true, true, true, false] rfl rfl (any_of HT_.out (by kernel_rfl)) (fun _ _ _ h => h) (Or.inl ⟨by rfl, ?_⟩) ?_ ?_
                      rotate_left
                      · intro w'
                        go_simp
                        with_reducible rfl
                      rotate_left
                      · simp only [Act.put, List.setIfInBounds_toArray, List.set_cons_zero, List.set_cons_succ, i64_w, i32_w]
                        rfl
                      refine pure_ (i := 11) (N := some 2) (v := ?_) (a' := ?_) #[true, true, true, true, true, true, true, true, true, true, true, true] rfl rfl (any_of HT_.out (by kernel_rfl)) (fun _ _ _ h => h) (Or.inl ⟨by rfl, ?_⟩) ?_ ?_
                      rotate_left
                      · intro w'
                        go_simp
                        with_reducible rfl
                      rotate_left
                      · simp only [Act.put, List.setIfInBounds_toArray, List.set_cons_zero, List.set_cons_succ, i64_w, i32_w]
                        rfl
                      refine done_ (done_of HT_.out (by kernel_rfl)) ?_
                      try go_wp2
                      go_ret
                      exact ⟨by first | rfl | (simp [errW_none, errW_some] <;> rfl) | (simp [*, errW_none, errW_some] <;> rfl), by repeat (first | (with_reducible first | exact HB.out | apply below_alloc | apply pw_below_drewN | apply below_drew1 | refine below_set ?_ GE123.out) | exact HB.out)⟩
                    · rw [if_neg c25] at H
                      exact absurd H (by simp)
                  · rw [if_neg c24] at H
                    exact absurd H (by simp)
                · rw [if_neg c22] at H
                  exact absurd H (by simp)
              · rw [if_neg c21] at H
                exact absurd H (by simp)
            · rw [if_neg c19] at H
              have c19b0 : (a0_0 == 6) = false := beq_eq_false_iff_ne.mpr c19
              have c19b1 : (a0_0 != 6) = true := bne_iff_ne.mpr c19
              by_cases c31 : a0_0 = 7
              · rw [if_pos c31] at H
                have c31b0 : (a0_0 == 7) = true := beq_iff_eq.mpr c31
                have c31b1 : (a0_0 != 7) = false := bne_eq_false_iff_eq.mpr c31
                clear c31
                by_cases c32 : 0 < (l0_3.length : Int)
                · rw [if_pos c32] at H
                  have c32b0 : decide (0 < (l0_3.length : Int)) = true := decide_eq_true c32
                  have c32b1 : decide (0 < l0_3.length) = true := decide_eq_true (by omega)
                  clear c32
                  replace H := Option.bind_eq_some_iff.mp H
                  obtain ⟨t128, A330, H⟩ := H
                  replace H : (if 1 + t128.size ≤ 9223372036854775807 then (if 1 < (l0_3.length : Int) then ((spec_l1Text.f k ((rd_TDoc l0_3 1).f0) ((rd_TDoc l0_3 1).f1) ((rd_TDoc l0_3 1).f2) ((rd_TDoc l0_3 1).f3)).bind fun t130 => (if ((⟨#[40]⟩ : ByteArray) ++ t128).size + t130.size ≤ 9223372036854775807 then (if (((⟨#[40]⟩ : ByteArray) ++ t128) ++ t130).size + 1 ≤ 9223372036854775807 then (some ((((⟨#[40]⟩ : ByteArray) ++ t128) ++ t130) ++ (⟨#[41]⟩ : ByteArray))) else (none)) else (none))) else (none)) else (none)) = some r := H
                  have A33 := Aside0.mk A330
                  clear A330
                  by_cases c34 : 1 + t128.size ≤ 9223372036854775807
                  · rw [if_pos c34] at H
                    have c34b0 := eq_true c34
                    have c34b1 : decide (1 + t128.size ≤ 9223372036854775807) = true := decide_eq_true c34
                    try have c34b2 : (9223372036854775807 < 1 + t128.size) = False := eq_false (Nat.not_lt.2 c34)
                    by_cases c35 : 1 < (l0_3.length : Int)
                    · rw [if_pos c35] at H
                      have c35b0 : decide (1 < (l0_3.length : Int)) = true := decide_eq_true c35
                      have c35b1 : decide (1 < l0_3.length) = true := decide_eq_true (by omega)
                      clear c35
                      replace H := Option.bind_eq_some_iff.mp H
                      obtain ⟨t130, A360, H⟩ := H
                      replace H : (if ((⟨#[40]⟩ : ByteArray) ++ t128).size + t130.size ≤ 9223372036854775807 then (if (((⟨#[40]⟩ : ByteArray) ++ t128) ++ t130).size + 1 ≤ 9223372036854775807 then (some ((((⟨#[40]⟩ : ByteArray) ++ t128) ++ t130) ++ (⟨#[41]⟩ : ByteArray))) else (none)) else (none)) = some r := H
                      have A36 := Aside0.mk A360
                      clear A360
                      by_cases c37 : ((⟨#[40]⟩ : ByteArray) ++ t128).size + t130.size ≤ 9223372036854775807
                      · rw [if_pos c37] at H
                        have c37b0 := eq_true c37
                        have c37b1 : decide (((⟨#[40]⟩ : ByteArray) ++ t128).size + t130.size ≤ 9223372036854775807) = true := decide_eq_true c37
                        try (have c37b4 := c37; (conv at c37b4 => (lhs; simp)); have c37b5 := eq_false (Nat.not_lt.2 c37b4))
                        try (have c37b6 := c37; (conv at c37b6 => (lhs; simp [go_sem])); have c37b7 := eq_false (Nat.not_lt.2 c37b6))
                        try have c37b2 : (9223372036854775807 < ((⟨#[40]⟩ : ByteArray) ++ t128).size + t130.size) = False := eq_false (Nat.not_lt.2 c37)
                        by_cases c38 : (((⟨#[40]⟩ : ByteArray) ++ t128) ++ t130).size + 1 ≤ 9223372036854775807
                        · rw [if_pos c38] at H
                          have c38b0 := eq_true c38
                          have c38b1 : decide ((((⟨#[40]⟩ : ByteArray) ++ t128) ++ t130).size + 1 ≤ 9223372036854775807) = true := decide_eq_true c38
                          try (have c38b4 := c38; (conv at c38b4 => (lhs; simp)); have c38b5 := eq_false (Nat.not_lt.2 c38b4))
                          try (have c38b6 := c38; (conv at c38b6 => (lhs; simp [go_sem])); have c38b7 := eq_false (Nat.not_lt.2 c38b6))
                          try have c38b2 : (9223372036854775807 < (((⟨#[40]⟩ : ByteArray) ++ t128) ++ t130).size + 1) = False := eq_false (Nat.not_lt.2 c38)
                          obtain rfl := Option.some.inj H
                          go_enter Try.func54, Try.ntmps54
                          try go_wp2_with (first | ((with_reducible refine gate_dst (N := 1) rfl ?_); refine box_event ?hg (N := 1) ?hd (cs := #[.int .i64 a0_0, .int .i64 a0_1, .string a0_2, .slice A0_3 l0_3.length c0_3]) (t := 29) ?hr ?_; (case hd => rfl); (case hg => rfl); (case hr => first | (go_simp; done) | (go_simp; rfl)); intro gb123 hg w39 hbox hb; have n0_ := Aside0.mk (below_step (by repeat (first | (with_reducible first | exact HB.out | apply below_alloc | apply pw_below_drewN | apply below_drew1) | exact HB.out)) hb); have n1_ := Aside0.mk (hbox); have n2_ := Aside0.mk ((by rw [hg]; exact (below_size (by repeat (first | (with_reducible first | exact HB.out | apply below_alloc | apply pw_below_drewN | apply below_drew1) | exact HB.out))) : w.heap.size ≤ gb123)); have n3_ := Aside0.mk ((by rw [hg]; exact (below_size (by repeat (first | (with_reducible first | exact HB.out | apply below_alloc | apply pw_below_drewN | apply below_drew1) | exact HB.out))) : w.heap.size ≤ gb123)); clear HB; have HB := n0_; have BK123 := n1_; have GW123 := n2_; have GE123 := n3_; clear n0_ n1_ n2_ n3_; clear hb hbox hg; have hcz40_0 : w39.cell? ⟨gb123, 0, none⟩ = some (.int .i64 a0_0) := (blk_cell BK123.out 0).trans rfl; have hcz40_1 : w39.cell? ⟨gb123, 1, none⟩ = some (.int .i64 a0_1) := (blk_cell BK123.out 1).trans rfl; have hcz40_2 : w39.cell? ⟨gb123, 2, none⟩ = some (.string a0_2) := (blk_cell BK123.out 2).trans rfl; have hcz40_3 : w39.cell? ⟨gb123, 3, none⟩ = some (.slice A0_3 l0_3.length c0_3) := (blk_cell BK123.out 3).trans rfl; have hfz40_0 := blk_frozen BK123.out 0; have hfz40_1 := blk_frozen BK123.out 1; have hfz40_2 := blk_frozen BK123.out 2; have hfz40_3 := blk_frozen BK123.out 3))
                          have n0_ := Aside0.mk (blk_drew BK123.out)
                          have n1_ := Aside0.mk (below_drew1 HB.out)
                          clear BK123
                          clear HB
                          have BK123 := n0_
                          have HB := n1_
                          clear n0_ n1_
                          have p127 : 0 ≤ (0 : Int) := (by omega)
                          have q127 : 0 < (l0_3.length : Int) := of_decide_eq_true (by first | (with_reducible assumption) | assumption)
                          (try clear hx125_0); (try clear hx125_1); (try clear hx125_2); (try clear hx125_3)
                          obtain ⟨ad127, A127_3, c127_3, e127, hx127_0, hx127_1, hx127_2, hx127_3, hl127_3, hi127_3⟩ := at_TDoc HR0_3.out 0 p127 q127
                          (try (have ea_ := Option.some.inj (hx127_3.symm.trans hw125_3); injection ea_ with ea_ en_ ec_; subst ea_; subst ec_; clear en_))
                          have hw127_3 := hx127_3
                          (try rw [show ((0 : Int)).toNat = 0 from rfl] at hw127_3)
                          (try rw [show 0 * 4 = 0 from rfl] at hw127_3)
                          (try rw [Addr.add_zero'] at hw127_3)
                          have hw127_2 := hx127_2
                          (try rw [show ((0 : Int)).toNat = 0 from rfl] at hw127_2)
                          (try rw [show 0 * 4 = 0 from rfl] at hw127_2)
                          (try rw [Addr.add_zero'] at hw127_2)
                          have hw127_1 := hx127_1
                          (try rw [show ((0 : Int)).toNat = 0 from rfl] at hw127_1)
                          (try rw [show 0 * 4 = 0 from rfl] at hw127_1)
                          (try rw [Addr.add_zero'] at hw127_1)
                          have hw127_0 := hx127_0
                          (try rw [show ((0 : Int)).toNat = 0 from rfl] at hw127_0)
                          (try rw [show 0 * 4 = 0 from rfl] at hw127_0)
                          (try rw [Addr.add_zero'] at hw127_0)
                          cases e127
                          have qi127 : (0 < l0_3.length) = True := eq_true (by omega)
                          (try rw [show ((0 : Int)).toNat = 0 from rfl] at hx127_0)
                          (try rw [show 0 * 4 = 0 from rfl] at hx127_0)
                          (try rw [Addr.add_zero'] at hx127_0)
                          (try rw [show ((0 : Int)).toNat = 0 from rfl] at hx127_1)
                          (try rw [show 0 * 4 = 0 from rfl] at hx127_1)
                          (try rw [Addr.add_zero'] at hx127_1)
                          (try rw [show ((0 : Int)).toNat = 0 from rfl] at hx127_2)
                          (try rw [show 0 * 4 = 0 from rfl] at hx127_2)
                          (try rw [Addr.add_zero'] at hx127_2)
                          (try rw [show ((0 : Int)).toNat = 0 from rfl] at hx127_3)
                          (try rw [show 0 * 4 = 0 from rfl] at hx127_3)
                          (try rw [Addr.add_zero'] at hx127_3)
                          replace hx127_0 := (HB.out.cell (World.block_lt_of_cell? w _ hx127_0)).trans hx127_0
                          replace hx127_1 := (HB.out.cell (World.block_lt_of_cell? w _ hx127_1)).trans hx127_1
                          replace hx127_2 := (HB.out.cell (World.block_lt_of_cell? w _ hx127_2)).trans hx127_2
                          replace hx127_3 := (HB.out.cell (World.block_lt_of_cell? w _ hx127_3)).trans hx127_3
                          have HR127_3 := Aside0.mk hi127_3
                          have HC127_3 := Aside0.mk hl127_3
                          clear hi127_3 hl127_3
                          replace p127 := eq_true p127
                          replace q127 := eq_true q127
                          have p129 : 0 ≤ (1 : Int) := (by omega)
                          have q129 : 1 < (l0_3.length : Int) := of_decide_eq_true (by first | (with_reducible assumption) | assumption)
                          obtain ⟨ad129, A129_3, c129_3, e129, hx129_0, hx129_1, hx129_2, hx129_3, hl129_3, hi129_3⟩ := at_TDoc HR0_3.out 1 p129 q129
                          have hw129_3 := hx129_3
                          (try rw [show ((1 : Int)).toNat = 1 from rfl] at hw129_3)
                          (try rw [show 1 * 4 = 4 from rfl] at hw129_3)
                          (try simp only [Nat.reduceMul, Nat.reduceEqDiff, Go.Addr.add, ↓reduceIte] at hw129_3)
                          have hw129_2 := hx129_2
                          (try rw [show ((1 : Int)).toNat = 1 from rfl] at hw129_2)
                          (try rw [show 1 * 4 = 4 from rfl] at hw129_2)
                          (try simp only [Nat.reduceMul, Nat.reduceEqDiff, Go.Addr.add, ↓reduceIte] at hw129_2)
                          have hw129_1 := hx129_1
                          (try rw [show ((1 : Int)).toNat = 1 from rfl] at hw129_1)
                          (try rw [show 1 * 4 = 4 from rfl] at hw129_1)
                          (try simp only [Nat.reduceMul, Nat.reduceEqDiff, Go.Addr.add, ↓reduceIte] at hw129_1)
                          have hw129_0 := hx129_0
                          (try rw [show ((1 : Int)).toNat = 1 from rfl] at hw129_0)
                          (try rw [show 1 * 4 = 4 from rfl] at hw129_0)
                          (try simp only [Nat.reduceMul, Nat.reduceEqDiff, Go.Addr.add, ↓reduceIte] at hw129_0)
                          obtain rfl : ad127 = ad129 := (by injection e129)
                          (try simp only [show (1 : Int).toNat = 1 from rfl, Nat.reduceMul, Nat.reduceEqDiff, Go.Addr.add, ↓reduceIte] at hx129_0)
                          (try simp only [show (1 : Int).toNat = 1 from rfl, Nat.reduceMul, Nat.reduceEqDiff, Go.Addr.add, ↓reduceIte] at hx129_1)
                          (try simp only [show (1 : Int).toNat = 1 from rfl, Nat.reduceMul, Nat.reduceEqDiff, Go.Addr.add, ↓reduceIte] at hx129_2)
                          (try simp only [show (1 : Int).toNat = 1 from rfl, Nat.reduceMul, Nat.reduceEqDiff, Go.Addr.add, ↓reduceIte] at hx129_3)
                          have qi129 : (1 < l0_3.length) = True := eq_true (by omega)
                          (try rw [show ((1 : Int)).toNat = 1 from rfl] at hx129_0)
                          (try rw [show 1 * 4 = 4 from rfl] at hx129_0)
                          (try rw [show ((1 : Int)).toNat = 1 from rfl] at hx129_1)
                          (try rw [show 1 * 4 = 4 from rfl] at hx129_1)
                          (try rw [show ((1 : Int)).toNat = 1 from rfl] at hx129_2)
                          (try rw [show 1 * 4 = 4 from rfl] at hx129_2)
                          (try rw [show ((1 : Int)).toNat = 1 from rfl] at hx129_3)
                          (try rw [show 1 * 4 = 4 from rfl] at hx129_3)
                          replace hx129_0 := (HB.out.cell (World.block_lt_of_cell? w _ hx129_0)).trans hx129_0
                          replace hx129_1 := (HB.out.cell (World.block_lt_of_cell? w _ hx129_1)).trans hx129_1
                          replace hx129_2 := (HB.out.cell (World.block_lt_of_cell? w _ hx129_2)).trans hx129_2
                          replace hx129_3 := (HB.out.cell (World.block_lt_of_cell? w _ hx129_3)).trans hx129_3
                          have HR129_3 := Aside0.mk hi129_3
                          have HC129_3 := Aside0.mk hl129_3
                          clear hi129_3 hl129_3
                          replace p129 := eq_true p129
                          replace q129 := eq_true q129
                          refine start_ (n := 14) (S := fun w' => w'.cell? ⟨gb123, 0, none⟩ = some (.int .i64 a0_0) ∧ w'.cell? ⟨gb123, 1, none⟩ = some (.int .i64 a0_1) ∧ w'.cell? ⟨gb123, 2, none⟩ = some (.string a0_2) ∧ w'.cell? ⟨gb123, 3, none⟩ = some (.slice (some ad127) l0_3.length c0_3) ∧ w'.cell? ad127 = some (.int .i64 ((rd_TDoc l0_3 0).f0)) ∧ w'.cell? ⟨ad127.block, ad127.off + 1, none⟩ = some (.int .i64 ((rd_TDoc l0_3 0).f1)) ∧ w'.cell? ⟨ad127.block, ad127.off + 2, none⟩ = some (.string ((rd_TDoc l0_3 0).f2)) ∧ w'.cell? ⟨ad127.block, ad127.off + 3, none⟩ = some (.slice A127_3 ((rd_TDoc l0_3 0).f3).length c127_3) ∧ w'.cell? ⟨ad127.block, ad127.off + 4, none⟩ = some (.int .i64 ((rd_TDoc l0_3 1).f0)) ∧ w'.cell? ⟨ad127.block, ad127.off + 4 + 1, none⟩ = some (.int .i64 ((rd_TDoc l0_3 1).f1)) ∧ w'.cell? ⟨ad127.block, ad127.off + 4 + 2, none⟩ = some (.string ((rd_TDoc l0_3 1).f2)) ∧ w'.cell? ⟨ad127.block, ad127.off + 4 + 3, none⟩ = some (.slice A129_3 ((rd_TDoc l0_3 1).f3).length c129_3)) (ds := []) #[false, false, false, false, false, false, false, false, false, false, false, false, false, false] (by kernel_rfl) rfl rfl ⟨(blk_cell BK123.out 0).trans rfl, (blk_cell BK123.out 1).trans rfl, (blk_cell BK123.out 2).trans rfl, (blk_cell BK123.out 3).trans rfl, ((HB.out.cell (World.block_lt_of_cell? w _ hw127_0)).trans hw127_0), ((HB.out.cell (World.block_lt_of_cell? w _ hw127_1)).trans hw127_1), ((HB.out.cell (World.block_lt_of_cell? w _ hw127_2)).trans hw127_2), ((HB.out.cell (World.block_lt_of_cell? w _ hw127_3)).trans hw127_3), ((HB.out.cell (World.block_lt_of_cell? w _ hw129_0)).trans hw129_0), ((HB.out.cell (World.block_lt_of_cell? w _ hw129_1)).trans hw129_1), ((HB.out.cell (World.block_lt_of_cell? w _ hw129_2)).trans hw129_2), ((HB.out.cell (World.block_lt_of_cell? w _ hw129_3)).trans hw129_3)⟩ (fun hHeld => ?_); refine with_tabW spec_l1Text.tab15 spec_l1Text.bits15 (fun HT_ HW_ => ?_)
                          generalize w39.drew = w41 at BK123 HB HR127_3 HR129_3 hx127_0 hx127_1 hx127_2 hx127_3 hx129_0 hx129_1 hx129_2 hx129_3 hHeld ⊢
                          refine pure_ (i := 0) (N := some 34) (v := ?_) (a' := ?_) #[true, false, false, false, false, false, false, false, false, false, false, false, false, false] rfl rfl (any_of HT_.out (by kernel_rfl)) (fun _ _ _ h => h) (Or.inl ⟨by rfl, ?_⟩) ?_ ?_
                          rotate_left
                          · intro w'
                            go_simp
                            with_reducible rfl
                          rotate_left
                          · simp only [Act.put, List.setIfInBounds_toArray, List.set_cons_zero, List.set_cons_succ, i64_w, i32_w]
                            rfl
                          refine pure_ (i := 6) (N := some 40) (v := ?_) (a' := ?_) #[true, false, false, false, false, false, true, false, false, false, false, false, false, false] rfl rfl (any_of HT_.out (by kernel_rfl)) (fun _ _ _ h => h) (Or.inl ⟨by rfl, ?_⟩) ?_ ?_
                          rotate_left
                          · intro w'
                            go_simp
                            with_reducible rfl
                          rotate_left
                          · simp only [Act.put, List.setIfInBounds_toArray, List.set_cons_zero, List.set_cons_succ, i64_w, i32_w]
                            rfl
                          refine take_ (i := 1) (N := some 35) (v := ?_) (a' := ?_) #[true, true, false, false, false, false, true, false, false, false, false, false, false, false] rfl rfl (take_ofW HT_.out HW_.out (by kernel_rfl)) (fun _ _ _ h => h) (Or.inl ⟨by rfl, ?_⟩) hHeld ?_ ?_
                          rotate_left
                          · rintro w' ⟨s0, s1, s2, s3, s4, s5, s6, s7, s8, s9, s10, s11⟩
                            go_simp
                            with_reducible rfl
                          rotate_left
                          · simp only [Act.put, List.setIfInBounds_toArray, List.set_cons_zero, List.set_cons_succ, i64_w, i32_w]
                            rfl
                          refine pure_ (i := 2) (N := some 36) (v := ?_) (a' := ?_) #[true, true, true, false, false, false, true, false, false, false, false, false, false, false] rfl rfl (any_of HT_.out (by kernel_rfl)) (fun _ _ _ h => h) (Or.inl ⟨by rfl, ?_⟩) ?_ ?_
                          rotate_left
                          · intro w'
                            go_simp
                            with_reducible rfl
                          rotate_left
                          · simp only [Act.put, List.setIfInBounds_toArray, List.set_cons_zero, List.set_cons_succ, i64_w, i32_w]
                            rfl
                          refine take_ (i := 3) (N := some 37) (v := ?_) (a' := ?_) #[true, true, true, true, false, false, true, false, false, false, false, false, false, false] rfl rfl (take_ofW HT_.out HW_.out (by kernel_rfl)) (fun _ _ _ h => h) (Or.inl ⟨by rfl, ?_⟩) hHeld ?_ ?_
                          rotate_left
                          · rintro w' ⟨s0, s1, s2, s3, s4, s5, s6, s7, s8, s9, s10, s11⟩
                            go_simp
                            with_reducible rfl
                          rotate_left
                          · simp only [Act.put, List.setIfInBounds_toArray, List.set_cons_zero, List.set_cons_succ, i64_w, i32_w]
                            rfl
                          refine take_ (i := 7) (N := some 41) (v := ?_) (a' := ?_) #[true, true, true, true, false, false, true, true, false, false, false, false, false, false] rfl rfl (take_ofW HT_.out HW_.out (by kernel_rfl)) (fun _ _ _ h => h) (Or.inl ⟨by rfl, ?_⟩) hHeld ?_ ?_
                          rotate_left
                          · rintro w' ⟨s0, s1, s2, s3, s4, s5, s6, s7, s8, s9, s10, s11⟩
                            go_simp
                            with_reducible rfl
                          rotate_left
                          · simp only [Act.put, List.setIfInBounds_toArray, List.set_cons_zero, List.set_cons_succ, i64_w, i32_w]
                            rfl
                          refine pure_ (i := 8) (N := some 42) (v := ?_) (a' := ?_) #[true, true, true, true, false, false, true, true, true, false, false, false, false, false] rfl rfl (any_of HT_.out (by kernel_rfl)) (fun _ _ _ h => h) (Or.inl ⟨by rfl, ?_⟩) ?_ ?_
                          rotate_left
                          · intro w'
                            go_simp
                            with_reducible rfl
                          rotate_left
                          · simp only [Act.put, List.setIfInBounds_toArray, List.set_cons_zero, List.set_cons_succ, i64_w, i32_w]
                            rfl
                          refine take_ (i := 9) (N := some 43) (v := ?_) (a' := ?_) #[true, true, true, true, false, false, true, true, true, true, false, false, false, false] rfl rfl (take_ofW HT_.out HW_.out (by kernel_rfl)) (fun _ _ _ h => h) (Or.inl ⟨by rfl, ?_⟩) hHeld ?_ ?_
                          rotate_left
                          · rintro w' ⟨s0, s1, s2, s3, s4, s5, s6, s7, s8, s9, s10, s11⟩
                            go_simp
                            with_reducible rfl
                          rotate_left
                          · simp only [Act.put, List.setIfInBounds_toArray, List.set_cons_zero, List.set_cons_succ, i64_w, i32_w]
                            rfl
                          refine one_ (i := 4) (N := some 38) #[true, true, true, true, true, false, true, true, true, true, false, false, false, false] rfl rfl (one_of HT_.out (by kernel_rfl)) (by decide) (fun K hK => ?_)
                          refine goes_ Try.func54 (by kernel_rfl) rfl #[.agg #[.int .i64 ((rd_TDoc l0_3 0).f0), .int .i64 ((rd_TDoc l0_3 0).f1), .string ((rd_TDoc l0_3 0).f2), .slice A127_3 ((rd_TDoc l0_3 0).f3).length c127_3]] (by rfl) rfl rfl (by (try simp only [List.map_toArray, List.map_cons, List.map_nil]); first | done | rfl | (simp only [List.length_drop, List.length_take]; rfl)) ?_
                          with_reducible refine (ih k (by omega) ((rd_TDoc l0_3 0).f0) ((rd_TDoc l0_3 0).f1) ((rd_TDoc l0_3 0).f2) _ _ ((rd_TDoc l0_3 0).f3) t128 _ ?side1 ?side2 A33.out).mono ?_
                          (case side1 => repeat (first | exact (Kd.C_below HR127_3.out HB.out) | (with_reducible refine Kd.C_alloc ?_ _) | (with_reducible refine Kd.C_drewN ?_ _) | (with_reducible refine Kd.C_drew ?_)))
                          (case side2 => exact HC127_3.out)
                          rintro e w42 ⟨rfl, hb⟩
                          refine ⟨_, rfl, ?_⟩
                          have n0_ := Aside0.mk (blk_below (g := gb123) (o := .cells #[.int .i64 a0_0, .int .i64 a0_1, .string a0_2, .slice (some ad127) l0_3.length c0_3] 29 (0, 0)) (by (with_reducible repeat (first | refine blk_drewN ?_ _ | refine blk_drew ?_ | refine blk_alloc ?_ _)); exact BK123.out) hb)
                          have n1_ := Aside0.mk (below_step (by repeat (first | (with_reducible first | exact HB.out | apply below_alloc | apply pw_below_drewN | apply below_drew1 | refine below_set ?_ GE123.out) | exact HB.out)) hb)
                          clear BK123
                          clear HB
                          have BK123 := n0_
                          have HB := n1_
                          clear n0_ n1_
                          (try clear hb)
                          (try clear hb2)
                          (try clear hk)
                          (try clear hi)
                          refine hK.out _ _ ⟨(blk_cell BK123.out 0).trans rfl, (blk_cell BK123.out 1).trans rfl, (blk_cell BK123.out 2).trans rfl, (blk_cell BK123.out 3).trans rfl, ((HB.out.cell (World.block_lt_of_cell? w _ hw127_0)).trans hw127_0), ((HB.out.cell (World.block_lt_of_cell? w _ hw127_1)).trans hw127_1), ((HB.out.cell (World.block_lt_of_cell? w _ hw127_2)).trans hw127_2), ((HB.out.cell (World.block_lt_of_cell? w _ hw127_3)).trans hw127_3), ((HB.out.cell (World.block_lt_of_cell? w _ hw129_0)).trans hw129_0), ((HB.out.cell (World.block_lt_of_cell? w _ hw129_1)).trans hw129_1), ((HB.out.cell (World.block_lt_of_cell? w _ hw129_2)).trans hw129_2), ((HB.out.cell (World.block_lt_of_cell? w _ hw129_3)).trans hw129_3)⟩ (fun hHeld => ?_)
                          clear hK K
                          refine norm_ (a' := ?_) ?_ ?_
                          rotate_left
                          · show Act.put _ (some 38) _ = _
                            simp only [Act.put, List.setIfInBounds_toArray, List.set_cons_zero, List.set_cons_succ, i64_w, i32_w]
                            rfl
                          refine pure_ (i := 5) (N := some 39) (v := ?_) (a' := ?_) #[true, true, true, true, true, true, true, true, true, true, false, false, false, false] rfl rfl (any_of HT_.out (by kernel_rfl)) (fun _ _ _ h => h) (Or.inl ⟨by rfl, ?_⟩) ?_ ?_
                          rotate_left
                          · intro w'
                            go_simp
                            with_reducible rfl
                          rotate_left
                          · simp only [Act.put, List.setIfInBounds_toArray, List.set_cons_zero, List.set_cons_succ, i64_w, i32_w]
                            rfl
                          refine one_ (i := 10) (N := some 44) #[true, true, true, true, true, true, true, true, true, true, true, false, false, false] rfl rfl (one_of HT_.out (by kernel_rfl)) (by decide) (fun K hK => ?_)
                          refine goes_ Try.func54 (by kernel_rfl) rfl #[.agg #[.int .i64 ((rd_TDoc l0_3 1).f0), .int .i64 ((rd_TDoc l0_3 1).f1), .string ((rd_TDoc l0_3 1).f2), .slice A129_3 ((rd_TDoc l0_3 1).f3).length c129_3]] (by rfl) rfl rfl (by (try simp only [List.map_toArray, List.map_cons, List.map_nil]); first | done | rfl | (simp only [List.length_drop, List.length_take]; rfl)) ?_
                          with_reducible refine (ih k (by omega) ((rd_TDoc l0_3 1).f0) ((rd_TDoc l0_3 1).f1) ((rd_TDoc l0_3 1).f2) _ _ ((rd_TDoc l0_3 1).f3) t130 _ ?side1 ?side2 A36.out).mono ?_
                          (case side1 => repeat (first | exact (Kd.C_below HR129_3.out HB.out) | (with_reducible refine Kd.C_alloc ?_ _) | (with_reducible refine Kd.C_drewN ?_ _) | (with_reducible refine Kd.C_drew ?_)))
                          (case side2 => exact HC129_3.out)
                          rintro e w43 ⟨rfl, hb⟩
                          refine ⟨_, rfl, ?_⟩
                          have n0_ := Aside0.mk (blk_below (g := gb123) (o := .cells #[.int .i64 a0_0, .int .i64 a0_1, .string a0_2, .slice (some ad127) l0_3.length c0_3] 29 (0, 0)) (by (with_reducible repeat (first | refine blk_drewN ?_ _ | refine blk_drew ?_ | refine blk_alloc ?_ _)); exact BK123.out) hb)
                          have n1_ := Aside0.mk (below_step (by repeat (first | (with_reducible first | exact HB.out | apply below_alloc | apply pw_below_drewN | apply below_drew1 | refine below_set ?_ GE123.out) | exact HB.out)) hb)
                          clear BK123
                          clear HB
                          have BK123 := n0_
                          have HB := n1_
                          clear n0_ n1_
                          (try clear hb)
                          (try clear hb2)
                          (try clear hk)
                          (try clear hi)
                          refine hK.out _ _ ⟨(blk_cell BK123.out 0).trans rfl, (blk_cell BK123.out 1).trans rfl, (blk_cell BK123.out 2).trans rfl, (blk_cell BK123.out 3).trans rfl, ((HB.out.cell (World.block_lt_of_cell? w _ hw127_0)).trans hw127_0), ((HB.out.cell (World.block_lt_of_cell? w _ hw127_1)).trans hw127_1), ((HB.out.cell (World.block_lt_of_cell? w _ hw127_2)).trans hw127_2), ((HB.out.cell (World.block_lt_of_cell? w _ hw127_3)).trans hw127_3), ((HB.out.cell (World.block_lt_of_cell? w _ hw129_0)).trans hw129_0), ((HB.out.cell (World.block_lt_of_cell? w _ hw129_1)).trans hw129_1), ((HB.out.cell (World.block_lt_of_cell? w _ hw129_2)).trans hw129_2), ((HB.out.cell (World.block_lt_of_cell? w _ hw129_3)).trans hw129_3)⟩ (fun hHeld => ?_)
                          clear hK K
                          refine norm_ (a' := ?_) ?_ ?_
                          rotate_left
                          · show Act.put _ (some 44) _ = _
                            simp only [Act.put, List.setIfInBounds_toArray, List.set_cons_zero, List.set_cons_succ, i64_w, i32_w]
                            rfl
                          refine pure_ (i := 11) (N := some 45) (v := ?_) (a' := ?_) #[true, true, true, true, true, true, true, true, true, true, true, true, false, false] rfl rfl (any_of HT_.out (by kernel_rfl)) (fun _ _ _ h => h) (Or.inl ⟨by rfl, ?_⟩) ?_ ?_
                          rotate_left
                          · intro w'
                            go_simp
                            with_reducible rfl
                          rotate_left
                          · simp only [Act.put, List.setIfInBounds_toArray, List.set_cons_zero, List.set_cons_succ, i64_w, i32_w]
                            rfl
                          refine pure_ (i := 12) (N := some 46) (v := ?_) (a' := ?_) #[true, true, true, true, true, true, true, true, true, true, true, true, true, false] rfl rfl (any_of HT_.out (by kernel_rfl)) (fun _ _ _ h => h) (Or.inl ⟨by rfl, ?_⟩) ?_ ?_
                          rotate_left
                          · intro w'
                            go_simp
                            with_reducible rfl
                          rotate_left
                          · simp only [Act.put, List.setIfInBounds_toArray, List.set_cons_zero, List.set_cons_succ, i64_w, i32_w]
                            rfl
                          refine pure_ (i := 13) (N := some 2) (v := ?_) (a' := ?_) #[true, true, true, true, true, true, true, true, true, true, true, true, true, true] rfl rfl (any_of HT_.out (by kernel_rfl)) (fun _ _ _ h => h) (Or.inl ⟨by rfl, ?_⟩) ?_ ?_
                          rotate_left
                          · intro w'
                            go_simp
                            with_reducible rfl
                          rotate_left
                          · simp only [Act.put, List.setIfInBounds_toArray, List.set_cons_zero, List.set_cons_succ, i64_w, i32_w]
                            rfl
                          refine done_ (done_of HT_.out (by kernel_rfl)) ?_
                          try go_wp2
                          go_ret
                          exact ⟨by first | rfl | (simp [errW_none, errW_some] <;> rfl) | (simp [*, errW_none, errW_some] <;> rfl), by repeat (first | (with_reducible first | exact HB.out | apply below_alloc | apply pw_below_drewN | apply below_drew1 | refine below_set ?_ GE123.out) | exact HB.out)⟩
                        · rw [if_neg c38] at H
                          exact absurd H (by simp)
                      · rw [if_neg c37] at H
                        exact absurd H (by simp)
                    · rw [if_neg c35] at H
                      exact absurd H (by simp)
                  · rw [if_neg c34] at H
                    exact absurd H (by simp)
                · rw [if_neg c32] at H
                  exact absurd H (by simp)
              · rw [if_neg c31] at H
                have c31b0 : (a0_0 == 7) = false := beq_eq_false_iff_ne.mpr c31
                have c31b1 : (a0_0 != 7) = true := bne_iff_ne.mpr c31
                by_cases c44 : 0 < (l0_3.length : Int)
                · rw [if_pos c44] at H
                  have c44b0 : decide (0 < (l0_3.length : Int)) = true := decide_eq_true c44
                  have c44b1 : decide (0 < l0_3.length) = true := decide_eq_true (by omega)
                  clear c44
                  replace H := Option.bind_eq_some_iff.mp H
                  obtain ⟨t132, A450, H⟩ := H
                  replace H : (if 1 + t132.size ≤ 9223372036854775807 then (if ((⟨#[91]⟩ : ByteArray) ++ t132).size + 1 ≤ 9223372036854775807 then (some (((⟨#[91]⟩ : ByteArray) ++ t132) ++ (⟨#[93]⟩ : ByteArray))) else (none)) else (none)) = some r := H
                  have A45 := Aside0.mk A450
                  clear A450
                  by_cases c46 : 1 + t132.size ≤ 9223372036854775807
                  · rw [if_pos c46] at H
                    have c46b0 := eq_true c46
                    have c46b1 : decide (1 + t132.size ≤ 9223372036854775807) = true := decide_eq_true c46
                    try have c46b2 : (9223372036854775807 < 1 + t132.size) = False := eq_false (Nat.not_lt.2 c46)
                    by_cases c47 : ((⟨#[91]⟩ : ByteArray) ++ t132).size + 1 ≤ 9223372036854775807
                    · rw [if_pos c47] at H
                      have c47b0 := eq_true c47
                      have c47b1 : decide (((⟨#[91]⟩ : ByteArray) ++ t132).size + 1 ≤ 9223372036854775807) = true := decide_eq_true c47
                      try (have c47b4 := c47; (conv at c47b4 => (lhs; simp)); have c47b5 := eq_false (Nat.not_lt.2 c47b4))
                      try (have c47b6 := c47; (conv at c47b6 => (lhs; simp [go_sem])); have c47b7 := eq_false (Nat.not_lt.2 c47b6))
                      try have c47b2 : (9223372036854775807 < ((⟨#[91]⟩ : ByteArray) ++ t132).size + 1) = False := eq_false (Nat.not_lt.2 c47)
                      obtain rfl := Option.some.inj H
                      go_enter Try.func54, Try.ntmps54
                      go_wp2_with (first | ((with_reducible refine gate_dst (N := 1) rfl ?_); refine box_event ?hg (N := 1) ?hd (cs := #[.int .i64 a0_0, .int .i64 a0_1, .string a0_2, .slice A0_3 l0_3.length c0_3]) (t := 29) ?hr ?_; (case hd => rfl); (case hg => rfl); (case hr => first | (go_simp; done) | (go_simp; rfl)); intro gb123 hg w48 hbox hb; have n0_ := Aside0.mk (below_step (by repeat (first | (with_reducible first | exact HB.out | apply below_alloc | apply pw_below_drewN | apply below_drew1) | exact HB.out)) hb); have n1_ := Aside0.mk (hbox); have n2_ := Aside0.mk ((by rw [hg]; exact (below_size (by repeat (first | (with_reducible first | exact HB.out | apply below_alloc | apply pw_below_drewN | apply below_drew1) | exact HB.out))) : w.heap.size ≤ gb123)); have n3_ := Aside0.mk ((by rw [hg]; exact (below_size (by repeat (first | (with_reducible first | exact HB.out | apply below_alloc | apply pw_below_drewN | apply below_drew1) | exact HB.out))) : w.heap.size ≤ gb123)); clear HB; have HB := n0_; have BK123 := n1_; have GW123 := n2_; have GE123 := n3_; clear n0_ n1_ n2_ n3_; clear hb hbox hg; have hcz49_0 : w48.cell? ⟨gb123, 0, none⟩ = some (.int .i64 a0_0) := (blk_cell BK123.out 0).trans rfl; have hcz49_1 : w48.cell? ⟨gb123, 1, none⟩ = some (.int .i64 a0_1) := (blk_cell BK123.out 1).trans rfl; have hcz49_2 : w48.cell? ⟨gb123, 2, none⟩ = some (.string a0_2) := (blk_cell BK123.out 2).trans rfl; have hcz49_3 : w48.cell? ⟨gb123, 3, none⟩ = some (.slice A0_3 l0_3.length c0_3) := (blk_cell BK123.out 3).trans rfl; have hfz49_0 := blk_frozen BK123.out 0; have hfz49_1 := blk_frozen BK123.out 1; have hfz49_2 := blk_frozen BK123.out 2; have hfz49_3 := blk_frozen BK123.out 3; have p131 : 0 ≤ (0 : Int) := (by omega); have q131 : 0 < (l0_3.length : Int) := of_decide_eq_true (by first | (with_reducible assumption) | assumption); obtain ⟨ad131, A131_3, c131_3, e131, hx131_0, hx131_1, hx131_2, hx131_3, hl131_3, hi131_3⟩ := at_TDoc HR0_3.out 0 p131 q131; cases e131; have qi131 : (0 < l0_3.length) = True := eq_true (by omega); (try rw [show ((0 : Int)).toNat = 0 from rfl] at hx131_0); (try rw [show 0 * 4 = 0 from rfl] at hx131_0); (try rw [Addr.add_zero'] at hx131_0); (try rw [show ((0 : Int)).toNat = 0 from rfl] at hx131_1); (try rw [show 0 * 4 = 0 from rfl] at hx131_1); (try rw [Addr.add_zero'] at hx131_1); (try rw [show ((0 : Int)).toNat = 0 from rfl] at hx131_2); (try rw [show 0 * 4 = 0 from rfl] at hx131_2); (try rw [Addr.add_zero'] at hx131_2); (try rw [show ((0 : Int)).toNat = 0 from rfl] at hx131_3); (try rw [show 0 * 4 = 0 from rfl] at hx131_3); (try rw [Addr.add_zero'] at hx131_3); replace hx131_0 := (HB.out.cell (World.block_lt_of_cell? w _ hx131_0)).trans hx131_0; replace hx131_1 := (HB.out.cell (World.block_lt_of_cell? w _ hx131_1)).trans hx131_1; replace hx131_2 := (HB.out.cell (World.block_lt_of_cell? w _ hx131_2)).trans hx131_2; replace hx131_3 := (HB.out.cell (World.block_lt_of_cell? w _ hx131_3)).trans hx131_3; have HR131_3 := Aside0.mk hi131_3; have HC131_3 := Aside0.mk hl131_3; clear hi131_3 hl131_3; replace p131 := eq_true p131; replace q131 := eq_true q131) | ((with_reducible refine gate_callee (f := 54) rfl ?_); refine goesL_ (some 51) rfl rfl Try.func54 (by kernel_rfl) rfl #[.agg #[.int .i64 ((rd_TDoc l0_3 0).f0), .int .i64 ((rd_TDoc l0_3 0).f1), .string ((rd_TDoc l0_3 0).f2), .slice A131_3 ((rd_TDoc l0_3 0).f3).length c131_3]] rfl (by (try simp only [List.map_toArray, List.map_cons, List.map_nil]); first | done | rfl | (simp only [List.length_drop, List.length_take]; rfl)) ?_; (with_reducible refine (ih k (by omega) ((rd_TDoc l0_3 0).f0) ((rd_TDoc l0_3 0).f1) ((rd_TDoc l0_3 0).f2) _ _ ((rd_TDoc l0_3 0).f3) t132 _ ?side1 ?side2 A45.out).mono ?_); (case side1 => repeat (first | exact (Kd.C_below HR131_3.out HB.out) | (with_reducible refine Kd.C_alloc ?_ _) | (with_reducible refine Kd.C_drewN ?_ _) | (with_reducible refine Kd.C_drew ?_))); (case side2 => exact HC131_3.out); rintro e w50 ⟨rfl, hb⟩; refine ⟨_, rfl, ?_⟩; have n0_ := Aside0.mk (blk_below (g := gb123) (o := .cells #[.int .i64 a0_0, .int .i64 a0_1, .string a0_2, .slice (some ad131) l0_3.length c0_3] 29 (0, 0)) (by (with_reducible repeat (first | refine blk_drewN ?_ _ | refine blk_drew ?_ | refine blk_alloc ?_ _)); exact BK123.out) hb); have n1_ := Aside0.mk (below_step (by repeat (first | (with_reducible first | exact HB.out | apply below_alloc | apply pw_below_drewN | apply below_drew1 | refine below_set ?_ GE123.out) | exact HB.out)) hb); clear BK123; clear HB; have BK123 := n0_; have HB := n1_; clear n0_ n1_; (try clear hb); (try clear hb2); (try clear hk); (try clear hi)))
                      go_ret
                      exact ⟨by first | rfl | (simp [errW_none, errW_some] <;> rfl) | (simp [*, errW_none, errW_some] <;> rfl), by repeat (first | (with_reducible first | exact HB.out | apply below_alloc | apply pw_below_drewN | apply below_drew1 | refine below_set ?_ GE123.out) | exact HB.out)⟩
                    · rw [if_neg c47] at H
                      exact absurd H (by simp)
                  · rw [if_neg c46] at H
                    exact absurd H (by simp)
                · rw [if_neg c44] at H
                  exact absurd H (by simp)

end Go.Proofs.Ytmccfpniolikhaa.P
