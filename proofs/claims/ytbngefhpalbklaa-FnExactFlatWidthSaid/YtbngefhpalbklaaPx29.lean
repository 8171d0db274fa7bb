/- CONTRACTS: each theorem here says that a Go function of the program, called over the translation under the theorem's own hypotheses, returns what the Lean function beside it computes. Written by the session's program xprint.py. -/
import Derived.Test.YtbngefhpalbklaaPx0
namespace Go.Proofs.Ytbngefhpalbklaa.P
open Go.RowKit Go.Proofs.YtbngefhpalbklaaW.PrintWords Go.Proofs.YtbngefhpalbklaaW.PrintLast Go.Proofs.YtbngefhpalbklaaW.PrintMore
attribute [local go_sem] max2_int min2_int max_two min_two max_three min_three max_four min_four   -- for this text's walks alone
set_option linter.unusedVariables false
set_option linter.unusedSimpArgs false

/-! ### impl_flat: function 75 -/
mutual
def impl_flat.l0 : Nat → ByteArray → List (SDoc) → Int → Int → Option (ByteArray)
  | 0, _, _, _, _ => none
  | k + 1, x3, x15, x16, x17 => if x17 < x16 then (if 0 ≤ x17 then (if x17 < (x15.length : Int) then ((impl_flat.f k ((rd_TDoc x15 x17).f0) ((rd_TDoc x15 x17).f1) ((rd_TDoc x15 x17).f2) ((rd_TDoc x15 x17).f3)).bind fun t256 => (if x3.size + t256.size ≤ 9223372036854775807 then (impl_flat.l0 k (x3 ++ t256) x15 x16 (wrap64 (x17 + 1))) else (none))) else (none)) else (none)) else (some x3)
def impl_flat.f : Nat → Int → Int → ByteArray → List (SDoc) → Option (ByteArray)
  | 0, _, _, _, _ => none
  | k + 1, a0_0, a0_1, a0_2, l0_3 => if a0_0 = 2 then (some a0_2) else (if a0_0 = 3 then (some (⟨#[32]⟩ : ByteArray)) else (impl_flat.l0 k (⟨#[]⟩ : ByteArray) l0_3 (l0_3.length : Int) 0))
end
theorem impl_flat.mono_l : ∀ k, (∀ y0 y1 y2 y3, LeO (impl_flat.f k y0 y1 y2 y3) (impl_flat.f (k + 1) y0 y1 y2 y3)) ∧ (∀ y0 y1 y2 y3, LeO (impl_flat.l0 k y0 y1 y2 y3) (impl_flat.l0 (k + 1) y0 y1 y2 y3))
  | 0 => ⟨fun _ _ _ _ r h => by simp [impl_flat.f] at h, fun _ _ _ _ r h => by simp [impl_flat.l0] at h⟩
  | k + 1 => by
    obtain ⟨ih0, ih1⟩ := impl_flat.mono_l k
    refine ⟨?_, ?_⟩
    · intro y0 y1 y2 y3
      unfold impl_flat.f
      repeat' first
      | (with_reducible exact ih0 _ _ _ _)
      | (with_reducible exact ih1 _ _ _ _)
      | (with_reducible exact LeO.refl _)
      | (with_reducible exact LeO.none _)
      | (with_reducible refine LeO.ite ?_ ?_)
      | (with_reducible refine LeO.bind ?_ (fun _ => ?_))
      | exact ih0 _ _ _ _
      | exact ih1 _ _ _ _
      | exact LeO.none _
      | refine LeO.ite ?_ ?_
      | refine LeO.bind ?_ (fun _ => ?_)
    · intro y0 y1 y2 y3
      unfold impl_flat.l0
      repeat' first
      | (with_reducible exact ih0 _ _ _ _)
      | (with_reducible exact ih1 _ _ _ _)
      | (with_reducible exact LeO.refl _)
      | (with_reducible exact LeO.none _)
      | (with_reducible refine LeO.ite ?_ ?_)
      | (with_reducible refine LeO.bind ?_ (fun _ => ?_))
      | exact ih0 _ _ _ _
      | exact ih1 _ _ _ _
      | exact LeO.none _
      | refine LeO.ite ?_ ?_
      | refine LeO.bind ?_ (fun _ => ?_)
theorem impl_flat.mono : ∀ a0 a1 a2 a3 k, LeO (impl_flat.f k a0 a1 a2 a3) (impl_flat.f (k + 1) a0 a1 a2 a3) := by
  intro a0 a1 a2 a3 k
  obtain ⟨ih0, ih1⟩ := impl_flat.mono_l k
  exact ih0 a0 a1 a2 a3
set_option maxHeartbeats 8000000 in
set_option maxRecDepth 100000 in
theorem impl_flat.calls (k : Nat) : ∀ (a0_0 : Int) (a0_1 : Int) (a0_2 : ByteArray) (A0_3 : Option Addr) (c0_3 : Nat) (l0_3 : List (SDoc)) (r : ByteArray) (w : World) (hr0_3 : Kd.C k29 w A0_3 l0_3.length l0_3) (hc0_3 : l0_3.length ≤ c0_3) (h : impl_flat.f k a0_0 a0_1 a0_2 l0_3 = some r),
    Calls Try.prog 75 #[.agg #[.int .i64 a0_0, .int .i64 a0_1, .string a0_2, .slice A0_3 l0_3.length c0_3]] w fun e w' => e = .returned (.string r) ∧ Below w.heap.size w w' := by
  induction k using Nat.strongRecOn with
  | _ k ih =>
  intro a0_0 a0_1 a0_2 A0_3 c0_3 l0_3 r w hr0_3 hc0_3 h
  cases k with
  | zero => exact absurd h (by simp [impl_flat.f])
  | succ k =>
  simp only [impl_flat.f] at h
  have hu29 := Try.underlying29
  have HR0_3 := Aside0.mk hr0_3
  have HC0_3 := Aside0.mk hc0_3
  clear hr0_3 hc0_3
  have HB := Aside0.mk (Below.refl w.heap.size w)
  have H : (if a0_0 = 2 then (some a0_2) else (if a0_0 = 3 then (some (⟨#[32]⟩ : ByteArray)) else (impl_flat.l0 k (⟨#[]⟩ : ByteArray) l0_3 (l0_3.length : Int) 0))) = some r := h
  clear h
  by_cases c2 : a0_0 = 2
  · rw [if_pos c2] at H
    have c2b0 : (a0_0 == 2) = true := beq_iff_eq.mpr c2
    have c2b1 : (a0_0 != 2) = false := bne_eq_false_iff_eq.mpr c2
    clear c2
    obtain rfl := Option.some.inj H
    go_enter Try.func75, Try.ntmps75
    go_wp2_with (first | ((with_reducible refine gate_dst (N := 1) rfl ?_); refine box_event ?hg (N := 1) ?hd (cs := #[.int .i64 a0_0, .int .i64 a0_1, .string a0_2, .slice A0_3 l0_3.length c0_3]) (t := 29) ?hr ?_; (case hd => rfl); (case hg => rfl); (case hr => first | (go_simp; done) | (go_simp; rfl)); intro gb253 hg w3 hbox hb; have n0_ := Aside0.mk (below_step (by repeat (first | (with_reducible first | exact HB.out | apply below_alloc | apply pw_below_drewN | apply below_drew1) | exact HB.out)) hb); have n1_ := Aside0.mk (hbox); have n2_ := Aside0.mk ((by rw [hg]; exact (below_size (by repeat (first | (with_reducible first | exact HB.out | apply below_alloc | apply pw_below_drewN | apply below_drew1) | exact HB.out))) : w.heap.size ≤ gb253)); have n3_ := Aside0.mk ((by rw [hg]; exact (below_size (by repeat (first | (with_reducible first | exact HB.out | apply below_alloc | apply pw_below_drewN | apply below_drew1) | exact HB.out))) : w.heap.size ≤ gb253)); clear HB; have HB := n0_; have BK253 := n1_; have GW253 := n2_; have GE253 := n3_; clear n0_ n1_ n2_ n3_; clear hb hbox hg; have hcz4_0 : w3.cell? ⟨gb253, 0, none⟩ = some (.int .i64 a0_0) := (blk_cell BK253.out 0).trans rfl; have hcz4_1 : w3.cell? ⟨gb253, 1, none⟩ = some (.int .i64 a0_1) := (blk_cell BK253.out 1).trans rfl; have hcz4_2 : w3.cell? ⟨gb253, 2, none⟩ = some (.string a0_2) := (blk_cell BK253.out 2).trans rfl; have hcz4_3 : w3.cell? ⟨gb253, 3, none⟩ = some (.slice A0_3 l0_3.length c0_3) := (blk_cell BK253.out 3).trans rfl; have hfz4_0 := blk_frozen BK253.out 0; have hfz4_1 := blk_frozen BK253.out 1; have hfz4_2 := blk_frozen BK253.out 2; have hfz4_3 := blk_frozen BK253.out 3))
    go_ret
    exact ⟨by first | rfl | (simp [errW_none, errW_some] <;> rfl) | (simp [*, errW_none, errW_some] <;> rfl), by repeat (first | (with_reducible first | exact HB.out | apply below_alloc | apply pw_below_drewN | apply below_drew1 | refine below_set ?_ GE253.out) | exact HB.out)⟩
  · rw [if_neg c2] at H
    have c2b0 : (a0_0 == 2) = false := beq_eq_false_iff_ne.mpr c2
    have c2b1 : (a0_0 != 2) = true := bne_iff_ne.mpr c2
    by_cases c5 : a0_0 = 3
    · rw [if_pos c5] at H
      have c5b0 : (a0_0 == 3) = true := beq_iff_eq.mpr c5
      have c5b1 : (a0_0 != 3) = false := bne_eq_false_iff_eq.mpr c5
      clear c5
      obtain rfl := Option.some.inj H
      go_enter Try.func75, Try.ntmps75
      go_wp2_with (first | ((with_reducible refine gate_dst (N := 1) rfl ?_); refine box_event ?hg (N := 1) ?hd (cs := #[.int .i64 a0_0, .int .i64 a0_1, .string a0_2, .slice A0_3 l0_3.length c0_3]) (t := 29) ?hr ?_; (case hd => rfl); (case hg => rfl); (case hr => first | (go_simp; done) | (go_simp; rfl)); intro gb253 hg w6 hbox hb; have n0_ := Aside0.mk (below_step (by repeat (first | (with_reducible first | exact HB.out | apply below_alloc | apply pw_below_drewN | apply below_drew1) | exact HB.out)) hb); have n1_ := Aside0.mk (hbox); have n2_ := Aside0.mk ((by rw [hg]; exact (below_size (by repeat (first | (with_reducible first | exact HB.out | apply below_alloc | apply pw_below_drewN | apply below_drew1) | exact HB.out))) : w.heap.size ≤ gb253)); have n3_ := Aside0.mk ((by rw [hg]; exact (below_size (by repeat (first | (with_reducible first | exact HB.out | apply below_alloc | apply pw_below_drewN | apply below_drew1) | exact HB.out))) : w.heap.size ≤ gb253)); clear HB; have HB := n0_; have BK253 := n1_; have GW253 := n2_; have GE253 := n3_; clear n0_ n1_ n2_ n3_; clear hb hbox hg; have hcz7_0 : w6.cell? ⟨gb253, 0, none⟩ = some (.int .i64 a0_0) := (blk_cell BK253.out 0).trans rfl; have hcz7_1 : w6.cell? ⟨gb253, 1, none⟩ = some (.int .i64 a0_1) := (blk_cell BK253.out 1).trans rfl; have hcz7_2 : w6.cell? ⟨gb253, 2, none⟩ = some (.string a0_2) := (blk_cell BK253.out 2).trans rfl; have hcz7_3 : w6.cell? ⟨gb253, 3, none⟩ = some (.slice A0_3 l0_3.length c0_3) := (blk_cell BK253.out 3).trans rfl; have hfz7_0 := blk_frozen BK253.out 0; have hfz7_1 := blk_frozen BK253.out 1; have hfz7_2 := blk_frozen BK253.out 2; have hfz7_3 := blk_frozen BK253.out 3))
      go_ret
      exact ⟨by first | rfl | (simp [errW_none, errW_some] <;> rfl) | (simp [*, errW_none, errW_some] <;> rfl), by repeat (first | (with_reducible first | exact HB.out | apply below_alloc | apply pw_below_drewN | apply below_drew1 | refine below_set ?_ GE253.out) | exact HB.out)⟩
    · rw [if_neg c5] at H
      have c5b0 : (a0_0 == 3) = false := beq_eq_false_iff_ne.mpr c5
      have c5b1 : (a0_0 != 3) = true := bne_iff_ne.mpr c5
      have H' := Aside0.mk H
      clear H
      go_enter Try.func75, Try.ntmps75
      go_wp2_with (first | ((with_reducible refine gate_dst (N := 1) rfl ?_); refine box_event ?hg (N := 1) ?hd (cs := #[.int .i64 a0_0, .int .i64 a0_1, .string a0_2, .slice A0_3 l0_3.length c0_3]) (t := 29) ?hr ?_; (case hd => rfl); (case hg => rfl); (case hr => first | (go_simp; done) | (go_simp; rfl)); intro gb253 hg w8 hbox hb; have n0_ := Aside0.mk (below_step (by repeat (first | (with_reducible first | exact HB.out | apply below_alloc | apply pw_below_drewN | apply below_drew1) | exact HB.out)) hb); have n1_ := Aside0.mk (hbox); have n2_ := Aside0.mk ((by rw [hg]; exact (below_size (by repeat (first | (with_reducible first | exact HB.out | apply below_alloc | apply pw_below_drewN | apply below_drew1) | exact HB.out))) : w.heap.size ≤ gb253)); have n3_ := Aside0.mk ((by rw [hg]; exact (below_size (by repeat (first | (with_reducible first | exact HB.out | apply below_alloc | apply pw_below_drewN | apply below_drew1) | exact HB.out))) : w.heap.size ≤ gb253)); clear HB; have HB := n0_; have BK253 := n1_; have GW253 := n2_; have GE253 := n3_; clear n0_ n1_ n2_ n3_; clear hb hbox hg; have hcz9_0 : w8.cell? ⟨gb253, 0, none⟩ = some (.int .i64 a0_0) := (blk_cell BK253.out 0).trans rfl; have hcz9_1 : w8.cell? ⟨gb253, 1, none⟩ = some (.int .i64 a0_1) := (blk_cell BK253.out 1).trans rfl; have hcz9_2 : w8.cell? ⟨gb253, 2, none⟩ = some (.string a0_2) := (blk_cell BK253.out 2).trans rfl; have hcz9_3 : w8.cell? ⟨gb253, 3, none⟩ = some (.slice A0_3 l0_3.length c0_3) := (blk_cell BK253.out 3).trans rfl; have hfz9_0 := blk_frozen BK253.out 0; have hfz9_1 := blk_frozen BK253.out 1; have hfz9_2 := blk_frozen BK253.out 2; have hfz9_3 := blk_frozen BK253.out 3))
      go_loopg [3, 17] k (fun kq v3 v17 w' => ∃ (x3_1 : ByteArray) (x17_1 : Int), v3 = .string x3_1 ∧ v17 = .int .i64 x17_1 ∧ Aside0 (impl_flat.l0 kq x3_1 l0_3 (l0_3.length : Int) x17_1 = some r) ∧ Aside0 (kq ≤ k) ∧ Aside0 (w'.heap[gb253]? = some (.cells #[.int .i64 a0_0, .int .i64 a0_1, .string a0_2, (.slice A0_3 l0_3.length c0_3)] 29 (0, 0))) ∧ Aside0 (Below w.heap.size w w'))
      case atStart => exact ⟨((⟨#[]⟩ : ByteArray)), (0), (by first | rfl | (simp; done) | (simp [*]; done)), (by first | rfl | (simp; done) | (simp [*]; done)), H', ⟨Nat.le_refl _⟩, ⟨by (with_reducible repeat (first | refine blk_drewN ?_ _ | refine blk_drew ?_ | refine blk_alloc ?_ _)); exact BK253.out⟩, ⟨by repeat (first | (with_reducible first | exact HB.out | apply below_alloc | apply pw_below_drewN | apply below_drew1 | refine below_set ?_ GE253.out) | exact HB.out)⟩⟩
      case round =>
        clear H'
        try clear c2
        try clear c2b0
        try clear c2b1
        try clear p2
        try clear c5
        try clear c5b0
        try clear c5b1
        try clear c7
        try clear hcz4_0
        try clear hcz4_1
        try clear hcz4_2
        try clear hcz4_3
        try clear hcz7_0
        try clear hcz7_1
        try clear hcz7_2
        try clear hcz7_3
        try clear hcz9_0
        try clear hcz9_1
        try clear hcz9_2
        try clear hcz9_3
        try clear hfz4_0
        try clear hfz4_1
        try clear hfz4_2
        try clear hfz4_3
        try clear hfz7_0
        try clear hfz7_1
        try clear hfz7_2
        try clear hfz7_3
        try clear hfz9_0
        try clear hfz9_1
        try clear hfz9_2
        try clear hfz9_3
        (try clear BK253); (try clear HB)
        obtain ⟨x3_1, x17_1, rfl, rfl, HA, HK1, BK253, HB⟩ := hrel
        cases gk with
        | zero => exact absurd HA.out (by simp [impl_flat.l0])
        | succ k1 =>
          have H := HA.out
          clear HA
          simp only [impl_flat.l0] at H
          by_cases c10 : x17_1 < (l0_3.length : Int)
          · rw [if_pos c10] at H
            have c10b0 : decide (x17_1 < (l0_3.length : Int)) = true := decide_eq_true c10
            clear c10
            by_cases c11 : 0 ≤ x17_1
            · rw [if_pos c11] at H
              have c11b0 : decide (0 ≤ x17_1) = true := decide_eq_true c11
              clear c11
              by_cases c12 : x17_1 < (l0_3.length : Int)
              · rw [if_pos c12] at H
                have c12b0 : decide (x17_1 < (l0_3.length : Int)) = true := decide_eq_true c12
                clear c12
                replace H := Option.bind_eq_some_iff.mp H
                obtain ⟨t256, A130, H⟩ := H
                replace H : (if x3_1.size + t256.size ≤ 9223372036854775807 then (impl_flat.l0 k1 (x3_1 ++ t256) l0_3 (l0_3.length : Int) (wrap64 (x17_1 + 1))) else (none)) = some r := H
                have A13 := Aside0.mk A130
                clear A130
                by_cases c14 : x3_1.size + t256.size ≤ 9223372036854775807
                · rw [if_pos c14] at H
                  have c14b0 := eq_true c14
                  have c14b1 : decide (x3_1.size + t256.size ≤ 9223372036854775807) = true := decide_eq_true c14
                  try have c14b2 : (9223372036854775807 < x3_1.size + t256.size) = False := eq_false (Nat.not_lt.2 c14)
                  have H' := Aside0.mk H
                  clear H
                  have p254 : 0 ≤ (x17_1 : Int) := of_decide_eq_true (by first | (with_reducible assumption) | assumption)
                  have q254 : x17_1 < (l0_3.length : Int) := of_decide_eq_true (by first | (with_reducible assumption) | assumption)
                  obtain ⟨ad254, A254_3, c254_3, e254, hx254_0, hx254_1, hx254_2, hx254_3, hl254_3, hi254_3⟩ := at_TDoc HR0_3.out x17_1 p254 q254
                  cases e254
                  replace hx254_0 := (HB.out.cell (World.block_lt_of_cell? w _ hx254_0)).trans hx254_0
                  replace hx254_1 := (HB.out.cell (World.block_lt_of_cell? w _ hx254_1)).trans hx254_1
                  replace hx254_2 := (HB.out.cell (World.block_lt_of_cell? w _ hx254_2)).trans hx254_2
                  replace hx254_3 := (HB.out.cell (World.block_lt_of_cell? w _ hx254_3)).trans hx254_3
                  have HR254_3 := Aside0.mk hi254_3
                  have HC254_3 := Aside0.mk hl254_3
                  clear hi254_3 hl254_3
                  replace p254 := eq_true p254
                  replace q254 := eq_true q254
                  go_wp2_with (first | ((with_reducible refine gate_dst (N := 5) rfl ?_); refine box_event ?hg (N := 5) ?hd (cs := #[.int .i64 0, .int .i64 0, .string (⟨#[]⟩ : ByteArray), .slice none 0 0]) (t := 29) ?hr ?_; (case hd => rfl); (case hg => rfl); (case hr => first | (go_simp; done) | (go_simp; rfl)); intro gb255 hg w15 hbox hb; have n0_ := Aside0.mk (blk_below (g := gb253) (o := .cells #[.int .i64 a0_0, .int .i64 a0_1, .string a0_2, .slice (some ad254) l0_3.length c0_3] 29 (0, 0)) (by (with_reducible repeat (first | refine blk_drewN ?_ _ | refine blk_drew ?_ | refine blk_alloc ?_ _)); exact BK253.out) hb); have n1_ := Aside0.mk (below_step (by repeat (first | (with_reducible first | exact HB.out | apply below_alloc | apply pw_below_drewN | apply below_drew1 | refine below_set ?_ GE253.out) | exact HB.out)) hb); have n2_ := Aside0.mk (hbox); have n3_ := Aside0.mk ((by rw [hg]; exact (below_size (by repeat (first | (with_reducible first | exact HB.out | apply below_alloc | apply pw_below_drewN | apply below_drew1 | refine below_set ?_ GE253.out) | exact HB.out))) : w.heap.size ≤ gb255)); have n4_ := Aside0.mk ((by rw [hg]; exact (below_size (by repeat (first | (with_reducible first | exact HB.out | apply below_alloc | apply pw_below_drewN | apply below_drew1 | refine below_set ?_ GE253.out) | exact HB.out))) : w.heap.size ≤ gb255)); have n5_ := Aside0.mk ((by rw [hg]; exact Nat.ne_of_lt (blk_lt (g := gb253) (o := .cells #[.int .i64 a0_0, .int .i64 a0_1, .string a0_2, .slice (some ad254) l0_3.length c0_3] 29 (0, 0)) (by (with_reducible repeat (first | refine blk_drewN ?_ _ | refine blk_drew ?_ | refine blk_alloc ?_ _)); exact BK253.out)) : gb253 ≠ gb255)); have n6_ := Aside0.mk ((by rw [hg]; exact Nat.ne_of_gt (blk_lt (g := gb253) (o := .cells #[.int .i64 a0_0, .int .i64 a0_1, .string a0_2, .slice (some ad254) l0_3.length c0_3] 29 (0, 0)) (by (with_reducible repeat (first | refine blk_drewN ?_ _ | refine blk_drew ?_ | refine blk_alloc ?_ _)); exact BK253.out)) : gb255 ≠ gb253)); clear BK253; clear HB; have BK253 := n0_; have HB := n1_; have BK255 := n2_; have GW255 := n3_; have GE255 := n4_; have NB253_255 := n5_; have NB255_253 := n6_; clear n0_ n1_ n2_ n3_ n4_ n5_ n6_; clear hb hbox hg; have hnb16 := NB255_253.out; have hnc16 := NB253_255.out; have hcz17_0 : w15.cell? ⟨gb255, 0, none⟩ = some (.int .i64 0) := (blk_cell BK255.out 0).trans rfl; have hcz17_1 : w15.cell? ⟨gb255, 1, none⟩ = some (.int .i64 0) := (blk_cell BK255.out 1).trans rfl; have hcz17_2 : w15.cell? ⟨gb255, 2, none⟩ = some (.string (⟨#[]⟩ : ByteArray)) := (blk_cell BK255.out 2).trans rfl; have hcz17_3 : w15.cell? ⟨gb255, 3, none⟩ = some (.slice none 0 0) := (blk_cell BK255.out 3).trans rfl; have hfz17_0 := blk_frozen BK255.out 0; have hfz17_1 := blk_frozen BK255.out 1; have hfz17_2 := blk_frozen BK255.out 2; have hfz17_3 := blk_frozen BK255.out 3) | ((with_reducible refine gate_callee (f := 75) rfl ?_); refine goesL_ (some 23) rfl rfl Try.func75 (by kernel_rfl) rfl #[.agg #[.int .i64 ((rd_TDoc l0_3 x17_1).f0), .int .i64 ((rd_TDoc l0_3 x17_1).f1), .string ((rd_TDoc l0_3 x17_1).f2), .slice A254_3 ((rd_TDoc l0_3 x17_1).f3).length c254_3]] rfl (by (try simp only [List.map_toArray, List.map_cons, List.map_nil]); first | done | rfl | (simp only [List.length_drop, List.length_take]; rfl)) ?_; (with_reducible refine (ih k1 (by have := HK1.out; omega) ((rd_TDoc l0_3 x17_1).f0) ((rd_TDoc l0_3 x17_1).f1) ((rd_TDoc l0_3 x17_1).f2) _ _ ((rd_TDoc l0_3 x17_1).f3) t256 _ ?side1 ?side2 A13.out).mono ?_); (case side1 => exact Kd.C_below HR254_3.out (by repeat (first | (with_reducible first | exact HB.out | apply below_alloc | apply pw_below_drewN | apply below_drew1 | refine below_set ?_ GE253.out | refine below_set ?_ GE255.out) | exact HB.out))); (case side2 => exact HC254_3.out); rintro e w18 ⟨rfl, hb⟩; refine ⟨_, rfl, ?_⟩; have n0_ := Aside0.mk (blk_below (g := gb253) (o := .cells #[.int .i64 a0_0, .int .i64 a0_1, .string a0_2, .slice (some ad254) l0_3.length c0_3] 29 (0, 0)) (by (with_reducible repeat (first | refine blk_drewN ?_ _ | refine blk_drew ?_ | refine blk_alloc ?_ _)); refine blk_far ?_ NB253_255.out _; (with_reducible repeat (first | refine blk_drewN ?_ _ | refine blk_drew ?_ | refine blk_alloc ?_ _)); refine blk_far ?_ NB253_255.out _; (with_reducible repeat (first | refine blk_drewN ?_ _ | refine blk_drew ?_ | refine blk_alloc ?_ _)); refine blk_far ?_ NB253_255.out _; (with_reducible repeat (first | refine blk_drewN ?_ _ | refine blk_drew ?_ | refine blk_alloc ?_ _)); refine blk_far ?_ NB253_255.out _; (with_reducible repeat (first | refine blk_drewN ?_ _ | refine blk_drew ?_ | refine blk_alloc ?_ _)); exact BK253.out) hb); have n1_ := Aside0.mk (blk_below (g := gb255) (o := .cells #[.int .i64 ((rd_TDoc l0_3 x17_1).f0), .int .i64 ((rd_TDoc l0_3 x17_1).f1), .string ((rd_TDoc l0_3 x17_1).f2), .slice A254_3 ((rd_TDoc l0_3 x17_1).f3).length c254_3] 29 (0, 0)) (by (with_reducible repeat (first | refine blk_drewN ?_ _ | refine blk_drew ?_ | refine blk_alloc ?_ _)); refine blk_put (cs := #[.int .i64 ((rd_TDoc l0_3 x17_1).f0), .int .i64 ((rd_TDoc l0_3 x17_1).f1), .string ((rd_TDoc l0_3 x17_1).f2), .slice none 0 0]) ?_ 3 _ rfl; (with_reducible repeat (first | refine blk_drewN ?_ _ | refine blk_drew ?_ | refine blk_alloc ?_ _)); refine blk_put (cs := #[.int .i64 ((rd_TDoc l0_3 x17_1).f0), .int .i64 ((rd_TDoc l0_3 x17_1).f1), .string (⟨#[]⟩ : ByteArray), .slice none 0 0]) ?_ 2 _ rfl; (with_reducible repeat (first | refine blk_drewN ?_ _ | refine blk_drew ?_ | refine blk_alloc ?_ _)); refine blk_put (cs := #[.int .i64 ((rd_TDoc l0_3 x17_1).f0), .int .i64 0, .string (⟨#[]⟩ : ByteArray), .slice none 0 0]) ?_ 1 _ rfl; (with_reducible repeat (first | refine blk_drewN ?_ _ | refine blk_drew ?_ | refine blk_alloc ?_ _)); refine blk_put (cs := #[.int .i64 0, .int .i64 0, .string (⟨#[]⟩ : ByteArray), .slice none 0 0]) ?_ 0 _ rfl; (with_reducible repeat (first | refine blk_drewN ?_ _ | refine blk_drew ?_ | refine blk_alloc ?_ _)); exact BK255.out) hb); have n2_ := Aside0.mk (below_step (by repeat (first | (with_reducible first | exact HB.out | apply below_alloc | apply pw_below_drewN | apply below_drew1 | refine below_set ?_ GE253.out | refine below_set ?_ GE255.out) | exact HB.out)) hb); clear BK253; clear BK255; clear HB; have BK253 := n0_; have BK255 := n1_; have HB := n2_; clear n0_ n1_ n2_; (try clear hb); (try clear hb2); (try clear hk); (try clear hi)))
                  go_roundg k1
                  case measure => have := HK1.out; omega
                  case rel => exact ⟨(x3_1 ++ t256), (wrap64 (x17_1 + 1)), (by first | rfl | (simp; done) | (simp [*]; done)), (by first | rfl | (simp; done) | (simp [*]; done)), H', ⟨by have := HK1.out; omega⟩, ⟨by (with_reducible repeat (first | refine blk_drewN ?_ _ | refine blk_drew ?_ | refine blk_alloc ?_ _)); exact BK253.out⟩, ⟨by repeat (first | (with_reducible first | exact HB.out | apply below_alloc | apply pw_below_drewN | apply below_drew1 | refine below_set ?_ GE253.out | refine below_set ?_ GE255.out) | exact HB.out)⟩⟩
                · rw [if_neg c14] at H
                  exact absurd H (by simp)
              · rw [if_neg c12] at H
                exact absurd H (by simp)
            · rw [if_neg c11] at H
              exact absurd H (by simp)
          · rw [if_neg c10] at H
            have c10b0 : decide (x17_1 < (l0_3.length : Int)) = false := decide_eq_false c10
            clear c10
            obtain rfl := Option.some.inj H
            go_wp2
            go_ret
            exact ⟨by first | rfl | (simp [errW_none, errW_some] <;> rfl) | (simp [*, errW_none, errW_some] <;> rfl), by repeat (first | (with_reducible first | exact HB.out | apply below_alloc | apply pw_below_drewN | apply below_drew1 | refine below_set ?_ GE253.out) | exact HB.out)⟩

end Go.Proofs.Ytbngefhpalbklaa.P
