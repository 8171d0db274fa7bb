/- CONTRACTS: each theorem here says that a Go function of the program, called over the translation under the theorem's own hypotheses, returns what the Lean function beside it computes. Written by the session's program xprint.py. -/
import Derived.Test.YtbijachmecgpgaaPx0
import Derived.Test.YtbijachmecgpgaaPx34
namespace Go.Proofs.Ytbijachmecgpgaa.P
open Go.RowKit Go.Proofs.YtbijachmecgpgaaW.PrintWords Go.Proofs.YtbijachmecgpgaaW.PrintLast Go.Proofs.YtbijachmecgpgaaW.PrintMore
attribute [local go_sem] max2_int min2_int max_two min_two max_three min_three max_four min_four   -- for this text's walks alone
set_option linter.unusedVariables false
set_option linter.unusedSimpArgs false

/-! ### impl_LayoutValid: function 32 -/
mutual
def impl_LayoutValid.j0 : Nat → List (SRow) → Bool → Option (Bool)
  | 0, _, _ => none
  | k + 1, x0, x19 => if x19 = true then (some false) else (impl_LayoutValid.l0 k x0 (x0.length : Int) 0)
def impl_LayoutValid.l0 : Nat → List (SRow) → Int → Int → Option (Bool)
  | 0, _, _, _ => none
  | k + 1, x20, x21, x22 => if x22 < x21 then (if 0 ≤ x22 then (if x22 < (x20.length : Int) then (if ((rd_TRow x20 x22).f0) < 0 then (impl_LayoutValid.j2 k x20 x21 x22 true) else (if ((rd_TRow x20 x22).f0) > 400 then (impl_LayoutValid.j2 k x20 x21 x22 true) else ((impl_rowBytes.f k ((rd_TRow x20 x22).f1)).bind fun t313 => (if t313 = true then (impl_LayoutValid.j2 k x20 x21 x22 (decide ((((rd_TRow x20 x22).f1).size : Int) ≥ 2000))) else (impl_LayoutValid.j2 k x20 x21 x22 true))))) else (none)) else (none)) else (some true)
def impl_LayoutValid.j2 : Nat → List (SRow) → Int → Int → Bool → Option (Bool)
  | 0, _, _, _, _ => none
  | k + 1, x20, x21, x22, x45 => if x45 = true then (some false) else (impl_LayoutValid.l0 k x20 x21 (wrap64 (x22 + 1)))
end
def impl_LayoutValid.f (k : Nat) (l0 : List (SRow)) : Option (Bool) := if (l0.length : Int) < 1 then (impl_LayoutValid.j0 k l0 true) else (if (l0.length : Int) > 200 then (impl_LayoutValid.j0 k l0 true) else (if 0 < (l0.length : Int) then (impl_LayoutValid.j0 k l0 (((rd_TRow l0 0).f0) != 0)) else (none)))
theorem impl_LayoutValid.mono_l : ∀ k, (∀ y0 y1, LeO (impl_LayoutValid.j0 k y0 y1) (impl_LayoutValid.j0 (k + 1) y0 y1)) ∧ (∀ y0 y1 y2, LeO (impl_LayoutValid.l0 k y0 y1 y2) (impl_LayoutValid.l0 (k + 1) y0 y1 y2)) ∧ (∀ y0 y1 y2 y3, LeO (impl_LayoutValid.j2 k y0 y1 y2 y3) (impl_LayoutValid.j2 (k + 1) y0 y1 y2 y3))
  | 0 => ⟨fun _ _ r h => by simp [impl_LayoutValid.j0] at h, fun _ _ _ r h => by simp [impl_LayoutValid.l0] at h, fun _ _ _ _ r h => by simp [impl_LayoutValid.j2] at h⟩
  | k + 1 => by
    obtain ⟨ih0, ih1, ih2⟩ := impl_LayoutValid.mono_l k
    refine ⟨?_, ?_, ?_⟩
    · intro y0 y1
      unfold impl_LayoutValid.j0
      repeat' first
      | (with_reducible exact ih0 _ _)
      | (with_reducible exact ih1 _ _ _)
      | (with_reducible exact ih2 _ _ _ _)
      | (with_reducible exact impl_rowBytes.mono _ _)
      | (with_reducible exact LeO.refl _)
      | (with_reducible exact LeO.none _)
      | (with_reducible refine LeO.ite ?_ ?_)
      | (with_reducible refine LeO.bind ?_ (fun _ => ?_))
      | exact ih0 _ _
      | exact ih1 _ _ _
      | exact ih2 _ _ _ _
      | exact impl_rowBytes.mono _ _
      | exact LeO.none _
      | refine LeO.ite ?_ ?_
      | refine LeO.bind ?_ (fun _ => ?_)
    · intro y0 y1 y2
      unfold impl_LayoutValid.l0
      repeat' first
      | (with_reducible exact ih0 _ _)
      | (with_reducible exact ih1 _ _ _)
      | (with_reducible exact ih2 _ _ _ _)
      | (with_reducible exact impl_rowBytes.mono _ _)
      | (with_reducible exact LeO.refl _)
      | (with_reducible exact LeO.none _)
      | (with_reducible refine LeO.ite ?_ ?_)
      | (with_reducible refine LeO.bind ?_ (fun _ => ?_))
      | exact ih0 _ _
      | exact ih1 _ _ _
      | exact ih2 _ _ _ _
      | exact impl_rowBytes.mono _ _
      | exact LeO.none _
      | refine LeO.ite ?_ ?_
      | refine LeO.bind ?_ (fun _ => ?_)
    · intro y0 y1 y2 y3
      unfold impl_LayoutValid.j2
      repeat' first
      | (with_reducible exact ih0 _ _)
      | (with_reducible exact ih1 _ _ _)
      | (with_reducible exact ih2 _ _ _ _)
      | (with_reducible exact impl_rowBytes.mono _ _)
      | (with_reducible exact LeO.refl _)
      | (with_reducible exact LeO.none _)
      | (with_reducible refine LeO.ite ?_ ?_)
      | (with_reducible refine LeO.bind ?_ (fun _ => ?_))
      | exact ih0 _ _
      | exact ih1 _ _ _
      | exact ih2 _ _ _ _
      | exact impl_rowBytes.mono _ _
      | exact LeO.none _
      | refine LeO.ite ?_ ?_
      | refine LeO.bind ?_ (fun _ => ?_)
theorem impl_LayoutValid.mono : ∀ a0 k, LeO (impl_LayoutValid.f k a0) (impl_LayoutValid.f (k + 1) a0) := by
  intro a0 k
  obtain ⟨ih0, ih1, ih2⟩ := impl_LayoutValid.mono_l k
  unfold impl_LayoutValid.f
  repeat' first
      | (with_reducible exact ih0 _ _)
      | (with_reducible exact ih1 _ _ _)
      | (with_reducible exact ih2 _ _ _ _)
      | (with_reducible exact impl_rowBytes.mono _ _)
      | (with_reducible exact LeO.refl _)
      | (with_reducible exact LeO.none _)
      | (with_reducible refine LeO.ite ?_ ?_)
      | (with_reducible refine LeO.bind ?_ (fun _ => ?_))
      | exact ih0 _ _
      | exact ih1 _ _ _
      | exact ih2 _ _ _ _
      | exact impl_rowBytes.mono _ _
      | exact LeO.none _
      | refine LeO.ite ?_ ?_
      | refine LeO.bind ?_ (fun _ => ?_)
set_option maxHeartbeats 8000000 in
set_option maxRecDepth 100000 in
theorem impl_LayoutValid.calls (k : Nat) (A0 : Option Addr) (c0 : Nat) (l0 : List (SRow)) (r : Bool) (w : World) (hr0 : Kd.C k58 w A0 l0.length l0) (hc0 : l0.length ≤ c0) (h : impl_LayoutValid.f k l0 = some r) :
    Calls Try.prog 32 #[.slice A0 l0.length c0] w fun e w' => e = .returned (.bool r) ∧ Below w.heap.size w w' := by
  have hu58 := Try.underlying58
  have HR0 := Aside0.mk hr0
  have HC0 := Aside0.mk hc0
  clear hr0 hc0
  have HB := Aside0.mk (Below.refl w.heap.size w)
  have H : (if (l0.length : Int) < 1 then (impl_LayoutValid.j0 k l0 true) else (if (l0.length : Int) > 200 then (impl_LayoutValid.j0 k l0 true) else (if 0 < (l0.length : Int) then (impl_LayoutValid.j0 k l0 (((rd_TRow l0 0).f0) != 0)) else (none)))) = some r := h
  clear h
  have HC2 := Aside0.mk H
  clear H
  go_enter Try.func32, Try.ntmps32
  go_upto_region 1 with (fail)
  go_cut [19] (fun v19 wc => ∃ (kq : Nat) (x19_1 : Bool), v19 = .bool x19_1 ∧ Aside0 (impl_LayoutValid.j0 kq l0 x19_1 = some r) ∧ Aside0 (kq ≤ k) ∧ Aside0 (Below w.heap.size w wc))
  case first =>
    have H := HC2.out
    clear HC2
    by_cases c3 : (l0.length : Int) < 1
    · rw [if_pos c3] at H
      have c3b0 : decide ((l0.length : Int) < 1) = true := decide_eq_true c3
      have c3b1 : decide (l0.length < 1) = true := decide_eq_true (by omega)
      clear c3
      (first | rw [c3b0] | (simp only [i64_w, i32_w]; rw [c3b0]) | skip)
      have H' := Aside0.mk H
      clear H
      go_wp2
      go_meet
      case rel => exact ⟨_, (true), (by first | rfl | (simp; done) | (simp [*]; done)), H', ⟨by first | omega | exact Nat.le_refl _⟩, ⟨by repeat (first | (with_reducible first | exact HB.out | apply below_alloc | apply pw_below_drewN | apply below_drew1) | exact HB.out)⟩⟩
    · rw [if_neg c3] at H
      have c3b0 : decide ((l0.length : Int) < 1) = false := decide_eq_false c3
      have c3b1 : decide (l0.length < 1) = false := decide_eq_false (by omega)
      clear c3
      (first | rw [c3b0] | (simp only [i64_w, i32_w]; rw [c3b0]) | skip)
      by_cases c4 : (l0.length : Int) > 200
      · rw [if_pos c4] at H
        have c4b0 : decide (200 < (l0.length : Int)) = true := decide_eq_true c4
        have c4b1 : decide (200 < l0.length) = true := decide_eq_true (by omega)
        clear c4
        have H' := Aside0.mk H
        clear H
        go_wp2
        go_meet
        case rel => exact ⟨_, (true), (by first | rfl | (simp; done) | (simp [*]; done)), H', ⟨by first | omega | exact Nat.le_refl _⟩, ⟨by repeat (first | (with_reducible first | exact HB.out | apply below_alloc | apply pw_below_drewN | apply below_drew1) | exact HB.out)⟩⟩
      · rw [if_neg c4] at H
        have c4b0 : decide (200 < (l0.length : Int)) = false := decide_eq_false c4
        have c4b1 : decide (200 < l0.length) = false := decide_eq_false (by omega)
        clear c4
        by_cases c5 : 0 < (l0.length : Int)
        · rw [if_pos c5] at H
          have c5b0 : decide (0 < (l0.length : Int)) = true := decide_eq_true c5
          have c5b1 : decide (0 < l0.length) = true := decide_eq_true (by omega)
          clear c5
          have H' := Aside0.mk H
          clear H
          have p310 : 0 ≤ (0 : Int) := (by omega)
          have q310 : 0 < (l0.length : Int) := of_decide_eq_true (by first | (with_reducible assumption) | assumption)
          obtain ⟨ad310, e310, hx310_0, hx310_1⟩ := at_TRow HR0.out 0 p310 q310
          cases e310
          have qi310 : (0 < l0.length) = True := eq_true (by omega)
          (try rw [show ((0 : Int)).toNat = 0 from rfl] at hx310_0)
          (try rw [show 0 * 2 = 0 from rfl] at hx310_0)
          (try rw [Addr.add_zero'] at hx310_0)
          (try rw [show ((0 : Int)).toNat = 0 from rfl] at hx310_1)
          (try rw [show 0 * 2 = 0 from rfl] at hx310_1)
          (try rw [Addr.add_zero'] at hx310_1)
          replace hx310_0 := (HB.out.cell (World.block_lt_of_cell? w _ hx310_0)).trans hx310_0
          replace hx310_1 := (HB.out.cell (World.block_lt_of_cell? w _ hx310_1)).trans hx310_1
          replace p310 := eq_true p310
          replace q310 := eq_true q310
          go_wp2
          go_meet
          case rel => exact ⟨_, ((((rd_TRow l0 0).f0) != 0)), (by first | rfl | (simp; done) | (simp [*]; done)), H', ⟨by first | omega | exact Nat.le_refl _⟩, ⟨by repeat (first | (with_reducible first | exact HB.out | apply below_alloc | apply pw_below_drewN | apply below_drew1) | exact HB.out)⟩⟩
        · rw [if_neg c5] at H
          exact absurd H (by simp)
  case rest =>
    clear HC2
    try clear p2
    try clear c3
    try clear c3b0
    try clear c3b1
    try clear p3
    try clear q3
    try clear hx3
    try clear qi3
    try clear c4
    try clear c4b0
    try clear c4b1
    try clear c5
    try clear c5b0
    try clear c5b1
    try clear hx310_0
    try clear hx310_1
    try clear p310
    try clear q310
    obtain ⟨kq, x19_1, rfl, HA, HJ1, HB⟩ := hcut
    cases kq with
    | zero => exact absurd HA.out (by simp [impl_LayoutValid.j0])
    | succ kj1 =>
      have H := HA.out
      clear HA
      simp only [impl_LayoutValid.j0] at H
      by_cases c6 : x19_1 = true
      · subst c6
        have H1 : (some false) = some r := by rw [if_pos rfl] at H; exact H
        clear H
        have H := H1
        clear H1
        obtain rfl := Option.some.inj H
        go_wp2
        go_ret
        exact ⟨by first | rfl | (simp [errW_none, errW_some] <;> rfl) | (simp [*, errW_none, errW_some] <;> rfl), by repeat (first | (with_reducible first | exact HB.out | apply below_alloc | apply pw_below_drewN | apply below_drew1) | exact HB.out)⟩
      · replace c6 := Bool.eq_false_iff.mpr c6
        subst c6
        have H1 : (impl_LayoutValid.l0 kj1 l0 (l0.length : Int) 0) = some r := by rw [if_neg (show ¬ (false = true) by decide)] at H; exact H
        clear H
        have H := H1
        clear H1
        have H' := Aside0.mk H
        clear H
        go_wp2
        go_loopg [22] kj1 (fun kq v22 w' => ∃ (x22_2 : Int), v22 = .int .i64 x22_2 ∧ Aside0 (impl_LayoutValid.l0 kq l0 (l0.length : Int) x22_2 = some r) ∧ Aside0 (kq ≤ kj1) ∧ Aside0 (Below w.heap.size w w'))
        case atStart => exact ⟨(0), (by first | rfl | (simp; done) | (simp [*]; done)), H', ⟨Nat.le_refl _⟩, ⟨by repeat (first | (with_reducible first | exact HB.out | apply below_alloc | apply pw_below_drewN | apply below_drew1) | exact HB.out)⟩⟩
        case round =>
          clear H'
          try clear p2
          try clear c3
          try clear c3b0
          try clear c3b1
          try clear p3
          try clear q3
          try clear hx3
          try clear qi3
          try clear c4
          try clear c4b0
          try clear c4b1
          try clear c5
          try clear c5b0
          try clear c5b1
          try clear c6
          try clear hx310_0
          try clear hx310_1
          try clear p2
          try clear p3
          try clear p310
          try clear q3
          try clear q310
          (try clear HB)
          obtain ⟨x22_2, rfl, HA, HK2, HB⟩ := hrel
          cases gk with
          | zero => exact absurd HA.out (by simp [impl_LayoutValid.l0])
          | succ k2 =>
            have H := HA.out
            clear HA
            simp only [impl_LayoutValid.l0] at H
            by_cases c7 : x22_2 < (l0.length : Int)
            · rw [if_pos c7] at H
              have c7b0 : decide (x22_2 < (l0.length : Int)) = true := decide_eq_true c7
              clear c7
              by_cases c8 : 0 ≤ x22_2
              · rw [if_pos c8] at H
                have c8b0 : decide (0 ≤ x22_2) = true := decide_eq_true c8
                clear c8
                by_cases c9 : x22_2 < (l0.length : Int)
                · rw [if_pos c9] at H
                  have c9b0 : decide (x22_2 < (l0.length : Int)) = true := decide_eq_true c9
                  clear c9
                  have HC10 := Aside0.mk H
                  clear H
                  have p311 : 0 ≤ (x22_2 : Int) := of_decide_eq_true (by first | (with_reducible assumption) | assumption)
                  have q311 : x22_2 < (l0.length : Int) := of_decide_eq_true (by first | (with_reducible assumption) | assumption)
                  obtain ⟨ad311, e311, hx311_0, hx311_1⟩ := at_TRow HR0.out x22_2 p311 q311
                  cases e311
                  replace hx311_0 := (HB.out.cell (World.block_lt_of_cell? w _ hx311_0)).trans hx311_0
                  replace hx311_1 := (HB.out.cell (World.block_lt_of_cell? w _ hx311_1)).trans hx311_1
                  replace p311 := eq_true p311
                  replace q311 := eq_true q311
                  go_upto_region 6 with (first | ((with_reducible refine gate_dst (N := 4) rfl ?_); (try (refine gate_guard (by rfl) ?_; dsimp only)); refine box_event ?hg (N := 4) ?hd (cs := #[.int .i64 0, .string (⟨#[]⟩ : ByteArray)]) (t := 58) ?hr ?_; (case hd => rfl); (case hg => rfl); (case hr => first | (go_simp; done) | (go_simp; rfl)); intro gb312 hg w11 hbox hb; have n0_ := Aside0.mk (below_step (by repeat (first | (with_reducible first | exact HB.out | apply below_alloc | apply pw_below_drewN | apply below_drew1) | exact HB.out)) hb); have n1_ := Aside0.mk (hbox); have n2_ := Aside0.mk ((by rw [hg]; exact (below_size (by repeat (first | (with_reducible first | exact HB.out | apply below_alloc | apply pw_below_drewN | apply below_drew1) | exact HB.out))) : w.heap.size ≤ gb312)); have n3_ := Aside0.mk ((by rw [hg]; exact (below_size (by repeat (first | (with_reducible first | exact HB.out | apply below_alloc | apply pw_below_drewN | apply below_drew1) | exact HB.out))) : w.heap.size ≤ gb312)); clear HB; have HB := n0_; have BK312 := n1_; have GW312 := n2_; have GE312 := n3_; clear n0_ n1_ n2_ n3_; clear hb hbox hg; have hcz12_0 : w11.cell? ⟨gb312, 0, none⟩ = some (.int .i64 0) := (blk_cell BK312.out 0).trans rfl; have hcz12_1 : w11.cell? ⟨gb312, 1, none⟩ = some (.string (⟨#[]⟩ : ByteArray)) := (blk_cell BK312.out 1).trans rfl; have hfz12_0 := blk_frozen BK312.out 0; have hfz12_1 := blk_frozen BK312.out 1))
                  (try simp only [Act.put, List.setIfInBounds_toArray, List.set_cons_zero, List.set_cons_succ])
                  go_cut [45] (fun v45 wc => ∃ (kq : Nat) (x45_9 : Bool), v45 = .bool x45_9 ∧ Aside0 (impl_LayoutValid.j2 kq l0 (l0.length : Int) x22_2 x45_9 = some r) ∧ Aside0 (kq ≤ k2) ∧ Aside0 (wc.heap[gb312]? = some (.cells #[.int .i64 ((rd_TRow l0 x22_2).f0), .string ((rd_TRow l0 x22_2).f1)] 58 (0, 0))) ∧ Aside0 (Below w.heap.size w wc))
                  case first =>
                    have H := HC10.out
                    clear HC10
                    by_cases c13 : ((rd_TRow l0 x22_2).f0) < 0
                    · rw [if_pos c13] at H
                      have c13b0 : decide (((rd_TRow l0 x22_2).f0) < 0) = true := decide_eq_true c13
                      clear c13
                      (first | rw [c13b0] | (simp only [i64_w, i32_w]; rw [c13b0]) | skip)
                      have H' := Aside0.mk H
                      clear H
                      have hcz14_0 : w11.cell? ⟨gb312, 0, none⟩ = some (.int .i64 0) := (blk_cell BK312.out 0).trans rfl
                      have hcz14_1 : w11.cell? ⟨gb312, 1, none⟩ = some (.string (⟨#[]⟩ : ByteArray)) := (blk_cell BK312.out 1).trans rfl
                      have hfz14_0 := blk_frozen BK312.out 0
                      have hfz14_1 := blk_frozen BK312.out 1
                      go_wp2
                      go_meet
                      case rel => exact ⟨_, (true), (by first | rfl | (simp; done) | (simp [*]; done)), H', ⟨by have := HJ1.out; have := HK2.out; first | omega | exact Nat.le_refl _⟩, ⟨by (with_reducible repeat (first | refine blk_drewN ?_ _ | refine blk_drew ?_ | refine blk_alloc ?_ _)); refine blk_put (cs := #[.int .i64 ((rd_TRow l0 x22_2).f0), .string (⟨#[]⟩ : ByteArray)]) ?_ 1 _ rfl; (with_reducible repeat (first | refine blk_drewN ?_ _ | refine blk_drew ?_ | refine blk_alloc ?_ _)); refine blk_put (cs := #[.int .i64 0, .string (⟨#[]⟩ : ByteArray)]) ?_ 0 _ rfl; (with_reducible repeat (first | refine blk_drewN ?_ _ | refine blk_drew ?_ | refine blk_alloc ?_ _)); exact BK312.out⟩, ⟨by repeat (first | (with_reducible first | exact HB.out | apply below_alloc | apply pw_below_drewN | apply below_drew1 | refine below_set ?_ GE312.out) | exact HB.out)⟩⟩
                    · rw [if_neg c13] at H
                      have c13b0 : decide (((rd_TRow l0 x22_2).f0) < 0) = false := decide_eq_false c13
                      clear c13
                      (first | rw [c13b0] | (simp only [i64_w, i32_w]; rw [c13b0]) | skip)
                      by_cases c15 : ((rd_TRow l0 x22_2).f0) > 400
                      · rw [if_pos c15] at H
                        have c15b0 : decide (400 < ((rd_TRow l0 x22_2).f0)) = true := decide_eq_true c15
                        clear c15
                        have H' := Aside0.mk H
                        clear H
                        have hcz16_0 : w11.cell? ⟨gb312, 0, none⟩ = some (.int .i64 0) := (blk_cell BK312.out 0).trans rfl
                        have hcz16_1 : w11.cell? ⟨gb312, 1, none⟩ = some (.string (⟨#[]⟩ : ByteArray)) := (blk_cell BK312.out 1).trans rfl
                        have hfz16_0 := blk_frozen BK312.out 0
                        have hfz16_1 := blk_frozen BK312.out 1
                        go_wp2
                        go_meet
                        case rel => exact ⟨_, (true), (by first | rfl | (simp; done) | (simp [*]; done)), H', ⟨by have := HJ1.out; have := HK2.out; first | omega | exact Nat.le_refl _⟩, ⟨by (with_reducible repeat (first | refine blk_drewN ?_ _ | refine blk_drew ?_ | refine blk_alloc ?_ _)); refine blk_put (cs := #[.int .i64 ((rd_TRow l0 x22_2).f0), .string (⟨#[]⟩ : ByteArray)]) ?_ 1 _ rfl; (with_reducible repeat (first | refine blk_drewN ?_ _ | refine blk_drew ?_ | refine blk_alloc ?_ _)); refine blk_put (cs := #[.int .i64 0, .string (⟨#[]⟩ : ByteArray)]) ?_ 0 _ rfl; (with_reducible repeat (first | refine blk_drewN ?_ _ | refine blk_drew ?_ | refine blk_alloc ?_ _)); exact BK312.out⟩, ⟨by repeat (first | (with_reducible first | exact HB.out | apply below_alloc | apply pw_below_drewN | apply below_drew1 | refine below_set ?_ GE312.out) | exact HB.out)⟩⟩
                      · rw [if_neg c15] at H
                        have c15b0 : decide (400 < ((rd_TRow l0 x22_2).f0)) = false := decide_eq_false c15
                        clear c15
                        replace H := Option.bind_eq_some_iff.mp H
                        obtain ⟨t313, A170, H⟩ := H
                        replace H : (if t313 = true then (impl_LayoutValid.j2 k2 l0 (l0.length : Int) x22_2 (decide ((((rd_TRow l0 x22_2).f1).size : Int) ≥ 2000))) else (impl_LayoutValid.j2 k2 l0 (l0.length : Int) x22_2 true)) = some r := H
                        have A17 := Aside0.mk A170
                        clear A170
                        by_cases c18 : t313 = true
                        · subst c18
                          have H1 : (impl_LayoutValid.j2 k2 l0 (l0.length : Int) x22_2 (decide ((((rd_TRow l0 x22_2).f1).size : Int) ≥ 2000))) = some r := by rw [if_pos rfl] at H; exact H
                          clear H
                          have H := H1
                          clear H1
                          have H' := Aside0.mk H
                          clear H
                          have hcz19_0 : w11.cell? ⟨gb312, 0, none⟩ = some (.int .i64 0) := (blk_cell BK312.out 0).trans rfl
                          have hcz19_1 : w11.cell? ⟨gb312, 1, none⟩ = some (.string (⟨#[]⟩ : ByteArray)) := (blk_cell BK312.out 1).trans rfl
                          have hfz19_0 := blk_frozen BK312.out 0
                          have hfz19_1 := blk_frozen BK312.out 1
                          go_wp2_with (first | (go_at_call 55; (with_reducible refine (impl_rowBytes.calls k2 ((rd_TRow l0 x22_2).f1) true _ A17.out).mono ?_); rintro e w' ⟨rfl, ⟨nd, rfl⟩⟩))
                          go_meet
                          case rel => exact ⟨_, (decide ((((rd_TRow l0 x22_2).f1).size : Int) ≥ 2000)), (by first | rfl | (simp; done) | (simp [*]; done)), H', ⟨by have := HJ1.out; have := HK2.out; first | omega | exact Nat.le_refl _⟩, ⟨by (with_reducible repeat (first | refine blk_drewN ?_ _ | refine blk_drew ?_ | refine blk_alloc ?_ _)); refine blk_put (cs := #[.int .i64 ((rd_TRow l0 x22_2).f0), .string (⟨#[]⟩ : ByteArray)]) ?_ 1 _ rfl; (with_reducible repeat (first | refine blk_drewN ?_ _ | refine blk_drew ?_ | refine blk_alloc ?_ _)); refine blk_put (cs := #[.int .i64 0, .string (⟨#[]⟩ : ByteArray)]) ?_ 0 _ rfl; (with_reducible repeat (first | refine blk_drewN ?_ _ | refine blk_drew ?_ | refine blk_alloc ?_ _)); exact BK312.out⟩, ⟨by repeat (first | (with_reducible first | exact HB.out | apply below_alloc | apply pw_below_drewN | apply below_drew1 | refine below_set ?_ GE312.out) | exact HB.out)⟩⟩
                        · replace c18 := Bool.eq_false_iff.mpr c18
                          subst c18
                          have H1 : (impl_LayoutValid.j2 k2 l0 (l0.length : Int) x22_2 true) = some r := by rw [if_neg (show ¬ (false = true) by decide)] at H; exact H
                          clear H
                          have H := H1
                          clear H1
                          have H' := Aside0.mk H
                          clear H
                          have hcz20_0 : w11.cell? ⟨gb312, 0, none⟩ = some (.int .i64 0) := (blk_cell BK312.out 0).trans rfl
                          have hcz20_1 : w11.cell? ⟨gb312, 1, none⟩ = some (.string (⟨#[]⟩ : ByteArray)) := (blk_cell BK312.out 1).trans rfl
                          have hfz20_0 := blk_frozen BK312.out 0
                          have hfz20_1 := blk_frozen BK312.out 1
                          go_wp2_with (first | (go_at_call 55; (with_reducible refine (impl_rowBytes.calls k2 ((rd_TRow l0 x22_2).f1) false _ A17.out).mono ?_); rintro e w' ⟨rfl, ⟨nd, rfl⟩⟩))
                          go_meet
                          case rel => exact ⟨_, (true), (by first | rfl | (simp; done) | (simp [*]; done)), H', ⟨by have := HJ1.out; have := HK2.out; first | omega | exact Nat.le_refl _⟩, ⟨by (with_reducible repeat (first | refine blk_drewN ?_ _ | refine blk_drew ?_ | refine blk_alloc ?_ _)); refine blk_put (cs := #[.int .i64 ((rd_TRow l0 x22_2).f0), .string (⟨#[]⟩ : ByteArray)]) ?_ 1 _ rfl; (with_reducible repeat (first | refine blk_drewN ?_ _ | refine blk_drew ?_ | refine blk_alloc ?_ _)); refine blk_put (cs := #[.int .i64 0, .string (⟨#[]⟩ : ByteArray)]) ?_ 0 _ rfl; (with_reducible repeat (first | refine blk_drewN ?_ _ | refine blk_drew ?_ | refine blk_alloc ?_ _)); exact BK312.out⟩, ⟨by repeat (first | (with_reducible first | exact HB.out | apply below_alloc | apply pw_below_drewN | apply below_drew1 | refine below_set ?_ GE312.out) | exact HB.out)⟩⟩
                  case rest =>
                    clear HC10
                    try clear c1
                    try clear p2
                    try clear c3
                    try clear c3b0
                    try clear c3b1
                    try clear p3
                    try clear q3
                    try clear hx3
                    try clear qi3
                    try clear c4
                    try clear c4b0
                    try clear c4b1
                    try clear c5
                    try clear c5b0
                    try clear c5b1
                    try clear c6
                    try clear c7
                    try clear c7b0
                    try clear c8
                    try clear c8b0
                    try clear c9
                    try clear c9b0
                    try clear c13
                    try clear c13b0
                    try clear c15
                    try clear c15b0
                    try clear c18
                    try clear hcz12_0
                    try clear hcz12_1
                    try clear hcz14_0
                    try clear hcz14_1
                    try clear hcz16_0
                    try clear hcz16_1
                    try clear hcz19_0
                    try clear hcz19_1
                    try clear hcz20_0
                    try clear hcz20_1
                    try clear hfz12_0
                    try clear hfz12_1
                    try clear hfz14_0
                    try clear hfz14_1
                    try clear hfz16_0
                    try clear hfz16_1
                    try clear hfz19_0
                    try clear hfz19_1
                    try clear hfz20_0
                    try clear hfz20_1
                    try clear hx310_0
                    try clear hx310_1
                    try clear hx311_0
                    try clear hx311_1
                    try clear p2
                    try clear p3
                    try clear p310
                    try clear p311
                    try clear q3
                    try clear q310
                    try clear q311
                    obtain ⟨kq, x45_9, rfl, HA, HJ9, BK312, HB⟩ := hcut
                    cases kq with
                    | zero => exact absurd HA.out (by simp [impl_LayoutValid.j2])
                    | succ kj9 =>
                      have H := HA.out
                      clear HA
                      simp only [impl_LayoutValid.j2] at H
                      by_cases c21 : x45_9 = true
                      · subst c21
                        have H1 : (some false) = some r := by rw [if_pos rfl] at H; exact H
                        clear H
                        have H := H1
                        clear H1
                        obtain rfl := Option.some.inj H
                        go_wp2
                        go_ret
                        exact ⟨by first | rfl | (simp [errW_none, errW_some] <;> rfl) | (simp [*, errW_none, errW_some] <;> rfl), by repeat (first | (with_reducible first | exact HB.out | apply below_alloc | apply pw_below_drewN | apply below_drew1 | refine below_set ?_ GE312.out) | exact HB.out)⟩
                      · replace c21 := Bool.eq_false_iff.mpr c21
                        subst c21
                        have H1 : (impl_LayoutValid.l0 kj9 l0 (l0.length : Int) (wrap64 (x22_2 + 1))) = some r := by rw [if_neg (show ¬ (false = true) by decide)] at H; exact H
                        clear H
                        have H := H1
                        clear H1
                        have H' := Aside0.mk H
                        clear H
                        go_wp2
                        go_roundg kj9
                        case measure => have := HJ1.out; have := HK2.out; have := HJ9.out; omega
                        case rel => exact ⟨(wrap64 (x22_2 + 1)), (by first | rfl | (simp; done) | (simp [*]; done)), H', ⟨by have := HJ1.out; have := HK2.out; have := HJ9.out; omega⟩, ⟨by repeat (first | (with_reducible first | exact HB.out | apply below_alloc | apply pw_below_drewN | apply below_drew1 | refine below_set ?_ GE312.out) | exact HB.out)⟩⟩
                · rw [if_neg c9] at H
                  exact absurd H (by simp)
              · rw [if_neg c8] at H
                exact absurd H (by simp)
            · rw [if_neg c7] at H
              have c7b0 : decide (x22_2 < (l0.length : Int)) = false := decide_eq_false c7
              clear c7
              obtain rfl := Option.some.inj H
              go_wp2
              go_ret
              exact ⟨by first | rfl | (simp [errW_none, errW_some] <;> rfl) | (simp [*, errW_none, errW_some] <;> rfl), by repeat (first | (with_reducible first | exact HB.out | apply below_alloc | apply pw_below_drewN | apply below_drew1) | exact HB.out)⟩

end Go.Proofs.Ytbijachmecgpgaa.P
