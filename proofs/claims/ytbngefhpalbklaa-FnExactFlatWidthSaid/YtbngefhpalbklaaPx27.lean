/- CONTRACTS: each theorem here says that a Go function of the program, called over the translation under the theorem's own hypotheses, returns what the Lean function beside it computes. Written by the session's program xprint.py. -/
import Derived.Test.YtbngefhpalbklaaPx0
namespace Go.Proofs.Ytbngefhpalbklaa.P
open Go.RowKit Go.Proofs.YtbngefhpalbklaaW.PrintWords Go.Proofs.YtbngefhpalbklaaW.PrintLast Go.Proofs.YtbngefhpalbklaaW.PrintMore
attribute [local go_sem] max2_int min2_int max_two min_two max_three min_three max_four min_four   -- for this text's walks alone
set_option linter.unusedVariables false
set_option linter.unusedSimpArgs false

/-! ### spec_l2Flat: function 74 -/
mutual
def spec_l2Flat.l0 : Nat → ByteArray → Int → Int → Int → ByteArray → List (SDoc) → Option (ByteArray)
  | 0, _, _, _, _, _, _ => none
  | k + 1, x3, x4, x248000, x248001, x248002, x248003 => if x4 < (x248003.length : Int) then (if 0 ≤ x4 then ((spec_l2Flat.f k ((rd_TDoc x248003 x4).f0) ((rd_TDoc x248003 x4).f1) ((rd_TDoc x248003 x4).f2) ((rd_TDoc x248003 x4).f3)).bind fun t249 => (if x3.size + t249.size ≤ 9223372036854775807 then (spec_l2Flat.l0 k (x3 ++ t249) (wrap64 (x4 + 1)) x248000 x248001 x248002 x248003) else (none))) else (none)) else (some x3)
def spec_l2Flat.f : Nat → Int → Int → ByteArray → List (SDoc) → Option (ByteArray)
  | 0, _, _, _, _ => none
  | k + 1, a0_0, a0_1, a0_2, l0_3 => if a0_0 = 3 then (some (⟨#[32]⟩ : ByteArray)) else (spec_l2Flat.l0 k a0_2 0 a0_0 a0_1 a0_2 l0_3)
end
theorem spec_l2Flat.mono_l : ∀ k, (∀ y0 y1 y2 y3, LeO (spec_l2Flat.f k y0 y1 y2 y3) (spec_l2Flat.f (k + 1) y0 y1 y2 y3)) ∧ (∀ y0 y1 y2 y3 y4 y5, LeO (spec_l2Flat.l0 k y0 y1 y2 y3 y4 y5) (spec_l2Flat.l0 (k + 1) y0 y1 y2 y3 y4 y5))
  | 0 => ⟨fun _ _ _ _ r h => by simp [spec_l2Flat.f] at h, fun _ _ _ _ _ _ r h => by simp [spec_l2Flat.l0] at h⟩
  | k + 1 => by
    obtain ⟨ih0, ih1⟩ := spec_l2Flat.mono_l k
    refine ⟨?_, ?_⟩
    · intro y0 y1 y2 y3
      unfold spec_l2Flat.f
      repeat' first
      | (with_reducible exact ih0 _ _ _ _)
      | (with_reducible exact ih1 _ _ _ _ _ _)
      | (with_reducible exact LeO.refl _)
      | (with_reducible exact LeO.none _)
      | (with_reducible refine LeO.ite ?_ ?_)
      | (with_reducible refine LeO.bind ?_ (fun _ => ?_))
      | exact ih0 _ _ _ _
      | exact ih1 _ _ _ _ _ _
      | exact LeO.none _
      | refine LeO.ite ?_ ?_
      | refine LeO.bind ?_ (fun _ => ?_)
    · intro y0 y1 y2 y3 y4 y5
      unfold spec_l2Flat.l0
      repeat' first
      | (with_reducible exact ih0 _ _ _ _)
      | (with_reducible exact ih1 _ _ _ _ _ _)
      | (with_reducible exact LeO.refl _)
      | (with_reducible exact LeO.none _)
      | (with_reducible refine LeO.ite ?_ ?_)
      | (with_reducible refine LeO.bind ?_ (fun _ => ?_))
      | exact ih0 _ _ _ _
      | exact ih1 _ _ _ _ _ _
      | exact LeO.none _
      | refine LeO.ite ?_ ?_
      | refine LeO.bind ?_ (fun _ => ?_)
theorem spec_l2Flat.mono : ∀ a0 a1 a2 a3 k, LeO (spec_l2Flat.f k a0 a1 a2 a3) (spec_l2Flat.f (k + 1) a0 a1 a2 a3) := by
  intro a0 a1 a2 a3 k
  obtain ⟨ih0, ih1⟩ := spec_l2Flat.mono_l k
  exact ih0 a0 a1 a2 a3
set_option maxHeartbeats 8000000 in
set_option maxRecDepth 100000 in
theorem spec_l2Flat.calls (k : Nat) : ∀ (a0_0 : Int) (a0_1 : Int) (a0_2 : ByteArray) (A0_3 : Option Addr) (c0_3 : Nat) (l0_3 : List (SDoc)) (r : ByteArray) (w : World) (hr0_3 : Kd.C k29 w A0_3 l0_3.length l0_3) (hc0_3 : l0_3.length ≤ c0_3) (h : spec_l2Flat.f k a0_0 a0_1 a0_2 l0_3 = some r),
    Calls Try.prog 74 #[.agg #[.int .i64 a0_0, .int .i64 a0_1, .string a0_2, .slice A0_3 l0_3.length c0_3]] w fun e w' => e = .returned (.string r) ∧ Below w.heap.size w w' := by
  induction k using Nat.strongRecOn with
  | _ k ih =>
  intro a0_0 a0_1 a0_2 A0_3 c0_3 l0_3 r w hr0_3 hc0_3 h
  cases k with
  | zero => exact absurd h (by simp [spec_l2Flat.f])
  | succ k =>
  simp only [spec_l2Flat.f] at h
  have hu29 := Try.underlying29
  have HR0_3 := Aside0.mk hr0_3
  have HC0_3 := Aside0.mk hc0_3
  clear hr0_3 hc0_3
  have HB := Aside0.mk (Below.refl w.heap.size w)
  have H : (if a0_0 = 3 then (some (⟨#[32]⟩ : ByteArray)) else (spec_l2Flat.l0 k a0_2 0 a0_0 a0_1 a0_2 l0_3)) = some r := h
  clear h
  by_cases c2 : a0_0 = 3
  · rw [if_pos c2] at H
    have c2b0 : (a0_0 == 3) = true := beq_iff_eq.mpr c2
    have c2b1 : (a0_0 != 3) = false := bne_eq_false_iff_eq.mpr c2
    clear c2
    obtain rfl := Option.some.inj H
    go_enter Try.func74, Try.ntmps74
    go_wp2_with (first | ((with_reducible refine gate_dst (N := 1) rfl ?_); refine box_event ?hg (N := 1) ?hd (cs := #[.int .i64 a0_0, .int .i64 a0_1, .string a0_2, .slice A0_3 l0_3.length c0_3]) (t := 29) ?hr ?_; (case hd => rfl); (case hg => rfl); (case hr => first | (go_simp; done) | (go_simp; rfl)); intro gb247 hg w3 hbox hb; have n0_ := Aside0.mk (below_step (by repeat (first | (with_reducible first | exact HB.out | apply below_alloc | apply pw_below_drewN | apply below_drew1) | exact HB.out)) hb); have n1_ := Aside0.mk (hbox); have n2_ := Aside0.mk ((by rw [hg]; exact (below_size (by repeat (first | (with_reducible first | exact HB.out | apply below_alloc | apply pw_below_drewN | apply below_drew1) | exact HB.out))) : w.heap.size ≤ gb247)); have n3_ := Aside0.mk ((by rw [hg]; exact (below_size (by repeat (first | (with_reducible first | exact HB.out | apply below_alloc | apply pw_below_drewN | apply below_drew1) | exact HB.out))) : w.heap.size ≤ gb247)); clear HB; have HB := n0_; have BK247 := n1_; have GW247 := n2_; have GE247 := n3_; clear n0_ n1_ n2_ n3_; clear hb hbox hg; have hcz4_0 : w3.cell? ⟨gb247, 0, none⟩ = some (.int .i64 a0_0) := (blk_cell BK247.out 0).trans rfl; have hcz4_1 : w3.cell? ⟨gb247, 1, none⟩ = some (.int .i64 a0_1) := (blk_cell BK247.out 1).trans rfl; have hcz4_2 : w3.cell? ⟨gb247, 2, none⟩ = some (.string a0_2) := (blk_cell BK247.out 2).trans rfl; have hcz4_3 : w3.cell? ⟨gb247, 3, none⟩ = some (.slice A0_3 l0_3.length c0_3) := (blk_cell BK247.out 3).trans rfl; have hfz4_0 := blk_frozen BK247.out 0; have hfz4_1 := blk_frozen BK247.out 1; have hfz4_2 := blk_frozen BK247.out 2; have hfz4_3 := blk_frozen BK247.out 3))
    go_ret
    exact ⟨by first | rfl | (simp [errW_none, errW_some] <;> rfl) | (simp [*, errW_none, errW_some] <;> rfl), by repeat (first | (with_reducible first | exact HB.out | apply below_alloc | apply pw_below_drewN | apply below_drew1 | refine below_set ?_ GE247.out) | exact HB.out)⟩
  · rw [if_neg c2] at H
    have c2b0 : (a0_0 == 3) = false := beq_eq_false_iff_ne.mpr c2
    have c2b1 : (a0_0 != 3) = true := bne_iff_ne.mpr c2
    have H' := Aside0.mk H
    clear H
    go_enter Try.func74, Try.ntmps74
    go_wp2_with (first | ((with_reducible refine gate_dst (N := 1) rfl ?_); refine box_event ?hg (N := 1) ?hd (cs := #[.int .i64 a0_0, .int .i64 a0_1, .string a0_2, .slice A0_3 l0_3.length c0_3]) (t := 29) ?hr ?_; (case hd => rfl); (case hg => rfl); (case hr => first | (go_simp; done) | (go_simp; rfl)); intro gb247 hg w5 hbox hb; have n0_ := Aside0.mk (below_step (by repeat (first | (with_reducible first | exact HB.out | apply below_alloc | apply pw_below_drewN | apply below_drew1) | exact HB.out)) hb); have n1_ := Aside0.mk (hbox); have n2_ := Aside0.mk ((by rw [hg]; exact (below_size (by repeat (first | (with_reducible first | exact HB.out | apply below_alloc | apply pw_below_drewN | apply below_drew1) | exact HB.out))) : w.heap.size ≤ gb247)); have n3_ := Aside0.mk ((by rw [hg]; exact (below_size (by repeat (first | (with_reducible first | exact HB.out | apply below_alloc | apply pw_below_drewN | apply below_drew1) | exact HB.out))) : w.heap.size ≤ gb247)); clear HB; have HB := n0_; have BK247 := n1_; have GW247 := n2_; have GE247 := n3_; clear n0_ n1_ n2_ n3_; clear hb hbox hg; have hcz6_0 : w5.cell? ⟨gb247, 0, none⟩ = some (.int .i64 a0_0) := (blk_cell BK247.out 0).trans rfl; have hcz6_1 : w5.cell? ⟨gb247, 1, none⟩ = some (.int .i64 a0_1) := (blk_cell BK247.out 1).trans rfl; have hcz6_2 : w5.cell? ⟨gb247, 2, none⟩ = some (.string a0_2) := (blk_cell BK247.out 2).trans rfl; have hcz6_3 : w5.cell? ⟨gb247, 3, none⟩ = some (.slice A0_3 l0_3.length c0_3) := (blk_cell BK247.out 3).trans rfl; have hfz6_0 := blk_frozen BK247.out 0; have hfz6_1 := blk_frozen BK247.out 1; have hfz6_2 := blk_frozen BK247.out 2; have hfz6_3 := blk_frozen BK247.out 3))
    go_loopg [3, 4] k (fun kq v3 v4 w' => ∃ (x3_1 : ByteArray) (x4_1 : Int), v3 = .string x3_1 ∧ v4 = .int .i64 x4_1 ∧ Aside0 (spec_l2Flat.l0 kq x3_1 x4_1 a0_0 a0_1 a0_2 l0_3 = some r) ∧ Aside0 (kq ≤ k) ∧ Aside0 (w'.heap[gb247]? = some (.cells #[.int .i64 a0_0, .int .i64 a0_1, .string a0_2, (.slice A0_3 l0_3.length c0_3)] 29 (0, 0))) ∧ Aside0 (Below w.heap.size w w'))
    case atStart => exact ⟨(a0_2), (0), (by first | rfl | (simp; done) | (simp [*]; done)), (by first | rfl | (simp; done) | (simp [*]; done)), H', ⟨Nat.le_refl _⟩, ⟨by (with_reducible repeat (first | refine blk_drewN ?_ _ | refine blk_drew ?_ | refine blk_alloc ?_ _)); exact BK247.out⟩, ⟨by repeat (first | (with_reducible first | exact HB.out | apply below_alloc | apply pw_below_drewN | apply below_drew1 | refine below_set ?_ GE247.out) | exact HB.out)⟩⟩
    case round =>
      clear H'
      try clear c2
      try clear c2b0
      try clear c2b1
      try clear p2
      try clear hcz4_0
      try clear hcz4_1
      try clear hcz4_2
      try clear hcz4_3
      try clear hcz6_0
      try clear hcz6_1
      try clear hcz6_2
      try clear hcz6_3
      try clear hfz4_0
      try clear hfz4_1
      try clear hfz4_2
      try clear hfz4_3
      try clear hfz6_0
      try clear hfz6_1
      try clear hfz6_2
      try clear hfz6_3
      (try clear BK247); (try clear HB)
      obtain ⟨x3_1, x4_1, rfl, rfl, HA, HK1, BK247, HB⟩ := hrel
      cases gk with
      | zero => exact absurd HA.out (by simp [spec_l2Flat.l0])
      | succ k1 =>
        have H := HA.out
        clear HA
        simp only [spec_l2Flat.l0] at H
        by_cases c7 : x4_1 < (l0_3.length : Int)
        · rw [if_pos c7] at H
          have c7b0 : decide (x4_1 < (l0_3.length : Int)) = true := decide_eq_true c7
          clear c7
          by_cases c8 : 0 ≤ x4_1
          · rw [if_pos c8] at H
            have c8b0 : decide (0 ≤ x4_1) = true := decide_eq_true c8
            clear c8
            replace H := Option.bind_eq_some_iff.mp H
            obtain ⟨t249, A90, H⟩ := H
            replace H : (if x3_1.size + t249.size ≤ 9223372036854775807 then (spec_l2Flat.l0 k1 (x3_1 ++ t249) (wrap64 (x4_1 + 1)) a0_0 a0_1 a0_2 l0_3) else (none)) = some r := H
            have A9 := Aside0.mk A90
            clear A90
            by_cases c10 : x3_1.size + t249.size ≤ 9223372036854775807
            · rw [if_pos c10] at H
              have c10b0 := eq_true c10
              have c10b1 : decide (x3_1.size + t249.size ≤ 9223372036854775807) = true := decide_eq_true c10
              try have c10b2 : (9223372036854775807 < x3_1.size + t249.size) = False := eq_false (Nat.not_lt.2 c10)
              have H' := Aside0.mk H
              clear H
              have hcz11_0 : wr.cell? ⟨gb247, 0, none⟩ = some (.int .i64 a0_0) := (blk_cell BK247.out 0).trans rfl
              have hcz11_1 : wr.cell? ⟨gb247, 1, none⟩ = some (.int .i64 a0_1) := (blk_cell BK247.out 1).trans rfl
              have hcz11_2 : wr.cell? ⟨gb247, 2, none⟩ = some (.string a0_2) := (blk_cell BK247.out 2).trans rfl
              have hcz11_3 : wr.cell? ⟨gb247, 3, none⟩ = some (.slice A0_3 l0_3.length c0_3) := (blk_cell BK247.out 3).trans rfl
              have hfz11_0 := blk_frozen BK247.out 0
              have hfz11_1 := blk_frozen BK247.out 1
              have hfz11_2 := blk_frozen BK247.out 2
              have hfz11_3 := blk_frozen BK247.out 3
              have p248 : 0 ≤ (x4_1 : Int) := of_decide_eq_true (by first | (with_reducible assumption) | assumption)
              have q248 : x4_1 < (l0_3.length : Int) := of_decide_eq_true (by first | (with_reducible assumption) | assumption)
              obtain ⟨ad248, A248_3, c248_3, e248, hx248_0, hx248_1, hx248_2, hx248_3, hl248_3, hi248_3⟩ := at_TDoc HR0_3.out x4_1 p248 q248
              cases e248
              replace hx248_0 := (HB.out.cell (World.block_lt_of_cell? w _ hx248_0)).trans hx248_0
              replace hx248_1 := (HB.out.cell (World.block_lt_of_cell? w _ hx248_1)).trans hx248_1
              replace hx248_2 := (HB.out.cell (World.block_lt_of_cell? w _ hx248_2)).trans hx248_2
              replace hx248_3 := (HB.out.cell (World.block_lt_of_cell? w _ hx248_3)).trans hx248_3
              have HR248_3 := Aside0.mk hi248_3
              have HC248_3 := Aside0.mk hl248_3
              clear hi248_3 hl248_3
              replace p248 := eq_true p248
              replace q248 := eq_true q248
              go_wp2_with (first | ((with_reducible refine gate_callee (f := 74) rfl ?_); refine goesL_ (some 23) rfl rfl Try.func74 (by kernel_rfl) rfl #[.agg #[.int .i64 ((rd_TDoc l0_3 x4_1).f0), .int .i64 ((rd_TDoc l0_3 x4_1).f1), .string ((rd_TDoc l0_3 x4_1).f2), .slice A248_3 ((rd_TDoc l0_3 x4_1).f3).length c248_3]] rfl (by (try simp only [List.map_toArray, List.map_cons, List.map_nil]); first | done | rfl | (simp only [List.length_drop, List.length_take]; rfl)) ?_; (with_reducible refine (ih k1 (by have := HK1.out; omega) ((rd_TDoc l0_3 x4_1).f0) ((rd_TDoc l0_3 x4_1).f1) ((rd_TDoc l0_3 x4_1).f2) _ _ ((rd_TDoc l0_3 x4_1).f3) t249 _ ?side1 ?side2 A9.out).mono ?_); (case side1 => repeat (first | exact (Kd.C_below HR248_3.out HB.out) | (with_reducible refine Kd.C_alloc ?_ _) | (with_reducible refine Kd.C_drewN ?_ _) | (with_reducible refine Kd.C_drew ?_))); (case side2 => exact HC248_3.out); rintro e w12 ⟨rfl, hb⟩; refine ⟨_, rfl, ?_⟩; have n0_ := Aside0.mk (blk_below (g := gb247) (o := .cells #[.int .i64 a0_0, .int .i64 a0_1, .string a0_2, .slice (some ad248) l0_3.length c0_3] 29 (0, 0)) (by (with_reducible repeat (first | refine blk_drewN ?_ _ | refine blk_drew ?_ | refine blk_alloc ?_ _)); exact BK247.out) hb); have n1_ := Aside0.mk (below_step (by repeat (first | (with_reducible first | exact HB.out | apply below_alloc | apply pw_below_drewN | apply below_drew1 | refine below_set ?_ GE247.out) | exact HB.out)) hb); clear BK247; clear HB; have BK247 := n0_; have HB := n1_; clear n0_ n1_; (try clear hb); (try clear hb2); (try clear hk); (try clear hi)))
              go_roundg k1
              case measure => have := HK1.out; omega
              case rel => exact ⟨(x3_1 ++ t249), (wrap64 (x4_1 + 1)), (by first | rfl | (simp; done) | (simp [*]; done)), (by first | rfl | (simp; done) | (simp [*]; done)), H', ⟨by have := HK1.out; omega⟩, ⟨by (with_reducible repeat (first | refine blk_drewN ?_ _ | refine blk_drew ?_ | refine blk_alloc ?_ _)); exact BK247.out⟩, ⟨by repeat (first | (with_reducible first | exact HB.out | apply below_alloc | apply pw_below_drewN | apply below_drew1 | refine below_set ?_ GE247.out) | exact HB.out)⟩⟩
            · rw [if_neg c10] at H
              exact absurd H (by simp)
          · rw [if_neg c8] at H
            exact absurd H (by simp)
        · rw [if_neg c7] at H
          have c7b0 : decide (x4_1 < (l0_3.length : Int)) = false := decide_eq_false c7
          clear c7
          obtain rfl := Option.some.inj H
          have hcz13_0 : wr.cell? ⟨gb247, 0, none⟩ = some (.int .i64 a0_0) := (blk_cell BK247.out 0).trans rfl
          have hcz13_1 : wr.cell? ⟨gb247, 1, none⟩ = some (.int .i64 a0_1) := (blk_cell BK247.out 1).trans rfl
          have hcz13_2 : wr.cell? ⟨gb247, 2, none⟩ = some (.string a0_2) := (blk_cell BK247.out 2).trans rfl
          have hcz13_3 : wr.cell? ⟨gb247, 3, none⟩ = some (.slice A0_3 l0_3.length c0_3) := (blk_cell BK247.out 3).trans rfl
          have hfz13_0 := blk_frozen BK247.out 0
          have hfz13_1 := blk_frozen BK247.out 1
          have hfz13_2 := blk_frozen BK247.out 2
          have hfz13_3 := blk_frozen BK247.out 3
          go_wp2
          go_ret
          exact ⟨by first | rfl | (simp [errW_none, errW_some] <;> rfl) | (simp [*, errW_none, errW_some] <;> rfl), by repeat (first | (with_reducible first | exact HB.out | apply below_alloc | apply pw_below_drewN | apply below_drew1 | refine below_set ?_ GE247.out) | exact HB.out)⟩

end Go.Proofs.Ytbngefhpalbklaa.P
