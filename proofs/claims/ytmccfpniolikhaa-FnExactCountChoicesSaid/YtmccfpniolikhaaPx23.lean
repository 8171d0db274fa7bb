/- CONTRACTS: each theorem here says that a Go function of the program, called over the translation under the theorem's own hypotheses, returns what the Lean function beside it computes. Written by the session's program xprint.py. -/
import Derived.Test.YtmccfpniolikhaaPx0
import Derived.Test.YtmccfpniolikhaaPx22
namespace Go.Proofs.Ytmccfpniolikhaa.P
open Go.RowKit Go.Proofs.YtmccfpniolikhaaW.PrintWords Go.Proofs.YtmccfpniolikhaaW.PrintLast Go.Proofs.YtmccfpniolikhaaW.PrintMore
attribute [local go_sem] max2_int min2_int max_two min_two max_three min_three max_four min_four   -- for this text's walks alone
set_option linter.unusedVariables false
set_option linter.unusedSimpArgs false

/-! ### spec_l3Count: function 59 -/
mutual
def spec_l3Count.j0 : Nat → Int → Int → Bool → Option (Int)
  | 0, _, _, _ => none
  | k + 1, x3, x4, x38 => if x38 = true then (some 100001) else (some (wrap64 (x3 * x4)))
def spec_l3Count.j1 : Nat → Int → Option (Int)
  | 0, _ => none
  | k + 1, x5 => if x5 > 100000 then (some 100001) else (some x5)
def spec_l3Count.f : Nat → Int → Int → ByteArray → List (SDoc) → Option (Int)
  | 0, _, _, _, _ => none
  | k + 1, a0_0, a0_1, a0_2, l0_3 => if a0_0 = 6 then (if 0 < (l0_3.length : Int) then ((spec_l3Count.f k ((rd_TDoc l0_3 0).f0) ((rd_TDoc l0_3 0).f1) ((rd_TDoc l0_3 0).f2) ((rd_TDoc l0_3 0).f3)).bind fun t207 => (some t207)) else (none)) else (if a0_0 = 7 then (if 0 < (l0_3.length : Int) then ((spec_l3Count.f k ((rd_TDoc l0_3 0).f0) ((rd_TDoc l0_3 0).f1) ((rd_TDoc l0_3 0).f2) ((rd_TDoc l0_3 0).f3)).bind fun t209 => (if 1 < (l0_3.length : Int) then ((spec_l3Count.f k ((rd_TDoc l0_3 1).f0) ((rd_TDoc l0_3 1).f1) ((rd_TDoc l0_3 1).f2) ((rd_TDoc l0_3 1).f3)).bind fun t211 => (if t209 > 100000 then (spec_l3Count.j0 k t209 t211 true) else (if t211 > 100000 then (spec_l3Count.j0 k t209 t211 true) else (spec_l3Count.j0 k t209 t211 (decide ((wrap64 (t209 * t211)) > 100000)))))) else (none))) else (none)) else (if a0_0 = 8 then (if 0 < (l0_3.length : Int) then ((spec_l3Count.f k ((rd_TDoc l0_3 0).f0) ((rd_TDoc l0_3 0).f1) ((rd_TDoc l0_3 0).f2) ((rd_TDoc l0_3 0).f3)).bind fun t213 => ((spec_CountOps.f k a0_0 a0_1 a0_2 l0_3 5).bind fun t214 => (if t214 = 0 then (spec_l3Count.j1 k (wrap64 (t213 + 1))) else (spec_l3Count.j1 k t213)))) else (none)) else (some 1)))
end
theorem spec_l3Count.mono_l : ∀ k, (∀ y0 y1 y2 y3, LeO (spec_l3Count.f k y0 y1 y2 y3) (spec_l3Count.f (k + 1) y0 y1 y2 y3)) ∧ (∀ y0 y1 y2, LeO (spec_l3Count.j0 k y0 y1 y2) (spec_l3Count.j0 (k + 1) y0 y1 y2)) ∧ (∀ y0, LeO (spec_l3Count.j1 k y0) (spec_l3Count.j1 (k + 1) y0))
  | 0 => ⟨fun _ _ _ _ r h => by simp [spec_l3Count.f] at h, fun _ _ _ r h => by simp [spec_l3Count.j0] at h, fun _ r h => by simp [spec_l3Count.j1] at h⟩
  | k + 1 => by
    obtain ⟨ih0, ih1, ih2⟩ := spec_l3Count.mono_l k
    refine ⟨?_, ?_, ?_⟩
    · intro y0 y1 y2 y3
      unfold spec_l3Count.f
      repeat' first
      | (with_reducible exact ih0 _ _ _ _)
      | (with_reducible exact ih1 _ _ _)
      | (with_reducible exact ih2 _)
      | (with_reducible exact spec_CountOps.mono _ _ _ _ _ _)
      | (with_reducible exact LeO.refl _)
      | (with_reducible exact LeO.none _)
      | (with_reducible refine LeO.ite ?_ ?_)
      | (with_reducible refine LeO.bind ?_ (fun _ => ?_))
      | exact ih0 _ _ _ _
      | exact ih1 _ _ _
      | exact ih2 _
      | exact spec_CountOps.mono _ _ _ _ _ _
      | exact LeO.none _
      | refine LeO.ite ?_ ?_
      | refine LeO.bind ?_ (fun _ => ?_)
    · intro y0 y1 y2
      unfold spec_l3Count.j0
      repeat' first
      | (with_reducible exact ih0 _ _ _ _)
      | (with_reducible exact ih1 _ _ _)
      | (with_reducible exact ih2 _)
      | (with_reducible exact spec_CountOps.mono _ _ _ _ _ _)
      | (with_reducible exact LeO.refl _)
      | (with_reducible exact LeO.none _)
      | (with_reducible refine LeO.ite ?_ ?_)
      | (with_reducible refine LeO.bind ?_ (fun _ => ?_))
      | exact ih0 _ _ _ _
      | exact ih1 _ _ _
      | exact ih2 _
      | exact spec_CountOps.mono _ _ _ _ _ _
      | exact LeO.none _
      | refine LeO.ite ?_ ?_
      | refine LeO.bind ?_ (fun _ => ?_)
    · intro y0
      unfold spec_l3Count.j1
      repeat' first
      | (with_reducible exact ih0 _ _ _ _)
      | (with_reducible exact ih1 _ _ _)
      | (with_reducible exact ih2 _)
      | (with_reducible exact spec_CountOps.mono _ _ _ _ _ _)
      | (with_reducible exact LeO.refl _)
      | (with_reducible exact LeO.none _)
      | (with_reducible refine LeO.ite ?_ ?_)
      | (with_reducible refine LeO.bind ?_ (fun _ => ?_))
      | exact ih0 _ _ _ _
      | exact ih1 _ _ _
      | exact ih2 _
      | exact spec_CountOps.mono _ _ _ _ _ _
      | exact LeO.none _
      | refine LeO.ite ?_ ?_
      | refine LeO.bind ?_ (fun _ => ?_)
theorem spec_l3Count.mono : ∀ a0 a1 a2 a3 k, LeO (spec_l3Count.f k a0 a1 a2 a3) (spec_l3Count.f (k + 1) a0 a1 a2 a3) := by
  intro a0 a1 a2 a3 k
  obtain ⟨ih0, ih1, ih2⟩ := spec_l3Count.mono_l k
  exact ih0 a0 a1 a2 a3
set_option maxHeartbeats 8000000 in
set_option maxRecDepth 100000 in
theorem spec_l3Count.calls (k : Nat) : ∀ (a0_0 : Int) (a0_1 : Int) (a0_2 : ByteArray) (A0_3 : Option Addr) (c0_3 : Nat) (l0_3 : List (SDoc)) (r : Int) (w : World) (hr0_3 : Kd.C k29 w A0_3 l0_3.length l0_3) (hc0_3 : l0_3.length ≤ c0_3) (h : spec_l3Count.f k a0_0 a0_1 a0_2 l0_3 = some r),
    Calls Try.prog 59 #[.agg #[.int .i64 a0_0, .int .i64 a0_1, .string a0_2, .slice A0_3 l0_3.length c0_3]] w fun e w' => e = .returned (.int .i64 r) ∧ Below w.heap.size w w' := by
  induction k using Nat.strongRecOn with
  | _ k ih =>
  intro a0_0 a0_1 a0_2 A0_3 c0_3 l0_3 r w hr0_3 hc0_3 h
  cases k with
  | zero => exact absurd h (by simp [spec_l3Count.f])
  | succ k =>
  simp only [spec_l3Count.f] at h
  have hu29 := Try.underlying29
  have HR0_3 := Aside0.mk hr0_3
  have HC0_3 := Aside0.mk hc0_3
  clear hr0_3 hc0_3
  have HB := Aside0.mk (Below.refl w.heap.size w)
  have H : (if a0_0 = 6 then (if 0 < (l0_3.length : Int) then ((spec_l3Count.f k ((rd_TDoc l0_3 0).f0) ((rd_TDoc l0_3 0).f1) ((rd_TDoc l0_3 0).f2) ((rd_TDoc l0_3 0).f3)).bind fun t207 => (some t207)) else (none)) else (if a0_0 = 7 then (if 0 < (l0_3.length : Int) then ((spec_l3Count.f k ((rd_TDoc l0_3 0).f0) ((rd_TDoc l0_3 0).f1) ((rd_TDoc l0_3 0).f2) ((rd_TDoc l0_3 0).f3)).bind fun t209 => (if 1 < (l0_3.length : Int) then ((spec_l3Count.f k ((rd_TDoc l0_3 1).f0) ((rd_TDoc l0_3 1).f1) ((rd_TDoc l0_3 1).f2) ((rd_TDoc l0_3 1).f3)).bind fun t211 => (if t209 > 100000 then (spec_l3Count.j0 k t209 t211 true) else (if t211 > 100000 then (spec_l3Count.j0 k t209 t211 true) else (spec_l3Count.j0 k t209 t211 (decide ((wrap64 (t209 * t211)) > 100000)))))) else (none))) else (none)) else (if a0_0 = 8 then (if 0 < (l0_3.length : Int) then ((spec_l3Count.f k ((rd_TDoc l0_3 0).f0) ((rd_TDoc l0_3 0).f1) ((rd_TDoc l0_3 0).f2) ((rd_TDoc l0_3 0).f3)).bind fun t213 => ((spec_CountOps.f k a0_0 a0_1 a0_2 l0_3 5).bind fun t214 => (if t214 = 0 then (spec_l3Count.j1 k (wrap64 (t213 + 1))) else (spec_l3Count.j1 k t213)))) else (none)) else (some 1)))) = some r := h
  clear h
  by_cases c2 : a0_0 = 6
  · rw [if_pos c2] at H
    have c2b0 : (a0_0 == 6) = true := beq_iff_eq.mpr c2
    have c2b1 : (a0_0 != 6) = false := bne_eq_false_iff_eq.mpr c2
    clear c2
    by_cases c3 : 0 < (l0_3.length : Int)
    · rw [if_pos c3] at H
      have c3b0 : decide (0 < (l0_3.length : Int)) = true := decide_eq_true c3
      have c3b1 : decide (0 < l0_3.length) = true := decide_eq_true (by omega)
      clear c3
      replace H := Option.bind_eq_some_iff.mp H
      obtain ⟨t207, A40, H⟩ := H
      replace H : (some t207) = some r := H
      have A4 := Aside0.mk A40
      clear A40
      obtain rfl := Option.some.inj H
      go_enter Try.func59, Try.ntmps59
      go_wp2_with (first | ((with_reducible refine gate_dst (N := 1) rfl ?_); refine box_event ?hg (N := 1) ?hd (cs := #[.int .i64 a0_0, .int .i64 a0_1, .string a0_2, .slice A0_3 l0_3.length c0_3]) (t := 29) ?hr ?_; (case hd => rfl); (case hg => rfl); (case hr => first | (go_simp; done) | (go_simp; rfl)); intro gb205 hg w5 hbox hb; have n0_ := Aside0.mk (below_step (by repeat (first | (with_reducible first | exact HB.out | apply below_alloc | apply pw_below_drewN | apply below_drew1) | exact HB.out)) hb); have n1_ := Aside0.mk (hbox); have n2_ := Aside0.mk ((by rw [hg]; exact (below_size (by repeat (first | (with_reducible first | exact HB.out | apply below_alloc | apply pw_below_drewN | apply below_drew1) | exact HB.out))) : w.heap.size ≤ gb205)); have n3_ := Aside0.mk ((by rw [hg]; exact (below_size (by repeat (first | (with_reducible first | exact HB.out | apply below_alloc | apply pw_below_drewN | apply below_drew1) | exact HB.out))) : w.heap.size ≤ gb205)); clear HB; have HB := n0_; have BK205 := n1_; have GW205 := n2_; have GE205 := n3_; clear n0_ n1_ n2_ n3_; clear hb hbox hg; have hcz6_0 : w5.cell? ⟨gb205, 0, none⟩ = some (.int .i64 a0_0) := (blk_cell BK205.out 0).trans rfl; have hcz6_1 : w5.cell? ⟨gb205, 1, none⟩ = some (.int .i64 a0_1) := (blk_cell BK205.out 1).trans rfl; have hcz6_2 : w5.cell? ⟨gb205, 2, none⟩ = some (.string a0_2) := (blk_cell BK205.out 2).trans rfl; have hcz6_3 : w5.cell? ⟨gb205, 3, none⟩ = some (.slice A0_3 l0_3.length c0_3) := (blk_cell BK205.out 3).trans rfl; have hfz6_0 := blk_frozen BK205.out 0; have hfz6_1 := blk_frozen BK205.out 1; have hfz6_2 := blk_frozen BK205.out 2; have hfz6_3 := blk_frozen BK205.out 3; have p206 : 0 ≤ (0 : Int) := (by omega); have q206 : 0 < (l0_3.length : Int) := of_decide_eq_true (by first | (with_reducible assumption) | assumption); obtain ⟨ad206, A206_3, c206_3, e206, hx206_0, hx206_1, hx206_2, hx206_3, hl206_3, hi206_3⟩ := at_TDoc HR0_3.out 0 p206 q206; cases e206; have qi206 : (0 < l0_3.length) = True := eq_true (by omega); (try rw [show ((0 : Int)).toNat = 0 from rfl] at hx206_0); (try rw [show 0 * 4 = 0 from rfl] at hx206_0); (try rw [Addr.add_zero'] at hx206_0); (try rw [show ((0 : Int)).toNat = 0 from rfl] at hx206_1); (try rw [show 0 * 4 = 0 from rfl] at hx206_1); (try rw [Addr.add_zero'] at hx206_1); (try rw [show ((0 : Int)).toNat = 0 from rfl] at hx206_2); (try rw [show 0 * 4 = 0 from rfl] at hx206_2); (try rw [Addr.add_zero'] at hx206_2); (try rw [show ((0 : Int)).toNat = 0 from rfl] at hx206_3); (try rw [show 0 * 4 = 0 from rfl] at hx206_3); (try rw [Addr.add_zero'] at hx206_3); replace hx206_0 := (HB.out.cell (World.block_lt_of_cell? w _ hx206_0)).trans hx206_0; replace hx206_1 := (HB.out.cell (World.block_lt_of_cell? w _ hx206_1)).trans hx206_1; replace hx206_2 := (HB.out.cell (World.block_lt_of_cell? w _ hx206_2)).trans hx206_2; replace hx206_3 := (HB.out.cell (World.block_lt_of_cell? w _ hx206_3)).trans hx206_3; have HR206_3 := Aside0.mk hi206_3; have HC206_3 := Aside0.mk hl206_3; clear hi206_3 hl206_3; replace p206 := eq_true p206; replace q206 := eq_true q206) | ((with_reducible refine gate_callee (f := 59) rfl ?_); refine goesL_ (some 14) rfl rfl Try.func59 (by kernel_rfl) rfl #[.agg #[.int .i64 ((rd_TDoc l0_3 0).f0), .int .i64 ((rd_TDoc l0_3 0).f1), .string ((rd_TDoc l0_3 0).f2), .slice A206_3 ((rd_TDoc l0_3 0).f3).length c206_3]] rfl (by (try simp only [List.map_toArray, List.map_cons, List.map_nil]); first | done | rfl | (simp only [List.length_drop, List.length_take]; rfl)) ?_; (with_reducible refine (ih k (by omega) ((rd_TDoc l0_3 0).f0) ((rd_TDoc l0_3 0).f1) ((rd_TDoc l0_3 0).f2) _ _ ((rd_TDoc l0_3 0).f3) t207 _ ?side1 ?side2 A4.out).mono ?_); (case side1 => repeat (first | exact (Kd.C_below HR206_3.out HB.out) | (with_reducible refine Kd.C_alloc ?_ _) | (with_reducible refine Kd.C_drewN ?_ _) | (with_reducible refine Kd.C_drew ?_))); (case side2 => exact HC206_3.out); rintro e w7 ⟨rfl, hb⟩; refine ⟨_, rfl, ?_⟩; have n0_ := Aside0.mk (blk_below (g := gb205) (o := .cells #[.int .i64 a0_0, .int .i64 a0_1, .string a0_2, .slice (some ad206) l0_3.length c0_3] 29 (0, 0)) (by (with_reducible repeat (first | refine blk_drewN ?_ _ | refine blk_drew ?_ | refine blk_alloc ?_ _)); exact BK205.out) hb); have n1_ := Aside0.mk (below_step (by repeat (first | (with_reducible first | exact HB.out | apply below_alloc | apply pw_below_drewN | apply below_drew1 | refine below_set ?_ GE205.out) | exact HB.out)) hb); clear BK205; clear HB; have BK205 := n0_; have HB := n1_; clear n0_ n1_; (try clear hb); (try clear hb2); (try clear hk); (try clear hi)))
      go_ret
      exact ⟨by first | rfl | (simp [errW_none, errW_some] <;> rfl) | (simp [*, errW_none, errW_some] <;> rfl), by repeat (first | (with_reducible first | exact HB.out | apply below_alloc | apply pw_below_drewN | apply below_drew1 | refine below_set ?_ GE205.out) | exact HB.out)⟩
    · rw [if_neg c3] at H
      exact absurd H (by simp)
  · rw [if_neg c2] at H
    have c2b0 : (a0_0 == 6) = false := beq_eq_false_iff_ne.mpr c2
    have c2b1 : (a0_0 != 6) = true := bne_iff_ne.mpr c2
    by_cases c8 : a0_0 = 7
    · rw [if_pos c8] at H
      have c8b0 : (a0_0 == 7) = true := beq_iff_eq.mpr c8
      have c8b1 : (a0_0 != 7) = false := bne_eq_false_iff_eq.mpr c8
      clear c8
      by_cases c9 : 0 < (l0_3.length : Int)
      · rw [if_pos c9] at H
        have c9b0 : decide (0 < (l0_3.length : Int)) = true := decide_eq_true c9
        have c9b1 : decide (0 < l0_3.length) = true := decide_eq_true (by omega)
        clear c9
        replace H := Option.bind_eq_some_iff.mp H
        obtain ⟨t209, A100, H⟩ := H
        replace H : (if 1 < (l0_3.length : Int) then ((spec_l3Count.f k ((rd_TDoc l0_3 1).f0) ((rd_TDoc l0_3 1).f1) ((rd_TDoc l0_3 1).f2) ((rd_TDoc l0_3 1).f3)).bind fun t211 => (if t209 > 100000 then (spec_l3Count.j0 k t209 t211 true) else (if t211 > 100000 then (spec_l3Count.j0 k t209 t211 true) else (spec_l3Count.j0 k t209 t211 (decide ((wrap64 (t209 * t211)) > 100000)))))) else (none)) = some r := H
        have A10 := Aside0.mk A100
        clear A100
        by_cases c11 : 1 < (l0_3.length : Int)
        · rw [if_pos c11] at H
          have c11b0 : decide (1 < (l0_3.length : Int)) = true := decide_eq_true c11
          have c11b1 : decide (1 < l0_3.length) = true := decide_eq_true (by omega)
          clear c11
          replace H := Option.bind_eq_some_iff.mp H
          obtain ⟨t211, A120, H⟩ := H
          replace H : (if t209 > 100000 then (spec_l3Count.j0 k t209 t211 true) else (if t211 > 100000 then (spec_l3Count.j0 k t209 t211 true) else (spec_l3Count.j0 k t209 t211 (decide ((wrap64 (t209 * t211)) > 100000))))) = some r := H
          have A12 := Aside0.mk A120
          clear A120
          have HC13 := Aside0.mk H
          clear H
          go_enter Try.func59, Try.ntmps59
          go_upto_region 7 with (first | ((with_reducible refine gate_dst (N := 1) rfl ?_); refine box_event ?hg (N := 1) ?hd (cs := #[.int .i64 a0_0, .int .i64 a0_1, .string a0_2, .slice A0_3 l0_3.length c0_3]) (t := 29) ?hr ?_; (case hd => rfl); (case hg => rfl); (case hr => first | (go_simp; done) | (go_simp; rfl)); intro gb205 hg w14 hbox hb; have n0_ := Aside0.mk (below_step (by repeat (first | (with_reducible first | exact HB.out | apply below_alloc | apply pw_below_drewN | apply below_drew1) | exact HB.out)) hb); have n1_ := Aside0.mk (hbox); have n2_ := Aside0.mk ((by rw [hg]; exact (below_size (by repeat (first | (with_reducible first | exact HB.out | apply below_alloc | apply pw_below_drewN | apply below_drew1) | exact HB.out))) : w.heap.size ≤ gb205)); have n3_ := Aside0.mk ((by rw [hg]; exact (below_size (by repeat (first | (with_reducible first | exact HB.out | apply below_alloc | apply pw_below_drewN | apply below_drew1) | exact HB.out))) : w.heap.size ≤ gb205)); clear HB; have HB := n0_; have BK205 := n1_; have GW205 := n2_; have GE205 := n3_; clear n0_ n1_ n2_ n3_; clear hb hbox hg; have hcz15_0 : w14.cell? ⟨gb205, 0, none⟩ = some (.int .i64 a0_0) := (blk_cell BK205.out 0).trans rfl; have hcz15_1 : w14.cell? ⟨gb205, 1, none⟩ = some (.int .i64 a0_1) := (blk_cell BK205.out 1).trans rfl; have hcz15_2 : w14.cell? ⟨gb205, 2, none⟩ = some (.string a0_2) := (blk_cell BK205.out 2).trans rfl; have hcz15_3 : w14.cell? ⟨gb205, 3, none⟩ = some (.slice A0_3 l0_3.length c0_3) := (blk_cell BK205.out 3).trans rfl; have hfz15_0 := blk_frozen BK205.out 0; have hfz15_1 := blk_frozen BK205.out 1; have hfz15_2 := blk_frozen BK205.out 2; have hfz15_3 := blk_frozen BK205.out 3; have p208 : 0 ≤ (0 : Int) := (by omega); have q208 : 0 < (l0_3.length : Int) := of_decide_eq_true (by first | (with_reducible assumption) | assumption); obtain ⟨ad208, A208_3, c208_3, e208, hx208_0, hx208_1, hx208_2, hx208_3, hl208_3, hi208_3⟩ := at_TDoc HR0_3.out 0 p208 q208; cases e208; have qi208 : (0 < l0_3.length) = True := eq_true (by omega); (try rw [show ((0 : Int)).toNat = 0 from rfl] at hx208_0); (try rw [show 0 * 4 = 0 from rfl] at hx208_0); (try rw [Addr.add_zero'] at hx208_0); (try rw [show ((0 : Int)).toNat = 0 from rfl] at hx208_1); (try rw [show 0 * 4 = 0 from rfl] at hx208_1); (try rw [Addr.add_zero'] at hx208_1); (try rw [show ((0 : Int)).toNat = 0 from rfl] at hx208_2); (try rw [show 0 * 4 = 0 from rfl] at hx208_2); (try rw [Addr.add_zero'] at hx208_2); (try rw [show ((0 : Int)).toNat = 0 from rfl] at hx208_3); (try rw [show 0 * 4 = 0 from rfl] at hx208_3); (try rw [Addr.add_zero'] at hx208_3); replace hx208_0 := (HB.out.cell (World.block_lt_of_cell? w _ hx208_0)).trans hx208_0; replace hx208_1 := (HB.out.cell (World.block_lt_of_cell? w _ hx208_1)).trans hx208_1; replace hx208_2 := (HB.out.cell (World.block_lt_of_cell? w _ hx208_2)).trans hx208_2; replace hx208_3 := (HB.out.cell (World.block_lt_of_cell? w _ hx208_3)).trans hx208_3; have HR208_3 := Aside0.mk hi208_3; have HC208_3 := Aside0.mk hl208_3; clear hi208_3 hl208_3; replace p208 := eq_true p208; replace q208 := eq_true q208) | ((with_reducible refine gate_callee (f := 59) rfl ?_); refine goesL_ (some 21) rfl rfl Try.func59 (by kernel_rfl) rfl #[.agg #[.int .i64 ((rd_TDoc l0_3 0).f0), .int .i64 ((rd_TDoc l0_3 0).f1), .string ((rd_TDoc l0_3 0).f2), .slice A208_3 ((rd_TDoc l0_3 0).f3).length c208_3]] rfl (by (try simp only [List.map_toArray, List.map_cons, List.map_nil]); first | done | rfl | (simp only [List.length_drop, List.length_take]; rfl)) ?_; (with_reducible refine (ih k (by omega) ((rd_TDoc l0_3 0).f0) ((rd_TDoc l0_3 0).f1) ((rd_TDoc l0_3 0).f2) _ _ ((rd_TDoc l0_3 0).f3) t209 _ ?side1 ?side2 A10.out).mono ?_); (case side1 => repeat (first | exact (Kd.C_below HR208_3.out HB.out) | (with_reducible refine Kd.C_alloc ?_ _) | (with_reducible refine Kd.C_drewN ?_ _) | (with_reducible refine Kd.C_drew ?_))); (case side2 => exact HC208_3.out); rintro e w16 ⟨rfl, hb⟩; refine ⟨_, rfl, ?_⟩; have n0_ := Aside0.mk (blk_below (g := gb205) (o := .cells #[.int .i64 a0_0, .int .i64 a0_1, .string a0_2, .slice (some ad208) l0_3.length c0_3] 29 (0, 0)) (by (with_reducible repeat (first | refine blk_drewN ?_ _ | refine blk_drew ?_ | refine blk_alloc ?_ _)); exact BK205.out) hb); have n1_ := Aside0.mk (below_step (by repeat (first | (with_reducible first | exact HB.out | apply below_alloc | apply pw_below_drewN | apply below_drew1 | refine below_set ?_ GE205.out) | exact HB.out)) hb); clear BK205; clear HB; have BK205 := n0_; have HB := n1_; clear n0_ n1_; (try clear hb); (try clear hb2); (try clear hk); (try clear hi); have hcz17_0 : w16.cell? ⟨gb205, 0, none⟩ = some (.int .i64 a0_0) := (blk_cell BK205.out 0).trans rfl; have hcz17_1 : w16.cell? ⟨gb205, 1, none⟩ = some (.int .i64 a0_1) := (blk_cell BK205.out 1).trans rfl; have hcz17_2 : w16.cell? ⟨gb205, 2, none⟩ = some (.string a0_2) := (blk_cell BK205.out 2).trans rfl; have hcz17_3 : w16.cell? ⟨gb205, 3, none⟩ = some (.slice (some ad208) l0_3.length c0_3) := (blk_cell BK205.out 3).trans rfl; have hfz17_0 := blk_frozen BK205.out 0; have hfz17_1 := blk_frozen BK205.out 1; have hfz17_2 := blk_frozen BK205.out 2; have hfz17_3 := blk_frozen BK205.out 3; have p210 : 0 ≤ (1 : Int) := (by omega); have q210 : 1 < (l0_3.length : Int) := of_decide_eq_true (by first | (with_reducible assumption) | assumption); obtain ⟨ad210, A210_3, c210_3, e210, hx210_0, hx210_1, hx210_2, hx210_3, hl210_3, hi210_3⟩ := at_TDoc HR0_3.out 1 p210 q210; obtain rfl : ad208 = ad210 := (by injection e210); (try simp only [show (1 : Int).toNat = 1 from rfl, Nat.reduceMul, Nat.reduceEqDiff, Go.Addr.add, ↓reduceIte] at hx210_0); (try simp only [show (1 : Int).toNat = 1 from rfl, Nat.reduceMul, Nat.reduceEqDiff, Go.Addr.add, ↓reduceIte] at hx210_1); (try simp only [show (1 : Int).toNat = 1 from rfl, Nat.reduceMul, Nat.reduceEqDiff, Go.Addr.add, ↓reduceIte] at hx210_2); (try simp only [show (1 : Int).toNat = 1 from rfl, Nat.reduceMul, Nat.reduceEqDiff, Go.Addr.add, ↓reduceIte] at hx210_3); have qi210 : (1 < l0_3.length) = True := eq_true (by omega); (try rw [show ((1 : Int)).toNat = 1 from rfl] at hx210_0); (try rw [show 1 * 4 = 4 from rfl] at hx210_0); (try rw [show ((1 : Int)).toNat = 1 from rfl] at hx210_1); (try rw [show 1 * 4 = 4 from rfl] at hx210_1); (try rw [show ((1 : Int)).toNat = 1 from rfl] at hx210_2); (try rw [show 1 * 4 = 4 from rfl] at hx210_2); (try rw [show ((1 : Int)).toNat = 1 from rfl] at hx210_3); (try rw [show 1 * 4 = 4 from rfl] at hx210_3); replace hx210_0 := (HB.out.cell (World.block_lt_of_cell? w _ hx210_0)).trans hx210_0; replace hx210_1 := (HB.out.cell (World.block_lt_of_cell? w _ hx210_1)).trans hx210_1; replace hx210_2 := (HB.out.cell (World.block_lt_of_cell? w _ hx210_2)).trans hx210_2; replace hx210_3 := (HB.out.cell (World.block_lt_of_cell? w _ hx210_3)).trans hx210_3; have HR210_3 := Aside0.mk hi210_3; have HC210_3 := Aside0.mk hl210_3; clear hi210_3 hl210_3; replace p210 := eq_true p210; replace q210 := eq_true q210) | ((with_reducible refine gate_callee (f := 59) rfl ?_); refine goesL_ (some 26) rfl rfl Try.func59 (by kernel_rfl) rfl #[.agg #[.int .i64 ((rd_TDoc l0_3 1).f0), .int .i64 ((rd_TDoc l0_3 1).f1), .string ((rd_TDoc l0_3 1).f2), .slice A210_3 ((rd_TDoc l0_3 1).f3).length c210_3]] rfl (by (try simp only [List.map_toArray, List.map_cons, List.map_nil]); first | done | rfl | (simp only [List.length_drop, List.length_take]; rfl)) ?_; (with_reducible refine (ih k (by omega) ((rd_TDoc l0_3 1).f0) ((rd_TDoc l0_3 1).f1) ((rd_TDoc l0_3 1).f2) _ _ ((rd_TDoc l0_3 1).f3) t211 _ ?side1 ?side2 A12.out).mono ?_); (case side1 => repeat (first | exact (Kd.C_below HR210_3.out HB.out) | (with_reducible refine Kd.C_alloc ?_ _) | (with_reducible refine Kd.C_drewN ?_ _) | (with_reducible refine Kd.C_drew ?_))); (case side2 => exact HC210_3.out); rintro e w18 ⟨rfl, hb⟩; refine ⟨_, rfl, ?_⟩; have n0_ := Aside0.mk (blk_below (g := gb205) (o := .cells #[.int .i64 a0_0, .int .i64 a0_1, .string a0_2, .slice (some ad208) l0_3.length c0_3] 29 (0, 0)) (by (with_reducible repeat (first | refine blk_drewN ?_ _ | refine blk_drew ?_ | refine blk_alloc ?_ _)); exact BK205.out) hb); have n1_ := Aside0.mk (below_step (by repeat (first | (with_reducible first | exact HB.out | apply below_alloc | apply pw_below_drewN | apply below_drew1 | refine below_set ?_ GE205.out) | exact HB.out)) hb); clear BK205; clear HB; have BK205 := n0_; have HB := n1_; clear n0_ n1_; (try clear hb); (try clear hb2); (try clear hk); (try clear hi)))
          (try simp only [Act.put, List.setIfInBounds_toArray, List.set_cons_zero, List.set_cons_succ])
          go_cut [38] (fun v38 wc => ∃ (kq : Nat) (x38_12 : Bool), v38 = .bool x38_12 ∧ Aside0 (spec_l3Count.j0 kq t209 t211 x38_12 = some r) ∧ Aside0 (kq ≤ k) ∧ Aside0 (wc.heap[gb205]? = some (.cells #[.int .i64 a0_0, .int .i64 a0_1, .string a0_2, (.slice (some ad208) l0_3.length c0_3)] 29 (0, 0))) ∧ Aside0 (Below w.heap.size w wc))
          case first =>
            have H := HC13.out
            clear HC13
            by_cases c19 : t209 > 100000
            · rw [if_pos c19] at H
              have c19b0 : decide (100000 < t209) = true := decide_eq_true c19
              clear c19
              (first | rw [c19b0] | (simp only [i64_w, i32_w]; rw [c19b0]) | skip)
              have H' := Aside0.mk H
              clear H
              go_wp2
              go_meet
              case rel => exact ⟨_, (true), (by first | rfl | (simp; done) | (simp [*]; done)), H', ⟨by first | omega | exact Nat.le_refl _⟩, ⟨by (with_reducible repeat (first | refine blk_drewN ?_ _ | refine blk_drew ?_ | refine blk_alloc ?_ _)); exact BK205.out⟩, ⟨by repeat (first | (with_reducible first | exact HB.out | apply below_alloc | apply pw_below_drewN | apply below_drew1 | refine below_set ?_ GE205.out) | exact HB.out)⟩⟩
            · rw [if_neg c19] at H
              have c19b0 : decide (100000 < t209) = false := decide_eq_false c19
              clear c19
              (first | rw [c19b0] | (simp only [i64_w, i32_w]; rw [c19b0]) | skip)
              by_cases c20 : t211 > 100000
              · rw [if_pos c20] at H
                have c20b0 : decide (100000 < t211) = true := decide_eq_true c20
                clear c20
                have H' := Aside0.mk H
                clear H
                go_wp2
                go_meet
                case rel => exact ⟨_, (true), (by first | rfl | (simp; done) | (simp [*]; done)), H', ⟨by first | omega | exact Nat.le_refl _⟩, ⟨by (with_reducible repeat (first | refine blk_drewN ?_ _ | refine blk_drew ?_ | refine blk_alloc ?_ _)); exact BK205.out⟩, ⟨by repeat (first | (with_reducible first | exact HB.out | apply below_alloc | apply pw_below_drewN | apply below_drew1 | refine below_set ?_ GE205.out) | exact HB.out)⟩⟩
              · rw [if_neg c20] at H
                have c20b0 : decide (100000 < t211) = false := decide_eq_false c20
                clear c20
                have H' := Aside0.mk H
                clear H
                go_wp2
                go_meet
                case rel => exact ⟨_, (decide ((wrap64 (t209 * t211)) > 100000)), (by first | rfl | (simp; done) | (simp [*]; done)), H', ⟨by first | omega | exact Nat.le_refl _⟩, ⟨by (with_reducible repeat (first | refine blk_drewN ?_ _ | refine blk_drew ?_ | refine blk_alloc ?_ _)); exact BK205.out⟩, ⟨by repeat (first | (with_reducible first | exact HB.out | apply below_alloc | apply pw_below_drewN | apply below_drew1 | refine below_set ?_ GE205.out) | exact HB.out)⟩⟩
          case rest =>
            clear HC13
            try clear c1
            try clear c2
            try clear c2b0
            try clear c2b1
            try clear p2
            try clear q2
            try clear hx2
            try clear qi2
            try clear c3
            try clear c3b0
            try clear c3b1
            try clear c5
            try clear p6
            try clear c8
            try clear c8b0
            try clear c8b1
            try clear c9
            try clear c9b0
            try clear c9b1
            try clear c11
            try clear c11b0
            try clear c11b1
            try clear c19
            try clear c19b0
            try clear c20
            try clear c20b0
            try clear p20
            try clear q20
            try clear hx20
            try clear qi20
            try clear hcz15_0
            try clear hcz15_1
            try clear hcz15_2
            try clear hcz15_3
            try clear hcz17_0
            try clear hcz17_1
            try clear hcz17_2
            try clear hcz17_3
            try clear hcz6_0
            try clear hcz6_1
            try clear hcz6_2
            try clear hcz6_3
            try clear hfz15_0
            try clear hfz15_1
            try clear hfz15_2
            try clear hfz15_3
            try clear hfz17_0
            try clear hfz17_1
            try clear hfz17_2
            try clear hfz17_3
            try clear hfz6_0
            try clear hfz6_1
            try clear hfz6_2
            try clear hfz6_3
            try clear hx206_0
            try clear hx206_1
            try clear hx206_2
            try clear hx206_3
            try clear hx208_0
            try clear hx208_1
            try clear hx208_2
            try clear hx208_3
            try clear hx210_0
            try clear hx210_1
            try clear hx210_2
            try clear hx210_3
            try clear p206
            try clear p208
            try clear p210
            try clear q206
            try clear q208
            try clear q210
            obtain ⟨kq, x38_12, rfl, HA, HJ12, BK205, HB⟩ := hcut
            cases kq with
            | zero => exact absurd HA.out (by simp [spec_l3Count.j0])
            | succ kj12 =>
              have H := HA.out
              clear HA
              simp only [spec_l3Count.j0] at H
              by_cases c21 : x38_12 = true
              · subst c21
                have H1 : (some 100001) = some r := by rw [if_pos rfl] at H; exact H
                clear H
                have H := H1
                clear H1
                obtain rfl := Option.some.inj H
                go_wp2
                go_ret
                exact ⟨by first | rfl | (simp [errW_none, errW_some] <;> rfl) | (simp [*, errW_none, errW_some] <;> rfl), by repeat (first | (with_reducible first | exact HB.out | apply below_alloc | apply pw_below_drewN | apply below_drew1 | refine below_set ?_ GE205.out) | exact HB.out)⟩
              · replace c21 := Bool.eq_false_iff.mpr c21
                subst c21
                have H1 : (some (wrap64 (t209 * t211))) = some r := by rw [if_neg (show ¬ (false = true) by decide)] at H; exact H
                clear H
                have H := H1
                clear H1
                obtain rfl := Option.some.inj H
                go_wp2
                go_ret
                exact ⟨by first | rfl | (simp [errW_none, errW_some] <;> rfl) | (simp [*, errW_none, errW_some] <;> rfl), by repeat (first | (with_reducible first | exact HB.out | apply below_alloc | apply pw_below_drewN | apply below_drew1 | refine below_set ?_ GE205.out) | exact HB.out)⟩
        · rw [if_neg c11] at H
          exact absurd H (by simp)
      · rw [if_neg c9] at H
        exact absurd H (by simp)
    · rw [if_neg c8] at H
      have c8b0 : (a0_0 == 7) = false := beq_eq_false_iff_ne.mpr c8
      have c8b1 : (a0_0 != 7) = true := bne_iff_ne.mpr c8
      by_cases c22 : a0_0 = 8
      · rw [if_pos c22] at H
        have c22b0 : (a0_0 == 8) = true := beq_iff_eq.mpr c22
        have c22b1 : (a0_0 != 8) = false := bne_eq_false_iff_eq.mpr c22
        clear c22
        by_cases c23 : 0 < (l0_3.length : Int)
        · rw [if_pos c23] at H
          have c23b0 : decide (0 < (l0_3.length : Int)) = true := decide_eq_true c23
          have c23b1 : decide (0 < l0_3.length) = true := decide_eq_true (by omega)
          clear c23
          replace H := Option.bind_eq_some_iff.mp H
          obtain ⟨t213, A240, H⟩ := H
          replace H : ((spec_CountOps.f k a0_0 a0_1 a0_2 l0_3 5).bind fun t214 => (if t214 = 0 then (spec_l3Count.j1 k (wrap64 (t213 + 1))) else (spec_l3Count.j1 k t213))) = some r := H
          have A24 := Aside0.mk A240
          clear A240
          replace H := Option.bind_eq_some_iff.mp H
          obtain ⟨t214, A250, H⟩ := H
          replace H : (if t214 = 0 then (spec_l3Count.j1 k (wrap64 (t213 + 1))) else (spec_l3Count.j1 k t213)) = some r := H
          have A25 := Aside0.mk A250
          clear A250
          have HC26 := Aside0.mk H
          clear H
          go_enter Try.func59, Try.ntmps59
          go_upto_if 51 with (first | ((with_reducible refine gate_dst (N := 1) rfl ?_); refine box_event ?hg (N := 1) ?hd (cs := #[.int .i64 a0_0, .int .i64 a0_1, .string a0_2, .slice A0_3 l0_3.length c0_3]) (t := 29) ?hr ?_; (case hd => rfl); (case hg => rfl); (case hr => first | (go_simp; done) | (go_simp; rfl)); intro gb205 hg w27 hbox hb; have n0_ := Aside0.mk (below_step (by repeat (first | (with_reducible first | exact HB.out | apply below_alloc | apply pw_below_drewN | apply below_drew1) | exact HB.out)) hb); have n1_ := Aside0.mk (hbox); have n2_ := Aside0.mk ((by rw [hg]; exact (below_size (by repeat (first | (with_reducible first | exact HB.out | apply below_alloc | apply pw_below_drewN | apply below_drew1) | exact HB.out))) : w.heap.size ≤ gb205)); have n3_ := Aside0.mk ((by rw [hg]; exact (below_size (by repeat (first | (with_reducible first | exact HB.out | apply below_alloc | apply pw_below_drewN | apply below_drew1) | exact HB.out))) : w.heap.size ≤ gb205)); clear HB; have HB := n0_; have BK205 := n1_; have GW205 := n2_; have GE205 := n3_; clear n0_ n1_ n2_ n3_; clear hb hbox hg; have hcz28_0 : w27.cell? ⟨gb205, 0, none⟩ = some (.int .i64 a0_0) := (blk_cell BK205.out 0).trans rfl; have hcz28_1 : w27.cell? ⟨gb205, 1, none⟩ = some (.int .i64 a0_1) := (blk_cell BK205.out 1).trans rfl; have hcz28_2 : w27.cell? ⟨gb205, 2, none⟩ = some (.string a0_2) := (blk_cell BK205.out 2).trans rfl; have hcz28_3 : w27.cell? ⟨gb205, 3, none⟩ = some (.slice A0_3 l0_3.length c0_3) := (blk_cell BK205.out 3).trans rfl; have hfz28_0 := blk_frozen BK205.out 0; have hfz28_1 := blk_frozen BK205.out 1; have hfz28_2 := blk_frozen BK205.out 2; have hfz28_3 := blk_frozen BK205.out 3; have p212 : 0 ≤ (0 : Int) := (by omega); have q212 : 0 < (l0_3.length : Int) := of_decide_eq_true (by first | (with_reducible assumption) | assumption); obtain ⟨ad212, A212_3, c212_3, e212, hx212_0, hx212_1, hx212_2, hx212_3, hl212_3, hi212_3⟩ := at_TDoc HR0_3.out 0 p212 q212; cases e212; have qi212 : (0 < l0_3.length) = True := eq_true (by omega); (try rw [show ((0 : Int)).toNat = 0 from rfl] at hx212_0); (try rw [show 0 * 4 = 0 from rfl] at hx212_0); (try rw [Addr.add_zero'] at hx212_0); (try rw [show ((0 : Int)).toNat = 0 from rfl] at hx212_1); (try rw [show 0 * 4 = 0 from rfl] at hx212_1); (try rw [Addr.add_zero'] at hx212_1); (try rw [show ((0 : Int)).toNat = 0 from rfl] at hx212_2); (try rw [show 0 * 4 = 0 from rfl] at hx212_2); (try rw [Addr.add_zero'] at hx212_2); (try rw [show ((0 : Int)).toNat = 0 from rfl] at hx212_3); (try rw [show 0 * 4 = 0 from rfl] at hx212_3); (try rw [Addr.add_zero'] at hx212_3); replace hx212_0 := (HB.out.cell (World.block_lt_of_cell? w _ hx212_0)).trans hx212_0; replace hx212_1 := (HB.out.cell (World.block_lt_of_cell? w _ hx212_1)).trans hx212_1; replace hx212_2 := (HB.out.cell (World.block_lt_of_cell? w _ hx212_2)).trans hx212_2; replace hx212_3 := (HB.out.cell (World.block_lt_of_cell? w _ hx212_3)).trans hx212_3; have HR212_3 := Aside0.mk hi212_3; have HC212_3 := Aside0.mk hl212_3; clear hi212_3 hl212_3; replace p212 := eq_true p212; replace q212 := eq_true q212) | ((with_reducible refine gate_callee (f := 59) rfl ?_); refine goesL_ (some 48) rfl rfl Try.func59 (by kernel_rfl) rfl #[.agg #[.int .i64 ((rd_TDoc l0_3 0).f0), .int .i64 ((rd_TDoc l0_3 0).f1), .string ((rd_TDoc l0_3 0).f2), .slice A212_3 ((rd_TDoc l0_3 0).f3).length c212_3]] rfl (by (try simp only [List.map_toArray, List.map_cons, List.map_nil]); first | done | rfl | (simp only [List.length_drop, List.length_take]; rfl)) ?_; (with_reducible refine (ih k (by omega) ((rd_TDoc l0_3 0).f0) ((rd_TDoc l0_3 0).f1) ((rd_TDoc l0_3 0).f2) _ _ ((rd_TDoc l0_3 0).f3) t213 _ ?side1 ?side2 A24.out).mono ?_); (case side1 => repeat (first | exact (Kd.C_below HR212_3.out HB.out) | (with_reducible refine Kd.C_alloc ?_ _) | (with_reducible refine Kd.C_drewN ?_ _) | (with_reducible refine Kd.C_drew ?_))); (case side2 => exact HC212_3.out); rintro e w29 ⟨rfl, hb⟩; refine ⟨_, rfl, ?_⟩; have n0_ := Aside0.mk (blk_below (g := gb205) (o := .cells #[.int .i64 a0_0, .int .i64 a0_1, .string a0_2, .slice (some ad212) l0_3.length c0_3] 29 (0, 0)) (by (with_reducible repeat (first | refine blk_drewN ?_ _ | refine blk_drew ?_ | refine blk_alloc ?_ _)); exact BK205.out) hb); have n1_ := Aside0.mk (below_step (by repeat (first | (with_reducible first | exact HB.out | apply below_alloc | apply pw_below_drewN | apply below_drew1 | refine below_set ?_ GE205.out) | exact HB.out)) hb); clear BK205; clear HB; have BK205 := n0_; have HB := n1_; clear n0_ n1_; (try clear hb); (try clear hb2); (try clear hk); (try clear hi); have hcz30_0 : w29.cell? ⟨gb205, 0, none⟩ = some (.int .i64 a0_0) := (blk_cell BK205.out 0).trans rfl; have hcz30_1 : w29.cell? ⟨gb205, 1, none⟩ = some (.int .i64 a0_1) := (blk_cell BK205.out 1).trans rfl; have hcz30_2 : w29.cell? ⟨gb205, 2, none⟩ = some (.string a0_2) := (blk_cell BK205.out 2).trans rfl; have hcz30_3 : w29.cell? ⟨gb205, 3, none⟩ = some (.slice (some ad212) l0_3.length c0_3) := (blk_cell BK205.out 3).trans rfl; have hfz30_0 := blk_frozen BK205.out 0; have hfz30_1 := blk_frozen BK205.out 1; have hfz30_2 := blk_frozen BK205.out 2; have hfz30_3 := blk_frozen BK205.out 3) | ((with_reducible refine gate_callee (f := 95) rfl ?_); refine goesL_ (some 50) rfl rfl Try.func95 (by kernel_rfl) rfl #[.agg #[.int .i64 a0_0, .int .i64 a0_1, .string a0_2, .slice (some ad212) l0_3.length c0_3], .int .i64 5] rfl (by (try simp only [List.map_toArray, List.map_cons, List.map_nil]); first | done | rfl | (simp only [List.length_drop, List.length_take]; rfl)) ?_; (with_reducible refine (spec_CountOps.calls k a0_0 a0_1 a0_2 _ _ l0_3 5 t214 _ ?side1 ?side2 A25.out).mono ?_); (case side1 => repeat (first | exact (Kd.C_below HR0_3.out HB.out) | (with_reducible refine Kd.C_alloc ?_ _) | (with_reducible refine Kd.C_drewN ?_ _) | (with_reducible refine Kd.C_drew ?_))); (case side2 => exact HC0_3.out); rintro e w31 ⟨rfl, hb⟩; refine ⟨_, rfl, ?_⟩; have n0_ := Aside0.mk (blk_below (g := gb205) (o := .cells #[.int .i64 a0_0, .int .i64 a0_1, .string a0_2, .slice (some ad212) l0_3.length c0_3] 29 (0, 0)) (by (with_reducible repeat (first | refine blk_drewN ?_ _ | refine blk_drew ?_ | refine blk_alloc ?_ _)); exact BK205.out) hb); have n1_ := Aside0.mk (below_step (by repeat (first | (with_reducible first | exact HB.out | apply below_alloc | apply pw_below_drewN | apply below_drew1 | refine below_set ?_ GE205.out) | exact HB.out)) hb); clear BK205; clear HB; have BK205 := n0_; have HB := n1_; clear n0_ n1_; (try clear hb); (try clear hb2); (try clear hk); (try clear hi)))
          (try simp only [Act.put, List.setIfInBounds_toArray, List.set_cons_zero, List.set_cons_succ])
          go_cut [5] (fun v5 wc => ∃ (kq : Nat) (x5_25 : Int), v5 = .int .i64 x5_25 ∧ Aside0 (spec_l3Count.j1 kq x5_25 = some r) ∧ Aside0 (kq ≤ k) ∧ Aside0 (wc.heap[gb205]? = some (.cells #[.int .i64 a0_0, .int .i64 a0_1, .string a0_2, (.slice (some ad212) l0_3.length c0_3)] 29 (0, 0))) ∧ Aside0 (Below w.heap.size w wc))
          case first =>
            have H := HC26.out
            clear HC26
            by_cases c32 : t214 = 0
            · rw [if_pos c32] at H
              have c32b0 : (t214 == 0) = true := beq_iff_eq.mpr c32
              have c32b1 : (t214 != 0) = false := bne_eq_false_iff_eq.mpr c32
              clear c32
              (first | rw [c32b0] | (simp only [i64_w, i32_w]; rw [c32b0]) | skip)
              have H' := Aside0.mk H
              clear H
              go_wp2
              go_meet
              case rel => exact ⟨_, (wrap64 (t213 + 1)), (by first | rfl | (simp; done) | (simp [*]; done)), H', ⟨by first | omega | exact Nat.le_refl _⟩, ⟨by (with_reducible repeat (first | refine blk_drewN ?_ _ | refine blk_drew ?_ | refine blk_alloc ?_ _)); exact BK205.out⟩, ⟨by repeat (first | (with_reducible first | exact HB.out | apply below_alloc | apply pw_below_drewN | apply below_drew1 | refine below_set ?_ GE205.out) | exact HB.out)⟩⟩
            · rw [if_neg c32] at H
              have c32b0 : (t214 == 0) = false := beq_eq_false_iff_ne.mpr c32
              have c32b1 : (t214 != 0) = true := bne_iff_ne.mpr c32
              (first | rw [c32b0] | (simp only [i64_w, i32_w]; rw [c32b0]) | skip)
              have H' := Aside0.mk H
              clear H
              go_wp2
              go_meet
              case rel => exact ⟨_, (t213), (by first | rfl | (simp; done) | (simp [*]; done)), H', ⟨by first | omega | exact Nat.le_refl _⟩, ⟨by (with_reducible repeat (first | refine blk_drewN ?_ _ | refine blk_drew ?_ | refine blk_alloc ?_ _)); exact BK205.out⟩, ⟨by repeat (first | (with_reducible first | exact HB.out | apply below_alloc | apply pw_below_drewN | apply below_drew1 | refine below_set ?_ GE205.out) | exact HB.out)⟩⟩
          case rest =>
            clear HC26
            try clear c1
            try clear c2
            try clear c2b0
            try clear c2b1
            try clear p2
            try clear q2
            try clear hx2
            try clear qi2
            try clear c3
            try clear c3b0
            try clear c3b1
            try clear c5
            try clear p6
            try clear c8
            try clear c8b0
            try clear c8b1
            try clear c9
            try clear c9b0
            try clear c9b1
            try clear c11
            try clear c11b0
            try clear c11b1
            try clear c19
            try clear c19b0
            try clear c20
            try clear c20b0
            try clear p20
            try clear q20
            try clear hx20
            try clear qi20
            try clear c21
            try clear p21
            try clear q21
            try clear hx21
            try clear qi21
            try clear c22
            try clear c22b0
            try clear c22b1
            try clear c23
            try clear c23b0
            try clear c23b1
            try clear c32
            try clear c32b0
            try clear c32b1
            try clear hcz15_0
            try clear hcz15_1
            try clear hcz15_2
            try clear hcz15_3
            try clear hcz17_0
            try clear hcz17_1
            try clear hcz17_2
            try clear hcz17_3
            try clear hcz28_0
            try clear hcz28_1
            try clear hcz28_2
            try clear hcz28_3
            try clear hcz30_0
            try clear hcz30_1
            try clear hcz30_2
            try clear hcz30_3
            try clear hcz6_0
            try clear hcz6_1
            try clear hcz6_2
            try clear hcz6_3
            try clear hfz15_0
            try clear hfz15_1
            try clear hfz15_2
            try clear hfz15_3
            try clear hfz17_0
            try clear hfz17_1
            try clear hfz17_2
            try clear hfz17_3
            try clear hfz28_0
            try clear hfz28_1
            try clear hfz28_2
            try clear hfz28_3
            try clear hfz30_0
            try clear hfz30_1
            try clear hfz30_2
            try clear hfz30_3
            try clear hfz6_0
            try clear hfz6_1
            try clear hfz6_2
            try clear hfz6_3
            try clear hx206_0
            try clear hx206_1
            try clear hx206_2
            try clear hx206_3
            try clear hx208_0
            try clear hx208_1
            try clear hx208_2
            try clear hx208_3
            try clear hx210_0
            try clear hx210_1
            try clear hx210_2
            try clear hx210_3
            try clear hx212_0
            try clear hx212_1
            try clear hx212_2
            try clear hx212_3
            try clear p2
            try clear p20
            try clear p206
            try clear p208
            try clear p210
            try clear p212
            try clear p6
            try clear q2
            try clear q20
            try clear q206
            try clear q208
            try clear q210
            try clear q212
            obtain ⟨kq, x5_25, rfl, HA, HJ25, BK205, HB⟩ := hcut
            cases kq with
            | zero => exact absurd HA.out (by simp [spec_l3Count.j1])
            | succ kj25 =>
              have H := HA.out
              clear HA
              simp only [spec_l3Count.j1] at H
              by_cases c33 : x5_25 > 100000
              · rw [if_pos c33] at H
                have c33b0 : decide (100000 < x5_25) = true := decide_eq_true c33
                clear c33
                obtain rfl := Option.some.inj H
                go_wp2
                go_ret
                exact ⟨by first | rfl | (simp [errW_none, errW_some] <;> rfl) | (simp [*, errW_none, errW_some] <;> rfl), by repeat (first | (with_reducible first | exact HB.out | apply below_alloc | apply pw_below_drewN | apply below_drew1 | refine below_set ?_ GE205.out) | exact HB.out)⟩
              · rw [if_neg c33] at H
                have c33b0 : decide (100000 < x5_25) = false := decide_eq_false c33
                clear c33
                obtain rfl := Option.some.inj H
                go_wp2
                go_ret
                exact ⟨by first | rfl | (simp [errW_none, errW_some] <;> rfl) | (simp [*, errW_none, errW_some] <;> rfl), by repeat (first | (with_reducible first | exact HB.out | apply below_alloc | apply pw_below_drewN | apply below_drew1 | refine below_set ?_ GE205.out) | exact HB.out)⟩
        · rw [if_neg c23] at H
          exact absurd H (by simp)
      · rw [if_neg c22] at H
        have c22b0 : (a0_0 == 8) = false := beq_eq_false_iff_ne.mpr c22
        have c22b1 : (a0_0 != 8) = true := bne_iff_ne.mpr c22
        obtain rfl := Option.some.inj H
        go_enter Try.func59, Try.ntmps59
        go_wp2_with (first | ((with_reducible refine gate_dst (N := 1) rfl ?_); refine box_event ?hg (N := 1) ?hd (cs := #[.int .i64 a0_0, .int .i64 a0_1, .string a0_2, .slice A0_3 l0_3.length c0_3]) (t := 29) ?hr ?_; (case hd => rfl); (case hg => rfl); (case hr => first | (go_simp; done) | (go_simp; rfl)); intro gb205 hg w34 hbox hb; have n0_ := Aside0.mk (below_step (by repeat (first | (with_reducible first | exact HB.out | apply below_alloc | apply pw_below_drewN | apply below_drew1) | exact HB.out)) hb); have n1_ := Aside0.mk (hbox); have n2_ := Aside0.mk ((by rw [hg]; exact (below_size (by repeat (first | (with_reducible first | exact HB.out | apply below_alloc | apply pw_below_drewN | apply below_drew1) | exact HB.out))) : w.heap.size ≤ gb205)); have n3_ := Aside0.mk ((by rw [hg]; exact (below_size (by repeat (first | (with_reducible first | exact HB.out | apply below_alloc | apply pw_below_drewN | apply below_drew1) | exact HB.out))) : w.heap.size ≤ gb205)); clear HB; have HB := n0_; have BK205 := n1_; have GW205 := n2_; have GE205 := n3_; clear n0_ n1_ n2_ n3_; clear hb hbox hg; have hcz35_0 : w34.cell? ⟨gb205, 0, none⟩ = some (.int .i64 a0_0) := (blk_cell BK205.out 0).trans rfl; have hcz35_1 : w34.cell? ⟨gb205, 1, none⟩ = some (.int .i64 a0_1) := (blk_cell BK205.out 1).trans rfl; have hcz35_2 : w34.cell? ⟨gb205, 2, none⟩ = some (.string a0_2) := (blk_cell BK205.out 2).trans rfl; have hcz35_3 : w34.cell? ⟨gb205, 3, none⟩ = some (.slice A0_3 l0_3.length c0_3) := (blk_cell BK205.out 3).trans rfl; have hfz35_0 := blk_frozen BK205.out 0; have hfz35_1 := blk_frozen BK205.out 1; have hfz35_2 := blk_frozen BK205.out 2; have hfz35_3 := blk_frozen BK205.out 3))
        go_ret
        exact ⟨by first | rfl | (simp [errW_none, errW_some] <;> rfl) | (simp [*, errW_none, errW_some] <;> rfl), by repeat (first | (with_reducible first | exact HB.out | apply below_alloc | apply pw_below_drewN | apply below_drew1 | refine below_set ?_ GE205.out) | exact HB.out)⟩

end Go.Proofs.Ytmccfpniolikhaa.P
