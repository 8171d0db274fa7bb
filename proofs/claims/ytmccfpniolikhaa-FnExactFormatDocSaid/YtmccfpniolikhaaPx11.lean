/- CONTRACTS: each theorem here says that a Go function of the program, called over the translation under the theorem's own hypotheses, returns what the Lean function beside it computes. Written by the session's program xprint.py. -/
import Derived.Test.YtmccfpniolikhaaPx0
namespace Go.Proofs.Ytmccfpniolikhaa.P
open Go.RowKit Go.Proofs.YtmccfpniolikhaaW.PrintWords Go.Proofs.YtmccfpniolikhaaW.PrintLast Go.Proofs.YtmccfpniolikhaaW.PrintMore
attribute [local go_sem] max2_int min2_int max_two min_two max_three min_three max_four min_four   -- for this text's walks alone
set_option linter.unusedVariables false
set_option linter.unusedSimpArgs false

/-! ### laws_toDoc: function 17 -/
/-! ### laws_toDocS: function 55 -/
mutual
def laws_toDoc.f : Nat → Int → Int → ByteArray → List (SLDoc) → Option (Int × Int × ByteArray × (List (SDoc)))
  | 0, _, _, _, _ => none
  | k + 1, a0_0, a0_1, a0_2, l0_3 => (laws_toDocS.f k l0_3).bind fun t139 => (some (a0_0, a0_1, a0_2, t139))
def laws_toDocS.l0 : Nat → List (SLDoc) → List (SDoc) → Int → Option ((List (SDoc)))
  | 0, _, _, _ => none
  | k + 1, x0, x3, x4 => if x4 < (x0.length : Int) then (if 0 ≤ x4 then ((laws_toDoc.f k ((rd_TLDoc x0 x4).f0) ((rd_TLDoc x0 x4).f1) ((rd_TLDoc x0 x4).f2) ((rd_TLDoc x0 x4).f3)).bind fun bt146 => (if x4 < (x3.length : Int) then (laws_toDocS.l0 k x0 (x3.set (x4 : Int).toNat (⟨bt146.1, bt146.2.1, bt146.2.2.1, bt146.2.2.2⟩ : SDoc)) (wrap64 (x4 + 1))) else (none))) else (none)) else (some x3)
def laws_toDocS.f : Nat → List (SLDoc) → Option ((List (SDoc)))
  | 0, _ => none
  | k + 1, l0 => if 0 ≤ (l0.length : Int) then (if ((l0.length : Int) : Int).toNat ≤ 5026338869833 then (laws_toDocS.l0 k l0 (List.replicate ((l0.length : Int) : Int).toNat zDoc) 0) else (none)) else (none)
end
theorem laws_toDoc.mono_g : ∀ k, (∀ y0 y1 y2 y3, LeO (laws_toDoc.f k y0 y1 y2 y3) (laws_toDoc.f (k + 1) y0 y1 y2 y3)) ∧ (∀ y0, LeO (laws_toDocS.f k y0) (laws_toDocS.f (k + 1) y0)) ∧ (∀ y0 y1 y2, LeO (laws_toDocS.l0 k y0 y1 y2) (laws_toDocS.l0 (k + 1) y0 y1 y2))
  | 0 => ⟨fun _ _ _ _ r h => by simp [laws_toDoc.f] at h, fun _ r h => by simp [laws_toDocS.f] at h, fun _ _ _ r h => by simp [laws_toDocS.l0] at h⟩
  | k + 1 => by
    obtain ⟨ih0, ih1, ih2⟩ := laws_toDoc.mono_g k
    refine ⟨?_, ?_, ?_⟩
    · intro y0 y1 y2 y3
      unfold laws_toDoc.f
      repeat' first
      | (with_reducible exact ih0 _ _ _ _)
      | (with_reducible exact ih1 _)
      | (with_reducible exact ih2 _ _ _)
      | (with_reducible exact LeO.refl _)
      | (with_reducible exact LeO.none _)
      | (with_reducible refine LeO.ite ?_ ?_)
      | (with_reducible refine LeO.bind ?_ (fun _ => ?_))
      | exact ih0 _ _ _ _
      | exact ih1 _
      | exact ih2 _ _ _
      | exact LeO.none _
      | refine LeO.ite ?_ ?_
      | refine LeO.bind ?_ (fun _ => ?_)
    · intro y0
      unfold laws_toDocS.f
      repeat' first
      | (with_reducible exact ih0 _ _ _ _)
      | (with_reducible exact ih1 _)
      | (with_reducible exact ih2 _ _ _)
      | (with_reducible exact LeO.refl _)
      | (with_reducible exact LeO.none _)
      | (with_reducible refine LeO.ite ?_ ?_)
      | (with_reducible refine LeO.bind ?_ (fun _ => ?_))
      | exact ih0 _ _ _ _
      | exact ih1 _
      | exact ih2 _ _ _
      | exact LeO.none _
      | refine LeO.ite ?_ ?_
      | refine LeO.bind ?_ (fun _ => ?_)
    · intro y0 y1 y2
      unfold laws_toDocS.l0
      repeat' first
      | (with_reducible exact ih0 _ _ _ _)
      | (with_reducible exact ih1 _)
      | (with_reducible exact ih2 _ _ _)
      | (with_reducible exact LeO.refl _)
      | (with_reducible exact LeO.none _)
      | (with_reducible refine LeO.ite ?_ ?_)
      | (with_reducible refine LeO.bind ?_ (fun _ => ?_))
      | exact ih0 _ _ _ _
      | exact ih1 _
      | exact ih2 _ _ _
      | exact LeO.none _
      | refine LeO.ite ?_ ?_
      | refine LeO.bind ?_ (fun _ => ?_)
theorem laws_toDoc.mono : ∀ a0 a1 a2 a3 k, LeO (laws_toDoc.f k a0 a1 a2 a3) (laws_toDoc.f (k + 1) a0 a1 a2 a3) := by
  intro a0 a1 a2 a3 k
  obtain ⟨ih0, ih1, ih2⟩ := laws_toDoc.mono_g k
  exact ih0 a0 a1 a2 a3
theorem laws_toDocS.mono : ∀ a0 k, LeO (laws_toDocS.f k a0) (laws_toDocS.f (k + 1) a0) := by
  intro a0 k
  obtain ⟨ih0, ih1, ih2⟩ := laws_toDoc.mono_g k
  exact ih1 a0
set_option maxHeartbeats 8000000 in
set_option maxRecDepth 100000 in
theorem laws_toDoc.calls_g (k : Nat) : (∀ (a0_0 : Int) (a0_1 : Int) (a0_2 : ByteArray) (A0_3 : Option Addr) (c0_3 : Nat) (l0_3 : List (SLDoc)) (r1 : Int) (r2 : Int) (r3 : ByteArray) (r4 : List (SDoc)) (w : World) (hr0_3 : Kd.C k24 w A0_3 l0_3.length l0_3) (hc0_3 : l0_3.length ≤ c0_3) (h : laws_toDoc.f k a0_0 a0_1 a0_2 l0_3 = some (r1, r2, r3, r4)),
    Calls Try.prog 17 #[.agg #[.int .i64 a0_0, .int .i64 a0_1, .string a0_2, .slice A0_3 l0_3.length c0_3]] w fun e w' => ∃ v3_ : Value, e = .returned (.agg #[.int .i64 r1, .int .i64 r2, .string r3, v3_]) ∧ Kd.R k29 29 w' w.heap.size (fun _ => True) v3_ r4 ∧ Below w.heap.size w w') ∧
    (∀ (A0 : Option Addr) (c0 : Nat) (l0 : List (SLDoc)) (r : List (SDoc)) (w : World) (hr0 : Kd.C k24 w A0 l0.length l0) (hc0 : l0.length ≤ c0) (h : laws_toDocS.f k l0 = some r),
    Calls Try.prog 55 #[.slice A0 l0.length c0] w fun e w' => ∃ v0_ : Value, e = .returned (v0_) ∧ Kd.R k29 29 w' w.heap.size (fun _ => True) v0_ r ∧ Below w.heap.size w w') := by
  induction k using Nat.strongRecOn with
  | _ k ih0 =>
  refine ⟨?_, ?_⟩
  · have ih := fun (m_ : Nat) (hm_ : m_ < k) => (ih0 m_ hm_).1
    have ih_laws_toDocS := fun (m_ : Nat) (hm_ : m_ < k) => (ih0 m_ hm_).2
    clear ih0
    intro a0_0 a0_1 a0_2 A0_3 c0_3 l0_3 r1 r2 r3 r4 w hr0_3 hc0_3 h
    cases k with
    | zero => exact absurd h (by simp [laws_toDoc.f])
    | succ k =>
    simp only [laws_toDoc.f] at h
    have hu24 := Try.underlying24
    have hu29 := Try.underlying29
    have HR0_3 := Aside0.mk hr0_3
    have HC0_3 := Aside0.mk hc0_3
    clear hr0_3 hc0_3
    have HB := Aside0.mk (Below.refl w.heap.size w)
    have H : ((laws_toDocS.f k l0_3).bind fun t139 => (some (a0_0, a0_1, a0_2, t139))) = some (r1, r2, r3, r4) := h
    clear h
    replace H := Option.bind_eq_some_iff.mp H
    obtain ⟨t139, A20, H⟩ := H
    replace H : (some (a0_0, a0_1, a0_2, t139)) = some (r1, r2, r3, r4) := H
    have A2 := Aside0.mk A20
    clear A20
    simp only [Option.some.injEq, Prod.mk.injEq] at H
    obtain ⟨rfl, rfl, rfl, rfl⟩ := H
    go_enter Try.func17, Try.ntmps17
    go_wp2_with (first | ((with_reducible refine gate_dst (N := 1) rfl ?_); refine box_event ?hg (N := 1) ?hd (cs := #[.int .i64 a0_0, .int .i64 a0_1, .string a0_2, .slice A0_3 l0_3.length c0_3]) (t := 24) ?hr ?_; (case hd => rfl); (case hg => rfl); (case hr => first | (go_simp; done) | (go_simp; rfl)); intro gb136 hg w3 hbox hb; have n0_ := Aside0.mk (below_step (by repeat (first | (with_reducible first | exact HB.out | apply below_alloc | apply pw_below_drewN | apply below_drew1) | exact HB.out)) hb); have n1_ := Aside0.mk (hbox); have n2_ := Aside0.mk ((by rw [hg]; exact (below_size (by repeat (first | (with_reducible first | exact HB.out | apply below_alloc | apply pw_below_drewN | apply below_drew1) | exact HB.out))) : w.heap.size ≤ gb136)); have n3_ := Aside0.mk ((by rw [hg]; exact (below_size (by repeat (first | (with_reducible first | exact HB.out | apply below_alloc | apply pw_below_drewN | apply below_drew1) | exact HB.out))) : w.heap.size ≤ gb136)); clear HB; have HB := n0_; have BK136 := n1_; have GW136 := n2_; have GE136 := n3_; clear n0_ n1_ n2_ n3_; clear hb hbox hg) | ((with_reducible refine gate_dst (N := 2) rfl ?_); refine box_event ?hg (N := 2) ?hd (cs := #[.int .i64 0, .int .i64 0, .string (⟨#[]⟩ : ByteArray), .slice none 0 0]) (t := 29) ?hr ?_; (case hd => rfl); (case hg => rfl); (case hr => first | (go_simp; done) | (go_simp; rfl)); intro gb137 hg w4 hbox hb; have n0_ := Aside0.mk (blk_below (g := gb136) (o := .cells #[.int .i64 a0_0, .int .i64 a0_1, .string a0_2, .slice A0_3 l0_3.length c0_3] 24 (0, 0)) (by (with_reducible repeat (first | refine blk_drewN ?_ _ | refine blk_drew ?_ | refine blk_alloc ?_ _)); exact BK136.out) hb); have n1_ := Aside0.mk (below_step (by repeat (first | (with_reducible first | exact HB.out | apply below_alloc | apply pw_below_drewN | apply below_drew1 | refine below_set ?_ GE136.out) | exact HB.out)) hb); have n2_ := Aside0.mk (hbox); have n3_ := Aside0.mk ((by rw [hg]; exact (below_size (by repeat (first | (with_reducible first | exact HB.out | apply below_alloc | apply pw_below_drewN | apply below_drew1 | refine below_set ?_ GE136.out) | exact HB.out))) : w.heap.size ≤ gb137)); have n4_ := Aside0.mk ((by rw [hg]; exact (below_size (by repeat (first | (with_reducible first | exact HB.out | apply below_alloc | apply pw_below_drewN | apply below_drew1 | refine below_set ?_ GE136.out) | exact HB.out))) : w.heap.size ≤ gb137)); have n5_ := Aside0.mk ((by rw [hg]; exact Nat.ne_of_lt (blk_lt (g := gb136) (o := .cells #[.int .i64 a0_0, .int .i64 a0_1, .string a0_2, .slice A0_3 l0_3.length c0_3] 24 (0, 0)) (by (with_reducible repeat (first | refine blk_drewN ?_ _ | refine blk_drew ?_ | refine blk_alloc ?_ _)); exact BK136.out)) : gb136 ≠ gb137)); have n6_ := Aside0.mk ((by rw [hg]; exact Nat.ne_of_gt (blk_lt (g := gb136) (o := .cells #[.int .i64 a0_0, .int .i64 a0_1, .string a0_2, .slice A0_3 l0_3.length c0_3] 24 (0, 0)) (by (with_reducible repeat (first | refine blk_drewN ?_ _ | refine blk_drew ?_ | refine blk_alloc ?_ _)); exact BK136.out)) : gb137 ≠ gb136)); clear BK136; clear HB; have BK136 := n0_; have HB := n1_; have BK137 := n2_; have GW137 := n3_; have GE137 := n4_; have NB136_137 := n5_; have NB137_136 := n6_; clear n0_ n1_ n2_ n3_ n4_ n5_ n6_; clear hb hbox hg) | ((with_reducible refine gate_dst (N := 3) rfl ?_); refine box_event ?hg (N := 3) ?hd (cs := #[.int .i64 0, .int .i64 0, .string (⟨#[]⟩ : ByteArray), .slice none 0 0]) (t := 29) ?hr ?_; (case hd => rfl); (case hg => rfl); (case hr => first | (go_simp; done) | (go_simp; rfl)); intro gb138 hg w5 hbox hb; have n0_ := Aside0.mk (blk_below (g := gb136) (o := .cells #[.int .i64 a0_0, .int .i64 a0_1, .string a0_2, .slice A0_3 l0_3.length c0_3] 24 (0, 0)) (by (with_reducible repeat (first | refine blk_drewN ?_ _ | refine blk_drew ?_ | refine blk_alloc ?_ _)); exact BK136.out) hb); have n1_ := Aside0.mk (blk_below (g := gb137) (o := .cells #[.int .i64 0, .int .i64 0, .string (⟨#[]⟩ : ByteArray), .slice none 0 0] 29 (0, 0)) (by (with_reducible repeat (first | refine blk_drewN ?_ _ | refine blk_drew ?_ | refine blk_alloc ?_ _)); exact BK137.out) hb); have n2_ := Aside0.mk (below_step (by repeat (first | (with_reducible first | exact HB.out | apply below_alloc | apply pw_below_drewN | apply below_drew1 | refine below_set ?_ GE136.out | refine below_set ?_ GE137.out) | exact HB.out)) hb); have n3_ := Aside0.mk (hbox); have n4_ := Aside0.mk ((by rw [hg]; exact (below_size (by repeat (first | (with_reducible first | exact HB.out | apply below_alloc | apply pw_below_drewN | apply below_drew1 | refine below_set ?_ GE136.out | refine below_set ?_ GE137.out) | exact HB.out))) : w.heap.size ≤ gb138)); have n5_ := Aside0.mk ((by rw [hg]; exact (below_size (by repeat (first | (with_reducible first | exact HB.out | apply below_alloc | apply pw_below_drewN | apply below_drew1 | refine below_set ?_ GE136.out | refine below_set ?_ GE137.out) | exact HB.out))) : w.heap.size ≤ gb138)); have n6_ := Aside0.mk ((by rw [hg]; exact Nat.ne_of_lt (blk_lt (g := gb136) (o := .cells #[.int .i64 a0_0, .int .i64 a0_1, .string a0_2, .slice A0_3 l0_3.length c0_3] 24 (0, 0)) (by (with_reducible repeat (first | refine blk_drewN ?_ _ | refine blk_drew ?_ | refine blk_alloc ?_ _)); exact BK136.out)) : gb136 ≠ gb138)); have n7_ := Aside0.mk ((by rw [hg]; exact Nat.ne_of_gt (blk_lt (g := gb136) (o := .cells #[.int .i64 a0_0, .int .i64 a0_1, .string a0_2, .slice A0_3 l0_3.length c0_3] 24 (0, 0)) (by (with_reducible repeat (first | refine blk_drewN ?_ _ | refine blk_drew ?_ | refine blk_alloc ?_ _)); exact BK136.out)) : gb138 ≠ gb136)); have n8_ := Aside0.mk ((by rw [hg]; exact Nat.ne_of_lt (blk_lt (g := gb137) (o := .cells #[.int .i64 0, .int .i64 0, .string (⟨#[]⟩ : ByteArray), .slice none 0 0] 29 (0, 0)) (by (with_reducible repeat (first | refine blk_drewN ?_ _ | refine blk_drew ?_ | refine blk_alloc ?_ _)); exact BK137.out)) : gb137 ≠ gb138)); have n9_ := Aside0.mk ((by rw [hg]; exact Nat.ne_of_gt (blk_lt (g := gb137) (o := .cells #[.int .i64 0, .int .i64 0, .string (⟨#[]⟩ : ByteArray), .slice none 0 0] 29 (0, 0)) (by (with_reducible repeat (first | refine blk_drewN ?_ _ | refine blk_drew ?_ | refine blk_alloc ?_ _)); exact BK137.out)) : gb138 ≠ gb137)); clear BK136; clear BK137; clear HB; have BK136 := n0_; have BK137 := n1_; have HB := n2_; have BK138 := n3_; have GW138 := n4_; have GE138 := n5_; have NB136_138 := n6_; have NB138_136 := n7_; have NB137_138 := n8_; have NB138_137 := n9_; clear n0_ n1_ n2_ n3_ n4_ n5_ n6_ n7_ n8_ n9_; clear hb hbox hg; have hnb6 := NB136_137.out; have hnc6 := NB137_136.out; have hnb7 := NB136_138.out; have hnc7 := NB138_136.out; have hcz8_0 : w5.cell? ⟨gb136, 0, none⟩ = some (.int .i64 a0_0) := (blk_cell BK136.out 0).trans rfl; have hcz8_1 : w5.cell? ⟨gb136, 1, none⟩ = some (.int .i64 a0_1) := (blk_cell BK136.out 1).trans rfl; have hcz8_2 : w5.cell? ⟨gb136, 2, none⟩ = some (.string a0_2) := (blk_cell BK136.out 2).trans rfl; have hcz8_3 : w5.cell? ⟨gb136, 3, none⟩ = some (.slice A0_3 l0_3.length c0_3) := (blk_cell BK136.out 3).trans rfl; have hfz8_0 := blk_frozen BK136.out 0; have hfz8_1 := blk_frozen BK136.out 1; have hfz8_2 := blk_frozen BK136.out 2; have hfz8_3 := blk_frozen BK136.out 3; have hnb9 := NB138_137.out; have hnc9 := NB137_138.out; have hcz10_0 : w5.cell? ⟨gb138, 0, none⟩ = some (.int .i64 0) := (blk_cell BK138.out 0).trans rfl; have hcz10_1 : w5.cell? ⟨gb138, 1, none⟩ = some (.int .i64 0) := (blk_cell BK138.out 1).trans rfl; have hcz10_2 : w5.cell? ⟨gb138, 2, none⟩ = some (.string (⟨#[]⟩ : ByteArray)) := (blk_cell BK138.out 2).trans rfl; have hcz10_3 : w5.cell? ⟨gb138, 3, none⟩ = some (.slice none 0 0) := (blk_cell BK138.out 3).trans rfl; have hfz10_0 := blk_frozen BK138.out 0; have hfz10_1 := blk_frozen BK138.out 1; have hfz10_2 := blk_frozen BK138.out 2; have hfz10_3 := blk_frozen BK138.out 3) | ((with_reducible refine gate_callee (f := 55) rfl ?_); refine goesL_ (some 15) rfl rfl Try.func55 (by kernel_rfl) rfl #[.slice A0_3 l0_3.length c0_3] rfl (by (try simp only [List.map_toArray, List.map_cons, List.map_nil]); first | done | rfl | (simp only [List.length_drop, List.length_take]; rfl)) ?_; (with_reducible refine (ih_laws_toDocS k (by omega) _ _ l0_3 t139 _ ?side1 ?side2 A2.out).mono ?_); (case side1 => exact Kd.C_below HR0_3.out (by repeat (first | (with_reducible first | exact HB.out | apply below_alloc | apply pw_below_drewN | apply below_drew1 | refine below_set ?_ GE136.out | refine below_set ?_ GE137.out | refine below_set ?_ GE138.out) | exact HB.out))); (case side2 => exact HC0_3.out); rintro e w11 ⟨v140, rfl, ho0, hb⟩; refine ⟨_, rfl, ?_⟩; have n0_ := Aside0.mk (Kd.R_lower (Kd.R_newB (Kd.R_newB ho0 (g := gb137) (o := .cells #[.int .i64 0, .int .i64 0, .string (⟨#[]⟩ : ByteArray), .slice none 0 0] 29 (0, 0)) (by (with_reducible repeat (first | refine blk_drewN ?_ _ | refine blk_drew ?_ | refine blk_alloc ?_ _)); refine blk_far ?_ NB137_138.out _; (with_reducible repeat (first | refine blk_drewN ?_ _ | refine blk_drew ?_ | refine blk_alloc ?_ _)); refine blk_far ?_ NB137_138.out _; (with_reducible repeat (first | refine blk_drewN ?_ _ | refine blk_drew ?_ | refine blk_alloc ?_ _)); refine blk_far ?_ NB137_138.out _; (with_reducible repeat (first | refine blk_drewN ?_ _ | refine blk_drew ?_ | refine blk_alloc ?_ _)); exact BK137.out)) (g := gb138) (o := .cells #[.int .i64 a0_0, .int .i64 a0_1, .string a0_2, .slice none 0 0] 29 (0, 0)) (by (with_reducible repeat (first | refine blk_drewN ?_ _ | refine blk_drew ?_ | refine blk_alloc ?_ _)); refine blk_put (cs := #[.int .i64 a0_0, .int .i64 a0_1, .string (⟨#[]⟩ : ByteArray), .slice none 0 0]) ?_ 2 _ rfl; (with_reducible repeat (first | refine blk_drewN ?_ _ | refine blk_drew ?_ | refine blk_alloc ?_ _)); refine blk_put (cs := #[.int .i64 a0_0, .int .i64 0, .string (⟨#[]⟩ : ByteArray), .slice none 0 0]) ?_ 1 _ rfl; (with_reducible repeat (first | refine blk_drewN ?_ _ | refine blk_drew ?_ | refine blk_alloc ?_ _)); refine blk_put (cs := #[.int .i64 0, .int .i64 0, .string (⟨#[]⟩ : ByteArray), .slice none 0 0]) ?_ 0 _ rfl; (with_reducible repeat (first | refine blk_drewN ?_ _ | refine blk_drew ?_ | refine blk_alloc ?_ _)); exact BK138.out)) (below_size (by repeat (first | (with_reducible first | exact HB.out | apply below_alloc | apply pw_below_drewN | apply below_drew1 | refine below_set ?_ GE136.out | refine below_set ?_ GE137.out | refine below_set ?_ GE138.out) | exact HB.out)))); have n1_ := Aside0.mk (blk_below (g := gb136) (o := .cells #[.int .i64 a0_0, .int .i64 a0_1, .string a0_2, .slice A0_3 l0_3.length c0_3] 24 (0, 0)) (by (with_reducible repeat (first | refine blk_drewN ?_ _ | refine blk_drew ?_ | refine blk_alloc ?_ _)); refine blk_far ?_ NB136_138.out _; (with_reducible repeat (first | refine blk_drewN ?_ _ | refine blk_drew ?_ | refine blk_alloc ?_ _)); refine blk_far ?_ NB136_138.out _; (with_reducible repeat (first | refine blk_drewN ?_ _ | refine blk_drew ?_ | refine blk_alloc ?_ _)); refine blk_far ?_ NB136_138.out _; (with_reducible repeat (first | refine blk_drewN ?_ _ | refine blk_drew ?_ | refine blk_alloc ?_ _)); exact BK136.out) hb); have n2_ := Aside0.mk (blk_below (g := gb137) (o := .cells #[.int .i64 0, .int .i64 0, .string (⟨#[]⟩ : ByteArray), .slice none 0 0] 29 (0, 0)) (by (with_reducible repeat (first | refine blk_drewN ?_ _ | refine blk_drew ?_ | refine blk_alloc ?_ _)); refine blk_far ?_ NB137_138.out _; (with_reducible repeat (first | refine blk_drewN ?_ _ | refine blk_drew ?_ | refine blk_alloc ?_ _)); refine blk_far ?_ NB137_138.out _; (with_reducible repeat (first | refine blk_drewN ?_ _ | refine blk_drew ?_ | refine blk_alloc ?_ _)); refine blk_far ?_ NB137_138.out _; (with_reducible repeat (first | refine blk_drewN ?_ _ | refine blk_drew ?_ | refine blk_alloc ?_ _)); exact BK137.out) hb); have n3_ := Aside0.mk (blk_below (g := gb138) (o := .cells #[.int .i64 a0_0, .int .i64 a0_1, .string a0_2, .slice none 0 0] 29 (0, 0)) (by (with_reducible repeat (first | refine blk_drewN ?_ _ | refine blk_drew ?_ | refine blk_alloc ?_ _)); refine blk_put (cs := #[.int .i64 a0_0, .int .i64 a0_1, .string (⟨#[]⟩ : ByteArray), .slice none 0 0]) ?_ 2 _ rfl; (with_reducible repeat (first | refine blk_drewN ?_ _ | refine blk_drew ?_ | refine blk_alloc ?_ _)); refine blk_put (cs := #[.int .i64 a0_0, .int .i64 0, .string (⟨#[]⟩ : ByteArray), .slice none 0 0]) ?_ 1 _ rfl; (with_reducible repeat (first | refine blk_drewN ?_ _ | refine blk_drew ?_ | refine blk_alloc ?_ _)); refine blk_put (cs := #[.int .i64 0, .int .i64 0, .string (⟨#[]⟩ : ByteArray), .slice none 0 0]) ?_ 0 _ rfl; (with_reducible repeat (first | refine blk_drewN ?_ _ | refine blk_drew ?_ | refine blk_alloc ?_ _)); exact BK138.out) hb); have n4_ := Aside0.mk (below_step (by repeat (first | (with_reducible first | exact HB.out | apply below_alloc | apply pw_below_drewN | apply below_drew1 | refine below_set ?_ GE136.out | refine below_set ?_ GE137.out | refine below_set ?_ GE138.out) | exact HB.out)) hb); clear BK136; clear BK137; clear BK138; clear HB; have HO141 := n0_; have BK136 := n1_; have BK137 := n2_; have BK138 := n3_; have HB := n4_; clear n0_ n1_ n2_ n3_ n4_; (try clear hb); (try clear hb2); (try clear hk); (try clear hi); (try clear ho0); obtain ⟨Ao12, co12, eo12⟩ := Kd.R_slice HO141.out; subst eo12; have hcz13_0 : w11.cell? ⟨gb138, 0, none⟩ = some (.int .i64 a0_0) := (blk_cell BK138.out 0).trans rfl; have hcz13_1 : w11.cell? ⟨gb138, 1, none⟩ = some (.int .i64 a0_1) := (blk_cell BK138.out 1).trans rfl; have hcz13_2 : w11.cell? ⟨gb138, 2, none⟩ = some (.string a0_2) := (blk_cell BK138.out 2).trans rfl; have hcz13_3 : w11.cell? ⟨gb138, 3, none⟩ = some (.slice none 0 0) := (blk_cell BK138.out 3).trans rfl; have hfz13_0 := blk_frozen BK138.out 0; have hfz13_1 := blk_frozen BK138.out 1; have hfz13_2 := blk_frozen BK138.out 2; have hfz13_3 := blk_frozen BK138.out 3; have hcz14_0 : w11.cell? ⟨gb137, 0, none⟩ = some (.int .i64 0) := (blk_cell BK137.out 0).trans rfl; have hcz14_1 : w11.cell? ⟨gb137, 1, none⟩ = some (.int .i64 0) := (blk_cell BK137.out 1).trans rfl; have hcz14_2 : w11.cell? ⟨gb137, 2, none⟩ = some (.string (⟨#[]⟩ : ByteArray)) := (blk_cell BK137.out 2).trans rfl; have hcz14_3 : w11.cell? ⟨gb137, 3, none⟩ = some (.slice none 0 0) := (blk_cell BK137.out 3).trans rfl; have hfz14_0 := blk_frozen BK137.out 0; have hfz14_1 := blk_frozen BK137.out 1; have hfz14_2 := blk_frozen BK137.out 2; have hfz14_3 := blk_frozen BK137.out 3))
    refine bodyPost_ret (results_cell_row rfl _ _ gb137 29 #[.int .i64 a0_0, .int .i64 a0_1, .string a0_2, .slice Ao12 t139.length co12] (0, 0) _ rfl (by (with_reducible repeat (first | refine blk_drewN ?_ _ | refine blk_drew ?_ | refine blk_alloc ?_ _)); refine blk_put (cs := #[.int .i64 a0_0, .int .i64 a0_1, .string a0_2, .slice none 0 0]) ?_ 3 _ rfl; (with_reducible repeat (first | refine blk_drewN ?_ _ | refine blk_drew ?_ | refine blk_alloc ?_ _)); refine blk_put (cs := #[.int .i64 a0_0, .int .i64 a0_1, .string (⟨#[]⟩ : ByteArray), .slice none 0 0]) ?_ 2 _ rfl; (with_reducible repeat (first | refine blk_drewN ?_ _ | refine blk_drew ?_ | refine blk_alloc ?_ _)); refine blk_put (cs := #[.int .i64 a0_0, .int .i64 0, .string (⟨#[]⟩ : ByteArray), .slice none 0 0]) ?_ 1 _ rfl; (with_reducible repeat (first | refine blk_drewN ?_ _ | refine blk_drew ?_ | refine blk_alloc ?_ _)); refine blk_put (cs := #[.int .i64 0, .int .i64 0, .string (⟨#[]⟩ : ByteArray), .slice none 0 0]) ?_ 0 _ rfl; (with_reducible repeat (first | refine blk_drewN ?_ _ | refine blk_drew ?_ | refine blk_alloc ?_ _)); refine blk_far ?_ NB137_138.out _; (with_reducible repeat (first | refine blk_drewN ?_ _ | refine blk_drew ?_ | refine blk_alloc ?_ _)); exact BK137.out) Try.underlying29 rfl (by kernel_rfl)) rfl ?_
    exact ⟨_, by first | rfl | (simp [errW_none, errW_some] <;> rfl) | (simp [*, errW_none, errW_some] <;> rfl), by (with_reducible repeat (first | apply Kd.R_alloc | apply Kd.R_drewN | apply Kd.R_drew)); exact Kd.R_mono (Kd.R_far (p := ⟨gb137, 3, none⟩) (Kd.R_far (p := ⟨gb137, 2, none⟩) (Kd.R_far (p := ⟨gb137, 1, none⟩) (Kd.R_far (p := ⟨gb137, 0, none⟩) (Kd.R_far (p := ⟨gb138, 3, none⟩) (Kd.R_mono (Kd.R_mono HO141.out (fun k_ hk => (⟨hk, hk.2⟩ : _ ∧ k_ ≠ gb138))) (fun k_ hk => (⟨hk, hk.1.1.2⟩ : _ ∧ k_ ≠ gb137))) (fun _ hk => hk.1.2) (.slice Ao12 t139.length co12)) (fun _ hk => hk.2) (.int .i64 a0_0)) (fun _ hk => hk.2) (.int .i64 a0_1)) (fun _ hk => hk.2) (.string a0_2)) (fun _ hk => hk.2) (.slice Ao12 t139.length co12)) (fun _ hk => trivial), by repeat (first | (with_reducible first | exact HB.out | apply below_alloc | apply pw_below_drewN | apply below_drew1 | refine below_set ?_ GE136.out | refine below_set ?_ GE137.out | refine below_set ?_ GE138.out) | exact HB.out)⟩
  · have ih_laws_toDoc := fun (m_ : Nat) (hm_ : m_ < k) => (ih0 m_ hm_).1
    have ih := fun (m_ : Nat) (hm_ : m_ < k) => (ih0 m_ hm_).2
    clear ih0
    intro A0 c0 l0 r w hr0 hc0 h
    cases k with
    | zero => exact absurd h (by simp [laws_toDocS.f])
    | succ k =>
    simp only [laws_toDocS.f] at h
    have hu24 := Try.underlying24
    have hu29 := Try.underlying29
    have HR0 := Aside0.mk hr0
    have HC0 := Aside0.mk hc0
    clear hr0 hc0
    have HB := Aside0.mk (Below.refl w.heap.size w)
    have H : (if 0 ≤ (l0.length : Int) then (if ((l0.length : Int) : Int).toNat ≤ 5026338869833 then (laws_toDocS.l0 k l0 (List.replicate ((l0.length : Int) : Int).toNat zDoc) 0) else (none)) else (none)) = some r := h
    clear h
    by_cases c2 : 0 ≤ (l0.length : Int)
    · rw [if_pos c2] at H
      have c2b0 := eq_true c2
      have c2b1 : decide (0 ≤ (l0.length : Int)) = true := decide_eq_true c2
      clear c2
      by_cases c3 : ((l0.length : Int) : Int).toNat ≤ 5026338869833
      · rw [if_pos c3] at H
        have c3b0 := eq_true c3
        have c3b1 : decide (((l0.length : Int) : Int).toNat ≤ 5026338869833) = true := decide_eq_true c3
        clear c3
        obtain ⟨y142, hy142⟩ : ∃ y_ : List (SDoc), y_ = (List.replicate ((l0.length : Int) : Int).toNat zDoc) := ⟨_, rfl⟩
        replace H : (laws_toDocS.l0 k l0 y142 0) = some r := by first | (rw [hy142]; with_reducible exact H) | (have H2_ := (Option.bind_some _ _).symm.trans H; rw [hy142]; with_reducible exact H2_) | (have H2_ := (Option.bind_some _ _).symm.trans H; with_reducible exact H2_) | with_reducible exact H | (rw [hy142]; exact H) | exact H
        have Ny142 := Aside0.mk hy142
        clear hy142
        have H' := Aside0.mk H
        clear H
        go_enter Try.func55, Try.ntmps55
        go_wp2_with (first | ((with_reducible refine gate_dst (N := 7) rfl ?_); refine Kd.R_make k29 _ 29 rfl (N := 7) rfl 27 _ _ rfl (l0.length : Int) rfl rfl Try.underlying27 (.agg #[(.int .i64 0), (.int .i64 0), (.string ⟨#[]⟩), (.slice none 0 0)]) 56 info29 rfl (by decide) (by omega) zDoc (ok := fun _ => True) (okp := fun _ => True) (k29_mkM _ _ _ zDoc (Kd.R_nil _ _ _ _ _)) (fun _ hk => hk) trivial (of_decide_eq_true (by first | (with_reducible assumption) | assumption)) (Nat.le_trans (Nat.mul_le_mul_right _ (of_decide_eq_true (by first | (with_reducible assumption) | assumption) : (l0.length : Int).toNat ≤ 5026338869833)) (by omega)) (Below.refl _ _) (Nat.le_refl _) ?_; intro v143 w4 ho5 hb hg_ hnew_; clear hg_ hnew_; (first | rw [← Ny142.out] at ho5 | (simp only [Int.reduceToNat] at ho5; rw [← Ny142.out] at ho5)); have n0_ := Aside0.mk (Kd.R_lower ho5 (below_size (by repeat (first | (with_reducible first | exact HB.out | apply below_alloc | apply pw_below_drewN | apply below_drew1) | exact HB.out)))); have n1_ := Aside0.mk (below_step (by repeat (first | (with_reducible first | exact HB.out | apply below_alloc | apply pw_below_drewN | apply below_drew1) | exact HB.out)) hb); clear HB; have HO144 := n0_; have HB := n1_; clear n0_ n1_; clear hb ho5))
        go_loopg [4] k (fun kq v4 w' => ∃ (x3_1 : List (SDoc)) (x4_1 : Int), v4 = .int .i64 x4_1 ∧ Aside0 (laws_toDocS.l0 kq l0 x3_1 x4_1 = some r) ∧ Aside0 (kq ≤ k) ∧ Aside0 (Kd.R k29 29 w' w.heap.size (fun _ => True) v143 x3_1) ∧ Aside0 (Below w.heap.size w w'))
        case atStart => exact ⟨(y142), (0), (by first | rfl | (simp; done) | (simp [*]; done)), H', ⟨Nat.le_refl _⟩, ⟨by (with_reducible repeat (first | apply Kd.R_alloc | apply Kd.R_drewN | apply Kd.R_drew)); exact HO144.out⟩, ⟨by repeat (first | (with_reducible first | exact HB.out | apply below_alloc | apply pw_below_drewN | apply below_drew1) | exact HB.out)⟩⟩
        case round =>
          clear H'
          try clear c2
          try clear c2b0
          try clear c2b1
          try clear p2
          try clear c3
          try clear c3b0
          try clear c3b1
          try clear c5
          (try clear HO_3); (try clear HB)
          obtain ⟨x3_1, x4_1, rfl, HA, HK1, HO_3, HB⟩ := hrel
          cases gk with
          | zero => exact absurd HA.out (by simp [laws_toDocS.l0])
          | succ k1 =>
            have H := HA.out
            clear HA
            simp only [laws_toDocS.l0] at H
            by_cases c6 : x4_1 < (l0.length : Int)
            · rw [if_pos c6] at H
              have c6b0 : decide (x4_1 < (l0.length : Int)) = true := decide_eq_true c6
              clear c6
              by_cases c7 : 0 ≤ x4_1
              · rw [if_pos c7] at H
                have c7b0 : decide (0 ≤ x4_1) = true := decide_eq_true c7
                clear c7
                replace H := Option.bind_eq_some_iff.mp H
                obtain ⟨⟨t146, t147, t148, t149⟩, A80, H⟩ := H
                replace H : (if x4_1 < (x3_1.length : Int) then (laws_toDocS.l0 k1 l0 (x3_1.set (x4_1 : Int).toNat (⟨t146, t147, t148, t149⟩ : SDoc)) (wrap64 (x4_1 + 1))) else (none)) = some r := H
                have A8 := Aside0.mk A80
                clear A80
                by_cases c9 : x4_1 < (x3_1.length : Int)
                · rw [if_pos c9] at H
                  have c9b0 : decide (x4_1 < (x3_1.length : Int)) = true := decide_eq_true c9
                  clear c9
                  obtain ⟨y152, hy152⟩ : ∃ y_ : List (SDoc), y_ = (x3_1.set (x4_1 : Int).toNat (⟨t146, t147, t148, t149⟩ : SDoc)) := ⟨_, rfl⟩
                  replace H : (laws_toDocS.l0 k1 l0 y152 (wrap64 (x4_1 + 1))) = some r := by first | (rw [hy152]; with_reducible exact H) | (have H2_ := (Option.bind_some _ _).symm.trans H; rw [hy152]; with_reducible exact H2_) | (have H2_ := (Option.bind_some _ _).symm.trans H; with_reducible exact H2_) | with_reducible exact H | (rw [hy152]; exact H) | exact H
                  have Ny152 := Aside0.mk hy152
                  clear hy152
                  have H' := Aside0.mk H
                  clear H
                  have p145 : 0 ≤ (x4_1 : Int) := of_decide_eq_true (by first | (with_reducible assumption) | assumption)
                  have q145 : x4_1 < (l0.length : Int) := of_decide_eq_true (by first | (with_reducible assumption) | assumption)
                  obtain ⟨ad145, A145_3, c145_3, e145, hx145_0, hx145_1, hx145_2, hx145_3, hl145_3, hi145_3⟩ := at_TLDoc HR0.out x4_1 p145 q145
                  cases e145
                  replace hx145_0 := (HB.out.cell (World.block_lt_of_cell? w _ hx145_0)).trans hx145_0
                  replace hx145_1 := (HB.out.cell (World.block_lt_of_cell? w _ hx145_1)).trans hx145_1
                  replace hx145_2 := (HB.out.cell (World.block_lt_of_cell? w _ hx145_2)).trans hx145_2
                  replace hx145_3 := (HB.out.cell (World.block_lt_of_cell? w _ hx145_3)).trans hx145_3
                  have HR145_3 := Aside0.mk hi145_3
                  have HC145_3 := Aside0.mk hl145_3
                  clear hi145_3 hl145_3
                  replace p145 := eq_true p145
                  replace q145 := eq_true q145
                  go_wp2_with (first | ((with_reducible refine gate_callee (f := 17) rfl ?_); refine goesL_ (some 20) rfl rfl Try.func17 (by kernel_rfl) rfl #[.agg #[.int .i64 ((rd_TLDoc l0 x4_1).f0), .int .i64 ((rd_TLDoc l0 x4_1).f1), .string ((rd_TLDoc l0 x4_1).f2), .slice A145_3 ((rd_TLDoc l0 x4_1).f3).length c145_3]] rfl (by (try simp only [List.map_toArray, List.map_cons, List.map_nil]); first | done | rfl | (simp only [List.length_drop, List.length_take]; rfl)) ?_; (with_reducible refine (ih_laws_toDoc k1 (by have := HK1.out; omega) ((rd_TLDoc l0 x4_1).f0) ((rd_TLDoc l0 x4_1).f1) ((rd_TLDoc l0 x4_1).f2) _ _ ((rd_TLDoc l0 x4_1).f3) t146 t147 t148 t149 _ ?side1 ?side2 A8.out).mono ?_); (case side1 => repeat (first | exact (Kd.C_below HR145_3.out HB.out) | (with_reducible refine Kd.C_alloc ?_ _) | (with_reducible refine Kd.C_drewN ?_ _) | (with_reducible refine Kd.C_drew ?_))); (case side2 => exact HC145_3.out); rintro e w11 ⟨v150, rfl, ho0, hb⟩; refine ⟨_, rfl, ?_⟩; have n0_ := Aside0.mk (Kd.R_elder' (by (with_reducible repeat (first | apply Kd.R_alloc | apply Kd.R_drewN | apply Kd.R_drew)); exact HO_3.out) (Kd.R_base ho0) hb); have n1_ := Aside0.mk (Kd.R_lower (Kd.R_new' ho0 (Kd.R_lt (by (with_reducible repeat (first | apply Kd.R_alloc | apply Kd.R_drewN | apply Kd.R_drew)); exact HO_3.out))) (below_size (by repeat (first | (with_reducible first | exact HB.out | apply below_alloc | apply pw_below_drewN | apply below_drew1) | exact HB.out)))); have n2_ := Aside0.mk (below_step (by repeat (first | (with_reducible first | exact HB.out | apply below_alloc | apply pw_below_drewN | apply below_drew1) | exact HB.out)) hb); clear HO_3; clear HB; have HO_3 := n0_; have HO151 := n1_; have HB := n2_; clear n0_ n1_ n2_; (try clear hb); (try clear hb2); (try clear hk); (try clear hi); (try clear ho0); have p10 : 0 ≤ (x4_1 : Int) := of_decide_eq_true (by first | (with_reducible assumption) | assumption); have q10 : (x4_1 : Int) < ((x3_1.length : Int) : Int) := of_decide_eq_true (by first | (with_reducible assumption) | assumption); obtain ⟨go10, co10, eo10, gb10, gl10, cl10, HG10⟩ := Kd.R_form HO_3.out (by omega); (first | cases eo10 | (injection eo10 with ea_ en_ ec_; (first | subst ea_ | (injection ea_ with ea_; subst ea_)); subst ec_; clear en_)); have GB10 := Aside0.mk gb10; have GG10 := Aside0.mk HG10; clear gb10 gl10 HG10; obtain ⟨ce10, hcl10, hM10, hcc10, hfr10⟩ := Kd.R_elem HO_3.out zDoc (x4_1 : Int) p10 q10; obtain ⟨ve10_3, rfl, ge10_3⟩ := k29_openM hM10; have hx10_0 : w11.cell? ⟨go10, (x4_1 : Int).toNat * 4, none⟩ = some (.int .i64 ((rd_TDoc x3_1 x4_1).f0)) := hcc10 0 _ rfl; have hx10_1 : w11.cell? ⟨go10, (x4_1 : Int).toNat * 4 + 1, none⟩ = some (.int .i64 ((rd_TDoc x3_1 x4_1).f1)) := hcc10 1 _ rfl; have hx10_2 : w11.cell? ⟨go10, (x4_1 : Int).toNat * 4 + 2, none⟩ = some (.string ((rd_TDoc x3_1 x4_1).f2)) := hcc10 2 _ rfl; have hx10_3 : w11.cell? ⟨go10, (x4_1 : Int).toNat * 4 + 3, none⟩ = some (ve10_3) := hcc10 3 _ rfl; have hf10_0 : w11.frozen? ⟨go10, (x4_1 : Int).toNat * 4, none⟩ = false := hfr10 0; have hf10_1 : w11.frozen? ⟨go10, (x4_1 : Int).toNat * 4 + 1, none⟩ = false := hfr10 1; have hf10_2 : w11.frozen? ⟨go10, (x4_1 : Int).toNat * 4 + 2, none⟩ = false := hfr10 2; have hf10_3 : w11.frozen? ⟨go10, (x4_1 : Int).toNat * 4 + 3, none⟩ = false := hfr10 3; clear hcl10 hcc10 hfr10 hM10; replace p10 := eq_true p10; replace q10 := eq_true q10; obtain ⟨Ao12, co12, eo12⟩ := Kd.R_slice HO151.out; subst eo12; have n_ := Aside0.mk (Kd.R_mono (ok' := (fun k_ => some k_ ≠ (.slice Ao12 t149.length co12 : Value).ownBlock)) HO_3.out (fun k_ hk => hk.2)); clear HO_3; have HO_3 := n_; clear n_; have HX13 := Aside0.mk (show Kd.R k29 29 w11 w.heap.size (fun _ => True) (.slice (some ⟨go10, 0, none⟩) x3_1.length co10) x3_1 from (by (with_reducible repeat (first | apply Kd.R_alloc | apply Kd.R_drewN | apply Kd.R_drew)); exact Kd.R_mono HO_3.out (fun _ hk => trivial))); obtain ⟨ce13, hcl13, hM13, hcc13, hfr13⟩ := Kd.R_elem HX13.out zDoc (x4_1 : Int) (of_decide_eq_true (by first | (with_reducible assumption) | assumption)) (by have h_ : (x4_1 : Int) < ((x3_1.length : Int) : Int) := of_decide_eq_true (by first | (with_reducible assumption) | assumption); first | exact h_ | (have e_ := (Kd.R_reads' HO_3.out).1; omega) | simpa using h_); obtain ⟨ve13_3, rfl, ge13_3⟩ := k29_openM hM13; have HP13 := Kd.R_seg HX13.out (x4_1 : Int) (of_decide_eq_true (by first | (with_reducible assumption) | assumption)) (by have h_ : (x4_1 : Int) < ((x3_1.length : Int) : Int) := of_decide_eq_true (by first | (with_reducible assumption) | assumption); first | exact h_ | (have e_ := (Kd.R_reads' HO_3.out).1; omega) | simpa using h_) (seg := [.int .i64 t146, .int .i64 t147, .string t148, .slice Ao12 t149.length co12]) (j := 0) hcl13 hcc13 (show 4 ≤ 4 from by decide) (x' := (⟨t146, t147, t148, t149⟩ : SDoc)) (k29_mkM _ _ _ (⟨t146, t147, t148, t149⟩ : SDoc) (Kd.R_mono (HO151.out) (fun k_ hk => ⟨trivial, fun e_ => (hk.2) (by rw [e_]; rfl)⟩))) (fun _ hk => hk); have hx13_0 := hcc13 0 _ rfl; (try simp only [show (k29).sz = 4 from rfl, Nat.mul_one, Nat.add_zero] at hx13_0); have hf13_0 := hfr13 0; (try simp only [show (k29).sz = 4 from rfl, Nat.mul_one, Nat.add_zero] at hf13_0); have hx13_1 := hcc13 1 _ rfl; (try simp only [show (k29).sz = 4 from rfl, Nat.mul_one, Nat.add_zero] at hx13_1); have hf13_1 := hfr13 1; (try simp only [show (k29).sz = 4 from rfl, Nat.mul_one, Nat.add_zero] at hf13_1); have hx13_2 := hcc13 2 _ rfl; (try simp only [show (k29).sz = 4 from rfl, Nat.mul_one, Nat.add_zero] at hx13_2); have hf13_2 := hfr13 2; (try simp only [show (k29).sz = 4 from rfl, Nat.mul_one, Nat.add_zero] at hf13_2); have hx13_3 := hcc13 3 _ rfl; (try simp only [show (k29).sz = 4 from rfl, Nat.mul_one, Nat.add_zero] at hx13_3); have hf13_3 := hfr13 3; (try simp only [show (k29).sz = 4 from rfl, Nat.mul_one, Nat.add_zero] at hf13_3); clear hcl13 hcc13 hfr13 hM13) | ((with_reducible refine gate_store (t := 29) (p := 21) rfl ?_); refine store_event (t := 29) (p := 21) (v := ?vo_w14) (w1 := ((((w11.setCell ⟨go10, (x4_1 : Int).toNat * 4, none⟩ (.int .i64 t146)).setCell ⟨go10, (x4_1 : Int).toNat * 4 + 1, none⟩ (.int .i64 t147)).setCell ⟨go10, (x4_1 : Int).toNat * 4 + 2, none⟩ (.string t148)).setCell ⟨go10, (x4_1 : Int).toNat * 4 + 3, none⟩ (.slice Ao12 t149.length co12))) ?hg ?ho ?hn ?hr ?_; (case ho => rfl); (case hg => rfl); (case hn => rfl); (case hr => first | (go_simp; done) | (go_simp; rfl)); intro w14 hw; have hg : w11.grownBy w14 (some go10) := (by rw [hw]; exact HP13.2); have hp_ : Kd.R k29 29 w14 w.heap.size (fun _ => True) (.slice (some ⟨go10, 0, none⟩) x3_1.length co10) y152 := (by rw [hw, Ny152.out]; exact HP13.1); clear HP13; have n0_ := Aside0.mk (hp_); have n1_ := Aside0.mk ((by rw [hw]; exact below_set (below_set (below_set (below_set (HB.out) GB10.out) GB10.out) GB10.out) GB10.out : Below w.heap.size w w14)); clear HO_3; clear HB; clear HO151; have HO_3 := n0_; have HB := n1_; clear n0_ n1_; clear hg hw hp_))
                  go_roundg k1
                  case measure => have := HK1.out; omega
                  case rel => exact ⟨(y152), (wrap64 (x4_1 + 1)), (by first | rfl | (simp; done) | (simp [*]; done)), H', ⟨by have := HK1.out; omega⟩, ⟨by (with_reducible repeat (first | apply Kd.R_alloc | apply Kd.R_drewN | apply Kd.R_drew)); exact HO_3.out⟩, ⟨by repeat (first | (with_reducible first | exact HB.out | apply below_alloc | apply pw_below_drewN | apply below_drew1) | exact HB.out)⟩⟩
                · rw [if_neg c9] at H
                  exact absurd H (by simp)
              · rw [if_neg c7] at H
                exact absurd H (by simp)
            · rw [if_neg c6] at H
              have c6b0 : decide (x4_1 < (l0.length : Int)) = false := decide_eq_false c6
              clear c6
              obtain rfl := Option.some.inj H
              go_wp2
              go_ret
              exact ⟨_, by first | rfl | (simp [errW_none, errW_some] <;> rfl) | (simp [*, errW_none, errW_some] <;> rfl), by (with_reducible repeat (first | apply Kd.R_alloc | apply Kd.R_drewN | apply Kd.R_drew)); exact HO_3.out, by repeat (first | (with_reducible first | exact HB.out | apply below_alloc | apply pw_below_drewN | apply below_drew1) | exact HB.out)⟩
      · rw [if_neg c3] at H
        exact absurd H (by simp)
    · rw [if_neg c2] at H
      exact absurd H (by simp)
theorem laws_toDoc.calls (k : Nat) : ∀ (a0_0 : Int) (a0_1 : Int) (a0_2 : ByteArray) (A0_3 : Option Addr) (c0_3 : Nat) (l0_3 : List (SLDoc)) (r1 : Int) (r2 : Int) (r3 : ByteArray) (r4 : List (SDoc)) (w : World) (hr0_3 : Kd.C k24 w A0_3 l0_3.length l0_3) (hc0_3 : l0_3.length ≤ c0_3) (h : laws_toDoc.f k a0_0 a0_1 a0_2 l0_3 = some (r1, r2, r3, r4)),
    Calls Try.prog 17 #[.agg #[.int .i64 a0_0, .int .i64 a0_1, .string a0_2, .slice A0_3 l0_3.length c0_3]] w fun e w' => ∃ v3_ : Value, e = .returned (.agg #[.int .i64 r1, .int .i64 r2, .string r3, v3_]) ∧ Kd.R k29 29 w' w.heap.size (fun _ => True) v3_ r4 ∧ Below w.heap.size w w' := (laws_toDoc.calls_g k).1
theorem laws_toDocS.calls (k : Nat) : ∀ (A0 : Option Addr) (c0 : Nat) (l0 : List (SLDoc)) (r : List (SDoc)) (w : World) (hr0 : Kd.C k24 w A0 l0.length l0) (hc0 : l0.length ≤ c0) (h : laws_toDocS.f k l0 = some r),
    Calls Try.prog 55 #[.slice A0 l0.length c0] w fun e w' => ∃ v0_ : Value, e = .returned (v0_) ∧ Kd.R k29 29 w' w.heap.size (fun _ => True) v0_ r ∧ Below w.heap.size w w' := (laws_toDoc.calls_g k).2

end Go.Proofs.Ytmccfpniolikhaa.P
