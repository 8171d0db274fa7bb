/- CONTRACTS and lemmas: each contract says that a Go function of the program, called over the translation under the theorem's own hypotheses, returns what the Lean function beside it computes. -/
import Derived.Test.YtdhdfmmefghijabVLa4
namespace Go.Proofs.Ytdhdfmmefghijab.P
open Go.RowKit Go.Proofs.YtdhdfmmefghijabW.PrintWords Go.Proofs.YtdhdfmmefghijabW.PrintLast Go.Proofs.YtdhdfmmefghijabW.PrintMore
attribute [local go_sem] max2_int min2_int max_two min_two max_three min_three max_four min_four
set_option linter.unusedVariables false
set_option linter.unusedSimpArgs false
mutual
def spec_l1Read.j0 : Nat → ByteArray → Int → Int → Bool → Option (Int × Int × ByteArray × (List (SDoc)) × Int)
  | 0, _, _, _, _ => none
  | k + 1, x0, x1, x2, x21 => if x21 = true then (some (0, 0, (⟨#[]⟩ : ByteArray), ([] : List (SDoc)), (-1))) else (if 0 ≤ x1 then (if x1 < (x0.size : Int) then (if (bt x0 x1) = 126 then (some (1, 0, (⟨#[]⟩ : ByteArray), ([] : List (SDoc)), wrap64 (x1 + 1))) else (if (bt x0 x1) = 95 then (some (3, 0, (⟨#[]⟩ : ByteArray), ([] : List (SDoc)), wrap64 (x1 + 1))) else (if (bt x0 x1) = 46 then (some (4, 0, (⟨#[]⟩ : ByteArray), ([] : List (SDoc)), wrap64 (x1 + 1))) else (if (bt x0 x1) = 33 then (some (5, 0, (⟨#[]⟩ : ByteArray), ([] : List (SDoc)), wrap64 (x1 + 1))) else (if (bt x0 x1) = 34 then ((spec_l1Word.f k x0 x1).bind fun bt179 => (some (bt179.1, bt179.2.1, bt179.2.2.1, bt179.2.2.2.1, bt179.2.2.2.2))) else (if (bt x0 x1) = 40 then ((spec_l1Inner.f k x0 (wrap64 (x1 + 1)) 2 41 x2).bind fun bt186 => (some (7, 0, (⟨#[]⟩ : ByteArray), bt186.1, bt186.2))) else (if (bt x0 x1) = 91 then ((spec_l1Inner.f k x0 (wrap64 (x1 + 1)) 1 93 x2).bind fun bt190 => (some (8, 0, (⟨#[]⟩ : ByteArray), bt190.1, bt190.2))) else (if (bt x0 x1) ≥ 48 then (if (bt x0 x1) ≤ 57 then (if (wrap64 (x1 + 1)) < (x0.size : Int) then (if 0 ≤ (wrap64 (x1 + 1)) then (spec_l1Read.j1 k x0 x1 x2 ((bt x0 (wrap64 (x1 + 1))) == 60)) else (none)) else (spec_l1Read.j1 k x0 x1 x2 false)) else (spec_l1Read.j1 k x0 x1 x2 false)) else (spec_l1Read.j1 k x0 x1 x2 false))))))))) else (none)) else (none))
def spec_l1Read.j1 : Nat → ByteArray → Int → Int → Bool → Option (Int × Int × ByteArray × (List (SDoc)) × Int)
  | 0, _, _, _, _ => none
  | k + 1, x0, x1, x2, x102 => if x102 = true then ((spec_l1Inner.f k x0 (wrap64 (x1 + 2)) 1 62 x2).bind fun bt194 => (if 0 ≤ x1 then (if x1 < (x0.size : Int) then (some (6, ((bt x0 x1) - 48) % 256, (⟨#[]⟩ : ByteArray), bt194.1, bt194.2)) else (none)) else (none))) else (some (0, 0, (⟨#[]⟩ : ByteArray), ([] : List (SDoc)), (-1)))
def spec_l1Read.f : Nat → ByteArray → Int → Int → Option (Int × Int × ByteArray × (List (SDoc)) × Int)
  | 0, _, _, _ => none
  | k + 1, a0, a1, a2 => if a1 ≥ (a0.size : Int) then (spec_l1Read.j0 k a0 a1 a2 true) else (spec_l1Read.j0 k a0 a1 a2 (a2 == 0))
def spec_l1Inner.l0 : Nat → ByteArray → Int → Int → Int → Int → List (SDoc) → Int → Option ((List (SDoc)) × Int)
  | 0, _, _, _, _, _, _, _ => none
  | k + 1, x0, x1, x2, x3, x4, x12, x13 => if x13 < x2 then ((spec_l1Read.f k x0 x1 (wrap64 (x4 - 1))).bind fun bt201 => (if bt201.2.2.2.2 < 0 then (some (x12, (-1))) else (if x12.length < 2513169434916 then (spec_l1Inner.l0 k x0 bt201.2.2.2.2 x2 x3 x4 (x12 ++ [(⟨bt201.1, bt201.2.1, bt201.2.2.1, bt201.2.2.2.1⟩ : SDoc)]) (wrap64 (x13 + 1))) else (none)))) else (if x1 ≥ (x0.size : Int) then (some (x12, (-1))) else (if 0 ≤ x1 then (if x1 < (x0.size : Int) then (if (bt x0 x1) = x3 then (some (x12, wrap64 (x1 + 1))) else (some (x12, (-1)))) else (none)) else (none)))
def spec_l1Inner.f : Nat → ByteArray → Int → Int → Int → Int → Option ((List (SDoc)) × Int)
  | 0, _, _, _, _, _ => none
  | k + 1, a0, a1, a2, a3, a4 => spec_l1Inner.l0 k a0 a1 a2 a3 a4 (([] : List (SDoc))) 0
end
set_option maxHeartbeats 8000000 in
set_option maxRecDepth 100000 in
theorem spec_l1Read.calls_g (k : Nat) : (∀ (a0 : ByteArray) (a1 : Int) (a2 : Int) (r1 : Int) (r2 : Int) (r3 : ByteArray) (r4 : List (SDoc)) (r5 : Int) (w : World) (h : spec_l1Read.f k a0 a1 a2 = some (r1, r2, r3, r4, r5)),
    Calls Try.prog 91 #[.string a0, .int .i64 a1, .int .i64 a2] w fun e w' => ∃ v3_ : Value, e = .returned (.tuple #[.agg #[.int .i64 r1, .int .i64 r2, .string r3, v3_], .int .i64 r5]) ∧ Kd.R k39 39 w' w.heap.size (fun _ => True) v3_ r4 ∧ Below w.heap.size w w') ∧
    (∀ (a0 : ByteArray) (a1 : Int) (a2 : Int) (a3 : Int) (a4 : Int) (r1 : List (SDoc)) (r2 : Int) (w : World) (h : spec_l1Inner.f k a0 a1 a2 a3 a4 = some (r1, r2)),
    Calls Try.prog 101 #[.string a0, .int .i64 a1, .int .i64 a2, .int .u8 a3, .int .i64 a4] w fun e w' => ∃ v0_ : Value, e = .returned (.tuple #[v0_, .int .i64 r2]) ∧ Kd.R k39 39 w' w.heap.size (fun _ => True) v0_ r1 ∧ Below w.heap.size w w') := by
  induction k using Nat.strongRecOn with
  | _ k ih0 =>
  refine ⟨?_, ?_⟩
  · have ih := fun (m_ : Nat) (hm_ : m_ < k) => (ih0 m_ hm_).1
    have ih_spec_l1Inner := fun (m_ : Nat) (hm_ : m_ < k) => (ih0 m_ hm_).2
    clear ih0
    intro a0 a1 a2 r1 r2 r3 r4 r5 w h
    cases k with
    | zero => exact absurd h (by simp [spec_l1Read.f])
    | succ k =>
    simp only [spec_l1Read.f] at h
    have hu39 := Try.underlying39
    have HB := Aside0.mk (Below.refl w.heap.size w)
    have H : (if a1 ≥ (a0.size : Int) then (spec_l1Read.j0 k a0 a1 a2 true) else (spec_l1Read.j0 k a0 a1 a2 (a2 == 0))) = some (r1, r2, r3, r4, r5) := h
    clear h
    have HC4 := Aside0.mk H
    clear H
    go_enter Try.func91, Try.ntmps91
    go_upto_region 1 with (first | ((with_reducible refine gate_dst (N := 6) rfl ?_); (try (refine gate_guard (by rfl) ?_; dsimp only)); refine box_event ?hg (N := 6) ?hd (cs := #[.int .i64 0, .int .i64 0, .string (⟨#[]⟩ : ByteArray), .slice none 0 0]) (t := 39) ?hr ?_; (case hd => rfl); (case hg => rfl); (case hr => first | (go_simp; done) | (go_simp; rfl)); intro gb178 hg w5 hbox hb; have n0_ := Aside0.mk (below_step (gB HB) hb); have n1_ := Aside0.mk (hbox); have n2_ := Aside0.mk ((by rw [hg]; exact (below_size (gB HB)) : w.heap.size ≤ gb178)); have n3_ := Aside0.mk ((by rw [hg]; exact (below_size (gB HB)) : w.heap.size ≤ gb178)); clear HB; have HB := n0_; have BK178 := n1_; have GW178 := n2_; have GE178 := n3_; clear n0_ n1_ n2_ n3_; clear hb hbox hg))
    (try simp only [Act.put, List.setIfInBounds_toArray, List.set_cons_zero, List.set_cons_succ])
    go_cut [21] (fun v21 wc => ∃ (kq : Nat) (x21_3 : Bool), v21 = .bool x21_3 ∧ Aside0 (spec_l1Read.j0 kq a0 a1 a2 x21_3 = some (r1, r2, r3, r4, r5)) ∧ Aside0 (kq ≤ k) ∧ Aside0 (wc.heap[gb178]? = some (.cells #[.int .i64 0, .int .i64 0, .string (⟨#[]⟩ : ByteArray), (.slice none 0 0)] 39 (0, 0))) ∧ Aside0 (Below w.heap.size w wc))
    case first =>
      have H := HC4.out
      clear HC4
      by_cases c6 : a1 ≥ (a0.size : Int)
      · rw [if_pos c6] at H
        have c6b0 : decide ((a0.size : Int) ≤ a1) = true := decide_eq_true c6
        clear c6
        (first | rw [c6b0] | (simp only [i64_w, i32_w]; rw [c6b0]) | skip)
        have H' := Aside0.mk H
        clear H
        go_wp2
        go_meet
        case rel => exact ⟨_, (true), (by first | rfl | (simp; done) | (simp [*]; done)), H', ⟨by first | omega | exact Nat.le_refl _⟩, ⟨gK BK178⟩, ⟨by repeat (first | exact gB HB | refine below_set ?_ GE178.out)⟩⟩
      · rw [if_neg c6] at H
        have c6b0 : decide ((a0.size : Int) ≤ a1) = false := decide_eq_false c6
        clear c6
        (first | rw [c6b0] | (simp only [i64_w, i32_w]; rw [c6b0]) | skip)
        have H' := Aside0.mk H
        clear H
        go_wp2
        go_meet
        case rel => exact ⟨_, ((a2 == 0)), (by first | rfl | (simp; done) | (simp [*]; done)), H', ⟨by first | omega | exact Nat.le_refl _⟩, ⟨gK BK178⟩, ⟨by repeat (first | exact gB HB | refine below_set ?_ GE178.out)⟩⟩
    case rest =>
      clear HC4
      try clear p2
      try clear c6
      try clear c6b0
      obtain ⟨kq, x21_3, rfl, HA, HJ3, BK178, HB⟩ := hcut
      cases kq with
      | zero => exact absurd HA.out (by simp [spec_l1Read.j0])
      | succ kj3 =>
        have H := HA.out
        clear HA
        simp only [spec_l1Read.j0] at H
        by_cases c7 : x21_3 = true
        · subst c7
          have H1 : (some (0, 0, (⟨#[]⟩ : ByteArray), ([] : List (SDoc)), (-1))) = some (r1, r2, r3, r4, r5) := by rw [if_pos rfl] at H; exact H
          clear H
          have H := H1
          clear H1
          simp only [Option.some.injEq, Prod.mk.injEq] at H
          obtain ⟨rfl, rfl, rfl, rfl, rfl⟩ := H
          have hcz8_0 : wc.cell? ⟨gb178, 0, none⟩ = some (.int .i64 0) := (blk_cell BK178.out 0).trans rfl
          have hcz8_1 : wc.cell? ⟨gb178, 1, none⟩ = some (.int .i64 0) := (blk_cell BK178.out 1).trans rfl
          have hcz8_2 : wc.cell? ⟨gb178, 2, none⟩ = some (.string (⟨#[]⟩ : ByteArray)) := (blk_cell BK178.out 2).trans rfl
          have hcz8_3 : wc.cell? ⟨gb178, 3, none⟩ = some (.slice none 0 0) := (blk_cell BK178.out 3).trans rfl
          have hfz8_0 := blk_frozen BK178.out 0
          have hfz8_1 := blk_frozen BK178.out 1
          have hfz8_2 := blk_frozen BK178.out 2
          have hfz8_3 := blk_frozen BK178.out 3
          go_wp2
          refine bodyPost_ret (results_ct rfl _ _ gb178 39 #[.int .i64 0, .int .i64 0, .string (⟨#[]⟩ : ByteArray), .slice none 0 0] (0, 0) _ rfl (by (with_reducible repeat (first | refine blk_drewN ?_ _ | refine blk_drew ?_ | refine blk_alloc ?_ _)); refine blk_put (cs := #[.int .i64 0, .int .i64 0, .string (⟨#[]⟩ : ByteArray), .slice none 0 0]) ?_ 3 _ rfl; (with_reducible repeat (first | refine blk_drewN ?_ _ | refine blk_drew ?_ | refine blk_alloc ?_ _)); refine blk_put (cs := #[.int .i64 0, .int .i64 0, .string (⟨#[]⟩ : ByteArray), .slice none 0 0]) ?_ 2 _ rfl; (with_reducible repeat (first | refine blk_drewN ?_ _ | refine blk_drew ?_ | refine blk_alloc ?_ _)); refine blk_put (cs := #[.int .i64 0, .int .i64 0, .string (⟨#[]⟩ : ByteArray), .slice none 0 0]) ?_ 1 _ rfl; (with_reducible repeat (first | refine blk_drewN ?_ _ | refine blk_drew ?_ | refine blk_alloc ?_ _)); refine blk_put (cs := #[.int .i64 0, .int .i64 0, .string (⟨#[]⟩ : ByteArray), .slice none 0 0]) ?_ 0 _ rfl; (with_reducible repeat (first | refine blk_drewN ?_ _ | refine blk_drew ?_ | refine blk_alloc ?_ _)); exact BK178.out) Try.underlying39 rfl (by kernel_rfl)) rfl ?_
          exact ⟨_, by first | rfl | (simp [errW_none, errW_some] <;> rfl) | (simp [*, errW_none, errW_some] <;> rfl), by first | exact Kd.R_nil _ _ _ _ _ | exact Kd.N_nil _ _ _ _ _ | exact Kd.V_nil _ _ _ _ _ | exact Kd.Q_nil _ _ _ _ _ | exact Kd.S_nil _ _ _ _ _, by repeat (first | exact gB HB | refine below_set ?_ GE178.out)⟩
        · replace c7 := Bool.eq_false_iff.mpr c7
          subst c7
          have H1 : (if 0 ≤ a1 then (if a1 < (a0.size : Int) then (if (bt a0 a1) = 126 then (some (1, 0, (⟨#[]⟩ : ByteArray), ([] : List (SDoc)), wrap64 (a1 + 1))) else (if (bt a0 a1) = 95 then (some (3, 0, (⟨#[]⟩ : ByteArray), ([] : List (SDoc)), wrap64 (a1 + 1))) else (if (bt a0 a1) = 46 then (some (4, 0, (⟨#[]⟩ : ByteArray), ([] : List (SDoc)), wrap64 (a1 + 1))) else (if (bt a0 a1) = 33 then (some (5, 0, (⟨#[]⟩ : ByteArray), ([] : List (SDoc)), wrap64 (a1 + 1))) else (if (bt a0 a1) = 34 then ((spec_l1Word.f kj3 a0 a1).bind fun bt179 => (some (bt179.1, bt179.2.1, bt179.2.2.1, bt179.2.2.2.1, bt179.2.2.2.2))) else (if (bt a0 a1) = 40 then ((spec_l1Inner.f kj3 a0 (wrap64 (a1 + 1)) 2 41 a2).bind fun bt186 => (some (7, 0, (⟨#[]⟩ : ByteArray), bt186.1, bt186.2))) else (if (bt a0 a1) = 91 then ((spec_l1Inner.f kj3 a0 (wrap64 (a1 + 1)) 1 93 a2).bind fun bt190 => (some (8, 0, (⟨#[]⟩ : ByteArray), bt190.1, bt190.2))) else (if (bt a0 a1) ≥ 48 then (if (bt a0 a1) ≤ 57 then (if (wrap64 (a1 + 1)) < (a0.size : Int) then (if 0 ≤ (wrap64 (a1 + 1)) then (spec_l1Read.j1 kj3 a0 a1 a2 ((bt a0 (wrap64 (a1 + 1))) == 60)) else (none)) else (spec_l1Read.j1 kj3 a0 a1 a2 false)) else (spec_l1Read.j1 kj3 a0 a1 a2 false)) else (spec_l1Read.j1 kj3 a0 a1 a2 false))))))))) else (none)) else (none)) = some (r1, r2, r3, r4, r5) := by rw [if_neg (show ¬ (false = true) by decide)] at H; exact H
          clear H
          have H := H1
          clear H1
          by_cases c9 : 0 ≤ a1
          · rw [if_pos c9] at H
            have c9b0 : decide (0 ≤ a1) = true := decide_eq_true c9
            clear c9
            by_cases c10 : a1 < (a0.size : Int)
            · rw [if_pos c10] at H
              have c10b0 : decide (a1 < (a0.size : Int)) = true := decide_eq_true c10
              clear c10
              by_cases c12 : (bt a0 a1) = 126
              · rw [if_pos c12] at H
                have c12b0 : ((bt a0 a1) == 126) = true := beq_iff_eq.mpr c12
                have c12b1 : ((bt a0 a1) != 126) = false := bne_eq_false_iff_eq.mpr c12
                clear c12
                simp only [Option.some.injEq, Prod.mk.injEq] at H
                obtain ⟨rfl, rfl, rfl, rfl, rfl⟩ := H
                have p11 : 0 ≤ (a1 : Int) := of_decide_eq_true (by first | (with_reducible assumption) | assumption)
                have q11 : a1 < (a0.size : Int) := of_decide_eq_true (by first | (with_reducible assumption) | assumption)
                have hx11 := bt_at a0 a1
                replace p11 := eq_true p11
                replace q11 := eq_true q11
                have hcz13_0 : wc.cell? ⟨gb178, 0, none⟩ = some (.int .i64 0) := (blk_cell BK178.out 0).trans rfl
                have hcz13_1 : wc.cell? ⟨gb178, 1, none⟩ = some (.int .i64 0) := (blk_cell BK178.out 1).trans rfl
                have hcz13_2 : wc.cell? ⟨gb178, 2, none⟩ = some (.string (⟨#[]⟩ : ByteArray)) := (blk_cell BK178.out 2).trans rfl
                have hcz13_3 : wc.cell? ⟨gb178, 3, none⟩ = some (.slice none 0 0) := (blk_cell BK178.out 3).trans rfl
                have hfz13_0 := blk_frozen BK178.out 0
                have hfz13_1 := blk_frozen BK178.out 1
                have hfz13_2 := blk_frozen BK178.out 2
                have hfz13_3 := blk_frozen BK178.out 3
                go_wp2
                refine bodyPost_ret (results_ct rfl _ _ gb178 39 #[.int .i64 1, .int .i64 0, .string (⟨#[]⟩ : ByteArray), .slice none 0 0] (0, 0) _ rfl (by (with_reducible repeat (first | refine blk_drewN ?_ _ | refine blk_drew ?_ | refine blk_alloc ?_ _)); refine blk_put (cs := #[.int .i64 1, .int .i64 0, .string (⟨#[]⟩ : ByteArray), .slice none 0 0]) ?_ 3 _ rfl; (with_reducible repeat (first | refine blk_drewN ?_ _ | refine blk_drew ?_ | refine blk_alloc ?_ _)); refine blk_put (cs := #[.int .i64 1, .int .i64 0, .string (⟨#[]⟩ : ByteArray), .slice none 0 0]) ?_ 2 _ rfl; (with_reducible repeat (first | refine blk_drewN ?_ _ | refine blk_drew ?_ | refine blk_alloc ?_ _)); refine blk_put (cs := #[.int .i64 1, .int .i64 0, .string (⟨#[]⟩ : ByteArray), .slice none 0 0]) ?_ 1 _ rfl; (with_reducible repeat (first | refine blk_drewN ?_ _ | refine blk_drew ?_ | refine blk_alloc ?_ _)); refine blk_put (cs := #[.int .i64 0, .int .i64 0, .string (⟨#[]⟩ : ByteArray), .slice none 0 0]) ?_ 0 _ rfl; (with_reducible repeat (first | refine blk_drewN ?_ _ | refine blk_drew ?_ | refine blk_alloc ?_ _)); exact BK178.out) Try.underlying39 rfl (by kernel_rfl)) rfl ?_
                exact ⟨_, by first | rfl | (simp [errW_none, errW_some] <;> rfl) | (simp [*, errW_none, errW_some] <;> rfl), by first | exact Kd.R_nil _ _ _ _ _ | exact Kd.N_nil _ _ _ _ _ | exact Kd.V_nil _ _ _ _ _ | exact Kd.Q_nil _ _ _ _ _ | exact Kd.S_nil _ _ _ _ _, by repeat (first | exact gB HB | refine below_set ?_ GE178.out)⟩
              · rw [if_neg c12] at H
                have c12b0 : ((bt a0 a1) == 126) = false := beq_eq_false_iff_ne.mpr c12
                have c12b1 : ((bt a0 a1) != 126) = true := bne_iff_ne.mpr c12
                by_cases c14 : (bt a0 a1) = 95
                · rw [if_pos c14] at H
                  have c14b0 : ((bt a0 a1) == 95) = true := beq_iff_eq.mpr c14
                  have c14b1 : ((bt a0 a1) != 95) = false := bne_eq_false_iff_eq.mpr c14
                  clear c14
                  simp only [Option.some.injEq, Prod.mk.injEq] at H
                  obtain ⟨rfl, rfl, rfl, rfl, rfl⟩ := H
                  have p11 : 0 ≤ (a1 : Int) := of_decide_eq_true (by first | (with_reducible assumption) | assumption)
                  have q11 : a1 < (a0.size : Int) := of_decide_eq_true (by first | (with_reducible assumption) | assumption)
                  have hx11 := bt_at a0 a1
                  replace p11 := eq_true p11
                  replace q11 := eq_true q11
                  have hcz15_0 : wc.cell? ⟨gb178, 0, none⟩ = some (.int .i64 0) := (blk_cell BK178.out 0).trans rfl
                  have hcz15_1 : wc.cell? ⟨gb178, 1, none⟩ = some (.int .i64 0) := (blk_cell BK178.out 1).trans rfl
                  have hcz15_2 : wc.cell? ⟨gb178, 2, none⟩ = some (.string (⟨#[]⟩ : ByteArray)) := (blk_cell BK178.out 2).trans rfl
                  have hcz15_3 : wc.cell? ⟨gb178, 3, none⟩ = some (.slice none 0 0) := (blk_cell BK178.out 3).trans rfl
                  have hfz15_0 := blk_frozen BK178.out 0
                  have hfz15_1 := blk_frozen BK178.out 1
                  have hfz15_2 := blk_frozen BK178.out 2
                  have hfz15_3 := blk_frozen BK178.out 3
                  go_wp2
                  refine bodyPost_ret (results_ct rfl _ _ gb178 39 #[.int .i64 3, .int .i64 0, .string (⟨#[]⟩ : ByteArray), .slice none 0 0] (0, 0) _ rfl (by (with_reducible repeat (first | refine blk_drewN ?_ _ | refine blk_drew ?_ | refine blk_alloc ?_ _)); refine blk_put (cs := #[.int .i64 3, .int .i64 0, .string (⟨#[]⟩ : ByteArray), .slice none 0 0]) ?_ 3 _ rfl; (with_reducible repeat (first | refine blk_drewN ?_ _ | refine blk_drew ?_ | refine blk_alloc ?_ _)); refine blk_put (cs := #[.int .i64 3, .int .i64 0, .string (⟨#[]⟩ : ByteArray), .slice none 0 0]) ?_ 2 _ rfl; (with_reducible repeat (first | refine blk_drewN ?_ _ | refine blk_drew ?_ | refine blk_alloc ?_ _)); refine blk_put (cs := #[.int .i64 3, .int .i64 0, .string (⟨#[]⟩ : ByteArray), .slice none 0 0]) ?_ 1 _ rfl; (with_reducible repeat (first | refine blk_drewN ?_ _ | refine blk_drew ?_ | refine blk_alloc ?_ _)); refine blk_put (cs := #[.int .i64 0, .int .i64 0, .string (⟨#[]⟩ : ByteArray), .slice none 0 0]) ?_ 0 _ rfl; (with_reducible repeat (first | refine blk_drewN ?_ _ | refine blk_drew ?_ | refine blk_alloc ?_ _)); exact BK178.out) Try.underlying39 rfl (by kernel_rfl)) rfl ?_
                  exact ⟨_, by first | rfl | (simp [errW_none, errW_some] <;> rfl) | (simp [*, errW_none, errW_some] <;> rfl), by first | exact Kd.R_nil _ _ _ _ _ | exact Kd.N_nil _ _ _ _ _ | exact Kd.V_nil _ _ _ _ _ | exact Kd.Q_nil _ _ _ _ _ | exact Kd.S_nil _ _ _ _ _, by repeat (first | exact gB HB | refine below_set ?_ GE178.out)⟩
                · rw [if_neg c14] at H
                  have c14b0 : ((bt a0 a1) == 95) = false := beq_eq_false_iff_ne.mpr c14
                  have c14b1 : ((bt a0 a1) != 95) = true := bne_iff_ne.mpr c14
                  by_cases c16 : (bt a0 a1) = 46
                  · rw [if_pos c16] at H
                    have c16b0 : ((bt a0 a1) == 46) = true := beq_iff_eq.mpr c16
                    have c16b1 : ((bt a0 a1) != 46) = false := bne_eq_false_iff_eq.mpr c16
                    clear c16
                    simp only [Option.some.injEq, Prod.mk.injEq] at H
                    obtain ⟨rfl, rfl, rfl, rfl, rfl⟩ := H
                    have p11 : 0 ≤ (a1 : Int) := of_decide_eq_true (by first | (with_reducible assumption) | assumption)
                    have q11 : a1 < (a0.size : Int) := of_decide_eq_true (by first | (with_reducible assumption) | assumption)
                    have hx11 := bt_at a0 a1
                    replace p11 := eq_true p11
                    replace q11 := eq_true q11
                    have hcz17_0 : wc.cell? ⟨gb178, 0, none⟩ = some (.int .i64 0) := (blk_cell BK178.out 0).trans rfl
                    have hcz17_1 : wc.cell? ⟨gb178, 1, none⟩ = some (.int .i64 0) := (blk_cell BK178.out 1).trans rfl
                    have hcz17_2 : wc.cell? ⟨gb178, 2, none⟩ = some (.string (⟨#[]⟩ : ByteArray)) := (blk_cell BK178.out 2).trans rfl
                    have hcz17_3 : wc.cell? ⟨gb178, 3, none⟩ = some (.slice none 0 0) := (blk_cell BK178.out 3).trans rfl
                    have hfz17_0 := blk_frozen BK178.out 0
                    have hfz17_1 := blk_frozen BK178.out 1
                    have hfz17_2 := blk_frozen BK178.out 2
                    have hfz17_3 := blk_frozen BK178.out 3
                    go_wp2
                    refine bodyPost_ret (results_ct rfl _ _ gb178 39 #[.int .i64 4, .int .i64 0, .string (⟨#[]⟩ : ByteArray), .slice none 0 0] (0, 0) _ rfl (by (with_reducible repeat (first | refine blk_drewN ?_ _ | refine blk_drew ?_ | refine blk_alloc ?_ _)); refine blk_put (cs := #[.int .i64 4, .int .i64 0, .string (⟨#[]⟩ : ByteArray), .slice none 0 0]) ?_ 3 _ rfl; (with_reducible repeat (first | refine blk_drewN ?_ _ | refine blk_drew ?_ | refine blk_alloc ?_ _)); refine blk_put (cs := #[.int .i64 4, .int .i64 0, .string (⟨#[]⟩ : ByteArray), .slice none 0 0]) ?_ 2 _ rfl; (with_reducible repeat (first | refine blk_drewN ?_ _ | refine blk_drew ?_ | refine blk_alloc ?_ _)); refine blk_put (cs := #[.int .i64 4, .int .i64 0, .string (⟨#[]⟩ : ByteArray), .slice none 0 0]) ?_ 1 _ rfl; (with_reducible repeat (first | refine blk_drewN ?_ _ | refine blk_drew ?_ | refine blk_alloc ?_ _)); refine blk_put (cs := #[.int .i64 0, .int .i64 0, .string (⟨#[]⟩ : ByteArray), .slice none 0 0]) ?_ 0 _ rfl; (with_reducible repeat (first | refine blk_drewN ?_ _ | refine blk_drew ?_ | refine blk_alloc ?_ _)); exact BK178.out) Try.underlying39 rfl (by kernel_rfl)) rfl ?_
                    exact ⟨_, by first | rfl | (simp [errW_none, errW_some] <;> rfl) | (simp [*, errW_none, errW_some] <;> rfl), by first | exact Kd.R_nil _ _ _ _ _ | exact Kd.N_nil _ _ _ _ _ | exact Kd.V_nil _ _ _ _ _ | exact Kd.Q_nil _ _ _ _ _ | exact Kd.S_nil _ _ _ _ _, by repeat (first | exact gB HB | refine below_set ?_ GE178.out)⟩
                  · rw [if_neg c16] at H
                    have c16b0 : ((bt a0 a1) == 46) = false := beq_eq_false_iff_ne.mpr c16
                    have c16b1 : ((bt a0 a1) != 46) = true := bne_iff_ne.mpr c16
                    by_cases c18 : (bt a0 a1) = 33
                    · rw [if_pos c18] at H
                      have c18b0 : ((bt a0 a1) == 33) = true := beq_iff_eq.mpr c18
                      have c18b1 : ((bt a0 a1) != 33) = false := bne_eq_false_iff_eq.mpr c18
                      clear c18
                      simp only [Option.some.injEq, Prod.mk.injEq] at H
                      obtain ⟨rfl, rfl, rfl, rfl, rfl⟩ := H
                      have p11 : 0 ≤ (a1 : Int) := of_decide_eq_true (by first | (with_reducible assumption) | assumption)
                      have q11 : a1 < (a0.size : Int) := of_decide_eq_true (by first | (with_reducible assumption) | assumption)
                      have hx11 := bt_at a0 a1
                      replace p11 := eq_true p11
                      replace q11 := eq_true q11
                      have hcz19_0 : wc.cell? ⟨gb178, 0, none⟩ = some (.int .i64 0) := (blk_cell BK178.out 0).trans rfl
                      have hcz19_1 : wc.cell? ⟨gb178, 1, none⟩ = some (.int .i64 0) := (blk_cell BK178.out 1).trans rfl
                      have hcz19_2 : wc.cell? ⟨gb178, 2, none⟩ = some (.string (⟨#[]⟩ : ByteArray)) := (blk_cell BK178.out 2).trans rfl
                      have hcz19_3 : wc.cell? ⟨gb178, 3, none⟩ = some (.slice none 0 0) := (blk_cell BK178.out 3).trans rfl
                      have hfz19_0 := blk_frozen BK178.out 0
                      have hfz19_1 := blk_frozen BK178.out 1
                      have hfz19_2 := blk_frozen BK178.out 2
                      have hfz19_3 := blk_frozen BK178.out 3
                      go_wp2
                      refine bodyPost_ret (results_ct rfl _ _ gb178 39 #[.int .i64 5, .int .i64 0, .string (⟨#[]⟩ : ByteArray), .slice none 0 0] (0, 0) _ rfl (by (with_reducible repeat (first | refine blk_drewN ?_ _ | refine blk_drew ?_ | refine blk_alloc ?_ _)); refine blk_put (cs := #[.int .i64 5, .int .i64 0, .string (⟨#[]⟩ : ByteArray), .slice none 0 0]) ?_ 3 _ rfl; (with_reducible repeat (first | refine blk_drewN ?_ _ | refine blk_drew ?_ | refine blk_alloc ?_ _)); refine blk_put (cs := #[.int .i64 5, .int .i64 0, .string (⟨#[]⟩ : ByteArray), .slice none 0 0]) ?_ 2 _ rfl; (with_reducible repeat (first | refine blk_drewN ?_ _ | refine blk_drew ?_ | refine blk_alloc ?_ _)); refine blk_put (cs := #[.int .i64 5, .int .i64 0, .string (⟨#[]⟩ : ByteArray), .slice none 0 0]) ?_ 1 _ rfl; (with_reducible repeat (first | refine blk_drewN ?_ _ | refine blk_drew ?_ | refine blk_alloc ?_ _)); refine blk_put (cs := #[.int .i64 0, .int .i64 0, .string (⟨#[]⟩ : ByteArray), .slice none 0 0]) ?_ 0 _ rfl; (with_reducible repeat (first | refine blk_drewN ?_ _ | refine blk_drew ?_ | refine blk_alloc ?_ _)); exact BK178.out) Try.underlying39 rfl (by kernel_rfl)) rfl ?_
                      exact ⟨_, by first | rfl | (simp [errW_none, errW_some] <;> rfl) | (simp [*, errW_none, errW_some] <;> rfl), by first | exact Kd.R_nil _ _ _ _ _ | exact Kd.N_nil _ _ _ _ _ | exact Kd.V_nil _ _ _ _ _ | exact Kd.Q_nil _ _ _ _ _ | exact Kd.S_nil _ _ _ _ _, by repeat (first | exact gB HB | refine below_set ?_ GE178.out)⟩
                    · rw [if_neg c18] at H
                      have c18b0 : ((bt a0 a1) == 33) = false := beq_eq_false_iff_ne.mpr c18
                      have c18b1 : ((bt a0 a1) != 33) = true := bne_iff_ne.mpr c18
                      by_cases c20 : (bt a0 a1) = 34
                      · rw [if_pos c20] at H
                        have c20b0 : ((bt a0 a1) == 34) = true := beq_iff_eq.mpr c20
                        have c20b1 : ((bt a0 a1) != 34) = false := bne_eq_false_iff_eq.mpr c20
                        clear c20
                        replace H := Option.bind_eq_some_iff.mp H
                        obtain ⟨⟨t179, t180, t181, t182, t185⟩, A210, H⟩ := H
                        replace H : (some (t179, t180, t181, t182, t185)) = some (r1, r2, r3, r4, r5) := H
                        have A21 := Aside0.mk A210
                        clear A210
                        simp only [Option.some.injEq, Prod.mk.injEq] at H
                        obtain ⟨rfl, rfl, rfl, rfl, rfl⟩ := H
                        have p11 : 0 ≤ (a1 : Int) := of_decide_eq_true (by first | (with_reducible assumption) | assumption)
                        have q11 : a1 < (a0.size : Int) := of_decide_eq_true (by first | (with_reducible assumption) | assumption)
                        have hx11 := bt_at a0 a1
                        replace p11 := eq_true p11
                        replace q11 := eq_true q11
                        go_wp2_with (first | ((with_reducible refine gate_callee (f := 100) rfl ?_); refine goesL_ (some 50) rfl rfl Try.func100 (by kernel_rfl) rfl #[.string a0, .int .i64 a1] rfl (by (try simp only [List.map_toArray, List.map_cons, List.map_nil]); first | done | rfl | (simp only [List.length_drop, List.length_take]; rfl)) ?_; (with_reducible refine (spec_l1Word.calls kj3 a0 a1 t179 t180 t181 t182 t185 _ A21.out).mono ?_); rintro e w22 ⟨v183, rfl, ho0, hb⟩; refine ⟨_, rfl, ?_⟩; have n0_ := Aside0.mk (Kd.R_lower (Kd.R_newB ho0 (g := gb178) (o := .cells #[.int .i64 0, .int .i64 0, .string (⟨#[]⟩ : ByteArray), .slice none 0 0] 39 (0, 0)) (gK BK178)) (below_size (by repeat (first | exact gB HB | refine below_set ?_ GE178.out)))); have n1_ := Aside0.mk (blk_below (g := gb178) (o := .cells #[.int .i64 0, .int .i64 0, .string (⟨#[]⟩ : ByteArray), .slice none 0 0] 39 (0, 0)) (gK BK178) hb); have n2_ := Aside0.mk (below_step (by repeat (first | exact gB HB | refine below_set ?_ GE178.out)) hb); clear BK178; clear HB; have HO184 := n0_; have BK178 := n1_; have HB := n2_; clear n0_ n1_ n2_; (try clear hb); (try clear hb2); (try clear hk); (try clear hi); (try clear ho0); have hcz23_0 : w22.cell? ⟨gb178, 0, none⟩ = some (.int .i64 0) := (blk_cell BK178.out 0).trans rfl; have hcz23_1 : w22.cell? ⟨gb178, 1, none⟩ = some (.int .i64 0) := (blk_cell BK178.out 1).trans rfl; have hcz23_2 : w22.cell? ⟨gb178, 2, none⟩ = some (.string (⟨#[]⟩ : ByteArray)) := (blk_cell BK178.out 2).trans rfl; have hcz23_3 : w22.cell? ⟨gb178, 3, none⟩ = some (.slice none 0 0) := (blk_cell BK178.out 3).trans rfl; have hfz23_0 := blk_frozen BK178.out 0; have hfz23_1 := blk_frozen BK178.out 1; have hfz23_2 := blk_frozen BK178.out 2; have hfz23_3 := blk_frozen BK178.out 3; obtain ⟨Ao24, co24, eo24⟩ := Kd.R_slice HO184.out; subst eo24))
                        refine bodyPost_ret (results_ct rfl _ _ gb178 39 #[.int .i64 t179, .int .i64 t180, .string t181, .slice Ao24 t182.length co24] (0, 0) _ rfl (by (with_reducible repeat (first | refine blk_drewN ?_ _ | refine blk_drew ?_ | refine blk_alloc ?_ _)); refine blk_put (cs := #[.int .i64 t179, .int .i64 t180, .string t181, .slice none 0 0]) ?_ 3 _ rfl; (with_reducible repeat (first | refine blk_drewN ?_ _ | refine blk_drew ?_ | refine blk_alloc ?_ _)); refine blk_put (cs := #[.int .i64 t179, .int .i64 t180, .string (⟨#[]⟩ : ByteArray), .slice none 0 0]) ?_ 2 _ rfl; (with_reducible repeat (first | refine blk_drewN ?_ _ | refine blk_drew ?_ | refine blk_alloc ?_ _)); refine blk_put (cs := #[.int .i64 t179, .int .i64 0, .string (⟨#[]⟩ : ByteArray), .slice none 0 0]) ?_ 1 _ rfl; (with_reducible repeat (first | refine blk_drewN ?_ _ | refine blk_drew ?_ | refine blk_alloc ?_ _)); refine blk_put (cs := #[.int .i64 0, .int .i64 0, .string (⟨#[]⟩ : ByteArray), .slice none 0 0]) ?_ 0 _ rfl; (with_reducible repeat (first | refine blk_drewN ?_ _ | refine blk_drew ?_ | refine blk_alloc ?_ _)); exact BK178.out) Try.underlying39 rfl (by kernel_rfl)) rfl ?_
                        exact ⟨_, by first | rfl | (simp [errW_none, errW_some] <;> rfl) | (simp [*, errW_none, errW_some] <;> rfl), by (with_reducible repeat (first | apply Kd.R_alloc | apply Kd.R_drewN | apply Kd.R_drew)); exact Kd.R_mono (Kd.R_far (p := ⟨gb178, 3, none⟩) (Kd.R_far (p := ⟨gb178, 2, none⟩) (Kd.R_far (p := ⟨gb178, 1, none⟩) (Kd.R_far (p := ⟨gb178, 0, none⟩) (Kd.R_mono HO184.out (fun k_ hk => (⟨hk, hk.2⟩ : _ ∧ k_ ≠ gb178))) (fun _ hk => hk.2) (.int .i64 t179)) (fun _ hk => hk.2) (.int .i64 t180)) (fun _ hk => hk.2) (.string t181)) (fun _ hk => hk.2) (.slice Ao24 t182.length co24)) (fun _ hk => trivial), by repeat (first | exact gB HB | refine below_set ?_ GE178.out)⟩
                      · rw [if_neg c20] at H
                        have c20b0 : ((bt a0 a1) == 34) = false := beq_eq_false_iff_ne.mpr c20
                        have c20b1 : ((bt a0 a1) != 34) = true := bne_iff_ne.mpr c20
                        by_cases c25 : (bt a0 a1) = 40
                        · rw [if_pos c25] at H
                          have c25b0 : ((bt a0 a1) == 40) = true := beq_iff_eq.mpr c25
                          have c25b1 : ((bt a0 a1) != 40) = false := bne_eq_false_iff_eq.mpr c25
                          clear c25
                          replace H := Option.bind_eq_some_iff.mp H
                          obtain ⟨⟨t186, t187⟩, A260, H⟩ := H
                          replace H : (some (7, 0, (⟨#[]⟩ : ByteArray), t186, t187)) = some (r1, r2, r3, r4, r5) := H
                          have A26 := Aside0.mk A260
                          clear A260
                          simp only [Option.some.injEq, Prod.mk.injEq] at H
                          obtain ⟨rfl, rfl, rfl, rfl, rfl⟩ := H
                          have p11 : 0 ≤ (a1 : Int) := of_decide_eq_true (by first | (with_reducible assumption) | assumption)
                          have q11 : a1 < (a0.size : Int) := of_decide_eq_true (by first | (with_reducible assumption) | assumption)
                          have hx11 := bt_at a0 a1
                          replace p11 := eq_true p11
                          replace q11 := eq_true q11
                          go_wp2_with (first | ((with_reducible refine gate_callee (f := 101) rfl ?_); refine goesL_ (some 60) rfl rfl Try.func101 (by kernel_rfl) rfl #[.string a0, .int .i64 (wrap64 (a1 + 1)), .int .i64 2, .int .u8 41, .int .i64 a2] rfl (by (try simp only [List.map_toArray, List.map_cons, List.map_nil]); first | done | rfl | (simp only [List.length_drop, List.length_take]; rfl)) ?_; (with_reducible refine (ih_spec_l1Inner kj3 (by have := HJ3.out; omega) a0 (wrap64 (a1 + 1)) 2 41 a2 t186 t187 _ A26.out).mono ?_); rintro e w27 ⟨v188, rfl, ho0, hb⟩; refine ⟨_, rfl, ?_⟩; have n0_ := Aside0.mk (Kd.R_lower (Kd.R_newB ho0 (g := gb178) (o := .cells #[.int .i64 0, .int .i64 0, .string (⟨#[]⟩ : ByteArray), .slice none 0 0] 39 (0, 0)) (gK BK178)) (below_size (by repeat (first | exact gB HB | refine below_set ?_ GE178.out)))); have n1_ := Aside0.mk (blk_below (g := gb178) (o := .cells #[.int .i64 0, .int .i64 0, .string (⟨#[]⟩ : ByteArray), .slice none 0 0] 39 (0, 0)) (gK BK178) hb); have n2_ := Aside0.mk (below_step (by repeat (first | exact gB HB | refine below_set ?_ GE178.out)) hb); clear BK178; clear HB; have HO189 := n0_; have BK178 := n1_; have HB := n2_; clear n0_ n1_ n2_; (try clear hb); (try clear hb2); (try clear hk); (try clear hi); (try clear ho0); obtain ⟨Ao28, co28, eo28⟩ := Kd.R_slice HO189.out; subst eo28; have hcz29_0 : w27.cell? ⟨gb178, 0, none⟩ = some (.int .i64 0) := (blk_cell BK178.out 0).trans rfl; have hcz29_1 : w27.cell? ⟨gb178, 1, none⟩ = some (.int .i64 0) := (blk_cell BK178.out 1).trans rfl; have hcz29_2 : w27.cell? ⟨gb178, 2, none⟩ = some (.string (⟨#[]⟩ : ByteArray)) := (blk_cell BK178.out 2).trans rfl; have hcz29_3 : w27.cell? ⟨gb178, 3, none⟩ = some (.slice none 0 0) := (blk_cell BK178.out 3).trans rfl; have hfz29_0 := blk_frozen BK178.out 0; have hfz29_1 := blk_frozen BK178.out 1; have hfz29_2 := blk_frozen BK178.out 2; have hfz29_3 := blk_frozen BK178.out 3))
                          refine bodyPost_ret (results_ct rfl _ _ gb178 39 #[.int .i64 7, .int .i64 0, .string (⟨#[]⟩ : ByteArray), .slice Ao28 t186.length co28] (0, 0) _ rfl (by (with_reducible repeat (first | refine blk_drewN ?_ _ | refine blk_drew ?_ | refine blk_alloc ?_ _)); refine blk_put (cs := #[.int .i64 7, .int .i64 0, .string (⟨#[]⟩ : ByteArray), .slice none 0 0]) ?_ 3 _ rfl; (with_reducible repeat (first | refine blk_drewN ?_ _ | refine blk_drew ?_ | refine blk_alloc ?_ _)); refine blk_put (cs := #[.int .i64 7, .int .i64 0, .string (⟨#[]⟩ : ByteArray), .slice none 0 0]) ?_ 2 _ rfl; (with_reducible repeat (first | refine blk_drewN ?_ _ | refine blk_drew ?_ | refine blk_alloc ?_ _)); refine blk_put (cs := #[.int .i64 7, .int .i64 0, .string (⟨#[]⟩ : ByteArray), .slice none 0 0]) ?_ 1 _ rfl; (with_reducible repeat (first | refine blk_drewN ?_ _ | refine blk_drew ?_ | refine blk_alloc ?_ _)); refine blk_put (cs := #[.int .i64 0, .int .i64 0, .string (⟨#[]⟩ : ByteArray), .slice none 0 0]) ?_ 0 _ rfl; (with_reducible repeat (first | refine blk_drewN ?_ _ | refine blk_drew ?_ | refine blk_alloc ?_ _)); exact BK178.out) Try.underlying39 rfl (by kernel_rfl)) rfl ?_
                          exact ⟨_, by first | rfl | (simp [errW_none, errW_some] <;> rfl) | (simp [*, errW_none, errW_some] <;> rfl), by (with_reducible repeat (first | apply Kd.R_alloc | apply Kd.R_drewN | apply Kd.R_drew)); exact Kd.R_mono (Kd.R_far (p := ⟨gb178, 3, none⟩) (Kd.R_far (p := ⟨gb178, 2, none⟩) (Kd.R_far (p := ⟨gb178, 1, none⟩) (Kd.R_far (p := ⟨gb178, 0, none⟩) (Kd.R_mono HO189.out (fun k_ hk => (⟨hk, hk.2⟩ : _ ∧ k_ ≠ gb178))) (fun _ hk => hk.2) (.int .i64 7)) (fun _ hk => hk.2) (.int .i64 0)) (fun _ hk => hk.2) (.string (⟨#[]⟩ : ByteArray))) (fun _ hk => hk.2) (.slice Ao28 t186.length co28)) (fun _ hk => trivial), by repeat (first | exact gB HB | refine below_set ?_ GE178.out)⟩
                        · rw [if_neg c25] at H
                          have c25b0 : ((bt a0 a1) == 40) = false := beq_eq_false_iff_ne.mpr c25
                          have c25b1 : ((bt a0 a1) != 40) = true := bne_iff_ne.mpr c25
                          by_cases c30 : (bt a0 a1) = 91
                          · rw [if_pos c30] at H
                            have c30b0 : ((bt a0 a1) == 91) = true := beq_iff_eq.mpr c30
                            have c30b1 : ((bt a0 a1) != 91) = false := bne_eq_false_iff_eq.mpr c30
                            clear c30
                            replace H := Option.bind_eq_some_iff.mp H
                            obtain ⟨⟨t190, t191⟩, A310, H⟩ := H
                            replace H : (some (8, 0, (⟨#[]⟩ : ByteArray), t190, t191)) = some (r1, r2, r3, r4, r5) := H
                            have A31 := Aside0.mk A310
                            clear A310
                            simp only [Option.some.injEq, Prod.mk.injEq] at H
                            obtain ⟨rfl, rfl, rfl, rfl, rfl⟩ := H
                            have p11 : 0 ≤ (a1 : Int) := of_decide_eq_true (by first | (with_reducible assumption) | assumption)
                            have q11 : a1 < (a0.size : Int) := of_decide_eq_true (by first | (with_reducible assumption) | assumption)
                            have hx11 := bt_at a0 a1
                            replace p11 := eq_true p11
                            replace q11 := eq_true q11
                            go_wp2_with (first | ((with_reducible refine gate_callee (f := 101) rfl ?_); refine goesL_ (some 73) rfl rfl Try.func101 (by kernel_rfl) rfl #[.string a0, .int .i64 (wrap64 (a1 + 1)), .int .i64 1, .int .u8 93, .int .i64 a2] rfl (by (try simp only [List.map_toArray, List.map_cons, List.map_nil]); first | done | rfl | (simp only [List.length_drop, List.length_take]; rfl)) ?_; (with_reducible refine (ih_spec_l1Inner kj3 (by have := HJ3.out; omega) a0 (wrap64 (a1 + 1)) 1 93 a2 t190 t191 _ A31.out).mono ?_); rintro e w32 ⟨v192, rfl, ho0, hb⟩; refine ⟨_, rfl, ?_⟩; have n0_ := Aside0.mk (Kd.R_lower (Kd.R_newB ho0 (g := gb178) (o := .cells #[.int .i64 0, .int .i64 0, .string (⟨#[]⟩ : ByteArray), .slice none 0 0] 39 (0, 0)) (gK BK178)) (below_size (by repeat (first | exact gB HB | refine below_set ?_ GE178.out)))); have n1_ := Aside0.mk (blk_below (g := gb178) (o := .cells #[.int .i64 0, .int .i64 0, .string (⟨#[]⟩ : ByteArray), .slice none 0 0] 39 (0, 0)) (gK BK178) hb); have n2_ := Aside0.mk (below_step (by repeat (first | exact gB HB | refine below_set ?_ GE178.out)) hb); clear BK178; clear HB; have HO193 := n0_; have BK178 := n1_; have HB := n2_; clear n0_ n1_ n2_; (try clear hb); (try clear hb2); (try clear hk); (try clear hi); (try clear ho0); obtain ⟨Ao33, co33, eo33⟩ := Kd.R_slice HO193.out; subst eo33; have hcz34_0 : w32.cell? ⟨gb178, 0, none⟩ = some (.int .i64 0) := (blk_cell BK178.out 0).trans rfl; have hcz34_1 : w32.cell? ⟨gb178, 1, none⟩ = some (.int .i64 0) := (blk_cell BK178.out 1).trans rfl; have hcz34_2 : w32.cell? ⟨gb178, 2, none⟩ = some (.string (⟨#[]⟩ : ByteArray)) := (blk_cell BK178.out 2).trans rfl; have hcz34_3 : w32.cell? ⟨gb178, 3, none⟩ = some (.slice none 0 0) := (blk_cell BK178.out 3).trans rfl; have hfz34_0 := blk_frozen BK178.out 0; have hfz34_1 := blk_frozen BK178.out 1; have hfz34_2 := blk_frozen BK178.out 2; have hfz34_3 := blk_frozen BK178.out 3))
                            refine bodyPost_ret (results_ct rfl _ _ gb178 39 #[.int .i64 8, .int .i64 0, .string (⟨#[]⟩ : ByteArray), .slice Ao33 t190.length co33] (0, 0) _ rfl (by (with_reducible repeat (first | refine blk_drewN ?_ _ | refine blk_drew ?_ | refine blk_alloc ?_ _)); refine blk_put (cs := #[.int .i64 8, .int .i64 0, .string (⟨#[]⟩ : ByteArray), .slice none 0 0]) ?_ 3 _ rfl; (with_reducible repeat (first | refine blk_drewN ?_ _ | refine blk_drew ?_ | refine blk_alloc ?_ _)); refine blk_put (cs := #[.int .i64 8, .int .i64 0, .string (⟨#[]⟩ : ByteArray), .slice none 0 0]) ?_ 2 _ rfl; (with_reducible repeat (first | refine blk_drewN ?_ _ | refine blk_drew ?_ | refine blk_alloc ?_ _)); refine blk_put (cs := #[.int .i64 8, .int .i64 0, .string (⟨#[]⟩ : ByteArray), .slice none 0 0]) ?_ 1 _ rfl; (with_reducible repeat (first | refine blk_drewN ?_ _ | refine blk_drew ?_ | refine blk_alloc ?_ _)); refine blk_put (cs := #[.int .i64 0, .int .i64 0, .string (⟨#[]⟩ : ByteArray), .slice none 0 0]) ?_ 0 _ rfl; (with_reducible repeat (first | refine blk_drewN ?_ _ | refine blk_drew ?_ | refine blk_alloc ?_ _)); exact BK178.out) Try.underlying39 rfl (by kernel_rfl)) rfl ?_
                            exact ⟨_, by first | rfl | (simp [errW_none, errW_some] <;> rfl) | (simp [*, errW_none, errW_some] <;> rfl), by (with_reducible repeat (first | apply Kd.R_alloc | apply Kd.R_drewN | apply Kd.R_drew)); exact Kd.R_mono (Kd.R_far (p := ⟨gb178, 3, none⟩) (Kd.R_far (p := ⟨gb178, 2, none⟩) (Kd.R_far (p := ⟨gb178, 1, none⟩) (Kd.R_far (p := ⟨gb178, 0, none⟩) (Kd.R_mono HO193.out (fun k_ hk => (⟨hk, hk.2⟩ : _ ∧ k_ ≠ gb178))) (fun _ hk => hk.2) (.int .i64 8)) (fun _ hk => hk.2) (.int .i64 0)) (fun _ hk => hk.2) (.string (⟨#[]⟩ : ByteArray))) (fun _ hk => hk.2) (.slice Ao33 t190.length co33)) (fun _ hk => trivial), by repeat (first | exact gB HB | refine below_set ?_ GE178.out)⟩
                          · rw [if_neg c30] at H
                            have c30b0 : ((bt a0 a1) == 91) = false := beq_eq_false_iff_ne.mpr c30
                            have c30b1 : ((bt a0 a1) != 91) = true := bne_iff_ne.mpr c30
                            have HC35 := Aside0.mk H
                            clear H
                            have p11 : 0 ≤ (a1 : Int) := of_decide_eq_true (by first | (with_reducible assumption) | assumption)
                            have q11 : a1 < (a0.size : Int) := of_decide_eq_true (by first | (with_reducible assumption) | assumption)
                            have hx11 := bt_at a0 a1
                            replace p11 := eq_true p11
                            replace q11 := eq_true q11
                            go_upto_region 20 with (fail)
                            go_cut [102] (fun v102 wc => ∃ (kq : Nat) (x102_34 : Bool), v102 = .bool x102_34 ∧ Aside0 (spec_l1Read.j1 kq a0 a1 a2 x102_34 = some (r1, r2, r3, r4, r5)) ∧ Aside0 (kq ≤ kj3) ∧ Aside0 (wc.heap[gb178]? = some (.cells #[.int .i64 0, .int .i64 0, .string (⟨#[]⟩ : ByteArray), (.slice none 0 0)] 39 (0, 0))) ∧ Aside0 (Below w.heap.size w wc))
                            case first =>
                              have H := HC35.out
                              clear HC35
                              by_cases c37 : (bt a0 a1) ≥ 48
                              · rw [if_pos c37] at H
                                have c37b0 : decide (48 ≤ (bt a0 a1)) = true := decide_eq_true c37
                                clear c37
                                (first | rw [c37b0] | (simp only [i64_w, i32_w]; rw [c37b0]) | skip)
                                by_cases c39 : (bt a0 a1) ≤ 57
                                · rw [if_pos c39] at H
                                  have c39b0 : decide ((bt a0 a1) ≤ 57) = true := decide_eq_true c39
                                  clear c39
                                  by_cases c40 : (wrap64 (a1 + 1)) < (a0.size : Int)
                                  · rw [if_pos c40] at H
                                    have c40b0 : decide ((wrap64 (a1 + 1)) < (a0.size : Int)) = true := decide_eq_true c40
                                    clear c40
                                    obtain ⟨ji41, hji41⟩ : ∃ j_ : Int, (wrap64 (a1 + 1)) = j_ := ⟨_, rfl⟩
                                    replace H : (if 0 ≤ (ji41) then (spec_l1Read.j1 kj3 a0 a1 a2 ((bt a0 (ji41)) == 60)) else (none)) = some (r1, r2, r3, r4, r5) := by first | (rw [hji41] at H; exact H) | (simp only [hji41] at H ⊢; exact H)
                                    (try rw [hji41] at c40b0)
                                    have hji41w : (IntKind.i64.wrap (a1 + 1)) = ji41 := (i64_w _).trans hji41
                                    by_cases c42 : 0 ≤ (ji41)
                                    · rw [if_pos c42] at H
                                      have c42b0 : decide (0 ≤ (ji41)) = true := decide_eq_true c42
                                      clear c42
                                      have H' := Aside0.mk H
                                      clear H
                                      have p36 : 0 ≤ (a1 : Int) := of_decide_eq_true (by first | (with_reducible assumption) | assumption)
                                      have q36 : a1 < (a0.size : Int) := of_decide_eq_true (by first | (with_reducible assumption) | assumption)
                                      have hx36 := bt_at a0 a1
                                      replace p36 := eq_true p36
                                      replace q36 := eq_true q36
                                      have p38 : 0 ≤ (a1 : Int) := of_decide_eq_true (by first | (with_reducible assumption) | assumption)
                                      have q38 : a1 < (a0.size : Int) := of_decide_eq_true (by first | (with_reducible assumption) | assumption)
                                      have hx38 := bt_at a0 a1
                                      replace p38 := eq_true p38
                                      replace q38 := eq_true q38
                                      have p43 : 0 ≤ ((ji41) : Int) := of_decide_eq_true (by first | (with_reducible assumption) | assumption)
                                      have q43 : (ji41) < (a0.size : Int) := of_decide_eq_true (by first | (with_reducible assumption) | assumption)
                                      have hx43 := bt_at a0 (ji41)
                                      replace p43 := eq_true p43
                                      replace q43 := eq_true q43
                                      go_wp2
                                      go_meet
                                      case rel => exact ⟨_, (((bt a0 (ji41)) == 60)), (by first | rfl | (simp; done) | (simp only [← hji41] <;> (first | rfl | simp)) | (simp [*]; done)), H', ⟨by have := HJ3.out; first | omega | exact Nat.le_refl _⟩, ⟨gK BK178⟩, ⟨by repeat (first | exact gB HB | refine below_set ?_ GE178.out)⟩⟩
                                    · rw [if_neg c42] at H
                                      exact absurd H (by simp)
                                  · rw [if_neg c40] at H
                                    have c40b0 : decide ((wrap64 (a1 + 1)) < (a0.size : Int)) = false := decide_eq_false c40
                                    clear c40
                                    have H' := Aside0.mk H
                                    clear H
                                    have p36 : 0 ≤ (a1 : Int) := of_decide_eq_true (by first | (with_reducible assumption) | assumption)
                                    have q36 : a1 < (a0.size : Int) := of_decide_eq_true (by first | (with_reducible assumption) | assumption)
                                    have hx36 := bt_at a0 a1
                                    replace p36 := eq_true p36
                                    replace q36 := eq_true q36
                                    have p38 : 0 ≤ (a1 : Int) := of_decide_eq_true (by first | (with_reducible assumption) | assumption)
                                    have q38 : a1 < (a0.size : Int) := of_decide_eq_true (by first | (with_reducible assumption) | assumption)
                                    have hx38 := bt_at a0 a1
                                    replace p38 := eq_true p38
                                    replace q38 := eq_true q38
                                    go_wp2
                                    go_meet
                                    case rel => exact ⟨_, (false), (by first | rfl | (simp; done) | (simp [*]; done)), H', ⟨by have := HJ3.out; first | omega | exact Nat.le_refl _⟩, ⟨gK BK178⟩, ⟨by repeat (first | exact gB HB | refine below_set ?_ GE178.out)⟩⟩
                                · rw [if_neg c39] at H
                                  have c39b0 : decide ((bt a0 a1) ≤ 57) = false := decide_eq_false c39
                                  clear c39
                                  have H' := Aside0.mk H
                                  clear H
                                  have p36 : 0 ≤ (a1 : Int) := of_decide_eq_true (by first | (with_reducible assumption) | assumption)
                                  have q36 : a1 < (a0.size : Int) := of_decide_eq_true (by first | (with_reducible assumption) | assumption)
                                  have hx36 := bt_at a0 a1
                                  replace p36 := eq_true p36
                                  replace q36 := eq_true q36
                                  have p38 : 0 ≤ (a1 : Int) := of_decide_eq_true (by first | (with_reducible assumption) | assumption)
                                  have q38 : a1 < (a0.size : Int) := of_decide_eq_true (by first | (with_reducible assumption) | assumption)
                                  have hx38 := bt_at a0 a1
                                  replace p38 := eq_true p38
                                  replace q38 := eq_true q38
                                  go_wp2
                                  go_meet
                                  case rel => exact ⟨_, (false), (by first | rfl | (simp; done) | (simp [*]; done)), H', ⟨by have := HJ3.out; first | omega | exact Nat.le_refl _⟩, ⟨gK BK178⟩, ⟨by repeat (first | exact gB HB | refine below_set ?_ GE178.out)⟩⟩
                              · rw [if_neg c37] at H
                                have c37b0 : decide (48 ≤ (bt a0 a1)) = false := decide_eq_false c37
                                clear c37
                                (first | rw [c37b0] | (simp only [i64_w, i32_w]; rw [c37b0]) | skip)
                                have H' := Aside0.mk H
                                clear H
                                have p36 : 0 ≤ (a1 : Int) := of_decide_eq_true (by first | (with_reducible assumption) | assumption)
                                have q36 : a1 < (a0.size : Int) := of_decide_eq_true (by first | (with_reducible assumption) | assumption)
                                have hx36 := bt_at a0 a1
                                replace p36 := eq_true p36
                                replace q36 := eq_true q36
                                go_wp2
                                go_meet
                                case rel => exact ⟨_, (false), (by first | rfl | (simp; done) | (simp [*]; done)), H', ⟨by have := HJ3.out; first | omega | exact Nat.le_refl _⟩, ⟨gK BK178⟩, ⟨by repeat (first | exact gB HB | refine below_set ?_ GE178.out)⟩⟩
                            case rest =>
                              clear HC35
                              try clear c1
                              try clear p1
                              try clear q1
                              try clear hx1
                              try clear c2
                              try clear p2
                              try clear c3
                              try clear p3
                              try clear q3
                              try clear hx3
                              try clear c4
                              try clear p4
                              try clear q4
                              try clear hx4
                              try clear c6
                              try clear c6b0
                              try clear p6
                              try clear c7
                              try clear c9
                              try clear c9b0
                              try clear c10
                              try clear c10b0
                              try clear p11
                              try clear q11
                              try clear hx11
                              try clear c12
                              try clear c12b0
                              try clear c12b1
                              try clear c14
                              try clear c14b0
                              try clear c14b1
                              try clear c16
                              try clear c16b0
                              try clear c16b1
                              try clear c18
                              try clear c18b0
                              try clear c18b1
                              try clear c20
                              try clear c20b0
                              try clear c20b1
                              try clear c25
                              try clear c25b0
                              try clear c25b1
                              try clear c30
                              try clear c30b0
                              try clear c30b1
                              try clear p36
                              try clear q36
                              try clear hx36
                              try clear c37
                              try clear c37b0
                              try clear p38
                              try clear q38
                              try clear hx38
                              try clear c39
                              try clear c39b0
                              try clear c40
                              try clear c40b0
                              try clear c42
                              try clear c42b0
                              try clear p43
                              try clear q43
                              try clear hx43
                              try clear hcz13_0
                              try clear hcz13_1
                              try clear hcz13_2
                              try clear hcz13_3
                              try clear hcz15_0
                              try clear hcz15_1
                              try clear hcz15_2
                              try clear hcz15_3
                              try clear hcz17_0
                              try clear hcz17_1
                              try clear hcz17_2
                              try clear hcz17_3
                              try clear hcz19_0
                              try clear hcz19_1
                              try clear hcz19_2
                              try clear hcz19_3
                              try clear hcz23_0
                              try clear hcz23_1
                              try clear hcz23_2
                              try clear hcz23_3
                              try clear hcz29_0
                              try clear hcz29_1
                              try clear hcz29_2
                              try clear hcz29_3
                              try clear hcz34_0
                              try clear hcz34_1
                              try clear hcz34_2
                              try clear hcz34_3
                              try clear hcz8_0
                              try clear hcz8_1
                              try clear hcz8_2
                              try clear hcz8_3
                              try clear hfz13_0
                              try clear hfz13_1
                              try clear hfz13_2
                              try clear hfz13_3
                              try clear hfz15_0
                              try clear hfz15_1
                              try clear hfz15_2
                              try clear hfz15_3
                              try clear hfz17_0
                              try clear hfz17_1
                              try clear hfz17_2
                              try clear hfz17_3
                              try clear hfz19_0
                              try clear hfz19_1
                              try clear hfz19_2
                              try clear hfz19_3
                              try clear hfz23_0
                              try clear hfz23_1
                              try clear hfz23_2
                              try clear hfz23_3
                              try clear hfz29_0
                              try clear hfz29_1
                              try clear hfz29_2
                              try clear hfz29_3
                              try clear hfz34_0
                              try clear hfz34_1
                              try clear hfz34_2
                              try clear hfz34_3
                              try clear hfz8_0
                              try clear hfz8_1
                              try clear hfz8_2
                              try clear hfz8_3
                              try clear p11
                              try clear p2
                              try clear p36
                              try clear p38
                              try clear p43
                              try clear q11
                              try clear q36
                              try clear q38
                              try clear q43
                              obtain ⟨kq, x102_34, rfl, HA, HJ34, BK178, HB⟩ := hcut
                              cases kq with
                              | zero => exact absurd HA.out (by simp [spec_l1Read.j1])
                              | succ kj34 =>
                                have H := HA.out
                                clear HA
                                simp only [spec_l1Read.j1] at H
                                by_cases c44 : x102_34 = true
                                · subst c44
                                  have H1 : ((spec_l1Inner.f kj34 a0 (wrap64 (a1 + 2)) 1 62 a2).bind fun bt194 => (if 0 ≤ a1 then (if a1 < (a0.size : Int) then (some (6, ((bt a0 a1) - 48) % 256, (⟨#[]⟩ : ByteArray), bt194.1, bt194.2)) else (none)) else (none))) = some (r1, r2, r3, r4, r5) := by rw [if_pos rfl] at H; exact H
                                  clear H
                                  have H := H1
                                  clear H1
                                  replace H := Option.bind_eq_some_iff.mp H
                                  obtain ⟨⟨t194, t195⟩, A450, H⟩ := H
                                  replace H : (if 0 ≤ a1 then (if a1 < (a0.size : Int) then (some (6, ((bt a0 a1) - 48) % 256, (⟨#[]⟩ : ByteArray), t194, t195)) else (none)) else (none)) = some (r1, r2, r3, r4, r5) := H
                                  have A45 := Aside0.mk A450
                                  clear A450
                                  by_cases c46 : 0 ≤ a1
                                  · rw [if_pos c46] at H
                                    have c46b0 : decide (0 ≤ a1) = true := decide_eq_true c46
                                    clear c46
                                    by_cases c47 : a1 < (a0.size : Int)
                                    · rw [if_pos c47] at H
                                      have c47b0 : decide (a1 < (a0.size : Int)) = true := decide_eq_true c47
                                      clear c47
                                      simp only [Option.some.injEq, Prod.mk.injEq] at H
                                      obtain ⟨rfl, rfl, rfl, rfl, rfl⟩ := H
                                      go_wp2_with (first | ((with_reducible refine gate_callee (f := 101) rfl ?_); refine goesL_ (some 108) rfl rfl Try.func101 (by kernel_rfl) rfl #[.string a0, .int .i64 (wrap64 (a1 + 2)), .int .i64 1, .int .u8 62, .int .i64 a2] rfl (by (try simp only [List.map_toArray, List.map_cons, List.map_nil]); first | done | rfl | (simp only [List.length_drop, List.length_take]; rfl)) ?_; (with_reducible refine (ih_spec_l1Inner kj34 (by have := HJ3.out; have := HJ34.out; omega) a0 (wrap64 (a1 + 2)) 1 62 a2 t194 t195 _ A45.out).mono ?_); rintro e w49 ⟨v196, rfl, ho0, hb⟩; refine ⟨_, rfl, ?_⟩; have n0_ := Aside0.mk (Kd.R_lower (Kd.R_newB ho0 (g := gb178) (o := .cells #[.int .i64 0, .int .i64 0, .string (⟨#[]⟩ : ByteArray), .slice none 0 0] 39 (0, 0)) (gK BK178)) (below_size (by repeat (first | exact gB HB | refine below_set ?_ GE178.out)))); have n1_ := Aside0.mk (blk_below (g := gb178) (o := .cells #[.int .i64 0, .int .i64 0, .string (⟨#[]⟩ : ByteArray), .slice none 0 0] 39 (0, 0)) (gK BK178) hb); have n2_ := Aside0.mk (below_step (by repeat (first | exact gB HB | refine below_set ?_ GE178.out)) hb); clear BK178; clear HB; have HO197 := n0_; have BK178 := n1_; have HB := n2_; clear n0_ n1_ n2_; (try clear hb); (try clear hb2); (try clear hk); (try clear hi); (try clear ho0); have p48 : 0 ≤ (a1 : Int) := of_decide_eq_true (by first | (with_reducible assumption) | assumption); have q48 : a1 < (a0.size : Int) := of_decide_eq_true (by first | (with_reducible assumption) | assumption); have hx48 := bt_at a0 a1; replace p48 := eq_true p48; replace q48 := eq_true q48; obtain ⟨Ao50, co50, eo50⟩ := Kd.R_slice HO197.out; subst eo50; have hcz51_0 : w49.cell? ⟨gb178, 0, none⟩ = some (.int .i64 0) := (blk_cell BK178.out 0).trans rfl; have hcz51_1 : w49.cell? ⟨gb178, 1, none⟩ = some (.int .i64 0) := (blk_cell BK178.out 1).trans rfl; have hcz51_2 : w49.cell? ⟨gb178, 2, none⟩ = some (.string (⟨#[]⟩ : ByteArray)) := (blk_cell BK178.out 2).trans rfl; have hcz51_3 : w49.cell? ⟨gb178, 3, none⟩ = some (.slice none 0 0) := (blk_cell BK178.out 3).trans rfl; have hfz51_0 := blk_frozen BK178.out 0; have hfz51_1 := blk_frozen BK178.out 1; have hfz51_2 := blk_frozen BK178.out 2; have hfz51_3 := blk_frozen BK178.out 3))
                                      refine bodyPost_ret (results_ct rfl _ _ gb178 39 #[.int .i64 6, .int .i64 (((bt a0 a1) - 48) % 256), .string (⟨#[]⟩ : ByteArray), .slice Ao50 t194.length co50] (0, 0) _ rfl (by (with_reducible repeat (first | refine blk_drewN ?_ _ | refine blk_drew ?_ | refine blk_alloc ?_ _)); refine blk_put (cs := #[.int .i64 6, .int .i64 (((bt a0 a1) - 48) % 256), .string (⟨#[]⟩ : ByteArray), .slice none 0 0]) ?_ 3 _ rfl; (with_reducible repeat (first | refine blk_drewN ?_ _ | refine blk_drew ?_ | refine blk_alloc ?_ _)); refine blk_put (cs := #[.int .i64 6, .int .i64 (((bt a0 a1) - 48) % 256), .string (⟨#[]⟩ : ByteArray), .slice none 0 0]) ?_ 2 _ rfl; (with_reducible repeat (first | refine blk_drewN ?_ _ | refine blk_drew ?_ | refine blk_alloc ?_ _)); refine blk_put (cs := #[.int .i64 6, .int .i64 0, .string (⟨#[]⟩ : ByteArray), .slice none 0 0]) ?_ 1 _ rfl; (with_reducible repeat (first | refine blk_drewN ?_ _ | refine blk_drew ?_ | refine blk_alloc ?_ _)); refine blk_put (cs := #[.int .i64 0, .int .i64 0, .string (⟨#[]⟩ : ByteArray), .slice none 0 0]) ?_ 0 _ rfl; (with_reducible repeat (first | refine blk_drewN ?_ _ | refine blk_drew ?_ | refine blk_alloc ?_ _)); exact BK178.out) Try.underlying39 rfl (by kernel_rfl)) rfl ?_
                                      exact ⟨_, by first | rfl | (simp [errW_none, errW_some] <;> rfl) | (simp [*, errW_none, errW_some] <;> rfl), by (with_reducible repeat (first | apply Kd.R_alloc | apply Kd.R_drewN | apply Kd.R_drew)); exact Kd.R_mono (Kd.R_far (p := ⟨gb178, 3, none⟩) (Kd.R_far (p := ⟨gb178, 2, none⟩) (Kd.R_far (p := ⟨gb178, 1, none⟩) (Kd.R_far (p := ⟨gb178, 0, none⟩) (Kd.R_mono HO197.out (fun k_ hk => (⟨hk, hk.2⟩ : _ ∧ k_ ≠ gb178))) (fun _ hk => hk.2) (.int .i64 6)) (fun _ hk => hk.2) (.int .i64 (((bt a0 a1) - 48) % 256))) (fun _ hk => hk.2) (.string (⟨#[]⟩ : ByteArray))) (fun _ hk => hk.2) (.slice Ao50 t194.length co50)) (fun _ hk => trivial), by repeat (first | exact gB HB | refine below_set ?_ GE178.out)⟩
                                    · rw [if_neg c47] at H
                                      exact absurd H (by simp)
                                  · rw [if_neg c46] at H
                                    exact absurd H (by simp)
                                · replace c44 := Bool.eq_false_iff.mpr c44
                                  subst c44
                                  have H1 : (some (0, 0, (⟨#[]⟩ : ByteArray), ([] : List (SDoc)), (-1))) = some (r1, r2, r3, r4, r5) := by rw [if_neg (show ¬ (false = true) by decide)] at H; exact H
                                  clear H
                                  have H := H1
                                  clear H1
                                  simp only [Option.some.injEq, Prod.mk.injEq] at H
                                  obtain ⟨rfl, rfl, rfl, rfl, rfl⟩ := H
                                  have hcz52_0 : wc.cell? ⟨gb178, 0, none⟩ = some (.int .i64 0) := (blk_cell BK178.out 0).trans rfl
                                  have hcz52_1 : wc.cell? ⟨gb178, 1, none⟩ = some (.int .i64 0) := (blk_cell BK178.out 1).trans rfl
                                  have hcz52_2 : wc.cell? ⟨gb178, 2, none⟩ = some (.string (⟨#[]⟩ : ByteArray)) := (blk_cell BK178.out 2).trans rfl
                                  have hcz52_3 : wc.cell? ⟨gb178, 3, none⟩ = some (.slice none 0 0) := (blk_cell BK178.out 3).trans rfl
                                  have hfz52_0 := blk_frozen BK178.out 0
                                  have hfz52_1 := blk_frozen BK178.out 1
                                  have hfz52_2 := blk_frozen BK178.out 2
                                  have hfz52_3 := blk_frozen BK178.out 3
                                  go_wp2
                                  refine bodyPost_ret (results_ct rfl _ _ gb178 39 #[.int .i64 0, .int .i64 0, .string (⟨#[]⟩ : ByteArray), .slice none 0 0] (0, 0) _ rfl (by (with_reducible repeat (first | refine blk_drewN ?_ _ | refine blk_drew ?_ | refine blk_alloc ?_ _)); refine blk_put (cs := #[.int .i64 0, .int .i64 0, .string (⟨#[]⟩ : ByteArray), .slice none 0 0]) ?_ 3 _ rfl; (with_reducible repeat (first | refine blk_drewN ?_ _ | refine blk_drew ?_ | refine blk_alloc ?_ _)); refine blk_put (cs := #[.int .i64 0, .int .i64 0, .string (⟨#[]⟩ : ByteArray), .slice none 0 0]) ?_ 2 _ rfl; (with_reducible repeat (first | refine blk_drewN ?_ _ | refine blk_drew ?_ | refine blk_alloc ?_ _)); refine blk_put (cs := #[.int .i64 0, .int .i64 0, .string (⟨#[]⟩ : ByteArray), .slice none 0 0]) ?_ 1 _ rfl; (with_reducible repeat (first | refine blk_drewN ?_ _ | refine blk_drew ?_ | refine blk_alloc ?_ _)); refine blk_put (cs := #[.int .i64 0, .int .i64 0, .string (⟨#[]⟩ : ByteArray), .slice none 0 0]) ?_ 0 _ rfl; (with_reducible repeat (first | refine blk_drewN ?_ _ | refine blk_drew ?_ | refine blk_alloc ?_ _)); exact BK178.out) Try.underlying39 rfl (by kernel_rfl)) rfl ?_
                                  exact ⟨_, by first | rfl | (simp [errW_none, errW_some] <;> rfl) | (simp [*, errW_none, errW_some] <;> rfl), by first | exact Kd.R_nil _ _ _ _ _ | exact Kd.N_nil _ _ _ _ _ | exact Kd.V_nil _ _ _ _ _ | exact Kd.Q_nil _ _ _ _ _ | exact Kd.S_nil _ _ _ _ _, by repeat (first | exact gB HB | refine below_set ?_ GE178.out)⟩
            · rw [if_neg c10] at H
              exact absurd H (by simp)
          · rw [if_neg c9] at H
            exact absurd H (by simp)
  · have ih_spec_l1Read := fun (m_ : Nat) (hm_ : m_ < k) => (ih0 m_ hm_).1
    have ih := fun (m_ : Nat) (hm_ : m_ < k) => (ih0 m_ hm_).2
    clear ih0
    intro a0 a1 a2 a3 a4 r1 r2 w h
    cases k with
    | zero => exact absurd h (by simp [spec_l1Inner.f])
    | succ k =>
    simp only [spec_l1Inner.f] at h
    have hu39 := Try.underlying39
    have HB := Aside0.mk (Below.refl w.heap.size w)
    have H : (spec_l1Inner.l0 k a0 a1 a2 a3 a4 (([] : List (SDoc))) 0) = some (r1, r2) := h
    clear h
    obtain ⟨y198, hy198⟩ : ∃ y_ : List (SDoc), y_ = (([] : List (SDoc))) := ⟨_, rfl⟩
    replace H : (spec_l1Inner.l0 k a0 a1 a2 a3 a4 y198 0) = some (r1, r2) := by first | (rw [hy198]; with_reducible exact H) | (have H2_ := (Option.bind_some _ _).symm.trans H; rw [hy198]; with_reducible exact H2_) | (have H2_ := (Option.bind_some _ _).symm.trans H; with_reducible exact H2_) | with_reducible exact H | (rw [hy198]; exact H) | exact H
    have Ny198 := Aside0.mk hy198
    clear hy198
    have H' := Aside0.mk H
    clear H
    go_enter Try.func101, Try.ntmps101
    go_wp2_with (first | ((with_reducible refine gate_dst (N := 16) rfl ?_); refine Kd.R_lit k39 _ 39 ?hg (N := 16) ?hd (xs := ([] : List (SDoc))) (inner := []) (ok := fun _ => True) (okp := fun _ => True) ?hr ?hp (fun _ hk => hk) trivial (Below.refl _ _) (Nat.le_refl _) (by simp) ?_; (case hd => rfl); (case hg => rfl); (case hr => first | (go_simp; done) | (go_simp; rfl)); (case hp => exact (Reps.none _ _)); intro v199 w6 ho7 hb hg_ hnew_; clear hg_ hnew_; (first | rw [← Ny198.out] at ho7 | (simp only [Int.reduceToNat] at ho7; rw [← Ny198.out] at ho7)); have n0_ := Aside0.mk (Kd.R_lower ho7 (below_size (gB HB))); have n1_ := Aside0.mk (below_step (gB HB) hb); clear HB; have HO200 := n0_; have HB := n1_; clear n0_ n1_; clear hb ho7))
    go_loopg [1, 12, 13] k (fun kq v1 v12 v13 w' => ∃ (x1_1 : Int) (x12_1 : List (SDoc)) (x13_1 : Int), v1 = .int .i64 x1_1 ∧ v13 = .int .i64 x13_1 ∧ Aside0 (spec_l1Inner.l0 kq a0 x1_1 a2 a3 a4 x12_1 x13_1 = some (r1, r2)) ∧ Aside0 (kq ≤ k) ∧ Aside0 (Kd.R k39 39 w' w.heap.size (fun _ => True) v12 x12_1) ∧ Aside0 (Below w.heap.size w w'))
    case atStart => exact ⟨(a1), (y198), (0), (by first | rfl | (simp; done) | (simp [*]; done)), (by first | rfl | (simp; done) | (simp [*]; done)), H', ⟨Nat.le_refl _⟩, ⟨gR HO200⟩, ⟨gB HB⟩⟩
    case round =>
      clear H'
      try clear c1
      try clear p2
      (try clear HO_12); (try clear HB)
      obtain ⟨x1_1, x12_1, x13_1, rfl, rfl, HA, HK1, HO_12, HB⟩ := hrel
      cases gk with
      | zero => exact absurd HA.out (by simp [spec_l1Inner.l0])
      | succ k1 =>
        have H := HA.out
        clear HA
        simp only [spec_l1Inner.l0] at H
        by_cases c8 : x13_1 < a2
        · rw [if_pos c8] at H
          have c8b0 : decide (x13_1 < a2) = true := decide_eq_true c8
          clear c8
          replace H := Option.bind_eq_some_iff.mp H
          obtain ⟨⟨t201, t202, t203, t204, t207⟩, A90, H⟩ := H
          replace H : (if t207 < 0 then (some (x12_1, (-1))) else (if x12_1.length < 2513169434916 then (spec_l1Inner.l0 k1 a0 t207 a2 a3 a4 (x12_1 ++ [(⟨t201, t202, t203, t204⟩ : SDoc)]) (wrap64 (x13_1 + 1))) else (none))) = some (r1, r2) := H
          have A9 := Aside0.mk A90
          clear A90
          by_cases c10 : t207 < 0
          · rw [if_pos c10] at H
            have c10b0 : decide (t207 < 0) = true := decide_eq_true c10
            clear c10
            simp only [Option.some.injEq, Prod.mk.injEq] at H
            obtain ⟨rfl, rfl⟩ := H
            go_wp2_with (first | ((with_reducible refine gate_callee (f := 91) rfl ?_); refine goesL_ (some 27) rfl rfl Try.func91 (by kernel_rfl) rfl #[.string a0, .int .i64 x1_1, .int .i64 (wrap64 (a4 - 1))] rfl (by (try simp only [List.map_toArray, List.map_cons, List.map_nil]); first | done | rfl | (simp only [List.length_drop, List.length_take]; rfl)) ?_; (with_reducible refine (ih_spec_l1Read k1 (by have := HK1.out; omega) a0 x1_1 (wrap64 (a4 - 1)) t201 t202 t203 t204 t207 _ A9.out).mono ?_); rintro e w11 ⟨v205, rfl, ho0, hb⟩; refine ⟨_, rfl, ?_⟩; have n0_ := Aside0.mk (Kd.R_elder' (gR HO_12) (Kd.R_base ho0) hb); have n1_ := Aside0.mk (Kd.R_lower (Kd.R_new' ho0 (Kd.R_lt (gR HO_12))) (below_size (gB HB))); have n2_ := Aside0.mk (below_step (gB HB) hb); clear HO_12; clear HB; have HO_12 := n0_; have HO206 := n1_; have HB := n2_; clear n0_ n1_ n2_; (try clear hb); (try clear hb2); (try clear hk); (try clear hi); (try clear ho0)) | ((with_reducible refine gate_dst (N := 14) rfl ?_); refine box_event ?hg (N := 14) ?hd (cs := #[.int .i64 0, .int .i64 0, .string (⟨#[]⟩ : ByteArray), .slice none 0 0]) (t := 39) ?hr ?_; (case hd => rfl); (case hg => rfl); (case hr => first | (go_simp; done) | (go_simp; rfl)); intro gb208 hg w12 hbox hb; have n0_ := Aside0.mk (Kd.R_below (Kd.R_elderB (gR HO_12) gb208 (Nat.le_of_eq hg.symm)) hb); have n1_ := Aside0.mk (Kd.R_below (Kd.R_elderB (gR HO206) gb208 (Nat.le_of_eq hg.symm)) hb); have n2_ := Aside0.mk (below_step (gB HB) hb); have n3_ := Aside0.mk (hbox); have n4_ := Aside0.mk ((by rw [hg]; exact (below_size (gB HB)) : w.heap.size ≤ gb208)); have n5_ := Aside0.mk ((by rw [hg]; exact (below_size (gB HB)) : w.heap.size ≤ gb208)); clear HO_12; clear HO206; clear HB; have HO_12 := n0_; have HO206 := n1_; have HB := n2_; have BK208 := n3_; have GW208 := n4_; have GE208 := n5_; clear n0_ n1_ n2_ n3_ n4_ n5_; clear hb hbox hg; have hcz13_0 : w12.cell? ⟨gb208, 0, none⟩ = some (.int .i64 0) := (blk_cell BK208.out 0).trans rfl; have hcz13_1 : w12.cell? ⟨gb208, 1, none⟩ = some (.int .i64 0) := (blk_cell BK208.out 1).trans rfl; have hcz13_2 : w12.cell? ⟨gb208, 2, none⟩ = some (.string (⟨#[]⟩ : ByteArray)) := (blk_cell BK208.out 2).trans rfl; have hcz13_3 : w12.cell? ⟨gb208, 3, none⟩ = some (.slice none 0 0) := (blk_cell BK208.out 3).trans rfl; have hfz13_0 := blk_frozen BK208.out 0; have hfz13_1 := blk_frozen BK208.out 1; have hfz13_2 := blk_frozen BK208.out 2; have hfz13_3 := blk_frozen BK208.out 3; obtain ⟨Ao14, co14, eo14⟩ := Kd.R_slice HO206.out; subst eo14))
            go_ret2
            exact ⟨_, by first | rfl | (simp [errW_none, errW_some] <;> rfl) | (simp [*, errW_none, errW_some] <;> rfl), by (with_reducible repeat (first | apply Kd.R_alloc | apply Kd.R_drewN | apply Kd.R_drew)); exact Kd.R_mono (Kd.R_far (p := ⟨gb208, 3, none⟩) (Kd.R_far (p := ⟨gb208, 2, none⟩) (Kd.R_far (p := ⟨gb208, 1, none⟩) (Kd.R_far (p := ⟨gb208, 0, none⟩) (Kd.R_mono HO_12.out (fun k_ hk => (⟨hk, hk.2⟩ : _ ∧ k_ ≠ gb208))) (fun _ hk => hk.2) (.int .i64 t201)) (fun _ hk => hk.2) (.int .i64 t202)) (fun _ hk => hk.2) (.string t203)) (fun _ hk => hk.2) (.slice Ao14 t204.length co14)) (fun _ hk => trivial), by repeat (first | exact gB HB | refine below_set ?_ GE208.out)⟩
          · rw [if_neg c10] at H
            have c10b0 : decide (t207 < 0) = false := decide_eq_false c10
            clear c10
            by_cases c15 : x12_1.length < 2513169434916
            · rw [if_pos c15] at H
              have LMc15 := Aside0.mk c15
              clear c15
              obtain ⟨y209, hy209⟩ : ∃ y_ : List (SDoc), y_ = (x12_1 ++ [(⟨t201, t202, t203, t204⟩ : SDoc)]) := ⟨_, rfl⟩
              replace H : (spec_l1Inner.l0 k1 a0 t207 a2 a3 a4 y209 (wrap64 (x13_1 + 1))) = some (r1, r2) := by first | (rw [hy209]; with_reducible exact H) | (have H2_ := (Option.bind_some _ _).symm.trans H; rw [hy209]; with_reducible exact H2_) | (have H2_ := (Option.bind_some _ _).symm.trans H; with_reducible exact H2_) | with_reducible exact H | (rw [hy209]; exact H) | exact H
              have Ny209 := Aside0.mk hy209
              clear hy209
              have H' := Aside0.mk H
              clear H
              go_wp2_with (first | ((with_reducible refine gate_callee (f := 91) rfl ?_); refine goesL_ (some 27) rfl rfl Try.func91 (by kernel_rfl) rfl #[.string a0, .int .i64 x1_1, .int .i64 (wrap64 (a4 - 1))] rfl (by (try simp only [List.map_toArray, List.map_cons, List.map_nil]); first | done | rfl | (simp only [List.length_drop, List.length_take]; rfl)) ?_; (with_reducible refine (ih_spec_l1Read k1 (by have := HK1.out; omega) a0 x1_1 (wrap64 (a4 - 1)) t201 t202 t203 t204 t207 _ A9.out).mono ?_); rintro e w16 ⟨v205, rfl, ho0, hb⟩; refine ⟨_, rfl, ?_⟩; have n0_ := Aside0.mk (Kd.R_elder' (gR HO_12) (Kd.R_base ho0) hb); have n1_ := Aside0.mk (Kd.R_lower (Kd.R_new' ho0 (Kd.R_lt (gR HO_12))) (below_size (gB HB))); have n2_ := Aside0.mk (below_step (gB HB) hb); clear HO_12; clear HB; have HO_12 := n0_; have HO206 := n1_; have HB := n2_; clear n0_ n1_ n2_; (try clear hb); (try clear hb2); (try clear hk); (try clear hi); (try clear ho0)) | ((with_reducible refine gate_dst (N := 14) rfl ?_); refine box_event ?hg (N := 14) ?hd (cs := #[.int .i64 0, .int .i64 0, .string (⟨#[]⟩ : ByteArray), .slice none 0 0]) (t := 39) ?hr ?_; (case hd => rfl); (case hg => rfl); (case hr => first | (go_simp; done) | (go_simp; rfl)); intro gb208 hg w17 hbox hb; have n0_ := Aside0.mk (Kd.R_below (Kd.R_elderB (gR HO_12) gb208 (Nat.le_of_eq hg.symm)) hb); have n1_ := Aside0.mk (Kd.R_below (Kd.R_elderB (gR HO206) gb208 (Nat.le_of_eq hg.symm)) hb); have n2_ := Aside0.mk (below_step (gB HB) hb); have n3_ := Aside0.mk (hbox); have n4_ := Aside0.mk ((by rw [hg]; exact (below_size (gB HB)) : w.heap.size ≤ gb208)); have n5_ := Aside0.mk ((by rw [hg]; exact (below_size (gB HB)) : w.heap.size ≤ gb208)); clear HO_12; clear HO206; clear HB; have HO_12 := n0_; have HO206 := n1_; have HB := n2_; have BK208 := n3_; have GW208 := n4_; have GE208 := n5_; clear n0_ n1_ n2_ n3_ n4_ n5_; clear hb hbox hg; have hcz18_0 : w17.cell? ⟨gb208, 0, none⟩ = some (.int .i64 0) := (blk_cell BK208.out 0).trans rfl; have hcz18_1 : w17.cell? ⟨gb208, 1, none⟩ = some (.int .i64 0) := (blk_cell BK208.out 1).trans rfl; have hcz18_2 : w17.cell? ⟨gb208, 2, none⟩ = some (.string (⟨#[]⟩ : ByteArray)) := (blk_cell BK208.out 2).trans rfl; have hcz18_3 : w17.cell? ⟨gb208, 3, none⟩ = some (.slice none 0 0) := (blk_cell BK208.out 3).trans rfl; have hfz18_0 := blk_frozen BK208.out 0; have hfz18_1 := blk_frozen BK208.out 1; have hfz18_2 := blk_frozen BK208.out 2; have hfz18_3 := blk_frozen BK208.out 3; obtain ⟨Ao19, co19, eo19⟩ := Kd.R_slice HO206.out; subst eo19) | ((with_reducible refine gate_store (t := 39) (p := 14) rfl ?_); refine store_event (t := 39) (p := 14) (v := ?vo_w20) (w1 := ((((w17.setCell ⟨gb208, 0, none⟩ (.int .i64 t201)).setCell ⟨gb208, 1, none⟩ (.int .i64 t202)).setCell ⟨gb208, 2, none⟩ (.string t203)).setCell ⟨gb208, 3, none⟩ (.slice Ao19 t204.length co19))) ?hg ?ho ?hn ?hr ?_; (case ho => rfl); (case hg => rfl); (case hn => rfl); (case hr => first | (go_simp; done) | (go_simp; rfl)); intro w20 hw; have n0_ : Aside0 (Kd.R k39 39 w20 w.heap.size (fun k_ => some k_ ≠ (.slice Ao19 t204.length co19 : Value).ownBlock ∧ k_ ≠ gb208) u12 x12_1) := ⟨(by rw [hw]; exact (by (with_reducible repeat (first | apply Kd.R_alloc | apply Kd.R_drewN | apply Kd.R_drew)); exact Kd.R_mono (Kd.R_far (p := ⟨gb208, 3, none⟩) (Kd.R_far (p := ⟨gb208, 2, none⟩) (Kd.R_far (p := ⟨gb208, 1, none⟩) (Kd.R_far (p := ⟨gb208, 0, none⟩) (Kd.R_mono HO_12.out (fun k_ hk => (⟨hk, hk.2⟩ : _ ∧ k_ ≠ gb208))) (fun _ hk => hk.2) (.int .i64 t201)) (fun _ hk => hk.2) (.int .i64 t202)) (fun _ hk => hk.2) (.string t203)) (fun _ hk => hk.2) (.slice Ao19 t204.length co19)) (fun _ hk => ⟨hk.1.1.2, hk.1.2⟩)))⟩; have n1_ : Aside0 (Kd.R k39 39 w20 w.heap.size (fun k_ => some k_ ≠ (u12 : Value).ownBlock ∧ k_ ≠ gb208) (.slice Ao19 t204.length co19) t204) := ⟨(by rw [hw]; exact (by (with_reducible repeat (first | apply Kd.R_alloc | apply Kd.R_drewN | apply Kd.R_drew)); exact Kd.R_mono (Kd.R_far (p := ⟨gb208, 3, none⟩) (Kd.R_far (p := ⟨gb208, 2, none⟩) (Kd.R_far (p := ⟨gb208, 1, none⟩) (Kd.R_far (p := ⟨gb208, 0, none⟩) (Kd.R_mono HO206.out (fun k_ hk => (⟨hk, hk.2⟩ : _ ∧ k_ ≠ gb208))) (fun _ hk => hk.2) (.int .i64 t201)) (fun _ hk => hk.2) (.int .i64 t202)) (fun _ hk => hk.2) (.string t203)) (fun _ hk => hk.2) (.slice Ao19 t204.length co19)) (fun _ hk => ⟨hk.1.1.2, hk.1.2⟩)))⟩; have n2_ : Aside0 (w20.heap[gb208]? = some (.cells #[.int .i64 t201, .int .i64 t202, .string t203, .slice Ao19 t204.length co19] 39 (0, 0))) := ⟨(by rw [hw]; exact (by (with_reducible repeat (first | refine blk_drewN ?_ _ | refine blk_drew ?_ | refine blk_alloc ?_ _)); refine blk_put (cs := #[.int .i64 t201, .int .i64 t202, .string t203, .slice none 0 0]) ?_ 3 _ rfl; (with_reducible repeat (first | refine blk_drewN ?_ _ | refine blk_drew ?_ | refine blk_alloc ?_ _)); refine blk_put (cs := #[.int .i64 t201, .int .i64 t202, .string (⟨#[]⟩ : ByteArray), .slice none 0 0]) ?_ 2 _ rfl; (with_reducible repeat (first | refine blk_drewN ?_ _ | refine blk_drew ?_ | refine blk_alloc ?_ _)); refine blk_put (cs := #[.int .i64 t201, .int .i64 0, .string (⟨#[]⟩ : ByteArray), .slice none 0 0]) ?_ 1 _ rfl; (with_reducible repeat (first | refine blk_drewN ?_ _ | refine blk_drew ?_ | refine blk_alloc ?_ _)); refine blk_put (cs := #[.int .i64 0, .int .i64 0, .string (⟨#[]⟩ : ByteArray), .slice none 0 0]) ?_ 0 _ rfl; (with_reducible repeat (first | refine blk_drewN ?_ _ | refine blk_drew ?_ | refine blk_alloc ?_ _)); exact BK208.out))⟩; have n3_ : Aside0 (Below w.heap.size w w20) := ⟨(by rw [hw]; exact (by repeat (first | exact gB HB | refine below_set ?_ GE208.out)))⟩; clear hw; clear HO_12; clear HO206; clear BK208; clear HB; have HO_12 := n0_; have HO206 := n1_; have BK208 := n2_; have HB := n3_; clear n0_ n1_ n2_ n3_; have hcz21_0 : w20.cell? ⟨gb208, 0, none⟩ = some (.int .i64 t201) := (blk_cell BK208.out 0).trans rfl; have hcz21_1 : w20.cell? ⟨gb208, 1, none⟩ = some (.int .i64 t202) := (blk_cell BK208.out 1).trans rfl; have hcz21_2 : w20.cell? ⟨gb208, 2, none⟩ = some (.string t203) := (blk_cell BK208.out 2).trans rfl; have hcz21_3 : w20.cell? ⟨gb208, 3, none⟩ = some (.slice Ao19 t204.length co19) := (blk_cell BK208.out 3).trans rfl; have hfz21_0 := blk_frozen BK208.out 0; have hfz21_1 := blk_frozen BK208.out 1; have hfz21_2 := blk_frozen BK208.out 2; have hfz21_3 := blk_frozen BK208.out 3) | ((with_reducible refine gate_builtin (b := .append) (xs := #[.tmp 33, .tmp 35]) rfl ?_); at_builtin; refine Kd.R_append k39 (w0 := w) w.heap.size rfl (.tmp 33) (.tmp 35) 37 39 (.agg #[(.int .i64 0), (.int .i64 0), (.string ⟨#[]⟩), (.slice none 0 0)]) 56 rfl Try.underlying37 info39 rfl (by decide) (by omega) u12 x12_1 (⟨t201, t202, t203, t204⟩ : SDoc) [.int .i64 t201, .int .i64 t202, .string t203, .slice Ao19 t204.length co19] (fun k_ => k_ ≠ gb208) (fun k_ => ((fun k_ => k_ ≠ gb208)) k_ ∧ some k_ ≠ (u12 : Value).ownBlock) rfl rfl ?aP (fun _ hk => hk) ?aF ?aO ?aB ?aS ?aL ?_; (case aP => exact k39_mkM _ _ _ (⟨t201, t202, t203, t204⟩ : SDoc) (Kd.R_mono (HO206.out) (fun k_ hk => ⟨hk.2, hk.1⟩))); (case aB => exact (by repeat (first | exact gB HB | refine below_set ?_ GE208.out))); (case aF => exact (fun k_ hk => Kd.freshB (g := gb208) (o := .cells #[.int .i64 t201, .int .i64 t202, .string t203, .slice Ao19 t204.length co19] 39 (0, 0)) (gK BK208) k_ hk)); (case aO => exact (by (with_reducible repeat (first | apply Kd.R_alloc | apply Kd.R_drewN | apply Kd.R_drew)); exact Kd.R_mono HO_12.out (fun _ hk => hk.2))); (case aS => exact (below_size (by repeat (first | exact gB HB | refine below_set ?_ GE208.out)))); (case aL => have := LMc15.out; omega); intro v210 w22 ho hb hg hat; rw [← Ny209.out] at ho; have n0_ := Aside0.mk (blk_grown (g := gb208) (o := .cells #[.int .i64 t201, .int .i64 t202, .string t203, .slice Ao19 t204.length co19] 39 (0, 0)) (gK BK208) hg (Kd.R_away HO_12.out (fun _ hk => hk.2))); have n1_ := Aside0.mk (hb); have n2_ := Aside0.mk (ho); clear BK208; clear HB; clear HO_12; clear HO206; have BK208 := n0_; have HB := n1_; have HO211 := n2_; clear n0_ n1_ n2_; clear ho hb hg hat))
              go_roundg k1
              case measure => have := HK1.out; omega
              case rel => exact ⟨(t207), (y209), (wrap64 (x13_1 + 1)), (by first | rfl | (simp; done) | (simp [*]; done)), (by first | rfl | (simp; done) | (simp [*]; done)), H', ⟨by have := HK1.out; omega⟩, ⟨by (with_reducible repeat (first | apply Kd.R_alloc | apply Kd.R_drewN | apply Kd.R_drew)); exact Kd.R_mono HO211.out (fun _ hk => trivial)⟩, ⟨by repeat (first | exact gB HB | refine below_set ?_ GE208.out)⟩⟩
            · rw [if_neg c15] at H
              exact absurd H (by simp)
        · rw [if_neg c8] at H
          have c8b0 : decide (x13_1 < a2) = false := decide_eq_false c8
          clear c8
          by_cases c23 : x1_1 ≥ (a0.size : Int)
          · rw [if_pos c23] at H
            have c23b0 : decide ((a0.size : Int) ≤ x1_1) = true := decide_eq_true c23
            clear c23
            simp only [Option.some.injEq, Prod.mk.injEq] at H
            obtain ⟨rfl, rfl⟩ := H
            go_wp2
            go_ret2
            exact ⟨_, by first | rfl | (simp [errW_none, errW_some] <;> rfl) | (simp [*, errW_none, errW_some] <;> rfl), gR HO_12, gB HB⟩
          · rw [if_neg c23] at H
            have c23b0 : decide ((a0.size : Int) ≤ x1_1) = false := decide_eq_false c23
            clear c23
            by_cases c24 : 0 ≤ x1_1
            · rw [if_pos c24] at H
              have c24b0 : decide (0 ≤ x1_1) = true := decide_eq_true c24
              clear c24
              by_cases c25 : x1_1 < (a0.size : Int)
              · rw [if_pos c25] at H
                have c25b0 : decide (x1_1 < (a0.size : Int)) = true := decide_eq_true c25
                clear c25
                by_cases c27 : (bt a0 x1_1) = a3
                · rw [if_pos c27] at H
                  have c27b0 : ((bt a0 x1_1) == a3) = true := beq_iff_eq.mpr c27
                  have c27b1 : ((bt a0 x1_1) != a3) = false := bne_eq_false_iff_eq.mpr c27
                  clear c27
                  simp only [Option.some.injEq, Prod.mk.injEq] at H
                  obtain ⟨rfl, rfl⟩ := H
                  have p26 : 0 ≤ (x1_1 : Int) := of_decide_eq_true (by first | (with_reducible assumption) | assumption)
                  have q26 : x1_1 < (a0.size : Int) := of_decide_eq_true (by first | (with_reducible assumption) | assumption)
                  have hx26 := bt_at a0 x1_1
                  replace p26 := eq_true p26
                  replace q26 := eq_true q26
                  go_wp2
                  go_ret2
                  exact ⟨_, by first | rfl | (simp [errW_none, errW_some] <;> rfl) | (simp [*, errW_none, errW_some] <;> rfl), gR HO_12, gB HB⟩
                · rw [if_neg c27] at H
                  have c27b0 : ((bt a0 x1_1) == a3) = false := beq_eq_false_iff_ne.mpr c27
                  have c27b1 : ((bt a0 x1_1) != a3) = true := bne_iff_ne.mpr c27
                  simp only [Option.some.injEq, Prod.mk.injEq] at H
                  obtain ⟨rfl, rfl⟩ := H
                  have p26 : 0 ≤ (x1_1 : Int) := of_decide_eq_true (by first | (with_reducible assumption) | assumption)
                  have q26 : x1_1 < (a0.size : Int) := of_decide_eq_true (by first | (with_reducible assumption) | assumption)
                  have hx26 := bt_at a0 x1_1
                  replace p26 := eq_true p26
                  replace q26 := eq_true q26
                  go_wp2
                  go_ret2
                  exact ⟨_, by first | rfl | (simp [errW_none, errW_some] <;> rfl) | (simp [*, errW_none, errW_some] <;> rfl), gR HO_12, gB HB⟩
              · rw [if_neg c25] at H
                exact absurd H (by simp)
            · rw [if_neg c24] at H
              exact absurd H (by simp)
theorem spec_l1Read.calls (k : Nat) : ∀ (a0 : ByteArray) (a1 : Int) (a2 : Int) (r1 : Int) (r2 : Int) (r3 : ByteArray) (r4 : List (SDoc)) (r5 : Int) (w : World) (h : spec_l1Read.f k a0 a1 a2 = some (r1, r2, r3, r4, r5)),
    Calls Try.prog 91 #[.string a0, .int .i64 a1, .int .i64 a2] w fun e w' => ∃ v3_ : Value, e = .returned (.tuple #[.agg #[.int .i64 r1, .int .i64 r2, .string r3, v3_], .int .i64 r5]) ∧ Kd.R k39 39 w' w.heap.size (fun _ => True) v3_ r4 ∧ Below w.heap.size w w' := (spec_l1Read.calls_g k).1
end Go.Proofs.Ytdhdfmmefghijab.P
namespace Go.Proofs.Ytdhdfmmefghijab.P
open Go.RowKit Go.Proofs.YtdhdfmmefghijabW.PrintWords Go.Proofs.YtdhdfmmefghijabW.PrintLast Go.Proofs.YtdhdfmmefghijabW.PrintMore
attribute [local go_sem] max2_int min2_int max_two min_two max_three min_three max_four min_four
set_option linter.unusedVariables false
set_option linter.unusedSimpArgs false
def spec_ParseDoc.f (k : Nat) (a0 : ByteArray) : Option (Int × Int × ByteArray × (List (SDoc)) × Bool) := (spec_l1Read.f k a0 0 40).bind fun bt213 => (if bt213.2.2.2.2 = (a0.size : Int) then ((spec_DocValid.f k bt213.1 bt213.2.1 bt213.2.2.1 bt213.2.2.2.1).bind fun t221 => (if t221 = true then (some (bt213.1, bt213.2.1, bt213.2.2.1, bt213.2.2.2.1, true)) else (some (0, 0, (⟨#[]⟩ : ByteArray), ([] : List (SDoc)), false)))) else (some (0, 0, (⟨#[]⟩ : ByteArray), ([] : List (SDoc)), false)))
set_option maxHeartbeats 8000000 in
set_option maxRecDepth 100000 in
theorem spec_ParseDoc.calls (k : Nat) (a0 : ByteArray) (r1 : Int) (r2 : Int) (r3 : ByteArray) (r4 : List (SDoc)) (r5 : Bool) (w : World) (h : spec_ParseDoc.f k a0 = some (r1, r2, r3, r4, r5)) :
    Calls Try.prog 81 #[.string a0] w fun e w' => ∃ v3_ : Value, e = .returned (.tuple #[.agg #[.int .i64 r1, .int .i64 r2, .string r3, v3_], .bool r5]) ∧ Kd.R k39 39 w' w.heap.size (fun _ => True) v3_ r4 ∧ Below w.heap.size w w' := by
  have hu39 := Try.underlying39
  have HB := Aside0.mk (Below.refl w.heap.size w)
  have H : ((spec_l1Read.f k a0 0 40).bind fun bt213 => (if bt213.2.2.2.2 = (a0.size : Int) then ((spec_DocValid.f k bt213.1 bt213.2.1 bt213.2.2.1 bt213.2.2.2.1).bind fun t221 => (if t221 = true then (some (bt213.1, bt213.2.1, bt213.2.2.1, bt213.2.2.2.1, true)) else (some (0, 0, (⟨#[]⟩ : ByteArray), ([] : List (SDoc)), false)))) else (some (0, 0, (⟨#[]⟩ : ByteArray), ([] : List (SDoc)), false)))) = some (r1, r2, r3, r4, r5) := h
  clear h
  replace H := Option.bind_eq_some_iff.mp H
  obtain ⟨⟨t213, t214, t215, t216, t219⟩, A20, H⟩ := H
  replace H : (if t219 = (a0.size : Int) then ((spec_DocValid.f k t213 t214 t215 t216).bind fun t221 => (if t221 = true then (some (t213, t214, t215, t216, true)) else (some (0, 0, (⟨#[]⟩ : ByteArray), ([] : List (SDoc)), false)))) else (some (0, 0, (⟨#[]⟩ : ByteArray), ([] : List (SDoc)), false))) = some (r1, r2, r3, r4, r5) := H
  have A2 := Aside0.mk A20
  clear A20
  by_cases c3 : t219 = (a0.size : Int)
  · rw [if_pos c3] at H
    have c3b0 : (t219 == (a0.size : Int)) = true := beq_iff_eq.mpr c3
    have c3b1 : (t219 != (a0.size : Int)) = false := bne_eq_false_iff_eq.mpr c3
    clear c3
    replace H := Option.bind_eq_some_iff.mp H
    obtain ⟨t221, A40, H⟩ := H
    replace H : (if t221 = true then (some (t213, t214, t215, t216, true)) else (some (0, 0, (⟨#[]⟩ : ByteArray), ([] : List (SDoc)), false))) = some (r1, r2, r3, r4, r5) := H
    have A4 := Aside0.mk A40
    clear A40
    by_cases c5 : t221 = true
    · subst c5
      have H1 : (some (t213, t214, t215, t216, true)) = some (r1, r2, r3, r4, r5) := by rw [if_pos rfl] at H; exact H
      clear H
      have H := H1
      clear H1
      simp only [Option.some.injEq, Prod.mk.injEq] at H
      obtain ⟨rfl, rfl, rfl, rfl, rfl⟩ := H
      go_enter Try.func81, Try.ntmps81
      go_wp2_with (first | ((with_reducible refine gate_dst (N := 2) rfl ?_); refine box_event ?hg (N := 2) ?hd (cs := #[.int .i64 0, .int .i64 0, .string (⟨#[]⟩ : ByteArray), .slice none 0 0]) (t := 39) ?hr ?_; (case hd => rfl); (case hg => rfl); (case hr => first | (go_simp; done) | (go_simp; rfl)); intro gb212 hg w6 hbox hb; have n0_ := Aside0.mk (below_step (gB HB) hb); have n1_ := Aside0.mk (hbox); have n2_ := Aside0.mk ((by rw [hg]; exact (below_size (gB HB)) : w.heap.size ≤ gb212)); have n3_ := Aside0.mk ((by rw [hg]; exact (below_size (gB HB)) : w.heap.size ≤ gb212)); clear HB; have HB := n0_; have BK212 := n1_; have GW212 := n2_; have GE212 := n3_; clear n0_ n1_ n2_ n3_; clear hb hbox hg) | ((with_reducible refine gate_callee (f := 91) rfl ?_); refine goesL_ (some 8) rfl rfl Try.func91 (by kernel_rfl) rfl #[.string a0, .int .i64 0, .int .i64 40] rfl (by (try simp only [List.map_toArray, List.map_cons, List.map_nil]); first | done | rfl | (simp only [List.length_drop, List.length_take]; rfl)) ?_; (with_reducible refine (spec_l1Read.calls k a0 0 40 t213 t214 t215 t216 t219 _ A2.out).mono ?_); rintro e w7 ⟨v217, rfl, ho0, hb⟩; refine ⟨_, rfl, ?_⟩; have n0_ := Aside0.mk (Kd.R_lower (Kd.R_newB ho0 (g := gb212) (o := .cells #[.int .i64 0, .int .i64 0, .string (⟨#[]⟩ : ByteArray), .slice none 0 0] 39 (0, 0)) (gK BK212)) (below_size (by repeat (first | exact gB HB | refine below_set ?_ GE212.out)))); have n1_ := Aside0.mk (blk_below (g := gb212) (o := .cells #[.int .i64 0, .int .i64 0, .string (⟨#[]⟩ : ByteArray), .slice none 0 0] 39 (0, 0)) (gK BK212) hb); have n2_ := Aside0.mk (below_step (by repeat (first | exact gB HB | refine below_set ?_ GE212.out)) hb); clear BK212; clear HB; have HO218 := n0_; have BK212 := n1_; have HB := n2_; clear n0_ n1_ n2_; (try clear hb); (try clear hb2); (try clear hk); (try clear hi); (try clear ho0)) | ((with_reducible refine gate_dst (N := 4) rfl ?_); refine box_event ?hg (N := 4) ?hd (cs := #[.int .i64 0, .int .i64 0, .string (⟨#[]⟩ : ByteArray), .slice none 0 0]) (t := 39) ?hr ?_; (case hd => rfl); (case hg => rfl); (case hr => first | (go_simp; done) | (go_simp; rfl)); intro gb220 hg w8 hbox hb; have n0_ := Aside0.mk (Kd.R_below (Kd.R_elderB (gR HO218) gb220 (Nat.le_of_eq hg.symm)) hb); have n1_ := Aside0.mk (blk_below (g := gb212) (o := .cells #[.int .i64 0, .int .i64 0, .string (⟨#[]⟩ : ByteArray), .slice none 0 0] 39 (0, 0)) (gK BK212) hb); have n2_ := Aside0.mk (below_step (by repeat (first | exact gB HB | refine below_set ?_ GE212.out)) hb); have n3_ := Aside0.mk (hbox); have n4_ := Aside0.mk ((by rw [hg]; exact (below_size (by repeat (first | exact gB HB | refine below_set ?_ GE212.out))) : w.heap.size ≤ gb220)); have n5_ := Aside0.mk ((by rw [hg]; exact (below_size (by repeat (first | exact gB HB | refine below_set ?_ GE212.out))) : w.heap.size ≤ gb220)); have n6_ := Aside0.mk ((by rw [hg]; exact Nat.ne_of_lt (blk_lt (g := gb212) (o := .cells #[.int .i64 0, .int .i64 0, .string (⟨#[]⟩ : ByteArray), .slice none 0 0] 39 (0, 0)) (gK BK212)) : gb212 ≠ gb220)); have n7_ := Aside0.mk ((by rw [hg]; exact Nat.ne_of_gt (blk_lt (g := gb212) (o := .cells #[.int .i64 0, .int .i64 0, .string (⟨#[]⟩ : ByteArray), .slice none 0 0] 39 (0, 0)) (gK BK212)) : gb220 ≠ gb212)); clear HO218; clear BK212; clear HB; have HO218 := n0_; have BK212 := n1_; have HB := n2_; have BK220 := n3_; have GW220 := n4_; have GE220 := n5_; have NB212_220 := n6_; have NB220_212 := n7_; clear n0_ n1_ n2_ n3_ n4_ n5_ n6_ n7_; clear hb hbox hg; have hnb9 := NB220_212.out; have hnc9 := NB212_220.out; have hcz10_0 : w8.cell? ⟨gb220, 0, none⟩ = some (.int .i64 0) := (blk_cell BK220.out 0).trans rfl; have hcz10_1 : w8.cell? ⟨gb220, 1, none⟩ = some (.int .i64 0) := (blk_cell BK220.out 1).trans rfl; have hcz10_2 : w8.cell? ⟨gb220, 2, none⟩ = some (.string (⟨#[]⟩ : ByteArray)) := (blk_cell BK220.out 2).trans rfl; have hcz10_3 : w8.cell? ⟨gb220, 3, none⟩ = some (.slice none 0 0) := (blk_cell BK220.out 3).trans rfl; have hfz10_0 := blk_frozen BK220.out 0; have hfz10_1 := blk_frozen BK220.out 1; have hfz10_2 := blk_frozen BK220.out 2; have hfz10_3 := blk_frozen BK220.out 3; obtain ⟨Ao11, co11, eo11⟩ := Kd.R_slice HO218.out; subst eo11) | (go_at_call 52; (with_reducible refine (spec_DocValid.calls k t213 t214 t215 _ _ t216 true _ ?side1 ?side2 A4.out).mono ?_); (case side1 => refine (Kd.R_reads' (e := 39) (base := w.heap.size) (ok := fun k_ => ((True ∧ k_ ≠ gb212) ∧ k_ ≠ gb220)) (n := t216.length) (c := co11) ?_).2.2; exact (by (with_reducible repeat (first | apply Kd.R_alloc | apply Kd.R_drewN | apply Kd.R_drew)); exact (Kd.R_mono (Kd.R_far (p := ⟨gb220, 3, none⟩) (Kd.R_far (p := ⟨gb220, 2, none⟩) (Kd.R_far (p := ⟨gb220, 1, none⟩) (Kd.R_far (p := ⟨gb220, 0, none⟩) (Kd.R_mono HO218.out (fun k_ hk => (⟨hk, hk.2⟩ : _ ∧ k_ ≠ gb220))) (fun _ hk => hk.2) (.int .i64 t213)) (fun _ hk => hk.2) (.int .i64 t214)) (fun _ hk => hk.2) (.string t215)) (fun _ hk => hk.2) (.slice Ao11 t216.length co11)) (fun _ h_ => h_.1)))); (case side2 => exact (Kd.R_reads' HO218.out).2.1); rintro e w12 ⟨rfl, hb⟩; have n0_ := Aside0.mk (Kd.R_below (by (with_reducible repeat (first | apply Kd.R_alloc | apply Kd.R_drewN | apply Kd.R_drew)); exact (Kd.R_mono (Kd.R_far (p := ⟨gb220, 3, none⟩) (Kd.R_far (p := ⟨gb220, 2, none⟩) (Kd.R_far (p := ⟨gb220, 1, none⟩) (Kd.R_far (p := ⟨gb220, 0, none⟩) (Kd.R_mono HO218.out (fun k_ hk => (⟨hk, hk.2⟩ : _ ∧ k_ ≠ gb220))) (fun _ hk => hk.2) (.int .i64 t213)) (fun _ hk => hk.2) (.int .i64 t214)) (fun _ hk => hk.2) (.string t215)) (fun _ hk => hk.2) (.slice Ao11 t216.length co11)) (fun _ h_ => h_.1))) hb); have n1_ := Aside0.mk (blk_below (g := gb212) (o := .cells #[.int .i64 0, .int .i64 0, .string (⟨#[]⟩ : ByteArray), .slice none 0 0] 39 (0, 0)) (by (with_reducible repeat (first | refine blk_drewN ?_ _ | refine blk_drew ?_ | refine blk_alloc ?_ _)); refine blk_far ?_ NB212_220.out _; (with_reducible repeat (first | refine blk_drewN ?_ _ | refine blk_drew ?_ | refine blk_alloc ?_ _)); refine blk_far ?_ NB212_220.out _; (with_reducible repeat (first | refine blk_drewN ?_ _ | refine blk_drew ?_ | refine blk_alloc ?_ _)); refine blk_far ?_ NB212_220.out _; (with_reducible repeat (first | refine blk_drewN ?_ _ | refine blk_drew ?_ | refine blk_alloc ?_ _)); refine blk_far ?_ NB212_220.out _; (with_reducible repeat (first | refine blk_drewN ?_ _ | refine blk_drew ?_ | refine blk_alloc ?_ _)); exact BK212.out) hb); have n2_ := Aside0.mk (blk_below (g := gb220) (o := .cells #[.int .i64 t213, .int .i64 t214, .string t215, .slice Ao11 t216.length co11] 39 (0, 0)) (by (with_reducible repeat (first | refine blk_drewN ?_ _ | refine blk_drew ?_ | refine blk_alloc ?_ _)); refine blk_put (cs := #[.int .i64 t213, .int .i64 t214, .string t215, .slice none 0 0]) ?_ 3 _ rfl; (with_reducible repeat (first | refine blk_drewN ?_ _ | refine blk_drew ?_ | refine blk_alloc ?_ _)); refine blk_put (cs := #[.int .i64 t213, .int .i64 t214, .string (⟨#[]⟩ : ByteArray), .slice none 0 0]) ?_ 2 _ rfl; (with_reducible repeat (first | refine blk_drewN ?_ _ | refine blk_drew ?_ | refine blk_alloc ?_ _)); refine blk_put (cs := #[.int .i64 t213, .int .i64 0, .string (⟨#[]⟩ : ByteArray), .slice none 0 0]) ?_ 1 _ rfl; (with_reducible repeat (first | refine blk_drewN ?_ _ | refine blk_drew ?_ | refine blk_alloc ?_ _)); refine blk_put (cs := #[.int .i64 0, .int .i64 0, .string (⟨#[]⟩ : ByteArray), .slice none 0 0]) ?_ 0 _ rfl; (with_reducible repeat (first | refine blk_drewN ?_ _ | refine blk_drew ?_ | refine blk_alloc ?_ _)); exact BK220.out) hb); have n3_ := Aside0.mk (below_step (by repeat (first | exact gB HB | refine below_set ?_ GE212.out | refine below_set ?_ GE220.out)) hb); clear HO218; clear BK212; clear BK220; clear HB; have HO218 := n0_; have BK212 := n1_; have BK220 := n2_; have HB := n3_; clear n0_ n1_ n2_ n3_; (try clear hb); (try clear hb2); (try clear hk); (try clear hi); have hcz13_0 : w12.cell? ⟨gb220, 0, none⟩ = some (.int .i64 t213) := (blk_cell BK220.out 0).trans rfl; have hcz13_1 : w12.cell? ⟨gb220, 1, none⟩ = some (.int .i64 t214) := (blk_cell BK220.out 1).trans rfl; have hcz13_2 : w12.cell? ⟨gb220, 2, none⟩ = some (.string t215) := (blk_cell BK220.out 2).trans rfl; have hcz13_3 : w12.cell? ⟨gb220, 3, none⟩ = some (.slice Ao11 t216.length co11) := (blk_cell BK220.out 3).trans rfl; have hfz13_0 := blk_frozen BK220.out 0; have hfz13_1 := blk_frozen BK220.out 1; have hfz13_2 := blk_frozen BK220.out 2; have hfz13_3 := blk_frozen BK220.out 3; have hcz14_0 : w12.cell? ⟨gb212, 0, none⟩ = some (.int .i64 0) := (blk_cell BK212.out 0).trans rfl; have hcz14_1 : w12.cell? ⟨gb212, 1, none⟩ = some (.int .i64 0) := (blk_cell BK212.out 1).trans rfl; have hcz14_2 : w12.cell? ⟨gb212, 2, none⟩ = some (.string (⟨#[]⟩ : ByteArray)) := (blk_cell BK212.out 2).trans rfl; have hcz14_3 : w12.cell? ⟨gb212, 3, none⟩ = some (.slice none 0 0) := (blk_cell BK212.out 3).trans rfl; have hfz14_0 := blk_frozen BK212.out 0; have hfz14_1 := blk_frozen BK212.out 1; have hfz14_2 := blk_frozen BK212.out 2; have hfz14_3 := blk_frozen BK212.out 3))
      refine bodyPost_ret (results_ct rfl _ _ gb212 39 #[.int .i64 t213, .int .i64 t214, .string t215, .slice Ao11 t216.length co11] (0, 0) _ rfl (by (with_reducible repeat (first | refine blk_drewN ?_ _ | refine blk_drew ?_ | refine blk_alloc ?_ _)); refine blk_put (cs := #[.int .i64 t213, .int .i64 t214, .string t215, .slice none 0 0]) ?_ 3 _ rfl; (with_reducible repeat (first | refine blk_drewN ?_ _ | refine blk_drew ?_ | refine blk_alloc ?_ _)); refine blk_put (cs := #[.int .i64 t213, .int .i64 t214, .string (⟨#[]⟩ : ByteArray), .slice none 0 0]) ?_ 2 _ rfl; (with_reducible repeat (first | refine blk_drewN ?_ _ | refine blk_drew ?_ | refine blk_alloc ?_ _)); refine blk_put (cs := #[.int .i64 t213, .int .i64 0, .string (⟨#[]⟩ : ByteArray), .slice none 0 0]) ?_ 1 _ rfl; (with_reducible repeat (first | refine blk_drewN ?_ _ | refine blk_drew ?_ | refine blk_alloc ?_ _)); refine blk_put (cs := #[.int .i64 0, .int .i64 0, .string (⟨#[]⟩ : ByteArray), .slice none 0 0]) ?_ 0 _ rfl; (with_reducible repeat (first | refine blk_drewN ?_ _ | refine blk_drew ?_ | refine blk_alloc ?_ _)); exact BK212.out) Try.underlying39 rfl (by kernel_rfl)) rfl ?_
      exact ⟨_, by first | rfl | (simp [errW_none, errW_some] <;> rfl) | (simp [*, errW_none, errW_some] <;> rfl), by (with_reducible repeat (first | apply Kd.R_alloc | apply Kd.R_drewN | apply Kd.R_drew)); exact Kd.R_mono (Kd.R_far (p := ⟨gb212, 3, none⟩) (Kd.R_far (p := ⟨gb212, 2, none⟩) (Kd.R_far (p := ⟨gb212, 1, none⟩) (Kd.R_far (p := ⟨gb212, 0, none⟩) (Kd.R_mono HO218.out (fun k_ hk => (⟨hk, hk.1.2⟩ : _ ∧ k_ ≠ gb212))) (fun _ hk => hk.2) (.int .i64 t213)) (fun _ hk => hk.2) (.int .i64 t214)) (fun _ hk => hk.2) (.string t215)) (fun _ hk => hk.2) (.slice Ao11 t216.length co11)) (fun _ hk => trivial), by repeat (first | exact gB HB | refine below_set ?_ GE212.out | refine below_set ?_ GE220.out)⟩
    · replace c5 := Bool.eq_false_iff.mpr c5
      subst c5
      have H1 : (some (0, 0, (⟨#[]⟩ : ByteArray), ([] : List (SDoc)), false)) = some (r1, r2, r3, r4, r5) := by rw [if_neg (show ¬ (false = true) by decide)] at H; exact H
      clear H
      have H := H1
      clear H1
      simp only [Option.some.injEq, Prod.mk.injEq] at H
      obtain ⟨rfl, rfl, rfl, rfl, rfl⟩ := H
      go_enter Try.func81, Try.ntmps81
      go_wp2_with (first | ((with_reducible refine gate_dst (N := 2) rfl ?_); refine box_event ?hg (N := 2) ?hd (cs := #[.int .i64 0, .int .i64 0, .string (⟨#[]⟩ : ByteArray), .slice none 0 0]) (t := 39) ?hr ?_; (case hd => rfl); (case hg => rfl); (case hr => first | (go_simp; done) | (go_simp; rfl)); intro gb212 hg w15 hbox hb; have n0_ := Aside0.mk (below_step (gB HB) hb); have n1_ := Aside0.mk (hbox); have n2_ := Aside0.mk ((by rw [hg]; exact (below_size (gB HB)) : w.heap.size ≤ gb212)); have n3_ := Aside0.mk ((by rw [hg]; exact (below_size (gB HB)) : w.heap.size ≤ gb212)); clear HB; have HB := n0_; have BK212 := n1_; have GW212 := n2_; have GE212 := n3_; clear n0_ n1_ n2_ n3_; clear hb hbox hg) | ((with_reducible refine gate_callee (f := 91) rfl ?_); refine goesL_ (some 8) rfl rfl Try.func91 (by kernel_rfl) rfl #[.string a0, .int .i64 0, .int .i64 40] rfl (by (try simp only [List.map_toArray, List.map_cons, List.map_nil]); first | done | rfl | (simp only [List.length_drop, List.length_take]; rfl)) ?_; (with_reducible refine (spec_l1Read.calls k a0 0 40 t213 t214 t215 t216 t219 _ A2.out).mono ?_); rintro e w16 ⟨v217, rfl, ho0, hb⟩; refine ⟨_, rfl, ?_⟩; have n0_ := Aside0.mk (Kd.R_lower (Kd.R_newB ho0 (g := gb212) (o := .cells #[.int .i64 0, .int .i64 0, .string (⟨#[]⟩ : ByteArray), .slice none 0 0] 39 (0, 0)) (gK BK212)) (below_size (by repeat (first | exact gB HB | refine below_set ?_ GE212.out)))); have n1_ := Aside0.mk (blk_below (g := gb212) (o := .cells #[.int .i64 0, .int .i64 0, .string (⟨#[]⟩ : ByteArray), .slice none 0 0] 39 (0, 0)) (gK BK212) hb); have n2_ := Aside0.mk (below_step (by repeat (first | exact gB HB | refine below_set ?_ GE212.out)) hb); clear BK212; clear HB; have HO218 := n0_; have BK212 := n1_; have HB := n2_; clear n0_ n1_ n2_; (try clear hb); (try clear hb2); (try clear hk); (try clear hi); (try clear ho0)) | ((with_reducible refine gate_dst (N := 4) rfl ?_); refine box_event ?hg (N := 4) ?hd (cs := #[.int .i64 0, .int .i64 0, .string (⟨#[]⟩ : ByteArray), .slice none 0 0]) (t := 39) ?hr ?_; (case hd => rfl); (case hg => rfl); (case hr => first | (go_simp; done) | (go_simp; rfl)); intro gb220 hg w17 hbox hb; have n0_ := Aside0.mk (Kd.R_below (Kd.R_elderB (gR HO218) gb220 (Nat.le_of_eq hg.symm)) hb); have n1_ := Aside0.mk (blk_below (g := gb212) (o := .cells #[.int .i64 0, .int .i64 0, .string (⟨#[]⟩ : ByteArray), .slice none 0 0] 39 (0, 0)) (gK BK212) hb); have n2_ := Aside0.mk (below_step (by repeat (first | exact gB HB | refine below_set ?_ GE212.out)) hb); have n3_ := Aside0.mk (hbox); have n4_ := Aside0.mk ((by rw [hg]; exact (below_size (by repeat (first | exact gB HB | refine below_set ?_ GE212.out))) : w.heap.size ≤ gb220)); have n5_ := Aside0.mk ((by rw [hg]; exact (below_size (by repeat (first | exact gB HB | refine below_set ?_ GE212.out))) : w.heap.size ≤ gb220)); have n6_ := Aside0.mk ((by rw [hg]; exact Nat.ne_of_lt (blk_lt (g := gb212) (o := .cells #[.int .i64 0, .int .i64 0, .string (⟨#[]⟩ : ByteArray), .slice none 0 0] 39 (0, 0)) (gK BK212)) : gb212 ≠ gb220)); have n7_ := Aside0.mk ((by rw [hg]; exact Nat.ne_of_gt (blk_lt (g := gb212) (o := .cells #[.int .i64 0, .int .i64 0, .string (⟨#[]⟩ : ByteArray), .slice none 0 0] 39 (0, 0)) (gK BK212)) : gb220 ≠ gb212)); clear HO218; clear BK212; clear HB; have HO218 := n0_; have BK212 := n1_; have HB := n2_; have BK220 := n3_; have GW220 := n4_; have GE220 := n5_; have NB212_220 := n6_; have NB220_212 := n7_; clear n0_ n1_ n2_ n3_ n4_ n5_ n6_ n7_; clear hb hbox hg; have hnb18 := NB220_212.out; have hnc18 := NB212_220.out; have hcz19_0 : w17.cell? ⟨gb220, 0, none⟩ = some (.int .i64 0) := (blk_cell BK220.out 0).trans rfl; have hcz19_1 : w17.cell? ⟨gb220, 1, none⟩ = some (.int .i64 0) := (blk_cell BK220.out 1).trans rfl; have hcz19_2 : w17.cell? ⟨gb220, 2, none⟩ = some (.string (⟨#[]⟩ : ByteArray)) := (blk_cell BK220.out 2).trans rfl; have hcz19_3 : w17.cell? ⟨gb220, 3, none⟩ = some (.slice none 0 0) := (blk_cell BK220.out 3).trans rfl; have hfz19_0 := blk_frozen BK220.out 0; have hfz19_1 := blk_frozen BK220.out 1; have hfz19_2 := blk_frozen BK220.out 2; have hfz19_3 := blk_frozen BK220.out 3; obtain ⟨Ao20, co20, eo20⟩ := Kd.R_slice HO218.out; subst eo20) | (go_at_call 52; (with_reducible refine (spec_DocValid.calls k t213 t214 t215 _ _ t216 false _ ?side1 ?side2 A4.out).mono ?_); (case side1 => refine (Kd.R_reads' (e := 39) (base := w.heap.size) (ok := fun k_ => ((True ∧ k_ ≠ gb212) ∧ k_ ≠ gb220)) (n := t216.length) (c := co20) ?_).2.2; exact (by (with_reducible repeat (first | apply Kd.R_alloc | apply Kd.R_drewN | apply Kd.R_drew)); exact (Kd.R_mono (Kd.R_far (p := ⟨gb220, 3, none⟩) (Kd.R_far (p := ⟨gb220, 2, none⟩) (Kd.R_far (p := ⟨gb220, 1, none⟩) (Kd.R_far (p := ⟨gb220, 0, none⟩) (Kd.R_mono HO218.out (fun k_ hk => (⟨hk, hk.2⟩ : _ ∧ k_ ≠ gb220))) (fun _ hk => hk.2) (.int .i64 t213)) (fun _ hk => hk.2) (.int .i64 t214)) (fun _ hk => hk.2) (.string t215)) (fun _ hk => hk.2) (.slice Ao20 t216.length co20)) (fun _ h_ => h_.1)))); (case side2 => exact (Kd.R_reads' HO218.out).2.1); rintro e w21 ⟨rfl, hb⟩; have n0_ := Aside0.mk (Kd.R_below (by (with_reducible repeat (first | apply Kd.R_alloc | apply Kd.R_drewN | apply Kd.R_drew)); exact (Kd.R_mono (Kd.R_far (p := ⟨gb220, 3, none⟩) (Kd.R_far (p := ⟨gb220, 2, none⟩) (Kd.R_far (p := ⟨gb220, 1, none⟩) (Kd.R_far (p := ⟨gb220, 0, none⟩) (Kd.R_mono HO218.out (fun k_ hk => (⟨hk, hk.2⟩ : _ ∧ k_ ≠ gb220))) (fun _ hk => hk.2) (.int .i64 t213)) (fun _ hk => hk.2) (.int .i64 t214)) (fun _ hk => hk.2) (.string t215)) (fun _ hk => hk.2) (.slice Ao20 t216.length co20)) (fun _ h_ => h_.1))) hb); have n1_ := Aside0.mk (blk_below (g := gb212) (o := .cells #[.int .i64 0, .int .i64 0, .string (⟨#[]⟩ : ByteArray), .slice none 0 0] 39 (0, 0)) (by (with_reducible repeat (first | refine blk_drewN ?_ _ | refine blk_drew ?_ | refine blk_alloc ?_ _)); refine blk_far ?_ NB212_220.out _; (with_reducible repeat (first | refine blk_drewN ?_ _ | refine blk_drew ?_ | refine blk_alloc ?_ _)); refine blk_far ?_ NB212_220.out _; (with_reducible repeat (first | refine blk_drewN ?_ _ | refine blk_drew ?_ | refine blk_alloc ?_ _)); refine blk_far ?_ NB212_220.out _; (with_reducible repeat (first | refine blk_drewN ?_ _ | refine blk_drew ?_ | refine blk_alloc ?_ _)); refine blk_far ?_ NB212_220.out _; (with_reducible repeat (first | refine blk_drewN ?_ _ | refine blk_drew ?_ | refine blk_alloc ?_ _)); exact BK212.out) hb); have n2_ := Aside0.mk (blk_below (g := gb220) (o := .cells #[.int .i64 t213, .int .i64 t214, .string t215, .slice Ao20 t216.length co20] 39 (0, 0)) (by (with_reducible repeat (first | refine blk_drewN ?_ _ | refine blk_drew ?_ | refine blk_alloc ?_ _)); refine blk_put (cs := #[.int .i64 t213, .int .i64 t214, .string t215, .slice none 0 0]) ?_ 3 _ rfl; (with_reducible repeat (first | refine blk_drewN ?_ _ | refine blk_drew ?_ | refine blk_alloc ?_ _)); refine blk_put (cs := #[.int .i64 t213, .int .i64 t214, .string (⟨#[]⟩ : ByteArray), .slice none 0 0]) ?_ 2 _ rfl; (with_reducible repeat (first | refine blk_drewN ?_ _ | refine blk_drew ?_ | refine blk_alloc ?_ _)); refine blk_put (cs := #[.int .i64 t213, .int .i64 0, .string (⟨#[]⟩ : ByteArray), .slice none 0 0]) ?_ 1 _ rfl; (with_reducible repeat (first | refine blk_drewN ?_ _ | refine blk_drew ?_ | refine blk_alloc ?_ _)); refine blk_put (cs := #[.int .i64 0, .int .i64 0, .string (⟨#[]⟩ : ByteArray), .slice none 0 0]) ?_ 0 _ rfl; (with_reducible repeat (first | refine blk_drewN ?_ _ | refine blk_drew ?_ | refine blk_alloc ?_ _)); exact BK220.out) hb); have n3_ := Aside0.mk (below_step (by repeat (first | exact gB HB | refine below_set ?_ GE212.out | refine below_set ?_ GE220.out)) hb); clear HO218; clear BK212; clear BK220; clear HB; have HO218 := n0_; have BK212 := n1_; have BK220 := n2_; have HB := n3_; clear n0_ n1_ n2_ n3_; (try clear hb); (try clear hb2); (try clear hk); (try clear hi); have hcz22_0 : w21.cell? ⟨gb212, 0, none⟩ = some (.int .i64 0) := (blk_cell BK212.out 0).trans rfl; have hcz22_1 : w21.cell? ⟨gb212, 1, none⟩ = some (.int .i64 0) := (blk_cell BK212.out 1).trans rfl; have hcz22_2 : w21.cell? ⟨gb212, 2, none⟩ = some (.string (⟨#[]⟩ : ByteArray)) := (blk_cell BK212.out 2).trans rfl; have hcz22_3 : w21.cell? ⟨gb212, 3, none⟩ = some (.slice none 0 0) := (blk_cell BK212.out 3).trans rfl; have hfz22_0 := blk_frozen BK212.out 0; have hfz22_1 := blk_frozen BK212.out 1; have hfz22_2 := blk_frozen BK212.out 2; have hfz22_3 := blk_frozen BK212.out 3))
      refine bodyPost_ret (results_ct rfl _ _ gb212 39 #[.int .i64 0, .int .i64 0, .string (⟨#[]⟩ : ByteArray), .slice none 0 0] (0, 0) _ rfl (by (with_reducible repeat (first | refine blk_drewN ?_ _ | refine blk_drew ?_ | refine blk_alloc ?_ _)); refine blk_put (cs := #[.int .i64 0, .int .i64 0, .string (⟨#[]⟩ : ByteArray), .slice none 0 0]) ?_ 3 _ rfl; (with_reducible repeat (first | refine blk_drewN ?_ _ | refine blk_drew ?_ | refine blk_alloc ?_ _)); refine blk_put (cs := #[.int .i64 0, .int .i64 0, .string (⟨#[]⟩ : ByteArray), .slice none 0 0]) ?_ 2 _ rfl; (with_reducible repeat (first | refine blk_drewN ?_ _ | refine blk_drew ?_ | refine blk_alloc ?_ _)); refine blk_put (cs := #[.int .i64 0, .int .i64 0, .string (⟨#[]⟩ : ByteArray), .slice none 0 0]) ?_ 1 _ rfl; (with_reducible repeat (first | refine blk_drewN ?_ _ | refine blk_drew ?_ | refine blk_alloc ?_ _)); refine blk_put (cs := #[.int .i64 0, .int .i64 0, .string (⟨#[]⟩ : ByteArray), .slice none 0 0]) ?_ 0 _ rfl; (with_reducible repeat (first | refine blk_drewN ?_ _ | refine blk_drew ?_ | refine blk_alloc ?_ _)); exact BK212.out) Try.underlying39 rfl (by kernel_rfl)) rfl ?_
      exact ⟨_, by first | rfl | (simp [errW_none, errW_some] <;> rfl) | (simp [*, errW_none, errW_some] <;> rfl), by first | exact Kd.R_nil _ _ _ _ _ | exact Kd.N_nil _ _ _ _ _ | exact Kd.V_nil _ _ _ _ _ | exact Kd.Q_nil _ _ _ _ _ | exact Kd.S_nil _ _ _ _ _, by repeat (first | exact gB HB | refine below_set ?_ GE212.out | refine below_set ?_ GE220.out)⟩
  · rw [if_neg c3] at H
    have c3b0 : (t219 == (a0.size : Int)) = false := beq_eq_false_iff_ne.mpr c3
    have c3b1 : (t219 != (a0.size : Int)) = true := bne_iff_ne.mpr c3
    simp only [Option.some.injEq, Prod.mk.injEq] at H
    obtain ⟨rfl, rfl, rfl, rfl, rfl⟩ := H
    go_enter Try.func81, Try.ntmps81
    go_wp2_with (first | ((with_reducible refine gate_dst (N := 2) rfl ?_); refine box_event ?hg (N := 2) ?hd (cs := #[.int .i64 0, .int .i64 0, .string (⟨#[]⟩ : ByteArray), .slice none 0 0]) (t := 39) ?hr ?_; (case hd => rfl); (case hg => rfl); (case hr => first | (go_simp; done) | (go_simp; rfl)); intro gb212 hg w23 hbox hb; have n0_ := Aside0.mk (below_step (gB HB) hb); have n1_ := Aside0.mk (hbox); have n2_ := Aside0.mk ((by rw [hg]; exact (below_size (gB HB)) : w.heap.size ≤ gb212)); have n3_ := Aside0.mk ((by rw [hg]; exact (below_size (gB HB)) : w.heap.size ≤ gb212)); clear HB; have HB := n0_; have BK212 := n1_; have GW212 := n2_; have GE212 := n3_; clear n0_ n1_ n2_ n3_; clear hb hbox hg) | ((with_reducible refine gate_callee (f := 91) rfl ?_); refine goesL_ (some 8) rfl rfl Try.func91 (by kernel_rfl) rfl #[.string a0, .int .i64 0, .int .i64 40] rfl (by (try simp only [List.map_toArray, List.map_cons, List.map_nil]); first | done | rfl | (simp only [List.length_drop, List.length_take]; rfl)) ?_; (with_reducible refine (spec_l1Read.calls k a0 0 40 t213 t214 t215 t216 t219 _ A2.out).mono ?_); rintro e w24 ⟨v217, rfl, ho0, hb⟩; refine ⟨_, rfl, ?_⟩; have n0_ := Aside0.mk (Kd.R_lower (Kd.R_newB ho0 (g := gb212) (o := .cells #[.int .i64 0, .int .i64 0, .string (⟨#[]⟩ : ByteArray), .slice none 0 0] 39 (0, 0)) (gK BK212)) (below_size (by repeat (first | exact gB HB | refine below_set ?_ GE212.out)))); have n1_ := Aside0.mk (blk_below (g := gb212) (o := .cells #[.int .i64 0, .int .i64 0, .string (⟨#[]⟩ : ByteArray), .slice none 0 0] 39 (0, 0)) (gK BK212) hb); have n2_ := Aside0.mk (below_step (by repeat (first | exact gB HB | refine below_set ?_ GE212.out)) hb); clear BK212; clear HB; have HO218 := n0_; have BK212 := n1_; have HB := n2_; clear n0_ n1_ n2_; (try clear hb); (try clear hb2); (try clear hk); (try clear hi); (try clear ho0)) | ((with_reducible refine gate_dst (N := 4) rfl ?_); refine box_event ?hg (N := 4) ?hd (cs := #[.int .i64 0, .int .i64 0, .string (⟨#[]⟩ : ByteArray), .slice none 0 0]) (t := 39) ?hr ?_; (case hd => rfl); (case hg => rfl); (case hr => first | (go_simp; done) | (go_simp; rfl)); intro gb220 hg w25 hbox hb; have n0_ := Aside0.mk (Kd.R_below (Kd.R_elderB (gR HO218) gb220 (Nat.le_of_eq hg.symm)) hb); have n1_ := Aside0.mk (blk_below (g := gb212) (o := .cells #[.int .i64 0, .int .i64 0, .string (⟨#[]⟩ : ByteArray), .slice none 0 0] 39 (0, 0)) (gK BK212) hb); have n2_ := Aside0.mk (below_step (by repeat (first | exact gB HB | refine below_set ?_ GE212.out)) hb); have n3_ := Aside0.mk (hbox); have n4_ := Aside0.mk ((by rw [hg]; exact (below_size (by repeat (first | exact gB HB | refine below_set ?_ GE212.out))) : w.heap.size ≤ gb220)); have n5_ := Aside0.mk ((by rw [hg]; exact (below_size (by repeat (first | exact gB HB | refine below_set ?_ GE212.out))) : w.heap.size ≤ gb220)); have n6_ := Aside0.mk ((by rw [hg]; exact Nat.ne_of_lt (blk_lt (g := gb212) (o := .cells #[.int .i64 0, .int .i64 0, .string (⟨#[]⟩ : ByteArray), .slice none 0 0] 39 (0, 0)) (gK BK212)) : gb212 ≠ gb220)); have n7_ := Aside0.mk ((by rw [hg]; exact Nat.ne_of_gt (blk_lt (g := gb212) (o := .cells #[.int .i64 0, .int .i64 0, .string (⟨#[]⟩ : ByteArray), .slice none 0 0] 39 (0, 0)) (gK BK212)) : gb220 ≠ gb212)); clear HO218; clear BK212; clear HB; have HO218 := n0_; have BK212 := n1_; have HB := n2_; have BK220 := n3_; have GW220 := n4_; have GE220 := n5_; have NB212_220 := n6_; have NB220_212 := n7_; clear n0_ n1_ n2_ n3_ n4_ n5_ n6_ n7_; clear hb hbox hg; have hnb26 := NB220_212.out; have hnc26 := NB212_220.out; have hcz27_0 : w25.cell? ⟨gb220, 0, none⟩ = some (.int .i64 0) := (blk_cell BK220.out 0).trans rfl; have hcz27_1 : w25.cell? ⟨gb220, 1, none⟩ = some (.int .i64 0) := (blk_cell BK220.out 1).trans rfl; have hcz27_2 : w25.cell? ⟨gb220, 2, none⟩ = some (.string (⟨#[]⟩ : ByteArray)) := (blk_cell BK220.out 2).trans rfl; have hcz27_3 : w25.cell? ⟨gb220, 3, none⟩ = some (.slice none 0 0) := (blk_cell BK220.out 3).trans rfl; have hfz27_0 := blk_frozen BK220.out 0; have hfz27_1 := blk_frozen BK220.out 1; have hfz27_2 := blk_frozen BK220.out 2; have hfz27_3 := blk_frozen BK220.out 3; obtain ⟨Ao28, co28, eo28⟩ := Kd.R_slice HO218.out; subst eo28; have hcz29_0 : w25.cell? ⟨gb212, 0, none⟩ = some (.int .i64 0) := (blk_cell BK212.out 0).trans rfl; have hcz29_1 : w25.cell? ⟨gb212, 1, none⟩ = some (.int .i64 0) := (blk_cell BK212.out 1).trans rfl; have hcz29_2 : w25.cell? ⟨gb212, 2, none⟩ = some (.string (⟨#[]⟩ : ByteArray)) := (blk_cell BK212.out 2).trans rfl; have hcz29_3 : w25.cell? ⟨gb212, 3, none⟩ = some (.slice none 0 0) := (blk_cell BK212.out 3).trans rfl; have hfz29_0 := blk_frozen BK212.out 0; have hfz29_1 := blk_frozen BK212.out 1; have hfz29_2 := blk_frozen BK212.out 2; have hfz29_3 := blk_frozen BK212.out 3))
    refine bodyPost_ret (results_ct rfl _ _ gb212 39 #[.int .i64 0, .int .i64 0, .string (⟨#[]⟩ : ByteArray), .slice none 0 0] (0, 0) _ rfl (by (with_reducible repeat (first | refine blk_drewN ?_ _ | refine blk_drew ?_ | refine blk_alloc ?_ _)); refine blk_put (cs := #[.int .i64 0, .int .i64 0, .string (⟨#[]⟩ : ByteArray), .slice none 0 0]) ?_ 3 _ rfl; (with_reducible repeat (first | refine blk_drewN ?_ _ | refine blk_drew ?_ | refine blk_alloc ?_ _)); refine blk_put (cs := #[.int .i64 0, .int .i64 0, .string (⟨#[]⟩ : ByteArray), .slice none 0 0]) ?_ 2 _ rfl; (with_reducible repeat (first | refine blk_drewN ?_ _ | refine blk_drew ?_ | refine blk_alloc ?_ _)); refine blk_put (cs := #[.int .i64 0, .int .i64 0, .string (⟨#[]⟩ : ByteArray), .slice none 0 0]) ?_ 1 _ rfl; (with_reducible repeat (first | refine blk_drewN ?_ _ | refine blk_drew ?_ | refine blk_alloc ?_ _)); refine blk_put (cs := #[.int .i64 0, .int .i64 0, .string (⟨#[]⟩ : ByteArray), .slice none 0 0]) ?_ 0 _ rfl; (with_reducible repeat (first | refine blk_drewN ?_ _ | refine blk_drew ?_ | refine blk_alloc ?_ _)); refine blk_far ?_ NB212_220.out _; (with_reducible repeat (first | refine blk_drewN ?_ _ | refine blk_drew ?_ | refine blk_alloc ?_ _)); refine blk_far ?_ NB212_220.out _; (with_reducible repeat (first | refine blk_drewN ?_ _ | refine blk_drew ?_ | refine blk_alloc ?_ _)); refine blk_far ?_ NB212_220.out _; (with_reducible repeat (first | refine blk_drewN ?_ _ | refine blk_drew ?_ | refine blk_alloc ?_ _)); refine blk_far ?_ NB212_220.out _; (with_reducible repeat (first | refine blk_drewN ?_ _ | refine blk_drew ?_ | refine blk_alloc ?_ _)); exact BK212.out) Try.underlying39 rfl (by kernel_rfl)) rfl ?_
    exact ⟨_, by first | rfl | (simp [errW_none, errW_some] <;> rfl) | (simp [*, errW_none, errW_some] <;> rfl), by first | exact Kd.R_nil _ _ _ _ _ | exact Kd.N_nil _ _ _ _ _ | exact Kd.V_nil _ _ _ _ _ | exact Kd.Q_nil _ _ _ _ _ | exact Kd.S_nil _ _ _ _ _, by repeat (first | exact gB HB | refine below_set ?_ GE212.out | refine below_set ?_ GE220.out)⟩
end Go.Proofs.Ytdhdfmmefghijab.P
namespace Go.Proofs.Ytdhdfmmefghijab.P
open Go.RowKit Go.Proofs.YtdhdfmmefghijabW.PrintWords Go.Proofs.YtdhdfmmefghijabW.PrintLast Go.Proofs.YtdhdfmmefghijabW.PrintMore
attribute [local go_sem] max2_int min2_int max_two min_two max_three min_three max_four min_four
set_option linter.unusedVariables false
set_option linter.unusedSimpArgs false
def spec_l1Word2.f (k : Nat) (s0_0 : List Int) (s0_1 : Int) : Option (ByteArray × Int) := (spec_l15Rd_of.f k s0_0 s0_1 (([(⟨#[97]⟩ : ByteArray), (⟨#[98, 98]⟩ : ByteArray), (⟨#[99, 99, 99]⟩ : ByteArray), (⟨#[100, 100, 100, 100]⟩ : ByteArray), (⟨#[102, 40]⟩ : ByteArray), (⟨#[41]⟩ : ByteArray), (⟨#[44]⟩ : ByteArray), (⟨#[120, 61, 49]⟩ : ByteArray), (⟨#[97, 98, 99, 100, 101, 102, 103, 104]⟩ : ByteArray), (⟨#[101]⟩ : ByteArray)] : List ByteArray))).bind fun bt228 => (some (bt228.1, bt228.2))
set_option maxHeartbeats 8000000 in
set_option maxRecDepth 100000 in
theorem spec_l1Word2.calls (k : Nat) (g : Nat) (s0_0 : List Int) (s0_1 : Int) (r1 : ByteArray) (r2 : Int) (w0 w : World) (hI : IsS67 w0 w g s0_0 s0_1) (hB : Below w0.heap.size w0 w) (h : spec_l1Word2.f k s0_0 s0_1 = some (r1, r2)) :
    Calls Try.prog 92 #[.pointer (some ⟨g, 0, none⟩)] w fun e w' => e = .returned (.string r1) ∧ IsS67 w0 w' g s0_0 r2 ∧ Below w0.heap.size w0 w' ∧ KeepBut w w' g none := by
  have HI0 := Aside0.mk hI
  have HK := Aside0.mk (KeepBut.refl w g none)
  have HL := Aside0.mk hB.size
  clear hI
  have HW0 := Aside0.mk hB.size
  have HB := Aside0.mk hB
  clear hB
  have H : ((spec_l15Rd_of.f k s0_0 s0_1 (([(⟨#[97]⟩ : ByteArray), (⟨#[98, 98]⟩ : ByteArray), (⟨#[99, 99, 99]⟩ : ByteArray), (⟨#[100, 100, 100, 100]⟩ : ByteArray), (⟨#[102, 40]⟩ : ByteArray), (⟨#[41]⟩ : ByteArray), (⟨#[44]⟩ : ByteArray), (⟨#[120, 61, 49]⟩ : ByteArray), (⟨#[97, 98, 99, 100, 101, 102, 103, 104]⟩ : ByteArray), (⟨#[101]⟩ : ByteArray)] : List ByteArray))).bind fun bt228 => (some (bt228.1, bt228.2))) = some (r1, r2) := h
  clear h
  obtain ⟨y225, hy225⟩ : ∃ y_ : List ByteArray, y_ = (([(⟨#[97]⟩ : ByteArray), (⟨#[98, 98]⟩ : ByteArray), (⟨#[99, 99, 99]⟩ : ByteArray), (⟨#[100, 100, 100, 100]⟩ : ByteArray), (⟨#[102, 40]⟩ : ByteArray), (⟨#[41]⟩ : ByteArray), (⟨#[44]⟩ : ByteArray), (⟨#[120, 61, 49]⟩ : ByteArray), (⟨#[97, 98, 99, 100, 101, 102, 103, 104]⟩ : ByteArray), (⟨#[101]⟩ : ByteArray)] : List ByteArray)) := ⟨_, rfl⟩
  replace H : ((spec_l15Rd_of.f k s0_0 s0_1 y225).bind fun bt228 => (some (bt228.1, bt228.2))) = some (r1, r2) := by first | (rw [hy225]; with_reducible exact H) | (have H2_ := (Option.bind_some _ _).symm.trans H; rw [hy225]; with_reducible exact H2_) | (have H2_ := (Option.bind_some _ _).symm.trans H; with_reducible exact H2_) | with_reducible exact H | (rw [hy225]; exact H) | exact H
  have Ny225 := Aside0.mk hy225
  clear hy225
  replace H := Option.bind_eq_some_iff.mp H
  obtain ⟨⟨t228, t229⟩, A20, H⟩ := H
  replace H : (some (t228, t229)) = some (r1, r2) := H
  have A2 := Aside0.mk A20
  clear A20
  simp only [Option.some.injEq, Prod.mk.injEq] at H
  obtain ⟨rfl, rfl⟩ := H
  go_enter Try.func92, Try.ntmps92
  go_wp2_with (first | ((with_reducible refine gate_dst (N := 4) rfl ?_); refine Kd.R_lit Kd.string _ 9 ?hg (N := 4) ?hd (xs := ([(⟨#[97]⟩ : ByteArray), (⟨#[98, 98]⟩ : ByteArray), (⟨#[99, 99, 99]⟩ : ByteArray), (⟨#[100, 100, 100, 100]⟩ : ByteArray), (⟨#[102, 40]⟩ : ByteArray), (⟨#[41]⟩ : ByteArray), (⟨#[44]⟩ : ByteArray), (⟨#[120, 61, 49]⟩ : ByteArray), (⟨#[97, 98, 99, 100, 101, 102, 103, 104]⟩ : ByteArray), (⟨#[101]⟩ : ByteArray)] : List ByteArray)) (inner := [.string (⟨#[97]⟩ : ByteArray), .string (⟨#[98, 98]⟩ : ByteArray), .string (⟨#[99, 99, 99]⟩ : ByteArray), .string (⟨#[100, 100, 100, 100]⟩ : ByteArray), .string (⟨#[102, 40]⟩ : ByteArray), .string (⟨#[41]⟩ : ByteArray), .string (⟨#[44]⟩ : ByteArray), .string (⟨#[120, 61, 49]⟩ : ByteArray), .string (⟨#[97, 98, 99, 100, 101, 102, 103, 104]⟩ : ByteArray), .string (⟨#[101]⟩ : ByteArray)]) (ok := fun _ => True) (okp := fun _ => True) ?hr ?hp (fun _ hk => hk) trivial (Below.refl _ _) (Nat.le_refl _) (by simp) ?_; (case hd => rfl); (case hg => rfl); (case hr => first | (go_simp; done) | (go_simp; rfl)); (case hp => exact (Reps.one (show Kd.M Kd.string _ _ _ (⟨#[97]⟩ : ByteArray) [.string (⟨#[97]⟩ : ByteArray)] from rfl) (Reps.one (show Kd.M Kd.string _ _ _ (⟨#[98, 98]⟩ : ByteArray) [.string (⟨#[98, 98]⟩ : ByteArray)] from rfl) (Reps.one (show Kd.M Kd.string _ _ _ (⟨#[99, 99, 99]⟩ : ByteArray) [.string (⟨#[99, 99, 99]⟩ : ByteArray)] from rfl) (Reps.one (show Kd.M Kd.string _ _ _ (⟨#[100, 100, 100, 100]⟩ : ByteArray) [.string (⟨#[100, 100, 100, 100]⟩ : ByteArray)] from rfl) (Reps.one (show Kd.M Kd.string _ _ _ (⟨#[102, 40]⟩ : ByteArray) [.string (⟨#[102, 40]⟩ : ByteArray)] from rfl) (Reps.one (show Kd.M Kd.string _ _ _ (⟨#[41]⟩ : ByteArray) [.string (⟨#[41]⟩ : ByteArray)] from rfl) (Reps.one (show Kd.M Kd.string _ _ _ (⟨#[44]⟩ : ByteArray) [.string (⟨#[44]⟩ : ByteArray)] from rfl) (Reps.one (show Kd.M Kd.string _ _ _ (⟨#[120, 61, 49]⟩ : ByteArray) [.string (⟨#[120, 61, 49]⟩ : ByteArray)] from rfl) (Reps.one (show Kd.M Kd.string _ _ _ (⟨#[97, 98, 99, 100, 101, 102, 103, 104]⟩ : ByteArray) [.string (⟨#[97, 98, 99, 100, 101, 102, 103, 104]⟩ : ByteArray)] from rfl) (Reps.one (show Kd.M Kd.string _ _ _ (⟨#[101]⟩ : ByteArray) [.string (⟨#[101]⟩ : ByteArray)] from rfl) (Reps.none _ _)))))))))))); intro v226 w3 ho4 hb hg_ hnew_; clear hg_ hnew_; (first | rw [← Ny225.out] at ho4 | (simp only [Int.reduceToNat] at ho4; rw [← Ny225.out] at ho4)); have n0_ := Aside0.mk (Kd.R_lower ho4 (keep_size (w := w) (g := g) (row := none) (by repeat (first | exact gW HK | apply KeepBut.set_)))); have n1_ := Aside0.mk (IsS67.below (by repeat (first | (with_reducible first | exact HI0.out | apply IsS67.alloc | apply IsS67.drewN | apply IsS67.drew | apply IsS67.set_1) | exact HI0.out)) hb); have n2_ := Aside0.mk (KeepBut.trans (by repeat (first | exact gW HK | apply KeepBut.set_)) (KeepBut.of_below hb g none) (.inl rfl)); have n3_ := Aside0.mk (below_step (by repeat (first | exact gB HB | refine below_set ?_ (IsS67.ge HI0.out))) hb); clear HI0; clear HK; clear HB; have HO227 := n0_; have HI0 := n1_; have HK := n2_; have HB := n3_; clear n0_ n1_ n2_ n3_; clear hb ho4; obtain ⟨Ao5, co5, eo5⟩ := Kd.R_slice HO227.out; subst eo5) | ((with_reducible refine gate_callee (f := 66) rfl ?_); refine goesL_ (some 5) rfl rfl Try.func66 (by kernel_rfl) rfl #[.pointer (some ⟨g, 0, none⟩), .slice Ao5 y225.length co5] rfl (by (try simp only [List.map_toArray, List.map_cons, List.map_nil]); first | done | rfl | (simp only [List.length_drop, List.length_take]; rfl)) ?_; (with_reducible refine (spec_l15Rd_of.calls k g s0_0 s0_1 _ _ y225 t228 t229 w0 _ ?side1 ?side2 ?side3 ?side4 ?side5 A2.out).mono ?_); (case side1 => repeat (first | (with_reducible first | exact HI0.out | apply IsS67.alloc | apply IsS67.drewN | apply IsS67.drew | apply IsS67.set_1) | exact HI0.out)); (case side2 => repeat (first | exact gB HB | refine below_set ?_ (IsS67.ge HI0.out))); (case side3 => exact gC ((Kd.R_reads' HO227.out).2.2)); (case side4 => exact (Kd.R_reads' HO227.out).2.1); (case side5 => exact far_slice (IsS67.own_ne HI0.out HO227.out (by decide))); rintro e w6 ⟨rfl, hi, hb, hk⟩; refine ⟨_, rfl, ?_⟩; have n0_ := Aside0.mk (Kd.R_mono (Kd.R_keep (IsS67.apart (show IsS67 w0 _ g s0_0 s0_1 from by repeat (first | (with_reducible first | exact HI0.out | apply IsS67.alloc | apply IsS67.drewN | apply IsS67.drew | apply IsS67.set_1) | exact HI0.out)) (gR HO227) (by decide)) hk (fun _ h => h.2)) (fun _ h => h.1)); have n1_ := Aside0.mk (KeepBut.trans (by repeat (first | exact gW HK | apply KeepBut.set_)) hk (.inl rfl)); have n2_ := Aside0.mk (hb); have n3_ := Aside0.mk (hi); clear HO227; clear HK; clear HB; clear HI0; have HO227 := n0_; have HK := n1_; have HB := n2_; have HI0 := n3_; clear n0_ n1_ n2_ n3_; (try clear hb); (try clear hb2); (try clear hk); (try clear hi)))
  go_ret
  exact ⟨by first | rfl | (simp [errW_none, errW_some] <;> rfl) | (simp [*, errW_none, errW_some] <;> rfl), by repeat (first | (with_reducible first | exact HI0.out | apply IsS67.alloc | apply IsS67.drewN | apply IsS67.drew | apply IsS67.set_1) | exact HI0.out), by repeat (first | exact gB HB | refine below_set ?_ (IsS67.ge HI0.out)), by repeat (first | exact gW HK | apply KeepBut.set_)⟩
end Go.Proofs.Ytdhdfmmefghijab.P
namespace Go.Proofs.Ytdhdfmmefghijab.P
open Go.RowKit Go.Proofs.YtdhdfmmefghijabW.PrintWords Go.Proofs.YtdhdfmmefghijabW.PrintLast Go.Proofs.YtdhdfmmefghijabW.PrintMore
attribute [local go_sem] max2_int min2_int max_two min_two max_three min_three max_four min_four
set_option linter.unusedVariables false
set_option linter.unusedSimpArgs false
def spec_l1Cat.f (a0_0 : Int) (a0_1 : Int) (a0_2 : ByteArray) (l0_3 : List (SDoc)) (a1_0 : Int) (a1_1 : Int) (a1_2 : ByteArray) (l1_3 : List (SDoc)) : Option (Int × Int × ByteArray × (List (SDoc))) := some (7, 0, (⟨#[]⟩ : ByteArray), (([(⟨a0_0, a0_1, a0_2, l0_3⟩ : SDoc), (⟨a1_0, a1_1, a1_2, l1_3⟩ : SDoc)] : List (SDoc))))
set_option maxHeartbeats 8000000 in
set_option maxRecDepth 100000 in
theorem spec_l1Cat.calls (a0_0 : Int) (a0_1 : Int) (a0_2 : ByteArray) (P0_3_ : Nat → Prop) (A0_3 : Option Addr) (c0_3 : Nat) (l0_3 : List (SDoc)) (a1_0 : Int) (a1_1 : Int) (a1_2 : ByteArray) (P1_3_ : Nat → Prop) (A1_3 : Option Addr) (c1_3 : Nat) (l1_3 : List (SDoc)) (r1 : Int) (r2 : Int) (r3 : ByteArray) (r4 : List (SDoc)) (w : World) (hs0_3 : Kd.V k39 39 w w.heap.size (fun k_ => P0_3_ k_) (.slice A0_3 l0_3.length c0_3) l0_3) (hs1_3 : Kd.V k39 39 w w.heap.size (fun k_ => P1_3_ k_) (.slice A1_3 l1_3.length c1_3) l1_3) (h : spec_l1Cat.f a0_0 a0_1 a0_2 l0_3 a1_0 a1_1 a1_2 l1_3 = some (r1, r2, r3, r4)) :
    Calls Try.prog 93 #[.agg #[.int .i64 a0_0, .int .i64 a0_1, .string a0_2, .slice A0_3 l0_3.length c0_3], .agg #[.int .i64 a1_0, .int .i64 a1_1, .string a1_2, .slice A1_3 l1_3.length c1_3]] w fun e w' => ∃ v3_ : Value, e = .returned (.agg #[.int .i64 r1, .int .i64 r2, .string r3, v3_]) ∧ Kd.N k39 39 w' w.heap.size (fun k_ => ((P0_3_ k_ ∨ P1_3_ k_) ∨ w.heap.size ≤ k_)) v3_ r4 ∧ Below w.heap.size w w' := by
  have hu39 := Try.underlying39
  have HO0_3 := Aside0.mk (show Kd.V k39 39 w w.heap.size (fun k_ => ((P0_3_ k_ ∨ P1_3_ k_) ∨ w.heap.size ≤ k_)) (.slice A0_3 l0_3.length c0_3) l0_3 from Kd.V_mono hs0_3 (fun k_ hk => .inl (.inl hk)))
  have HO1_3 := Aside0.mk (show Kd.V k39 39 w w.heap.size (fun k_ => ((P0_3_ k_ ∨ P1_3_ k_) ∨ w.heap.size ≤ k_)) (.slice A1_3 l1_3.length c1_3) l1_3 from Kd.V_mono hs1_3 (fun k_ hk => .inl (.inr hk)))
  have HB := Aside0.mk (Below.refl w.heap.size w)
  have H : (some (7, 0, (⟨#[]⟩ : ByteArray), (([(⟨a0_0, a0_1, a0_2, l0_3⟩ : SDoc), (⟨a1_0, a1_1, a1_2, l1_3⟩ : SDoc)] : List (SDoc))))) = some (r1, r2, r3, r4) := h
  clear h
  obtain ⟨y233, hy233⟩ : ∃ y_ : List (SDoc), y_ = (([(⟨a0_0, a0_1, a0_2, l0_3⟩ : SDoc), (⟨a1_0, a1_1, a1_2, l1_3⟩ : SDoc)] : List (SDoc))) := ⟨_, rfl⟩
  replace H : (some (7, 0, (⟨#[]⟩ : ByteArray), y233)) = some (r1, r2, r3, r4) := by first | (rw [hy233]; with_reducible exact H) | (have H2_ := (Option.bind_some _ _).symm.trans H; rw [hy233]; with_reducible exact H2_) | (have H2_ := (Option.bind_some _ _).symm.trans H; with_reducible exact H2_) | with_reducible exact H | (rw [hy233]; exact H) | exact H
  have Ny233 := Aside0.mk hy233
  clear hy233
  simp only [Option.some.injEq, Prod.mk.injEq] at H
  obtain ⟨rfl, rfl, rfl, rfl⟩ := H
  go_enter Try.func93, Try.ntmps93
  go_wp2_with (first | ((with_reducible refine gate_dst (N := 2) rfl ?_); refine box_event ?hg (N := 2) ?hd (cs := #[.int .i64 a0_0, .int .i64 a0_1, .string a0_2, .slice A0_3 l0_3.length c0_3]) (t := 39) ?hr ?_; (case hd => rfl); (case hg => rfl); (case hr => first | (go_simp; done) | (go_simp; rfl)); intro gb230 hg w3 hbox hb; have n0_ := Aside0.mk (Kd.V_below (Kd.V_elderB (gV HO0_3) gb230 (Nat.le_of_eq hg.symm)) hb); have n1_ := Aside0.mk (Kd.V_below (Kd.V_elderB (gV HO1_3) gb230 (Nat.le_of_eq hg.symm)) hb); have n2_ := Aside0.mk (below_step (gB HB) hb); have n3_ := Aside0.mk (hbox); have n4_ := Aside0.mk ((by rw [hg]; exact (below_size (gB HB)) : w.heap.size ≤ gb230)); have n5_ := Aside0.mk ((by rw [hg]; exact (below_size (gB HB)) : w.heap.size ≤ gb230)); clear HO0_3; clear HO1_3; clear HB; have HO0_3 := n0_; have HO1_3 := n1_; have HB := n2_; have BK230 := n3_; have GW230 := n4_; have GE230 := n5_; clear n0_ n1_ n2_ n3_ n4_ n5_; clear hb hbox hg) | ((with_reducible refine gate_dst (N := 3) rfl ?_); refine box_event ?hg (N := 3) ?hd (cs := #[.int .i64 a1_0, .int .i64 a1_1, .string a1_2, .slice A1_3 l1_3.length c1_3]) (t := 39) ?hr ?_; (case hd => rfl); (case hg => rfl); (case hr => first | (go_simp; done) | (go_simp; rfl)); intro gb231 hg w4 hbox hb; have n0_ := Aside0.mk (Kd.V_below (Kd.V_elderB (gV HO0_3) gb231 (Nat.le_of_eq hg.symm)) hb); have n1_ := Aside0.mk (Kd.V_below (Kd.V_elderB (gV HO1_3) gb231 (Nat.le_of_eq hg.symm)) hb); have n2_ := Aside0.mk (blk_below (g := gb230) (o := .cells #[.int .i64 a0_0, .int .i64 a0_1, .string a0_2, .slice A0_3 l0_3.length c0_3] 39 (0, 0)) (gK BK230) hb); have n3_ := Aside0.mk (below_step (by repeat (first | exact gB HB | refine below_set ?_ GE230.out)) hb); have n4_ := Aside0.mk (hbox); have n5_ := Aside0.mk ((by rw [hg]; exact (below_size (by repeat (first | exact gB HB | refine below_set ?_ GE230.out))) : w.heap.size ≤ gb231)); have n6_ := Aside0.mk ((by rw [hg]; exact (below_size (by repeat (first | exact gB HB | refine below_set ?_ GE230.out))) : w.heap.size ≤ gb231)); have n7_ := Aside0.mk ((by rw [hg]; exact Nat.ne_of_lt (blk_lt (g := gb230) (o := .cells #[.int .i64 a0_0, .int .i64 a0_1, .string a0_2, .slice A0_3 l0_3.length c0_3] 39 (0, 0)) (gK BK230)) : gb230 ≠ gb231)); have n8_ := Aside0.mk ((by rw [hg]; exact Nat.ne_of_gt (blk_lt (g := gb230) (o := .cells #[.int .i64 a0_0, .int .i64 a0_1, .string a0_2, .slice A0_3 l0_3.length c0_3] 39 (0, 0)) (gK BK230)) : gb231 ≠ gb230)); clear HO0_3; clear HO1_3; clear BK230; clear HB; have HO0_3 := n0_; have HO1_3 := n1_; have BK230 := n2_; have HB := n3_; have BK231 := n4_; have GW231 := n5_; have GE231 := n6_; have NB230_231 := n7_; have NB231_230 := n8_; clear n0_ n1_ n2_ n3_ n4_ n5_ n6_ n7_ n8_; clear hb hbox hg) | ((with_reducible refine gate_dst (N := 4) rfl ?_); refine box_event ?hg (N := 4) ?hd (cs := #[.int .i64 0, .int .i64 0, .string (⟨#[]⟩ : ByteArray), .slice none 0 0]) (t := 39) ?hr ?_; (case hd => rfl); (case hg => rfl); (case hr => first | (go_simp; done) | (go_simp; rfl)); intro gb232 hg w5 hbox hb; have n0_ := Aside0.mk (Kd.V_below (Kd.V_elderB (gV HO0_3) gb232 (Nat.le_of_eq hg.symm)) hb); have n1_ := Aside0.mk (Kd.V_below (Kd.V_elderB (gV HO1_3) gb232 (Nat.le_of_eq hg.symm)) hb); have n2_ := Aside0.mk (blk_below (g := gb230) (o := .cells #[.int .i64 a0_0, .int .i64 a0_1, .string a0_2, .slice A0_3 l0_3.length c0_3] 39 (0, 0)) (gK BK230) hb); have n3_ := Aside0.mk (blk_below (g := gb231) (o := .cells #[.int .i64 a1_0, .int .i64 a1_1, .string a1_2, .slice A1_3 l1_3.length c1_3] 39 (0, 0)) (gK BK231) hb); have n4_ := Aside0.mk (below_step (by repeat (first | exact gB HB | refine below_set ?_ GE230.out | refine below_set ?_ GE231.out)) hb); have n5_ := Aside0.mk (hbox); have n6_ := Aside0.mk ((by rw [hg]; exact (below_size (by repeat (first | exact gB HB | refine below_set ?_ GE230.out | refine below_set ?_ GE231.out))) : w.heap.size ≤ gb232)); have n7_ := Aside0.mk ((by rw [hg]; exact (below_size (by repeat (first | exact gB HB | refine below_set ?_ GE230.out | refine below_set ?_ GE231.out))) : w.heap.size ≤ gb232)); have n8_ := Aside0.mk ((by rw [hg]; exact Nat.ne_of_lt (blk_lt (g := gb230) (o := .cells #[.int .i64 a0_0, .int .i64 a0_1, .string a0_2, .slice A0_3 l0_3.length c0_3] 39 (0, 0)) (gK BK230)) : gb230 ≠ gb232)); have n9_ := Aside0.mk ((by rw [hg]; exact Nat.ne_of_gt (blk_lt (g := gb230) (o := .cells #[.int .i64 a0_0, .int .i64 a0_1, .string a0_2, .slice A0_3 l0_3.length c0_3] 39 (0, 0)) (gK BK230)) : gb232 ≠ gb230)); have n10_ := Aside0.mk ((by rw [hg]; exact Nat.ne_of_lt (blk_lt (g := gb231) (o := .cells #[.int .i64 a1_0, .int .i64 a1_1, .string a1_2, .slice A1_3 l1_3.length c1_3] 39 (0, 0)) (gK BK231)) : gb231 ≠ gb232)); have n11_ := Aside0.mk ((by rw [hg]; exact Nat.ne_of_gt (blk_lt (g := gb231) (o := .cells #[.int .i64 a1_0, .int .i64 a1_1, .string a1_2, .slice A1_3 l1_3.length c1_3] 39 (0, 0)) (gK BK231)) : gb232 ≠ gb231)); clear HO0_3; clear HO1_3; clear BK230; clear BK231; clear HB; have HO0_3 := n0_; have HO1_3 := n1_; have BK230 := n2_; have BK231 := n3_; have HB := n4_; have BK232 := n5_; have GW232 := n6_; have GE232 := n7_; have NB230_232 := n8_; have NB232_230 := n9_; have NB231_232 := n10_; have NB232_231 := n11_; clear n0_ n1_ n2_ n3_ n4_ n5_ n6_ n7_ n8_ n9_ n10_ n11_; clear hb hbox hg; have hnb6 := NB230_231.out; have hnc6 := NB231_230.out; have hnb7 := NB230_232.out; have hnc7 := NB232_230.out; have hcz8_0 : w5.cell? ⟨gb230, 0, none⟩ = some (.int .i64 a0_0) := (blk_cell BK230.out 0).trans rfl; have hcz8_1 : w5.cell? ⟨gb230, 1, none⟩ = some (.int .i64 a0_1) := (blk_cell BK230.out 1).trans rfl; have hcz8_2 : w5.cell? ⟨gb230, 2, none⟩ = some (.string a0_2) := (blk_cell BK230.out 2).trans rfl; have hcz8_3 : w5.cell? ⟨gb230, 3, none⟩ = some (.slice A0_3 l0_3.length c0_3) := (blk_cell BK230.out 3).trans rfl; have hfz8_0 := blk_frozen BK230.out 0; have hfz8_1 := blk_frozen BK230.out 1; have hfz8_2 := blk_frozen BK230.out 2; have hfz8_3 := blk_frozen BK230.out 3; have hnb9 := NB231_232.out; have hnc9 := NB232_231.out; have hcz10_0 : w5.cell? ⟨gb231, 0, none⟩ = some (.int .i64 a1_0) := (blk_cell BK231.out 0).trans rfl; have hcz10_1 : w5.cell? ⟨gb231, 1, none⟩ = some (.int .i64 a1_1) := (blk_cell BK231.out 1).trans rfl; have hcz10_2 : w5.cell? ⟨gb231, 2, none⟩ = some (.string a1_2) := (blk_cell BK231.out 2).trans rfl; have hcz10_3 : w5.cell? ⟨gb231, 3, none⟩ = some (.slice A1_3 l1_3.length c1_3) := (blk_cell BK231.out 3).trans rfl; have hfz10_0 := blk_frozen BK231.out 0; have hfz10_1 := blk_frozen BK231.out 1; have hfz10_2 := blk_frozen BK231.out 2; have hfz10_3 := blk_frozen BK231.out 3) | ((with_reducible refine gate_dst (N := 7) rfl ?_); refine Kd.N_lit k39 _ 39 ?hg (N' := 7) ?hd (xs := ([(⟨a0_0, a0_1, a0_2, l0_3⟩ : SDoc), (⟨a1_0, a1_1, a1_2, l1_3⟩ : SDoc)] : List (SDoc))) (inner := [.int .i64 a0_0, .int .i64 a0_1, .string a0_2, .slice A0_3 l0_3.length c0_3, .int .i64 a1_0, .int .i64 a1_1, .string a1_2, .slice A1_3 l1_3.length c1_3]) (ok := (fun k_ => ((P0_3_ k_ ∨ P1_3_ k_) ∨ w.heap.size ≤ k_) ∧ k_ ≠ gb230 ∧ k_ ≠ gb231 ∧ k_ ≠ gb232)) (okp := (fun k_ => ((P0_3_ k_ ∨ P1_3_ k_) ∨ w.heap.size ≤ k_) ∧ k_ ≠ gb230 ∧ k_ ≠ gb231 ∧ k_ ≠ gb232)) ?hr ?hp (fun _ hk => hk) ((show ∀ k_, w5.heap.size ≤ k_ → (fun k_ => ((P0_3_ k_ ∨ P1_3_ k_) ∨ w.heap.size ≤ k_) ∧ k_ ≠ gb230 ∧ k_ ≠ gb231 ∧ k_ ≠ gb232) k_ from fun k_ hk => ⟨(.inr (Nat.le_trans (below_size (by repeat (first | exact gB HB | refine below_set ?_ GE230.out | refine below_set ?_ GE231.out | refine below_set ?_ GE232.out))) hk)), Kd.freshB (g := gb230) (o := .cells #[.int .i64 a0_0, .int .i64 a0_1, .string a0_2, .slice A0_3 l0_3.length c0_3] 39 (0, 0)) (gK BK230) k_ hk, Kd.freshB (g := gb231) (o := .cells #[.int .i64 a1_0, .int .i64 a1_1, .string a1_2, .slice A1_3 l1_3.length c1_3] 39 (0, 0)) (gK BK231) k_ hk, Kd.freshB (g := gb232) (o := .cells #[.int .i64 0, .int .i64 0, .string (⟨#[]⟩ : ByteArray), .slice none 0 0] 39 (0, 0)) (gK BK232) k_ hk⟩) _ (Nat.le_refl _)) (Below.refl _ _) (Nat.le_refl _) (by simp) ?_; (case hd => rfl); (case hg => rfl); (case hr => first | (go_simp; done) | (go_simp; rfl)); (case hp => exact (Reps.c4 (show Kd.FK k39 _ _ (⟨a0_0, a0_1, a0_2, l0_3⟩ : SDoc) [.int .i64 a0_0, .int .i64 a0_1, .string a0_2, .slice A0_3 l0_3.length c0_3] from (k39_mkF _ _ (⟨a0_0, a0_1, a0_2, l0_3⟩ : SDoc) (Kd.V_reads' (Kd.V_mono (ok' := (fun k_ => ((P0_3_ k_ ∨ P1_3_ k_) ∨ w.heap.size ≤ k_) ∧ k_ ≠ gb230 ∧ k_ ≠ gb231 ∧ k_ ≠ gb232)) (HO0_3.out) (fun k_ hk => ⟨hk.1.1.1, ⟨hk.1.1.2, ⟨hk.1.2, hk.2⟩⟩⟩))).2.1 (Kd.V_F (Kd.V_mono (ok' := (fun k_ => ((P0_3_ k_ ∨ P1_3_ k_) ∨ w.heap.size ≤ k_) ∧ k_ ≠ gb230 ∧ k_ ≠ gb231 ∧ k_ ≠ gb232)) (HO0_3.out) (fun k_ hk => ⟨hk.1.1.1, ⟨hk.1.1.2, ⟨hk.1.2, hk.2⟩⟩⟩))))) (Reps.c4 (show Kd.FK k39 _ _ (⟨a1_0, a1_1, a1_2, l1_3⟩ : SDoc) [.int .i64 a1_0, .int .i64 a1_1, .string a1_2, .slice A1_3 l1_3.length c1_3] from (k39_mkF _ _ (⟨a1_0, a1_1, a1_2, l1_3⟩ : SDoc) (Kd.V_reads' (Kd.V_mono (ok' := (fun k_ => ((P0_3_ k_ ∨ P1_3_ k_) ∨ w.heap.size ≤ k_) ∧ k_ ≠ gb230 ∧ k_ ≠ gb231 ∧ k_ ≠ gb232)) (HO1_3.out) (fun k_ hk => ⟨hk.1.1.1, ⟨hk.1.1.2, ⟨hk.1.2, hk.2⟩⟩⟩))).2.1 (Kd.V_F (Kd.V_mono (ok' := (fun k_ => ((P0_3_ k_ ∨ P1_3_ k_) ∨ w.heap.size ≤ k_) ∧ k_ ≠ gb230 ∧ k_ ≠ gb231 ∧ k_ ≠ gb232)) (HO1_3.out) (fun k_ hk => ⟨hk.1.1.1, ⟨hk.1.1.2, ⟨hk.1.2, hk.2⟩⟩⟩))))) (Reps.none _ _)))); intro v234 w11 ho12 hb hg_ hnew_; clear hg_ hnew_; (first | rw [← Ny233.out] at ho12 | (simp only [Int.reduceToNat] at ho12; rw [← Ny233.out] at ho12)); have n0_ := Aside0.mk (Kd.V_elder' (gV HO0_3) (Kd.N_base ho12) hb); have n1_ := Aside0.mk (Kd.V_elder' (gV HO1_3) (Kd.N_base ho12) hb); have n2_ := Aside0.mk (Kd.N_lower ho12 (below_size (by repeat (first | exact gB HB | refine below_set ?_ GE230.out | refine below_set ?_ GE231.out | refine below_set ?_ GE232.out)))); have n3_ := Aside0.mk (blk_below (g := gb230) (o := .cells #[.int .i64 a0_0, .int .i64 a0_1, .string a0_2, .slice A0_3 l0_3.length c0_3] 39 (0, 0)) (gK BK230) hb); have n4_ := Aside0.mk (blk_below (g := gb231) (o := .cells #[.int .i64 a1_0, .int .i64 a1_1, .string a1_2, .slice A1_3 l1_3.length c1_3] 39 (0, 0)) (gK BK231) hb); have n5_ := Aside0.mk (blk_below (g := gb232) (o := .cells #[.int .i64 0, .int .i64 0, .string (⟨#[]⟩ : ByteArray), .slice none 0 0] 39 (0, 0)) (gK BK232) hb); have n6_ := Aside0.mk (below_step (by repeat (first | exact gB HB | refine below_set ?_ GE230.out | refine below_set ?_ GE231.out | refine below_set ?_ GE232.out)) hb); clear HO0_3; clear HO1_3; clear BK230; clear BK231; clear BK232; clear HB; have HO0_3 := n0_; have HO1_3 := n1_; have HO235 := n2_; have BK230 := n3_; have BK231 := n4_; have BK232 := n5_; have HB := n6_; clear n0_ n1_ n2_ n3_ n4_ n5_ n6_; clear hb ho12; obtain ⟨Ao13, co13, eo13⟩ := Kd.N_slice HO235.out; subst eo13; have hcz14_0 : w11.cell? ⟨gb232, 0, none⟩ = some (.int .i64 0) := (blk_cell BK232.out 0).trans rfl; have hcz14_1 : w11.cell? ⟨gb232, 1, none⟩ = some (.int .i64 0) := (blk_cell BK232.out 1).trans rfl; have hcz14_2 : w11.cell? ⟨gb232, 2, none⟩ = some (.string (⟨#[]⟩ : ByteArray)) := (blk_cell BK232.out 2).trans rfl; have hcz14_3 : w11.cell? ⟨gb232, 3, none⟩ = some (.slice none 0 0) := (blk_cell BK232.out 3).trans rfl; have hfz14_0 := blk_frozen BK232.out 0; have hfz14_1 := blk_frozen BK232.out 1; have hfz14_2 := blk_frozen BK232.out 2; have hfz14_3 := blk_frozen BK232.out 3))
  refine bodyPost_ret (results_cell_row rfl _ _ gb232 39 #[.int .i64 7, .int .i64 0, .string (⟨#[]⟩ : ByteArray), .slice Ao13 y233.length co13] (0, 0) _ rfl (by (with_reducible repeat (first | refine blk_drewN ?_ _ | refine blk_drew ?_ | refine blk_alloc ?_ _)); refine blk_put (cs := #[.int .i64 7, .int .i64 0, .string (⟨#[]⟩ : ByteArray), .slice none 0 0]) ?_ 3 _ rfl; (with_reducible repeat (first | refine blk_drewN ?_ _ | refine blk_drew ?_ | refine blk_alloc ?_ _)); refine blk_put (cs := #[.int .i64 7, .int .i64 0, .string (⟨#[]⟩ : ByteArray), .slice none 0 0]) ?_ 2 _ rfl; (with_reducible repeat (first | refine blk_drewN ?_ _ | refine blk_drew ?_ | refine blk_alloc ?_ _)); refine blk_put (cs := #[.int .i64 7, .int .i64 0, .string (⟨#[]⟩ : ByteArray), .slice none 0 0]) ?_ 1 _ rfl; (with_reducible repeat (first | refine blk_drewN ?_ _ | refine blk_drew ?_ | refine blk_alloc ?_ _)); refine blk_put (cs := #[.int .i64 0, .int .i64 0, .string (⟨#[]⟩ : ByteArray), .slice none 0 0]) ?_ 0 _ rfl; (with_reducible repeat (first | refine blk_drewN ?_ _ | refine blk_drew ?_ | refine blk_alloc ?_ _)); exact BK232.out) Try.underlying39 rfl (by kernel_rfl)) rfl ?_
  exact ⟨_, by first | rfl | (simp [errW_none, errW_some] <;> rfl) | (simp [*, errW_none, errW_some] <;> rfl), by (with_reducible repeat (first | apply Kd.N_alloc | apply Kd.N_drewN | apply Kd.N_drew)); exact Kd.N_mono (Kd.N_far (p := ⟨gb232, 3, none⟩) (Kd.N_far (p := ⟨gb232, 2, none⟩) (Kd.N_far (p := ⟨gb232, 1, none⟩) (Kd.N_far (p := ⟨gb232, 0, none⟩) (Kd.N_mono HO235.out (fun k_ hk => (⟨hk, hk.2.2.2⟩ : _ ∧ k_ ≠ gb232))) (fun _ hk => hk.2) (.int .i64 7)) (fun _ hk => hk.2) (.int .i64 0)) (fun _ hk => hk.2) (.string (⟨#[]⟩ : ByteArray))) (fun _ hk => hk.2) (.slice Ao13 y233.length co13)) (fun _ hk => hk.1.1), by repeat (first | exact gB HB | refine below_set ?_ GE230.out | refine below_set ?_ GE231.out | refine below_set ?_ GE232.out)⟩
end Go.Proofs.Ytdhdfmmefghijab.P
