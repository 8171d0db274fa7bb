/- CONTRACTS: each theorem here says that a Go function of the program, called over the translation under the theorem's own hypotheses, returns what the Lean function beside it computes. Written by the session's program xprint.py. -/
import Derived.Test.YtbijachmecgpgaaPx0
namespace Go.Proofs.Ytbijachmecgpgaa.P
open Go.RowKit Go.Proofs.YtbijachmecgpgaaW.PrintWords Go.Proofs.YtbijachmecgpgaaW.PrintLast Go.Proofs.YtbijachmecgpgaaW.PrintMore
attribute [local go_sem] max2_int min2_int max_two min_two max_three min_three max_four min_four   -- for this text's walks alone
set_option linter.unusedVariables false
set_option linter.unusedSimpArgs false

/-! ### spec_l2Cat: function 59 -/
def spec_l2Cat.f (l0 : List (SRow)) (l1 : List (SRow)) : Option ((List (SRow))) := (some (([] : List (SRow)) : List (SRow))).bind fun y373 => (if y373.length + l0.length < 5864062014805 then ((some (y373 ++ l0 : List (SRow))).bind fun y376 => (if 0 ≤ (wrap64 ((y376.length : Int) - 1)) then (if (wrap64 ((y376.length : Int) - 1)) < (y376.length : Int) then (if 0 < (l1.length : Int) then (if ((rd_TRow y376 (wrap64 ((y376.length : Int) - 1))).f1).size + ((rd_TRow l1 0).f1).size ≤ 9223372036854775807 then ((some (y376.set ((wrap64 ((y376.length : Int) - 1)) : Int).toNat (⟨(rd_TRow y376 (wrap64 ((y376.length : Int) - 1))).f0, ((rd_TRow y376 (wrap64 ((y376.length : Int) - 1))).f1) ++ ((rd_TRow l1 0).f1)⟩ : SRow) : List (SRow))).bind fun y381 => (if 1 ≤ (l1.length : Int) then ((some (l1.drop 1 : List (SRow))).bind fun y382 => (if y381.length + y382.length < 5864062014805 then (some (y381 ++ y382)) else (none))) else (none))) else (none)) else (none)) else (none)) else (none))) else (none))
def spec_l2Cat.T3 : Bool × List (List Nat × List Nat) := (true, [([], []), ([], []), ([], []), ([], []), ([2, 3], [2, 3]), ([4], [4]), ([5], [5]), ([], []), ([7], [7]), ([8], [8]), ([9], [9]), ([6, 10], [6, 10]), ([0, 1, 0, 1, 2, 3, 4, 5, 6, 7, 8, 9, 10, 11], [0, 1]), ([12, 0, 1, 2, 3, 4, 5, 6, 7, 8, 9, 10, 11], [12]), ([13, 11, 0, 1, 2, 3, 4, 5, 6, 7, 8, 9, 10, 11], [11, 13])])
def spec_l2Cat.B3 : List Nat := [0, 0, 0, 0, 12, 28, 60, 0, 128, 384, 896, 2044, 4095, 8191, 16383]
theorem spec_l2Cat.tab3 : rtab .any (opsOf Try.f59 3) = spec_l2Cat.T3 := by kernel_rfl
theorem spec_l2Cat.bits3 : waitsOk spec_l2Cat.T3.2 spec_l2Cat.B3 = true := by kernel_rfl
set_option maxHeartbeats 8000000 in
set_option maxRecDepth 100000 in
theorem spec_l2Cat.calls (A0 : Option Addr) (c0 : Nat) (l0 : List (SRow)) (A1 : Option Addr) (c1 : Nat) (l1 : List (SRow)) (r : List (SRow)) (w : World) (hr0 : Kd.C k58 w A0 l0.length l0) (hc0 : l0.length ≤ c0) (hr1 : Kd.C k58 w A1 l1.length l1) (hc1 : l1.length ≤ c1) (h : spec_l2Cat.f l0 l1 = some r) :
    Calls Try.prog 59 #[.slice A0 l0.length c0, .slice A1 l1.length c1] w fun e w' => ∃ v0_ : Value, e = .returned (v0_) ∧ Kd.R k58 58 w' w.heap.size (fun _ => True) v0_ r ∧ Below w.heap.size w w' := by
  have HR0 := Aside0.mk hr0
  have HC0 := Aside0.mk hc0
  clear hr0 hc0
  have HR1 := Aside0.mk hr1
  have HC1 := Aside0.mk hc1
  clear hr1 hc1
  have HB := Aside0.mk (Below.refl w.heap.size w)
  have H : ((some (([] : List (SRow)) : List (SRow))).bind fun y373 => (if y373.length + l0.length < 5864062014805 then ((some (y373 ++ l0 : List (SRow))).bind fun y376 => (if 0 ≤ (wrap64 ((y376.length : Int) - 1)) then (if (wrap64 ((y376.length : Int) - 1)) < (y376.length : Int) then (if 0 < (l1.length : Int) then (if ((rd_TRow y376 (wrap64 ((y376.length : Int) - 1))).f1).size + ((rd_TRow l1 0).f1).size ≤ 9223372036854775807 then ((some (y376.set ((wrap64 ((y376.length : Int) - 1)) : Int).toNat (⟨(rd_TRow y376 (wrap64 ((y376.length : Int) - 1))).f0, ((rd_TRow y376 (wrap64 ((y376.length : Int) - 1))).f1) ++ ((rd_TRow l1 0).f1)⟩ : SRow) : List (SRow))).bind fun y381 => (if 1 ≤ (l1.length : Int) then ((some (l1.drop 1 : List (SRow))).bind fun y382 => (if y381.length + y382.length < 5864062014805 then (some (y381 ++ y382)) else (none))) else (none))) else (none)) else (none)) else (none)) else (none))) else (none))) = some r := h
  clear h
  obtain ⟨y373, hy373⟩ : ∃ y_ : List (SRow), y_ = (([] : List (SRow))) := ⟨_, rfl⟩
  replace H : (if y373.length + l0.length < 5864062014805 then ((some (y373 ++ l0 : List (SRow))).bind fun y376 => (if 0 ≤ (wrap64 ((y376.length : Int) - 1)) then (if (wrap64 ((y376.length : Int) - 1)) < (y376.length : Int) then (if 0 < (l1.length : Int) then (if ((rd_TRow y376 (wrap64 ((y376.length : Int) - 1))).f1).size + ((rd_TRow l1 0).f1).size ≤ 9223372036854775807 then ((some (y376.set ((wrap64 ((y376.length : Int) - 1)) : Int).toNat (⟨(rd_TRow y376 (wrap64 ((y376.length : Int) - 1))).f0, ((rd_TRow y376 (wrap64 ((y376.length : Int) - 1))).f1) ++ ((rd_TRow l1 0).f1)⟩ : SRow) : List (SRow))).bind fun y381 => (if 1 ≤ (l1.length : Int) then ((some (l1.drop 1 : List (SRow))).bind fun y382 => (if y381.length + y382.length < 5864062014805 then (some (y381 ++ y382)) else (none))) else (none))) else (none)) else (none)) else (none)) else (none))) else (none)) = some r := by first | (rw [hy373]; with_reducible exact H) | (have H2_ := (Option.bind_some _ _).symm.trans H; rw [hy373]; with_reducible exact H2_) | (have H2_ := (Option.bind_some _ _).symm.trans H; with_reducible exact H2_) | with_reducible exact H | (rw [hy373]; exact H) | exact H
  have Ny373 := Aside0.mk hy373
  clear hy373
  by_cases c3 : y373.length + l0.length < 5864062014805
  · rw [if_pos c3] at H
    have LMc3 := Aside0.mk c3
    clear c3
    obtain ⟨y376, hy376⟩ : ∃ y_ : List (SRow), y_ = (y373 ++ l0) := ⟨_, rfl⟩
    replace H : (if 0 ≤ (wrap64 ((y376.length : Int) - 1)) then (if (wrap64 ((y376.length : Int) - 1)) < (y376.length : Int) then (if 0 < (l1.length : Int) then (if ((rd_TRow y376 (wrap64 ((y376.length : Int) - 1))).f1).size + ((rd_TRow l1 0).f1).size ≤ 9223372036854775807 then ((some (y376.set ((wrap64 ((y376.length : Int) - 1)) : Int).toNat (⟨(rd_TRow y376 (wrap64 ((y376.length : Int) - 1))).f0, ((rd_TRow y376 (wrap64 ((y376.length : Int) - 1))).f1) ++ ((rd_TRow l1 0).f1)⟩ : SRow) : List (SRow))).bind fun y381 => (if 1 ≤ (l1.length : Int) then ((some (l1.drop 1 : List (SRow))).bind fun y382 => (if y381.length + y382.length < 5864062014805 then (some (y381 ++ y382)) else (none))) else (none))) else (none)) else (none)) else (none)) else (none)) = some r := by first | (rw [hy376]; with_reducible exact H) | (have H2_ := (Option.bind_some _ _).symm.trans H; rw [hy376]; with_reducible exact H2_) | (have H2_ := (Option.bind_some _ _).symm.trans H; with_reducible exact H2_) | with_reducible exact H | (rw [hy376]; exact H) | exact H
    have Ny376 := Aside0.mk hy376
    clear hy376
    obtain ⟨ji4, hji4⟩ : ∃ j_ : Int, (wrap64 ((y376.length : Int) - 1)) = j_ := ⟨_, rfl⟩
    replace H : (if 0 ≤ (ji4) then (if (ji4) < (y376.length : Int) then (if 0 < (l1.length : Int) then (if ((rd_TRow y376 (ji4)).f1).size + ((rd_TRow l1 0).f1).size ≤ 9223372036854775807 then ((some (y376.set ((ji4) : Int).toNat (⟨(rd_TRow y376 (ji4)).f0, ((rd_TRow y376 (ji4)).f1) ++ ((rd_TRow l1 0).f1)⟩ : SRow) : List (SRow))).bind fun y381 => (if 1 ≤ (l1.length : Int) then ((some (l1.drop 1 : List (SRow))).bind fun y382 => (if y381.length + y382.length < 5864062014805 then (some (y381 ++ y382)) else (none))) else (none))) else (none)) else (none)) else (none)) else (none)) = some r := by first | (rw [hji4] at H; exact H) | (simp only [hji4] at H ⊢; exact H)
    have hji4w : (IntKind.i64.wrap ((y376.length : Int) - 1)) = ji4 := (i64_w _).trans hji4
    by_cases c5 : 0 ≤ (ji4)
    · rw [if_pos c5] at H
      have c5b0 : decide (0 ≤ (ji4)) = true := decide_eq_true c5
      clear c5
      by_cases c6 : (ji4) < (y376.length : Int)
      · rw [if_pos c6] at H
        have c6b0 : decide ((ji4) < (y376.length : Int)) = true := decide_eq_true c6
        clear c6
        by_cases c7 : 0 < (l1.length : Int)
        · rw [if_pos c7] at H
          have c7b0 : decide (0 < (l1.length : Int)) = true := decide_eq_true c7
          have c7b1 : decide (0 < l1.length) = true := decide_eq_true (by omega)
          clear c7
          by_cases c8 : ((rd_TRow y376 (ji4)).f1).size + ((rd_TRow l1 0).f1).size ≤ 9223372036854775807
          · rw [if_pos c8] at H
            have c8b0 := eq_true c8
            have c8b1 : decide (((rd_TRow y376 (ji4)).f1).size + ((rd_TRow l1 0).f1).size ≤ 9223372036854775807) = true := decide_eq_true c8
            try have c8b2 : (9223372036854775807 < ((rd_TRow y376 (ji4)).f1).size + ((rd_TRow l1 0).f1).size) = False := eq_false (Nat.not_lt.2 c8)
            obtain ⟨y381, hy381⟩ : ∃ y_ : List (SRow), y_ = (y376.set ((ji4) : Int).toNat (⟨(rd_TRow y376 (ji4)).f0, ((rd_TRow y376 (ji4)).f1) ++ ((rd_TRow l1 0).f1)⟩ : SRow)) := ⟨_, rfl⟩
            replace H : (if 1 ≤ (l1.length : Int) then ((some (l1.drop 1 : List (SRow))).bind fun y382 => (if y381.length + y382.length < 5864062014805 then (some (y381 ++ y382)) else (none))) else (none)) = some r := by first | (rw [hy381]; with_reducible exact H) | (have H2_ := (Option.bind_some _ _).symm.trans H; rw [hy381]; with_reducible exact H2_) | (have H2_ := (Option.bind_some _ _).symm.trans H; with_reducible exact H2_) | with_reducible exact H | (rw [hy381]; exact H) | exact H
            have Ny381 := Aside0.mk hy381
            clear hy381
            by_cases c10 : 1 ≤ (l1.length : Int)
            · rw [if_pos c10] at H
              have c10b0 := eq_true c10
              have c10b1 : decide (1 ≤ (l1.length : Int)) = true := decide_eq_true c10
              clear c10
              obtain ⟨y382, hy382⟩ : ∃ y_ : List (SRow), y_ = (l1.drop 1) := ⟨_, rfl⟩
              replace H : (if y381.length + y382.length < 5864062014805 then (some (y381 ++ y382)) else (none)) = some r := by first | (rw [hy382]; with_reducible exact H) | (have H2_ := (Option.bind_some _ _).symm.trans H; rw [hy382]; with_reducible exact H2_) | (have H2_ := (Option.bind_some _ _).symm.trans H; with_reducible exact H2_) | with_reducible exact H | (rw [hy382]; exact H) | exact H
              have Ny382 := Aside0.mk hy382
              clear hy382
              by_cases c11 : y381.length + y382.length < 5864062014805
              · rw [if_pos c11] at H
                have LMc11 := Aside0.mk c11
                clear c11
                obtain ⟨y386, hy386⟩ : ∃ y_ : List (SRow), y_ = (y381 ++ y382) := ⟨_, rfl⟩
                replace H : (some y386) = some r := by first | (rw [hy386]; with_reducible exact H) | (have H2_ := (Option.bind_some _ _).symm.trans H; rw [hy386]; with_reducible exact H2_) | (have H2_ := (Option.bind_some _ _).symm.trans H; with_reducible exact H2_) | with_reducible exact H | (rw [hy386]; exact H) | exact H
                have Ny386 := Aside0.mk hy386
                clear hy386
                obtain rfl := Option.some.inj H
                go_enter Try.func59, Try.ntmps59
                try go_wp2_with (first | ((with_reducible refine gate_dst (N := 7) rfl ?_); refine Kd.R_lit k58 _ 58 ?hg (N := 7) ?hd (xs := ([] : List (SRow))) (inner := []) (ok := fun _ => True) (okp := fun _ => True) ?hr ?hp (fun _ hk => hk) trivial (Below.refl _ _) (Nat.le_refl _) (by simp) ?_; (case hd => rfl); (case hg => rfl); (case hr => first | (go_simp; done) | (go_simp; rfl)); (case hp => exact (Reps.none _ _)); intro v374 w12 ho13 hb hg_ hnew_; clear hg_ hnew_; (first | rw [← Ny373.out] at ho13 | (simp only [Int.reduceToNat] at ho13; rw [← Ny373.out] at ho13)); have n0_ := Aside0.mk (Kd.R_lower ho13 (below_size (by repeat (first | (with_reducible first | exact HB.out | apply below_alloc | apply pw_below_drewN | apply below_drew1) | exact HB.out)))); have n1_ := Aside0.mk (below_step (by repeat (first | (with_reducible first | exact HB.out | apply below_alloc | apply pw_below_drewN | apply below_drew1) | exact HB.out)) hb); clear HB; have HO375 := n0_; have HB := n1_; clear n0_ n1_; clear hb ho13) | ((with_reducible refine gate_builtin (b := .append) (xs := #[.tmp 7, .tmp 8]) rfl ?_); at_builtin; refine Kd.R_append_rows k58 (w0 := w) w.heap.size rfl (.tmp 7) (.tmp 8) 27 58 (.agg #[(.int .i64 0), (.string ⟨#[]⟩)]) 24 rfl Try.underlying27 info58 rfl (by decide) (by omega) v374 y373 l0 _ _ _ (fun _ => True) (fun _ => False) rfl rfl ?aO ?aR (fun _ _ h => h) (fun _ h => h.elim) ?aF ?aB ?aS ?aL ?_; (case aR => repeat (first | exact (Kd.C_below HR0.out HB.out) | (with_reducible refine Kd.C_alloc ?_ _) | (with_reducible refine Kd.C_drewN ?_ _) | (with_reducible refine Kd.C_drew ?_))); (case aB => exact (by repeat (first | (with_reducible first | exact HB.out | apply below_alloc | apply pw_below_drewN | apply below_drew1) | exact HB.out))); (case aF => exact (fun _ _ => trivial)); (case aO => exact (by (with_reducible repeat (first | apply Kd.R_alloc | apply Kd.R_drewN | apply Kd.R_drew)); exact HO375.out)); (case aS => exact (below_size (by repeat (first | (with_reducible first | exact HB.out | apply below_alloc | apply pw_below_drewN | apply below_drew1) | exact HB.out)))); (case aL => have := LMc3.out; omega); intro v377 w14 ho hb hg hat; rw [← Ny376.out] at ho; have n0_ := Aside0.mk (hb); have n1_ := Aside0.mk (ho); clear HB; clear HO375; have HB := n0_; have HO378 := n1_; clear n0_ n1_; clear ho hb hg hat; obtain ⟨Ao15, co15, eo15⟩ := Kd.R_slice HO378.out; subst eo15))
                have n0_ := Aside0.mk (Kd.R_drew HO378.out)
                have n1_ := Aside0.mk (below_drew1 HB.out)
                clear HO378
                clear HB
                have HO378 := n0_
                have HB := n1_
                clear n0_ n1_
                have p379 : 0 ≤ ((ji4) : Int) := of_decide_eq_true (by first | (with_reducible assumption) | assumption)
                have q379 : (ji4) < (y376.length : Int) := of_decide_eq_true (by first | (with_reducible assumption) | assumption)
                obtain ⟨ad379, e379, hx379_0, hx379_1⟩ := at_TRow (Kd.R_reads' HO378.out).2.2 (ji4) p379 q379
                cases e379
                replace p379 := eq_true p379
                replace q379 := eq_true q379
                have p380 : 0 ≤ (0 : Int) := (by omega)
                have q380 : 0 < (l1.length : Int) := of_decide_eq_true (by first | (with_reducible assumption) | assumption)
                obtain ⟨ad380, e380, hx380_0, hx380_1⟩ := at_TRow HR1.out 0 p380 q380
                have hw380_1 := hx380_1
                (try rw [show ((0 : Int)).toNat = 0 from rfl] at hw380_1)
                (try rw [show 0 * 2 = 0 from rfl] at hw380_1)
                (try rw [Addr.add_zero'] at hw380_1)
                have hw380_0 := hx380_0
                (try rw [show ((0 : Int)).toNat = 0 from rfl] at hw380_0)
                (try rw [show 0 * 2 = 0 from rfl] at hw380_0)
                (try rw [Addr.add_zero'] at hw380_0)
                cases e380
                have qi380 : (0 < l1.length) = True := eq_true (by omega)
                (try rw [show ((0 : Int)).toNat = 0 from rfl] at hx380_0)
                (try rw [show 0 * 2 = 0 from rfl] at hx380_0)
                (try rw [Addr.add_zero'] at hx380_0)
                (try rw [show ((0 : Int)).toNat = 0 from rfl] at hx380_1)
                (try rw [show 0 * 2 = 0 from rfl] at hx380_1)
                (try rw [Addr.add_zero'] at hx380_1)
                replace hx380_0 := (HB.out.cell (World.block_lt_of_cell? w _ hx380_0)).trans hx380_0
                replace hx380_1 := (HB.out.cell (World.block_lt_of_cell? w _ hx380_1)).trans hx380_1
                replace p380 := eq_true p380
                replace q380 := eq_true q380
                have p9 : 0 ≤ ((ji4) : Int) := of_decide_eq_true (by first | (with_reducible assumption) | assumption)
                have q9 : ((ji4) : Int) < ((y376.length : Int) : Int) := of_decide_eq_true (by first | (with_reducible assumption) | assumption)
                obtain ⟨go9, co9, eo9, gb9, gl9, cl9, HG9⟩ := Kd.R_form HO378.out (by omega)
                (first | cases eo9 | (injection eo9 with ea_ en_ ec_; (first | subst ea_ | (injection ea_ with ea_; subst ea_)); subst ec_; clear en_))
                have GB9 := Aside0.mk gb9
                have GG9 := Aside0.mk HG9
                clear gb9 gl9 HG9
                (first | simp only [add_plain] at hx379_0 | skip)
                (first | simp only [add_plain] at hx379_1 | skip)
                obtain ⟨ce9, hcl9, hM9, hcc9, hfr9⟩ := Kd.R_elem HO378.out zRow ((ji4) : Int) p9 q9
                obtain rfl := k58_openM hM9
                have hx9_0 : World.cell? _ ⟨go9, ((ji4) : Int).toNat * 2, none⟩ = some (.int .i64 ((rd_TRow y376 (ji4)).f0)) := hcc9 0 _ rfl
                have hx9_1 : World.cell? _ ⟨go9, ((ji4) : Int).toNat * 2 + 1, none⟩ = some (.string ((rd_TRow y376 (ji4)).f1)) := hcc9 1 _ rfl
                have hf9_0 : World.frozen? _ ⟨go9, ((ji4) : Int).toNat * 2, none⟩ = false := hfr9 0
                have hf9_1 : World.frozen? _ ⟨go9, ((ji4) : Int).toNat * 2 + 1, none⟩ = false := hfr9 1
                clear hcl9 hcc9 hfr9 hM9
                replace p9 := eq_true p9
                replace q9 := eq_true q9
                obtain ⟨ce17, hcl17, hM17, hcc17, hfr17⟩ := Kd.R_elem HO378.out zRow ((ji4) : Int) (of_decide_eq_true (by first | (with_reducible assumption) | assumption)) (by have h_ : ((ji4) : Int) < ((y376.length : Int) : Int) := of_decide_eq_true (by first | (with_reducible assumption) | assumption); first | exact h_ | (have e_ := (Kd.R_reads' HO378.out).1; omega) | simpa using h_)
                obtain rfl := k58_openM hM17
                have HP17 := (Kd.R_seg HO378.out ((ji4) : Int) (of_decide_eq_true (by first | (with_reducible assumption) | assumption)) (by have h_ : ((ji4) : Int) < ((y376.length : Int) : Int) := of_decide_eq_true (by first | (with_reducible assumption) | assumption); first | exact h_ | (have e_ := (Kd.R_reads' HO378.out).1; omega) | simpa using h_) (seg := [.string (((rd_TRow y376 (ji4)).f1) ++ ((rd_TRow l1 0).f1))]) (j := 1) hcl17 hcc17 (show 2 ≤ 2 from by decide) (x' := (⟨(rd_TRow y376 (ji4)).f0, ((rd_TRow y376 (ji4)).f1) ++ ((rd_TRow l1 0).f1)⟩ : SRow)) (k58_mkM _ _ _ (⟨(rd_TRow y376 (ji4)).f0, ((rd_TRow y376 (ji4)).f1) ++ ((rd_TRow l1 0).f1)⟩ : SRow) ) (fun _ hk => hk)).1
                rw [← Ny381.out] at HP17
                have HQ17 := Aside0.mk HP17
                clear hcl17 hcc17 hfr17 hM17 HP17
                refine start_ (n := 15) (S := fun w' => w'.cell? ⟨go9, ((ji4)).toNat * 2, none⟩ = some (.int .i64 ((rd_TRow y376 (ji4)).f0)) ∧ w'.cell? ⟨go9, ((ji4)).toNat * 2 + 1, none⟩ = some (.string ((rd_TRow y376 (ji4)).f1)) ∧ w'.cell? ad380 = some (.int .i64 ((rd_TRow l1 0).f0)) ∧ w'.cell? ⟨ad380.block, ad380.off + 1, none⟩ = some (.string ((rd_TRow l1 0).f1))) (ds := [14]) #[false, false, false, false, false, false, false, false, false, false, false, false, false, false, false] (by kernel_rfl) rfl rfl ⟨hx379_0, hx379_1, ((HB.out.cell (World.block_lt_of_cell? w _ hw380_0)).trans hw380_0), ((HB.out.cell (World.block_lt_of_cell? w _ hw380_1)).trans hw380_1)⟩ (fun hHeld => ?_); refine with_tabW spec_l2Cat.tab3 spec_l2Cat.bits3 (fun HT_ HW_ => ?_)
                generalize w14.drew = w16 at HO378 HB GG9 HQ17 hf9_0 hf9_1 hx379_0 hx379_1 hx380_0 hx380_1 hx9_0 hx9_1 hHeld ⊢
                refine pure_ (i := 0) (N := some 13) (v := ?_) (a' := ?_) #[true, false, false, false, false, false, false, false, false, false, false, false, false, false, false] rfl rfl (any_of HT_.out (by kernel_rfl)) (fun _ _ _ h => h) (Or.inl ⟨by rfl, ?_⟩) ?_ ?_
                rotate_left
                · intro w'
                  go_simp
                  with_reducible rfl
                rotate_left
                · simp only [Act.put, List.setIfInBounds_toArray, List.set_cons_zero, List.set_cons_succ, i64_w, i32_w]
                  rfl
                refine pure_ (i := 1) (N := some 14) (v := ?_) (a' := ?_) #[true, true, false, false, false, false, false, false, false, false, false, false, false, false, false] rfl rfl (any_of HT_.out (by kernel_rfl)) (fun _ _ _ h => h) (Or.inl ⟨by rfl, ?_⟩) ?_ ?_
                rotate_left
                · intro w'
                  go_simp
                  with_reducible rfl
                rotate_left
                · simp only [Act.put, List.setIfInBounds_toArray, List.set_cons_zero, List.set_cons_succ, i64_w, i32_w]
                  rfl
                refine pure_ (i := 2) (N := some 15) (v := ?_) (a' := ?_) #[true, true, true, false, false, false, false, false, false, false, false, false, false, false, false] rfl rfl (any_of HT_.out (by kernel_rfl)) (fun _ _ _ h => h) (Or.inl ⟨by rfl, ?_⟩) ?_ ?_
                rotate_left
                · intro w'
                  go_simp
                  with_reducible rfl
                rotate_left
                · simp only [Act.put, List.setIfInBounds_toArray, List.set_cons_zero, List.set_cons_succ, i64_w, i32_w]
                  rfl
                refine pure_ (i := 3) (N := some 16) (v := ?_) (a' := ?_) #[true, true, true, true, false, false, false, false, false, false, false, false, false, false, false] rfl rfl (any_of HT_.out (by kernel_rfl)) (fun _ _ _ h => h) (Or.inl ⟨by rfl, ?_⟩) ?_ ?_
                rotate_left
                · intro w'
                  go_simp
                  with_reducible rfl
                rotate_left
                · simp only [Act.put, List.setIfInBounds_toArray, List.set_cons_zero, List.set_cons_succ, i64_w, i32_w]
                  rfl
                refine pure_ (i := 4) (N := some 17) (v := ?_) (a' := ?_) #[true, true, true, true, true, false, false, false, false, false, false, false, false, false, false] rfl rfl (any_of HT_.out (by kernel_rfl)) (fun _ _ _ h => h) (Or.inl ⟨by rfl, ?_⟩) ?_ ?_
                rotate_left
                · intro w'
                  go_simp
                  with_reducible rfl
                rotate_left
                · simp only [Act.put, List.setIfInBounds_toArray, List.set_cons_zero, List.set_cons_succ, i64_w, i32_w]
                  rfl
                refine pure_ (i := 5) (N := some 18) (v := ?_) (a' := ?_) #[true, true, true, true, true, true, false, false, false, false, false, false, false, false, false] rfl rfl (any_of HT_.out (by kernel_rfl)) (fun _ _ _ h => h) (Or.inl ⟨by rfl, ?_⟩) ?_ ?_
                rotate_left
                · intro w'
                  go_simp
                  with_reducible rfl
                rotate_left
                · simp only [Act.put, List.setIfInBounds_toArray, List.set_cons_zero, List.set_cons_succ, i64_w, i32_w]
                  rfl
                refine pure_ (i := 7) (N := some 20) (v := ?_) (a' := ?_) #[true, true, true, true, true, true, false, true, false, false, false, false, false, false, false] rfl rfl (any_of HT_.out (by kernel_rfl)) (fun _ _ _ h => h) (Or.inl ⟨by rfl, ?_⟩) ?_ ?_
                rotate_left
                · intro w'
                  go_simp
                  with_reducible rfl
                rotate_left
                · simp only [Act.put, List.setIfInBounds_toArray, List.set_cons_zero, List.set_cons_succ, i64_w, i32_w]
                  rfl
                refine pure_ (i := 8) (N := some 21) (v := ?_) (a' := ?_) #[true, true, true, true, true, true, false, true, true, false, false, false, false, false, false] rfl rfl (any_of HT_.out (by kernel_rfl)) (fun _ _ _ h => h) (Or.inl ⟨by rfl, ?_⟩) ?_ ?_
                rotate_left
                · intro w'
                  go_simp
                  with_reducible rfl
                rotate_left
                · simp only [Act.put, List.setIfInBounds_toArray, List.set_cons_zero, List.set_cons_succ, i64_w, i32_w]
                  rfl
                refine pure_ (i := 9) (N := some 22) (v := ?_) (a' := ?_) #[true, true, true, true, true, true, false, true, true, true, false, false, false, false, false] rfl rfl (any_of HT_.out (by kernel_rfl)) (fun _ _ _ h => h) (Or.inl ⟨by rfl, ?_⟩) ?_ ?_
                rotate_left
                · intro w'
                  go_simp
                  with_reducible rfl
                rotate_left
                · simp only [Act.put, List.setIfInBounds_toArray, List.set_cons_zero, List.set_cons_succ, i64_w, i32_w]
                  rfl
                refine take_ (i := 6) (N := some 19) (v := ?_) (a' := ?_) #[true, true, true, true, true, true, true, true, true, true, false, false, false, false, false] rfl rfl (take_ofW HT_.out HW_.out (by kernel_rfl)) (fun _ _ _ h => h) (Or.inl ⟨by rfl, ?_⟩) hHeld ?_ ?_
                rotate_left
                · rintro w' ⟨s0, s1, s2, s3⟩
                  go_simp
                  with_reducible rfl
                rotate_left
                · simp only [Act.put, List.setIfInBounds_toArray, List.set_cons_zero, List.set_cons_succ, i64_w, i32_w]
                  rfl
                refine take_ (i := 10) (N := some 23) (v := ?_) (a' := ?_) #[true, true, true, true, true, true, true, true, true, true, true, false, false, false, false] rfl rfl (take_ofW HT_.out HW_.out (by kernel_rfl)) (fun _ _ _ h => h) (Or.inl ⟨by rfl, ?_⟩) hHeld ?_ ?_
                rotate_left
                · rintro w' ⟨s0, s1, s2, s3⟩
                  go_simp
                  with_reducible rfl
                rotate_left
                · simp only [Act.put, List.setIfInBounds_toArray, List.set_cons_zero, List.set_cons_succ, i64_w, i32_w]
                  rfl
                refine pure_ (i := 11) (N := some 24) (v := ?_) (a' := ?_) #[true, true, true, true, true, true, true, true, true, true, true, true, false, false, false] rfl rfl (any_of HT_.out (by kernel_rfl)) (fun _ _ _ h => h) (Or.inl ⟨by rfl, ?_⟩) ?_ ?_
                rotate_left
                · intro w'
                  go_simp
                  with_reducible rfl
                rotate_left
                · simp only [Act.put, List.setIfInBounds_toArray, List.set_cons_zero, List.set_cons_succ, i64_w, i32_w]
                  rfl
                refine pure_ (i := 12) (N := some 25) (v := ?_) (a' := ?_) #[true, true, true, true, true, true, true, true, true, true, true, true, true, false, false] rfl rfl (any_of HT_.out (by kernel_rfl)) (fun _ _ _ h => h) (Or.inl ⟨by rfl, ?_⟩) ?_ ?_
                rotate_left
                · intro w'
                  go_simp
                  with_reducible rfl
                rotate_left
                · simp only [Act.put, List.setIfInBounds_toArray, List.set_cons_zero, List.set_cons_succ, i64_w, i32_w]
                  rfl
                refine pure_ (i := 13) (N := some 26) (v := ?_) (a' := ?_) #[true, true, true, true, true, true, true, true, true, true, true, true, true, true, false] rfl rfl (any_of HT_.out (by kernel_rfl)) (fun _ _ _ h => h) (Or.inl ⟨by rfl, ?_⟩) ?_ ?_
                rotate_left
                · intro w'
                  go_simp
                  with_reducible rfl
                rotate_left
                · simp only [Act.put, List.setIfInBounds_toArray, List.set_cons_zero, List.set_cons_succ, i64_w, i32_w]
                  rfl
                refine last_ (i := 14) (N := none) #[true, true, true, true, true, true, true, true, true, true, true, true, true, true, true] rfl rfl (one_of HT_.out (by kernel_rfl)) (by decide) (fun K hK => ?_)
                refine skip_ (w1 := ?_) (by rfl) rfl ?_ ?_
                rotate_left
                · go_simp
                  rfl
                refine hK.out _ _ ?_
                clear hK K
                refine done_ (done_of HT_.out (by kernel_rfl)) ?_
                have n0_ : Aside0 (Kd.R k58 58 (w16.setCell ⟨go9, ((ji4) : Int).toNat * 2 + 1, none⟩ (.string (((rd_TRow y376 (ji4)).f1) ++ ((rd_TRow l1 0).f1)))) w.heap.size (fun _ => True) (.slice (some ⟨go9, 0, none⟩) y376.length co15) y381) := ⟨by (with_reducible repeat (first | apply Kd.R_alloc | apply Kd.R_drewN | apply Kd.R_drew)); exact HQ17.out⟩
                have n1_ : Aside0 (Below w.heap.size w (w16.setCell ⟨go9, ((ji4) : Int).toNat * 2 + 1, none⟩ (.string (((rd_TRow y376 (ji4)).f1) ++ ((rd_TRow l1 0).f1))))) := ⟨by repeat (first | (with_reducible first | exact HB.out | apply below_alloc | apply pw_below_drewN | apply below_drew1 | refine below_set ?_ GB9.out) | exact HB.out)⟩
                (try clear HO378)
                (try clear HB)
                generalize (w16.setCell ⟨go9, ((ji4) : Int).toNat * 2 + 1, none⟩ (.string (((rd_TRow y376 (ji4)).f1) ++ ((rd_TRow l1 0).f1)))) = w18 at n0_ n1_ ⊢
                have HO378 := n0_
                have HB := n1_
                clear n0_ n1_
                have q19 : (1 : Int) ≤ ((l1.length : Int) : Int) := of_decide_eq_true (by first | (with_reducible assumption) | assumption)
                obtain ⟨i019, hi019, _, hsz19, _⟩ := info_parts info58
                have hroom19 : l1.length ≤ c1 := HC1.out
                have hC19 : Kd.C k58 _ (some ad380) l1.length l1 := HR1.out
                have hcut19 := cut_from (P := Try.prog) 27 58 .i64 Try.underlying27 hi019 2 hsz19 (some ad380) l1.length c1 1 (by omega) q19
                have hr19 := Kd.C_drop (m := (1 : Int).toNat) (c := c1) hC19 (by omega) hroom19
                obtain ⟨A19, hA19⟩ : ∃ Az_, Az_ = (if c1 = (1 : Int).toNat then (some ad380) else ((some ad380) : Option Addr).map (·.add ((1 : Int).toNat * 2))) := ⟨_, rfl⟩
                obtain ⟨c19, hc19⟩ : ∃ cz_, cz_ = c1 - (1 : Int).toNat := ⟨_, rfl⟩
                have hy19 : y382.length = l1.length - (1 : Int).toNat := (by rw [Ny382.out, List.length_drop] <;> omega)
                rw [show (l1).drop (1 : Int).toNat = y382 from Ny382.out.symm] at hr19
                replace hr19 : Kd.C k58 _ A19 y382.length y382 := (by rw [hA19]; exact hr19)
                rw [← hy19, ← hA19, ← hc19] at hcut19
                have HR385 := Aside0.mk hr19
                have HC385 := Aside0.mk (show y382.length ≤ c19 from by rw [hy19, hc19]; exact Nat.sub_le_sub_right hroom19 _)
                clear hr19 hC19 hroom19 hi019 hsz19 hc19
                have KY19 := Aside0.mk hy19
                have KA19 := Aside0.mk hA19
                clear hy19 hA19
                replace q19 := eq_true q19
                try go_wp2_with (first | ((with_reducible refine gate_builtin (b := .append) (xs := #[.tmp 27, .tmp 29]) rfl ?_); at_builtin; refine Kd.R_append_rows k58 (w0 := w) w.heap.size rfl (.tmp 27) (.tmp 29) 27 58 (.agg #[(.int .i64 0), (.string ⟨#[]⟩)]) 24 rfl Try.underlying27 info58 rfl (by decide) (by omega) (.slice (some ⟨go9, 0, none⟩) y376.length co15) y381 y382 _ _ _ (fun _ => True) (fun _ => False) rfl rfl ?aO ?aR (fun _ _ h => h) (fun _ h => h.elim) ?aF ?aB ?aS ?aL ?_; (case aR => repeat (first | exact (Kd.C_below HR385.out HB.out) | (with_reducible refine Kd.C_alloc ?_ _) | (with_reducible refine Kd.C_drewN ?_ _) | (with_reducible refine Kd.C_drew ?_))); (case aB => exact (by repeat (first | (with_reducible first | exact HB.out | apply below_alloc | apply pw_below_drewN | apply below_drew1) | exact HB.out))); (case aF => exact (fun _ _ => trivial)); (case aO => exact (by (with_reducible repeat (first | apply Kd.R_alloc | apply Kd.R_drewN | apply Kd.R_drew)); exact HO378.out)); (case aS => exact (below_size (by repeat (first | (with_reducible first | exact HB.out | apply below_alloc | apply pw_below_drewN | apply below_drew1) | exact HB.out)))); (case aL => have := LMc11.out; omega); intro v387 w20 ho hb hg hat; rw [← Ny386.out] at ho; have n0_ := Aside0.mk (hb); have n1_ := Aside0.mk (ho); clear HB; clear HO378; have HB := n0_; have HO388 := n1_; clear n0_ n1_; clear ho hb hg hat))
                go_ret
                exact ⟨_, by first | rfl | (simp [errW_none, errW_some] <;> rfl) | (simp only [← hji4]; first | rfl | (simp [errW_none, errW_some] <;> rfl)) | (simp [*, errW_none, errW_some] <;> rfl), by (with_reducible repeat (first | apply Kd.R_alloc | apply Kd.R_drewN | apply Kd.R_drew)); exact HO388.out, by repeat (first | (with_reducible first | exact HB.out | apply below_alloc | apply pw_below_drewN | apply below_drew1) | exact HB.out)⟩
              · rw [if_neg c11] at H
                exact absurd H (by simp)
            · rw [if_neg c10] at H
              exact absurd H (by simp)
          · rw [if_neg c8] at H
            exact absurd H (by simp)
        · rw [if_neg c7] at H
          exact absurd H (by simp)
      · rw [if_neg c6] at H
        exact absurd H (by simp)
    · rw [if_neg c5] at H
      exact absurd H (by simp)
  · rw [if_neg c3] at H
    exact absurd H (by simp)

end Go.Proofs.Ytbijachmecgpgaa.P
