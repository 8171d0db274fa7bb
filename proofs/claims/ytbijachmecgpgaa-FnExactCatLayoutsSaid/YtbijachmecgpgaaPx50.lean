/- CONTRACTS: each theorem here says that a Go function of the program, called over the translation under the theorem's own hypotheses, returns what the Lean function beside it computes. Written by the session's program xprint.py. -/
import Derived.Test.YtbijachmecgpgaaPx0
import Derived.Test.YtbijachmecgpgaaPx49
namespace Go.Proofs.Ytbijachmecgpgaa.P
open Go.RowKit Go.Proofs.YtbijachmecgpgaaW.PrintWords Go.Proofs.YtbijachmecgpgaaW.PrintLast Go.Proofs.YtbijachmecgpgaaW.PrintMore
attribute [local go_sem] max2_int min2_int max_two min_two max_three min_three max_four min_four   -- for this text's walks alone
set_option linter.unusedVariables false
set_option linter.unusedSimpArgs false

/-! ### impl_catRows: function 60 -/
def impl_catRows.f (l0 : List (SRow)) (l1 : List (SRow)) : Option ((List (SRow))) := (slices_Clone_Llimpl_Row.f l0).bind fun t401 => (if 1 ≤ (l1.length : Int) then ((some (l1.drop 1 : List (SRow))).bind fun y404 => (if t401.length + y404.length < 5864062014805 then ((some (t401 ++ y404 : List (SRow))).bind fun y408 => (if 0 ≤ (wrap64 ((l0.length : Int) - 1)) then (if (wrap64 ((l0.length : Int) - 1)) < (y408.length : Int) then (if 0 < (l1.length : Int) then (if ((rd_TRow y408 (wrap64 ((l0.length : Int) - 1))).f1).size + ((rd_TRow l1 0).f1).size ≤ 9223372036854775807 then (some (y408.set ((wrap64 ((l0.length : Int) - 1)) : Int).toNat (⟨(rd_TRow y408 (wrap64 ((l0.length : Int) - 1))).f0, ((rd_TRow y408 (wrap64 ((l0.length : Int) - 1))).f1) ++ ((rd_TRow l1 0).f1)⟩ : SRow))) else (none)) else (none)) else (none)) else (none))) else (none))) else (none))
def impl_catRows.T2 : Bool × List (List Nat × List Nat) := (true, [([], []), ([], []), ([1], [1]), ([2], [2]), ([0, 3], [0, 3]), ([4], [4]), ([5], [5]), ([], []), ([7], [7]), ([8], [8]), ([9], [9]), ([6, 10], [6, 10]), ([0, 3, 0, 1, 2, 3, 4, 5, 6, 7, 8, 9, 10, 11], [0, 3]), ([12, 0, 1, 2, 3, 4, 5, 6, 7, 8, 9, 10, 11], [12]), ([13, 11, 0, 1, 2, 3, 4, 5, 6, 7, 8, 9, 10, 11], [11, 13])])
def impl_catRows.B2 : List Nat := [0, 0, 2, 6, 15, 31, 63, 0, 128, 384, 896, 2047, 4095, 8191, 16383]
theorem impl_catRows.tab2 : rtab .any (opsOf Try.f60 2) = impl_catRows.T2 := by kernel_rfl
theorem impl_catRows.bits2 : waitsOk impl_catRows.T2.2 impl_catRows.B2 = true := by kernel_rfl
set_option maxHeartbeats 8000000 in
set_option maxRecDepth 100000 in
theorem impl_catRows.calls (A0 : Option Addr) (c0 : Nat) (l0 : List (SRow)) (A1 : Option Addr) (c1 : Nat) (l1 : List (SRow)) (r : List (SRow)) (w : World) (hr0 : Kd.C k58 w A0 l0.length l0) (hc0 : l0.length ≤ c0) (hr1 : Kd.C k58 w A1 l1.length l1) (hc1 : l1.length ≤ c1) (h : impl_catRows.f l0 l1 = some r) :
    Calls Try.prog 60 #[.slice A0 l0.length c0, .slice A1 l1.length c1] w fun e w' => ∃ v0_ : Value, e = .returned (v0_) ∧ Kd.R k58 58 w' w.heap.size (fun _ => True) v0_ r ∧ Below w.heap.size w w' := by
  have HR0 := Aside0.mk hr0
  have HC0 := Aside0.mk hc0
  clear hr0 hc0
  have HR1 := Aside0.mk hr1
  have HC1 := Aside0.mk hc1
  clear hr1 hc1
  have HB := Aside0.mk (Below.refl w.heap.size w)
  have H : ((slices_Clone_Llimpl_Row.f l0).bind fun t401 => (if 1 ≤ (l1.length : Int) then ((some (l1.drop 1 : List (SRow))).bind fun y404 => (if t401.length + y404.length < 5864062014805 then ((some (t401 ++ y404 : List (SRow))).bind fun y408 => (if 0 ≤ (wrap64 ((l0.length : Int) - 1)) then (if (wrap64 ((l0.length : Int) - 1)) < (y408.length : Int) then (if 0 < (l1.length : Int) then (if ((rd_TRow y408 (wrap64 ((l0.length : Int) - 1))).f1).size + ((rd_TRow l1 0).f1).size ≤ 9223372036854775807 then (some (y408.set ((wrap64 ((l0.length : Int) - 1)) : Int).toNat (⟨(rd_TRow y408 (wrap64 ((l0.length : Int) - 1))).f0, ((rd_TRow y408 (wrap64 ((l0.length : Int) - 1))).f1) ++ ((rd_TRow l1 0).f1)⟩ : SRow))) else (none)) else (none)) else (none)) else (none))) else (none))) else (none))) = some r := h
  clear h
  replace H := Option.bind_eq_some_iff.mp H
  obtain ⟨t401, A30, H⟩ := H
  replace H : (if 1 ≤ (l1.length : Int) then ((some (l1.drop 1 : List (SRow))).bind fun y404 => (if t401.length + y404.length < 5864062014805 then ((some (t401 ++ y404 : List (SRow))).bind fun y408 => (if 0 ≤ (wrap64 ((l0.length : Int) - 1)) then (if (wrap64 ((l0.length : Int) - 1)) < (y408.length : Int) then (if 0 < (l1.length : Int) then (if ((rd_TRow y408 (wrap64 ((l0.length : Int) - 1))).f1).size + ((rd_TRow l1 0).f1).size ≤ 9223372036854775807 then (some (y408.set ((wrap64 ((l0.length : Int) - 1)) : Int).toNat (⟨(rd_TRow y408 (wrap64 ((l0.length : Int) - 1))).f0, ((rd_TRow y408 (wrap64 ((l0.length : Int) - 1))).f1) ++ ((rd_TRow l1 0).f1)⟩ : SRow))) else (none)) else (none)) else (none)) else (none))) else (none))) else (none)) = some r := H
  have A3 := Aside0.mk A30
  clear A30
  by_cases c4 : 1 ≤ (l1.length : Int)
  · rw [if_pos c4] at H
    have c4b0 := eq_true c4
    have c4b1 : decide (1 ≤ (l1.length : Int)) = true := decide_eq_true c4
    clear c4
    obtain ⟨y404, hy404⟩ : ∃ y_ : List (SRow), y_ = (l1.drop 1) := ⟨_, rfl⟩
    replace H : (if t401.length + y404.length < 5864062014805 then ((some (t401 ++ y404 : List (SRow))).bind fun y408 => (if 0 ≤ (wrap64 ((l0.length : Int) - 1)) then (if (wrap64 ((l0.length : Int) - 1)) < (y408.length : Int) then (if 0 < (l1.length : Int) then (if ((rd_TRow y408 (wrap64 ((l0.length : Int) - 1))).f1).size + ((rd_TRow l1 0).f1).size ≤ 9223372036854775807 then (some (y408.set ((wrap64 ((l0.length : Int) - 1)) : Int).toNat (⟨(rd_TRow y408 (wrap64 ((l0.length : Int) - 1))).f0, ((rd_TRow y408 (wrap64 ((l0.length : Int) - 1))).f1) ++ ((rd_TRow l1 0).f1)⟩ : SRow))) else (none)) else (none)) else (none)) else (none))) else (none)) = some r := by first | (rw [hy404]; with_reducible exact H) | (have H2_ := (Option.bind_some _ _).symm.trans H; rw [hy404]; with_reducible exact H2_) | (have H2_ := (Option.bind_some _ _).symm.trans H; with_reducible exact H2_) | with_reducible exact H | (rw [hy404]; exact H) | exact H
    have Ny404 := Aside0.mk hy404
    clear hy404
    by_cases c5 : t401.length + y404.length < 5864062014805
    · rw [if_pos c5] at H
      have LMc5 := Aside0.mk c5
      clear c5
      obtain ⟨y408, hy408⟩ : ∃ y_ : List (SRow), y_ = (t401 ++ y404) := ⟨_, rfl⟩
      replace H : (if 0 ≤ (wrap64 ((l0.length : Int) - 1)) then (if (wrap64 ((l0.length : Int) - 1)) < (y408.length : Int) then (if 0 < (l1.length : Int) then (if ((rd_TRow y408 (wrap64 ((l0.length : Int) - 1))).f1).size + ((rd_TRow l1 0).f1).size ≤ 9223372036854775807 then (some (y408.set ((wrap64 ((l0.length : Int) - 1)) : Int).toNat (⟨(rd_TRow y408 (wrap64 ((l0.length : Int) - 1))).f0, ((rd_TRow y408 (wrap64 ((l0.length : Int) - 1))).f1) ++ ((rd_TRow l1 0).f1)⟩ : SRow))) else (none)) else (none)) else (none)) else (none)) = some r := by first | (rw [hy408]; with_reducible exact H) | (have H2_ := (Option.bind_some _ _).symm.trans H; rw [hy408]; with_reducible exact H2_) | (have H2_ := (Option.bind_some _ _).symm.trans H; with_reducible exact H2_) | with_reducible exact H | (rw [hy408]; exact H) | exact H
      have Ny408 := Aside0.mk hy408
      clear hy408
      obtain ⟨ji6, hji6⟩ : ∃ j_ : Int, (wrap64 ((l0.length : Int) - 1)) = j_ := ⟨_, rfl⟩
      replace H : (if 0 ≤ (ji6) then (if (ji6) < (y408.length : Int) then (if 0 < (l1.length : Int) then (if ((rd_TRow y408 (ji6)).f1).size + ((rd_TRow l1 0).f1).size ≤ 9223372036854775807 then (some (y408.set ((ji6) : Int).toNat (⟨(rd_TRow y408 (ji6)).f0, ((rd_TRow y408 (ji6)).f1) ++ ((rd_TRow l1 0).f1)⟩ : SRow))) else (none)) else (none)) else (none)) else (none)) = some r := by first | (rw [hji6] at H; exact H) | (simp only [hji6] at H ⊢; exact H)
      (try rw [hji6] at A3)
      have hji6w : (IntKind.i64.wrap ((l0.length : Int) - 1)) = ji6 := (i64_w _).trans hji6
      by_cases c7 : 0 ≤ (ji6)
      · rw [if_pos c7] at H
        have c7b0 : decide (0 ≤ (ji6)) = true := decide_eq_true c7
        clear c7
        by_cases c8 : (ji6) < (y408.length : Int)
        · rw [if_pos c8] at H
          have c8b0 : decide ((ji6) < (y408.length : Int)) = true := decide_eq_true c8
          clear c8
          by_cases c9 : 0 < (l1.length : Int)
          · rw [if_pos c9] at H
            have c9b0 : decide (0 < (l1.length : Int)) = true := decide_eq_true c9
            have c9b1 : decide (0 < l1.length) = true := decide_eq_true (by omega)
            clear c9
            by_cases c10 : ((rd_TRow y408 (ji6)).f1).size + ((rd_TRow l1 0).f1).size ≤ 9223372036854775807
            · rw [if_pos c10] at H
              have c10b0 := eq_true c10
              have c10b1 : decide (((rd_TRow y408 (ji6)).f1).size + ((rd_TRow l1 0).f1).size ≤ 9223372036854775807) = true := decide_eq_true c10
              try have c10b2 : (9223372036854775807 < ((rd_TRow y408 (ji6)).f1).size + ((rd_TRow l1 0).f1).size) = False := eq_false (Nat.not_lt.2 c10)
              obtain ⟨y413, hy413⟩ : ∃ y_ : List (SRow), y_ = (y408.set ((ji6) : Int).toNat (⟨(rd_TRow y408 (ji6)).f0, ((rd_TRow y408 (ji6)).f1) ++ ((rd_TRow l1 0).f1)⟩ : SRow)) := ⟨_, rfl⟩
              replace H : (some y413) = some r := by first | (rw [hy413]; with_reducible exact H) | (have H2_ := (Option.bind_some _ _).symm.trans H; rw [hy413]; with_reducible exact H2_) | (have H2_ := (Option.bind_some _ _).symm.trans H; with_reducible exact H2_) | with_reducible exact H | (rw [hy413]; exact H) | exact H
              have Ny413 := Aside0.mk hy413
              clear hy413
              obtain rfl := Option.some.inj H
              go_enter Try.func60, Try.ntmps60
              try go_wp2
              have n0_ := Aside0.mk (below_drew1 HB.out)
              clear HB
              have HB := n0_
              clear n0_
              have q13 : (1 : Int) ≤ ((l1.length : Int) : Int) := of_decide_eq_true (by first | (with_reducible assumption) | assumption)
              obtain ⟨i013, hi013, _, hsz13, _⟩ := info_parts info58
              have hroom13 : l1.length ≤ c1 := HC1.out
              have hC13 : Kd.C k58 _ A1 l1.length l1 := HR1.out
              have hcut13 := cut_from (P := Try.prog) 27 58 .i64 Try.underlying27 hi013 2 hsz13 A1 l1.length c1 1 (by omega) q13
              have hr13 := Kd.C_drop (m := (1 : Int).toNat) (c := c1) hC13 (by omega) hroom13
              obtain ⟨A13, hA13⟩ : ∃ Az_, Az_ = (if c1 = (1 : Int).toNat then A1 else (A1 : Option Addr).map (·.add ((1 : Int).toNat * 2))) := ⟨_, rfl⟩
              obtain ⟨c13, hc13⟩ : ∃ cz_, cz_ = c1 - (1 : Int).toNat := ⟨_, rfl⟩
              have hy13 : y404.length = l1.length - (1 : Int).toNat := (by rw [Ny404.out, List.length_drop] <;> omega)
              rw [show (l1).drop (1 : Int).toNat = y404 from Ny404.out.symm] at hr13
              replace hr13 : Kd.C k58 _ A13 y404.length y404 := (by rw [hA13]; exact hr13)
              rw [← hy13, ← hA13, ← hc13] at hcut13
              have HR407 := Aside0.mk hr13
              have HC407 := Aside0.mk (show y404.length ≤ c13 from by rw [hy13, hc13]; exact Nat.sub_le_sub_right hroom13 _)
              clear hr13 hC13 hroom13 hi013 hsz13 hc13
              have KY13 := Aside0.mk hy13
              have KA13 := Aside0.mk hA13
              clear hy13 hA13
              replace q13 := eq_true q13
              refine start_ (n := 6) (S := fun w' => True) (ds := []) #[false, false, false, false, false, false] (by kernel_rfl) rfl rfl trivial (fun hHeld => ?_)
              generalize w.drew = w12 at HB HR407 hHeld ⊢
              refine pure_ (i := 0) (N := some 6) (v := ?_) (a' := ?_) #[true, false, false, false, false, false] rfl rfl (by kernel_rfl) (fun _ _ _ h => h) (Or.inl ⟨by rfl, ?_⟩) ?_ ?_
              rotate_left
              · intro w'
                go_simp
                with_reducible rfl
              rotate_left
              · simp only [Act.put, List.setIfInBounds_toArray, List.set_cons_zero, List.set_cons_succ, i64_w, i32_w]
                rfl
              refine pure_ (i := 2) (N := some 8) (v := ?_) (a' := ?_) #[true, false, true, false, false, false] rfl rfl (by kernel_rfl) (fun _ _ _ h => h) (Or.inl ⟨by rfl, ?_⟩) ?_ ?_
              rotate_left
              · intro w'
                go_simp
                with_reducible rfl
              rotate_left
              · simp only [Act.put, List.setIfInBounds_toArray, List.set_cons_zero, List.set_cons_succ, i64_w, i32_w]
                rfl
              refine pure_ (i := 3) (N := some 9) (v := ?_) (a' := ?_) #[true, false, true, true, false, false] rfl rfl (by kernel_rfl) (fun _ _ _ h => h) (Or.inl ⟨by rfl, ?_⟩) ?_ ?_
              rotate_left
              · intro w'
                go_simp
                with_reducible rfl
              rotate_left
              · simp only [Act.put, List.setIfInBounds_toArray, List.set_cons_zero, List.set_cons_succ, i64_w, i32_w]
                rfl
              refine one_ (i := 1) (N := some 7) #[true, true, true, true, false, false] rfl rfl (by kernel_rfl) (by decide) (fun K hK => ?_)
              refine goes_ Try.func69 (by kernel_rfl) rfl #[.slice A0 l0.length c0] (by rfl) rfl rfl (by (try simp only [List.map_toArray, List.map_cons, List.map_nil]); first | done | rfl | (simp only [List.length_drop, List.length_take]; rfl)) ?_
              with_reducible refine (slices_Clone_Llimpl_Row.calls _ _ l0 t401 _ ?side1 ?side2 A3.out).mono ?_
              (case side1 => repeat (first | exact (Kd.C_below HR0.out HB.out) | (with_reducible refine Kd.C_alloc ?_ _) | (with_reducible refine Kd.C_drewN ?_ _) | (with_reducible refine Kd.C_drew ?_)))
              (case side2 => exact HC0.out)
              rintro e w14 ⟨v402, rfl, ho0, hb⟩
              refine ⟨_, rfl, ?_⟩
              have n0_ := Aside0.mk (Kd.R_lower ho0 (below_size (by repeat (first | (with_reducible first | exact HB.out | apply below_alloc | apply pw_below_drewN | apply below_drew1) | exact HB.out))))
              have n1_ := Aside0.mk (below_step (by repeat (first | (with_reducible first | exact HB.out | apply below_alloc | apply pw_below_drewN | apply below_drew1) | exact HB.out)) hb)
              clear HB
              have HO403 := n0_
              have HB := n1_
              clear n0_ n1_
              (try clear hb)
              (try clear hb2)
              (try clear hk)
              (try clear hi)
              (try clear ho0)
              refine hK.out _ _ trivial (fun hHeld => ?_)
              clear hK K
              refine norm_ (a' := ?_) ?_ ?_
              rotate_left
              · show Act.put _ (some 7) _ = _
                simp only [Act.put, List.setIfInBounds_toArray, List.set_cons_zero, List.set_cons_succ, i64_w, i32_w]
                rfl
              refine one_ (i := 4) (N := some 10) #[true, true, true, true, true, false] rfl rfl (by kernel_rfl) (by decide) (fun K hK => ?_)
              refine Kd.R_append_rows_step k58 (w0 := w) w.heap.size (by rfl) (.tmp 7) (.tmp 9) 27 58 (.agg #[(.int .i64 0), (.string ⟨#[]⟩)]) 24 rfl Try.underlying27 info58 rfl (by decide) (by omega) v402 t401 y404 _ _ _ (fun _ => True) (fun _ => False) rfl rfl ?aO ?aR (fun _ _ h => h) (fun _ h => h.elim) ?aF ?aB ?aS ?aL ?_
              (case aR => repeat (first | exact (Kd.C_below HR407.out HB.out) | (with_reducible refine Kd.C_alloc ?_ _) | (with_reducible refine Kd.C_drewN ?_ _) | (with_reducible refine Kd.C_drew ?_)))
              (case aB => exact (by repeat (first | (with_reducible first | exact HB.out | apply below_alloc | apply pw_below_drewN | apply below_drew1) | exact HB.out)))
              (case aF => exact (fun _ _ => trivial))
              (case aO => exact (by (with_reducible repeat (first | apply Kd.R_alloc | apply Kd.R_drewN | apply Kd.R_drew)); exact HO403.out))
              (case aS => exact (below_size (by repeat (first | (with_reducible first | exact HB.out | apply below_alloc | apply pw_below_drewN | apply below_drew1) | exact HB.out))))
              (case aL => have := LMc5.out; omega)
              intro v409 w15 ho hb hg hat
              rw [← Ny408.out] at ho
              have n0_ := Aside0.mk (hb)
              have n1_ := Aside0.mk (ho)
              clear HB
              clear HO403
              have HB := n0_
              have HO410 := n1_
              clear n0_ n1_
              clear ho hb hg hat
              refine hK.out _ _ trivial (fun hHeld => ?_)
              clear hK K
              refine norm_ (a' := ?_) ?_ ?_
              rotate_left
              · show Act.put _ (some 10) _ = _
                simp only [Act.put, List.setIfInBounds_toArray, List.set_cons_zero, List.set_cons_succ, i64_w, i32_w]
                rfl
              refine pure_ (i := 5) (N := some 5) (v := ?_) (a' := ?_) #[true, true, true, true, true, true] rfl rfl (by kernel_rfl) (fun _ _ _ h => h) (Or.inl ⟨by rfl, ?_⟩) ?_ ?_
              rotate_left
              · intro w'
                go_simp
                with_reducible rfl
              rotate_left
              · simp only [Act.put, List.setIfInBounds_toArray, List.set_cons_zero, List.set_cons_succ, i64_w, i32_w]
                rfl
              refine done_ (by kernel_rfl) ?_
              try go_wp2
              have n0_ := Aside0.mk (Kd.R_drew HO410.out)
              have n1_ := Aside0.mk (below_drew1 HB.out)
              clear HO410
              clear HB
              have HO410 := n0_
              have HB := n1_
              clear n0_ n1_
              obtain ⟨Ao17, co17, eo17⟩ := Kd.R_slice HO410.out
              (first | subst eo17 | (injection eo17 with f1_ f2_ f3_; have f4_ := f1_.symm; have f5_ := f3_.symm; clear f1_ f2_ f3_; subst f4_; subst f5_))
              have p411 : 0 ≤ ((ji6) : Int) := of_decide_eq_true (by first | (with_reducible assumption) | assumption)
              have q411 : (ji6) < (y408.length : Int) := of_decide_eq_true (by first | (with_reducible assumption) | assumption)
              obtain ⟨ad411, e411, hx411_0, hx411_1⟩ := at_TRow (Kd.R_reads' HO410.out).2.2 (ji6) p411 q411
              cases e411
              replace p411 := eq_true p411
              replace q411 := eq_true q411
              have p412 : 0 ≤ (0 : Int) := (by omega)
              have q412 : 0 < (l1.length : Int) := of_decide_eq_true (by first | (with_reducible assumption) | assumption)
              obtain ⟨ad412, e412, hx412_0, hx412_1⟩ := at_TRow HR1.out 0 p412 q412
              have hw412_1 := hx412_1
              (try rw [show ((0 : Int)).toNat = 0 from rfl] at hw412_1)
              (try rw [show 0 * 2 = 0 from rfl] at hw412_1)
              (try rw [Addr.add_zero'] at hw412_1)
              have hw412_0 := hx412_0
              (try rw [show ((0 : Int)).toNat = 0 from rfl] at hw412_0)
              (try rw [show 0 * 2 = 0 from rfl] at hw412_0)
              (try rw [Addr.add_zero'] at hw412_0)
              cases e412
              have qi412 : (0 < l1.length) = True := eq_true (by omega)
              (try rw [show ((0 : Int)).toNat = 0 from rfl] at hx412_0)
              (try rw [show 0 * 2 = 0 from rfl] at hx412_0)
              (try rw [Addr.add_zero'] at hx412_0)
              (try rw [show ((0 : Int)).toNat = 0 from rfl] at hx412_1)
              (try rw [show 0 * 2 = 0 from rfl] at hx412_1)
              (try rw [Addr.add_zero'] at hx412_1)
              replace hx412_0 := (HB.out.cell (World.block_lt_of_cell? w _ hx412_0)).trans hx412_0
              replace hx412_1 := (HB.out.cell (World.block_lt_of_cell? w _ hx412_1)).trans hx412_1
              replace p412 := eq_true p412
              replace q412 := eq_true q412
              have p11 : 0 ≤ ((ji6) : Int) := of_decide_eq_true (by first | (with_reducible assumption) | assumption)
              have q11 : ((ji6) : Int) < ((y408.length : Int) : Int) := of_decide_eq_true (by first | (with_reducible assumption) | assumption)
              obtain ⟨go11, co11, eo11, gb11, gl11, cl11, HG11⟩ := Kd.R_form HO410.out (by omega)
              (first | cases eo11 | (injection eo11 with ea_ en_ ec_; (first | subst ea_ | (injection ea_ with ea_; subst ea_)); subst ec_; clear en_))
              have GB11 := Aside0.mk gb11
              have GG11 := Aside0.mk HG11
              clear gb11 gl11 HG11
              (first | simp only [add_plain] at hx411_0 | skip)
              (first | simp only [add_plain] at hx411_1 | skip)
              obtain ⟨ce11, hcl11, hM11, hcc11, hfr11⟩ := Kd.R_elem HO410.out zRow ((ji6) : Int) p11 q11
              obtain rfl := k58_openM hM11
              have hx11_0 : World.cell? _ ⟨go11, ((ji6) : Int).toNat * 2, none⟩ = some (.int .i64 ((rd_TRow y408 (ji6)).f0)) := hcc11 0 _ rfl
              have hx11_1 : World.cell? _ ⟨go11, ((ji6) : Int).toNat * 2 + 1, none⟩ = some (.string ((rd_TRow y408 (ji6)).f1)) := hcc11 1 _ rfl
              have hf11_0 : World.frozen? _ ⟨go11, ((ji6) : Int).toNat * 2, none⟩ = false := hfr11 0
              have hf11_1 : World.frozen? _ ⟨go11, ((ji6) : Int).toNat * 2 + 1, none⟩ = false := hfr11 1
              clear hcl11 hcc11 hfr11 hM11
              replace p11 := eq_true p11
              replace q11 := eq_true q11
              obtain ⟨ce18, hcl18, hM18, hcc18, hfr18⟩ := Kd.R_elem HO410.out zRow ((ji6) : Int) (of_decide_eq_true (by first | (with_reducible assumption) | assumption)) (by have h_ : ((ji6) : Int) < ((y408.length : Int) : Int) := of_decide_eq_true (by first | (with_reducible assumption) | assumption); first | exact h_ | (have e_ := (Kd.R_reads' HO410.out).1; omega) | simpa using h_)
              obtain rfl := k58_openM hM18
              have HP18 := (Kd.R_seg HO410.out ((ji6) : Int) (of_decide_eq_true (by first | (with_reducible assumption) | assumption)) (by have h_ : ((ji6) : Int) < ((y408.length : Int) : Int) := of_decide_eq_true (by first | (with_reducible assumption) | assumption); first | exact h_ | (have e_ := (Kd.R_reads' HO410.out).1; omega) | simpa using h_) (seg := [.string (((rd_TRow y408 (ji6)).f1) ++ ((rd_TRow l1 0).f1))]) (j := 1) hcl18 hcc18 (show 2 ≤ 2 from by decide) (x' := (⟨(rd_TRow y408 (ji6)).f0, ((rd_TRow y408 (ji6)).f1) ++ ((rd_TRow l1 0).f1)⟩ : SRow)) (k58_mkM _ _ _ (⟨(rd_TRow y408 (ji6)).f0, ((rd_TRow y408 (ji6)).f1) ++ ((rd_TRow l1 0).f1)⟩ : SRow) ) (fun _ hk => hk)).1
              rw [← Ny413.out] at HP18
              have HQ18 := Aside0.mk HP18
              clear hcl18 hcc18 hfr18 hM18 HP18
              refine start_ (n := 15) (S := fun w' => w'.cell? ⟨go11, ((ji6)).toNat * 2, none⟩ = some (.int .i64 ((rd_TRow y408 (ji6)).f0)) ∧ w'.cell? ⟨go11, ((ji6)).toNat * 2 + 1, none⟩ = some (.string ((rd_TRow y408 (ji6)).f1)) ∧ w'.cell? ad412 = some (.int .i64 ((rd_TRow l1 0).f0)) ∧ w'.cell? ⟨ad412.block, ad412.off + 1, none⟩ = some (.string ((rd_TRow l1 0).f1))) (ds := [14]) #[false, false, false, false, false, false, false, false, false, false, false, false, false, false, false] (by kernel_rfl) rfl rfl ⟨hx411_0, hx411_1, ((HB.out.cell (World.block_lt_of_cell? w _ hw412_0)).trans hw412_0), ((HB.out.cell (World.block_lt_of_cell? w _ hw412_1)).trans hw412_1)⟩ (fun hHeld => ?_); refine with_tabW impl_catRows.tab2 impl_catRows.bits2 (fun HT_ HW_ => ?_)
              generalize w15.drew = w16 at HO410 HB GG11 HQ18 hf11_0 hf11_1 hx11_0 hx11_1 hx411_0 hx411_1 hx412_0 hx412_1 hHeld ⊢
              refine pure_ (i := 0) (N := some 11) (v := ?_) (a' := ?_) #[true, false, false, false, false, false, false, false, false, false, false, false, false, false, false] rfl rfl (any_of HT_.out (by kernel_rfl)) (fun _ _ _ h => h) (Or.inl ⟨by rfl, ?_⟩) ?_ ?_
              rotate_left
              · intro w'
                go_simp
                with_reducible rfl
              rotate_left
              · simp only [Act.put, List.setIfInBounds_toArray, List.set_cons_zero, List.set_cons_succ, i64_w, i32_w]
                rfl
              refine pure_ (i := 1) (N := some 12) (v := ?_) (a' := ?_) #[true, true, false, false, false, false, false, false, false, false, false, false, false, false, false] rfl rfl (any_of HT_.out (by kernel_rfl)) (fun _ _ _ h => h) (Or.inl ⟨by rfl, ?_⟩) ?_ ?_
              rotate_left
              · intro w'
                go_simp
                with_reducible rfl
              rotate_left
              · simp only [Act.put, List.setIfInBounds_toArray, List.set_cons_zero, List.set_cons_succ, i64_w, i32_w]
                rfl
              refine pure_ (i := 2) (N := some 13) (v := ?_) (a' := ?_) #[true, true, true, false, false, false, false, false, false, false, false, false, false, false, false] rfl rfl (any_of HT_.out (by kernel_rfl)) (fun _ _ _ h => h) (Or.inl ⟨by rfl, ?_⟩) ?_ ?_
              rotate_left
              · intro w'
                go_simp
                with_reducible rfl
              rotate_left
              · simp only [Act.put, List.setIfInBounds_toArray, List.set_cons_zero, List.set_cons_succ, i64_w, i32_w]
                rfl
              refine pure_ (i := 3) (N := some 14) (v := ?_) (a' := ?_) #[true, true, true, true, false, false, false, false, false, false, false, false, false, false, false] rfl rfl (any_of HT_.out (by kernel_rfl)) (fun _ _ _ h => h) (Or.inl ⟨by rfl, ?_⟩) ?_ ?_
              rotate_left
              · intro w'
                go_simp
                with_reducible rfl
              rotate_left
              · simp only [Act.put, List.setIfInBounds_toArray, List.set_cons_zero, List.set_cons_succ, i64_w, i32_w]
                rfl
              refine pure_ (i := 4) (N := some 15) (v := ?_) (a' := ?_) #[true, true, true, true, true, false, false, false, false, false, false, false, false, false, false] rfl rfl (any_of HT_.out (by kernel_rfl)) (fun _ _ _ h => h) (Or.inl ⟨by rfl, ?_⟩) ?_ ?_
              rotate_left
              · intro w'
                go_simp
                with_reducible rfl
              rotate_left
              · simp only [Act.put, List.setIfInBounds_toArray, List.set_cons_zero, List.set_cons_succ, i64_w, i32_w]
                rfl
              refine pure_ (i := 5) (N := some 16) (v := ?_) (a' := ?_) #[true, true, true, true, true, true, false, false, false, false, false, false, false, false, false] rfl rfl (any_of HT_.out (by kernel_rfl)) (fun _ _ _ h => h) (Or.inl ⟨by rfl, ?_⟩) ?_ ?_
              rotate_left
              · intro w'
                go_simp
                with_reducible rfl
              rotate_left
              · simp only [Act.put, List.setIfInBounds_toArray, List.set_cons_zero, List.set_cons_succ, i64_w, i32_w]
                rfl
              refine pure_ (i := 7) (N := some 18) (v := ?_) (a' := ?_) #[true, true, true, true, true, true, false, true, false, false, false, false, false, false, false] rfl rfl (any_of HT_.out (by kernel_rfl)) (fun _ _ _ h => h) (Or.inl ⟨by rfl, ?_⟩) ?_ ?_
              rotate_left
              · intro w'
                go_simp
                with_reducible rfl
              rotate_left
              · simp only [Act.put, List.setIfInBounds_toArray, List.set_cons_zero, List.set_cons_succ, i64_w, i32_w]
                rfl
              refine pure_ (i := 8) (N := some 19) (v := ?_) (a' := ?_) #[true, true, true, true, true, true, false, true, true, false, false, false, false, false, false] rfl rfl (any_of HT_.out (by kernel_rfl)) (fun _ _ _ h => h) (Or.inl ⟨by rfl, ?_⟩) ?_ ?_
              rotate_left
              · intro w'
                go_simp
                with_reducible rfl
              rotate_left
              · simp only [Act.put, List.setIfInBounds_toArray, List.set_cons_zero, List.set_cons_succ, i64_w, i32_w]
                rfl
              refine pure_ (i := 9) (N := some 20) (v := ?_) (a' := ?_) #[true, true, true, true, true, true, false, true, true, true, false, false, false, false, false] rfl rfl (any_of HT_.out (by kernel_rfl)) (fun _ _ _ h => h) (Or.inl ⟨by rfl, ?_⟩) ?_ ?_
              rotate_left
              · intro w'
                go_simp
                with_reducible rfl
              rotate_left
              · simp only [Act.put, List.setIfInBounds_toArray, List.set_cons_zero, List.set_cons_succ, i64_w, i32_w]
                rfl
              refine take_ (i := 6) (N := some 17) (v := ?_) (a' := ?_) #[true, true, true, true, true, true, true, true, true, true, false, false, false, false, false] rfl rfl (take_ofW HT_.out HW_.out (by kernel_rfl)) (fun _ _ _ h => h) (Or.inl ⟨by rfl, ?_⟩) hHeld ?_ ?_
              rotate_left
              · rintro w' ⟨s0, s1, s2, s3⟩
                go_simp
                with_reducible rfl
              rotate_left
              · simp only [Act.put, List.setIfInBounds_toArray, List.set_cons_zero, List.set_cons_succ, i64_w, i32_w]
                rfl
              refine take_ (i := 10) (N := some 21) (v := ?_) (a' := ?_) #[true, true, true, true, true, true, true, true, true, true, true, false, false, false, false] rfl rfl (take_ofW HT_.out HW_.out (by kernel_rfl)) (fun _ _ _ h => h) (Or.inl ⟨by rfl, ?_⟩) hHeld ?_ ?_
              rotate_left
              · rintro w' ⟨s0, s1, s2, s3⟩
                go_simp
                with_reducible rfl
              rotate_left
              · simp only [Act.put, List.setIfInBounds_toArray, List.set_cons_zero, List.set_cons_succ, i64_w, i32_w]
                rfl
              refine pure_ (i := 11) (N := some 22) (v := ?_) (a' := ?_) #[true, true, true, true, true, true, true, true, true, true, true, true, false, false, false] rfl rfl (any_of HT_.out (by kernel_rfl)) (fun _ _ _ h => h) (Or.inl ⟨by rfl, ?_⟩) ?_ ?_
              rotate_left
              · intro w'
                go_simp
                with_reducible rfl
              rotate_left
              · simp only [Act.put, List.setIfInBounds_toArray, List.set_cons_zero, List.set_cons_succ, i64_w, i32_w]
                rfl
              refine pure_ (i := 12) (N := some 23) (v := ?_) (a' := ?_) #[true, true, true, true, true, true, true, true, true, true, true, true, true, false, false] rfl rfl (any_of HT_.out (by kernel_rfl)) (fun _ _ _ h => h) (Or.inl ⟨by rfl, ?_⟩) ?_ ?_
              rotate_left
              · intro w'
                go_simp
                with_reducible rfl
              rotate_left
              · simp only [Act.put, List.setIfInBounds_toArray, List.set_cons_zero, List.set_cons_succ, i64_w, i32_w]
                rfl
              refine pure_ (i := 13) (N := some 24) (v := ?_) (a' := ?_) #[true, true, true, true, true, true, true, true, true, true, true, true, true, true, false] rfl rfl (any_of HT_.out (by kernel_rfl)) (fun _ _ _ h => h) (Or.inl ⟨by rfl, ?_⟩) ?_ ?_
              rotate_left
              · intro w'
                go_simp
                with_reducible rfl
              rotate_left
              · simp only [Act.put, List.setIfInBounds_toArray, List.set_cons_zero, List.set_cons_succ, i64_w, i32_w]
                rfl
              refine last_ (i := 14) (N := none) #[true, true, true, true, true, true, true, true, true, true, true, true, true, true, true] rfl rfl (one_of HT_.out (by kernel_rfl)) (by decide) (fun K hK => ?_)
              refine skip_ (w1 := ?_) (by rfl) rfl ?_ ?_
              rotate_left
              · go_simp
                rfl
              refine hK.out _ _ ?_
              clear hK K
              refine done_ (done_of HT_.out (by kernel_rfl)) ?_
              try go_wp2
              go_ret
              exact ⟨_, by first | rfl | (simp [errW_none, errW_some] <;> rfl) | (simp only [← hji6]; first | rfl | (simp [errW_none, errW_some] <;> rfl)) | (simp [*, errW_none, errW_some] <;> rfl), by (with_reducible repeat (first | apply Kd.R_alloc | apply Kd.R_drewN | apply Kd.R_drew)); exact HQ18.out, by repeat (first | (with_reducible first | exact HB.out | apply below_alloc | apply pw_below_drewN | apply below_drew1 | refine below_set ?_ GB11.out) | exact HB.out)⟩
            · rw [if_neg c10] at H
              exact absurd H (by simp)
          · rw [if_neg c9] at H
            exact absurd H (by simp)
        · rw [if_neg c8] at H
          exact absurd H (by simp)
      · rw [if_neg c7] at H
        exact absurd H (by simp)
    · rw [if_neg c5] at H
      exact absurd H (by simp)
  · rw [if_neg c4] at H
    exact absurd H (by simp)

end Go.Proofs.Ytbijachmecgpgaa.P
