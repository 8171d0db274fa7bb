/- CONTRACTS and lemmas for the law FnNestLayout. -/
import Derived.Test.YtdhdfmmefghijabVLa9
namespace Go.Proofs.Ytdhdfmmefghijab.P
open Go.RowKit Go.Proofs.YtdhdfmmefghijabW.PrintWords Go.Proofs.YtdhdfmmefghijabW.PrintLast Go.Proofs.YtdhdfmmefghijabW.PrintMore
attribute [local go_sem] max2_int min2_int max_two min_two max_three min_three max_four min_four
set_option linter.unusedVariables false
set_option linter.unusedSimpArgs false
mutual
def laws_FnNestLayout.j0 : Nat → Int → List (SRow) → List (SRow) → Bool → List (SRow) → Bool → Bool → Option (Bool)
  | 0, _, _, _, _, _, _, _ => none
  | k + 1, x3, x4, x5, x6, x7, x8, x46 => if x46 = true then ((impl_LayoutSame.f k x5 x7).bind fun t627 => (if t627 = true then (some (x6 == x8)) else (none))) else ((impl_NestLayout.f k 1 x5).bind fun bt628 => ((impl_NestLayout.f k (wrap64 (x3 + 1)) x4).bind fun bt632 => (laws_FnNestLayout.l0 k x3 x4 x5 bt628.1 bt628.2 bt632.1 bt632.2 0)))
def laws_FnNestLayout.l0 : Nat → Int → List (SRow) → List (SRow) → List (SRow) → Bool → List (SRow) → Bool → Int → Option (Bool)
  | 0, _, _, _, _, _, _, _, _ => none
  | k + 1, x3, x4, x5, x9, x10, x11, x12, x13 => if x13 < (x5.length : Int) then (if 0 ≤ x13 then (if x13 < (x4.length : Int) then (if ((rd_TRow x5 x13).f1).toList = ((rd_TRow x4 x13).f1).toList then (if x13 > 0 then (laws_FnNestLayout.j2 k x3 x4 x5 x9 x10 x11 x12 x13 (((rd_TRow x5 x13).f0) != (wrap64 (((rd_TRow x4 x13).f0) + x3)))) else (laws_FnNestLayout.j2 k x3 x4 x5 x9 x10 x11 x12 x13 false)) else (laws_FnNestLayout.j2 k x3 x4 x5 x9 x10 x11 x12 x13 true)) else (none)) else (none)) else (if x10 = true then (if x12 = true then ((impl_LayoutSame.f k x9 x11).bind fun t640 => (some t640)) else (some true)) else (some true))
def laws_FnNestLayout.j2 : Nat → Int → List (SRow) → List (SRow) → List (SRow) → Bool → List (SRow) → Bool → Int → Bool → Option (Bool)
  | 0, _, _, _, _, _, _, _, _, _ => none
  | k + 1, x3, x4, x5, x9, x10, x11, x12, x13, x102 => if x102 = true then (none) else (laws_FnNestLayout.l0 k x3 x4 x5 x9 x10 x11 x12 (wrap64 (x13 + 1)))
end
def laws_FnNestLayout.f (k : Nat) (l0 : List Int) : Option (Bool) := if (l0.length : Int) > 1048576 then (some true) else ((spec_DrawNestLayout.f k l0).bind fun bt614 => ((impl_NestLayout.f k bt614.1 bt614.2).bind fun bt618 => ((spec_NestLayout.f k bt614.1 bt614.2).bind fun bt622 => ((impl_LayoutSame.f k bt618.1 bt622.1).bind fun t626 => (if t626 = true then (if (bt618.2 != bt622.2) = true then (laws_FnNestLayout.j0 k bt614.1 bt614.2 bt618.1 bt618.2 bt622.1 bt622.2 true) else (laws_FnNestLayout.j0 k bt614.1 bt614.2 bt618.1 bt618.2 bt622.1 bt622.2 (!bt618.2))) else (laws_FnNestLayout.j0 k bt614.1 bt614.2 bt618.1 bt618.2 bt622.1 bt622.2 true))))))
set_option maxHeartbeats 8000000 in
set_option maxRecDepth 100000 in
theorem laws_FnNestLayout.calls (k : Nat) (A0 : Option Addr) (c0 : Nat) (l0 : List Int) (r : Bool) (w : World) (hr0 : Kd.C (Kd.int .u8) w A0 l0.length l0) (hc0 : l0.length ≤ c0) (h : laws_FnNestLayout.f k l0 = some r) :
    Calls Try.prog 6 #[.slice A0 l0.length c0] w fun e w' => e = .returned (.bool r) ∧ Below w.heap.size w w' := by
  have HR0 := Aside0.mk hr0
  have HC0 := Aside0.mk hc0
  clear hr0 hc0
  have HB := Aside0.mk (Below.refl w.heap.size w)
  have H : (if (l0.length : Int) > 1048576 then (some true) else ((spec_DrawNestLayout.f k l0).bind fun bt614 => ((impl_NestLayout.f k bt614.1 bt614.2).bind fun bt618 => ((spec_NestLayout.f k bt614.1 bt614.2).bind fun bt622 => ((impl_LayoutSame.f k bt618.1 bt622.1).bind fun t626 => (if t626 = true then (if (bt618.2 != bt622.2) = true then (laws_FnNestLayout.j0 k bt614.1 bt614.2 bt618.1 bt618.2 bt622.1 bt622.2 true) else (laws_FnNestLayout.j0 k bt614.1 bt614.2 bt618.1 bt618.2 bt622.1 bt622.2 (!bt618.2))) else (laws_FnNestLayout.j0 k bt614.1 bt614.2 bt618.1 bt618.2 bt622.1 bt622.2 true))))))) = some r := h
  clear h
  by_cases c2 : (l0.length : Int) > 1048576
  · rw [if_pos c2] at H
    have c2b0 : decide (1048576 < (l0.length : Int)) = true := decide_eq_true c2
    have c2b1 : decide (1048576 < l0.length) = true := decide_eq_true (by omega)
    clear c2
    obtain rfl := Option.some.inj H
    go_enter Try.func6, Try.ntmps6
    go_wp2
    repeat (go_quiet (fail); try go_wp2)
    go_ret
    exact ⟨by first | rfl | (simp [errW_none, errW_some] <;> rfl) | (simp [*, errW_none, errW_some] <;> rfl), gB HB⟩
  · rw [if_neg c2] at H
    have c2b0 : decide (1048576 < (l0.length : Int)) = false := decide_eq_false c2
    have c2b1 : decide (1048576 < l0.length) = false := decide_eq_false (by omega)
    clear c2
    replace H := Option.bind_eq_some_iff.mp H
    obtain ⟨⟨t614, t615⟩, A30, H⟩ := H
    replace H : ((impl_NestLayout.f k t614 t615).bind fun bt618 => ((spec_NestLayout.f k t614 t615).bind fun bt622 => ((impl_LayoutSame.f k bt618.1 bt622.1).bind fun t626 => (if t626 = true then (if (bt618.2 != bt622.2) = true then (laws_FnNestLayout.j0 k t614 t615 bt618.1 bt618.2 bt622.1 bt622.2 true) else (laws_FnNestLayout.j0 k t614 t615 bt618.1 bt618.2 bt622.1 bt622.2 (!bt618.2))) else (laws_FnNestLayout.j0 k t614 t615 bt618.1 bt618.2 bt622.1 bt622.2 true))))) = some r := H
    have A3 := Aside0.mk A30
    clear A30
    replace H := Option.bind_eq_some_iff.mp H
    obtain ⟨⟨t618, t619⟩, A40, H⟩ := H
    replace H : ((spec_NestLayout.f k t614 t615).bind fun bt622 => ((impl_LayoutSame.f k t618 bt622.1).bind fun t626 => (if t626 = true then (if (t619 != bt622.2) = true then (laws_FnNestLayout.j0 k t614 t615 t618 t619 bt622.1 bt622.2 true) else (laws_FnNestLayout.j0 k t614 t615 t618 t619 bt622.1 bt622.2 (!t619))) else (laws_FnNestLayout.j0 k t614 t615 t618 t619 bt622.1 bt622.2 true)))) = some r := H
    have A4 := Aside0.mk A40
    clear A40
    replace H := Option.bind_eq_some_iff.mp H
    obtain ⟨⟨t622, t623⟩, A50, H⟩ := H
    replace H : ((impl_LayoutSame.f k t618 t622).bind fun t626 => (if t626 = true then (if (t619 != t623) = true then (laws_FnNestLayout.j0 k t614 t615 t618 t619 t622 t623 true) else (laws_FnNestLayout.j0 k t614 t615 t618 t619 t622 t623 (!t619))) else (laws_FnNestLayout.j0 k t614 t615 t618 t619 t622 t623 true))) = some r := H
    have A5 := Aside0.mk A50
    clear A50
    have HC6 := Aside0.mk H
    clear H
    go_enter Try.func6, Try.ntmps6
    go_upto_region 6 with (first | (go_at_call 20; (with_reducible refine (spec_DrawNestLayout.calls k _ _ l0 t614 t615 _ ?side1 ?side2 A3.out).mono ?_); (case side1 => repeat (first | exact HR0.out | (with_reducible refine Kd.C_alloc ?_ _) | (with_reducible refine Kd.C_drewN ?_ _) | (with_reducible refine Kd.C_drew ?_))); (case side2 => exact HC0.out); rintro e w7 ⟨v616, rfl, ho0, hb⟩; have n0_ := Aside0.mk (Kd.R_lower ho0 (below_size (gB HB))); have n1_ := Aside0.mk (below_step (gB HB) hb); clear HB; have HO617 := n0_; have HB := n1_; clear n0_ n1_; (try clear hb); (try clear hb2); (try clear hk); (try clear hi); (try clear ho0); obtain ⟨Ao8, co8, eo8⟩ := Kd.R_slice HO617.out; subst eo8) | (go_at_call 21; (with_reducible refine (impl_NestLayout.calls k t614 _ _ t615 t618 t619 _ ?side1 ?side2 A4.out).mono ?_); (case side1 => exact gC ((Kd.R_reads' HO617.out).2.2)); (case side2 => exact (Kd.R_reads' HO617.out).2.1); rintro e w9 ⟨v620, rfl, ho0, hb⟩; have n0_ := Aside0.mk (Kd.R_elder' (gR HO617) (Kd.R_base ho0) hb); have n1_ := Aside0.mk (Kd.R_lower (Kd.R_new' ho0 (Kd.R_lt (gR HO617))) (below_size (gB HB))); have n2_ := Aside0.mk (below_step (gB HB) hb); clear HO617; clear HB; have HO617 := n0_; have HO621 := n1_; have HB := n2_; clear n0_ n1_ n2_; (try clear hb); (try clear hb2); (try clear hk); (try clear hi); (try clear ho0)) | (go_at_call 22; (with_reducible refine (spec_NestLayout.calls k t614 _ _ t615 t622 t623 _ ?side1 ?side2 A5.out).mono ?_); (case side1 => exact gC ((Kd.R_reads' HO617.out).2.2)); (case side2 => exact (Kd.R_reads' HO617.out).2.1); rintro e w10 ⟨v624, rfl, ho0, hb⟩; have n0_ := Aside0.mk (Kd.R_elder' (gR HO617) (Kd.R_base ho0) hb); have n1_ := Aside0.mk (Kd.R_elder' (gR HO621) (Kd.R_base ho0) hb); have n2_ := Aside0.mk (Kd.R_lower (Kd.R_new' (Kd.R_new' ho0 (Kd.R_lt (gR HO617))) (Kd.R_lt (gR HO621))) (below_size (gB HB))); have n3_ := Aside0.mk (below_step (gB HB) hb); clear HO617; clear HO621; clear HB; have HO617 := n0_; have HO621 := n1_; have HO625 := n2_; have HB := n3_; clear n0_ n1_ n2_ n3_; (try clear hb); (try clear hb2); (try clear hk); (try clear hi); (try clear ho0)))
    repeat (go_quiet (first | (go_at_call 20; (with_reducible refine (spec_DrawNestLayout.calls k _ _ l0 t614 t615 _ ?side1 ?side2 A3.out).mono ?_); (case side1 => repeat (first | exact HR0.out | (with_reducible refine Kd.C_alloc ?_ _) | (with_reducible refine Kd.C_drewN ?_ _) | (with_reducible refine Kd.C_drew ?_))); (case side2 => exact HC0.out); rintro e w7 ⟨v616, rfl, ho0, hb⟩; have n0_ := Aside0.mk (Kd.R_lower ho0 (below_size (gB HB))); have n1_ := Aside0.mk (below_step (gB HB) hb); clear HB; have HO617 := n0_; have HB := n1_; clear n0_ n1_; (try clear hb); (try clear hb2); (try clear hk); (try clear hi); (try clear ho0); obtain ⟨Ao8, co8, eo8⟩ := Kd.R_slice HO617.out; subst eo8) | (go_at_call 21; (with_reducible refine (impl_NestLayout.calls k t614 _ _ t615 t618 t619 _ ?side1 ?side2 A4.out).mono ?_); (case side1 => exact gC ((Kd.R_reads' HO617.out).2.2)); (case side2 => exact (Kd.R_reads' HO617.out).2.1); rintro e w9 ⟨v620, rfl, ho0, hb⟩; have n0_ := Aside0.mk (Kd.R_elder' (gR HO617) (Kd.R_base ho0) hb); have n1_ := Aside0.mk (Kd.R_lower (Kd.R_new' ho0 (Kd.R_lt (gR HO617))) (below_size (gB HB))); have n2_ := Aside0.mk (below_step (gB HB) hb); clear HO617; clear HB; have HO617 := n0_; have HO621 := n1_; have HB := n2_; clear n0_ n1_ n2_; (try clear hb); (try clear hb2); (try clear hk); (try clear hi); (try clear ho0)) | (go_at_call 22; (with_reducible refine (spec_NestLayout.calls k t614 _ _ t615 t622 t623 _ ?side1 ?side2 A5.out).mono ?_); (case side1 => exact gC ((Kd.R_reads' HO617.out).2.2)); (case side2 => exact (Kd.R_reads' HO617.out).2.1); rintro e w10 ⟨v624, rfl, ho0, hb⟩; have n0_ := Aside0.mk (Kd.R_elder' (gR HO617) (Kd.R_base ho0) hb); have n1_ := Aside0.mk (Kd.R_elder' (gR HO621) (Kd.R_base ho0) hb); have n2_ := Aside0.mk (Kd.R_lower (Kd.R_new' (Kd.R_new' ho0 (Kd.R_lt (gR HO617))) (Kd.R_lt (gR HO621))) (below_size (gB HB))); have n3_ := Aside0.mk (below_step (gB HB) hb); clear HO617; clear HO621; clear HB; have HO617 := n0_; have HO621 := n1_; have HO625 := n2_; have HB := n3_; clear n0_ n1_ n2_ n3_; (try clear hb); (try clear hb2); (try clear hk); (try clear hi); (try clear ho0))); go_upto_region 6 with (first | (go_at_call 20; (with_reducible refine (spec_DrawNestLayout.calls k _ _ l0 t614 t615 _ ?side1 ?side2 A3.out).mono ?_); (case side1 => repeat (first | exact HR0.out | (with_reducible refine Kd.C_alloc ?_ _) | (with_reducible refine Kd.C_drewN ?_ _) | (with_reducible refine Kd.C_drew ?_))); (case side2 => exact HC0.out); rintro e w7 ⟨v616, rfl, ho0, hb⟩; have n0_ := Aside0.mk (Kd.R_lower ho0 (below_size (gB HB))); have n1_ := Aside0.mk (below_step (gB HB) hb); clear HB; have HO617 := n0_; have HB := n1_; clear n0_ n1_; (try clear hb); (try clear hb2); (try clear hk); (try clear hi); (try clear ho0); obtain ⟨Ao8, co8, eo8⟩ := Kd.R_slice HO617.out; subst eo8) | (go_at_call 21; (with_reducible refine (impl_NestLayout.calls k t614 _ _ t615 t618 t619 _ ?side1 ?side2 A4.out).mono ?_); (case side1 => exact gC ((Kd.R_reads' HO617.out).2.2)); (case side2 => exact (Kd.R_reads' HO617.out).2.1); rintro e w9 ⟨v620, rfl, ho0, hb⟩; have n0_ := Aside0.mk (Kd.R_elder' (gR HO617) (Kd.R_base ho0) hb); have n1_ := Aside0.mk (Kd.R_lower (Kd.R_new' ho0 (Kd.R_lt (gR HO617))) (below_size (gB HB))); have n2_ := Aside0.mk (below_step (gB HB) hb); clear HO617; clear HB; have HO617 := n0_; have HO621 := n1_; have HB := n2_; clear n0_ n1_ n2_; (try clear hb); (try clear hb2); (try clear hk); (try clear hi); (try clear ho0)) | (go_at_call 22; (with_reducible refine (spec_NestLayout.calls k t614 _ _ t615 t622 t623 _ ?side1 ?side2 A5.out).mono ?_); (case side1 => exact gC ((Kd.R_reads' HO617.out).2.2)); (case side2 => exact (Kd.R_reads' HO617.out).2.1); rintro e w10 ⟨v624, rfl, ho0, hb⟩; have n0_ := Aside0.mk (Kd.R_elder' (gR HO617) (Kd.R_base ho0) hb); have n1_ := Aside0.mk (Kd.R_elder' (gR HO621) (Kd.R_base ho0) hb); have n2_ := Aside0.mk (Kd.R_lower (Kd.R_new' (Kd.R_new' ho0 (Kd.R_lt (gR HO617))) (Kd.R_lt (gR HO621))) (below_size (gB HB))); have n3_ := Aside0.mk (below_step (gB HB) hb); clear HO617; clear HO621; clear HB; have HO617 := n0_; have HO621 := n1_; have HO625 := n2_; have HB := n3_; clear n0_ n1_ n2_ n3_; (try clear hb); (try clear hb2); (try clear hk); (try clear hi); (try clear ho0))))
    (try simp only [Act.put, List.setIfInBounds_toArray, List.set_cons_zero, List.set_cons_succ])
    go_cut [46] (fun v46 wc => ∃ (kq : Nat) (x46_5 : Bool), v46 = .bool x46_5 ∧ Aside0 (laws_FnNestLayout.j0 kq t614 t615 t618 t619 t622 t623 x46_5 = some r) ∧ Aside0 (kq ≤ k) ∧ Aside0 (Kd.R k30 30 wc w.heap.size (fun k_ => some k_ ≠ (v620 : Value).ownBlock ∧ some k_ ≠ (v624 : Value).ownBlock) (.slice Ao8 t615.length co8) t615) ∧ Aside0 (Kd.R k30 30 wc w.heap.size (fun k_ => some k_ ≠ ((.slice Ao8 t615.length co8) : Value).ownBlock ∧ some k_ ≠ (v624 : Value).ownBlock) v620 t618) ∧ Aside0 (Kd.R k30 30 wc w.heap.size (fun k_ => some k_ ≠ ((.slice Ao8 t615.length co8) : Value).ownBlock ∧ some k_ ≠ (v620 : Value).ownBlock) v624 t622) ∧ Aside0 (Below w.heap.size w wc))
    case first =>
      have H := HC6.out
      clear HC6
      replace H := Option.bind_eq_some_iff.mp H
      obtain ⟨t626, A110, H⟩ := H
      replace H : (if t626 = true then (if (t619 != t623) = true then (laws_FnNestLayout.j0 k t614 t615 t618 t619 t622 t623 true) else (laws_FnNestLayout.j0 k t614 t615 t618 t619 t622 t623 (!t619))) else (laws_FnNestLayout.j0 k t614 t615 t618 t619 t622 t623 true)) = some r := H
      have A11 := Aside0.mk A110
      clear A110
      by_cases c12 : t626 = true
      · subst c12
        have H1 : (if (t619 != t623) = true then (laws_FnNestLayout.j0 k t614 t615 t618 t619 t622 t623 true) else (laws_FnNestLayout.j0 k t614 t615 t618 t619 t622 t623 (!t619))) = some r := by rw [if_pos rfl] at H; exact H
        clear H
        have H := H1
        clear H1
        by_cases c13 : (t619 != t623) = true
        · rw [if_pos c13] at H
          have c13b0 : (t619 != t623) = true := c13
          (try (have c13b1 : decide (t619 = t623) = false := by simpa using c13))
          (try (have c13b2 : (t619 == t623) = false := by simpa using c13))
          (try (have c13b3 : ¬ (t619 = t623) := by simpa using c13))
          clear c13
          (first | rw [c13b0] | (simp only [i64_w, i32_w]; rw [c13b0]) | skip)
          have H' := Aside0.mk H
          clear H
          obtain ⟨Ao14, co14, eo14⟩ := Kd.R_slice HO621.out
          subst eo14
          obtain ⟨Ao15, co15, eo15⟩ := Kd.R_slice HO625.out
          subst eo15
          go_wp2_with (first | (go_at_call 18; (with_reducible refine (impl_LayoutSame.calls k _ _ t618 _ _ t622 true _ ?side1 ?side2 ?side3 ?side4 A11.out).mono ?_); (case side1 => exact gC ((Kd.R_reads' HO621.out).2.2)); (case side2 => exact (Kd.R_reads' HO621.out).2.1); (case side3 => exact gC ((Kd.R_reads' HO625.out).2.2)); (case side4 => exact (Kd.R_reads' HO625.out).2.1); rintro e w' ⟨rfl, ⟨nd, rfl⟩⟩; (try first | exact ⟨rfl, _, World.drewN_drewN _ _ _⟩ | exact ⟨rfl, _, Eq.trans (World.drewN_drewN _ _ _) (congrArg (World.drewN _) (Nat.add_assoc _ _ _))⟩)))
          repeat (go_quiet (first | (go_at_call 18; (with_reducible refine (impl_LayoutSame.calls k _ _ t618 _ _ t622 true _ ?side1 ?side2 ?side3 ?side4 A11.out).mono ?_); (case side1 => exact gC ((Kd.R_reads' HO621.out).2.2)); (case side2 => exact (Kd.R_reads' HO621.out).2.1); (case side3 => exact gC ((Kd.R_reads' HO625.out).2.2)); (case side4 => exact (Kd.R_reads' HO625.out).2.1); rintro e w' ⟨rfl, ⟨nd, rfl⟩⟩; (try first | exact ⟨rfl, _, World.drewN_drewN _ _ _⟩ | exact ⟨rfl, _, Eq.trans (World.drewN_drewN _ _ _) (congrArg (World.drewN _) (Nat.add_assoc _ _ _))⟩))); try go_wp2_with (first | (go_at_call 18; (with_reducible refine (impl_LayoutSame.calls k _ _ t618 _ _ t622 true _ ?side1 ?side2 ?side3 ?side4 A11.out).mono ?_); (case side1 => exact gC ((Kd.R_reads' HO621.out).2.2)); (case side2 => exact (Kd.R_reads' HO621.out).2.1); (case side3 => exact gC ((Kd.R_reads' HO625.out).2.2)); (case side4 => exact (Kd.R_reads' HO625.out).2.1); rintro e w' ⟨rfl, ⟨nd, rfl⟩⟩; (try first | exact ⟨rfl, _, World.drewN_drewN _ _ _⟩ | exact ⟨rfl, _, Eq.trans (World.drewN_drewN _ _ _) (congrArg (World.drewN _) (Nat.add_assoc _ _ _))⟩))))
          go_meet
          case rel => exact ⟨_, (true), (by first | rfl | (simp; done) | (simp [*]; done)), H', ⟨by first | omega | exact Nat.le_refl _⟩, ⟨by (with_reducible repeat (first | apply Kd.R_alloc | apply Kd.R_drewN | apply Kd.R_drew)); exact Kd.R_mono HO617.out (fun _ hk => ⟨hk.1.2, hk.2⟩)⟩, ⟨by (with_reducible repeat (first | apply Kd.R_alloc | apply Kd.R_drewN | apply Kd.R_drew)); exact Kd.R_mono HO621.out (fun _ hk => ⟨hk.1.2, hk.2⟩)⟩, ⟨by (with_reducible repeat (first | apply Kd.R_alloc | apply Kd.R_drewN | apply Kd.R_drew)); exact Kd.R_mono HO625.out (fun _ hk => ⟨hk.1.2, hk.2⟩)⟩, ⟨gB HB⟩⟩
        · rw [if_neg c13] at H
          have c13b0 : (t619 != t623) = false := by simpa using c13
          (try (have c13b1 : decide (t619 = t623) = true := by simpa using c13))
          (try (have c13b2 : (t619 == t623) = true := by simpa using c13))
          clear c13
          (first | rw [c13b0] | (simp only [i64_w, i32_w]; rw [c13b0]) | skip)
          have H' := Aside0.mk H
          clear H
          obtain ⟨Ao16, co16, eo16⟩ := Kd.R_slice HO621.out
          subst eo16
          obtain ⟨Ao17, co17, eo17⟩ := Kd.R_slice HO625.out
          subst eo17
          go_wp2_with (first | (go_at_call 18; (with_reducible refine (impl_LayoutSame.calls k _ _ t618 _ _ t622 true _ ?side1 ?side2 ?side3 ?side4 A11.out).mono ?_); (case side1 => exact gC ((Kd.R_reads' HO621.out).2.2)); (case side2 => exact (Kd.R_reads' HO621.out).2.1); (case side3 => exact gC ((Kd.R_reads' HO625.out).2.2)); (case side4 => exact (Kd.R_reads' HO625.out).2.1); rintro e w' ⟨rfl, ⟨nd, rfl⟩⟩; (try first | exact ⟨rfl, _, World.drewN_drewN _ _ _⟩ | exact ⟨rfl, _, Eq.trans (World.drewN_drewN _ _ _) (congrArg (World.drewN _) (Nat.add_assoc _ _ _))⟩)))
          repeat (go_quiet (first | (go_at_call 18; (with_reducible refine (impl_LayoutSame.calls k _ _ t618 _ _ t622 true _ ?side1 ?side2 ?side3 ?side4 A11.out).mono ?_); (case side1 => exact gC ((Kd.R_reads' HO621.out).2.2)); (case side2 => exact (Kd.R_reads' HO621.out).2.1); (case side3 => exact gC ((Kd.R_reads' HO625.out).2.2)); (case side4 => exact (Kd.R_reads' HO625.out).2.1); rintro e w' ⟨rfl, ⟨nd, rfl⟩⟩; (try first | exact ⟨rfl, _, World.drewN_drewN _ _ _⟩ | exact ⟨rfl, _, Eq.trans (World.drewN_drewN _ _ _) (congrArg (World.drewN _) (Nat.add_assoc _ _ _))⟩))); try go_wp2_with (first | (go_at_call 18; (with_reducible refine (impl_LayoutSame.calls k _ _ t618 _ _ t622 true _ ?side1 ?side2 ?side3 ?side4 A11.out).mono ?_); (case side1 => exact gC ((Kd.R_reads' HO621.out).2.2)); (case side2 => exact (Kd.R_reads' HO621.out).2.1); (case side3 => exact gC ((Kd.R_reads' HO625.out).2.2)); (case side4 => exact (Kd.R_reads' HO625.out).2.1); rintro e w' ⟨rfl, ⟨nd, rfl⟩⟩; (try first | exact ⟨rfl, _, World.drewN_drewN _ _ _⟩ | exact ⟨rfl, _, Eq.trans (World.drewN_drewN _ _ _) (congrArg (World.drewN _) (Nat.add_assoc _ _ _))⟩))))
          go_meet
          case rel => exact ⟨_, (!t619), (by first | rfl | (simp; done) | (simp [*]; done)), H', ⟨by first | omega | exact Nat.le_refl _⟩, ⟨by (with_reducible repeat (first | apply Kd.R_alloc | apply Kd.R_drewN | apply Kd.R_drew)); exact Kd.R_mono HO617.out (fun _ hk => ⟨hk.1.2, hk.2⟩)⟩, ⟨by (with_reducible repeat (first | apply Kd.R_alloc | apply Kd.R_drewN | apply Kd.R_drew)); exact Kd.R_mono HO621.out (fun _ hk => ⟨hk.1.2, hk.2⟩)⟩, ⟨by (with_reducible repeat (first | apply Kd.R_alloc | apply Kd.R_drewN | apply Kd.R_drew)); exact Kd.R_mono HO625.out (fun _ hk => ⟨hk.1.2, hk.2⟩)⟩, ⟨gB HB⟩⟩
      · replace c12 := Bool.eq_false_iff.mpr c12
        subst c12
        have H1 : (laws_FnNestLayout.j0 k t614 t615 t618 t619 t622 t623 true) = some r := by rw [if_neg (show ¬ (false = true) by decide)] at H; exact H
        clear H
        have H := H1
        clear H1
        have H' := Aside0.mk H
        clear H
        obtain ⟨Ao18, co18, eo18⟩ := Kd.R_slice HO621.out
        subst eo18
        obtain ⟨Ao19, co19, eo19⟩ := Kd.R_slice HO625.out
        subst eo19
        go_wp2_with (first | (go_at_call 18; (with_reducible refine (impl_LayoutSame.calls k _ _ t618 _ _ t622 false _ ?side1 ?side2 ?side3 ?side4 A11.out).mono ?_); (case side1 => exact gC ((Kd.R_reads' HO621.out).2.2)); (case side2 => exact (Kd.R_reads' HO621.out).2.1); (case side3 => exact gC ((Kd.R_reads' HO625.out).2.2)); (case side4 => exact (Kd.R_reads' HO625.out).2.1); rintro e w' ⟨rfl, ⟨nd, rfl⟩⟩; (try first | exact ⟨rfl, _, World.drewN_drewN _ _ _⟩ | exact ⟨rfl, _, Eq.trans (World.drewN_drewN _ _ _) (congrArg (World.drewN _) (Nat.add_assoc _ _ _))⟩)))
        repeat (go_quiet (first | (go_at_call 18; (with_reducible refine (impl_LayoutSame.calls k _ _ t618 _ _ t622 false _ ?side1 ?side2 ?side3 ?side4 A11.out).mono ?_); (case side1 => exact gC ((Kd.R_reads' HO621.out).2.2)); (case side2 => exact (Kd.R_reads' HO621.out).2.1); (case side3 => exact gC ((Kd.R_reads' HO625.out).2.2)); (case side4 => exact (Kd.R_reads' HO625.out).2.1); rintro e w' ⟨rfl, ⟨nd, rfl⟩⟩; (try first | exact ⟨rfl, _, World.drewN_drewN _ _ _⟩ | exact ⟨rfl, _, Eq.trans (World.drewN_drewN _ _ _) (congrArg (World.drewN _) (Nat.add_assoc _ _ _))⟩))); try go_wp2_with (first | (go_at_call 18; (with_reducible refine (impl_LayoutSame.calls k _ _ t618 _ _ t622 false _ ?side1 ?side2 ?side3 ?side4 A11.out).mono ?_); (case side1 => exact gC ((Kd.R_reads' HO621.out).2.2)); (case side2 => exact (Kd.R_reads' HO621.out).2.1); (case side3 => exact gC ((Kd.R_reads' HO625.out).2.2)); (case side4 => exact (Kd.R_reads' HO625.out).2.1); rintro e w' ⟨rfl, ⟨nd, rfl⟩⟩; (try first | exact ⟨rfl, _, World.drewN_drewN _ _ _⟩ | exact ⟨rfl, _, Eq.trans (World.drewN_drewN _ _ _) (congrArg (World.drewN _) (Nat.add_assoc _ _ _))⟩))))
        go_meet
        case rel => exact ⟨_, (true), (by first | rfl | (simp; done) | (simp [*]; done)), H', ⟨by first | omega | exact Nat.le_refl _⟩, ⟨by (with_reducible repeat (first | apply Kd.R_alloc | apply Kd.R_drewN | apply Kd.R_drew)); exact Kd.R_mono HO617.out (fun _ hk => ⟨hk.1.2, hk.2⟩)⟩, ⟨by (with_reducible repeat (first | apply Kd.R_alloc | apply Kd.R_drewN | apply Kd.R_drew)); exact Kd.R_mono HO621.out (fun _ hk => ⟨hk.1.2, hk.2⟩)⟩, ⟨by (with_reducible repeat (first | apply Kd.R_alloc | apply Kd.R_drewN | apply Kd.R_drew)); exact Kd.R_mono HO625.out (fun _ hk => ⟨hk.1.2, hk.2⟩)⟩, ⟨gB HB⟩⟩
    case rest =>
      clear HC6
      try clear c1
      try clear c2
      try clear c2b0
      try clear c2b1
      try clear p2
      try clear c6
      try clear c12
      try clear c13
      try clear c13b0
      try clear c13b1
      try clear c13b2
      obtain ⟨kq, x46_5, rfl, HA, HJ5, HO_4, HO_5, HO_7, HB⟩ := hcut
      cases kq with
      | zero => exact absurd HA.out (by simp [laws_FnNestLayout.j0])
      | succ kj5 =>
        have H := HA.out
        clear HA
        simp only [laws_FnNestLayout.j0] at H
        by_cases c20 : x46_5 = true
        · subst c20
          have H1 : ((impl_LayoutSame.f kj5 t618 t622).bind fun t627 => (if t627 = true then (some (t619 == t623)) else (none))) = some r := by rw [if_pos rfl] at H; exact H
          clear H
          have H := H1
          clear H1
          replace H := Option.bind_eq_some_iff.mp H
          obtain ⟨t627, A210, H⟩ := H
          replace H : (if t627 = true then (some (t619 == t623)) else (none)) = some r := H
          have A21 := Aside0.mk A210
          clear A210
          by_cases c22 : t627 = true
          · subst c22
            have H1 : (some (t619 == t623)) = some r := by rw [if_pos rfl] at H; exact H
            clear H
            have H := H1
            clear H1
            obtain rfl := Option.some.inj H
            obtain ⟨Ao23, co23, eo23⟩ := Kd.R_slice HO_5.out
            subst eo23
            obtain ⟨Ao24, co24, eo24⟩ := Kd.R_slice HO_7.out
            subst eo24
            go_wp2_with (first | (go_at_call 18; (with_reducible refine (impl_LayoutSame.calls kj5 _ _ t618 _ _ t622 true _ ?side1 ?side2 ?side3 ?side4 A21.out).mono ?_); (case side1 => exact gC ((Kd.R_reads' HO_5.out).2.2)); (case side2 => exact (Kd.R_reads' HO_5.out).2.1); (case side3 => exact gC ((Kd.R_reads' HO_7.out).2.2)); (case side4 => exact (Kd.R_reads' HO_7.out).2.1); rintro e w' ⟨rfl, ⟨nd, rfl⟩⟩; (try first | exact ⟨rfl, _, World.drewN_drewN _ _ _⟩ | exact ⟨rfl, _, Eq.trans (World.drewN_drewN _ _ _) (congrArg (World.drewN _) (Nat.add_assoc _ _ _))⟩)))
            repeat (go_quiet (first | (go_at_call 18; (with_reducible refine (impl_LayoutSame.calls kj5 _ _ t618 _ _ t622 true _ ?side1 ?side2 ?side3 ?side4 A21.out).mono ?_); (case side1 => exact gC ((Kd.R_reads' HO_5.out).2.2)); (case side2 => exact (Kd.R_reads' HO_5.out).2.1); (case side3 => exact gC ((Kd.R_reads' HO_7.out).2.2)); (case side4 => exact (Kd.R_reads' HO_7.out).2.1); rintro e w' ⟨rfl, ⟨nd, rfl⟩⟩; (try first | exact ⟨rfl, _, World.drewN_drewN _ _ _⟩ | exact ⟨rfl, _, Eq.trans (World.drewN_drewN _ _ _) (congrArg (World.drewN _) (Nat.add_assoc _ _ _))⟩))); try go_wp2_with (first | (go_at_call 18; (with_reducible refine (impl_LayoutSame.calls kj5 _ _ t618 _ _ t622 true _ ?side1 ?side2 ?side3 ?side4 A21.out).mono ?_); (case side1 => exact gC ((Kd.R_reads' HO_5.out).2.2)); (case side2 => exact (Kd.R_reads' HO_5.out).2.1); (case side3 => exact gC ((Kd.R_reads' HO_7.out).2.2)); (case side4 => exact (Kd.R_reads' HO_7.out).2.1); rintro e w' ⟨rfl, ⟨nd, rfl⟩⟩; (try first | exact ⟨rfl, _, World.drewN_drewN _ _ _⟩ | exact ⟨rfl, _, Eq.trans (World.drewN_drewN _ _ _) (congrArg (World.drewN _) (Nat.add_assoc _ _ _))⟩))))
            go_ret
            exact ⟨by first | rfl | (simp [errW_none, errW_some] <;> rfl) | (simp [*, errW_none, errW_some] <;> rfl), gB HB⟩
          · replace c22 := Bool.eq_false_iff.mpr c22
            subst c22
            have H1 : (none) = some r := by rw [if_neg (show ¬ (false = true) by decide)] at H; exact H
            clear H
            have H := H1
            clear H1
            exact absurd H (by simp)
        · replace c20 := Bool.eq_false_iff.mpr c20
          subst c20
          have H1 : ((impl_NestLayout.f kj5 1 t618).bind fun bt628 => ((impl_NestLayout.f kj5 (wrap64 (t614 + 1)) t615).bind fun bt632 => (laws_FnNestLayout.l0 kj5 t614 t615 t618 bt628.1 bt628.2 bt632.1 bt632.2 0))) = some r := by rw [if_neg (show ¬ (false = true) by decide)] at H; exact H
          clear H
          have H := H1
          clear H1
          replace H := Option.bind_eq_some_iff.mp H
          obtain ⟨⟨t628, t629⟩, A250, H⟩ := H
          replace H : ((impl_NestLayout.f kj5 (wrap64 (t614 + 1)) t615).bind fun bt632 => (laws_FnNestLayout.l0 kj5 t614 t615 t618 t628 t629 bt632.1 bt632.2 0)) = some r := H
          have A25 := Aside0.mk A250
          clear A250
          replace H := Option.bind_eq_some_iff.mp H
          obtain ⟨⟨t632, t633⟩, A260, H⟩ := H
          replace H : (laws_FnNestLayout.l0 kj5 t614 t615 t618 t628 t629 t632 t633 0) = some r := H
          have A26 := Aside0.mk A260
          clear A260
          have H' := Aside0.mk H
          clear H
          obtain ⟨Ao27, co27, eo27⟩ := Kd.R_slice HO_5.out
          subst eo27
          go_wp2_with (first | (go_at_call 21; (with_reducible refine (impl_NestLayout.calls kj5 1 _ _ t618 t628 t629 _ ?side1 ?side2 A25.out).mono ?_); (case side1 => exact gC ((Kd.R_reads' HO_5.out).2.2)); (case side2 => exact (Kd.R_reads' HO_5.out).2.1); rintro e w28 ⟨v630, rfl, ho0, hb⟩; have n0_ := Aside0.mk (Kd.R_elder' (gR HO_4) (Kd.R_base ho0) hb); have n1_ := Aside0.mk (Kd.R_elder' (gR HO_5) (Kd.R_base ho0) hb); have n2_ := Aside0.mk (Kd.R_elder' (gR HO_7) (Kd.R_base ho0) hb); have n3_ := Aside0.mk (Kd.R_lower (Kd.R_new' (Kd.R_new' (Kd.R_new' ho0 (Kd.R_lt (gR HO_4))) (Kd.R_lt (gR HO_5))) (Kd.R_lt (gR HO_7))) (below_size (gB HB))); have n4_ := Aside0.mk (below_step (gB HB) hb); clear HO_4; clear HO_5; clear HO_7; clear HB; have HO_4 := n0_; have HO_5 := n1_; have HO_7 := n2_; have HO631 := n3_; have HB := n4_; clear n0_ n1_ n2_ n3_ n4_; (try clear hb); (try clear hb2); (try clear hk); (try clear hi); (try clear ho0)) | (go_at_call 21; (with_reducible refine (impl_NestLayout.calls kj5 (wrap64 (t614 + 1)) _ _ t615 t632 t633 _ ?side1 ?side2 A26.out).mono ?_); (case side1 => exact gC ((Kd.R_reads' HO_4.out).2.2)); (case side2 => exact (Kd.R_reads' HO_4.out).2.1); rintro e w29 ⟨v634, rfl, ho0, hb⟩; have n0_ := Aside0.mk (Kd.R_elder' (gR HO_4) (Kd.R_base ho0) hb); have n1_ := Aside0.mk (Kd.R_elder' (gR HO_5) (Kd.R_base ho0) hb); have n2_ := Aside0.mk (Kd.R_elder' (gR HO_7) (Kd.R_base ho0) hb); have n3_ := Aside0.mk (Kd.R_elder' (gR HO631) (Kd.R_base ho0) hb); have n4_ := Aside0.mk (Kd.R_lower (Kd.R_new' (Kd.R_new' (Kd.R_new' (Kd.R_new' ho0 (Kd.R_lt (gR HO_4))) (Kd.R_lt (gR HO_5))) (Kd.R_lt (gR HO_7))) (Kd.R_lt (gR HO631))) (below_size (gB HB))); have n5_ := Aside0.mk (below_step (gB HB) hb); clear HO_4; clear HO_5; clear HO_7; clear HO631; clear HB; have HO_4 := n0_; have HO_5 := n1_; have HO_7 := n2_; have HO631 := n3_; have HO635 := n4_; have HB := n5_; clear n0_ n1_ n2_ n3_ n4_ n5_; (try clear hb); (try clear hb2); (try clear hk); (try clear hi); (try clear ho0)))
          repeat (go_quiet (first | (go_at_call 21; (with_reducible refine (impl_NestLayout.calls kj5 1 _ _ t618 t628 t629 _ ?side1 ?side2 A25.out).mono ?_); (case side1 => exact gC ((Kd.R_reads' HO_5.out).2.2)); (case side2 => exact (Kd.R_reads' HO_5.out).2.1); rintro e w28 ⟨v630, rfl, ho0, hb⟩; have n0_ := Aside0.mk (Kd.R_elder' (gR HO_4) (Kd.R_base ho0) hb); have n1_ := Aside0.mk (Kd.R_elder' (gR HO_5) (Kd.R_base ho0) hb); have n2_ := Aside0.mk (Kd.R_elder' (gR HO_7) (Kd.R_base ho0) hb); have n3_ := Aside0.mk (Kd.R_lower (Kd.R_new' (Kd.R_new' (Kd.R_new' ho0 (Kd.R_lt (gR HO_4))) (Kd.R_lt (gR HO_5))) (Kd.R_lt (gR HO_7))) (below_size (gB HB))); have n4_ := Aside0.mk (below_step (gB HB) hb); clear HO_4; clear HO_5; clear HO_7; clear HB; have HO_4 := n0_; have HO_5 := n1_; have HO_7 := n2_; have HO631 := n3_; have HB := n4_; clear n0_ n1_ n2_ n3_ n4_; (try clear hb); (try clear hb2); (try clear hk); (try clear hi); (try clear ho0)) | (go_at_call 21; (with_reducible refine (impl_NestLayout.calls kj5 (wrap64 (t614 + 1)) _ _ t615 t632 t633 _ ?side1 ?side2 A26.out).mono ?_); (case side1 => exact gC ((Kd.R_reads' HO_4.out).2.2)); (case side2 => exact (Kd.R_reads' HO_4.out).2.1); rintro e w29 ⟨v634, rfl, ho0, hb⟩; have n0_ := Aside0.mk (Kd.R_elder' (gR HO_4) (Kd.R_base ho0) hb); have n1_ := Aside0.mk (Kd.R_elder' (gR HO_5) (Kd.R_base ho0) hb); have n2_ := Aside0.mk (Kd.R_elder' (gR HO_7) (Kd.R_base ho0) hb); have n3_ := Aside0.mk (Kd.R_elder' (gR HO631) (Kd.R_base ho0) hb); have n4_ := Aside0.mk (Kd.R_lower (Kd.R_new' (Kd.R_new' (Kd.R_new' (Kd.R_new' ho0 (Kd.R_lt (gR HO_4))) (Kd.R_lt (gR HO_5))) (Kd.R_lt (gR HO_7))) (Kd.R_lt (gR HO631))) (below_size (gB HB))); have n5_ := Aside0.mk (below_step (gB HB) hb); clear HO_4; clear HO_5; clear HO_7; clear HO631; clear HB; have HO_4 := n0_; have HO_5 := n1_; have HO_7 := n2_; have HO631 := n3_; have HO635 := n4_; have HB := n5_; clear n0_ n1_ n2_ n3_ n4_ n5_; (try clear hb); (try clear hb2); (try clear hk); (try clear hi); (try clear ho0))); try go_wp2_with (first | (go_at_call 21; (with_reducible refine (impl_NestLayout.calls kj5 1 _ _ t618 t628 t629 _ ?side1 ?side2 A25.out).mono ?_); (case side1 => exact gC ((Kd.R_reads' HO_5.out).2.2)); (case side2 => exact (Kd.R_reads' HO_5.out).2.1); rintro e w28 ⟨v630, rfl, ho0, hb⟩; have n0_ := Aside0.mk (Kd.R_elder' (gR HO_4) (Kd.R_base ho0) hb); have n1_ := Aside0.mk (Kd.R_elder' (gR HO_5) (Kd.R_base ho0) hb); have n2_ := Aside0.mk (Kd.R_elder' (gR HO_7) (Kd.R_base ho0) hb); have n3_ := Aside0.mk (Kd.R_lower (Kd.R_new' (Kd.R_new' (Kd.R_new' ho0 (Kd.R_lt (gR HO_4))) (Kd.R_lt (gR HO_5))) (Kd.R_lt (gR HO_7))) (below_size (gB HB))); have n4_ := Aside0.mk (below_step (gB HB) hb); clear HO_4; clear HO_5; clear HO_7; clear HB; have HO_4 := n0_; have HO_5 := n1_; have HO_7 := n2_; have HO631 := n3_; have HB := n4_; clear n0_ n1_ n2_ n3_ n4_; (try clear hb); (try clear hb2); (try clear hk); (try clear hi); (try clear ho0)) | (go_at_call 21; (with_reducible refine (impl_NestLayout.calls kj5 (wrap64 (t614 + 1)) _ _ t615 t632 t633 _ ?side1 ?side2 A26.out).mono ?_); (case side1 => exact gC ((Kd.R_reads' HO_4.out).2.2)); (case side2 => exact (Kd.R_reads' HO_4.out).2.1); rintro e w29 ⟨v634, rfl, ho0, hb⟩; have n0_ := Aside0.mk (Kd.R_elder' (gR HO_4) (Kd.R_base ho0) hb); have n1_ := Aside0.mk (Kd.R_elder' (gR HO_5) (Kd.R_base ho0) hb); have n2_ := Aside0.mk (Kd.R_elder' (gR HO_7) (Kd.R_base ho0) hb); have n3_ := Aside0.mk (Kd.R_elder' (gR HO631) (Kd.R_base ho0) hb); have n4_ := Aside0.mk (Kd.R_lower (Kd.R_new' (Kd.R_new' (Kd.R_new' (Kd.R_new' ho0 (Kd.R_lt (gR HO_4))) (Kd.R_lt (gR HO_5))) (Kd.R_lt (gR HO_7))) (Kd.R_lt (gR HO631))) (below_size (gB HB))); have n5_ := Aside0.mk (below_step (gB HB) hb); clear HO_4; clear HO_5; clear HO_7; clear HO631; clear HB; have HO_4 := n0_; have HO_5 := n1_; have HO_7 := n2_; have HO631 := n3_; have HO635 := n4_; have HB := n5_; clear n0_ n1_ n2_ n3_ n4_ n5_; (try clear hb); (try clear hb2); (try clear hk); (try clear hi); (try clear ho0))))
          go_loopg [13] kj5 (fun kq v13 w' => ∃ (x13_2 : Int), v13 = .int .i64 x13_2 ∧ Aside0 (laws_FnNestLayout.l0 kq t614 t615 t618 t628 t629 t632 t633 x13_2 = some r) ∧ Aside0 (kq ≤ kj5) ∧ Aside0 (Kd.R k30 30 w' w.heap.size (fun k_ => some k_ ≠ ((.slice Ao27 t618.length co27) : Value).ownBlock ∧ some k_ ≠ (v630 : Value).ownBlock ∧ some k_ ≠ (v634 : Value).ownBlock) (.slice Ao8 t615.length co8) t615) ∧ Aside0 (Kd.R k30 30 w' w.heap.size (fun k_ => some k_ ≠ ((.slice Ao8 t615.length co8) : Value).ownBlock ∧ some k_ ≠ (v630 : Value).ownBlock ∧ some k_ ≠ (v634 : Value).ownBlock) (.slice Ao27 t618.length co27) t618) ∧ Aside0 (Kd.R k30 30 w' w.heap.size (fun k_ => some k_ ≠ ((.slice Ao8 t615.length co8) : Value).ownBlock ∧ some k_ ≠ ((.slice Ao27 t618.length co27) : Value).ownBlock ∧ some k_ ≠ (v634 : Value).ownBlock) v630 t628) ∧ Aside0 (Kd.R k30 30 w' w.heap.size (fun k_ => some k_ ≠ ((.slice Ao8 t615.length co8) : Value).ownBlock ∧ some k_ ≠ ((.slice Ao27 t618.length co27) : Value).ownBlock ∧ some k_ ≠ (v630 : Value).ownBlock) v634 t632) ∧ Aside0 (Below w.heap.size w w'))
          case atStart => exact ⟨(0), (by first | rfl | (simp; done) | (simp [*]; done)), H', ⟨Nat.le_refl _⟩, ⟨by (with_reducible repeat (first | apply Kd.R_alloc | apply Kd.R_drewN | apply Kd.R_drew)); exact Kd.R_mono HO_4.out (fun _ hk => ⟨hk.1.1.1, ⟨hk.1.2, hk.2⟩⟩)⟩, ⟨by (with_reducible repeat (first | apply Kd.R_alloc | apply Kd.R_drewN | apply Kd.R_drew)); exact Kd.R_mono HO_5.out (fun _ hk => ⟨hk.1.1.1, ⟨hk.1.2, hk.2⟩⟩)⟩, ⟨by (with_reducible repeat (first | apply Kd.R_alloc | apply Kd.R_drewN | apply Kd.R_drew)); exact Kd.R_mono HO631.out (fun _ hk => ⟨hk.1.1.1.2, ⟨hk.1.1.2, hk.2⟩⟩)⟩, ⟨by (with_reducible repeat (first | apply Kd.R_alloc | apply Kd.R_drewN | apply Kd.R_drew)); exact Kd.R_mono HO635.out (fun _ hk => ⟨hk.1.1.1.2, ⟨hk.1.1.2, hk.2⟩⟩)⟩, ⟨gB HB⟩⟩
          case round =>
            clear H'
            try clear c1
            try clear c2
            try clear c2b0
            try clear c2b1
            try clear p2
            try clear c6
            try clear p6
            try clear c12
            try clear c13
            try clear c13b0
            try clear c13b1
            try clear c13b2
            try clear c20
            try clear c22
            try clear p2
            (try clear HO_4); (try clear HO_5); (try clear HO_9); (try clear HO_11); (try clear HB)
            obtain ⟨x13_2, rfl, HA, HK2, HO_4, HO_5, HO_9, HO_11, HB⟩ := hrel
            cases gk with
            | zero => exact absurd HA.out (by simp [laws_FnNestLayout.l0])
            | succ k2 =>
              have H := HA.out
              clear HA
              simp only [laws_FnNestLayout.l0] at H
              by_cases c30 : x13_2 < (t618.length : Int)
              · rw [if_pos c30] at H
                have c30b0 : decide (x13_2 < (t618.length : Int)) = true := decide_eq_true c30
                clear c30
                have HC31 := Aside0.mk H
                clear H
                go_upto_region 13 with (fail)
                repeat (go_quiet (fail); go_upto_region 13 with (fail))
                go_cut [102] (fun v102 wc => ∃ (kq : Nat) (x102_30 : Bool), v102 = .bool x102_30 ∧ Aside0 (laws_FnNestLayout.j2 kq t614 t615 t618 t628 t629 t632 t633 x13_2 x102_30 = some r) ∧ Aside0 (kq ≤ k2) ∧ Aside0 (Kd.R k30 30 wc w.heap.size (fun k_ => some k_ ≠ ((.slice Ao27 t618.length co27) : Value).ownBlock ∧ some k_ ≠ (v630 : Value).ownBlock ∧ some k_ ≠ (v634 : Value).ownBlock) (.slice Ao8 t615.length co8) t615) ∧ Aside0 (Kd.R k30 30 wc w.heap.size (fun k_ => some k_ ≠ ((.slice Ao8 t615.length co8) : Value).ownBlock ∧ some k_ ≠ (v630 : Value).ownBlock ∧ some k_ ≠ (v634 : Value).ownBlock) (.slice Ao27 t618.length co27) t618) ∧ Aside0 (Kd.R k30 30 wc w.heap.size (fun k_ => some k_ ≠ ((.slice Ao8 t615.length co8) : Value).ownBlock ∧ some k_ ≠ ((.slice Ao27 t618.length co27) : Value).ownBlock ∧ some k_ ≠ (v634 : Value).ownBlock) v630 t628) ∧ Aside0 (Kd.R k30 30 wc w.heap.size (fun k_ => some k_ ≠ ((.slice Ao8 t615.length co8) : Value).ownBlock ∧ some k_ ≠ ((.slice Ao27 t618.length co27) : Value).ownBlock ∧ some k_ ≠ (v630 : Value).ownBlock) v634 t632) ∧ Aside0 (Below w.heap.size w wc))
                case first =>
                  have H := HC31.out
                  clear HC31
                  by_cases c32 : 0 ≤ x13_2
                  · rw [if_pos c32] at H
                    have c32b0 : decide (0 ≤ x13_2) = true := decide_eq_true c32
                    clear c32
                    (first | rw [c32b0] | (simp only [i64_w, i32_w]; rw [c32b0]) | skip)
                    by_cases c33 : x13_2 < (t615.length : Int)
                    · rw [if_pos c33] at H
                      have c33b0 : decide (x13_2 < (t615.length : Int)) = true := decide_eq_true c33
                      clear c33
                      by_cases c34 : ((rd_TRow t618 x13_2).f1).toList = ((rd_TRow t615 x13_2).f1).toList
                      · rw [if_pos c34] at H
                        have c34b0 : (((rd_TRow t618 x13_2).f1).toList == ((rd_TRow t615 x13_2).f1).toList) = true := beq_iff_eq.mpr c34
                        have c34b1 : (((rd_TRow t618 x13_2).f1).toList != ((rd_TRow t615 x13_2).f1).toList) = false := bne_eq_false_iff_eq.mpr c34
                        clear c34
                        by_cases c35 : x13_2 > 0
                        · rw [if_pos c35] at H
                          have c35b0 : decide (0 < x13_2) = true := decide_eq_true c35
                          clear c35
                          have H' := Aside0.mk H
                          clear H
                          have p636 : 0 ≤ (x13_2 : Int) := of_decide_eq_true (by first | (with_reducible assumption) | assumption)
                          have q636 : x13_2 < (t618.length : Int) := of_decide_eq_true (by first | (with_reducible assumption) | assumption)
                          obtain ⟨ad636, e636, hx636_0, hx636_1⟩ := at_TRow (Kd.R_reads' HO_5.out).2.2 x13_2 p636 q636
                          cases e636
                          replace p636 := eq_true p636
                          replace q636 := eq_true q636
                          have p637 : 0 ≤ (x13_2 : Int) := of_decide_eq_true (by first | (with_reducible assumption) | assumption)
                          have q637 : x13_2 < (t615.length : Int) := of_decide_eq_true (by first | (with_reducible assumption) | assumption)
                          obtain ⟨ad637, e637, hx637_0, hx637_1⟩ := at_TRow (Kd.R_reads' HO_4.out).2.2 x13_2 p637 q637
                          cases e637
                          replace p637 := eq_true p637
                          replace q637 := eq_true q637
                          have p638 : 0 ≤ (x13_2 : Int) := of_decide_eq_true (by first | (with_reducible assumption) | assumption)
                          have q638 : x13_2 < (t618.length : Int) := of_decide_eq_true (by first | (with_reducible assumption) | assumption)
                          obtain ⟨ad638, e638, hx638_0, hx638_1⟩ := at_TRow (Kd.R_reads' HO_5.out).2.2 x13_2 p638 q638
                          obtain rfl : ad636 = ad638 := (by injection e638)
                          replace p638 := eq_true p638
                          replace q638 := eq_true q638
                          have p639 : 0 ≤ (x13_2 : Int) := of_decide_eq_true (by first | (with_reducible assumption) | assumption)
                          have q639 : x13_2 < (t615.length : Int) := of_decide_eq_true (by first | (with_reducible assumption) | assumption)
                          obtain ⟨ad639, e639, hx639_0, hx639_1⟩ := at_TRow (Kd.R_reads' HO_4.out).2.2 x13_2 p639 q639
                          obtain rfl : ad637 = ad639 := (by injection e639)
                          replace p639 := eq_true p639
                          replace q639 := eq_true q639
                          go_wp2
                          repeat (go_quiet (fail); try go_wp2)
                          go_meet
                          case rel => exact ⟨_, ((((rd_TRow t618 x13_2).f0) != (wrap64 (((rd_TRow t615 x13_2).f0) + t614)))), (by first | rfl | (simp; done) | (simp [*]; done)), H', ⟨by have := HJ5.out; have := HK2.out; first | omega | exact Nat.le_refl _⟩, ⟨gR HO_4⟩, ⟨gR HO_5⟩, ⟨gR HO_9⟩, ⟨gR HO_11⟩, ⟨gB HB⟩⟩
                        · rw [if_neg c35] at H
                          have c35b0 : decide (0 < x13_2) = false := decide_eq_false c35
                          clear c35
                          have H' := Aside0.mk H
                          clear H
                          have p636 : 0 ≤ (x13_2 : Int) := of_decide_eq_true (by first | (with_reducible assumption) | assumption)
                          have q636 : x13_2 < (t618.length : Int) := of_decide_eq_true (by first | (with_reducible assumption) | assumption)
                          obtain ⟨ad636, e636, hx636_0, hx636_1⟩ := at_TRow (Kd.R_reads' HO_5.out).2.2 x13_2 p636 q636
                          cases e636
                          replace p636 := eq_true p636
                          replace q636 := eq_true q636
                          have p637 : 0 ≤ (x13_2 : Int) := of_decide_eq_true (by first | (with_reducible assumption) | assumption)
                          have q637 : x13_2 < (t615.length : Int) := of_decide_eq_true (by first | (with_reducible assumption) | assumption)
                          obtain ⟨ad637, e637, hx637_0, hx637_1⟩ := at_TRow (Kd.R_reads' HO_4.out).2.2 x13_2 p637 q637
                          cases e637
                          replace p637 := eq_true p637
                          replace q637 := eq_true q637
                          go_wp2
                          repeat (go_quiet (fail); try go_wp2)
                          go_meet
                          case rel => exact ⟨_, (false), (by first | rfl | (simp; done) | (simp [*]; done)), H', ⟨by have := HJ5.out; have := HK2.out; first | omega | exact Nat.le_refl _⟩, ⟨gR HO_4⟩, ⟨gR HO_5⟩, ⟨gR HO_9⟩, ⟨gR HO_11⟩, ⟨gB HB⟩⟩
                      · rw [if_neg c34] at H
                        have c34b0 : (((rd_TRow t618 x13_2).f1).toList == ((rd_TRow t615 x13_2).f1).toList) = false := beq_eq_false_iff_ne.mpr c34
                        have c34b1 : (((rd_TRow t618 x13_2).f1).toList != ((rd_TRow t615 x13_2).f1).toList) = true := bne_iff_ne.mpr c34
                        have H' := Aside0.mk H
                        clear H
                        have p636 : 0 ≤ (x13_2 : Int) := of_decide_eq_true (by first | (with_reducible assumption) | assumption)
                        have q636 : x13_2 < (t618.length : Int) := of_decide_eq_true (by first | (with_reducible assumption) | assumption)
                        obtain ⟨ad636, e636, hx636_0, hx636_1⟩ := at_TRow (Kd.R_reads' HO_5.out).2.2 x13_2 p636 q636
                        cases e636
                        replace p636 := eq_true p636
                        replace q636 := eq_true q636
                        have p637 : 0 ≤ (x13_2 : Int) := of_decide_eq_true (by first | (with_reducible assumption) | assumption)
                        have q637 : x13_2 < (t615.length : Int) := of_decide_eq_true (by first | (with_reducible assumption) | assumption)
                        obtain ⟨ad637, e637, hx637_0, hx637_1⟩ := at_TRow (Kd.R_reads' HO_4.out).2.2 x13_2 p637 q637
                        cases e637
                        replace p637 := eq_true p637
                        replace q637 := eq_true q637
                        go_wp2
                        repeat (go_quiet (fail); try go_wp2)
                        go_meet
                        case rel => exact ⟨_, (true), (by first | rfl | (simp; done) | (simp [*]; done)), H', ⟨by have := HJ5.out; have := HK2.out; first | omega | exact Nat.le_refl _⟩, ⟨gR HO_4⟩, ⟨gR HO_5⟩, ⟨gR HO_9⟩, ⟨gR HO_11⟩, ⟨gB HB⟩⟩
                    · rw [if_neg c33] at H
                      exact absurd H (by simp)
                  · rw [if_neg c32] at H
                    exact absurd H (by simp)
                case rest =>
                  clear HC31
                  try clear c1
                  try clear c2
                  try clear c2b0
                  try clear c2b1
                  try clear p2
                  try clear c3
                  try clear c6
                  try clear p6
                  try clear q6
                  try clear hx6
                  try clear c12
                  try clear c13
                  try clear c13b0
                  try clear c13b1
                  try clear c13b2
                  try clear c20
                  try clear c22
                  try clear c30
                  try clear c30b0
                  try clear c32
                  try clear c32b0
                  try clear c33
                  try clear c33b0
                  try clear c34
                  try clear c34b0
                  try clear c34b1
                  try clear c35
                  try clear c35b0
                  try clear hx636_0
                  try clear hx636_1
                  try clear hx637_0
                  try clear hx637_1
                  try clear hx638_0
                  try clear hx638_1
                  try clear hx639_0
                  try clear hx639_1
                  try clear p2
                  try clear p6
                  try clear p636
                  try clear p637
                  try clear p638
                  try clear p639
                  try clear q636
                  try clear q637
                  try clear q638
                  try clear q639
                  obtain ⟨kq, x102_30, rfl, HA, HJ30, HO_4, HO_5, HO_9, HO_11, HB⟩ := hcut
                  cases kq with
                  | zero => exact absurd HA.out (by simp [laws_FnNestLayout.j2])
                  | succ kj30 =>
                    have H := HA.out
                    clear HA
                    simp only [laws_FnNestLayout.j2] at H
                    by_cases c36 : x102_30 = true
                    · subst c36
                      have H1 : (none) = some r := by rw [if_pos rfl] at H; exact H
                      clear H
                      have H := H1
                      clear H1
                      exact absurd H (by simp)
                    · replace c36 := Bool.eq_false_iff.mpr c36
                      subst c36
                      have H1 : (laws_FnNestLayout.l0 kj30 t614 t615 t618 t628 t629 t632 t633 (wrap64 (x13_2 + 1))) = some r := by rw [if_neg (show ¬ (false = true) by decide)] at H; exact H
                      clear H
                      have H := H1
                      clear H1
                      have H' := Aside0.mk H
                      clear H
                      go_wp2
                      repeat (go_quiet (fail); try go_wp2)
                      go_roundg kj30
                      case measure => have := HJ5.out; have := HK2.out; have := HJ30.out; omega
                      case rel => exact ⟨(wrap64 (x13_2 + 1)), (by first | rfl | (simp; done) | (simp [*]; done)), H', ⟨by have := HJ5.out; have := HK2.out; have := HJ30.out; omega⟩, ⟨gR HO_4⟩, ⟨gR HO_5⟩, ⟨gR HO_9⟩, ⟨gR HO_11⟩, ⟨gB HB⟩⟩
              · rw [if_neg c30] at H
                have c30b0 : decide (x13_2 < (t618.length : Int)) = false := decide_eq_false c30
                clear c30
                by_cases c37 : t629 = true
                · subst c37
                  have H1 : (if t633 = true then ((impl_LayoutSame.f k2 t628 t632).bind fun t640 => (some t640)) else (some true)) = some r := by rw [if_pos rfl] at H; exact H
                  clear H
                  have H := H1
                  clear H1
                  by_cases c38 : t633 = true
                  · subst c38
                    have H1 : ((impl_LayoutSame.f k2 t628 t632).bind fun t640 => (some t640)) = some r := by rw [if_pos rfl] at H; exact H
                    clear H
                    have H := H1
                    clear H1
                    replace H := Option.bind_eq_some_iff.mp H
                    obtain ⟨t640, A390, H⟩ := H
                    replace H : (some t640) = some r := H
                    have A39 := Aside0.mk A390
                    clear A390
                    obtain rfl := Option.some.inj H
                    obtain ⟨Ao40, co40, eo40⟩ := Kd.R_slice HO_9.out
                    subst eo40
                    obtain ⟨Ao41, co41, eo41⟩ := Kd.R_slice HO_11.out
                    subst eo41
                    go_wp2_with (first | (go_at_call 18; (with_reducible refine (impl_LayoutSame.calls k2 _ _ t628 _ _ t632 t640 _ ?side1 ?side2 ?side3 ?side4 A39.out).mono ?_); (case side1 => exact gC ((Kd.R_reads' HO_9.out).2.2)); (case side2 => exact (Kd.R_reads' HO_9.out).2.1); (case side3 => exact gC ((Kd.R_reads' HO_11.out).2.2)); (case side4 => exact (Kd.R_reads' HO_11.out).2.1); rintro e w' ⟨rfl, ⟨nd, rfl⟩⟩; (try first | exact ⟨rfl, _, World.drewN_drewN _ _ _⟩ | exact ⟨rfl, _, Eq.trans (World.drewN_drewN _ _ _) (congrArg (World.drewN _) (Nat.add_assoc _ _ _))⟩)))
                    repeat (go_quiet (first | (go_at_call 18; (with_reducible refine (impl_LayoutSame.calls k2 _ _ t628 _ _ t632 t640 _ ?side1 ?side2 ?side3 ?side4 A39.out).mono ?_); (case side1 => exact gC ((Kd.R_reads' HO_9.out).2.2)); (case side2 => exact (Kd.R_reads' HO_9.out).2.1); (case side3 => exact gC ((Kd.R_reads' HO_11.out).2.2)); (case side4 => exact (Kd.R_reads' HO_11.out).2.1); rintro e w' ⟨rfl, ⟨nd, rfl⟩⟩; (try first | exact ⟨rfl, _, World.drewN_drewN _ _ _⟩ | exact ⟨rfl, _, Eq.trans (World.drewN_drewN _ _ _) (congrArg (World.drewN _) (Nat.add_assoc _ _ _))⟩))); try go_wp2_with (first | (go_at_call 18; (with_reducible refine (impl_LayoutSame.calls k2 _ _ t628 _ _ t632 t640 _ ?side1 ?side2 ?side3 ?side4 A39.out).mono ?_); (case side1 => exact gC ((Kd.R_reads' HO_9.out).2.2)); (case side2 => exact (Kd.R_reads' HO_9.out).2.1); (case side3 => exact gC ((Kd.R_reads' HO_11.out).2.2)); (case side4 => exact (Kd.R_reads' HO_11.out).2.1); rintro e w' ⟨rfl, ⟨nd, rfl⟩⟩; (try first | exact ⟨rfl, _, World.drewN_drewN _ _ _⟩ | exact ⟨rfl, _, Eq.trans (World.drewN_drewN _ _ _) (congrArg (World.drewN _) (Nat.add_assoc _ _ _))⟩))))
                    go_ret
                    exact ⟨by first | rfl | (simp [errW_none, errW_some] <;> rfl) | (simp [*, errW_none, errW_some] <;> rfl), gB HB⟩
                  · replace c38 := Bool.eq_false_iff.mpr c38
                    subst c38
                    have H1 : (some true) = some r := by rw [if_neg (show ¬ (false = true) by decide)] at H; exact H
                    clear H
                    have H := H1
                    clear H1
                    obtain rfl := Option.some.inj H
                    go_wp2
                    repeat (go_quiet (fail); try go_wp2)
                    go_ret
                    exact ⟨by first | rfl | (simp [errW_none, errW_some] <;> rfl) | (simp [*, errW_none, errW_some] <;> rfl), gB HB⟩
                · replace c37 := Bool.eq_false_iff.mpr c37
                  subst c37
                  have H1 : (some true) = some r := by rw [if_neg (show ¬ (false = true) by decide)] at H; exact H
                  clear H
                  have H := H1
                  clear H1
                  obtain rfl := Option.some.inj H
                  go_wp2
                  repeat (go_quiet (fail); try go_wp2)
                  go_ret
                  exact ⟨by first | rfl | (simp [errW_none, errW_some] <;> rfl) | (simp [*, errW_none, errW_some] <;> rfl), gB HB⟩
def laws_FnNestLayout.Pure : Prop := ∀ (l0 : List Int), l0.length ≤ maxLen → l0.length * 1 ≤ 140737488351232 → (∀ x ∈ l0, (Lit.int .u8 x).wf = true) → ∃ k, laws_FnNestLayout.f k l0 = some true
theorem laws_FnNestLayout.walk (P : laws_FnNestLayout.Pure) (a0 : Option Addr) (len0 cap0 : Nat) (z0 : List Int) (w : World) (w0 : (a0 = none ∧ len0 = 0 ∧ cap0 = 0 ∧ z0 = []) ∨ ∃ x, a0 = some x ∧ len0 ≤ cap0 ∧ cap0 ≤ maxLen ∧ z0.length = cap0 ∧ (∀ i, i < z0.length → w.cell? (x.add i) = some (.int .u8 (z0.getD i 0))) ∧ ∀ n ∈ z0, (Lit.int .u8 n).wf = true) (y0 : len0 * 1 ≤ 140737488351232) :
    Calls Try.prog 6 #[.slice a0 len0 cap0] w fun e w' => e = .returned (.bool true) ∧ Below w.heap.size w w' := by
  obtain ⟨l0, rfl, hr0, hm0, hw0, hc0⟩ := ReadsInt.ofRowC w0
  obtain ⟨k, h⟩ := P l0 hm0 y0 hw0
  refine (laws_FnNestLayout.calls k _ _ l0 true w (Kd.C_of_reads (d := (0 : Int)) (h1 := fun _ => rfl) hr0) hc0 h).mono ?_
  rintro e w' ⟨rfl, hd⟩
  exact ⟨rfl, hd⟩
end Go.Proofs.Ytdhdfmmefghijab.P
namespace Go.Proofs.Ytdhdfmmefghijab.Pure
open Go.RowKit Go.Proofs.Ytdhdfmmefghijab.P Go.Proofs.YtdhdfmmefghijabW.PrintWords Go.Proofs.YtdhdfmmefghijabW.PrintLast Go.Proofs.YtdhdfmmefghijabW.PrintMore
set_option linter.unusedVariables false
set_option linter.unusedSimpArgs false
theorem nest_at {n : Int} {a : List SRow} (i : Nat) (hi : i < a.length) : (rd_TRow (nestO n a) (i : Int)).f1 = (rd_TRow a (i : Int)).f1 ∧ (0 < i → (rd_TRow (nestO n a) (i : Int)).f0 = wrap64 ((rd_TRow a (i : Int)).f0 + n)) := by
  cases a with
  | nil => simp at hi
  | cons r t =>
    cases i with
    | zero => exact ⟨rfl, fun h => absurd h (Nat.lt_irrefl _)⟩
    | succ i =>
      have hi' : i < t.length := by simpa using hi
      unfold rd_TRow
      simp only [Int.toNat_natCast, nestO, List.getD_eq_getElem?_getD, List.getElem?_cons_succ, List.getElem?_map, List.getElem?_eq_getElem hi', Option.map_some, Option.getD_some, inR]
      exact ⟨trivial, fun _ => trivial⟩
theorem FnNestLayout : laws_FnNestLayout.Pure := by
  intro l hl _ hw
  refine Ev.rounds (g := fun k => laws_FnNestLayout.f k l) (Ev.congr (fun k => by rw [laws_FnNestLayout.f]) (big_or ?_))
  obtain ⟨n, a, hd, ha, hn0, hn1⟩ := drawNest_ev l hl hw
  refine Ev.bind hd (Ev.bind (nestI_ev ha) (Ev.bind (nestS_ev ha) (Ev.bind (same_ev (nestL_rows n a)) ?_)))
  simp only [if_true, bne_self_eq_false, Bool.false_eq_true, if_false]
  refine Ev.step (fun k => by rw [laws_FnNestLayout.j0]) ?_
  cases hx : (nestL n a).2 with
  | false =>
    simp only [Bool.not_false, if_true]
    refine Ev.bind (same_ev (nestL_rows n a)) ?_
    simp only [if_true, beq_self_eq_true]
    exact Ev.now _
  | true =>
    obtain ⟨x1, x2, x3, x4, x5⟩ := nestL_true hx
    have hlen := (layV_ok x1).2.1
    simp only [Bool.not_true, Bool.false_eq_true, if_false]
    rw [w64 (i := n + 1) (by omega) (by omega)]
    refine Ev.bind (nestI_ev (nestL_rows n a)) (Ev.bind (nestI_ev ha) ?_)
    rw [x5]
    have hxl : (nestO n a).length = a.length := by cases a <;> simp [nestO]
    have loop : ∀ (m i : Nat), i + m = a.length → Ev (fun k => laws_FnNestLayout.l0 k n a (nestO n a) (nestL 1 (nestO n a)).1 (nestL 1 (nestO n a)).2 (nestL (n + 1) a).1 (nestL (n + 1) a).2 (i : Int)) true := by
      intro m
      induction m with
      | zero =>
        intro i hi
        refine Ev.step (fun k => by rw [laws_FnNestLayout.l0]) ?_
        simp only [hxl, if_neg (show ¬ ((i : Int) < (a.length : Int)) by omega)]
        refine Ev.iff (fun hp => Ev.iff (fun hq => ?_) (fun _ => Ev.now _)) (fun _ => Ev.now _)
        obtain ⟨p1, p2, p3, p4, p5⟩ := nestL_true hp
        obtain ⟨q1, q2, q3, q4, q5⟩ := nestL_true hq
        refine Ev.bind (same_ev' (nestL_rows _ _) ?_) (Ev.now _)
        rw [p5, q5]
        exact nestO_add x1 (by omega) (by omega) (by omega) (by omega)
      | succ m ih =>
        intro i hi
        have hil : i < a.length := by omega
        obtain ⟨k1, k2⟩ := nest_at (n := n) (a := a) i hil
        refine Ev.step (fun k => by rw [laws_FnNestLayout.l0]) ?_
        simp only [hxl, if_pos (show (i : Int) < (a.length : Int) by omega), if_pos (show (0 : Int) ≤ (i : Int) by omega), k1, if_true]
        have w1 : wrap64 ((i : Int) + 1) = ((i + 1 : Nat) : Int) := by rw [w64 (by omega) (by omega)]; omega
        have J : Ev (fun k => laws_FnNestLayout.j2 k n a (nestO n a) (nestL 1 (nestO n a)).1 (nestL 1 (nestO n a)).2 (nestL (n + 1) a).1 (nestL (n + 1) a).2 (i : Int) false) true := by
          refine Ev.step (fun k => by rw [laws_FnNestLayout.j2]) ?_
          simp only [Bool.false_eq_true, if_false, w1]
          exact ih (i + 1) (by omega)
        refine Ev.iff (fun h0 => ?_) (fun _ => J)
        rw [k2 (by omega), bne_self_eq_false]
        exact J
    exact loop a.length 0 (by omega)
end Go.Proofs.Ytdhdfmmefghijab.Pure
