/- CONTRACTS and lemmas for the law FnNestCat. -/
import Derived.Test.YtdhdfmmefghijabVLa9
namespace Go.Proofs.Ytdhdfmmefghijab.P
open Go.RowKit Go.Proofs.YtdhdfmmefghijabW.PrintWords Go.Proofs.YtdhdfmmefghijabW.PrintLast Go.Proofs.YtdhdfmmefghijabW.PrintMore
attribute [local go_sem] max2_int min2_int max_two min_two max_three min_three max_four min_four
set_option linter.unusedVariables false
set_option linter.unusedSimpArgs false
mutual
def laws_FnNestCat.j0 : Nat → List (SRow) → List (SRow) → List (SRow) → Bool → List (SRow) → Bool → Bool → Option (Bool)
  | 0, _, _, _, _, _, _, _ => none
  | k + 1, x3, x4, x5, x6, x7, x8, x49 => if x49 = true then ((impl_LayoutSame.f k x5 x7).bind fun t676 => (if t676 = true then (some (x6 == x8)) else (none))) else ((impl_NestLayout.f k 3 x3).bind fun bt677 => ((impl_NestLayout.f k 3 x4).bind fun bt681 => ((impl_NestLayout.f k 3 x5).bind fun bt685 => (if bt677.2 = true then (if bt681.2 = true then (laws_FnNestCat.j1 k bt677.1 bt681.1 bt685.1 (!bt685.2)) else (laws_FnNestCat.j1 k bt677.1 bt681.1 bt685.1 true)) else (laws_FnNestCat.j1 k bt677.1 bt681.1 bt685.1 true)))))
def laws_FnNestCat.j1 : Nat → List (SRow) → List (SRow) → List (SRow) → Bool → Option (Bool)
  | 0, _, _, _, _ => none
  | k + 1, x9, x11, x13, x82 => if x82 = true then (some true) else ((impl_CatLayouts.f k x9 x11).bind fun bt689 => (if bt689.2 = true then ((impl_LayoutSame.f k bt689.1 x13).bind fun t693 => (some t693)) else (none)))
end
def laws_FnNestCat.f (k : Nat) (l0 : List Int) : Option (Bool) := if (l0.length : Int) > 1048576 then (some true) else ((spec_DrawCatLayouts.f k l0).bind fun bt661 => ((impl_CatLayouts.f k bt661.1 bt661.2).bind fun bt667 => ((spec_CatLayouts.f k bt661.1 bt661.2).bind fun bt671 => ((impl_LayoutSame.f k bt667.1 bt671.1).bind fun t675 => (if t675 = true then (if (bt667.2 != bt671.2) = true then (laws_FnNestCat.j0 k bt661.1 bt661.2 bt667.1 bt667.2 bt671.1 bt671.2 true) else (laws_FnNestCat.j0 k bt661.1 bt661.2 bt667.1 bt667.2 bt671.1 bt671.2 (!bt667.2))) else (laws_FnNestCat.j0 k bt661.1 bt661.2 bt667.1 bt667.2 bt671.1 bt671.2 true))))))
set_option maxHeartbeats 8000000 in
set_option maxRecDepth 100000 in
theorem laws_FnNestCat.calls (k : Nat) (A0 : Option Addr) (c0 : Nat) (l0 : List Int) (r : Bool) (w : World) (hr0 : Kd.C (Kd.int .u8) w A0 l0.length l0) (hc0 : l0.length ≤ c0) (h : laws_FnNestCat.f k l0 = some r) :
    Calls Try.prog 8 #[.slice A0 l0.length c0] w fun e w' => e = .returned (.bool r) ∧ Below w.heap.size w w' := by
  have HR0 := Aside0.mk hr0
  have HC0 := Aside0.mk hc0
  clear hr0 hc0
  have HB := Aside0.mk (Below.refl w.heap.size w)
  have H : (if (l0.length : Int) > 1048576 then (some true) else ((spec_DrawCatLayouts.f k l0).bind fun bt661 => ((impl_CatLayouts.f k bt661.1 bt661.2).bind fun bt667 => ((spec_CatLayouts.f k bt661.1 bt661.2).bind fun bt671 => ((impl_LayoutSame.f k bt667.1 bt671.1).bind fun t675 => (if t675 = true then (if (bt667.2 != bt671.2) = true then (laws_FnNestCat.j0 k bt661.1 bt661.2 bt667.1 bt667.2 bt671.1 bt671.2 true) else (laws_FnNestCat.j0 k bt661.1 bt661.2 bt667.1 bt667.2 bt671.1 bt671.2 (!bt667.2))) else (laws_FnNestCat.j0 k bt661.1 bt661.2 bt667.1 bt667.2 bt671.1 bt671.2 true))))))) = some r := h
  clear h
  by_cases c2 : (l0.length : Int) > 1048576
  · rw [if_pos c2] at H
    have c2b0 : decide (1048576 < (l0.length : Int)) = true := decide_eq_true c2
    have c2b1 : decide (1048576 < l0.length) = true := decide_eq_true (by omega)
    clear c2
    obtain rfl := Option.some.inj H
    go_enter Try.func8, Try.ntmps8
    go_wp2
    go_ret
    exact ⟨by first | rfl | (simp [errW_none, errW_some] <;> rfl) | (simp [*, errW_none, errW_some] <;> rfl), gB HB⟩
  · rw [if_neg c2] at H
    have c2b0 : decide (1048576 < (l0.length : Int)) = false := decide_eq_false c2
    have c2b1 : decide (1048576 < l0.length) = false := decide_eq_false (by omega)
    clear c2
    replace H := Option.bind_eq_some_iff.mp H
    obtain ⟨⟨t661, t662⟩, A30, H⟩ := H
    replace H : ((impl_CatLayouts.f k t661 t662).bind fun bt667 => ((spec_CatLayouts.f k t661 t662).bind fun bt671 => ((impl_LayoutSame.f k bt667.1 bt671.1).bind fun t675 => (if t675 = true then (if (bt667.2 != bt671.2) = true then (laws_FnNestCat.j0 k t661 t662 bt667.1 bt667.2 bt671.1 bt671.2 true) else (laws_FnNestCat.j0 k t661 t662 bt667.1 bt667.2 bt671.1 bt671.2 (!bt667.2))) else (laws_FnNestCat.j0 k t661 t662 bt667.1 bt667.2 bt671.1 bt671.2 true))))) = some r := H
    have A3 := Aside0.mk A30
    clear A30
    replace H := Option.bind_eq_some_iff.mp H
    obtain ⟨⟨t667, t668⟩, A40, H⟩ := H
    replace H : ((spec_CatLayouts.f k t661 t662).bind fun bt671 => ((impl_LayoutSame.f k t667 bt671.1).bind fun t675 => (if t675 = true then (if (t668 != bt671.2) = true then (laws_FnNestCat.j0 k t661 t662 t667 t668 bt671.1 bt671.2 true) else (laws_FnNestCat.j0 k t661 t662 t667 t668 bt671.1 bt671.2 (!t668))) else (laws_FnNestCat.j0 k t661 t662 t667 t668 bt671.1 bt671.2 true)))) = some r := H
    have A4 := Aside0.mk A40
    clear A40
    replace H := Option.bind_eq_some_iff.mp H
    obtain ⟨⟨t671, t672⟩, A50, H⟩ := H
    replace H : ((impl_LayoutSame.f k t667 t671).bind fun t675 => (if t675 = true then (if (t668 != t672) = true then (laws_FnNestCat.j0 k t661 t662 t667 t668 t671 t672 true) else (laws_FnNestCat.j0 k t661 t662 t667 t668 t671 t672 (!t668))) else (laws_FnNestCat.j0 k t661 t662 t667 t668 t671 t672 true))) = some r := H
    have A5 := Aside0.mk A50
    clear A50
    have HC6 := Aside0.mk H
    clear H
    go_enter Try.func8, Try.ntmps8
    go_upto_region 6 with (first | ((with_reducible refine gate_callee (f := 15) rfl ?_); refine goesL_ (some 22) rfl rfl Try.func15 (by kernel_rfl) rfl #[.slice A0 l0.length c0] rfl (by (try simp only [List.map_toArray, List.map_cons, List.map_nil]); first | done | rfl | (simp only [List.length_drop, List.length_take]; rfl)) ?_; (with_reducible refine (spec_DrawCatLayouts.calls k _ _ l0 t661 t662 _ ?side1 ?side2 A3.out).mono ?_); (case side1 => repeat (first | exact HR0.out | (with_reducible refine Kd.C_alloc ?_ _) | (with_reducible refine Kd.C_drewN ?_ _) | (with_reducible refine Kd.C_drew ?_))); (case side2 => exact HC0.out); rintro e w7 ⟨v663, v665, rfl, ho0, ho1, hb⟩; refine ⟨_, rfl, ?_⟩; have n0_ := Aside0.mk (Kd.R_lower ho0 (below_size (gB HB))); have n1_ := Aside0.mk (Kd.R_lower ho1 (below_size (gB HB))); have n2_ := Aside0.mk (below_step (gB HB) hb); clear HB; have HO664 := n0_; have HO666 := n1_; have HB := n2_; clear n0_ n1_ n2_; (try clear hb); (try clear hb2); (try clear hk); (try clear hi); (try clear ho0); (try clear ho1); obtain ⟨Ao8, co8, eo8⟩ := Kd.R_slice HO664.out; subst eo8; obtain ⟨Ao9, co9, eo9⟩ := Kd.R_slice HO666.out; subst eo9) | ((with_reducible refine gate_callee (f := 16) rfl ?_); refine goesL_ (some 28) rfl rfl Try.func16 (by kernel_rfl) rfl #[.slice Ao8 t661.length co8, .slice Ao9 t662.length co9] rfl (by (try simp only [List.map_toArray, List.map_cons, List.map_nil]); first | done | rfl | (simp only [List.length_drop, List.length_take]; rfl)) ?_; (with_reducible refine (impl_CatLayouts.calls k _ _ t661 _ _ t662 t667 t668 _ ?side1 ?side2 ?side3 ?side4 A4.out).mono ?_); (case side1 => exact gC ((Kd.R_reads' HO664.out).2.2)); (case side2 => exact (Kd.R_reads' HO664.out).2.1); (case side3 => exact gC ((Kd.R_reads' HO666.out).2.2)); (case side4 => exact (Kd.R_reads' HO666.out).2.1); rintro e w10 ⟨v669, rfl, ho0, hb⟩; refine ⟨_, rfl, ?_⟩; have n0_ := Aside0.mk (Kd.R_elder' (gR HO664) (Kd.R_base ho0) hb); have n1_ := Aside0.mk (Kd.R_elder' (gR HO666) (Kd.R_base ho0) hb); have n2_ := Aside0.mk (Kd.R_lower (Kd.R_new' (Kd.R_new' ho0 (Kd.R_lt (gR HO664))) (Kd.R_lt (gR HO666))) (below_size (gB HB))); have n3_ := Aside0.mk (below_step (gB HB) hb); clear HO664; clear HO666; clear HB; have HO664 := n0_; have HO666 := n1_; have HO670 := n2_; have HB := n3_; clear n0_ n1_ n2_ n3_; (try clear hb); (try clear hb2); (try clear hk); (try clear hi); (try clear ho0)) | ((with_reducible refine gate_callee (f := 17) rfl ?_); refine goesL_ (some 34) rfl rfl Try.func17 (by kernel_rfl) rfl #[.slice Ao8 t661.length co8, .slice Ao9 t662.length co9] rfl (by (try simp only [List.map_toArray, List.map_cons, List.map_nil]); first | done | rfl | (simp only [List.length_drop, List.length_take]; rfl)) ?_; (with_reducible refine (spec_CatLayouts.calls k _ _ t661 _ _ t662 t671 t672 _ ?side1 ?side2 ?side3 ?side4 A5.out).mono ?_); (case side1 => exact gC ((Kd.R_reads' HO664.out).2.2)); (case side2 => exact (Kd.R_reads' HO664.out).2.1); (case side3 => exact gC ((Kd.R_reads' HO666.out).2.2)); (case side4 => exact (Kd.R_reads' HO666.out).2.1); rintro e w11 ⟨v673, rfl, ho0, hb⟩; refine ⟨_, rfl, ?_⟩; have n0_ := Aside0.mk (Kd.R_elder' (gR HO664) (Kd.R_base ho0) hb); have n1_ := Aside0.mk (Kd.R_elder' (gR HO666) (Kd.R_base ho0) hb); have n2_ := Aside0.mk (Kd.R_elder' (gR HO670) (Kd.R_base ho0) hb); have n3_ := Aside0.mk (Kd.R_lower (Kd.R_new' (Kd.R_new' (Kd.R_new' ho0 (Kd.R_lt (gR HO664))) (Kd.R_lt (gR HO666))) (Kd.R_lt (gR HO670))) (below_size (gB HB))); have n4_ := Aside0.mk (below_step (gB HB) hb); clear HO664; clear HO666; clear HO670; clear HB; have HO664 := n0_; have HO666 := n1_; have HO670 := n2_; have HO674 := n3_; have HB := n4_; clear n0_ n1_ n2_ n3_ n4_; (try clear hb); (try clear hb2); (try clear hk); (try clear hi); (try clear ho0)))
    (try simp only [Act.put, List.setIfInBounds_toArray, List.set_cons_zero, List.set_cons_succ])
    go_cut [49] (fun v49 wc => ∃ (kq : Nat) (x49_5 : Bool), v49 = .bool x49_5 ∧ Aside0 (laws_FnNestCat.j0 kq t661 t662 t667 t668 t671 t672 x49_5 = some r) ∧ Aside0 (kq ≤ k) ∧ Aside0 (Kd.R k30 30 wc w.heap.size (fun k_ => some k_ ≠ ((.slice Ao9 t662.length co9) : Value).ownBlock ∧ some k_ ≠ (v669 : Value).ownBlock ∧ some k_ ≠ (v673 : Value).ownBlock) (.slice Ao8 t661.length co8) t661) ∧ Aside0 (Kd.R k30 30 wc w.heap.size (fun k_ => some k_ ≠ ((.slice Ao8 t661.length co8) : Value).ownBlock ∧ some k_ ≠ (v669 : Value).ownBlock ∧ some k_ ≠ (v673 : Value).ownBlock) (.slice Ao9 t662.length co9) t662) ∧ Aside0 (Kd.R k30 30 wc w.heap.size (fun k_ => some k_ ≠ ((.slice Ao8 t661.length co8) : Value).ownBlock ∧ some k_ ≠ ((.slice Ao9 t662.length co9) : Value).ownBlock ∧ some k_ ≠ (v673 : Value).ownBlock) v669 t667) ∧ Aside0 (Kd.R k30 30 wc w.heap.size (fun k_ => some k_ ≠ ((.slice Ao8 t661.length co8) : Value).ownBlock ∧ some k_ ≠ ((.slice Ao9 t662.length co9) : Value).ownBlock ∧ some k_ ≠ (v669 : Value).ownBlock) v673 t671) ∧ Aside0 (Below w.heap.size w wc))
    case first =>
      have H := HC6.out
      clear HC6
      replace H := Option.bind_eq_some_iff.mp H
      obtain ⟨t675, A120, H⟩ := H
      replace H : (if t675 = true then (if (t668 != t672) = true then (laws_FnNestCat.j0 k t661 t662 t667 t668 t671 t672 true) else (laws_FnNestCat.j0 k t661 t662 t667 t668 t671 t672 (!t668))) else (laws_FnNestCat.j0 k t661 t662 t667 t668 t671 t672 true)) = some r := H
      have A12 := Aside0.mk A120
      clear A120
      by_cases c13 : t675 = true
      · subst c13
        have H1 : (if (t668 != t672) = true then (laws_FnNestCat.j0 k t661 t662 t667 t668 t671 t672 true) else (laws_FnNestCat.j0 k t661 t662 t667 t668 t671 t672 (!t668))) = some r := by rw [if_pos rfl] at H; exact H
        clear H
        have H := H1
        clear H1
        by_cases c14 : (t668 != t672) = true
        · rw [if_pos c14] at H
          have c14b0 : (t668 != t672) = true := c14
          (try (have c14b1 : decide (t668 = t672) = false := by simpa using c14))
          (try (have c14b2 : (t668 == t672) = false := by simpa using c14))
          (try (have c14b3 : ¬ (t668 = t672) := by simpa using c14))
          clear c14
          (first | rw [c14b0] | (simp only [i64_w, i32_w]; rw [c14b0]) | skip)
          have H' := Aside0.mk H
          clear H
          obtain ⟨Ao15, co15, eo15⟩ := Kd.R_slice HO670.out
          subst eo15
          obtain ⟨Ao16, co16, eo16⟩ := Kd.R_slice HO674.out
          subst eo16
          go_wp2_with (first | ((with_reducible refine gate_callee (f := 18) rfl ?_); refine goesL_ (some 39) rfl rfl Try.func18 (by kernel_rfl) rfl #[.slice Ao15 t667.length co15, .slice Ao16 t671.length co16] rfl (by (try simp only [List.map_toArray, List.map_cons, List.map_nil]); first | done | rfl | (simp only [List.length_drop, List.length_take]; rfl)) ?_; (with_reducible refine (impl_LayoutSame.calls k _ _ t667 _ _ t671 true _ ?side1 ?side2 ?side3 ?side4 A12.out).mono ?_); (case side1 => exact gC ((Kd.R_reads' HO670.out).2.2)); (case side2 => exact (Kd.R_reads' HO670.out).2.1); (case side3 => exact gC ((Kd.R_reads' HO674.out).2.2)); (case side4 => exact (Kd.R_reads' HO674.out).2.1); rintro e w' ⟨rfl, ⟨nd, rfl⟩⟩; refine ⟨_, rfl, ?_⟩))
          go_meet
          case rel => exact ⟨_, (true), (by first | rfl | (simp; done) | (simp [*]; done)), H', ⟨by first | omega | exact Nat.le_refl _⟩, ⟨by (with_reducible repeat (first | apply Kd.R_alloc | apply Kd.R_drewN | apply Kd.R_drew)); exact Kd.R_mono HO664.out (fun _ hk => ⟨hk.1.1, ⟨hk.1.2, hk.2⟩⟩)⟩, ⟨by (with_reducible repeat (first | apply Kd.R_alloc | apply Kd.R_drewN | apply Kd.R_drew)); exact Kd.R_mono HO666.out (fun _ hk => ⟨hk.1.1, ⟨hk.1.2, hk.2⟩⟩)⟩, ⟨by (with_reducible repeat (first | apply Kd.R_alloc | apply Kd.R_drewN | apply Kd.R_drew)); exact Kd.R_mono HO670.out (fun _ hk => ⟨hk.1.1.2, ⟨hk.1.2, hk.2⟩⟩)⟩, ⟨by (with_reducible repeat (first | apply Kd.R_alloc | apply Kd.R_drewN | apply Kd.R_drew)); exact Kd.R_mono HO674.out (fun _ hk => ⟨hk.1.1.2, ⟨hk.1.2, hk.2⟩⟩)⟩, ⟨gB HB⟩⟩
        · rw [if_neg c14] at H
          have c14b0 : (t668 != t672) = false := by simpa using c14
          (try (have c14b1 : decide (t668 = t672) = true := by simpa using c14))
          (try (have c14b2 : (t668 == t672) = true := by simpa using c14))
          clear c14
          (first | rw [c14b0] | (simp only [i64_w, i32_w]; rw [c14b0]) | skip)
          have H' := Aside0.mk H
          clear H
          obtain ⟨Ao17, co17, eo17⟩ := Kd.R_slice HO670.out
          subst eo17
          obtain ⟨Ao18, co18, eo18⟩ := Kd.R_slice HO674.out
          subst eo18
          go_wp2_with (first | ((with_reducible refine gate_callee (f := 18) rfl ?_); refine goesL_ (some 39) rfl rfl Try.func18 (by kernel_rfl) rfl #[.slice Ao17 t667.length co17, .slice Ao18 t671.length co18] rfl (by (try simp only [List.map_toArray, List.map_cons, List.map_nil]); first | done | rfl | (simp only [List.length_drop, List.length_take]; rfl)) ?_; (with_reducible refine (impl_LayoutSame.calls k _ _ t667 _ _ t671 true _ ?side1 ?side2 ?side3 ?side4 A12.out).mono ?_); (case side1 => exact gC ((Kd.R_reads' HO670.out).2.2)); (case side2 => exact (Kd.R_reads' HO670.out).2.1); (case side3 => exact gC ((Kd.R_reads' HO674.out).2.2)); (case side4 => exact (Kd.R_reads' HO674.out).2.1); rintro e w' ⟨rfl, ⟨nd, rfl⟩⟩; refine ⟨_, rfl, ?_⟩))
          go_meet
          case rel => exact ⟨_, (!t668), (by first | rfl | (simp; done) | (simp [*]; done)), H', ⟨by first | omega | exact Nat.le_refl _⟩, ⟨by (with_reducible repeat (first | apply Kd.R_alloc | apply Kd.R_drewN | apply Kd.R_drew)); exact Kd.R_mono HO664.out (fun _ hk => ⟨hk.1.1, ⟨hk.1.2, hk.2⟩⟩)⟩, ⟨by (with_reducible repeat (first | apply Kd.R_alloc | apply Kd.R_drewN | apply Kd.R_drew)); exact Kd.R_mono HO666.out (fun _ hk => ⟨hk.1.1, ⟨hk.1.2, hk.2⟩⟩)⟩, ⟨by (with_reducible repeat (first | apply Kd.R_alloc | apply Kd.R_drewN | apply Kd.R_drew)); exact Kd.R_mono HO670.out (fun _ hk => ⟨hk.1.1.2, ⟨hk.1.2, hk.2⟩⟩)⟩, ⟨by (with_reducible repeat (first | apply Kd.R_alloc | apply Kd.R_drewN | apply Kd.R_drew)); exact Kd.R_mono HO674.out (fun _ hk => ⟨hk.1.1.2, ⟨hk.1.2, hk.2⟩⟩)⟩, ⟨gB HB⟩⟩
      · replace c13 := Bool.eq_false_iff.mpr c13
        subst c13
        have H1 : (laws_FnNestCat.j0 k t661 t662 t667 t668 t671 t672 true) = some r := by rw [if_neg (show ¬ (false = true) by decide)] at H; exact H
        clear H
        have H := H1
        clear H1
        have H' := Aside0.mk H
        clear H
        obtain ⟨Ao19, co19, eo19⟩ := Kd.R_slice HO670.out
        subst eo19
        obtain ⟨Ao20, co20, eo20⟩ := Kd.R_slice HO674.out
        subst eo20
        go_wp2_with (first | ((with_reducible refine gate_callee (f := 18) rfl ?_); refine goesL_ (some 39) rfl rfl Try.func18 (by kernel_rfl) rfl #[.slice Ao19 t667.length co19, .slice Ao20 t671.length co20] rfl (by (try simp only [List.map_toArray, List.map_cons, List.map_nil]); first | done | rfl | (simp only [List.length_drop, List.length_take]; rfl)) ?_; (with_reducible refine (impl_LayoutSame.calls k _ _ t667 _ _ t671 false _ ?side1 ?side2 ?side3 ?side4 A12.out).mono ?_); (case side1 => exact gC ((Kd.R_reads' HO670.out).2.2)); (case side2 => exact (Kd.R_reads' HO670.out).2.1); (case side3 => exact gC ((Kd.R_reads' HO674.out).2.2)); (case side4 => exact (Kd.R_reads' HO674.out).2.1); rintro e w' ⟨rfl, ⟨nd, rfl⟩⟩; refine ⟨_, rfl, ?_⟩))
        go_meet
        case rel => exact ⟨_, (true), (by first | rfl | (simp; done) | (simp [*]; done)), H', ⟨by first | omega | exact Nat.le_refl _⟩, ⟨by (with_reducible repeat (first | apply Kd.R_alloc | apply Kd.R_drewN | apply Kd.R_drew)); exact Kd.R_mono HO664.out (fun _ hk => ⟨hk.1.1, ⟨hk.1.2, hk.2⟩⟩)⟩, ⟨by (with_reducible repeat (first | apply Kd.R_alloc | apply Kd.R_drewN | apply Kd.R_drew)); exact Kd.R_mono HO666.out (fun _ hk => ⟨hk.1.1, ⟨hk.1.2, hk.2⟩⟩)⟩, ⟨by (with_reducible repeat (first | apply Kd.R_alloc | apply Kd.R_drewN | apply Kd.R_drew)); exact Kd.R_mono HO670.out (fun _ hk => ⟨hk.1.1.2, ⟨hk.1.2, hk.2⟩⟩)⟩, ⟨by (with_reducible repeat (first | apply Kd.R_alloc | apply Kd.R_drewN | apply Kd.R_drew)); exact Kd.R_mono HO674.out (fun _ hk => ⟨hk.1.1.2, ⟨hk.1.2, hk.2⟩⟩)⟩, ⟨gB HB⟩⟩
    case rest =>
      clear HC6
      try clear c1
      try clear c2
      try clear c2b0
      try clear c2b1
      try clear p2
      try clear c8
      try clear c13
      try clear c14
      try clear c14b0
      try clear c14b1
      try clear c14b2
      try clear c15
      try clear c16
      try clear c17
      try clear c18
      obtain ⟨kq, x49_5, rfl, HA, HJ5, HO_3, HO_4, HO_5, HO_7, HB⟩ := hcut
      cases kq with
      | zero => exact absurd HA.out (by simp [laws_FnNestCat.j0])
      | succ kj5 =>
        have H := HA.out
        clear HA
        simp only [laws_FnNestCat.j0] at H
        by_cases c21 : x49_5 = true
        · subst c21
          have H1 : ((impl_LayoutSame.f kj5 t667 t671).bind fun t676 => (if t676 = true then (some (t668 == t672)) else (none))) = some r := by rw [if_pos rfl] at H; exact H
          clear H
          have H := H1
          clear H1
          replace H := Option.bind_eq_some_iff.mp H
          obtain ⟨t676, A220, H⟩ := H
          replace H : (if t676 = true then (some (t668 == t672)) else (none)) = some r := H
          have A22 := Aside0.mk A220
          clear A220
          by_cases c23 : t676 = true
          · subst c23
            have H1 : (some (t668 == t672)) = some r := by rw [if_pos rfl] at H; exact H
            clear H
            have H := H1
            clear H1
            obtain rfl := Option.some.inj H
            obtain ⟨Ao24, co24, eo24⟩ := Kd.R_slice HO_5.out
            subst eo24
            obtain ⟨Ao25, co25, eo25⟩ := Kd.R_slice HO_7.out
            subst eo25
            go_wp2_with (first | ((with_reducible refine gate_callee (f := 18) rfl ?_); refine goesL_ (some 52) rfl rfl Try.func18 (by kernel_rfl) rfl #[.slice Ao24 t667.length co24, .slice Ao25 t671.length co25] rfl (by (try simp only [List.map_toArray, List.map_cons, List.map_nil]); first | done | rfl | (simp only [List.length_drop, List.length_take]; rfl)) ?_; (with_reducible refine (impl_LayoutSame.calls kj5 _ _ t667 _ _ t671 true _ ?side1 ?side2 ?side3 ?side4 A22.out).mono ?_); (case side1 => exact gC ((Kd.R_reads' HO_5.out).2.2)); (case side2 => exact (Kd.R_reads' HO_5.out).2.1); (case side3 => exact gC ((Kd.R_reads' HO_7.out).2.2)); (case side4 => exact (Kd.R_reads' HO_7.out).2.1); rintro e w' ⟨rfl, ⟨nd, rfl⟩⟩; refine ⟨_, rfl, ?_⟩))
            go_ret
            exact ⟨by first | rfl | (simp [errW_none, errW_some] <;> rfl) | (simp [*, errW_none, errW_some] <;> rfl), gB HB⟩
          · replace c23 := Bool.eq_false_iff.mpr c23
            subst c23
            have H1 : (none) = some r := by rw [if_neg (show ¬ (false = true) by decide)] at H; exact H
            clear H
            have H := H1
            clear H1
            exact absurd H (by simp)
        · replace c21 := Bool.eq_false_iff.mpr c21
          subst c21
          have H1 : ((impl_NestLayout.f kj5 3 t661).bind fun bt677 => ((impl_NestLayout.f kj5 3 t662).bind fun bt681 => ((impl_NestLayout.f kj5 3 t667).bind fun bt685 => (if bt677.2 = true then (if bt681.2 = true then (laws_FnNestCat.j1 kj5 bt677.1 bt681.1 bt685.1 (!bt685.2)) else (laws_FnNestCat.j1 kj5 bt677.1 bt681.1 bt685.1 true)) else (laws_FnNestCat.j1 kj5 bt677.1 bt681.1 bt685.1 true))))) = some r := by rw [if_neg (show ¬ (false = true) by decide)] at H; exact H
          clear H
          have H := H1
          clear H1
          replace H := Option.bind_eq_some_iff.mp H
          obtain ⟨⟨t677, t678⟩, A260, H⟩ := H
          replace H : ((impl_NestLayout.f kj5 3 t662).bind fun bt681 => ((impl_NestLayout.f kj5 3 t667).bind fun bt685 => (if t678 = true then (if bt681.2 = true then (laws_FnNestCat.j1 kj5 t677 bt681.1 bt685.1 (!bt685.2)) else (laws_FnNestCat.j1 kj5 t677 bt681.1 bt685.1 true)) else (laws_FnNestCat.j1 kj5 t677 bt681.1 bt685.1 true)))) = some r := H
          have A26 := Aside0.mk A260
          clear A260
          replace H := Option.bind_eq_some_iff.mp H
          obtain ⟨⟨t681, t682⟩, A270, H⟩ := H
          replace H : ((impl_NestLayout.f kj5 3 t667).bind fun bt685 => (if t678 = true then (if t682 = true then (laws_FnNestCat.j1 kj5 t677 t681 bt685.1 (!bt685.2)) else (laws_FnNestCat.j1 kj5 t677 t681 bt685.1 true)) else (laws_FnNestCat.j1 kj5 t677 t681 bt685.1 true))) = some r := H
          have A27 := Aside0.mk A270
          clear A270
          replace H := Option.bind_eq_some_iff.mp H
          obtain ⟨⟨t685, t686⟩, A280, H⟩ := H
          replace H : (if t678 = true then (if t682 = true then (laws_FnNestCat.j1 kj5 t677 t681 t685 (!t686)) else (laws_FnNestCat.j1 kj5 t677 t681 t685 true)) else (laws_FnNestCat.j1 kj5 t677 t681 t685 true)) = some r := H
          have A28 := Aside0.mk A280
          clear A280
          have HC29 := Aside0.mk H
          clear H
          go_upto_region 11 with (first | ((with_reducible refine gate_callee (f := 21) rfl ?_); refine goesL_ (some 60) rfl rfl Try.func21 (by kernel_rfl) rfl #[.int .i64 3, .slice Ao8 t661.length co8] rfl (by (try simp only [List.map_toArray, List.map_cons, List.map_nil]); first | done | rfl | (simp only [List.length_drop, List.length_take]; rfl)) ?_; (with_reducible refine (impl_NestLayout.calls kj5 3 _ _ t661 t677 t678 _ ?side1 ?side2 A26.out).mono ?_); (case side1 => exact gC ((Kd.R_reads' HO_3.out).2.2)); (case side2 => exact (Kd.R_reads' HO_3.out).2.1); rintro e w30 ⟨v679, rfl, ho0, hb⟩; refine ⟨_, rfl, ?_⟩; have n0_ := Aside0.mk (Kd.R_elder' (gR HO_3) (Kd.R_base ho0) hb); have n1_ := Aside0.mk (Kd.R_elder' (gR HO_4) (Kd.R_base ho0) hb); have n2_ := Aside0.mk (Kd.R_elder' (gR HO_5) (Kd.R_base ho0) hb); have n3_ := Aside0.mk (Kd.R_elder' (gR HO_7) (Kd.R_base ho0) hb); have n4_ := Aside0.mk (Kd.R_lower (Kd.R_new' (Kd.R_new' (Kd.R_new' (Kd.R_new' ho0 (Kd.R_lt (gR HO_3))) (Kd.R_lt (gR HO_4))) (Kd.R_lt (gR HO_5))) (Kd.R_lt (gR HO_7))) (below_size (gB HB))); have n5_ := Aside0.mk (below_step (gB HB) hb); clear HO_3; clear HO_4; clear HO_5; clear HO_7; clear HB; have HO_3 := n0_; have HO_4 := n1_; have HO_5 := n2_; have HO_7 := n3_; have HO680 := n4_; have HB := n5_; clear n0_ n1_ n2_ n3_ n4_ n5_; (try clear hb); (try clear hb2); (try clear hk); (try clear hi); (try clear ho0)) | ((with_reducible refine gate_callee (f := 21) rfl ?_); refine goesL_ (some 65) rfl rfl Try.func21 (by kernel_rfl) rfl #[.int .i64 3, .slice Ao9 t662.length co9] rfl (by (try simp only [List.map_toArray, List.map_cons, List.map_nil]); first | done | rfl | (simp only [List.length_drop, List.length_take]; rfl)) ?_; (with_reducible refine (impl_NestLayout.calls kj5 3 _ _ t662 t681 t682 _ ?side1 ?side2 A27.out).mono ?_); (case side1 => exact gC ((Kd.R_reads' HO_4.out).2.2)); (case side2 => exact (Kd.R_reads' HO_4.out).2.1); rintro e w31 ⟨v683, rfl, ho0, hb⟩; refine ⟨_, rfl, ?_⟩; have n0_ := Aside0.mk (Kd.R_elder' (gR HO_3) (Kd.R_base ho0) hb); have n1_ := Aside0.mk (Kd.R_elder' (gR HO_4) (Kd.R_base ho0) hb); have n2_ := Aside0.mk (Kd.R_elder' (gR HO_5) (Kd.R_base ho0) hb); have n3_ := Aside0.mk (Kd.R_elder' (gR HO_7) (Kd.R_base ho0) hb); have n4_ := Aside0.mk (Kd.R_elder' (gR HO680) (Kd.R_base ho0) hb); have n5_ := Aside0.mk (Kd.R_lower (Kd.R_new' (Kd.R_new' (Kd.R_new' (Kd.R_new' (Kd.R_new' ho0 (Kd.R_lt (gR HO_3))) (Kd.R_lt (gR HO_4))) (Kd.R_lt (gR HO_5))) (Kd.R_lt (gR HO_7))) (Kd.R_lt (gR HO680))) (below_size (gB HB))); have n6_ := Aside0.mk (below_step (gB HB) hb); clear HO_3; clear HO_4; clear HO_5; clear HO_7; clear HO680; clear HB; have HO_3 := n0_; have HO_4 := n1_; have HO_5 := n2_; have HO_7 := n3_; have HO680 := n4_; have HO684 := n5_; have HB := n6_; clear n0_ n1_ n2_ n3_ n4_ n5_ n6_; (try clear hb); (try clear hb2); (try clear hk); (try clear hi); (try clear ho0); obtain ⟨Ao32, co32, eo32⟩ := Kd.R_slice HO_5.out; subst eo32) | ((with_reducible refine gate_callee (f := 21) rfl ?_); refine goesL_ (some 70) rfl rfl Try.func21 (by kernel_rfl) rfl #[.int .i64 3, .slice Ao32 t667.length co32] rfl (by (try simp only [List.map_toArray, List.map_cons, List.map_nil]); first | done | rfl | (simp only [List.length_drop, List.length_take]; rfl)) ?_; (with_reducible refine (impl_NestLayout.calls kj5 3 _ _ t667 t685 t686 _ ?side1 ?side2 A28.out).mono ?_); (case side1 => exact gC ((Kd.R_reads' HO_5.out).2.2)); (case side2 => exact (Kd.R_reads' HO_5.out).2.1); rintro e w33 ⟨v687, rfl, ho0, hb⟩; refine ⟨_, rfl, ?_⟩; have n0_ := Aside0.mk (Kd.R_elder' (gR HO_3) (Kd.R_base ho0) hb); have n1_ := Aside0.mk (Kd.R_elder' (gR HO_4) (Kd.R_base ho0) hb); have n2_ := Aside0.mk (Kd.R_elder' (gR HO_5) (Kd.R_base ho0) hb); have n3_ := Aside0.mk (Kd.R_elder' (gR HO_7) (Kd.R_base ho0) hb); have n4_ := Aside0.mk (Kd.R_elder' (gR HO680) (Kd.R_base ho0) hb); have n5_ := Aside0.mk (Kd.R_elder' (gR HO684) (Kd.R_base ho0) hb); have n6_ := Aside0.mk (Kd.R_lower (Kd.R_new' (Kd.R_new' (Kd.R_new' (Kd.R_new' (Kd.R_new' (Kd.R_new' ho0 (Kd.R_lt (gR HO_3))) (Kd.R_lt (gR HO_4))) (Kd.R_lt (gR HO_5))) (Kd.R_lt (gR HO_7))) (Kd.R_lt (gR HO680))) (Kd.R_lt (gR HO684))) (below_size (gB HB))); have n7_ := Aside0.mk (below_step (gB HB) hb); clear HO_3; clear HO_4; clear HO_5; clear HO_7; clear HO680; clear HO684; clear HB; have HO_3 := n0_; have HO_4 := n1_; have HO_5 := n2_; have HO_7 := n3_; have HO680 := n4_; have HO684 := n5_; have HO688 := n6_; have HB := n7_; clear n0_ n1_ n2_ n3_ n4_ n5_ n6_ n7_; (try clear hb); (try clear hb2); (try clear hk); (try clear hi); (try clear ho0)))
          (try simp only [Act.put, List.setIfInBounds_toArray, List.set_cons_zero, List.set_cons_succ])
          go_cut [82] (fun v82 wc => ∃ (kq : Nat) (x82_28 : Bool), v82 = .bool x82_28 ∧ Aside0 (laws_FnNestCat.j1 kq t677 t681 t685 x82_28 = some r) ∧ Aside0 (kq ≤ kj5) ∧ Aside0 (Kd.R k30 30 wc w.heap.size (fun k_ => some k_ ≠ (v683 : Value).ownBlock ∧ some k_ ≠ (v687 : Value).ownBlock) v679 t677) ∧ Aside0 (Kd.R k30 30 wc w.heap.size (fun k_ => some k_ ≠ (v679 : Value).ownBlock ∧ some k_ ≠ (v687 : Value).ownBlock) v683 t681) ∧ Aside0 (Kd.R k30 30 wc w.heap.size (fun k_ => some k_ ≠ (v679 : Value).ownBlock ∧ some k_ ≠ (v683 : Value).ownBlock) v687 t685) ∧ Aside0 (Below w.heap.size w wc))
          case first =>
            have H := HC29.out
            clear HC29
            by_cases c34 : t678 = true
            · subst c34
              have H1 : (if t682 = true then (laws_FnNestCat.j1 kj5 t677 t681 t685 (!t686)) else (laws_FnNestCat.j1 kj5 t677 t681 t685 true)) = some r := by rw [if_pos rfl] at H; exact H
              clear H
              have H := H1
              clear H1
              by_cases c35 : t682 = true
              · subst c35
                have H1 : (laws_FnNestCat.j1 kj5 t677 t681 t685 (!t686)) = some r := by rw [if_pos rfl] at H; exact H
                clear H
                have H := H1
                clear H1
                have H' := Aside0.mk H
                clear H
                go_wp2
                go_meet
                case rel => exact ⟨_, (!t686), (by first | rfl | (simp; done) | (simp [*]; done)), H', ⟨by have := HJ5.out; first | omega | exact Nat.le_refl _⟩, ⟨by (with_reducible repeat (first | apply Kd.R_alloc | apply Kd.R_drewN | apply Kd.R_drew)); exact Kd.R_mono HO680.out (fun _ hk => ⟨hk.1.2, hk.2⟩)⟩, ⟨by (with_reducible repeat (first | apply Kd.R_alloc | apply Kd.R_drewN | apply Kd.R_drew)); exact Kd.R_mono HO684.out (fun _ hk => ⟨hk.1.2, hk.2⟩)⟩, ⟨by (with_reducible repeat (first | apply Kd.R_alloc | apply Kd.R_drewN | apply Kd.R_drew)); exact Kd.R_mono HO688.out (fun _ hk => ⟨hk.1.2, hk.2⟩)⟩, ⟨gB HB⟩⟩
              · replace c35 := Bool.eq_false_iff.mpr c35
                subst c35
                have H1 : (laws_FnNestCat.j1 kj5 t677 t681 t685 true) = some r := by rw [if_neg (show ¬ (false = true) by decide)] at H; exact H
                clear H
                have H := H1
                clear H1
                have H' := Aside0.mk H
                clear H
                go_wp2
                go_meet
                case rel => exact ⟨_, (true), (by first | rfl | (simp; done) | (simp [*]; done)), H', ⟨by have := HJ5.out; first | omega | exact Nat.le_refl _⟩, ⟨by (with_reducible repeat (first | apply Kd.R_alloc | apply Kd.R_drewN | apply Kd.R_drew)); exact Kd.R_mono HO680.out (fun _ hk => ⟨hk.1.2, hk.2⟩)⟩, ⟨by (with_reducible repeat (first | apply Kd.R_alloc | apply Kd.R_drewN | apply Kd.R_drew)); exact Kd.R_mono HO684.out (fun _ hk => ⟨hk.1.2, hk.2⟩)⟩, ⟨by (with_reducible repeat (first | apply Kd.R_alloc | apply Kd.R_drewN | apply Kd.R_drew)); exact Kd.R_mono HO688.out (fun _ hk => ⟨hk.1.2, hk.2⟩)⟩, ⟨gB HB⟩⟩
            · replace c34 := Bool.eq_false_iff.mpr c34
              subst c34
              have H1 : (laws_FnNestCat.j1 kj5 t677 t681 t685 true) = some r := by rw [if_neg (show ¬ (false = true) by decide)] at H; exact H
              clear H
              have H := H1
              clear H1
              have H' := Aside0.mk H
              clear H
              go_wp2
              go_meet
              case rel => exact ⟨_, (true), (by first | rfl | (simp; done) | (simp [*]; done)), H', ⟨by have := HJ5.out; first | omega | exact Nat.le_refl _⟩, ⟨by (with_reducible repeat (first | apply Kd.R_alloc | apply Kd.R_drewN | apply Kd.R_drew)); exact Kd.R_mono HO680.out (fun _ hk => ⟨hk.1.2, hk.2⟩)⟩, ⟨by (with_reducible repeat (first | apply Kd.R_alloc | apply Kd.R_drewN | apply Kd.R_drew)); exact Kd.R_mono HO684.out (fun _ hk => ⟨hk.1.2, hk.2⟩)⟩, ⟨by (with_reducible repeat (first | apply Kd.R_alloc | apply Kd.R_drewN | apply Kd.R_drew)); exact Kd.R_mono HO688.out (fun _ hk => ⟨hk.1.2, hk.2⟩)⟩, ⟨gB HB⟩⟩
          case rest =>
            clear HC29
            try clear c1
            try clear c2
            try clear c2b0
            try clear c2b1
            try clear p2
            try clear c3
            try clear c8
            try clear c13
            try clear c14
            try clear c14b0
            try clear c14b1
            try clear c14b2
            try clear c15
            try clear c16
            try clear c17
            try clear c18
            try clear c21
            try clear c23
            try clear c34
            try clear c35
            try clear p2
            obtain ⟨kq, x82_28, rfl, HA, HJ28, HO_9, HO_11, HO_13, HB⟩ := hcut
            cases kq with
            | zero => exact absurd HA.out (by simp [laws_FnNestCat.j1])
            | succ kj28 =>
              have H := HA.out
              clear HA
              simp only [laws_FnNestCat.j1] at H
              by_cases c36 : x82_28 = true
              · subst c36
                have H1 : (some true) = some r := by rw [if_pos rfl] at H; exact H
                clear H
                have H := H1
                clear H1
                obtain rfl := Option.some.inj H
                go_wp2
                go_ret
                exact ⟨by first | rfl | (simp [errW_none, errW_some] <;> rfl) | (simp [*, errW_none, errW_some] <;> rfl), gB HB⟩
              · replace c36 := Bool.eq_false_iff.mpr c36
                subst c36
                have H1 : ((impl_CatLayouts.f kj28 t677 t681).bind fun bt689 => (if bt689.2 = true then ((impl_LayoutSame.f kj28 bt689.1 t685).bind fun t693 => (some t693)) else (none))) = some r := by rw [if_neg (show ¬ (false = true) by decide)] at H; exact H
                clear H
                have H := H1
                clear H1
                replace H := Option.bind_eq_some_iff.mp H
                obtain ⟨⟨t689, t690⟩, A370, H⟩ := H
                replace H : (if t690 = true then ((impl_LayoutSame.f kj28 t689 t685).bind fun t693 => (some t693)) else (none)) = some r := H
                have A37 := Aside0.mk A370
                clear A370
                by_cases c38 : t690 = true
                · subst c38
                  have H1 : ((impl_LayoutSame.f kj28 t689 t685).bind fun t693 => (some t693)) = some r := by rw [if_pos rfl] at H; exact H
                  clear H
                  have H := H1
                  clear H1
                  replace H := Option.bind_eq_some_iff.mp H
                  obtain ⟨t693, A390, H⟩ := H
                  replace H : (some t693) = some r := H
                  have A39 := Aside0.mk A390
                  clear A390
                  obtain rfl := Option.some.inj H
                  obtain ⟨Ao40, co40, eo40⟩ := Kd.R_slice HO_9.out
                  subst eo40
                  obtain ⟨Ao41, co41, eo41⟩ := Kd.R_slice HO_11.out
                  subst eo41
                  go_wp2_with (first | ((with_reducible refine gate_callee (f := 16) rfl ?_); refine goesL_ (some 86) rfl rfl Try.func16 (by kernel_rfl) rfl #[.slice Ao40 t677.length co40, .slice Ao41 t681.length co41] rfl (by (try simp only [List.map_toArray, List.map_cons, List.map_nil]); first | done | rfl | (simp only [List.length_drop, List.length_take]; rfl)) ?_; (with_reducible refine (impl_CatLayouts.calls kj28 _ _ t677 _ _ t681 t689 true _ ?side1 ?side2 ?side3 ?side4 A37.out).mono ?_); (case side1 => exact gC ((Kd.R_reads' HO_9.out).2.2)); (case side2 => exact (Kd.R_reads' HO_9.out).2.1); (case side3 => exact gC ((Kd.R_reads' HO_11.out).2.2)); (case side4 => exact (Kd.R_reads' HO_11.out).2.1); rintro e w42 ⟨v691, rfl, ho0, hb⟩; refine ⟨_, rfl, ?_⟩; have n0_ := Aside0.mk (Kd.R_elder' (gR HO_9) (Kd.R_base ho0) hb); have n1_ := Aside0.mk (Kd.R_elder' (gR HO_11) (Kd.R_base ho0) hb); have n2_ := Aside0.mk (Kd.R_elder' (gR HO_13) (Kd.R_base ho0) hb); have n3_ := Aside0.mk (Kd.R_lower (Kd.R_new' (Kd.R_new' (Kd.R_new' ho0 (Kd.R_lt (gR HO_9))) (Kd.R_lt (gR HO_11))) (Kd.R_lt (gR HO_13))) (below_size (gB HB))); have n4_ := Aside0.mk (below_step (gB HB) hb); clear HO_9; clear HO_11; clear HO_13; clear HB; have HO_9 := n0_; have HO_11 := n1_; have HO_13 := n2_; have HO692 := n3_; have HB := n4_; clear n0_ n1_ n2_ n3_ n4_; (try clear hb); (try clear hb2); (try clear hk); (try clear hi); (try clear ho0); obtain ⟨Ao43, co43, eo43⟩ := Kd.R_slice HO692.out; subst eo43; obtain ⟨Ao44, co44, eo44⟩ := Kd.R_slice HO_13.out; subst eo44) | (go_at_call 18; (with_reducible refine (impl_LayoutSame.calls kj28 _ _ t689 _ _ t685 t693 _ ?side1 ?side2 ?side3 ?side4 A39.out).mono ?_); (case side1 => exact gC ((Kd.R_reads' HO692.out).2.2)); (case side2 => exact (Kd.R_reads' HO692.out).2.1); (case side3 => exact gC ((Kd.R_reads' HO_13.out).2.2)); (case side4 => exact (Kd.R_reads' HO_13.out).2.1); rintro e w' ⟨rfl, ⟨nd, rfl⟩⟩))
                  go_ret
                  exact ⟨by first | rfl | (simp [errW_none, errW_some] <;> rfl) | (simp [*, errW_none, errW_some] <;> rfl), gB HB⟩
                · replace c38 := Bool.eq_false_iff.mpr c38
                  subst c38
                  have H1 : (none) = some r := by rw [if_neg (show ¬ (false = true) by decide)] at H; exact H
                  clear H
                  have H := H1
                  clear H1
                  exact absurd H (by simp)
def laws_FnNestCat.Pure : Prop := ∀ (l0 : List Int), l0.length ≤ maxLen → l0.length * 1 ≤ 140737488351232 → (∀ x ∈ l0, (Lit.int .u8 x).wf = true) → ∃ k, laws_FnNestCat.f k l0 = some true
theorem laws_FnNestCat.walk (P : laws_FnNestCat.Pure) (a0 : Option Addr) (len0 cap0 : Nat) (z0 : List Int) (w : World) (w0 : (a0 = none ∧ len0 = 0 ∧ cap0 = 0 ∧ z0 = []) ∨ ∃ x, a0 = some x ∧ len0 ≤ cap0 ∧ cap0 ≤ maxLen ∧ z0.length = cap0 ∧ (∀ i, i < z0.length → w.cell? (x.add i) = some (.int .u8 (z0.getD i 0))) ∧ ∀ n ∈ z0, (Lit.int .u8 n).wf = true) (y0 : len0 * 1 ≤ 140737488351232) :
    Calls Try.prog 8 #[.slice a0 len0 cap0] w fun e w' => e = .returned (.bool true) ∧ Below w.heap.size w w' := by
  obtain ⟨l0, rfl, hr0, hm0, hw0, hc0⟩ := ReadsInt.ofRowC w0
  obtain ⟨k, h⟩ := P l0 hm0 y0 hw0
  refine (laws_FnNestCat.calls k _ _ l0 true w (Kd.C_of_reads (d := (0 : Int)) (h1 := fun _ => rfl) hr0) hc0 h).mono ?_
  rintro e w' ⟨rfl, hd⟩
  exact ⟨rfl, hd⟩
end Go.Proofs.Ytdhdfmmefghijab.P
namespace Go.Proofs.Ytdhdfmmefghijab.Pure
open Go.RowKit Go.Proofs.Ytdhdfmmefghijab.P Go.Proofs.YtdhdfmmefghijabW.PrintWords Go.Proofs.YtdhdfmmefghijabW.PrintLast Go.Proofs.YtdhdfmmefghijabW.PrintMore
set_option linter.unusedVariables false
set_option linter.unusedSimpArgs false
theorem FnNestCat : laws_FnNestCat.Pure := by
  intro l hl _ hw
  refine Ev.rounds (g := fun k => laws_FnNestCat.f k l) (Ev.congr (fun k => by rw [laws_FnNestCat.f]) (big_or ?_))
  obtain ⟨a, b, hd, ha, hb⟩ := drawCat_ev l hl hw
  refine Ev.bind hd (Ev.bind (catI_ev ha hb) (Ev.bind (catS_ev ha hb) (Ev.bind (same_ev (catL_rows a b)) ?_)))
  simp only [if_true, bne_self_eq_false, Bool.false_eq_true, if_false]
  refine Ev.step (fun k => by rw [laws_FnNestCat.j0]) ?_
  cases hx : (catL a b).2 with
  | false =>
    simp only [Bool.not_false, if_true]
    refine Ev.bind (same_ev (catL_rows a b)) ?_
    simp only [if_true, beq_self_eq_true]
    exact Ev.now _
  | true =>
    obtain ⟨x1, x2, x3, x4⟩ := catL_true hx
    simp only [Bool.not_true, Bool.false_eq_true, if_false]
    refine Ev.bind (nestI_ev ha) (Ev.bind (nestI_ev hb) (Ev.bind (nestI_ev (catL_rows a b)) ?_))
    have J : ∀ w : Bool, (w = true ∨ ((nestL 3 a).2 = true ∧ (nestL 3 b).2 = true ∧ (nestL 3 (catL a b).1).2 = true)) → Ev (fun k => laws_FnNestCat.j1 k (nestL 3 a).1 (nestL 3 b).1 (nestL 3 (catL a b).1).1 w) true := by
      intro w hw
      refine Ev.step (fun k => by rw [laws_FnNestCat.j1]) ?_
      cases w with
      | true => simp only [if_true]; exact Ev.now _
      | false =>
        rcases hw with h | ⟨hp, hq, hr⟩
        · cases h
        obtain ⟨p1, _, _, p4, p5⟩ := nestL_true hp
        obtain ⟨q1, _, _, q4, q5⟩ := nestL_true hq
        obtain ⟨r1, _, _, r4, r5⟩ := nestL_true hr
        have e := nestO_cat (n := 3) (layV_ok x1).1 (layV_ok x2).1
        simp only [Bool.false_eq_true, if_false]
        refine Ev.bind (catI_ev (nestL_rows _ _) (nestL_rows _ _)) ?_
        rw [p5, q5]
        rw [x4] at r4 r5
        have hc := catL_of p4 q4 (by rw [e]; exact r4)
        rw [hc, x4, r5]
        simp only [if_true, e]
        exact Ev.bind (same_ev (layV_rows r4)) (Ev.now _)
    refine Ev.iff (fun hp => Ev.iff (fun hq => J _ ?_) (fun _ => J _ (.inl rfl))) (fun _ => J _ (.inl rfl))
    cases hr : (nestL 3 (catL a b).1).2 with
    | false => exact .inl rfl
    | true => exact .inr ⟨hp, hq, rfl⟩
end Go.Proofs.Ytdhdfmmefghijab.Pure
