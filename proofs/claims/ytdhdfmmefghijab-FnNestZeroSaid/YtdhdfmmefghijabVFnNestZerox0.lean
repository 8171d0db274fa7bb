/- CONTRACTS and lemmas for the law FnNestZero. -/
import Derived.Test.YtdhdfmmefghijabVLa9
namespace Go.Proofs.Ytdhdfmmefghijab.P
open Go.RowKit Go.Proofs.YtdhdfmmefghijabW.PrintWords Go.Proofs.YtdhdfmmefghijabW.PrintLast Go.Proofs.YtdhdfmmefghijabW.PrintMore
attribute [local go_sem] max2_int min2_int max_two min_two max_three min_three max_four min_four
set_option linter.unusedVariables false
set_option linter.unusedSimpArgs false
def laws_FnNestZero.j0 : Nat → List (SRow) → List (SRow) → Bool → List (SRow) → Bool → Bool → Option (Bool)
  | 0, _, _, _, _, _, _ => none
  | k + 1, x4, x5, x6, x7, x8, x43 => if x43 = true then ((impl_LayoutSame.f k x5 x7).bind fun t654 => (if t654 = true then (some (x6 == x8)) else (none))) else ((impl_NestLayout.f k 0 x4).bind fun bt655 => (if bt655.2 = true then ((impl_LayoutSame.f k bt655.1 x4).bind fun t659 => (if t659 = true then (if (x4.length : Int) > 1 then (some true) else ((impl_LayoutSame.f k x5 x4).bind fun t660 => (some t660))) else (none))) else (none)))
def laws_FnNestZero.f (k : Nat) (l0 : List Int) : Option (Bool) := if (l0.length : Int) > 1048576 then (some true) else ((spec_DrawNestLayout.f k l0).bind fun bt641 => ((impl_NestLayout.f k bt641.1 bt641.2).bind fun bt645 => ((spec_NestLayout.f k bt641.1 bt641.2).bind fun bt649 => ((impl_LayoutSame.f k bt645.1 bt649.1).bind fun t653 => (if t653 = true then (if (bt645.2 != bt649.2) = true then (laws_FnNestZero.j0 k bt641.2 bt645.1 bt645.2 bt649.1 bt649.2 true) else (laws_FnNestZero.j0 k bt641.2 bt645.1 bt645.2 bt649.1 bt649.2 (!bt645.2))) else (laws_FnNestZero.j0 k bt641.2 bt645.1 bt645.2 bt649.1 bt649.2 true))))))
set_option maxHeartbeats 8000000 in
set_option maxRecDepth 100000 in
theorem laws_FnNestZero.calls (k : Nat) (A0 : Option Addr) (c0 : Nat) (l0 : List Int) (r : Bool) (w : World) (hr0 : Kd.C (Kd.int .u8) w A0 l0.length l0) (hc0 : l0.length ≤ c0) (h : laws_FnNestZero.f k l0 = some r) :
    Calls Try.prog 7 #[.slice A0 l0.length c0] w fun e w' => e = .returned (.bool r) ∧ Below w.heap.size w w' := by
  have HR0 := Aside0.mk hr0
  have HC0 := Aside0.mk hc0
  clear hr0 hc0
  have HB := Aside0.mk (Below.refl w.heap.size w)
  have H : (if (l0.length : Int) > 1048576 then (some true) else ((spec_DrawNestLayout.f k l0).bind fun bt641 => ((impl_NestLayout.f k bt641.1 bt641.2).bind fun bt645 => ((spec_NestLayout.f k bt641.1 bt641.2).bind fun bt649 => ((impl_LayoutSame.f k bt645.1 bt649.1).bind fun t653 => (if t653 = true then (if (bt645.2 != bt649.2) = true then (laws_FnNestZero.j0 k bt641.2 bt645.1 bt645.2 bt649.1 bt649.2 true) else (laws_FnNestZero.j0 k bt641.2 bt645.1 bt645.2 bt649.1 bt649.2 (!bt645.2))) else (laws_FnNestZero.j0 k bt641.2 bt645.1 bt645.2 bt649.1 bt649.2 true))))))) = some r := h
  clear h
  by_cases c2 : (l0.length : Int) > 1048576
  · rw [if_pos c2] at H
    have c2b0 : decide (1048576 < (l0.length : Int)) = true := decide_eq_true c2
    have c2b1 : decide (1048576 < l0.length) = true := decide_eq_true (by omega)
    clear c2
    obtain rfl := Option.some.inj H
    go_enter Try.func7, Try.ntmps7
    go_wp2
    go_ret
    exact ⟨by first | rfl | (simp [errW_none, errW_some] <;> rfl) | (simp [*, errW_none, errW_some] <;> rfl), gB HB⟩
  · rw [if_neg c2] at H
    have c2b0 : decide (1048576 < (l0.length : Int)) = false := decide_eq_false c2
    have c2b1 : decide (1048576 < l0.length) = false := decide_eq_false (by omega)
    clear c2
    replace H := Option.bind_eq_some_iff.mp H
    obtain ⟨⟨t641, t642⟩, A30, H⟩ := H
    replace H : ((impl_NestLayout.f k t641 t642).bind fun bt645 => ((spec_NestLayout.f k t641 t642).bind fun bt649 => ((impl_LayoutSame.f k bt645.1 bt649.1).bind fun t653 => (if t653 = true then (if (bt645.2 != bt649.2) = true then (laws_FnNestZero.j0 k t642 bt645.1 bt645.2 bt649.1 bt649.2 true) else (laws_FnNestZero.j0 k t642 bt645.1 bt645.2 bt649.1 bt649.2 (!bt645.2))) else (laws_FnNestZero.j0 k t642 bt645.1 bt645.2 bt649.1 bt649.2 true))))) = some r := H
    have A3 := Aside0.mk A30
    clear A30
    replace H := Option.bind_eq_some_iff.mp H
    obtain ⟨⟨t645, t646⟩, A40, H⟩ := H
    replace H : ((spec_NestLayout.f k t641 t642).bind fun bt649 => ((impl_LayoutSame.f k t645 bt649.1).bind fun t653 => (if t653 = true then (if (t646 != bt649.2) = true then (laws_FnNestZero.j0 k t642 t645 t646 bt649.1 bt649.2 true) else (laws_FnNestZero.j0 k t642 t645 t646 bt649.1 bt649.2 (!t646))) else (laws_FnNestZero.j0 k t642 t645 t646 bt649.1 bt649.2 true)))) = some r := H
    have A4 := Aside0.mk A40
    clear A40
    replace H := Option.bind_eq_some_iff.mp H
    obtain ⟨⟨t649, t650⟩, A50, H⟩ := H
    replace H : ((impl_LayoutSame.f k t645 t649).bind fun t653 => (if t653 = true then (if (t646 != t650) = true then (laws_FnNestZero.j0 k t642 t645 t646 t649 t650 true) else (laws_FnNestZero.j0 k t642 t645 t646 t649 t650 (!t646))) else (laws_FnNestZero.j0 k t642 t645 t646 t649 t650 true))) = some r := H
    have A5 := Aside0.mk A50
    clear A50
    have HC6 := Aside0.mk H
    clear H
    go_enter Try.func7, Try.ntmps7
    go_upto_region 6 with (first | ((with_reducible refine gate_callee (f := 20) rfl ?_); refine goesL_ (some 16) rfl rfl Try.func20 (by kernel_rfl) rfl #[.slice A0 l0.length c0] rfl (by (try simp only [List.map_toArray, List.map_cons, List.map_nil]); first | done | rfl | (simp only [List.length_drop, List.length_take]; rfl)) ?_; (with_reducible refine (spec_DrawNestLayout.calls k _ _ l0 t641 t642 _ ?side1 ?side2 A3.out).mono ?_); (case side1 => repeat (first | exact HR0.out | (with_reducible refine Kd.C_alloc ?_ _) | (with_reducible refine Kd.C_drewN ?_ _) | (with_reducible refine Kd.C_drew ?_))); (case side2 => exact HC0.out); rintro e w7 ⟨v643, rfl, ho0, hb⟩; refine ⟨_, rfl, ?_⟩; have n0_ := Aside0.mk (Kd.R_lower ho0 (below_size (gB HB))); have n1_ := Aside0.mk (below_step (gB HB) hb); clear HB; have HO644 := n0_; have HB := n1_; clear n0_ n1_; (try clear hb); (try clear hb2); (try clear hk); (try clear hi); (try clear ho0); obtain ⟨Ao8, co8, eo8⟩ := Kd.R_slice HO644.out; subst eo8) | ((with_reducible refine gate_callee (f := 21) rfl ?_); refine goesL_ (some 22) rfl rfl Try.func21 (by kernel_rfl) rfl #[.int .i64 t641, .slice Ao8 t642.length co8] rfl (by (try simp only [List.map_toArray, List.map_cons, List.map_nil]); first | done | rfl | (simp only [List.length_drop, List.length_take]; rfl)) ?_; (with_reducible refine (impl_NestLayout.calls k t641 _ _ t642 t645 t646 _ ?side1 ?side2 A4.out).mono ?_); (case side1 => exact gC ((Kd.R_reads' HO644.out).2.2)); (case side2 => exact (Kd.R_reads' HO644.out).2.1); rintro e w9 ⟨v647, rfl, ho0, hb⟩; refine ⟨_, rfl, ?_⟩; have n0_ := Aside0.mk (Kd.R_elder' (gR HO644) (Kd.R_base ho0) hb); have n1_ := Aside0.mk (Kd.R_lower (Kd.R_new' ho0 (Kd.R_lt (gR HO644))) (below_size (gB HB))); have n2_ := Aside0.mk (below_step (gB HB) hb); clear HO644; clear HB; have HO644 := n0_; have HO648 := n1_; have HB := n2_; clear n0_ n1_ n2_; (try clear hb); (try clear hb2); (try clear hk); (try clear hi); (try clear ho0)) | ((with_reducible refine gate_callee (f := 22) rfl ?_); refine goesL_ (some 28) rfl rfl Try.func22 (by kernel_rfl) rfl #[.int .i64 t641, .slice Ao8 t642.length co8] rfl (by (try simp only [List.map_toArray, List.map_cons, List.map_nil]); first | done | rfl | (simp only [List.length_drop, List.length_take]; rfl)) ?_; (with_reducible refine (spec_NestLayout.calls k t641 _ _ t642 t649 t650 _ ?side1 ?side2 A5.out).mono ?_); (case side1 => exact gC ((Kd.R_reads' HO644.out).2.2)); (case side2 => exact (Kd.R_reads' HO644.out).2.1); rintro e w10 ⟨v651, rfl, ho0, hb⟩; refine ⟨_, rfl, ?_⟩; have n0_ := Aside0.mk (Kd.R_elder' (gR HO644) (Kd.R_base ho0) hb); have n1_ := Aside0.mk (Kd.R_elder' (gR HO648) (Kd.R_base ho0) hb); have n2_ := Aside0.mk (Kd.R_lower (Kd.R_new' (Kd.R_new' ho0 (Kd.R_lt (gR HO644))) (Kd.R_lt (gR HO648))) (below_size (gB HB))); have n3_ := Aside0.mk (below_step (gB HB) hb); clear HO644; clear HO648; clear HB; have HO644 := n0_; have HO648 := n1_; have HO652 := n2_; have HB := n3_; clear n0_ n1_ n2_ n3_; (try clear hb); (try clear hb2); (try clear hk); (try clear hi); (try clear ho0)))
    (try simp only [Act.put, List.setIfInBounds_toArray, List.set_cons_zero, List.set_cons_succ])
    go_cut [43] (fun v43 wc => ∃ (kq : Nat) (x43_5 : Bool), v43 = .bool x43_5 ∧ Aside0 (laws_FnNestZero.j0 kq t642 t645 t646 t649 t650 x43_5 = some r) ∧ Aside0 (kq ≤ k) ∧ Aside0 (Kd.R k30 30 wc w.heap.size (fun k_ => some k_ ≠ (v647 : Value).ownBlock ∧ some k_ ≠ (v651 : Value).ownBlock) (.slice Ao8 t642.length co8) t642) ∧ Aside0 (Kd.R k30 30 wc w.heap.size (fun k_ => some k_ ≠ ((.slice Ao8 t642.length co8) : Value).ownBlock ∧ some k_ ≠ (v651 : Value).ownBlock) v647 t645) ∧ Aside0 (Kd.R k30 30 wc w.heap.size (fun k_ => some k_ ≠ ((.slice Ao8 t642.length co8) : Value).ownBlock ∧ some k_ ≠ (v647 : Value).ownBlock) v651 t649) ∧ Aside0 (Below w.heap.size w wc))
    case first =>
      have H := HC6.out
      clear HC6
      replace H := Option.bind_eq_some_iff.mp H
      obtain ⟨t653, A110, H⟩ := H
      replace H : (if t653 = true then (if (t646 != t650) = true then (laws_FnNestZero.j0 k t642 t645 t646 t649 t650 true) else (laws_FnNestZero.j0 k t642 t645 t646 t649 t650 (!t646))) else (laws_FnNestZero.j0 k t642 t645 t646 t649 t650 true)) = some r := H
      have A11 := Aside0.mk A110
      clear A110
      by_cases c12 : t653 = true
      · subst c12
        have H1 : (if (t646 != t650) = true then (laws_FnNestZero.j0 k t642 t645 t646 t649 t650 true) else (laws_FnNestZero.j0 k t642 t645 t646 t649 t650 (!t646))) = some r := by rw [if_pos rfl] at H; exact H
        clear H
        have H := H1
        clear H1
        by_cases c13 : (t646 != t650) = true
        · rw [if_pos c13] at H
          have c13b0 : (t646 != t650) = true := c13
          (try (have c13b1 : decide (t646 = t650) = false := by simpa using c13))
          (try (have c13b2 : (t646 == t650) = false := by simpa using c13))
          (try (have c13b3 : ¬ (t646 = t650) := by simpa using c13))
          clear c13
          (first | rw [c13b0] | (simp only [i64_w, i32_w]; rw [c13b0]) | skip)
          have H' := Aside0.mk H
          clear H
          obtain ⟨Ao14, co14, eo14⟩ := Kd.R_slice HO648.out
          subst eo14
          obtain ⟨Ao15, co15, eo15⟩ := Kd.R_slice HO652.out
          subst eo15
          go_wp2_with (first | ((with_reducible refine gate_callee (f := 18) rfl ?_); refine goesL_ (some 33) rfl rfl Try.func18 (by kernel_rfl) rfl #[.slice Ao14 t645.length co14, .slice Ao15 t649.length co15] rfl (by (try simp only [List.map_toArray, List.map_cons, List.map_nil]); first | done | rfl | (simp only [List.length_drop, List.length_take]; rfl)) ?_; (with_reducible refine (impl_LayoutSame.calls k _ _ t645 _ _ t649 true _ ?side1 ?side2 ?side3 ?side4 A11.out).mono ?_); (case side1 => exact gC ((Kd.R_reads' HO648.out).2.2)); (case side2 => exact (Kd.R_reads' HO648.out).2.1); (case side3 => exact gC ((Kd.R_reads' HO652.out).2.2)); (case side4 => exact (Kd.R_reads' HO652.out).2.1); rintro e w' ⟨rfl, ⟨nd, rfl⟩⟩; refine ⟨_, rfl, ?_⟩))
          go_meet
          case rel => exact ⟨_, (true), (by first | rfl | (simp; done) | (simp [*]; done)), H', ⟨by first | omega | exact Nat.le_refl _⟩, ⟨by (with_reducible repeat (first | apply Kd.R_alloc | apply Kd.R_drewN | apply Kd.R_drew)); exact Kd.R_mono HO644.out (fun _ hk => ⟨hk.1.2, hk.2⟩)⟩, ⟨by (with_reducible repeat (first | apply Kd.R_alloc | apply Kd.R_drewN | apply Kd.R_drew)); exact Kd.R_mono HO648.out (fun _ hk => ⟨hk.1.2, hk.2⟩)⟩, ⟨by (with_reducible repeat (first | apply Kd.R_alloc | apply Kd.R_drewN | apply Kd.R_drew)); exact Kd.R_mono HO652.out (fun _ hk => ⟨hk.1.2, hk.2⟩)⟩, ⟨gB HB⟩⟩
        · rw [if_neg c13] at H
          have c13b0 : (t646 != t650) = false := by simpa using c13
          (try (have c13b1 : decide (t646 = t650) = true := by simpa using c13))
          (try (have c13b2 : (t646 == t650) = true := by simpa using c13))
          clear c13
          (first | rw [c13b0] | (simp only [i64_w, i32_w]; rw [c13b0]) | skip)
          have H' := Aside0.mk H
          clear H
          obtain ⟨Ao16, co16, eo16⟩ := Kd.R_slice HO648.out
          subst eo16
          obtain ⟨Ao17, co17, eo17⟩ := Kd.R_slice HO652.out
          subst eo17
          go_wp2_with (first | ((with_reducible refine gate_callee (f := 18) rfl ?_); refine goesL_ (some 33) rfl rfl Try.func18 (by kernel_rfl) rfl #[.slice Ao16 t645.length co16, .slice Ao17 t649.length co17] rfl (by (try simp only [List.map_toArray, List.map_cons, List.map_nil]); first | done | rfl | (simp only [List.length_drop, List.length_take]; rfl)) ?_; (with_reducible refine (impl_LayoutSame.calls k _ _ t645 _ _ t649 true _ ?side1 ?side2 ?side3 ?side4 A11.out).mono ?_); (case side1 => exact gC ((Kd.R_reads' HO648.out).2.2)); (case side2 => exact (Kd.R_reads' HO648.out).2.1); (case side3 => exact gC ((Kd.R_reads' HO652.out).2.2)); (case side4 => exact (Kd.R_reads' HO652.out).2.1); rintro e w' ⟨rfl, ⟨nd, rfl⟩⟩; refine ⟨_, rfl, ?_⟩))
          go_meet
          case rel => exact ⟨_, (!t646), (by first | rfl | (simp; done) | (simp [*]; done)), H', ⟨by first | omega | exact Nat.le_refl _⟩, ⟨by (with_reducible repeat (first | apply Kd.R_alloc | apply Kd.R_drewN | apply Kd.R_drew)); exact Kd.R_mono HO644.out (fun _ hk => ⟨hk.1.2, hk.2⟩)⟩, ⟨by (with_reducible repeat (first | apply Kd.R_alloc | apply Kd.R_drewN | apply Kd.R_drew)); exact Kd.R_mono HO648.out (fun _ hk => ⟨hk.1.2, hk.2⟩)⟩, ⟨by (with_reducible repeat (first | apply Kd.R_alloc | apply Kd.R_drewN | apply Kd.R_drew)); exact Kd.R_mono HO652.out (fun _ hk => ⟨hk.1.2, hk.2⟩)⟩, ⟨gB HB⟩⟩
      · replace c12 := Bool.eq_false_iff.mpr c12
        subst c12
        have H1 : (laws_FnNestZero.j0 k t642 t645 t646 t649 t650 true) = some r := by rw [if_neg (show ¬ (false = true) by decide)] at H; exact H
        clear H
        have H := H1
        clear H1
        have H' := Aside0.mk H
        clear H
        obtain ⟨Ao18, co18, eo18⟩ := Kd.R_slice HO648.out
        subst eo18
        obtain ⟨Ao19, co19, eo19⟩ := Kd.R_slice HO652.out
        subst eo19
        go_wp2_with (first | ((with_reducible refine gate_callee (f := 18) rfl ?_); refine goesL_ (some 33) rfl rfl Try.func18 (by kernel_rfl) rfl #[.slice Ao18 t645.length co18, .slice Ao19 t649.length co19] rfl (by (try simp only [List.map_toArray, List.map_cons, List.map_nil]); first | done | rfl | (simp only [List.length_drop, List.length_take]; rfl)) ?_; (with_reducible refine (impl_LayoutSame.calls k _ _ t645 _ _ t649 false _ ?side1 ?side2 ?side3 ?side4 A11.out).mono ?_); (case side1 => exact gC ((Kd.R_reads' HO648.out).2.2)); (case side2 => exact (Kd.R_reads' HO648.out).2.1); (case side3 => exact gC ((Kd.R_reads' HO652.out).2.2)); (case side4 => exact (Kd.R_reads' HO652.out).2.1); rintro e w' ⟨rfl, ⟨nd, rfl⟩⟩; refine ⟨_, rfl, ?_⟩))
        go_meet
        case rel => exact ⟨_, (true), (by first | rfl | (simp; done) | (simp [*]; done)), H', ⟨by first | omega | exact Nat.le_refl _⟩, ⟨by (with_reducible repeat (first | apply Kd.R_alloc | apply Kd.R_drewN | apply Kd.R_drew)); exact Kd.R_mono HO644.out (fun _ hk => ⟨hk.1.2, hk.2⟩)⟩, ⟨by (with_reducible repeat (first | apply Kd.R_alloc | apply Kd.R_drewN | apply Kd.R_drew)); exact Kd.R_mono HO648.out (fun _ hk => ⟨hk.1.2, hk.2⟩)⟩, ⟨by (with_reducible repeat (first | apply Kd.R_alloc | apply Kd.R_drewN | apply Kd.R_drew)); exact Kd.R_mono HO652.out (fun _ hk => ⟨hk.1.2, hk.2⟩)⟩, ⟨gB HB⟩⟩
    case rest =>
      clear HC6
      try clear c1
      try clear c2
      try clear c2b0
      try clear c2b1
      try clear p2
      try clear c7
      try clear c12
      try clear c13
      try clear c13b0
      try clear c13b1
      try clear c13b2
      try clear c18
      obtain ⟨kq, x43_5, rfl, HA, HJ5, HO_4, HO_5, HO_7, HB⟩ := hcut
      cases kq with
      | zero => exact absurd HA.out (by simp [laws_FnNestZero.j0])
      | succ kj5 =>
        have H := HA.out
        clear HA
        simp only [laws_FnNestZero.j0] at H
        by_cases c20 : x43_5 = true
        · subst c20
          have H1 : ((impl_LayoutSame.f kj5 t645 t649).bind fun t654 => (if t654 = true then (some (t646 == t650)) else (none))) = some r := by rw [if_pos rfl] at H; exact H
          clear H
          have H := H1
          clear H1
          replace H := Option.bind_eq_some_iff.mp H
          obtain ⟨t654, A210, H⟩ := H
          replace H : (if t654 = true then (some (t646 == t650)) else (none)) = some r := H
          have A21 := Aside0.mk A210
          clear A210
          by_cases c22 : t654 = true
          · subst c22
            have H1 : (some (t646 == t650)) = some r := by rw [if_pos rfl] at H; exact H
            clear H
            have H := H1
            clear H1
            obtain rfl := Option.some.inj H
            obtain ⟨Ao23, co23, eo23⟩ := Kd.R_slice HO_5.out
            subst eo23
            obtain ⟨Ao24, co24, eo24⟩ := Kd.R_slice HO_7.out
            subst eo24
            go_wp2_with (first | ((with_reducible refine gate_callee (f := 18) rfl ?_); refine goesL_ (some 46) rfl rfl Try.func18 (by kernel_rfl) rfl #[.slice Ao23 t645.length co23, .slice Ao24 t649.length co24] rfl (by (try simp only [List.map_toArray, List.map_cons, List.map_nil]); first | done | rfl | (simp only [List.length_drop, List.length_take]; rfl)) ?_; (with_reducible refine (impl_LayoutSame.calls kj5 _ _ t645 _ _ t649 true _ ?side1 ?side2 ?side3 ?side4 A21.out).mono ?_); (case side1 => exact gC ((Kd.R_reads' HO_5.out).2.2)); (case side2 => exact (Kd.R_reads' HO_5.out).2.1); (case side3 => exact gC ((Kd.R_reads' HO_7.out).2.2)); (case side4 => exact (Kd.R_reads' HO_7.out).2.1); rintro e w' ⟨rfl, ⟨nd, rfl⟩⟩; refine ⟨_, rfl, ?_⟩))
            go_ret
            exact ⟨by first | rfl | (simp [errW_none, errW_some] <;> rfl) | (simp [*, errW_none, errW_some] <;> rfl), gB HB⟩
          · replace c22 := Bool.eq_false_iff.mpr c22
            subst c22
            have H1 : (none) = some r := by rw [if_neg (show ¬ (false = true) by decide)] at H; exact H
            clear H
            have H := H1
            clear H1
            exact absurd H (by simp)
        · replace c20 := Bool.eq_false_iff.mpr c20
          subst c20
          have H1 : ((impl_NestLayout.f kj5 0 t642).bind fun bt655 => (if bt655.2 = true then ((impl_LayoutSame.f kj5 bt655.1 t642).bind fun t659 => (if t659 = true then (if (t642.length : Int) > 1 then (some true) else ((impl_LayoutSame.f kj5 t645 t642).bind fun t660 => (some t660))) else (none))) else (none))) = some r := by rw [if_neg (show ¬ (false = true) by decide)] at H; exact H
          clear H
          have H := H1
          clear H1
          replace H := Option.bind_eq_some_iff.mp H
          obtain ⟨⟨t655, t656⟩, A250, H⟩ := H
          replace H : (if t656 = true then ((impl_LayoutSame.f kj5 t655 t642).bind fun t659 => (if t659 = true then (if (t642.length : Int) > 1 then (some true) else ((impl_LayoutSame.f kj5 t645 t642).bind fun t660 => (some t660))) else (none))) else (none)) = some r := H
          have A25 := Aside0.mk A250
          clear A250
          by_cases c26 : t656 = true
          · subst c26
            have H1 : ((impl_LayoutSame.f kj5 t655 t642).bind fun t659 => (if t659 = true then (if (t642.length : Int) > 1 then (some true) else ((impl_LayoutSame.f kj5 t645 t642).bind fun t660 => (some t660))) else (none))) = some r := by rw [if_pos rfl] at H; exact H
            clear H
            have H := H1
            clear H1
            replace H := Option.bind_eq_some_iff.mp H
            obtain ⟨t659, A270, H⟩ := H
            replace H : (if t659 = true then (if (t642.length : Int) > 1 then (some true) else ((impl_LayoutSame.f kj5 t645 t642).bind fun t660 => (some t660))) else (none)) = some r := H
            have A27 := Aside0.mk A270
            clear A270
            by_cases c28 : t659 = true
            · subst c28
              have H1 : (if (t642.length : Int) > 1 then (some true) else ((impl_LayoutSame.f kj5 t645 t642).bind fun t660 => (some t660))) = some r := by rw [if_pos rfl] at H; exact H
              clear H
              have H := H1
              clear H1
              by_cases c29 : (t642.length : Int) > 1
              · rw [if_pos c29] at H
                have c29b0 : decide (1 < (t642.length : Int)) = true := decide_eq_true c29
                have c29b1 : decide (1 < t642.length) = true := decide_eq_true (by omega)
                clear c29
                obtain rfl := Option.some.inj H
                go_wp2_with (first | ((with_reducible refine gate_callee (f := 21) rfl ?_); refine goesL_ (some 54) rfl rfl Try.func21 (by kernel_rfl) rfl #[.int .i64 0, .slice Ao8 t642.length co8] rfl (by (try simp only [List.map_toArray, List.map_cons, List.map_nil]); first | done | rfl | (simp only [List.length_drop, List.length_take]; rfl)) ?_; (with_reducible refine (impl_NestLayout.calls kj5 0 _ _ t642 t655 true _ ?side1 ?side2 A25.out).mono ?_); (case side1 => exact gC ((Kd.R_reads' HO_4.out).2.2)); (case side2 => exact (Kd.R_reads' HO_4.out).2.1); rintro e w30 ⟨v657, rfl, ho0, hb⟩; refine ⟨_, rfl, ?_⟩; have n0_ := Aside0.mk (Kd.R_elder' (gR HO_4) (Kd.R_base ho0) hb); have n1_ := Aside0.mk (Kd.R_elder' (gR HO_5) (Kd.R_base ho0) hb); have n2_ := Aside0.mk (Kd.R_elder' (gR HO_7) (Kd.R_base ho0) hb); have n3_ := Aside0.mk (Kd.R_lower (Kd.R_new' (Kd.R_new' (Kd.R_new' ho0 (Kd.R_lt (gR HO_4))) (Kd.R_lt (gR HO_5))) (Kd.R_lt (gR HO_7))) (below_size (gB HB))); have n4_ := Aside0.mk (below_step (gB HB) hb); clear HO_4; clear HO_5; clear HO_7; clear HB; have HO_4 := n0_; have HO_5 := n1_; have HO_7 := n2_; have HO658 := n3_; have HB := n4_; clear n0_ n1_ n2_ n3_ n4_; (try clear hb); (try clear hb2); (try clear hk); (try clear hi); (try clear ho0); obtain ⟨Ao31, co31, eo31⟩ := Kd.R_slice HO658.out; subst eo31) | (go_at_call 18; (with_reducible refine (impl_LayoutSame.calls kj5 _ _ t655 _ _ t642 true _ ?side1 ?side2 ?side3 ?side4 A27.out).mono ?_); (case side1 => exact gC ((Kd.R_reads' HO658.out).2.2)); (case side2 => exact (Kd.R_reads' HO658.out).2.1); (case side3 => exact gC ((Kd.R_reads' HO_4.out).2.2)); (case side4 => exact (Kd.R_reads' HO_4.out).2.1); rintro e w' ⟨rfl, ⟨nd, rfl⟩⟩))
                go_ret
                exact ⟨by first | rfl | (simp [errW_none, errW_some] <;> rfl) | (simp [*, errW_none, errW_some] <;> rfl), gB HB⟩
              · rw [if_neg c29] at H
                have c29b0 : decide (1 < (t642.length : Int)) = false := decide_eq_false c29
                have c29b1 : decide (1 < t642.length) = false := decide_eq_false (by omega)
                clear c29
                replace H := Option.bind_eq_some_iff.mp H
                obtain ⟨t660, A320, H⟩ := H
                replace H : (some t660) = some r := H
                have A32 := Aside0.mk A320
                clear A320
                obtain rfl := Option.some.inj H
                go_wp2_with (first | ((with_reducible refine gate_callee (f := 21) rfl ?_); refine goesL_ (some 54) rfl rfl Try.func21 (by kernel_rfl) rfl #[.int .i64 0, .slice Ao8 t642.length co8] rfl (by (try simp only [List.map_toArray, List.map_cons, List.map_nil]); first | done | rfl | (simp only [List.length_drop, List.length_take]; rfl)) ?_; (with_reducible refine (impl_NestLayout.calls kj5 0 _ _ t642 t655 true _ ?side1 ?side2 A25.out).mono ?_); (case side1 => exact gC ((Kd.R_reads' HO_4.out).2.2)); (case side2 => exact (Kd.R_reads' HO_4.out).2.1); rintro e w33 ⟨v657, rfl, ho0, hb⟩; refine ⟨_, rfl, ?_⟩; have n0_ := Aside0.mk (Kd.R_elder' (gR HO_4) (Kd.R_base ho0) hb); have n1_ := Aside0.mk (Kd.R_elder' (gR HO_5) (Kd.R_base ho0) hb); have n2_ := Aside0.mk (Kd.R_elder' (gR HO_7) (Kd.R_base ho0) hb); have n3_ := Aside0.mk (Kd.R_lower (Kd.R_new' (Kd.R_new' (Kd.R_new' ho0 (Kd.R_lt (gR HO_4))) (Kd.R_lt (gR HO_5))) (Kd.R_lt (gR HO_7))) (below_size (gB HB))); have n4_ := Aside0.mk (below_step (gB HB) hb); clear HO_4; clear HO_5; clear HO_7; clear HB; have HO_4 := n0_; have HO_5 := n1_; have HO_7 := n2_; have HO658 := n3_; have HB := n4_; clear n0_ n1_ n2_ n3_ n4_; (try clear hb); (try clear hb2); (try clear hk); (try clear hi); (try clear ho0); obtain ⟨Ao34, co34, eo34⟩ := Kd.R_slice HO658.out; subst eo34) | (go_at_call 18; (with_reducible refine (impl_LayoutSame.calls kj5 _ _ t655 _ _ t642 true _ ?side1 ?side2 ?side3 ?side4 A27.out).mono ?_); (case side1 => exact gC ((Kd.R_reads' HO658.out).2.2)); (case side2 => exact (Kd.R_reads' HO658.out).2.1); (case side3 => exact gC ((Kd.R_reads' HO_4.out).2.2)); (case side4 => exact (Kd.R_reads' HO_4.out).2.1); rintro e w' ⟨rfl, ⟨nd, rfl⟩⟩; obtain ⟨Ao35, co35, eo35⟩ := Kd.R_slice HO_5.out; subst eo35) | (go_at_call 18; (with_reducible refine (impl_LayoutSame.calls kj5 _ _ t645 _ _ t642 t660 _ ?side1 ?side2 ?side3 ?side4 A32.out).mono ?_); (case side1 => exact gC ((Kd.R_reads' HO_5.out).2.2)); (case side2 => exact (Kd.R_reads' HO_5.out).2.1); (case side3 => exact gC ((Kd.R_reads' HO_4.out).2.2)); (case side4 => exact (Kd.R_reads' HO_4.out).2.1); rintro e w' ⟨rfl, ⟨nd, rfl⟩⟩))
                go_ret
                exact ⟨by first | rfl | (simp [errW_none, errW_some] <;> rfl) | (simp [*, errW_none, errW_some] <;> rfl), gB HB⟩
            · replace c28 := Bool.eq_false_iff.mpr c28
              subst c28
              have H1 : (none) = some r := by rw [if_neg (show ¬ (false = true) by decide)] at H; exact H
              clear H
              have H := H1
              clear H1
              exact absurd H (by simp)
          · replace c26 := Bool.eq_false_iff.mpr c26
            subst c26
            have H1 : (none) = some r := by rw [if_neg (show ¬ (false = true) by decide)] at H; exact H
            clear H
            have H := H1
            clear H1
            exact absurd H (by simp)
def laws_FnNestZero.Pure : Prop := ∀ (l0 : List Int), l0.length ≤ maxLen → l0.length * 1 ≤ 140737488351232 → (∀ x ∈ l0, (Lit.int .u8 x).wf = true) → ∃ k, laws_FnNestZero.f k l0 = some true
theorem laws_FnNestZero.walk (P : laws_FnNestZero.Pure) (a0 : Option Addr) (len0 cap0 : Nat) (z0 : List Int) (w : World) (w0 : (a0 = none ∧ len0 = 0 ∧ cap0 = 0 ∧ z0 = []) ∨ ∃ x, a0 = some x ∧ len0 ≤ cap0 ∧ cap0 ≤ maxLen ∧ z0.length = cap0 ∧ (∀ i, i < z0.length → w.cell? (x.add i) = some (.int .u8 (z0.getD i 0))) ∧ ∀ n ∈ z0, (Lit.int .u8 n).wf = true) (y0 : len0 * 1 ≤ 140737488351232) :
    Calls Try.prog 7 #[.slice a0 len0 cap0] w fun e w' => e = .returned (.bool true) ∧ Below w.heap.size w w' := by
  obtain ⟨l0, rfl, hr0, hm0, hw0, hc0⟩ := ReadsInt.ofRowC w0
  obtain ⟨k, h⟩ := P l0 hm0 y0 hw0
  refine (laws_FnNestZero.calls k _ _ l0 true w (Kd.C_of_reads (d := (0 : Int)) (h1 := fun _ => rfl) hr0) hc0 h).mono ?_
  rintro e w' ⟨rfl, hd⟩
  exact ⟨rfl, hd⟩
end Go.Proofs.Ytdhdfmmefghijab.P
namespace Go.Proofs.Ytdhdfmmefghijab.Pure
open Go.RowKit Go.Proofs.Ytdhdfmmefghijab.P Go.Proofs.YtdhdfmmefghijabW.PrintWords Go.Proofs.YtdhdfmmefghijabW.PrintLast Go.Proofs.YtdhdfmmefghijabW.PrintMore
set_option linter.unusedVariables false
set_option linter.unusedSimpArgs false
theorem FnNestZero : laws_FnNestZero.Pure := by
  intro l hl _ hw
  refine Ev.rounds (g := fun k => laws_FnNestZero.f k l) (Ev.congr (fun k => by rw [laws_FnNestZero.f]) (big_or ?_))
  obtain ⟨n, a, hd, ha, _, _⟩ := drawNest_ev l hl hw
  refine Ev.bind hd (Ev.bind (nestI_ev ha) (Ev.bind (nestS_ev ha) (Ev.bind (same_ev (nestL_rows n a)) ?_)))
  simp only [if_true, bne_self_eq_false, Bool.false_eq_true, if_false]
  refine Ev.step (fun k => by rw [laws_FnNestZero.j0]) ?_
  cases hx : (nestL n a).2 with
  | false =>
    simp only [Bool.not_false, if_true]
    refine Ev.bind (same_ev (nestL_rows n a)) ?_
    simp only [if_true, beq_self_eq_true]
    exact Ev.now _
  | true =>
    obtain ⟨x1, x2, x3, x4, x5⟩ := nestL_true hx
    have ez := nestO_zero x1
    simp only [Bool.not_true, Bool.false_eq_true, if_false]
    refine Ev.bind (nestI_ev ha) ?_
    rw [nestL_of x1 (Int.le_refl 0) (by omega) (by rw [ez]; exact x1), ez]
    simp only [if_true]
    refine Ev.bind (same_ev ha) ?_
    simp only [if_true]
    refine Ev.iff (fun _ => Ev.now _) (fun h1 => ?_)
    refine Ev.bind (same_ev' (nestL_rows n a) ?_) (Ev.now _)
    rw [x5]
    have := (layV_ok x1).1
    match a, h1, this with
    | [r], _, _ => rfl
    | r :: s :: t, h1, _ => exact absurd (show ((r :: s :: t).length : Int) > 1 by simp; omega) h1
end Go.Proofs.Ytdhdfmmefghijab.Pure
