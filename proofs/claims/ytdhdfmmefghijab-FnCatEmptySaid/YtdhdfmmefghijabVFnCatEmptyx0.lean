/- CONTRACTS and lemmas for the law FnCatEmpty. -/
import Derived.Test.YtdhdfmmefghijabVLa9
namespace Go.Proofs.Ytdhdfmmefghijab.P
open Go.RowKit Go.Proofs.YtdhdfmmefghijabW.PrintWords Go.Proofs.YtdhdfmmefghijabW.PrintLast Go.Proofs.YtdhdfmmefghijabW.PrintMore
attribute [local go_sem] max2_int min2_int max_two min_two max_three min_three max_four min_four
set_option linter.unusedVariables false
set_option linter.unusedSimpArgs false
def laws_FnCatEmpty.j0 : Nat → List (SRow) → Bool → Option (Bool)
  | 0, _, _ => none
  | k + 1, x3, x43 => if x43 = true then (none) else ((some (([(⟨0, (⟨#[]⟩ : ByteArray)⟩ : SRow)] : List (SRow)) : List (SRow))).bind fun y494 => ((impl_CatLayouts.f k y494 x3).bind fun bt497 => ((impl_CatLayouts.f k x3 y494).bind fun bt501 => ((impl_LayoutValid.f k x3).bind fun t505 => (if (bt497.2 == t505) = true then (if (bt501.2 == t505) = true then (if t505 = true then ((impl_LayoutSame.f k bt497.1 x3).bind fun t506 => (if t506 = true then ((impl_LayoutSame.f k bt501.1 x3).bind fun t507 => (some t507)) else (none))) else (some true)) else (none)) else (none))))))
def laws_FnCatEmpty.f (k : Nat) (l0 : List Int) : Option (Bool) := if (l0.length : Int) > 1048576 then (some true) else ((spec_DrawCatLayouts.f k l0).bind fun bt479 => ((impl_CatLayouts.f k bt479.1 bt479.2).bind fun bt485 => ((spec_CatLayouts.f k bt479.1 bt479.2).bind fun bt489 => ((impl_LayoutSame.f k bt485.1 bt489.1).bind fun t493 => (if t493 = true then (laws_FnCatEmpty.j0 k bt479.1 (bt485.2 != bt489.2)) else (laws_FnCatEmpty.j0 k bt479.1 true))))))
set_option maxHeartbeats 8000000 in
set_option maxRecDepth 100000 in
theorem laws_FnCatEmpty.calls (k : Nat) (A0 : Option Addr) (c0 : Nat) (l0 : List Int) (r : Bool) (w : World) (hr0 : Kd.C (Kd.int .u8) w A0 l0.length l0) (hc0 : l0.length ≤ c0) (h : laws_FnCatEmpty.f k l0 = some r) :
    Calls Try.prog 3 #[.slice A0 l0.length c0] w fun e w' => e = .returned (.bool r) ∧ Below w.heap.size w w' := by
  have hu30 := Try.underlying30
  have HR0 := Aside0.mk hr0
  have HC0 := Aside0.mk hc0
  clear hr0 hc0
  have HB := Aside0.mk (Below.refl w.heap.size w)
  have H : (if (l0.length : Int) > 1048576 then (some true) else ((spec_DrawCatLayouts.f k l0).bind fun bt479 => ((impl_CatLayouts.f k bt479.1 bt479.2).bind fun bt485 => ((spec_CatLayouts.f k bt479.1 bt479.2).bind fun bt489 => ((impl_LayoutSame.f k bt485.1 bt489.1).bind fun t493 => (if t493 = true then (laws_FnCatEmpty.j0 k bt479.1 (bt485.2 != bt489.2)) else (laws_FnCatEmpty.j0 k bt479.1 true))))))) = some r := h
  clear h
  by_cases c2 : (l0.length : Int) > 1048576
  · rw [if_pos c2] at H
    have c2b0 : decide (1048576 < (l0.length : Int)) = true := decide_eq_true c2
    have c2b1 : decide (1048576 < l0.length) = true := decide_eq_true (by omega)
    clear c2
    obtain rfl := Option.some.inj H
    go_enter Try.func3, Try.ntmps3
    go_wp2
    go_ret
    exact ⟨by first | rfl | (simp [errW_none, errW_some] <;> rfl) | (simp [*, errW_none, errW_some] <;> rfl), gB HB⟩
  · rw [if_neg c2] at H
    have c2b0 : decide (1048576 < (l0.length : Int)) = false := decide_eq_false c2
    have c2b1 : decide (1048576 < l0.length) = false := decide_eq_false (by omega)
    clear c2
    replace H := Option.bind_eq_some_iff.mp H
    obtain ⟨⟨t479, t480⟩, A30, H⟩ := H
    replace H : ((impl_CatLayouts.f k t479 t480).bind fun bt485 => ((spec_CatLayouts.f k t479 t480).bind fun bt489 => ((impl_LayoutSame.f k bt485.1 bt489.1).bind fun t493 => (if t493 = true then (laws_FnCatEmpty.j0 k t479 (bt485.2 != bt489.2)) else (laws_FnCatEmpty.j0 k t479 true))))) = some r := H
    have A3 := Aside0.mk A30
    clear A30
    replace H := Option.bind_eq_some_iff.mp H
    obtain ⟨⟨t485, t486⟩, A40, H⟩ := H
    replace H : ((spec_CatLayouts.f k t479 t480).bind fun bt489 => ((impl_LayoutSame.f k t485 bt489.1).bind fun t493 => (if t493 = true then (laws_FnCatEmpty.j0 k t479 (t486 != bt489.2)) else (laws_FnCatEmpty.j0 k t479 true)))) = some r := H
    have A4 := Aside0.mk A40
    clear A40
    replace H := Option.bind_eq_some_iff.mp H
    obtain ⟨⟨t489, t490⟩, A50, H⟩ := H
    replace H : ((impl_LayoutSame.f k t485 t489).bind fun t493 => (if t493 = true then (laws_FnCatEmpty.j0 k t479 (t486 != t490)) else (laws_FnCatEmpty.j0 k t479 true))) = some r := H
    have A5 := Aside0.mk A50
    clear A50
    have HC6 := Aside0.mk H
    clear H
    go_enter Try.func3, Try.ntmps3
    go_upto_region 6 with (first | ((with_reducible refine gate_callee (f := 15) rfl ?_); refine goesL_ (some 20) rfl rfl Try.func15 (by kernel_rfl) rfl #[.slice A0 l0.length c0] rfl (by (try simp only [List.map_toArray, List.map_cons, List.map_nil]); first | done | rfl | (simp only [List.length_drop, List.length_take]; rfl)) ?_; (with_reducible refine (spec_DrawCatLayouts.calls k _ _ l0 t479 t480 _ ?side1 ?side2 A3.out).mono ?_); (case side1 => repeat (first | exact HR0.out | (with_reducible refine Kd.C_alloc ?_ _) | (with_reducible refine Kd.C_drewN ?_ _) | (with_reducible refine Kd.C_drew ?_))); (case side2 => exact HC0.out); rintro e w7 ⟨v481, v483, rfl, ho0, ho1, hb⟩; refine ⟨_, rfl, ?_⟩; have n0_ := Aside0.mk (Kd.R_lower ho0 (below_size (gB HB))); have n1_ := Aside0.mk (Kd.R_lower ho1 (below_size (gB HB))); have n2_ := Aside0.mk (below_step (gB HB) hb); clear HB; have HO482 := n0_; have HO484 := n1_; have HB := n2_; clear n0_ n1_ n2_; (try clear hb); (try clear hb2); (try clear hk); (try clear hi); (try clear ho0); (try clear ho1); obtain ⟨Ao8, co8, eo8⟩ := Kd.R_slice HO482.out; subst eo8; obtain ⟨Ao9, co9, eo9⟩ := Kd.R_slice HO484.out; subst eo9) | ((with_reducible refine gate_callee (f := 16) rfl ?_); refine goesL_ (some 26) rfl rfl Try.func16 (by kernel_rfl) rfl #[.slice Ao8 t479.length co8, .slice Ao9 t480.length co9] rfl (by (try simp only [List.map_toArray, List.map_cons, List.map_nil]); first | done | rfl | (simp only [List.length_drop, List.length_take]; rfl)) ?_; (with_reducible refine (impl_CatLayouts.calls k _ _ t479 _ _ t480 t485 t486 _ ?side1 ?side2 ?side3 ?side4 A4.out).mono ?_); (case side1 => exact gC ((Kd.R_reads' HO482.out).2.2)); (case side2 => exact (Kd.R_reads' HO482.out).2.1); (case side3 => exact gC ((Kd.R_reads' HO484.out).2.2)); (case side4 => exact (Kd.R_reads' HO484.out).2.1); rintro e w10 ⟨v487, rfl, ho0, hb⟩; refine ⟨_, rfl, ?_⟩; have n0_ := Aside0.mk (Kd.R_elder' (gR HO482) (Kd.R_base ho0) hb); have n1_ := Aside0.mk (Kd.R_elder' (gR HO484) (Kd.R_base ho0) hb); have n2_ := Aside0.mk (Kd.R_lower (Kd.R_new' (Kd.R_new' ho0 (Kd.R_lt (gR HO482))) (Kd.R_lt (gR HO484))) (below_size (gB HB))); have n3_ := Aside0.mk (below_step (gB HB) hb); clear HO482; clear HO484; clear HB; have HO482 := n0_; have HO484 := n1_; have HO488 := n2_; have HB := n3_; clear n0_ n1_ n2_ n3_; (try clear hb); (try clear hb2); (try clear hk); (try clear hi); (try clear ho0)) | ((with_reducible refine gate_callee (f := 17) rfl ?_); refine goesL_ (some 32) rfl rfl Try.func17 (by kernel_rfl) rfl #[.slice Ao8 t479.length co8, .slice Ao9 t480.length co9] rfl (by (try simp only [List.map_toArray, List.map_cons, List.map_nil]); first | done | rfl | (simp only [List.length_drop, List.length_take]; rfl)) ?_; (with_reducible refine (spec_CatLayouts.calls k _ _ t479 _ _ t480 t489 t490 _ ?side1 ?side2 ?side3 ?side4 A5.out).mono ?_); (case side1 => exact gC ((Kd.R_reads' HO482.out).2.2)); (case side2 => exact (Kd.R_reads' HO482.out).2.1); (case side3 => exact gC ((Kd.R_reads' HO484.out).2.2)); (case side4 => exact (Kd.R_reads' HO484.out).2.1); rintro e w11 ⟨v491, rfl, ho0, hb⟩; refine ⟨_, rfl, ?_⟩; have n0_ := Aside0.mk (Kd.R_elder' (gR HO482) (Kd.R_base ho0) hb); have n1_ := Aside0.mk (Kd.R_elder' (gR HO484) (Kd.R_base ho0) hb); have n2_ := Aside0.mk (Kd.R_elder' (gR HO488) (Kd.R_base ho0) hb); have n3_ := Aside0.mk (Kd.R_lower (Kd.R_new' (Kd.R_new' (Kd.R_new' ho0 (Kd.R_lt (gR HO482))) (Kd.R_lt (gR HO484))) (Kd.R_lt (gR HO488))) (below_size (gB HB))); have n4_ := Aside0.mk (below_step (gB HB) hb); clear HO482; clear HO484; clear HO488; clear HB; have HO482 := n0_; have HO484 := n1_; have HO488 := n2_; have HO492 := n3_; have HB := n4_; clear n0_ n1_ n2_ n3_ n4_; (try clear hb); (try clear hb2); (try clear hk); (try clear hi); (try clear ho0)))
    (try simp only [Act.put, List.setIfInBounds_toArray, List.set_cons_zero, List.set_cons_succ])
    go_cut [43] (fun v43 wc => ∃ (kq : Nat) (x43_5 : Bool), v43 = .bool x43_5 ∧ Aside0 (laws_FnCatEmpty.j0 kq t479 x43_5 = some r) ∧ Aside0 (kq ≤ k) ∧ Aside0 (Kd.R k30 30 wc w.heap.size (fun _ => True) (.slice Ao8 t479.length co8) t479) ∧ Aside0 (Below w.heap.size w wc))
    case first =>
      have H := HC6.out
      clear HC6
      replace H := Option.bind_eq_some_iff.mp H
      obtain ⟨t493, A120, H⟩ := H
      replace H : (if t493 = true then (laws_FnCatEmpty.j0 k t479 (t486 != t490)) else (laws_FnCatEmpty.j0 k t479 true)) = some r := H
      have A12 := Aside0.mk A120
      clear A120
      by_cases c13 : t493 = true
      · subst c13
        have H1 : (laws_FnCatEmpty.j0 k t479 (t486 != t490)) = some r := by rw [if_pos rfl] at H; exact H
        clear H
        have H := H1
        clear H1
        have H' := Aside0.mk H
        clear H
        obtain ⟨Ao14, co14, eo14⟩ := Kd.R_slice HO488.out
        subst eo14
        obtain ⟨Ao15, co15, eo15⟩ := Kd.R_slice HO492.out
        subst eo15
        go_wp2_with (first | ((with_reducible refine gate_callee (f := 18) rfl ?_); refine goesL_ (some 37) rfl rfl Try.func18 (by kernel_rfl) rfl #[.slice Ao14 t485.length co14, .slice Ao15 t489.length co15] rfl (by (try simp only [List.map_toArray, List.map_cons, List.map_nil]); first | done | rfl | (simp only [List.length_drop, List.length_take]; rfl)) ?_; (with_reducible refine (impl_LayoutSame.calls k _ _ t485 _ _ t489 true _ ?side1 ?side2 ?side3 ?side4 A12.out).mono ?_); (case side1 => exact gC ((Kd.R_reads' HO488.out).2.2)); (case side2 => exact (Kd.R_reads' HO488.out).2.1); (case side3 => exact gC ((Kd.R_reads' HO492.out).2.2)); (case side4 => exact (Kd.R_reads' HO492.out).2.1); rintro e w' ⟨rfl, ⟨nd, rfl⟩⟩; refine ⟨_, rfl, ?_⟩))
        go_meet
        case rel => exact ⟨_, ((t486 != t490)), (by first | rfl | (simp; done) | (simp [*]; done)), H', ⟨by first | omega | exact Nat.le_refl _⟩, ⟨by (with_reducible repeat (first | apply Kd.R_alloc | apply Kd.R_drewN | apply Kd.R_drew)); exact Kd.R_mono HO482.out (fun _ hk => trivial)⟩, ⟨gB HB⟩⟩
      · replace c13 := Bool.eq_false_iff.mpr c13
        subst c13
        have H1 : (laws_FnCatEmpty.j0 k t479 true) = some r := by rw [if_neg (show ¬ (false = true) by decide)] at H; exact H
        clear H
        have H := H1
        clear H1
        have H' := Aside0.mk H
        clear H
        obtain ⟨Ao16, co16, eo16⟩ := Kd.R_slice HO488.out
        subst eo16
        obtain ⟨Ao17, co17, eo17⟩ := Kd.R_slice HO492.out
        subst eo17
        go_wp2_with (first | ((with_reducible refine gate_callee (f := 18) rfl ?_); refine goesL_ (some 37) rfl rfl Try.func18 (by kernel_rfl) rfl #[.slice Ao16 t485.length co16, .slice Ao17 t489.length co17] rfl (by (try simp only [List.map_toArray, List.map_cons, List.map_nil]); first | done | rfl | (simp only [List.length_drop, List.length_take]; rfl)) ?_; (with_reducible refine (impl_LayoutSame.calls k _ _ t485 _ _ t489 false _ ?side1 ?side2 ?side3 ?side4 A12.out).mono ?_); (case side1 => exact gC ((Kd.R_reads' HO488.out).2.2)); (case side2 => exact (Kd.R_reads' HO488.out).2.1); (case side3 => exact gC ((Kd.R_reads' HO492.out).2.2)); (case side4 => exact (Kd.R_reads' HO492.out).2.1); rintro e w' ⟨rfl, ⟨nd, rfl⟩⟩; refine ⟨_, rfl, ?_⟩))
        go_meet
        case rel => exact ⟨_, (true), (by first | rfl | (simp; done) | (simp [*]; done)), H', ⟨by first | omega | exact Nat.le_refl _⟩, ⟨by (with_reducible repeat (first | apply Kd.R_alloc | apply Kd.R_drewN | apply Kd.R_drew)); exact Kd.R_mono HO482.out (fun _ hk => trivial)⟩, ⟨gB HB⟩⟩
    case rest =>
      clear HC6
      try clear c1
      try clear c2
      try clear c2b0
      try clear c2b1
      try clear p2
      try clear c3
      try clear c13
      try clear c15
      try clear c16
      try clear c17
      obtain ⟨kq, x43_5, rfl, HA, HJ5, HO_3, HB⟩ := hcut
      cases kq with
      | zero => exact absurd HA.out (by simp [laws_FnCatEmpty.j0])
      | succ kj5 =>
        have H := HA.out
        clear HA
        simp only [laws_FnCatEmpty.j0] at H
        by_cases c18 : x43_5 = true
        · subst c18
          have H1 : (none) = some r := by rw [if_pos rfl] at H; exact H
          clear H
          have H := H1
          clear H1
          exact absurd H (by simp)
        · replace c18 := Bool.eq_false_iff.mpr c18
          subst c18
          have H1 : ((some (([(⟨0, (⟨#[]⟩ : ByteArray)⟩ : SRow)] : List (SRow)) : List (SRow))).bind fun y494 => ((impl_CatLayouts.f kj5 y494 t479).bind fun bt497 => ((impl_CatLayouts.f kj5 t479 y494).bind fun bt501 => ((impl_LayoutValid.f kj5 t479).bind fun t505 => (if (bt497.2 == t505) = true then (if (bt501.2 == t505) = true then (if t505 = true then ((impl_LayoutSame.f kj5 bt497.1 t479).bind fun t506 => (if t506 = true then ((impl_LayoutSame.f kj5 bt501.1 t479).bind fun t507 => (some t507)) else (none))) else (some true)) else (none)) else (none)))))) = some r := by rw [if_neg (show ¬ (false = true) by decide)] at H; exact H
          clear H
          have H := H1
          clear H1
          obtain ⟨y494, hy494⟩ : ∃ y_ : List (SRow), y_ = (([(⟨0, (⟨#[]⟩ : ByteArray)⟩ : SRow)] : List (SRow))) := ⟨_, rfl⟩
          replace H : ((impl_CatLayouts.f kj5 y494 t479).bind fun bt497 => ((impl_CatLayouts.f kj5 t479 y494).bind fun bt501 => ((impl_LayoutValid.f kj5 t479).bind fun t505 => (if (bt497.2 == t505) = true then (if (bt501.2 == t505) = true then (if t505 = true then ((impl_LayoutSame.f kj5 bt497.1 t479).bind fun t506 => (if t506 = true then ((impl_LayoutSame.f kj5 bt501.1 t479).bind fun t507 => (some t507)) else (none))) else (some true)) else (none)) else (none))))) = some r := by first | (rw [hy494]; with_reducible exact H) | (have H2_ := (Option.bind_some _ _).symm.trans H; rw [hy494]; with_reducible exact H2_) | (have H2_ := (Option.bind_some _ _).symm.trans H; with_reducible exact H2_) | with_reducible exact H | (rw [hy494]; exact H) | exact H
          have Ny494 := Aside0.mk hy494
          clear hy494
          replace H := Option.bind_eq_some_iff.mp H
          obtain ⟨⟨t497, t498⟩, A190, H⟩ := H
          replace H : ((impl_CatLayouts.f kj5 t479 y494).bind fun bt501 => ((impl_LayoutValid.f kj5 t479).bind fun t505 => (if (t498 == t505) = true then (if (bt501.2 == t505) = true then (if t505 = true then ((impl_LayoutSame.f kj5 t497 t479).bind fun t506 => (if t506 = true then ((impl_LayoutSame.f kj5 bt501.1 t479).bind fun t507 => (some t507)) else (none))) else (some true)) else (none)) else (none)))) = some r := H
          have A19 := Aside0.mk A190
          clear A190
          replace H := Option.bind_eq_some_iff.mp H
          obtain ⟨⟨t501, t502⟩, A200, H⟩ := H
          replace H : ((impl_LayoutValid.f kj5 t479).bind fun t505 => (if (t498 == t505) = true then (if (t502 == t505) = true then (if t505 = true then ((impl_LayoutSame.f kj5 t497 t479).bind fun t506 => (if t506 = true then ((impl_LayoutSame.f kj5 t501 t479).bind fun t507 => (some t507)) else (none))) else (some true)) else (none)) else (none))) = some r := H
          have A20 := Aside0.mk A200
          clear A200
          replace H := Option.bind_eq_some_iff.mp H
          obtain ⟨t505, A210, H⟩ := H
          replace H : (if (t498 == t505) = true then (if (t502 == t505) = true then (if t505 = true then ((impl_LayoutSame.f kj5 t497 t479).bind fun t506 => (if t506 = true then ((impl_LayoutSame.f kj5 t501 t479).bind fun t507 => (some t507)) else (none))) else (some true)) else (none)) else (none)) = some r := H
          have A21 := Aside0.mk A210
          clear A210
          by_cases c22 : (t498 == t505) = true
          · rw [if_pos c22] at H
            have c22b0 : (t498 == t505) = true := c22
            (try (have c22b1 : decide (t498 = t505) = true := by simpa using c22))
            (try (have c22b2 : (t498 == t505) = true := by simpa using c22))
            clear c22
            by_cases c23 : (t502 == t505) = true
            · rw [if_pos c23] at H
              have c23b0 : (t502 == t505) = true := c23
              (try (have c23b1 : decide (t502 = t505) = true := by simpa using c23))
              (try (have c23b2 : (t502 == t505) = true := by simpa using c23))
              clear c23
              by_cases c24 : t505 = true
              · subst c24
                have H1 : ((impl_LayoutSame.f kj5 t497 t479).bind fun t506 => (if t506 = true then ((impl_LayoutSame.f kj5 t501 t479).bind fun t507 => (some t507)) else (none))) = some r := by rw [if_pos rfl] at H; exact H
                clear H
                have H := H1
                clear H1
                replace H := Option.bind_eq_some_iff.mp H
                obtain ⟨t506, A250, H⟩ := H
                replace H : (if t506 = true then ((impl_LayoutSame.f kj5 t501 t479).bind fun t507 => (some t507)) else (none)) = some r := H
                have A25 := Aside0.mk A250
                clear A250
                by_cases c26 : t506 = true
                · subst c26
                  have H1 : ((impl_LayoutSame.f kj5 t501 t479).bind fun t507 => (some t507)) = some r := by rw [if_pos rfl] at H; exact H
                  clear H
                  have H := H1
                  clear H1
                  replace H := Option.bind_eq_some_iff.mp H
                  obtain ⟨t507, A270, H⟩ := H
                  replace H : (some t507) = some r := H
                  have A27 := Aside0.mk A270
                  clear A270
                  obtain rfl := Option.some.inj H
                  go_wp2_with (first | ((with_reducible refine gate_dst (N := 45) rfl ?_); refine Kd.R_lit k30 _ 30 ?hg (N := 45) ?hd (xs := ([(⟨0, (⟨#[]⟩ : ByteArray)⟩ : SRow)] : List (SRow))) (inner := [.int .i64 0, .string (⟨#[]⟩ : ByteArray)]) (ok := fun _ => True) (okp := fun _ => True) ?hr ?hp (fun _ hk => hk) trivial (Below.refl _ _) (Nat.le_refl _) (by simp) ?_; (case hd => rfl); (case hg => rfl); (case hr => first | (go_simp; done) | (go_simp; rfl)); (case hp => exact (Reps.c2 (show Kd.M k30 _ _ _ (⟨0, (⟨#[]⟩ : ByteArray)⟩ : SRow) [.int .i64 0, .string (⟨#[]⟩ : ByteArray)] from (k30_mkM _ _ _ (⟨0, (⟨#[]⟩ : ByteArray)⟩ : SRow) )) (Reps.none _ _))); intro v495 w28 ho29 hb hg_ hnew_; clear hg_ hnew_; (first | rw [← Ny494.out] at ho29 | (simp only [Int.reduceToNat] at ho29; rw [← Ny494.out] at ho29)); have n0_ := Aside0.mk (Kd.R_elder' (gR HO_3) (Kd.R_base ho29) hb); have n1_ := Aside0.mk (Kd.R_lower (Kd.R_new' ho29 (Kd.R_lt (gR HO_3))) (below_size (gB HB))); have n2_ := Aside0.mk (below_step (gB HB) hb); clear HO_3; clear HB; have HO_3 := n0_; have HO496 := n1_; have HB := n2_; clear n0_ n1_ n2_; clear hb ho29; obtain ⟨Ao30, co30, eo30⟩ := Kd.R_slice HO496.out; subst eo30) | ((with_reducible refine gate_callee (f := 16) rfl ?_); refine goesL_ (some 49) rfl rfl Try.func16 (by kernel_rfl) rfl #[.slice Ao30 y494.length co30, .slice Ao8 t479.length co8] rfl (by (try simp only [List.map_toArray, List.map_cons, List.map_nil]); first | done | rfl | (simp only [List.length_drop, List.length_take]; rfl)) ?_; (with_reducible refine (impl_CatLayouts.calls kj5 _ _ y494 _ _ t479 t497 t498 _ ?side1 ?side2 ?side3 ?side4 A19.out).mono ?_); (case side1 => exact gC ((Kd.R_reads' HO496.out).2.2)); (case side2 => exact (Kd.R_reads' HO496.out).2.1); (case side3 => exact gC ((Kd.R_reads' HO_3.out).2.2)); (case side4 => exact (Kd.R_reads' HO_3.out).2.1); rintro e w31 ⟨v499, rfl, ho0, hb⟩; refine ⟨_, rfl, ?_⟩; have n0_ := Aside0.mk (Kd.R_elder' (gR HO_3) (Kd.R_base ho0) hb); have n1_ := Aside0.mk (Kd.R_elder' (gR HO496) (Kd.R_base ho0) hb); have n2_ := Aside0.mk (Kd.R_lower (Kd.R_new' (Kd.R_new' ho0 (Kd.R_lt (gR HO_3))) (Kd.R_lt (gR HO496))) (below_size (gB HB))); have n3_ := Aside0.mk (below_step (gB HB) hb); clear HO_3; clear HO496; clear HB; have HO_3 := n0_; have HO496 := n1_; have HO500 := n2_; have HB := n3_; clear n0_ n1_ n2_ n3_; (try clear hb); (try clear hb2); (try clear hk); (try clear hi); (try clear ho0)) | ((with_reducible refine gate_callee (f := 16) rfl ?_); refine goesL_ (some 55) rfl rfl Try.func16 (by kernel_rfl) rfl #[.slice Ao8 t479.length co8, .slice Ao30 y494.length co30] rfl (by (try simp only [List.map_toArray, List.map_cons, List.map_nil]); first | done | rfl | (simp only [List.length_drop, List.length_take]; rfl)) ?_; (with_reducible refine (impl_CatLayouts.calls kj5 _ _ t479 _ _ y494 t501 t502 _ ?side1 ?side2 ?side3 ?side4 A20.out).mono ?_); (case side1 => exact gC ((Kd.R_reads' HO_3.out).2.2)); (case side2 => exact (Kd.R_reads' HO_3.out).2.1); (case side3 => exact gC ((Kd.R_reads' HO496.out).2.2)); (case side4 => exact (Kd.R_reads' HO496.out).2.1); rintro e w32 ⟨v503, rfl, ho0, hb⟩; refine ⟨_, rfl, ?_⟩; have n0_ := Aside0.mk (Kd.R_elder' (gR HO_3) (Kd.R_base ho0) hb); have n1_ := Aside0.mk (Kd.R_elder' (gR HO496) (Kd.R_base ho0) hb); have n2_ := Aside0.mk (Kd.R_elder' (gR HO500) (Kd.R_base ho0) hb); have n3_ := Aside0.mk (Kd.R_lower (Kd.R_new' (Kd.R_new' (Kd.R_new' ho0 (Kd.R_lt (gR HO_3))) (Kd.R_lt (gR HO496))) (Kd.R_lt (gR HO500))) (below_size (gB HB))); have n4_ := Aside0.mk (below_step (gB HB) hb); clear HO_3; clear HO496; clear HO500; clear HB; have HO_3 := n0_; have HO496 := n1_; have HO500 := n2_; have HO504 := n3_; have HB := n4_; clear n0_ n1_ n2_ n3_ n4_; (try clear hb); (try clear hb2); (try clear hk); (try clear hi); (try clear ho0)) | ((with_reducible refine gate_callee (f := 19) rfl ?_); refine goesL_ (some 59) rfl rfl Try.func19 (by kernel_rfl) rfl #[.slice Ao8 t479.length co8] rfl (by (try simp only [List.map_toArray, List.map_cons, List.map_nil]); first | done | rfl | (simp only [List.length_drop, List.length_take]; rfl)) ?_; (with_reducible refine (impl_LayoutValid.calls kj5 _ _ t479 true _ ?side1 ?side2 A21.out).mono ?_); (case side1 => exact gC ((Kd.R_reads' HO_3.out).2.2)); (case side2 => exact (Kd.R_reads' HO_3.out).2.1); rintro e w33 ⟨rfl, hb⟩; refine ⟨_, rfl, ?_⟩; have n0_ := Aside0.mk (Kd.R_below (gR HO_3) hb); have n1_ := Aside0.mk (Kd.R_below (gR HO496) hb); have n2_ := Aside0.mk (Kd.R_below (gR HO500) hb); have n3_ := Aside0.mk (Kd.R_below (gR HO504) hb); have n4_ := Aside0.mk (below_step (gB HB) hb); clear HO_3; clear HO496; clear HO500; clear HO504; clear HB; have HO_3 := n0_; have HO496 := n1_; have HO500 := n2_; have HO504 := n3_; have HB := n4_; clear n0_ n1_ n2_ n3_ n4_; (try clear hb); (try clear hb2); (try clear hk); (try clear hi); obtain ⟨Ao34, co34, eo34⟩ := Kd.R_slice HO500.out; subst eo34) | (go_at_call 18; (with_reducible refine (impl_LayoutSame.calls kj5 _ _ t497 _ _ t479 true _ ?side1 ?side2 ?side3 ?side4 A25.out).mono ?_); (case side1 => exact gC ((Kd.R_reads' HO500.out).2.2)); (case side2 => exact (Kd.R_reads' HO500.out).2.1); (case side3 => exact gC ((Kd.R_reads' HO_3.out).2.2)); (case side4 => exact (Kd.R_reads' HO_3.out).2.1); rintro e w' ⟨rfl, ⟨nd, rfl⟩⟩; obtain ⟨Ao35, co35, eo35⟩ := Kd.R_slice HO504.out; subst eo35) | (go_at_call 18; (with_reducible refine (impl_LayoutSame.calls kj5 _ _ t501 _ _ t479 t507 _ ?side1 ?side2 ?side3 ?side4 A27.out).mono ?_); (case side1 => exact gC ((Kd.R_reads' HO504.out).2.2)); (case side2 => exact (Kd.R_reads' HO504.out).2.1); (case side3 => exact gC ((Kd.R_reads' HO_3.out).2.2)); (case side4 => exact (Kd.R_reads' HO_3.out).2.1); rintro e w' ⟨rfl, ⟨nd, rfl⟩⟩))
                  go_ret
                  exact ⟨by first | rfl | (simp [errW_none, errW_some] <;> rfl) | (simp [*, errW_none, errW_some] <;> rfl), gB HB⟩
                · replace c26 := Bool.eq_false_iff.mpr c26
                  subst c26
                  have H1 : (none) = some r := by rw [if_neg (show ¬ (false = true) by decide)] at H; exact H
                  clear H
                  have H := H1
                  clear H1
                  exact absurd H (by simp)
              · replace c24 := Bool.eq_false_iff.mpr c24
                subst c24
                have H1 : (some true) = some r := by rw [if_neg (show ¬ (false = true) by decide)] at H; exact H
                clear H
                have H := H1
                clear H1
                obtain rfl := Option.some.inj H
                go_wp2_with (first | ((with_reducible refine gate_dst (N := 45) rfl ?_); refine Kd.R_lit k30 _ 30 ?hg (N := 45) ?hd (xs := ([(⟨0, (⟨#[]⟩ : ByteArray)⟩ : SRow)] : List (SRow))) (inner := [.int .i64 0, .string (⟨#[]⟩ : ByteArray)]) (ok := fun _ => True) (okp := fun _ => True) ?hr ?hp (fun _ hk => hk) trivial (Below.refl _ _) (Nat.le_refl _) (by simp) ?_; (case hd => rfl); (case hg => rfl); (case hr => first | (go_simp; done) | (go_simp; rfl)); (case hp => exact (Reps.c2 (show Kd.M k30 _ _ _ (⟨0, (⟨#[]⟩ : ByteArray)⟩ : SRow) [.int .i64 0, .string (⟨#[]⟩ : ByteArray)] from (k30_mkM _ _ _ (⟨0, (⟨#[]⟩ : ByteArray)⟩ : SRow) )) (Reps.none _ _))); intro v495 w36 ho37 hb hg_ hnew_; clear hg_ hnew_; (first | rw [← Ny494.out] at ho37 | (simp only [Int.reduceToNat] at ho37; rw [← Ny494.out] at ho37)); have n0_ := Aside0.mk (Kd.R_elder' (gR HO_3) (Kd.R_base ho37) hb); have n1_ := Aside0.mk (Kd.R_lower (Kd.R_new' ho37 (Kd.R_lt (gR HO_3))) (below_size (gB HB))); have n2_ := Aside0.mk (below_step (gB HB) hb); clear HO_3; clear HB; have HO_3 := n0_; have HO496 := n1_; have HB := n2_; clear n0_ n1_ n2_; clear hb ho37; obtain ⟨Ao38, co38, eo38⟩ := Kd.R_slice HO496.out; subst eo38) | ((with_reducible refine gate_callee (f := 16) rfl ?_); refine goesL_ (some 49) rfl rfl Try.func16 (by kernel_rfl) rfl #[.slice Ao38 y494.length co38, .slice Ao8 t479.length co8] rfl (by (try simp only [List.map_toArray, List.map_cons, List.map_nil]); first | done | rfl | (simp only [List.length_drop, List.length_take]; rfl)) ?_; (with_reducible refine (impl_CatLayouts.calls kj5 _ _ y494 _ _ t479 t497 t498 _ ?side1 ?side2 ?side3 ?side4 A19.out).mono ?_); (case side1 => exact gC ((Kd.R_reads' HO496.out).2.2)); (case side2 => exact (Kd.R_reads' HO496.out).2.1); (case side3 => exact gC ((Kd.R_reads' HO_3.out).2.2)); (case side4 => exact (Kd.R_reads' HO_3.out).2.1); rintro e w39 ⟨v499, rfl, ho0, hb⟩; refine ⟨_, rfl, ?_⟩; have n0_ := Aside0.mk (Kd.R_elder' (gR HO_3) (Kd.R_base ho0) hb); have n1_ := Aside0.mk (Kd.R_elder' (gR HO496) (Kd.R_base ho0) hb); have n2_ := Aside0.mk (Kd.R_lower (Kd.R_new' (Kd.R_new' ho0 (Kd.R_lt (gR HO_3))) (Kd.R_lt (gR HO496))) (below_size (gB HB))); have n3_ := Aside0.mk (below_step (gB HB) hb); clear HO_3; clear HO496; clear HB; have HO_3 := n0_; have HO496 := n1_; have HO500 := n2_; have HB := n3_; clear n0_ n1_ n2_ n3_; (try clear hb); (try clear hb2); (try clear hk); (try clear hi); (try clear ho0)) | ((with_reducible refine gate_callee (f := 16) rfl ?_); refine goesL_ (some 55) rfl rfl Try.func16 (by kernel_rfl) rfl #[.slice Ao8 t479.length co8, .slice Ao38 y494.length co38] rfl (by (try simp only [List.map_toArray, List.map_cons, List.map_nil]); first | done | rfl | (simp only [List.length_drop, List.length_take]; rfl)) ?_; (with_reducible refine (impl_CatLayouts.calls kj5 _ _ t479 _ _ y494 t501 t502 _ ?side1 ?side2 ?side3 ?side4 A20.out).mono ?_); (case side1 => exact gC ((Kd.R_reads' HO_3.out).2.2)); (case side2 => exact (Kd.R_reads' HO_3.out).2.1); (case side3 => exact gC ((Kd.R_reads' HO496.out).2.2)); (case side4 => exact (Kd.R_reads' HO496.out).2.1); rintro e w40 ⟨v503, rfl, ho0, hb⟩; refine ⟨_, rfl, ?_⟩; have n0_ := Aside0.mk (Kd.R_elder' (gR HO_3) (Kd.R_base ho0) hb); have n1_ := Aside0.mk (Kd.R_elder' (gR HO496) (Kd.R_base ho0) hb); have n2_ := Aside0.mk (Kd.R_elder' (gR HO500) (Kd.R_base ho0) hb); have n3_ := Aside0.mk (Kd.R_lower (Kd.R_new' (Kd.R_new' (Kd.R_new' ho0 (Kd.R_lt (gR HO_3))) (Kd.R_lt (gR HO496))) (Kd.R_lt (gR HO500))) (below_size (gB HB))); have n4_ := Aside0.mk (below_step (gB HB) hb); clear HO_3; clear HO496; clear HO500; clear HB; have HO_3 := n0_; have HO496 := n1_; have HO500 := n2_; have HO504 := n3_; have HB := n4_; clear n0_ n1_ n2_ n3_ n4_; (try clear hb); (try clear hb2); (try clear hk); (try clear hi); (try clear ho0)) | ((with_reducible refine gate_callee (f := 19) rfl ?_); refine goesL_ (some 59) rfl rfl Try.func19 (by kernel_rfl) rfl #[.slice Ao8 t479.length co8] rfl (by (try simp only [List.map_toArray, List.map_cons, List.map_nil]); first | done | rfl | (simp only [List.length_drop, List.length_take]; rfl)) ?_; (with_reducible refine (impl_LayoutValid.calls kj5 _ _ t479 false _ ?side1 ?side2 A21.out).mono ?_); (case side1 => exact gC ((Kd.R_reads' HO_3.out).2.2)); (case side2 => exact (Kd.R_reads' HO_3.out).2.1); rintro e w41 ⟨rfl, hb⟩; refine ⟨_, rfl, ?_⟩; have n0_ := Aside0.mk (Kd.R_below (gR HO_3) hb); have n1_ := Aside0.mk (Kd.R_below (gR HO496) hb); have n2_ := Aside0.mk (Kd.R_below (gR HO500) hb); have n3_ := Aside0.mk (Kd.R_below (gR HO504) hb); have n4_ := Aside0.mk (below_step (gB HB) hb); clear HO_3; clear HO496; clear HO500; clear HO504; clear HB; have HO_3 := n0_; have HO496 := n1_; have HO500 := n2_; have HO504 := n3_; have HB := n4_; clear n0_ n1_ n2_ n3_ n4_; (try clear hb); (try clear hb2); (try clear hk); (try clear hi)))
                go_ret
                exact ⟨by first | rfl | (simp [errW_none, errW_some] <;> rfl) | (simp [*, errW_none, errW_some] <;> rfl), gB HB⟩
            · rw [if_neg c23] at H
              exact absurd H (by simp)
          · rw [if_neg c22] at H
            exact absurd H (by simp)
def laws_FnCatEmpty.Pure : Prop := ∀ (l0 : List Int), l0.length ≤ maxLen → l0.length * 1 ≤ 140737488351232 → (∀ x ∈ l0, (Lit.int .u8 x).wf = true) → ∃ k, laws_FnCatEmpty.f k l0 = some true
theorem laws_FnCatEmpty.walk (P : laws_FnCatEmpty.Pure) (a0 : Option Addr) (len0 cap0 : Nat) (z0 : List Int) (w : World) (w0 : (a0 = none ∧ len0 = 0 ∧ cap0 = 0 ∧ z0 = []) ∨ ∃ x, a0 = some x ∧ len0 ≤ cap0 ∧ cap0 ≤ maxLen ∧ z0.length = cap0 ∧ (∀ i, i < z0.length → w.cell? (x.add i) = some (.int .u8 (z0.getD i 0))) ∧ ∀ n ∈ z0, (Lit.int .u8 n).wf = true) (y0 : len0 * 1 ≤ 140737488351232) :
    Calls Try.prog 3 #[.slice a0 len0 cap0] w fun e w' => e = .returned (.bool true) ∧ Below w.heap.size w w' := by
  obtain ⟨l0, rfl, hr0, hm0, hw0, hc0⟩ := ReadsInt.ofRowC w0
  obtain ⟨k, h⟩ := P l0 hm0 y0 hw0
  refine (laws_FnCatEmpty.calls k _ _ l0 true w (Kd.C_of_reads (d := (0 : Int)) (h1 := fun _ => rfl) hr0) hc0 h).mono ?_
  rintro e w' ⟨rfl, hd⟩
  exact ⟨rfl, hd⟩
end Go.Proofs.Ytdhdfmmefghijab.P
namespace Go.Proofs.Ytdhdfmmefghijab.Pure
open Go.RowKit Go.Proofs.Ytdhdfmmefghijab.P Go.Proofs.YtdhdfmmefghijabW.PrintWords Go.Proofs.YtdhdfmmefghijabW.PrintLast Go.Proofs.YtdhdfmmefghijabW.PrintMore
set_option linter.unusedVariables false
set_option linter.unusedSimpArgs false
theorem FnCatEmpty : laws_FnCatEmpty.Pure := by
  intro l hl _ hw
  refine Ev.rounds (g := fun k => laws_FnCatEmpty.f k l) (Ev.congr (fun k => by rw [laws_FnCatEmpty.f]) (big_or ?_))
  obtain ⟨a, b, hd, ha, hb⟩ := drawCat_ev l hl hw
  refine Ev.bind hd (Ev.bind (catI_ev ha hb) (Ev.bind (catS_ev ha hb) (Ev.bind (same_ev (catL_rows a b)) ?_)))
  simp only [if_true, bne_self_eq_false]
  refine Ev.step (fun k => by rw [laws_FnCatEmpty.j0]) ?_
  have h1 : Rows [(⟨0, ⟨#[]⟩⟩ : SRow)] := ⟨by simp, fun y hy => by rw [List.mem_singleton.1 hy]; exact Nat.zero_le _⟩
  have hv := implLV_ev a (by have := ha.1; omega) (fun y hy => by have := ha.2 y hy; omega)
  simp only [Bool.false_eq_true, if_false, Option.bind_some]
  refine Ev.bind (catI_ev h1 ha) (Ev.bind (catI_ev ha h1) (Ev.bind hv ?_))
  have e1 : layV [(⟨0, ⟨#[]⟩⟩ : SRow)] = true := rfl
  by_cases c : layV a = true
  · have hne := (layV_ok c).1
    have eL : catO [(⟨0, ⟨#[]⟩⟩ : SRow)] a = a := by
      cases a with
      | nil => simp at hne
      | cons s t => exact catO_empty_left (layV_head c)
    have eR := catO_empty_right hne
    have c1 := catL_of e1 c (by rw [eL]; exact c)
    have c2 := catL_of c e1 (by rw [eR]; exact c)
    rw [c1, c2, eL, eR, c]
    simp only [beq_self_eq_true, if_true]
    refine Ev.bind (same_ev ha) ?_
    simp only [if_true]
    exact Ev.bind (same_ev ha) (Ev.now _)
  · have c' : layV a = false := by simpa using c
    have c1 : (catL [(⟨0, ⟨#[]⟩⟩ : SRow)] a).2 = false := by
      cases h : (catL [(⟨0, ⟨#[]⟩⟩ : SRow)] a).2 with
      | false => rfl
      | true => exact absurd (catL_true h).2.1 c
    have c2 : (catL a [(⟨0, ⟨#[]⟩⟩ : SRow)]).2 = false := by
      cases h : (catL a [(⟨0, ⟨#[]⟩⟩ : SRow)]).2 with
      | false => rfl
      | true => exact absurd (catL_true h).1 c
    simp only [c1, c2, c', beq_self_eq_true, if_true, Bool.false_eq_true, if_false]
    exact Ev.now _
end Go.Proofs.Ytdhdfmmefghijab.Pure
