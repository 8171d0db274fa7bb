/- CONTRACTS and lemmas for the law FnCatGroups. -/
import Derived.Test.YtdhdfmmefghijabVLa9
namespace Go.Proofs.Ytdhdfmmefghijab.P
open Go.RowKit Go.Proofs.YtdhdfmmefghijabW.PrintWords Go.Proofs.YtdhdfmmefghijabW.PrintLast Go.Proofs.YtdhdfmmefghijabW.PrintMore
attribute [local go_sem] max2_int min2_int max_two min_two max_three min_three max_four min_four
set_option linter.unusedVariables false
set_option linter.unusedSimpArgs false
mutual
def laws_FnCatGroups.j0 : Nat → List Int → List Int → Bool → Option (Bool)
  | 0, _, _, _ => none
  | k + 1, x0, x1, x26 => if x26 = true then (some true) else ((spec_DrawCatLayouts.f k x0).bind fun bt508 => ((spec_DrawCatLayouts.f k x1).bind fun bt514 => ((impl_CatLayouts.f k bt508.1 bt508.2).bind fun bt520 => ((spec_CatLayouts.f k bt508.1 bt508.2).bind fun bt524 => ((impl_LayoutSame.f k bt520.1 bt524.1).bind fun t528 => (if t528 = true then (if (bt520.2 != bt524.2) = true then (laws_FnCatGroups.j1 k bt508.1 bt508.2 bt514.1 bt520.1 bt520.2 bt524.1 bt524.2 true) else (laws_FnCatGroups.j1 k bt508.1 bt508.2 bt514.1 bt520.1 bt520.2 bt524.1 bt524.2 (!bt520.2))) else (laws_FnCatGroups.j1 k bt508.1 bt508.2 bt514.1 bt520.1 bt520.2 bt524.1 bt524.2 true)))))))
def laws_FnCatGroups.j1 : Nat → List (SRow) → List (SRow) → List (SRow) → List (SRow) → Bool → List (SRow) → Bool → Bool → Option (Bool)
  | 0, _, _, _, _, _, _, _, _ => none
  | k + 1, x5, x6, x7, x9, x10, x11, x12, x61 => if x61 = true then ((impl_LayoutSame.f k x9 x11).bind fun t529 => (if t529 = true then (some (x10 == x12)) else (none))) else ((impl_CatLayouts.f k x6 x7).bind fun bt530 => ((impl_CatLayouts.f k x9 x7).bind fun bt534 => ((impl_CatLayouts.f k x5 bt530.1).bind fun bt538 => (if bt530.2 = true then (if bt534.2 = true then (if bt538.2 = true then ((impl_LayoutSame.f k bt534.1 bt538.1).bind fun t542 => (some t542)) else (some true)) else (some true)) else (some true)))))
end
def laws_FnCatGroups.f (k : Nat) (l0 : List Int) (l1 : List Int) : Option (Bool) := if (l0.length : Int) > 1048576 then (laws_FnCatGroups.j0 k l0 l1 true) else (laws_FnCatGroups.j0 k l0 l1 (decide ((l1.length : Int) > 1048576)))
set_option maxHeartbeats 8000000 in
set_option maxRecDepth 100000 in
theorem laws_FnCatGroups.calls (k : Nat) (A0 : Option Addr) (c0 : Nat) (l0 : List Int) (A1 : Option Addr) (c1 : Nat) (l1 : List Int) (r : Bool) (w : World) (hr0 : Kd.C (Kd.int .u8) w A0 l0.length l0) (hc0 : l0.length ≤ c0) (hr1 : Kd.C (Kd.int .u8) w A1 l1.length l1) (hc1 : l1.length ≤ c1) (h : laws_FnCatGroups.f k l0 l1 = some r) :
    Calls Try.prog 4 #[.slice A0 l0.length c0, .slice A1 l1.length c1] w fun e w' => e = .returned (.bool r) ∧ Below w.heap.size w w' := by
  have HR0 := Aside0.mk hr0
  have HC0 := Aside0.mk hc0
  clear hr0 hc0
  have HR1 := Aside0.mk hr1
  have HC1 := Aside0.mk hc1
  clear hr1 hc1
  have HB := Aside0.mk (Below.refl w.heap.size w)
  have H : (if (l0.length : Int) > 1048576 then (laws_FnCatGroups.j0 k l0 l1 true) else (laws_FnCatGroups.j0 k l0 l1 (decide ((l1.length : Int) > 1048576)))) = some r := h
  clear h
  have HC3 := Aside0.mk H
  clear H
  go_enter Try.func4, Try.ntmps4
  go_upto_region 1 with (fail)
  go_cut [26] (fun v26 wc => ∃ (kq : Nat) (x26_2 : Bool), v26 = .bool x26_2 ∧ Aside0 (laws_FnCatGroups.j0 kq l0 l1 x26_2 = some r) ∧ Aside0 (kq ≤ k) ∧ Aside0 (Below w.heap.size w wc))
  case first =>
    have H := HC3.out
    clear HC3
    by_cases c4 : (l0.length : Int) > 1048576
    · rw [if_pos c4] at H
      have c4b0 : decide (1048576 < (l0.length : Int)) = true := decide_eq_true c4
      have c4b1 : decide (1048576 < l0.length) = true := decide_eq_true (by omega)
      clear c4
      (first | rw [c4b0] | (simp only [i64_w, i32_w]; rw [c4b0]) | skip)
      have H' := Aside0.mk H
      clear H
      go_wp2
      go_meet
      case rel => exact ⟨_, (true), (by first | rfl | (simp; done) | (simp [*]; done)), H', ⟨by first | omega | exact Nat.le_refl _⟩, ⟨gB HB⟩⟩
    · rw [if_neg c4] at H
      have c4b0 : decide (1048576 < (l0.length : Int)) = false := decide_eq_false c4
      have c4b1 : decide (1048576 < l0.length) = false := decide_eq_false (by omega)
      clear c4
      (first | rw [c4b0] | (simp only [i64_w, i32_w]; rw [c4b0]) | skip)
      have H' := Aside0.mk H
      clear H
      go_wp2
      go_meet
      case rel => exact ⟨_, (decide ((l1.length : Int) > 1048576)), (by first | rfl | (simp; done) | (simp [*]; done)), H', ⟨by first | omega | exact Nat.le_refl _⟩, ⟨gB HB⟩⟩
  case rest =>
    clear HC3
    try clear c1
    try clear p2
    try clear c4
    try clear c4b0
    try clear c4b1
    obtain ⟨kq, x26_2, rfl, HA, HJ2, HB⟩ := hcut
    cases kq with
    | zero => exact absurd HA.out (by simp [laws_FnCatGroups.j0])
    | succ kj2 =>
      have H := HA.out
      clear HA
      simp only [laws_FnCatGroups.j0] at H
      by_cases c5 : x26_2 = true
      · subst c5
        have H1 : (some true) = some r := by rw [if_pos rfl] at H; exact H
        clear H
        have H := H1
        clear H1
        obtain rfl := Option.some.inj H
        go_wp2
        go_ret
        exact ⟨by first | rfl | (simp [errW_none, errW_some] <;> rfl) | (simp [*, errW_none, errW_some] <;> rfl), gB HB⟩
      · replace c5 := Bool.eq_false_iff.mpr c5
        subst c5
        have H1 : ((spec_DrawCatLayouts.f kj2 l0).bind fun bt508 => ((spec_DrawCatLayouts.f kj2 l1).bind fun bt514 => ((impl_CatLayouts.f kj2 bt508.1 bt508.2).bind fun bt520 => ((spec_CatLayouts.f kj2 bt508.1 bt508.2).bind fun bt524 => ((impl_LayoutSame.f kj2 bt520.1 bt524.1).bind fun t528 => (if t528 = true then (if (bt520.2 != bt524.2) = true then (laws_FnCatGroups.j1 kj2 bt508.1 bt508.2 bt514.1 bt520.1 bt520.2 bt524.1 bt524.2 true) else (laws_FnCatGroups.j1 kj2 bt508.1 bt508.2 bt514.1 bt520.1 bt520.2 bt524.1 bt524.2 (!bt520.2))) else (laws_FnCatGroups.j1 kj2 bt508.1 bt508.2 bt514.1 bt520.1 bt520.2 bt524.1 bt524.2 true))))))) = some r := by rw [if_neg (show ¬ (false = true) by decide)] at H; exact H
        clear H
        have H := H1
        clear H1
        replace H := Option.bind_eq_some_iff.mp H
        obtain ⟨⟨t508, t509⟩, A60, H⟩ := H
        replace H : ((spec_DrawCatLayouts.f kj2 l1).bind fun bt514 => ((impl_CatLayouts.f kj2 t508 t509).bind fun bt520 => ((spec_CatLayouts.f kj2 t508 t509).bind fun bt524 => ((impl_LayoutSame.f kj2 bt520.1 bt524.1).bind fun t528 => (if t528 = true then (if (bt520.2 != bt524.2) = true then (laws_FnCatGroups.j1 kj2 t508 t509 bt514.1 bt520.1 bt520.2 bt524.1 bt524.2 true) else (laws_FnCatGroups.j1 kj2 t508 t509 bt514.1 bt520.1 bt520.2 bt524.1 bt524.2 (!bt520.2))) else (laws_FnCatGroups.j1 kj2 t508 t509 bt514.1 bt520.1 bt520.2 bt524.1 bt524.2 true)))))) = some r := H
        have A6 := Aside0.mk A60
        clear A60
        replace H := Option.bind_eq_some_iff.mp H
        obtain ⟨⟨t514, t515⟩, A70, H⟩ := H
        replace H : ((impl_CatLayouts.f kj2 t508 t509).bind fun bt520 => ((spec_CatLayouts.f kj2 t508 t509).bind fun bt524 => ((impl_LayoutSame.f kj2 bt520.1 bt524.1).bind fun t528 => (if t528 = true then (if (bt520.2 != bt524.2) = true then (laws_FnCatGroups.j1 kj2 t508 t509 t514 bt520.1 bt520.2 bt524.1 bt524.2 true) else (laws_FnCatGroups.j1 kj2 t508 t509 t514 bt520.1 bt520.2 bt524.1 bt524.2 (!bt520.2))) else (laws_FnCatGroups.j1 kj2 t508 t509 t514 bt520.1 bt520.2 bt524.1 bt524.2 true))))) = some r := H
        have A7 := Aside0.mk A70
        clear A70
        replace H := Option.bind_eq_some_iff.mp H
        obtain ⟨⟨t520, t521⟩, A80, H⟩ := H
        replace H : ((spec_CatLayouts.f kj2 t508 t509).bind fun bt524 => ((impl_LayoutSame.f kj2 t520 bt524.1).bind fun t528 => (if t528 = true then (if (t521 != bt524.2) = true then (laws_FnCatGroups.j1 kj2 t508 t509 t514 t520 t521 bt524.1 bt524.2 true) else (laws_FnCatGroups.j1 kj2 t508 t509 t514 t520 t521 bt524.1 bt524.2 (!t521))) else (laws_FnCatGroups.j1 kj2 t508 t509 t514 t520 t521 bt524.1 bt524.2 true)))) = some r := H
        have A8 := Aside0.mk A80
        clear A80
        replace H := Option.bind_eq_some_iff.mp H
        obtain ⟨⟨t524, t525⟩, A90, H⟩ := H
        replace H : ((impl_LayoutSame.f kj2 t520 t524).bind fun t528 => (if t528 = true then (if (t521 != t525) = true then (laws_FnCatGroups.j1 kj2 t508 t509 t514 t520 t521 t524 t525 true) else (laws_FnCatGroups.j1 kj2 t508 t509 t514 t520 t521 t524 t525 (!t521))) else (laws_FnCatGroups.j1 kj2 t508 t509 t514 t520 t521 t524 t525 true))) = some r := H
        have A9 := Aside0.mk A90
        clear A90
        have HC10 := Aside0.mk H
        clear H
        go_upto_region 7 with (first | ((with_reducible refine gate_callee (f := 15) rfl ?_); refine goesL_ (some 29) rfl rfl Try.func15 (by kernel_rfl) rfl #[.slice A0 l0.length c0] rfl (by (try simp only [List.map_toArray, List.map_cons, List.map_nil]); first | done | rfl | (simp only [List.length_drop, List.length_take]; rfl)) ?_; (with_reducible refine (spec_DrawCatLayouts.calls kj2 _ _ l0 t508 t509 _ ?side1 ?side2 A6.out).mono ?_); (case side1 => exact gC (Kd.C_below HR0.out HB.out)); (case side2 => exact HC0.out); rintro e w11 ⟨v510, v512, rfl, ho0, ho1, hb⟩; refine ⟨_, rfl, ?_⟩; have n0_ := Aside0.mk (Kd.R_lower ho0 (below_size (gB HB))); have n1_ := Aside0.mk (Kd.R_lower ho1 (below_size (gB HB))); have n2_ := Aside0.mk (below_step (gB HB) hb); clear HB; have HO511 := n0_; have HO513 := n1_; have HB := n2_; clear n0_ n1_ n2_; (try clear hb); (try clear hb2); (try clear hk); (try clear hi); (try clear ho0); (try clear ho1)) | ((with_reducible refine gate_callee (f := 15) rfl ?_); refine goesL_ (some 34) rfl rfl Try.func15 (by kernel_rfl) rfl #[.slice A1 l1.length c1] rfl (by (try simp only [List.map_toArray, List.map_cons, List.map_nil]); first | done | rfl | (simp only [List.length_drop, List.length_take]; rfl)) ?_; (with_reducible refine (spec_DrawCatLayouts.calls kj2 _ _ l1 t514 t515 _ ?side1 ?side2 A7.out).mono ?_); (case side1 => exact gC (Kd.C_below HR1.out HB.out)); (case side2 => exact HC1.out); rintro e w12 ⟨v516, v518, rfl, ho0, ho1, hb⟩; refine ⟨_, rfl, ?_⟩; have n0_ := Aside0.mk (Kd.R_mono (Kd.R_told (Kd.R_told (Kd.R_old (gR HO511) hb) (Kd.R_base ho0)) (Kd.R_base ho1)) (fun _ h_ => h_.1)); have n1_ := Aside0.mk (Kd.R_mono (Kd.R_told (Kd.R_told (Kd.R_old (gR HO513) hb) (Kd.R_base ho0)) (Kd.R_base ho1)) (fun _ h_ => h_.1)); have n2_ := Aside0.mk (Kd.R_lower (Kd.R_new' (Kd.R_new' ho0 (Kd.R_lt (gR HO511))) (Kd.R_lt (gR HO513))) (below_size (gB HB))); have n3_ := Aside0.mk (Kd.R_lower (Kd.R_new' (Kd.R_new' ho1 (Kd.R_lt (gR HO511))) (Kd.R_lt (gR HO513))) (below_size (gB HB))); have n4_ := Aside0.mk (below_step (gB HB) hb); clear HO511; clear HO513; clear HB; have HO511 := n0_; have HO513 := n1_; have HO517 := n2_; have HO519 := n3_; have HB := n4_; clear n0_ n1_ n2_ n3_ n4_; (try clear hb); (try clear hb2); (try clear hk); (try clear hi); (try clear ho0); (try clear ho1); obtain ⟨Ao13, co13, eo13⟩ := Kd.R_slice HO511.out; subst eo13; obtain ⟨Ao14, co14, eo14⟩ := Kd.R_slice HO513.out; subst eo14) | ((with_reducible refine gate_callee (f := 16) rfl ?_); refine goesL_ (some 40) rfl rfl Try.func16 (by kernel_rfl) rfl #[.slice Ao13 t508.length co13, .slice Ao14 t509.length co14] rfl (by (try simp only [List.map_toArray, List.map_cons, List.map_nil]); first | done | rfl | (simp only [List.length_drop, List.length_take]; rfl)) ?_; (with_reducible refine (impl_CatLayouts.calls kj2 _ _ t508 _ _ t509 t520 t521 _ ?side1 ?side2 ?side3 ?side4 A8.out).mono ?_); (case side1 => exact gC ((Kd.R_reads' HO511.out).2.2)); (case side2 => exact (Kd.R_reads' HO511.out).2.1); (case side3 => exact gC ((Kd.R_reads' HO513.out).2.2)); (case side4 => exact (Kd.R_reads' HO513.out).2.1); rintro e w15 ⟨v522, rfl, ho0, hb⟩; refine ⟨_, rfl, ?_⟩; have n0_ := Aside0.mk (Kd.R_elder' (gR HO511) (Kd.R_base ho0) hb); have n1_ := Aside0.mk (Kd.R_elder' (gR HO513) (Kd.R_base ho0) hb); have n2_ := Aside0.mk (Kd.R_elder' (gR HO517) (Kd.R_base ho0) hb); have n3_ := Aside0.mk (Kd.R_elder' (gR HO519) (Kd.R_base ho0) hb); have n4_ := Aside0.mk (Kd.R_lower (Kd.R_new' (Kd.R_new' (Kd.R_new' (Kd.R_new' ho0 (Kd.R_lt (gR HO511))) (Kd.R_lt (gR HO513))) (Kd.R_lt (gR HO517))) (Kd.R_lt (gR HO519))) (below_size (gB HB))); have n5_ := Aside0.mk (below_step (gB HB) hb); clear HO511; clear HO513; clear HO517; clear HO519; clear HB; have HO511 := n0_; have HO513 := n1_; have HO517 := n2_; have HO519 := n3_; have HO523 := n4_; have HB := n5_; clear n0_ n1_ n2_ n3_ n4_ n5_; (try clear hb); (try clear hb2); (try clear hk); (try clear hi); (try clear ho0)) | ((with_reducible refine gate_callee (f := 17) rfl ?_); refine goesL_ (some 46) rfl rfl Try.func17 (by kernel_rfl) rfl #[.slice Ao13 t508.length co13, .slice Ao14 t509.length co14] rfl (by (try simp only [List.map_toArray, List.map_cons, List.map_nil]); first | done | rfl | (simp only [List.length_drop, List.length_take]; rfl)) ?_; (with_reducible refine (spec_CatLayouts.calls kj2 _ _ t508 _ _ t509 t524 t525 _ ?side1 ?side2 ?side3 ?side4 A9.out).mono ?_); (case side1 => exact gC ((Kd.R_reads' HO511.out).2.2)); (case side2 => exact (Kd.R_reads' HO511.out).2.1); (case side3 => exact gC ((Kd.R_reads' HO513.out).2.2)); (case side4 => exact (Kd.R_reads' HO513.out).2.1); rintro e w16 ⟨v526, rfl, ho0, hb⟩; refine ⟨_, rfl, ?_⟩; have n0_ := Aside0.mk (Kd.R_elder' (gR HO511) (Kd.R_base ho0) hb); have n1_ := Aside0.mk (Kd.R_elder' (gR HO513) (Kd.R_base ho0) hb); have n2_ := Aside0.mk (Kd.R_elder' (gR HO517) (Kd.R_base ho0) hb); have n3_ := Aside0.mk (Kd.R_elder' (gR HO519) (Kd.R_base ho0) hb); have n4_ := Aside0.mk (Kd.R_elder' (gR HO523) (Kd.R_base ho0) hb); have n5_ := Aside0.mk (Kd.R_lower (Kd.R_new' (Kd.R_new' (Kd.R_new' (Kd.R_new' (Kd.R_new' ho0 (Kd.R_lt (gR HO511))) (Kd.R_lt (gR HO513))) (Kd.R_lt (gR HO517))) (Kd.R_lt (gR HO519))) (Kd.R_lt (gR HO523))) (below_size (gB HB))); have n6_ := Aside0.mk (below_step (gB HB) hb); clear HO511; clear HO513; clear HO517; clear HO519; clear HO523; clear HB; have HO511 := n0_; have HO513 := n1_; have HO517 := n2_; have HO519 := n3_; have HO523 := n4_; have HO527 := n5_; have HB := n6_; clear n0_ n1_ n2_ n3_ n4_ n5_ n6_; (try clear hb); (try clear hb2); (try clear hk); (try clear hi); (try clear ho0)))
        (try simp only [Act.put, List.setIfInBounds_toArray, List.set_cons_zero, List.set_cons_succ])
        go_cut [61] (fun v61 wc => ∃ (kq : Nat) (x61_9 : Bool), v61 = .bool x61_9 ∧ Aside0 (laws_FnCatGroups.j1 kq t508 t509 t514 t520 t521 t524 t525 x61_9 = some r) ∧ Aside0 (kq ≤ kj2) ∧ Aside0 (Kd.R k30 30 wc w.heap.size (fun k_ => some k_ ≠ ((.slice Ao14 t509.length co14) : Value).ownBlock ∧ some k_ ≠ (v516 : Value).ownBlock ∧ some k_ ≠ (v522 : Value).ownBlock ∧ some k_ ≠ (v526 : Value).ownBlock) (.slice Ao13 t508.length co13) t508) ∧ Aside0 (Kd.R k30 30 wc w.heap.size (fun k_ => some k_ ≠ ((.slice Ao13 t508.length co13) : Value).ownBlock ∧ some k_ ≠ (v516 : Value).ownBlock ∧ some k_ ≠ (v522 : Value).ownBlock ∧ some k_ ≠ (v526 : Value).ownBlock) (.slice Ao14 t509.length co14) t509) ∧ Aside0 (Kd.R k30 30 wc w.heap.size (fun k_ => some k_ ≠ ((.slice Ao13 t508.length co13) : Value).ownBlock ∧ some k_ ≠ ((.slice Ao14 t509.length co14) : Value).ownBlock ∧ some k_ ≠ (v522 : Value).ownBlock ∧ some k_ ≠ (v526 : Value).ownBlock) v516 t514) ∧ Aside0 (Kd.R k30 30 wc w.heap.size (fun k_ => some k_ ≠ ((.slice Ao13 t508.length co13) : Value).ownBlock ∧ some k_ ≠ ((.slice Ao14 t509.length co14) : Value).ownBlock ∧ some k_ ≠ (v516 : Value).ownBlock ∧ some k_ ≠ (v526 : Value).ownBlock) v522 t520) ∧ Aside0 (Kd.R k30 30 wc w.heap.size (fun k_ => some k_ ≠ ((.slice Ao13 t508.length co13) : Value).ownBlock ∧ some k_ ≠ ((.slice Ao14 t509.length co14) : Value).ownBlock ∧ some k_ ≠ (v516 : Value).ownBlock ∧ some k_ ≠ (v522 : Value).ownBlock) v526 t524) ∧ Aside0 (Below w.heap.size w wc))
        case first =>
          have H := HC10.out
          clear HC10
          replace H := Option.bind_eq_some_iff.mp H
          obtain ⟨t528, A170, H⟩ := H
          replace H : (if t528 = true then (if (t521 != t525) = true then (laws_FnCatGroups.j1 kj2 t508 t509 t514 t520 t521 t524 t525 true) else (laws_FnCatGroups.j1 kj2 t508 t509 t514 t520 t521 t524 t525 (!t521))) else (laws_FnCatGroups.j1 kj2 t508 t509 t514 t520 t521 t524 t525 true)) = some r := H
          have A17 := Aside0.mk A170
          clear A170
          by_cases c18 : t528 = true
          · subst c18
            have H1 : (if (t521 != t525) = true then (laws_FnCatGroups.j1 kj2 t508 t509 t514 t520 t521 t524 t525 true) else (laws_FnCatGroups.j1 kj2 t508 t509 t514 t520 t521 t524 t525 (!t521))) = some r := by rw [if_pos rfl] at H; exact H
            clear H
            have H := H1
            clear H1
            by_cases c19 : (t521 != t525) = true
            · rw [if_pos c19] at H
              have c19b0 : (t521 != t525) = true := c19
              (try (have c19b1 : decide (t521 = t525) = false := by simpa using c19))
              (try (have c19b2 : (t521 == t525) = false := by simpa using c19))
              (try (have c19b3 : ¬ (t521 = t525) := by simpa using c19))
              clear c19
              (first | rw [c19b0] | (simp only [i64_w, i32_w]; rw [c19b0]) | skip)
              have H' := Aside0.mk H
              clear H
              obtain ⟨Ao20, co20, eo20⟩ := Kd.R_slice HO523.out
              subst eo20
              obtain ⟨Ao21, co21, eo21⟩ := Kd.R_slice HO527.out
              subst eo21
              go_wp2_with (first | ((with_reducible refine gate_callee (f := 18) rfl ?_); refine goesL_ (some 51) rfl rfl Try.func18 (by kernel_rfl) rfl #[.slice Ao20 t520.length co20, .slice Ao21 t524.length co21] rfl (by (try simp only [List.map_toArray, List.map_cons, List.map_nil]); first | done | rfl | (simp only [List.length_drop, List.length_take]; rfl)) ?_; (with_reducible refine (impl_LayoutSame.calls kj2 _ _ t520 _ _ t524 true _ ?side1 ?side2 ?side3 ?side4 A17.out).mono ?_); (case side1 => exact gC ((Kd.R_reads' HO523.out).2.2)); (case side2 => exact (Kd.R_reads' HO523.out).2.1); (case side3 => exact gC ((Kd.R_reads' HO527.out).2.2)); (case side4 => exact (Kd.R_reads' HO527.out).2.1); rintro e w' ⟨rfl, ⟨nd, rfl⟩⟩; refine ⟨_, rfl, ?_⟩))
              go_meet
              case rel => exact ⟨_, (true), (by first | rfl | (simp; done) | (simp [*]; done)), H', ⟨by have := HJ2.out; first | omega | exact Nat.le_refl _⟩, ⟨by (with_reducible repeat (first | apply Kd.R_alloc | apply Kd.R_drewN | apply Kd.R_drew)); exact Kd.R_mono HO511.out (fun _ hk => ⟨hk.1.1.1.1, ⟨hk.1.1.1.2, ⟨hk.1.2, hk.2⟩⟩⟩)⟩, ⟨by (with_reducible repeat (first | apply Kd.R_alloc | apply Kd.R_drewN | apply Kd.R_drew)); exact Kd.R_mono HO513.out (fun _ hk => ⟨hk.1.1.1.1, ⟨hk.1.1.1.2, ⟨hk.1.2, hk.2⟩⟩⟩)⟩, ⟨by (with_reducible repeat (first | apply Kd.R_alloc | apply Kd.R_drewN | apply Kd.R_drew)); exact Kd.R_mono HO517.out (fun _ hk => ⟨hk.1.1.1.2, ⟨hk.1.1.2, ⟨hk.1.2, hk.2⟩⟩⟩)⟩, ⟨by (with_reducible repeat (first | apply Kd.R_alloc | apply Kd.R_drewN | apply Kd.R_drew)); exact Kd.R_mono HO523.out (fun _ hk => ⟨hk.1.1.1.1.2, ⟨hk.1.1.1.2, ⟨hk.1.1.2, hk.2⟩⟩⟩)⟩, ⟨by (with_reducible repeat (first | apply Kd.R_alloc | apply Kd.R_drewN | apply Kd.R_drew)); exact Kd.R_mono HO527.out (fun _ hk => ⟨hk.1.1.1.1.2, ⟨hk.1.1.1.2, ⟨hk.1.1.2, hk.2⟩⟩⟩)⟩, ⟨gB HB⟩⟩
            · rw [if_neg c19] at H
              have c19b0 : (t521 != t525) = false := by simpa using c19
              (try (have c19b1 : decide (t521 = t525) = true := by simpa using c19))
              (try (have c19b2 : (t521 == t525) = true := by simpa using c19))
              clear c19
              (first | rw [c19b0] | (simp only [i64_w, i32_w]; rw [c19b0]) | skip)
              have H' := Aside0.mk H
              clear H
              obtain ⟨Ao22, co22, eo22⟩ := Kd.R_slice HO523.out
              subst eo22
              obtain ⟨Ao23, co23, eo23⟩ := Kd.R_slice HO527.out
              subst eo23
              go_wp2_with (first | ((with_reducible refine gate_callee (f := 18) rfl ?_); refine goesL_ (some 51) rfl rfl Try.func18 (by kernel_rfl) rfl #[.slice Ao22 t520.length co22, .slice Ao23 t524.length co23] rfl (by (try simp only [List.map_toArray, List.map_cons, List.map_nil]); first | done | rfl | (simp only [List.length_drop, List.length_take]; rfl)) ?_; (with_reducible refine (impl_LayoutSame.calls kj2 _ _ t520 _ _ t524 true _ ?side1 ?side2 ?side3 ?side4 A17.out).mono ?_); (case side1 => exact gC ((Kd.R_reads' HO523.out).2.2)); (case side2 => exact (Kd.R_reads' HO523.out).2.1); (case side3 => exact gC ((Kd.R_reads' HO527.out).2.2)); (case side4 => exact (Kd.R_reads' HO527.out).2.1); rintro e w' ⟨rfl, ⟨nd, rfl⟩⟩; refine ⟨_, rfl, ?_⟩))
              go_meet
              case rel => exact ⟨_, (!t521), (by first | rfl | (simp; done) | (simp [*]; done)), H', ⟨by have := HJ2.out; first | omega | exact Nat.le_refl _⟩, ⟨by (with_reducible repeat (first | apply Kd.R_alloc | apply Kd.R_drewN | apply Kd.R_drew)); exact Kd.R_mono HO511.out (fun _ hk => ⟨hk.1.1.1.1, ⟨hk.1.1.1.2, ⟨hk.1.2, hk.2⟩⟩⟩)⟩, ⟨by (with_reducible repeat (first | apply Kd.R_alloc | apply Kd.R_drewN | apply Kd.R_drew)); exact Kd.R_mono HO513.out (fun _ hk => ⟨hk.1.1.1.1, ⟨hk.1.1.1.2, ⟨hk.1.2, hk.2⟩⟩⟩)⟩, ⟨by (with_reducible repeat (first | apply Kd.R_alloc | apply Kd.R_drewN | apply Kd.R_drew)); exact Kd.R_mono HO517.out (fun _ hk => ⟨hk.1.1.1.2, ⟨hk.1.1.2, ⟨hk.1.2, hk.2⟩⟩⟩)⟩, ⟨by (with_reducible repeat (first | apply Kd.R_alloc | apply Kd.R_drewN | apply Kd.R_drew)); exact Kd.R_mono HO523.out (fun _ hk => ⟨hk.1.1.1.1.2, ⟨hk.1.1.1.2, ⟨hk.1.1.2, hk.2⟩⟩⟩)⟩, ⟨by (with_reducible repeat (first | apply Kd.R_alloc | apply Kd.R_drewN | apply Kd.R_drew)); exact Kd.R_mono HO527.out (fun _ hk => ⟨hk.1.1.1.1.2, ⟨hk.1.1.1.2, ⟨hk.1.1.2, hk.2⟩⟩⟩)⟩, ⟨gB HB⟩⟩
          · replace c18 := Bool.eq_false_iff.mpr c18
            subst c18
            have H1 : (laws_FnCatGroups.j1 kj2 t508 t509 t514 t520 t521 t524 t525 true) = some r := by rw [if_neg (show ¬ (false = true) by decide)] at H; exact H
            clear H
            have H := H1
            clear H1
            have H' := Aside0.mk H
            clear H
            obtain ⟨Ao24, co24, eo24⟩ := Kd.R_slice HO523.out
            subst eo24
            obtain ⟨Ao25, co25, eo25⟩ := Kd.R_slice HO527.out
            subst eo25
            go_wp2_with (first | ((with_reducible refine gate_callee (f := 18) rfl ?_); refine goesL_ (some 51) rfl rfl Try.func18 (by kernel_rfl) rfl #[.slice Ao24 t520.length co24, .slice Ao25 t524.length co25] rfl (by (try simp only [List.map_toArray, List.map_cons, List.map_nil]); first | done | rfl | (simp only [List.length_drop, List.length_take]; rfl)) ?_; (with_reducible refine (impl_LayoutSame.calls kj2 _ _ t520 _ _ t524 false _ ?side1 ?side2 ?side3 ?side4 A17.out).mono ?_); (case side1 => exact gC ((Kd.R_reads' HO523.out).2.2)); (case side2 => exact (Kd.R_reads' HO523.out).2.1); (case side3 => exact gC ((Kd.R_reads' HO527.out).2.2)); (case side4 => exact (Kd.R_reads' HO527.out).2.1); rintro e w' ⟨rfl, ⟨nd, rfl⟩⟩; refine ⟨_, rfl, ?_⟩))
            go_meet
            case rel => exact ⟨_, (true), (by first | rfl | (simp; done) | (simp [*]; done)), H', ⟨by have := HJ2.out; first | omega | exact Nat.le_refl _⟩, ⟨by (with_reducible repeat (first | apply Kd.R_alloc | apply Kd.R_drewN | apply Kd.R_drew)); exact Kd.R_mono HO511.out (fun _ hk => ⟨hk.1.1.1.1, ⟨hk.1.1.1.2, ⟨hk.1.2, hk.2⟩⟩⟩)⟩, ⟨by (with_reducible repeat (first | apply Kd.R_alloc | apply Kd.R_drewN | apply Kd.R_drew)); exact Kd.R_mono HO513.out (fun _ hk => ⟨hk.1.1.1.1, ⟨hk.1.1.1.2, ⟨hk.1.2, hk.2⟩⟩⟩)⟩, ⟨by (with_reducible repeat (first | apply Kd.R_alloc | apply Kd.R_drewN | apply Kd.R_drew)); exact Kd.R_mono HO517.out (fun _ hk => ⟨hk.1.1.1.2, ⟨hk.1.1.2, ⟨hk.1.2, hk.2⟩⟩⟩)⟩, ⟨by (with_reducible repeat (first | apply Kd.R_alloc | apply Kd.R_drewN | apply Kd.R_drew)); exact Kd.R_mono HO523.out (fun _ hk => ⟨hk.1.1.1.1.2, ⟨hk.1.1.1.2, ⟨hk.1.1.2, hk.2⟩⟩⟩)⟩, ⟨by (with_reducible repeat (first | apply Kd.R_alloc | apply Kd.R_drewN | apply Kd.R_drew)); exact Kd.R_mono HO527.out (fun _ hk => ⟨hk.1.1.1.1.2, ⟨hk.1.1.1.2, ⟨hk.1.1.2, hk.2⟩⟩⟩)⟩, ⟨gB HB⟩⟩
        case rest =>
          clear HC10
          try clear c1
          try clear p2
          try clear c4
          try clear c4b0
          try clear c4b1
          try clear c5
          try clear c15
          try clear c16
          try clear c17
          try clear c18
          try clear c19
          try clear c19b0
          try clear c19b1
          try clear c19b2
          try clear p2
          obtain ⟨kq, x61_9, rfl, HA, HJ9, HO_5, HO_6, HO_7, HO_9, HO_11, HB⟩ := hcut
          cases kq with
          | zero => exact absurd HA.out (by simp [laws_FnCatGroups.j1])
          | succ kj9 =>
            have H := HA.out
            clear HA
            simp only [laws_FnCatGroups.j1] at H
            by_cases c26 : x61_9 = true
            · subst c26
              have H1 : ((impl_LayoutSame.f kj9 t520 t524).bind fun t529 => (if t529 = true then (some (t521 == t525)) else (none))) = some r := by rw [if_pos rfl] at H; exact H
              clear H
              have H := H1
              clear H1
              replace H := Option.bind_eq_some_iff.mp H
              obtain ⟨t529, A270, H⟩ := H
              replace H : (if t529 = true then (some (t521 == t525)) else (none)) = some r := H
              have A27 := Aside0.mk A270
              clear A270
              by_cases c28 : t529 = true
              · subst c28
                have H1 : (some (t521 == t525)) = some r := by rw [if_pos rfl] at H; exact H
                clear H
                have H := H1
                clear H1
                obtain rfl := Option.some.inj H
                obtain ⟨Ao29, co29, eo29⟩ := Kd.R_slice HO_9.out
                subst eo29
                obtain ⟨Ao30, co30, eo30⟩ := Kd.R_slice HO_11.out
                subst eo30
                go_wp2_with (first | ((with_reducible refine gate_callee (f := 18) rfl ?_); refine goesL_ (some 64) rfl rfl Try.func18 (by kernel_rfl) rfl #[.slice Ao29 t520.length co29, .slice Ao30 t524.length co30] rfl (by (try simp only [List.map_toArray, List.map_cons, List.map_nil]); first | done | rfl | (simp only [List.length_drop, List.length_take]; rfl)) ?_; (with_reducible refine (impl_LayoutSame.calls kj9 _ _ t520 _ _ t524 true _ ?side1 ?side2 ?side3 ?side4 A27.out).mono ?_); (case side1 => exact gC ((Kd.R_reads' HO_9.out).2.2)); (case side2 => exact (Kd.R_reads' HO_9.out).2.1); (case side3 => exact gC ((Kd.R_reads' HO_11.out).2.2)); (case side4 => exact (Kd.R_reads' HO_11.out).2.1); rintro e w' ⟨rfl, ⟨nd, rfl⟩⟩; refine ⟨_, rfl, ?_⟩))
                go_ret
                exact ⟨by first | rfl | (simp [errW_none, errW_some] <;> rfl) | (simp [*, errW_none, errW_some] <;> rfl), gB HB⟩
              · replace c28 := Bool.eq_false_iff.mpr c28
                subst c28
                have H1 : (none) = some r := by rw [if_neg (show ¬ (false = true) by decide)] at H; exact H
                clear H
                have H := H1
                clear H1
                exact absurd H (by simp)
            · replace c26 := Bool.eq_false_iff.mpr c26
              subst c26
              have H1 : ((impl_CatLayouts.f kj9 t509 t514).bind fun bt530 => ((impl_CatLayouts.f kj9 t520 t514).bind fun bt534 => ((impl_CatLayouts.f kj9 t508 bt530.1).bind fun bt538 => (if bt530.2 = true then (if bt534.2 = true then (if bt538.2 = true then ((impl_LayoutSame.f kj9 bt534.1 bt538.1).bind fun t542 => (some t542)) else (some true)) else (some true)) else (some true))))) = some r := by rw [if_neg (show ¬ (false = true) by decide)] at H; exact H
              clear H
              have H := H1
              clear H1
              replace H := Option.bind_eq_some_iff.mp H
              obtain ⟨⟨t530, t531⟩, A310, H⟩ := H
              replace H : ((impl_CatLayouts.f kj9 t520 t514).bind fun bt534 => ((impl_CatLayouts.f kj9 t508 t530).bind fun bt538 => (if t531 = true then (if bt534.2 = true then (if bt538.2 = true then ((impl_LayoutSame.f kj9 bt534.1 bt538.1).bind fun t542 => (some t542)) else (some true)) else (some true)) else (some true)))) = some r := H
              have A31 := Aside0.mk A310
              clear A310
              replace H := Option.bind_eq_some_iff.mp H
              obtain ⟨⟨t534, t535⟩, A320, H⟩ := H
              replace H : ((impl_CatLayouts.f kj9 t508 t530).bind fun bt538 => (if t531 = true then (if t535 = true then (if bt538.2 = true then ((impl_LayoutSame.f kj9 t534 bt538.1).bind fun t542 => (some t542)) else (some true)) else (some true)) else (some true))) = some r := H
              have A32 := Aside0.mk A320
              clear A320
              replace H := Option.bind_eq_some_iff.mp H
              obtain ⟨⟨t538, t539⟩, A330, H⟩ := H
              replace H : (if t531 = true then (if t535 = true then (if t539 = true then ((impl_LayoutSame.f kj9 t534 t538).bind fun t542 => (some t542)) else (some true)) else (some true)) else (some true)) = some r := H
              have A33 := Aside0.mk A330
              clear A330
              by_cases c34 : t531 = true
              · subst c34
                have H1 : (if t535 = true then (if t539 = true then ((impl_LayoutSame.f kj9 t534 t538).bind fun t542 => (some t542)) else (some true)) else (some true)) = some r := by rw [if_pos rfl] at H; exact H
                clear H
                have H := H1
                clear H1
                by_cases c35 : t535 = true
                · subst c35
                  have H1 : (if t539 = true then ((impl_LayoutSame.f kj9 t534 t538).bind fun t542 => (some t542)) else (some true)) = some r := by rw [if_pos rfl] at H; exact H
                  clear H
                  have H := H1
                  clear H1
                  by_cases c36 : t539 = true
                  · subst c36
                    have H1 : ((impl_LayoutSame.f kj9 t534 t538).bind fun t542 => (some t542)) = some r := by rw [if_pos rfl] at H; exact H
                    clear H
                    have H := H1
                    clear H1
                    replace H := Option.bind_eq_some_iff.mp H
                    obtain ⟨t542, A370, H⟩ := H
                    replace H : (some t542) = some r := H
                    have A37 := Aside0.mk A370
                    clear A370
                    obtain rfl := Option.some.inj H
                    obtain ⟨Ao38, co38, eo38⟩ := Kd.R_slice HO_7.out
                    subst eo38
                    go_wp2_with (first | ((with_reducible refine gate_callee (f := 16) rfl ?_); refine goesL_ (some 73) rfl rfl Try.func16 (by kernel_rfl) rfl #[.slice Ao14 t509.length co14, .slice Ao38 t514.length co38] rfl (by (try simp only [List.map_toArray, List.map_cons, List.map_nil]); first | done | rfl | (simp only [List.length_drop, List.length_take]; rfl)) ?_; (with_reducible refine (impl_CatLayouts.calls kj9 _ _ t509 _ _ t514 t530 true _ ?side1 ?side2 ?side3 ?side4 A31.out).mono ?_); (case side1 => exact gC ((Kd.R_reads' HO_6.out).2.2)); (case side2 => exact (Kd.R_reads' HO_6.out).2.1); (case side3 => exact gC ((Kd.R_reads' HO_7.out).2.2)); (case side4 => exact (Kd.R_reads' HO_7.out).2.1); rintro e w39 ⟨v532, rfl, ho0, hb⟩; refine ⟨_, rfl, ?_⟩; have n0_ := Aside0.mk (Kd.R_elder' (gR HO_5) (Kd.R_base ho0) hb); have n1_ := Aside0.mk (Kd.R_elder' (gR HO_6) (Kd.R_base ho0) hb); have n2_ := Aside0.mk (Kd.R_elder' (gR HO_7) (Kd.R_base ho0) hb); have n3_ := Aside0.mk (Kd.R_elder' (gR HO_9) (Kd.R_base ho0) hb); have n4_ := Aside0.mk (Kd.R_elder' (gR HO_11) (Kd.R_base ho0) hb); have n5_ := Aside0.mk (Kd.R_lower (Kd.R_new' (Kd.R_new' (Kd.R_new' (Kd.R_new' (Kd.R_new' ho0 (Kd.R_lt (gR HO_5))) (Kd.R_lt (gR HO_6))) (Kd.R_lt (gR HO_7))) (Kd.R_lt (gR HO_9))) (Kd.R_lt (gR HO_11))) (below_size (gB HB))); have n6_ := Aside0.mk (below_step (gB HB) hb); clear HO_5; clear HO_6; clear HO_7; clear HO_9; clear HO_11; clear HB; have HO_5 := n0_; have HO_6 := n1_; have HO_7 := n2_; have HO_9 := n3_; have HO_11 := n4_; have HO533 := n5_; have HB := n6_; clear n0_ n1_ n2_ n3_ n4_ n5_ n6_; (try clear hb); (try clear hb2); (try clear hk); (try clear hi); (try clear ho0); obtain ⟨Ao40, co40, eo40⟩ := Kd.R_slice HO_9.out; subst eo40) | ((with_reducible refine gate_callee (f := 16) rfl ?_); refine goesL_ (some 79) rfl rfl Try.func16 (by kernel_rfl) rfl #[.slice Ao40 t520.length co40, .slice Ao38 t514.length co38] rfl (by (try simp only [List.map_toArray, List.map_cons, List.map_nil]); first | done | rfl | (simp only [List.length_drop, List.length_take]; rfl)) ?_; (with_reducible refine (impl_CatLayouts.calls kj9 _ _ t520 _ _ t514 t534 true _ ?side1 ?side2 ?side3 ?side4 A32.out).mono ?_); (case side1 => exact gC ((Kd.R_reads' HO_9.out).2.2)); (case side2 => exact (Kd.R_reads' HO_9.out).2.1); (case side3 => exact gC ((Kd.R_reads' HO_7.out).2.2)); (case side4 => exact (Kd.R_reads' HO_7.out).2.1); rintro e w41 ⟨v536, rfl, ho0, hb⟩; refine ⟨_, rfl, ?_⟩; have n0_ := Aside0.mk (Kd.R_elder' (gR HO_5) (Kd.R_base ho0) hb); have n1_ := Aside0.mk (Kd.R_elder' (gR HO_6) (Kd.R_base ho0) hb); have n2_ := Aside0.mk (Kd.R_elder' (gR HO_7) (Kd.R_base ho0) hb); have n3_ := Aside0.mk (Kd.R_elder' (gR HO_9) (Kd.R_base ho0) hb); have n4_ := Aside0.mk (Kd.R_elder' (gR HO_11) (Kd.R_base ho0) hb); have n5_ := Aside0.mk (Kd.R_elder' (gR HO533) (Kd.R_base ho0) hb); have n6_ := Aside0.mk (Kd.R_lower (Kd.R_new' (Kd.R_new' (Kd.R_new' (Kd.R_new' (Kd.R_new' (Kd.R_new' ho0 (Kd.R_lt (gR HO_5))) (Kd.R_lt (gR HO_6))) (Kd.R_lt (gR HO_7))) (Kd.R_lt (gR HO_9))) (Kd.R_lt (gR HO_11))) (Kd.R_lt (gR HO533))) (below_size (gB HB))); have n7_ := Aside0.mk (below_step (gB HB) hb); clear HO_5; clear HO_6; clear HO_7; clear HO_9; clear HO_11; clear HO533; clear HB; have HO_5 := n0_; have HO_6 := n1_; have HO_7 := n2_; have HO_9 := n3_; have HO_11 := n4_; have HO533 := n5_; have HO537 := n6_; have HB := n7_; clear n0_ n1_ n2_ n3_ n4_ n5_ n6_ n7_; (try clear hb); (try clear hb2); (try clear hk); (try clear hi); (try clear ho0); obtain ⟨Ao42, co42, eo42⟩ := Kd.R_slice HO533.out; subst eo42) | ((with_reducible refine gate_callee (f := 16) rfl ?_); refine goesL_ (some 85) rfl rfl Try.func16 (by kernel_rfl) rfl #[.slice Ao13 t508.length co13, .slice Ao42 t530.length co42] rfl (by (try simp only [List.map_toArray, List.map_cons, List.map_nil]); first | done | rfl | (simp only [List.length_drop, List.length_take]; rfl)) ?_; (with_reducible refine (impl_CatLayouts.calls kj9 _ _ t508 _ _ t530 t538 true _ ?side1 ?side2 ?side3 ?side4 A33.out).mono ?_); (case side1 => exact gC ((Kd.R_reads' HO_5.out).2.2)); (case side2 => exact (Kd.R_reads' HO_5.out).2.1); (case side3 => exact gC ((Kd.R_reads' HO533.out).2.2)); (case side4 => exact (Kd.R_reads' HO533.out).2.1); rintro e w43 ⟨v540, rfl, ho0, hb⟩; refine ⟨_, rfl, ?_⟩; have n0_ := Aside0.mk (Kd.R_elder' (gR HO_5) (Kd.R_base ho0) hb); have n1_ := Aside0.mk (Kd.R_elder' (gR HO_6) (Kd.R_base ho0) hb); have n2_ := Aside0.mk (Kd.R_elder' (gR HO_7) (Kd.R_base ho0) hb); have n3_ := Aside0.mk (Kd.R_elder' (gR HO_9) (Kd.R_base ho0) hb); have n4_ := Aside0.mk (Kd.R_elder' (gR HO_11) (Kd.R_base ho0) hb); have n5_ := Aside0.mk (Kd.R_elder' (gR HO533) (Kd.R_base ho0) hb); have n6_ := Aside0.mk (Kd.R_elder' (gR HO537) (Kd.R_base ho0) hb); have n7_ := Aside0.mk (Kd.R_lower (Kd.R_new' (Kd.R_new' (Kd.R_new' (Kd.R_new' (Kd.R_new' (Kd.R_new' (Kd.R_new' ho0 (Kd.R_lt (gR HO_5))) (Kd.R_lt (gR HO_6))) (Kd.R_lt (gR HO_7))) (Kd.R_lt (gR HO_9))) (Kd.R_lt (gR HO_11))) (Kd.R_lt (gR HO533))) (Kd.R_lt (gR HO537))) (below_size (gB HB))); have n8_ := Aside0.mk (below_step (gB HB) hb); clear HO_5; clear HO_6; clear HO_7; clear HO_9; clear HO_11; clear HO533; clear HO537; clear HB; have HO_5 := n0_; have HO_6 := n1_; have HO_7 := n2_; have HO_9 := n3_; have HO_11 := n4_; have HO533 := n5_; have HO537 := n6_; have HO541 := n7_; have HB := n8_; clear n0_ n1_ n2_ n3_ n4_ n5_ n6_ n7_ n8_; (try clear hb); (try clear hb2); (try clear hk); (try clear hi); (try clear ho0); obtain ⟨Ao44, co44, eo44⟩ := Kd.R_slice HO537.out; subst eo44; obtain ⟨Ao45, co45, eo45⟩ := Kd.R_slice HO541.out; subst eo45) | (go_at_call 18; (with_reducible refine (impl_LayoutSame.calls kj9 _ _ t534 _ _ t538 t542 _ ?side1 ?side2 ?side3 ?side4 A37.out).mono ?_); (case side1 => exact gC ((Kd.R_reads' HO537.out).2.2)); (case side2 => exact (Kd.R_reads' HO537.out).2.1); (case side3 => exact gC ((Kd.R_reads' HO541.out).2.2)); (case side4 => exact (Kd.R_reads' HO541.out).2.1); rintro e w' ⟨rfl, ⟨nd, rfl⟩⟩))
                    go_ret
                    exact ⟨by first | rfl | (simp [errW_none, errW_some] <;> rfl) | (simp [*, errW_none, errW_some] <;> rfl), gB HB⟩
                  · replace c36 := Bool.eq_false_iff.mpr c36
                    subst c36
                    have H1 : (some true) = some r := by rw [if_neg (show ¬ (false = true) by decide)] at H; exact H
                    clear H
                    have H := H1
                    clear H1
                    obtain rfl := Option.some.inj H
                    obtain ⟨Ao46, co46, eo46⟩ := Kd.R_slice HO_7.out
                    subst eo46
                    go_wp2_with (first | ((with_reducible refine gate_callee (f := 16) rfl ?_); refine goesL_ (some 73) rfl rfl Try.func16 (by kernel_rfl) rfl #[.slice Ao14 t509.length co14, .slice Ao46 t514.length co46] rfl (by (try simp only [List.map_toArray, List.map_cons, List.map_nil]); first | done | rfl | (simp only [List.length_drop, List.length_take]; rfl)) ?_; (with_reducible refine (impl_CatLayouts.calls kj9 _ _ t509 _ _ t514 t530 true _ ?side1 ?side2 ?side3 ?side4 A31.out).mono ?_); (case side1 => exact gC ((Kd.R_reads' HO_6.out).2.2)); (case side2 => exact (Kd.R_reads' HO_6.out).2.1); (case side3 => exact gC ((Kd.R_reads' HO_7.out).2.2)); (case side4 => exact (Kd.R_reads' HO_7.out).2.1); rintro e w47 ⟨v532, rfl, ho0, hb⟩; refine ⟨_, rfl, ?_⟩; have n0_ := Aside0.mk (Kd.R_elder' (gR HO_5) (Kd.R_base ho0) hb); have n1_ := Aside0.mk (Kd.R_elder' (gR HO_6) (Kd.R_base ho0) hb); have n2_ := Aside0.mk (Kd.R_elder' (gR HO_7) (Kd.R_base ho0) hb); have n3_ := Aside0.mk (Kd.R_elder' (gR HO_9) (Kd.R_base ho0) hb); have n4_ := Aside0.mk (Kd.R_elder' (gR HO_11) (Kd.R_base ho0) hb); have n5_ := Aside0.mk (Kd.R_lower (Kd.R_new' (Kd.R_new' (Kd.R_new' (Kd.R_new' (Kd.R_new' ho0 (Kd.R_lt (gR HO_5))) (Kd.R_lt (gR HO_6))) (Kd.R_lt (gR HO_7))) (Kd.R_lt (gR HO_9))) (Kd.R_lt (gR HO_11))) (below_size (gB HB))); have n6_ := Aside0.mk (below_step (gB HB) hb); clear HO_5; clear HO_6; clear HO_7; clear HO_9; clear HO_11; clear HB; have HO_5 := n0_; have HO_6 := n1_; have HO_7 := n2_; have HO_9 := n3_; have HO_11 := n4_; have HO533 := n5_; have HB := n6_; clear n0_ n1_ n2_ n3_ n4_ n5_ n6_; (try clear hb); (try clear hb2); (try clear hk); (try clear hi); (try clear ho0); obtain ⟨Ao48, co48, eo48⟩ := Kd.R_slice HO_9.out; subst eo48) | ((with_reducible refine gate_callee (f := 16) rfl ?_); refine goesL_ (some 79) rfl rfl Try.func16 (by kernel_rfl) rfl #[.slice Ao48 t520.length co48, .slice Ao46 t514.length co46] rfl (by (try simp only [List.map_toArray, List.map_cons, List.map_nil]); first | done | rfl | (simp only [List.length_drop, List.length_take]; rfl)) ?_; (with_reducible refine (impl_CatLayouts.calls kj9 _ _ t520 _ _ t514 t534 true _ ?side1 ?side2 ?side3 ?side4 A32.out).mono ?_); (case side1 => exact gC ((Kd.R_reads' HO_9.out).2.2)); (case side2 => exact (Kd.R_reads' HO_9.out).2.1); (case side3 => exact gC ((Kd.R_reads' HO_7.out).2.2)); (case side4 => exact (Kd.R_reads' HO_7.out).2.1); rintro e w49 ⟨v536, rfl, ho0, hb⟩; refine ⟨_, rfl, ?_⟩; have n0_ := Aside0.mk (Kd.R_elder' (gR HO_5) (Kd.R_base ho0) hb); have n1_ := Aside0.mk (Kd.R_elder' (gR HO_6) (Kd.R_base ho0) hb); have n2_ := Aside0.mk (Kd.R_elder' (gR HO_7) (Kd.R_base ho0) hb); have n3_ := Aside0.mk (Kd.R_elder' (gR HO_9) (Kd.R_base ho0) hb); have n4_ := Aside0.mk (Kd.R_elder' (gR HO_11) (Kd.R_base ho0) hb); have n5_ := Aside0.mk (Kd.R_elder' (gR HO533) (Kd.R_base ho0) hb); have n6_ := Aside0.mk (Kd.R_lower (Kd.R_new' (Kd.R_new' (Kd.R_new' (Kd.R_new' (Kd.R_new' (Kd.R_new' ho0 (Kd.R_lt (gR HO_5))) (Kd.R_lt (gR HO_6))) (Kd.R_lt (gR HO_7))) (Kd.R_lt (gR HO_9))) (Kd.R_lt (gR HO_11))) (Kd.R_lt (gR HO533))) (below_size (gB HB))); have n7_ := Aside0.mk (below_step (gB HB) hb); clear HO_5; clear HO_6; clear HO_7; clear HO_9; clear HO_11; clear HO533; clear HB; have HO_5 := n0_; have HO_6 := n1_; have HO_7 := n2_; have HO_9 := n3_; have HO_11 := n4_; have HO533 := n5_; have HO537 := n6_; have HB := n7_; clear n0_ n1_ n2_ n3_ n4_ n5_ n6_ n7_; (try clear hb); (try clear hb2); (try clear hk); (try clear hi); (try clear ho0); obtain ⟨Ao50, co50, eo50⟩ := Kd.R_slice HO533.out; subst eo50) | ((with_reducible refine gate_callee (f := 16) rfl ?_); refine goesL_ (some 85) rfl rfl Try.func16 (by kernel_rfl) rfl #[.slice Ao13 t508.length co13, .slice Ao50 t530.length co50] rfl (by (try simp only [List.map_toArray, List.map_cons, List.map_nil]); first | done | rfl | (simp only [List.length_drop, List.length_take]; rfl)) ?_; (with_reducible refine (impl_CatLayouts.calls kj9 _ _ t508 _ _ t530 t538 false _ ?side1 ?side2 ?side3 ?side4 A33.out).mono ?_); (case side1 => exact gC ((Kd.R_reads' HO_5.out).2.2)); (case side2 => exact (Kd.R_reads' HO_5.out).2.1); (case side3 => exact gC ((Kd.R_reads' HO533.out).2.2)); (case side4 => exact (Kd.R_reads' HO533.out).2.1); rintro e w51 ⟨v540, rfl, ho0, hb⟩; refine ⟨_, rfl, ?_⟩; have n0_ := Aside0.mk (Kd.R_elder' (gR HO_5) (Kd.R_base ho0) hb); have n1_ := Aside0.mk (Kd.R_elder' (gR HO_6) (Kd.R_base ho0) hb); have n2_ := Aside0.mk (Kd.R_elder' (gR HO_7) (Kd.R_base ho0) hb); have n3_ := Aside0.mk (Kd.R_elder' (gR HO_9) (Kd.R_base ho0) hb); have n4_ := Aside0.mk (Kd.R_elder' (gR HO_11) (Kd.R_base ho0) hb); have n5_ := Aside0.mk (Kd.R_elder' (gR HO533) (Kd.R_base ho0) hb); have n6_ := Aside0.mk (Kd.R_elder' (gR HO537) (Kd.R_base ho0) hb); have n7_ := Aside0.mk (Kd.R_lower (Kd.R_new' (Kd.R_new' (Kd.R_new' (Kd.R_new' (Kd.R_new' (Kd.R_new' (Kd.R_new' ho0 (Kd.R_lt (gR HO_5))) (Kd.R_lt (gR HO_6))) (Kd.R_lt (gR HO_7))) (Kd.R_lt (gR HO_9))) (Kd.R_lt (gR HO_11))) (Kd.R_lt (gR HO533))) (Kd.R_lt (gR HO537))) (below_size (gB HB))); have n8_ := Aside0.mk (below_step (gB HB) hb); clear HO_5; clear HO_6; clear HO_7; clear HO_9; clear HO_11; clear HO533; clear HO537; clear HB; have HO_5 := n0_; have HO_6 := n1_; have HO_7 := n2_; have HO_9 := n3_; have HO_11 := n4_; have HO533 := n5_; have HO537 := n6_; have HO541 := n7_; have HB := n8_; clear n0_ n1_ n2_ n3_ n4_ n5_ n6_ n7_ n8_; (try clear hb); (try clear hb2); (try clear hk); (try clear hi); (try clear ho0)))
                    go_ret
                    exact ⟨by first | rfl | (simp [errW_none, errW_some] <;> rfl) | (simp [*, errW_none, errW_some] <;> rfl), gB HB⟩
                · replace c35 := Bool.eq_false_iff.mpr c35
                  subst c35
                  have H1 : (some true) = some r := by rw [if_neg (show ¬ (false = true) by decide)] at H; exact H
                  clear H
                  have H := H1
                  clear H1
                  obtain rfl := Option.some.inj H
                  obtain ⟨Ao52, co52, eo52⟩ := Kd.R_slice HO_7.out
                  subst eo52
                  go_wp2_with (first | ((with_reducible refine gate_callee (f := 16) rfl ?_); refine goesL_ (some 73) rfl rfl Try.func16 (by kernel_rfl) rfl #[.slice Ao14 t509.length co14, .slice Ao52 t514.length co52] rfl (by (try simp only [List.map_toArray, List.map_cons, List.map_nil]); first | done | rfl | (simp only [List.length_drop, List.length_take]; rfl)) ?_; (with_reducible refine (impl_CatLayouts.calls kj9 _ _ t509 _ _ t514 t530 true _ ?side1 ?side2 ?side3 ?side4 A31.out).mono ?_); (case side1 => exact gC ((Kd.R_reads' HO_6.out).2.2)); (case side2 => exact (Kd.R_reads' HO_6.out).2.1); (case side3 => exact gC ((Kd.R_reads' HO_7.out).2.2)); (case side4 => exact (Kd.R_reads' HO_7.out).2.1); rintro e w53 ⟨v532, rfl, ho0, hb⟩; refine ⟨_, rfl, ?_⟩; have n0_ := Aside0.mk (Kd.R_elder' (gR HO_5) (Kd.R_base ho0) hb); have n1_ := Aside0.mk (Kd.R_elder' (gR HO_6) (Kd.R_base ho0) hb); have n2_ := Aside0.mk (Kd.R_elder' (gR HO_7) (Kd.R_base ho0) hb); have n3_ := Aside0.mk (Kd.R_elder' (gR HO_9) (Kd.R_base ho0) hb); have n4_ := Aside0.mk (Kd.R_elder' (gR HO_11) (Kd.R_base ho0) hb); have n5_ := Aside0.mk (Kd.R_lower (Kd.R_new' (Kd.R_new' (Kd.R_new' (Kd.R_new' (Kd.R_new' ho0 (Kd.R_lt (gR HO_5))) (Kd.R_lt (gR HO_6))) (Kd.R_lt (gR HO_7))) (Kd.R_lt (gR HO_9))) (Kd.R_lt (gR HO_11))) (below_size (gB HB))); have n6_ := Aside0.mk (below_step (gB HB) hb); clear HO_5; clear HO_6; clear HO_7; clear HO_9; clear HO_11; clear HB; have HO_5 := n0_; have HO_6 := n1_; have HO_7 := n2_; have HO_9 := n3_; have HO_11 := n4_; have HO533 := n5_; have HB := n6_; clear n0_ n1_ n2_ n3_ n4_ n5_ n6_; (try clear hb); (try clear hb2); (try clear hk); (try clear hi); (try clear ho0); obtain ⟨Ao54, co54, eo54⟩ := Kd.R_slice HO_9.out; subst eo54) | ((with_reducible refine gate_callee (f := 16) rfl ?_); refine goesL_ (some 79) rfl rfl Try.func16 (by kernel_rfl) rfl #[.slice Ao54 t520.length co54, .slice Ao52 t514.length co52] rfl (by (try simp only [List.map_toArray, List.map_cons, List.map_nil]); first | done | rfl | (simp only [List.length_drop, List.length_take]; rfl)) ?_; (with_reducible refine (impl_CatLayouts.calls kj9 _ _ t520 _ _ t514 t534 false _ ?side1 ?side2 ?side3 ?side4 A32.out).mono ?_); (case side1 => exact gC ((Kd.R_reads' HO_9.out).2.2)); (case side2 => exact (Kd.R_reads' HO_9.out).2.1); (case side3 => exact gC ((Kd.R_reads' HO_7.out).2.2)); (case side4 => exact (Kd.R_reads' HO_7.out).2.1); rintro e w55 ⟨v536, rfl, ho0, hb⟩; refine ⟨_, rfl, ?_⟩; have n0_ := Aside0.mk (Kd.R_elder' (gR HO_5) (Kd.R_base ho0) hb); have n1_ := Aside0.mk (Kd.R_elder' (gR HO_6) (Kd.R_base ho0) hb); have n2_ := Aside0.mk (Kd.R_elder' (gR HO_7) (Kd.R_base ho0) hb); have n3_ := Aside0.mk (Kd.R_elder' (gR HO_9) (Kd.R_base ho0) hb); have n4_ := Aside0.mk (Kd.R_elder' (gR HO_11) (Kd.R_base ho0) hb); have n5_ := Aside0.mk (Kd.R_elder' (gR HO533) (Kd.R_base ho0) hb); have n6_ := Aside0.mk (Kd.R_lower (Kd.R_new' (Kd.R_new' (Kd.R_new' (Kd.R_new' (Kd.R_new' (Kd.R_new' ho0 (Kd.R_lt (gR HO_5))) (Kd.R_lt (gR HO_6))) (Kd.R_lt (gR HO_7))) (Kd.R_lt (gR HO_9))) (Kd.R_lt (gR HO_11))) (Kd.R_lt (gR HO533))) (below_size (gB HB))); have n7_ := Aside0.mk (below_step (gB HB) hb); clear HO_5; clear HO_6; clear HO_7; clear HO_9; clear HO_11; clear HO533; clear HB; have HO_5 := n0_; have HO_6 := n1_; have HO_7 := n2_; have HO_9 := n3_; have HO_11 := n4_; have HO533 := n5_; have HO537 := n6_; have HB := n7_; clear n0_ n1_ n2_ n3_ n4_ n5_ n6_ n7_; (try clear hb); (try clear hb2); (try clear hk); (try clear hi); (try clear ho0); obtain ⟨Ao56, co56, eo56⟩ := Kd.R_slice HO533.out; subst eo56) | ((with_reducible refine gate_callee (f := 16) rfl ?_); refine goesL_ (some 85) rfl rfl Try.func16 (by kernel_rfl) rfl #[.slice Ao13 t508.length co13, .slice Ao56 t530.length co56] rfl (by (try simp only [List.map_toArray, List.map_cons, List.map_nil]); first | done | rfl | (simp only [List.length_drop, List.length_take]; rfl)) ?_; (with_reducible refine (impl_CatLayouts.calls kj9 _ _ t508 _ _ t530 t538 t539 _ ?side1 ?side2 ?side3 ?side4 A33.out).mono ?_); (case side1 => exact gC ((Kd.R_reads' HO_5.out).2.2)); (case side2 => exact (Kd.R_reads' HO_5.out).2.1); (case side3 => exact gC ((Kd.R_reads' HO533.out).2.2)); (case side4 => exact (Kd.R_reads' HO533.out).2.1); rintro e w57 ⟨v540, rfl, ho0, hb⟩; refine ⟨_, rfl, ?_⟩; have n0_ := Aside0.mk (Kd.R_elder' (gR HO_5) (Kd.R_base ho0) hb); have n1_ := Aside0.mk (Kd.R_elder' (gR HO_6) (Kd.R_base ho0) hb); have n2_ := Aside0.mk (Kd.R_elder' (gR HO_7) (Kd.R_base ho0) hb); have n3_ := Aside0.mk (Kd.R_elder' (gR HO_9) (Kd.R_base ho0) hb); have n4_ := Aside0.mk (Kd.R_elder' (gR HO_11) (Kd.R_base ho0) hb); have n5_ := Aside0.mk (Kd.R_elder' (gR HO533) (Kd.R_base ho0) hb); have n6_ := Aside0.mk (Kd.R_elder' (gR HO537) (Kd.R_base ho0) hb); have n7_ := Aside0.mk (Kd.R_lower (Kd.R_new' (Kd.R_new' (Kd.R_new' (Kd.R_new' (Kd.R_new' (Kd.R_new' (Kd.R_new' ho0 (Kd.R_lt (gR HO_5))) (Kd.R_lt (gR HO_6))) (Kd.R_lt (gR HO_7))) (Kd.R_lt (gR HO_9))) (Kd.R_lt (gR HO_11))) (Kd.R_lt (gR HO533))) (Kd.R_lt (gR HO537))) (below_size (gB HB))); have n8_ := Aside0.mk (below_step (gB HB) hb); clear HO_5; clear HO_6; clear HO_7; clear HO_9; clear HO_11; clear HO533; clear HO537; clear HB; have HO_5 := n0_; have HO_6 := n1_; have HO_7 := n2_; have HO_9 := n3_; have HO_11 := n4_; have HO533 := n5_; have HO537 := n6_; have HO541 := n7_; have HB := n8_; clear n0_ n1_ n2_ n3_ n4_ n5_ n6_ n7_ n8_; (try clear hb); (try clear hb2); (try clear hk); (try clear hi); (try clear ho0)))
                  go_ret
                  exact ⟨by first | rfl | (simp [errW_none, errW_some] <;> rfl) | (simp [*, errW_none, errW_some] <;> rfl), gB HB⟩
              · replace c34 := Bool.eq_false_iff.mpr c34
                subst c34
                have H1 : (some true) = some r := by rw [if_neg (show ¬ (false = true) by decide)] at H; exact H
                clear H
                have H := H1
                clear H1
                obtain rfl := Option.some.inj H
                obtain ⟨Ao58, co58, eo58⟩ := Kd.R_slice HO_7.out
                subst eo58
                go_wp2_with (first | ((with_reducible refine gate_callee (f := 16) rfl ?_); refine goesL_ (some 73) rfl rfl Try.func16 (by kernel_rfl) rfl #[.slice Ao14 t509.length co14, .slice Ao58 t514.length co58] rfl (by (try simp only [List.map_toArray, List.map_cons, List.map_nil]); first | done | rfl | (simp only [List.length_drop, List.length_take]; rfl)) ?_; (with_reducible refine (impl_CatLayouts.calls kj9 _ _ t509 _ _ t514 t530 false _ ?side1 ?side2 ?side3 ?side4 A31.out).mono ?_); (case side1 => exact gC ((Kd.R_reads' HO_6.out).2.2)); (case side2 => exact (Kd.R_reads' HO_6.out).2.1); (case side3 => exact gC ((Kd.R_reads' HO_7.out).2.2)); (case side4 => exact (Kd.R_reads' HO_7.out).2.1); rintro e w59 ⟨v532, rfl, ho0, hb⟩; refine ⟨_, rfl, ?_⟩; have n0_ := Aside0.mk (Kd.R_elder' (gR HO_5) (Kd.R_base ho0) hb); have n1_ := Aside0.mk (Kd.R_elder' (gR HO_6) (Kd.R_base ho0) hb); have n2_ := Aside0.mk (Kd.R_elder' (gR HO_7) (Kd.R_base ho0) hb); have n3_ := Aside0.mk (Kd.R_elder' (gR HO_9) (Kd.R_base ho0) hb); have n4_ := Aside0.mk (Kd.R_elder' (gR HO_11) (Kd.R_base ho0) hb); have n5_ := Aside0.mk (Kd.R_lower (Kd.R_new' (Kd.R_new' (Kd.R_new' (Kd.R_new' (Kd.R_new' ho0 (Kd.R_lt (gR HO_5))) (Kd.R_lt (gR HO_6))) (Kd.R_lt (gR HO_7))) (Kd.R_lt (gR HO_9))) (Kd.R_lt (gR HO_11))) (below_size (gB HB))); have n6_ := Aside0.mk (below_step (gB HB) hb); clear HO_5; clear HO_6; clear HO_7; clear HO_9; clear HO_11; clear HB; have HO_5 := n0_; have HO_6 := n1_; have HO_7 := n2_; have HO_9 := n3_; have HO_11 := n4_; have HO533 := n5_; have HB := n6_; clear n0_ n1_ n2_ n3_ n4_ n5_ n6_; (try clear hb); (try clear hb2); (try clear hk); (try clear hi); (try clear ho0); obtain ⟨Ao60, co60, eo60⟩ := Kd.R_slice HO_9.out; subst eo60) | ((with_reducible refine gate_callee (f := 16) rfl ?_); refine goesL_ (some 79) rfl rfl Try.func16 (by kernel_rfl) rfl #[.slice Ao60 t520.length co60, .slice Ao58 t514.length co58] rfl (by (try simp only [List.map_toArray, List.map_cons, List.map_nil]); first | done | rfl | (simp only [List.length_drop, List.length_take]; rfl)) ?_; (with_reducible refine (impl_CatLayouts.calls kj9 _ _ t520 _ _ t514 t534 t535 _ ?side1 ?side2 ?side3 ?side4 A32.out).mono ?_); (case side1 => exact gC ((Kd.R_reads' HO_9.out).2.2)); (case side2 => exact (Kd.R_reads' HO_9.out).2.1); (case side3 => exact gC ((Kd.R_reads' HO_7.out).2.2)); (case side4 => exact (Kd.R_reads' HO_7.out).2.1); rintro e w61 ⟨v536, rfl, ho0, hb⟩; refine ⟨_, rfl, ?_⟩; have n0_ := Aside0.mk (Kd.R_elder' (gR HO_5) (Kd.R_base ho0) hb); have n1_ := Aside0.mk (Kd.R_elder' (gR HO_6) (Kd.R_base ho0) hb); have n2_ := Aside0.mk (Kd.R_elder' (gR HO_7) (Kd.R_base ho0) hb); have n3_ := Aside0.mk (Kd.R_elder' (gR HO_9) (Kd.R_base ho0) hb); have n4_ := Aside0.mk (Kd.R_elder' (gR HO_11) (Kd.R_base ho0) hb); have n5_ := Aside0.mk (Kd.R_elder' (gR HO533) (Kd.R_base ho0) hb); have n6_ := Aside0.mk (Kd.R_lower (Kd.R_new' (Kd.R_new' (Kd.R_new' (Kd.R_new' (Kd.R_new' (Kd.R_new' ho0 (Kd.R_lt (gR HO_5))) (Kd.R_lt (gR HO_6))) (Kd.R_lt (gR HO_7))) (Kd.R_lt (gR HO_9))) (Kd.R_lt (gR HO_11))) (Kd.R_lt (gR HO533))) (below_size (gB HB))); have n7_ := Aside0.mk (below_step (gB HB) hb); clear HO_5; clear HO_6; clear HO_7; clear HO_9; clear HO_11; clear HO533; clear HB; have HO_5 := n0_; have HO_6 := n1_; have HO_7 := n2_; have HO_9 := n3_; have HO_11 := n4_; have HO533 := n5_; have HO537 := n6_; have HB := n7_; clear n0_ n1_ n2_ n3_ n4_ n5_ n6_ n7_; (try clear hb); (try clear hb2); (try clear hk); (try clear hi); (try clear ho0); obtain ⟨Ao62, co62, eo62⟩ := Kd.R_slice HO533.out; subst eo62) | ((with_reducible refine gate_callee (f := 16) rfl ?_); refine goesL_ (some 85) rfl rfl Try.func16 (by kernel_rfl) rfl #[.slice Ao13 t508.length co13, .slice Ao62 t530.length co62] rfl (by (try simp only [List.map_toArray, List.map_cons, List.map_nil]); first | done | rfl | (simp only [List.length_drop, List.length_take]; rfl)) ?_; (with_reducible refine (impl_CatLayouts.calls kj9 _ _ t508 _ _ t530 t538 t539 _ ?side1 ?side2 ?side3 ?side4 A33.out).mono ?_); (case side1 => exact gC ((Kd.R_reads' HO_5.out).2.2)); (case side2 => exact (Kd.R_reads' HO_5.out).2.1); (case side3 => exact gC ((Kd.R_reads' HO533.out).2.2)); (case side4 => exact (Kd.R_reads' HO533.out).2.1); rintro e w63 ⟨v540, rfl, ho0, hb⟩; refine ⟨_, rfl, ?_⟩; have n0_ := Aside0.mk (Kd.R_elder' (gR HO_5) (Kd.R_base ho0) hb); have n1_ := Aside0.mk (Kd.R_elder' (gR HO_6) (Kd.R_base ho0) hb); have n2_ := Aside0.mk (Kd.R_elder' (gR HO_7) (Kd.R_base ho0) hb); have n3_ := Aside0.mk (Kd.R_elder' (gR HO_9) (Kd.R_base ho0) hb); have n4_ := Aside0.mk (Kd.R_elder' (gR HO_11) (Kd.R_base ho0) hb); have n5_ := Aside0.mk (Kd.R_elder' (gR HO533) (Kd.R_base ho0) hb); have n6_ := Aside0.mk (Kd.R_elder' (gR HO537) (Kd.R_base ho0) hb); have n7_ := Aside0.mk (Kd.R_lower (Kd.R_new' (Kd.R_new' (Kd.R_new' (Kd.R_new' (Kd.R_new' (Kd.R_new' (Kd.R_new' ho0 (Kd.R_lt (gR HO_5))) (Kd.R_lt (gR HO_6))) (Kd.R_lt (gR HO_7))) (Kd.R_lt (gR HO_9))) (Kd.R_lt (gR HO_11))) (Kd.R_lt (gR HO533))) (Kd.R_lt (gR HO537))) (below_size (gB HB))); have n8_ := Aside0.mk (below_step (gB HB) hb); clear HO_5; clear HO_6; clear HO_7; clear HO_9; clear HO_11; clear HO533; clear HO537; clear HB; have HO_5 := n0_; have HO_6 := n1_; have HO_7 := n2_; have HO_9 := n3_; have HO_11 := n4_; have HO533 := n5_; have HO537 := n6_; have HO541 := n7_; have HB := n8_; clear n0_ n1_ n2_ n3_ n4_ n5_ n6_ n7_ n8_; (try clear hb); (try clear hb2); (try clear hk); (try clear hi); (try clear ho0)))
                go_ret
                exact ⟨by first | rfl | (simp [errW_none, errW_some] <;> rfl) | (simp [*, errW_none, errW_some] <;> rfl), gB HB⟩
def laws_FnCatGroups.Pure : Prop := ∀ (l0 : List Int) (l1 : List Int), l0.length ≤ maxLen → l0.length * 1 ≤ 140737488351232 → (∀ x ∈ l0, (Lit.int .u8 x).wf = true) → l1.length ≤ maxLen → l1.length * 1 ≤ 140737488351232 → (∀ x ∈ l1, (Lit.int .u8 x).wf = true) → ∃ k, laws_FnCatGroups.f k l0 l1 = some true
theorem laws_FnCatGroups.walk (P : laws_FnCatGroups.Pure) (a0 : Option Addr) (len0 cap0 : Nat) (z0 : List Int) (a1 : Option Addr) (len1 cap1 : Nat) (z1 : List Int) (w : World) (w0 : (a0 = none ∧ len0 = 0 ∧ cap0 = 0 ∧ z0 = []) ∨ ∃ x, a0 = some x ∧ len0 ≤ cap0 ∧ cap0 ≤ maxLen ∧ z0.length = cap0 ∧ (∀ i, i < z0.length → w.cell? (x.add i) = some (.int .u8 (z0.getD i 0))) ∧ ∀ n ∈ z0, (Lit.int .u8 n).wf = true) (y0 : len0 * 1 ≤ 140737488351232) (w1 : (a1 = none ∧ len1 = 0 ∧ cap1 = 0 ∧ z1 = []) ∨ ∃ x, a1 = some x ∧ len1 ≤ cap1 ∧ cap1 ≤ maxLen ∧ z1.length = cap1 ∧ (∀ i, i < z1.length → w.cell? (x.add i) = some (.int .u8 (z1.getD i 0))) ∧ ∀ n ∈ z1, (Lit.int .u8 n).wf = true) (y1 : len1 * 1 ≤ 140737488351232) :
    Calls Try.prog 4 #[.slice a0 len0 cap0, .slice a1 len1 cap1] w fun e w' => e = .returned (.bool true) ∧ Below w.heap.size w w' := by
  obtain ⟨l0, rfl, hr0, hm0, hw0, hc0⟩ := ReadsInt.ofRowC w0
  obtain ⟨l1, rfl, hr1, hm1, hw1, hc1⟩ := ReadsInt.ofRowC w1
  obtain ⟨k, h⟩ := P l0 l1 hm0 y0 hw0 hm1 y1 hw1
  refine (laws_FnCatGroups.calls k _ _ l0 _ _ l1 true w (Kd.C_of_reads (d := (0 : Int)) (h1 := fun _ => rfl) hr0) hc0 (Kd.C_of_reads (d := (0 : Int)) (h1 := fun _ => rfl) hr1) hc1 h).mono ?_
  rintro e w' ⟨rfl, hd⟩
  exact ⟨rfl, hd⟩
end Go.Proofs.Ytdhdfmmefghijab.P
namespace Go.Proofs.Ytdhdfmmefghijab.Pure
open Go.RowKit Go.Proofs.Ytdhdfmmefghijab.P Go.Proofs.YtdhdfmmefghijabW.PrintWords Go.Proofs.YtdhdfmmefghijabW.PrintLast Go.Proofs.YtdhdfmmefghijabW.PrintMore
set_option linter.unusedVariables false
set_option linter.unusedSimpArgs false
theorem FnCatGroups : laws_FnCatGroups.Pure := by
  intro l m hl _ hw hm _ hw'
  have J : ∀ w : Bool, Ev (fun k => laws_FnCatGroups.j0 k l m w) true := by
    intro w
    refine Ev.step (fun k => by rw [laws_FnCatGroups.j0]) ?_
    cases w with
    | true => simp only [if_true]; exact Ev.now _
    | false =>
      simp only [Bool.false_eq_true, if_false]
      obtain ⟨a, b, hd, ha, hb⟩ := drawCat_ev l hl hw
      obtain ⟨c, _, hd', hc, _⟩ := drawCat_ev m hm hw'
      refine Ev.bind hd (Ev.bind hd' (Ev.bind (catI_ev ha hb) (Ev.bind (catS_ev ha hb) (Ev.bind (same_ev (catL_rows a b)) ?_))))
      simp only [if_true, bne_self_eq_false, Bool.false_eq_true, if_false]
      refine Ev.step (fun k => by rw [laws_FnCatGroups.j1]) ?_
      cases hx : (catL a b).2 with
      | false =>
        simp only [Bool.not_false, if_true]
        refine Ev.bind (same_ev (catL_rows a b)) ?_
        simp only [if_true, beq_self_eq_true]
        exact Ev.now _
      | true =>
        simp only [Bool.not_true, Bool.false_eq_true, if_false]
        refine Ev.bind (catI_ev hb hc) (Ev.bind (catI_ev (catL_rows a b) hc) (Ev.bind (catI_ev ha (catL_rows b c)) ?_))
        refine Ev.iff (fun hy => Ev.iff (fun hp => Ev.iff (fun hq => ?_) (fun _ => Ev.now _)) (fun _ => Ev.now _)) (fun _ => Ev.now _)
        obtain ⟨x1, x2, x3, x4⟩ := catL_true hx
        obtain ⟨y1, y2, y3, y4⟩ := catL_true hy
        obtain ⟨p1, p2, p3, p4⟩ := catL_true hp
        obtain ⟨q1, q2, q3, q4⟩ := catL_true hq
        refine Ev.bind (same_ev' (catL_rows _ _) ?_) (Ev.now _)
        rw [p4, q4, x4, y4]
        exact catO_assoc (layV_ok x1).1 (layV_ok x2).1 (layV_ok y2).1
  exact Ev.rounds (g := fun k => laws_FnCatGroups.f k l m) (Ev.congr (fun k => by rw [laws_FnCatGroups.f]) (Ev.iff (fun _ => J _) (fun _ => J _)))
end Go.Proofs.Ytdhdfmmefghijab.Pure
