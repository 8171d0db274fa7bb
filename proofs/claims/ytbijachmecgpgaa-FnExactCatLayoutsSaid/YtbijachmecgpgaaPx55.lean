/- CONTRACTS: each theorem here says that a Go function of the program, called over the translation under the theorem's own hypotheses, returns what the Lean function beside it computes. Written by the session's program xprint.py. -/
import Derived.Test.YtbijachmecgpgaaPx0
import Derived.Test.YtbijachmecgpgaaPx10
import Derived.Test.YtbijachmecgpgaaPx13
import Derived.Test.YtbijachmecgpgaaPx17
import Derived.Test.YtbijachmecgpgaaPx48
import Derived.Test.YtbijachmecgpgaaPx51
import Derived.Test.YtbijachmecgpgaaPx53
import Derived.Test.YtbijachmecgpgaaPx54
namespace Go.Proofs.Ytbijachmecgpgaa.P
open Go.RowKit Go.Proofs.YtbijachmecgpgaaW.PrintWords Go.Proofs.YtbijachmecgpgaaW.PrintLast Go.Proofs.YtbijachmecgpgaaW.PrintMore
attribute [local go_sem] max2_int min2_int max_two min_two max_three min_three max_four min_four   -- for this text's walks alone
set_option linter.unusedVariables false
set_option linter.unusedSimpArgs false

/-! ### laws_FnExactCatLayouts: function 12 -/
mutual
def laws_FnExactCatLayouts.j0 : Nat → List (SLRow) → List (SLRow) → List (SRow) → Bool → List (SRow) → List (SRow) → List (SRow) → Bool → Bool → Option (Bool)
  | 0, _, _, _, _, _, _, _, _, _ => none
  | k + 1, x0, x1, x6, x7, x8, x9, x10, x11, x53 => if x53 = true then (none) else ((laws_toRowS.f k x0).bind fun t452 => ((laws_eqRowS.f k x8 t452).bind fun t455 => (if t455 = true then ((laws_toRowS.f k x1).bind fun t456 => ((laws_eqRowS.f k x9 t456).bind fun t459 => (if t459 = true then ((laws_markRowS.f k x8 1).bind fun bt460 => ((laws_markRowS.f k x9 bt460.1).bind fun bt462 => (if bt462.1 < 0 then (laws_FnExactCatLayouts.j1 k x0 x1 x6 x7 x10 true) else ((laws_eqRowS.f k x10 x6).bind fun t464 => (if t464 = true then (laws_FnExactCatLayouts.j1 k x0 x1 x6 x7 x10 (x11 != x7)) else (laws_FnExactCatLayouts.j1 k x0 x1 x6 x7 x10 true)))))) else (none)))) else (none))))
def laws_FnExactCatLayouts.j1 : Nat → List (SLRow) → List (SLRow) → List (SRow) → Bool → List (SRow) → Bool → Option (Bool)
  | 0, _, _, _, _, _, _ => none
  | k + 1, x0, x1, x6, x7, x10, x82 => if x82 = true then (none) else ((laws_markRowS.f k x10 1).bind fun bt465 => ((laws_heldRowS.f k bt465.2 1).bind fun t467 => (if t467 < 0 then (none) else (if t467 = bt465.1 then ((laws_toRowS.f k x0).bind fun t468 => ((laws_toRowS.f k x1).bind fun t471 => ((impl_CatLayouts.f k t468 t471).bind fun bt474 => ((laws_eqRowS.f k bt474.1 x6).bind fun t478 => (if t478 = true then (laws_FnExactCatLayouts.j2 k bt465.2 bt465.1 (bt474.2 != x7)) else (laws_FnExactCatLayouts.j2 k bt465.2 bt465.1 true)))))) else (none)))))
def laws_FnExactCatLayouts.j2 : Nat → List (SRow) → Int → Bool → Option (Bool)
  | 0, _, _, _ => none
  | k + 1, x10, x13, x110 => if x110 = true then (none) else ((laws_heldRowS.f k x10 1).bind fun t479 => (if t479 < 0 then (none) else (if t479 = x13 then (some true) else (none))))
end
def laws_FnExactCatLayouts.f (k : Nat) (l0 : List (SLRow)) (l1 : List (SLRow)) : Option (Bool) := (laws_szRowS.f k l0 1048576).bind fun t429 => (if t429 < 0 then (some true) else ((laws_szRowS.f k l1 t429).bind fun t430 => (if t430 < 0 then (some true) else ((laws_toRowS.f k l0).bind fun t431 => ((laws_toRowS.f k l1).bind fun t434 => ((spec_CatLayouts.f k t431 t434).bind fun bt437 => ((laws_toRowS.f k l0).bind fun t441 => ((laws_toRowS.f k l1).bind fun t444 => ((impl_CatLayouts.f k t441 t444).bind fun bt447 => ((laws_eqRowS.f k bt447.1 bt437.1).bind fun t451 => (if t451 = true then (laws_FnExactCatLayouts.j0 k l0 l1 bt437.1 bt437.2 t441 t444 bt447.1 bt447.2 (bt447.2 != bt437.2)) else (laws_FnExactCatLayouts.j0 k l0 l1 bt437.1 bt437.2 t441 t444 bt447.1 bt447.2 true))))))))))))
theorem laws_FnExactCatLayouts.mono_l : ∀ k, (∀ y0 y1 y2 y3 y4 y5 y6 y7 y8, LeO (laws_FnExactCatLayouts.j0 k y0 y1 y2 y3 y4 y5 y6 y7 y8) (laws_FnExactCatLayouts.j0 (k + 1) y0 y1 y2 y3 y4 y5 y6 y7 y8)) ∧ (∀ y0 y1 y2 y3 y4 y5, LeO (laws_FnExactCatLayouts.j1 k y0 y1 y2 y3 y4 y5) (laws_FnExactCatLayouts.j1 (k + 1) y0 y1 y2 y3 y4 y5)) ∧ (∀ y0 y1 y2, LeO (laws_FnExactCatLayouts.j2 k y0 y1 y2) (laws_FnExactCatLayouts.j2 (k + 1) y0 y1 y2))
  | 0 => ⟨fun _ _ _ _ _ _ _ _ _ r h => by simp [laws_FnExactCatLayouts.j0] at h, fun _ _ _ _ _ _ r h => by simp [laws_FnExactCatLayouts.j1] at h, fun _ _ _ r h => by simp [laws_FnExactCatLayouts.j2] at h⟩
  | k + 1 => by
    obtain ⟨ih0, ih1, ih2⟩ := laws_FnExactCatLayouts.mono_l k
    refine ⟨?_, ?_, ?_⟩
    · intro y0 y1 y2 y3 y4 y5 y6 y7 y8
      unfold laws_FnExactCatLayouts.j0
      repeat' first
      | (with_reducible exact ih0 _ _ _ _ _ _ _ _ _)
      | (with_reducible exact ih1 _ _ _ _ _ _)
      | (with_reducible exact ih2 _ _ _)
      | (with_reducible exact impl_CatLayouts.mono _ _ _)
      | (with_reducible exact laws_eqRowS.mono _ _ _)
      | (with_reducible exact laws_heldRowS.mono _ _ _)
      | (with_reducible exact laws_markRowS.mono _ _ _)
      | (with_reducible exact laws_szRowS.mono _ _ _)
      | (with_reducible exact laws_toRowS.mono _ _)
      | (with_reducible exact spec_CatLayouts.mono _ _ _)
      | (with_reducible exact LeO.refl _)
      | (with_reducible exact LeO.none _)
      | (with_reducible refine LeO.ite ?_ ?_)
      | (with_reducible refine LeO.bind ?_ (fun _ => ?_))
      | exact ih0 _ _ _ _ _ _ _ _ _
      | exact ih1 _ _ _ _ _ _
      | exact ih2 _ _ _
      | exact impl_CatLayouts.mono _ _ _
      | exact laws_eqRowS.mono _ _ _
      | exact laws_heldRowS.mono _ _ _
      | exact laws_markRowS.mono _ _ _
      | exact laws_szRowS.mono _ _ _
      | exact laws_toRowS.mono _ _
      | exact spec_CatLayouts.mono _ _ _
      | exact LeO.none _
      | refine LeO.ite ?_ ?_
      | refine LeO.bind ?_ (fun _ => ?_)
    · intro y0 y1 y2 y3 y4 y5
      unfold laws_FnExactCatLayouts.j1
      repeat' first
      | (with_reducible exact ih0 _ _ _ _ _ _ _ _ _)
      | (with_reducible exact ih1 _ _ _ _ _ _)
      | (with_reducible exact ih2 _ _ _)
      | (with_reducible exact impl_CatLayouts.mono _ _ _)
      | (with_reducible exact laws_eqRowS.mono _ _ _)
      | (with_reducible exact laws_heldRowS.mono _ _ _)
      | (with_reducible exact laws_markRowS.mono _ _ _)
      | (with_reducible exact laws_szRowS.mono _ _ _)
      | (with_reducible exact laws_toRowS.mono _ _)
      | (with_reducible exact spec_CatLayouts.mono _ _ _)
      | (with_reducible exact LeO.refl _)
      | (with_reducible exact LeO.none _)
      | (with_reducible refine LeO.ite ?_ ?_)
      | (with_reducible refine LeO.bind ?_ (fun _ => ?_))
      | exact ih0 _ _ _ _ _ _ _ _ _
      | exact ih1 _ _ _ _ _ _
      | exact ih2 _ _ _
      | exact impl_CatLayouts.mono _ _ _
      | exact laws_eqRowS.mono _ _ _
      | exact laws_heldRowS.mono _ _ _
      | exact laws_markRowS.mono _ _ _
      | exact laws_szRowS.mono _ _ _
      | exact laws_toRowS.mono _ _
      | exact spec_CatLayouts.mono _ _ _
      | exact LeO.none _
      | refine LeO.ite ?_ ?_
      | refine LeO.bind ?_ (fun _ => ?_)
    · intro y0 y1 y2
      unfold laws_FnExactCatLayouts.j2
      repeat' first
      | (with_reducible exact ih0 _ _ _ _ _ _ _ _ _)
      | (with_reducible exact ih1 _ _ _ _ _ _)
      | (with_reducible exact ih2 _ _ _)
      | (with_reducible exact impl_CatLayouts.mono _ _ _)
      | (with_reducible exact laws_eqRowS.mono _ _ _)
      | (with_reducible exact laws_heldRowS.mono _ _ _)
      | (with_reducible exact laws_markRowS.mono _ _ _)
      | (with_reducible exact laws_szRowS.mono _ _ _)
      | (with_reducible exact laws_toRowS.mono _ _)
      | (with_reducible exact spec_CatLayouts.mono _ _ _)
      | (with_reducible exact LeO.refl _)
      | (with_reducible exact LeO.none _)
      | (with_reducible refine LeO.ite ?_ ?_)
      | (with_reducible refine LeO.bind ?_ (fun _ => ?_))
      | exact ih0 _ _ _ _ _ _ _ _ _
      | exact ih1 _ _ _ _ _ _
      | exact ih2 _ _ _
      | exact impl_CatLayouts.mono _ _ _
      | exact laws_eqRowS.mono _ _ _
      | exact laws_heldRowS.mono _ _ _
      | exact laws_markRowS.mono _ _ _
      | exact laws_szRowS.mono _ _ _
      | exact laws_toRowS.mono _ _
      | exact spec_CatLayouts.mono _ _ _
      | exact LeO.none _
      | refine LeO.ite ?_ ?_
      | refine LeO.bind ?_ (fun _ => ?_)
theorem laws_FnExactCatLayouts.mono : ∀ a0 a1 k, LeO (laws_FnExactCatLayouts.f k a0 a1) (laws_FnExactCatLayouts.f (k + 1) a0 a1) := by
  intro a0 a1 k
  obtain ⟨ih0, ih1, ih2⟩ := laws_FnExactCatLayouts.mono_l k
  unfold laws_FnExactCatLayouts.f
  repeat' first
      | (with_reducible exact ih0 _ _ _ _ _ _ _ _ _)
      | (with_reducible exact ih1 _ _ _ _ _ _)
      | (with_reducible exact ih2 _ _ _)
      | (with_reducible exact impl_CatLayouts.mono _ _ _)
      | (with_reducible exact laws_eqRowS.mono _ _ _)
      | (with_reducible exact laws_heldRowS.mono _ _ _)
      | (with_reducible exact laws_markRowS.mono _ _ _)
      | (with_reducible exact laws_szRowS.mono _ _ _)
      | (with_reducible exact laws_toRowS.mono _ _)
      | (with_reducible exact spec_CatLayouts.mono _ _ _)
      | (with_reducible exact LeO.refl _)
      | (with_reducible exact LeO.none _)
      | (with_reducible refine LeO.ite ?_ ?_)
      | (with_reducible refine LeO.bind ?_ (fun _ => ?_))
      | exact ih0 _ _ _ _ _ _ _ _ _
      | exact ih1 _ _ _ _ _ _
      | exact ih2 _ _ _
      | exact impl_CatLayouts.mono _ _ _
      | exact laws_eqRowS.mono _ _ _
      | exact laws_heldRowS.mono _ _ _
      | exact laws_markRowS.mono _ _ _
      | exact laws_szRowS.mono _ _ _
      | exact laws_toRowS.mono _ _
      | exact spec_CatLayouts.mono _ _ _
      | exact LeO.none _
      | refine LeO.ite ?_ ?_
      | refine LeO.bind ?_ (fun _ => ?_)
set_option maxHeartbeats 8000000 in
set_option maxRecDepth 100000 in
theorem laws_FnExactCatLayouts.calls (k : Nat) (A0 : Option Addr) (c0 : Nat) (l0 : List (SLRow)) (A1 : Option Addr) (c1 : Nat) (l1 : List (SLRow)) (r : Bool) (w : World) (hr0 : Kd.C k57 w A0 l0.length l0) (hc0 : l0.length ≤ c0) (hr1 : Kd.C k57 w A1 l1.length l1) (hc1 : l1.length ≤ c1) (h : laws_FnExactCatLayouts.f k l0 l1 = some r) :
    Calls Try.prog 12 #[.slice A0 l0.length c0, .slice A1 l1.length c1] w fun e w' => e = .returned (.bool r) ∧ Below w.heap.size w w' := by
  have HR0 := Aside0.mk hr0
  have HC0 := Aside0.mk hc0
  clear hr0 hc0
  have HR1 := Aside0.mk hr1
  have HC1 := Aside0.mk hc1
  clear hr1 hc1
  have HB := Aside0.mk (Below.refl w.heap.size w)
  have H : ((laws_szRowS.f k l0 1048576).bind fun t429 => (if t429 < 0 then (some true) else ((laws_szRowS.f k l1 t429).bind fun t430 => (if t430 < 0 then (some true) else ((laws_toRowS.f k l0).bind fun t431 => ((laws_toRowS.f k l1).bind fun t434 => ((spec_CatLayouts.f k t431 t434).bind fun bt437 => ((laws_toRowS.f k l0).bind fun t441 => ((laws_toRowS.f k l1).bind fun t444 => ((impl_CatLayouts.f k t441 t444).bind fun bt447 => ((laws_eqRowS.f k bt447.1 bt437.1).bind fun t451 => (if t451 = true then (laws_FnExactCatLayouts.j0 k l0 l1 bt437.1 bt437.2 t441 t444 bt447.1 bt447.2 (bt447.2 != bt437.2)) else (laws_FnExactCatLayouts.j0 k l0 l1 bt437.1 bt437.2 t441 t444 bt447.1 bt447.2 true))))))))))))) = some r := h
  clear h
  replace H := Option.bind_eq_some_iff.mp H
  obtain ⟨t429, A30, H⟩ := H
  replace H : (if t429 < 0 then (some true) else ((laws_szRowS.f k l1 t429).bind fun t430 => (if t430 < 0 then (some true) else ((laws_toRowS.f k l0).bind fun t431 => ((laws_toRowS.f k l1).bind fun t434 => ((spec_CatLayouts.f k t431 t434).bind fun bt437 => ((laws_toRowS.f k l0).bind fun t441 => ((laws_toRowS.f k l1).bind fun t444 => ((impl_CatLayouts.f k t441 t444).bind fun bt447 => ((laws_eqRowS.f k bt447.1 bt437.1).bind fun t451 => (if t451 = true then (laws_FnExactCatLayouts.j0 k l0 l1 bt437.1 bt437.2 t441 t444 bt447.1 bt447.2 (bt447.2 != bt437.2)) else (laws_FnExactCatLayouts.j0 k l0 l1 bt437.1 bt437.2 t441 t444 bt447.1 bt447.2 true)))))))))))) = some r := H
  have A3 := Aside0.mk A30
  clear A30
  by_cases c4 : t429 < 0
  · rw [if_pos c4] at H
    have c4b0 : decide (t429 < 0) = true := decide_eq_true c4
    clear c4
    obtain rfl := Option.some.inj H
    go_enter Try.func12, Try.ntmps12
    go_wp2_with (first | ((with_reducible refine gate_callee (f := 17) rfl ?_); refine goesL_ (some 19) rfl rfl Try.func17 (by kernel_rfl) rfl #[.slice A0 l0.length c0, .int .i64 1048576] rfl (by (try simp only [List.map_toArray, List.map_cons, List.map_nil]); first | done | rfl | (simp only [List.length_drop, List.length_take]; rfl)) ?_; (with_reducible refine (laws_szRowS.calls k _ _ l0 1048576 t429 _ ?side1 ?side2 A3.out).mono ?_); (case side1 => repeat (first | exact HR0.out | (with_reducible refine Kd.C_alloc ?_ _) | (with_reducible refine Kd.C_drewN ?_ _) | (with_reducible refine Kd.C_drew ?_))); (case side2 => exact HC0.out); rintro e w5 ⟨rfl, hb⟩; refine ⟨_, rfl, ?_⟩; have n0_ := Aside0.mk (below_step (by repeat (first | (with_reducible first | exact HB.out | apply below_alloc | apply pw_below_drewN | apply below_drew1) | exact HB.out)) hb); clear HB; have HB := n0_; clear n0_; (try clear hb); (try clear hb2); (try clear hk); (try clear hi)))
    go_ret
    exact ⟨by first | rfl | (simp [errW_none, errW_some] <;> rfl) | (simp [*, errW_none, errW_some] <;> rfl), by repeat (first | (with_reducible first | exact HB.out | apply below_alloc | apply pw_below_drewN | apply below_drew1) | exact HB.out)⟩
  · rw [if_neg c4] at H
    have c4b0 : decide (t429 < 0) = false := decide_eq_false c4
    clear c4
    replace H := Option.bind_eq_some_iff.mp H
    obtain ⟨t430, A60, H⟩ := H
    replace H : (if t430 < 0 then (some true) else ((laws_toRowS.f k l0).bind fun t431 => ((laws_toRowS.f k l1).bind fun t434 => ((spec_CatLayouts.f k t431 t434).bind fun bt437 => ((laws_toRowS.f k l0).bind fun t441 => ((laws_toRowS.f k l1).bind fun t444 => ((impl_CatLayouts.f k t441 t444).bind fun bt447 => ((laws_eqRowS.f k bt447.1 bt437.1).bind fun t451 => (if t451 = true then (laws_FnExactCatLayouts.j0 k l0 l1 bt437.1 bt437.2 t441 t444 bt447.1 bt447.2 (bt447.2 != bt437.2)) else (laws_FnExactCatLayouts.j0 k l0 l1 bt437.1 bt437.2 t441 t444 bt447.1 bt447.2 true)))))))))) = some r := H
    have A6 := Aside0.mk A60
    clear A60
    by_cases c7 : t430 < 0
    · rw [if_pos c7] at H
      have c7b0 : decide (t430 < 0) = true := decide_eq_true c7
      clear c7
      obtain rfl := Option.some.inj H
      go_enter Try.func12, Try.ntmps12
      go_wp2_with (first | ((with_reducible refine gate_callee (f := 17) rfl ?_); refine goesL_ (some 19) rfl rfl Try.func17 (by kernel_rfl) rfl #[.slice A0 l0.length c0, .int .i64 1048576] rfl (by (try simp only [List.map_toArray, List.map_cons, List.map_nil]); first | done | rfl | (simp only [List.length_drop, List.length_take]; rfl)) ?_; (with_reducible refine (laws_szRowS.calls k _ _ l0 1048576 t429 _ ?side1 ?side2 A3.out).mono ?_); (case side1 => repeat (first | exact HR0.out | (with_reducible refine Kd.C_alloc ?_ _) | (with_reducible refine Kd.C_drewN ?_ _) | (with_reducible refine Kd.C_drew ?_))); (case side2 => exact HC0.out); rintro e w8 ⟨rfl, hb⟩; refine ⟨_, rfl, ?_⟩; have n0_ := Aside0.mk (below_step (by repeat (first | (with_reducible first | exact HB.out | apply below_alloc | apply pw_below_drewN | apply below_drew1) | exact HB.out)) hb); clear HB; have HB := n0_; clear n0_; (try clear hb); (try clear hb2); (try clear hk); (try clear hi)) | ((with_reducible refine gate_callee (f := 17) rfl ?_); refine goesL_ (some 24) rfl rfl Try.func17 (by kernel_rfl) rfl #[.slice A1 l1.length c1, .int .i64 t429] rfl (by (try simp only [List.map_toArray, List.map_cons, List.map_nil]); first | done | rfl | (simp only [List.length_drop, List.length_take]; rfl)) ?_; (with_reducible refine (laws_szRowS.calls k _ _ l1 t429 t430 _ ?side1 ?side2 A6.out).mono ?_); (case side1 => repeat (first | exact (Kd.C_below HR1.out HB.out) | (with_reducible refine Kd.C_alloc ?_ _) | (with_reducible refine Kd.C_drewN ?_ _) | (with_reducible refine Kd.C_drew ?_))); (case side2 => exact HC1.out); rintro e w9 ⟨rfl, hb⟩; refine ⟨_, rfl, ?_⟩; have n0_ := Aside0.mk (below_step (by repeat (first | (with_reducible first | exact HB.out | apply below_alloc | apply pw_below_drewN | apply below_drew1) | exact HB.out)) hb); clear HB; have HB := n0_; clear n0_; (try clear hb); (try clear hb2); (try clear hk); (try clear hi)))
      go_ret
      exact ⟨by first | rfl | (simp [errW_none, errW_some] <;> rfl) | (simp [*, errW_none, errW_some] <;> rfl), by repeat (first | (with_reducible first | exact HB.out | apply below_alloc | apply pw_below_drewN | apply below_drew1) | exact HB.out)⟩
    · rw [if_neg c7] at H
      have c7b0 : decide (t430 < 0) = false := decide_eq_false c7
      clear c7
      replace H := Option.bind_eq_some_iff.mp H
      obtain ⟨t431, A100, H⟩ := H
      replace H : ((laws_toRowS.f k l1).bind fun t434 => ((spec_CatLayouts.f k t431 t434).bind fun bt437 => ((laws_toRowS.f k l0).bind fun t441 => ((laws_toRowS.f k l1).bind fun t444 => ((impl_CatLayouts.f k t441 t444).bind fun bt447 => ((laws_eqRowS.f k bt447.1 bt437.1).bind fun t451 => (if t451 = true then (laws_FnExactCatLayouts.j0 k l0 l1 bt437.1 bt437.2 t441 t444 bt447.1 bt447.2 (bt447.2 != bt437.2)) else (laws_FnExactCatLayouts.j0 k l0 l1 bt437.1 bt437.2 t441 t444 bt447.1 bt447.2 true)))))))) = some r := H
      have A10 := Aside0.mk A100
      clear A100
      replace H := Option.bind_eq_some_iff.mp H
      obtain ⟨t434, A110, H⟩ := H
      replace H : ((spec_CatLayouts.f k t431 t434).bind fun bt437 => ((laws_toRowS.f k l0).bind fun t441 => ((laws_toRowS.f k l1).bind fun t444 => ((impl_CatLayouts.f k t441 t444).bind fun bt447 => ((laws_eqRowS.f k bt447.1 bt437.1).bind fun t451 => (if t451 = true then (laws_FnExactCatLayouts.j0 k l0 l1 bt437.1 bt437.2 t441 t444 bt447.1 bt447.2 (bt447.2 != bt437.2)) else (laws_FnExactCatLayouts.j0 k l0 l1 bt437.1 bt437.2 t441 t444 bt447.1 bt447.2 true))))))) = some r := H
      have A11 := Aside0.mk A110
      clear A110
      replace H := Option.bind_eq_some_iff.mp H
      obtain ⟨⟨t437, t438⟩, A120, H⟩ := H
      replace H : ((laws_toRowS.f k l0).bind fun t441 => ((laws_toRowS.f k l1).bind fun t444 => ((impl_CatLayouts.f k t441 t444).bind fun bt447 => ((laws_eqRowS.f k bt447.1 t437).bind fun t451 => (if t451 = true then (laws_FnExactCatLayouts.j0 k l0 l1 t437 t438 t441 t444 bt447.1 bt447.2 (bt447.2 != t438)) else (laws_FnExactCatLayouts.j0 k l0 l1 t437 t438 t441 t444 bt447.1 bt447.2 true)))))) = some r := H
      have A12 := Aside0.mk A120
      clear A120
      replace H := Option.bind_eq_some_iff.mp H
      obtain ⟨t441, A130, H⟩ := H
      replace H : ((laws_toRowS.f k l1).bind fun t444 => ((impl_CatLayouts.f k t441 t444).bind fun bt447 => ((laws_eqRowS.f k bt447.1 t437).bind fun t451 => (if t451 = true then (laws_FnExactCatLayouts.j0 k l0 l1 t437 t438 t441 t444 bt447.1 bt447.2 (bt447.2 != t438)) else (laws_FnExactCatLayouts.j0 k l0 l1 t437 t438 t441 t444 bt447.1 bt447.2 true))))) = some r := H
      have A13 := Aside0.mk A130
      clear A130
      replace H := Option.bind_eq_some_iff.mp H
      obtain ⟨t444, A140, H⟩ := H
      replace H : ((impl_CatLayouts.f k t441 t444).bind fun bt447 => ((laws_eqRowS.f k bt447.1 t437).bind fun t451 => (if t451 = true then (laws_FnExactCatLayouts.j0 k l0 l1 t437 t438 t441 t444 bt447.1 bt447.2 (bt447.2 != t438)) else (laws_FnExactCatLayouts.j0 k l0 l1 t437 t438 t441 t444 bt447.1 bt447.2 true)))) = some r := H
      have A14 := Aside0.mk A140
      clear A140
      replace H := Option.bind_eq_some_iff.mp H
      obtain ⟨⟨t447, t448⟩, A150, H⟩ := H
      replace H : ((laws_eqRowS.f k t447 t437).bind fun t451 => (if t451 = true then (laws_FnExactCatLayouts.j0 k l0 l1 t437 t438 t441 t444 t447 t448 (t448 != t438)) else (laws_FnExactCatLayouts.j0 k l0 l1 t437 t438 t441 t444 t447 t448 true))) = some r := H
      have A15 := Aside0.mk A150
      clear A150
      have HC16 := Aside0.mk H
      clear H
      go_enter Try.func12, Try.ntmps12
      go_upto_region 12 with (first | ((with_reducible refine gate_callee (f := 17) rfl ?_); refine goesL_ (some 19) rfl rfl Try.func17 (by kernel_rfl) rfl #[.slice A0 l0.length c0, .int .i64 1048576] rfl (by (try simp only [List.map_toArray, List.map_cons, List.map_nil]); first | done | rfl | (simp only [List.length_drop, List.length_take]; rfl)) ?_; (with_reducible refine (laws_szRowS.calls k _ _ l0 1048576 t429 _ ?side1 ?side2 A3.out).mono ?_); (case side1 => repeat (first | exact HR0.out | (with_reducible refine Kd.C_alloc ?_ _) | (with_reducible refine Kd.C_drewN ?_ _) | (with_reducible refine Kd.C_drew ?_))); (case side2 => exact HC0.out); rintro e w17 ⟨rfl, hb⟩; refine ⟨_, rfl, ?_⟩; have n0_ := Aside0.mk (below_step (by repeat (first | (with_reducible first | exact HB.out | apply below_alloc | apply pw_below_drewN | apply below_drew1) | exact HB.out)) hb); clear HB; have HB := n0_; clear n0_; (try clear hb); (try clear hb2); (try clear hk); (try clear hi)) | ((with_reducible refine gate_callee (f := 17) rfl ?_); refine goesL_ (some 24) rfl rfl Try.func17 (by kernel_rfl) rfl #[.slice A1 l1.length c1, .int .i64 t429] rfl (by (try simp only [List.map_toArray, List.map_cons, List.map_nil]); first | done | rfl | (simp only [List.length_drop, List.length_take]; rfl)) ?_; (with_reducible refine (laws_szRowS.calls k _ _ l1 t429 t430 _ ?side1 ?side2 A6.out).mono ?_); (case side1 => repeat (first | exact (Kd.C_below HR1.out HB.out) | (with_reducible refine Kd.C_alloc ?_ _) | (with_reducible refine Kd.C_drewN ?_ _) | (with_reducible refine Kd.C_drew ?_))); (case side2 => exact HC1.out); rintro e w18 ⟨rfl, hb⟩; refine ⟨_, rfl, ?_⟩; have n0_ := Aside0.mk (below_step (by repeat (first | (with_reducible first | exact HB.out | apply below_alloc | apply pw_below_drewN | apply below_drew1) | exact HB.out)) hb); clear HB; have HB := n0_; clear n0_; (try clear hb); (try clear hb2); (try clear hk); (try clear hi)) | ((with_reducible refine gate_callee (f := 19) rfl ?_); refine goesL_ (some 29) rfl rfl Try.func19 (by kernel_rfl) rfl #[.slice A0 l0.length c0] rfl (by (try simp only [List.map_toArray, List.map_cons, List.map_nil]); first | done | rfl | (simp only [List.length_drop, List.length_take]; rfl)) ?_; (with_reducible refine (laws_toRowS.calls k _ _ l0 t431 _ ?side1 ?side2 A10.out).mono ?_); (case side1 => repeat (first | exact (Kd.C_below HR0.out HB.out) | (with_reducible refine Kd.C_alloc ?_ _) | (with_reducible refine Kd.C_drewN ?_ _) | (with_reducible refine Kd.C_drew ?_))); (case side2 => exact HC0.out); rintro e w19 ⟨v432, rfl, ho0, hb⟩; refine ⟨_, rfl, ?_⟩; have n0_ := Aside0.mk (Kd.R_lower ho0 (below_size (by repeat (first | (with_reducible first | exact HB.out | apply below_alloc | apply pw_below_drewN | apply below_drew1) | exact HB.out)))); have n1_ := Aside0.mk (below_step (by repeat (first | (with_reducible first | exact HB.out | apply below_alloc | apply pw_below_drewN | apply below_drew1) | exact HB.out)) hb); clear HB; have HO433 := n0_; have HB := n1_; clear n0_ n1_; (try clear hb); (try clear hb2); (try clear hk); (try clear hi); (try clear ho0)) | ((with_reducible refine gate_callee (f := 19) rfl ?_); refine goesL_ (some 31) rfl rfl Try.func19 (by kernel_rfl) rfl #[.slice A1 l1.length c1] rfl (by (try simp only [List.map_toArray, List.map_cons, List.map_nil]); first | done | rfl | (simp only [List.length_drop, List.length_take]; rfl)) ?_; (with_reducible refine (laws_toRowS.calls k _ _ l1 t434 _ ?side1 ?side2 A11.out).mono ?_); (case side1 => repeat (first | exact (Kd.C_below HR1.out HB.out) | (with_reducible refine Kd.C_alloc ?_ _) | (with_reducible refine Kd.C_drewN ?_ _) | (with_reducible refine Kd.C_drew ?_))); (case side2 => exact HC1.out); rintro e w20 ⟨v435, rfl, ho0, hb⟩; refine ⟨_, rfl, ?_⟩; have n0_ := Aside0.mk (Kd.R_elder' (by (with_reducible repeat (first | apply Kd.R_alloc | apply Kd.R_drewN | apply Kd.R_drew)); exact HO433.out) (Kd.R_base ho0) hb); have n1_ := Aside0.mk (Kd.R_lower (Kd.R_new' ho0 (Kd.R_lt (by (with_reducible repeat (first | apply Kd.R_alloc | apply Kd.R_drewN | apply Kd.R_drew)); exact HO433.out))) (below_size (by repeat (first | (with_reducible first | exact HB.out | apply below_alloc | apply pw_below_drewN | apply below_drew1) | exact HB.out)))); have n2_ := Aside0.mk (below_step (by repeat (first | (with_reducible first | exact HB.out | apply below_alloc | apply pw_below_drewN | apply below_drew1) | exact HB.out)) hb); clear HO433; clear HB; have HO433 := n0_; have HO436 := n1_; have HB := n2_; clear n0_ n1_ n2_; (try clear hb); (try clear hb2); (try clear hk); (try clear hi); (try clear ho0); obtain ⟨Ao21, co21, eo21⟩ := Kd.R_slice HO433.out; subst eo21; obtain ⟨Ao22, co22, eo22⟩ := Kd.R_slice HO436.out; subst eo22) | ((with_reducible refine gate_callee (f := 37) rfl ?_); refine goesL_ (some 32) rfl rfl Try.func37 (by kernel_rfl) rfl #[.slice Ao21 t431.length co21, .slice Ao22 t434.length co22] rfl (by (try simp only [List.map_toArray, List.map_cons, List.map_nil]); first | done | rfl | (simp only [List.length_drop, List.length_take]; rfl)) ?_; (with_reducible refine (spec_CatLayouts.calls k _ _ t431 _ _ t434 t437 t438 _ ?side1 ?side2 ?side3 ?side4 A12.out).mono ?_); (case side1 => repeat (first | exact (Kd.R_reads' HO433.out).2.2 | (with_reducible refine Kd.C_alloc ?_ _) | (with_reducible refine Kd.C_drewN ?_ _) | (with_reducible refine Kd.C_drew ?_))); (case side2 => exact (Kd.R_reads' HO433.out).2.1); (case side3 => repeat (first | exact (Kd.R_reads' HO436.out).2.2 | (with_reducible refine Kd.C_alloc ?_ _) | (with_reducible refine Kd.C_drewN ?_ _) | (with_reducible refine Kd.C_drew ?_))); (case side4 => exact (Kd.R_reads' HO436.out).2.1); rintro e w23 ⟨v439, rfl, ho0, hb⟩; refine ⟨_, rfl, ?_⟩; have n0_ := Aside0.mk (Kd.R_elder' (by (with_reducible repeat (first | apply Kd.R_alloc | apply Kd.R_drewN | apply Kd.R_drew)); exact HO433.out) (Kd.R_base ho0) hb); have n1_ := Aside0.mk (Kd.R_elder' (by (with_reducible repeat (first | apply Kd.R_alloc | apply Kd.R_drewN | apply Kd.R_drew)); exact HO436.out) (Kd.R_base ho0) hb); have n2_ := Aside0.mk (Kd.R_lower (Kd.R_new' (Kd.R_new' ho0 (Kd.R_lt (by (with_reducible repeat (first | apply Kd.R_alloc | apply Kd.R_drewN | apply Kd.R_drew)); exact HO433.out))) (Kd.R_lt (by (with_reducible repeat (first | apply Kd.R_alloc | apply Kd.R_drewN | apply Kd.R_drew)); exact HO436.out))) (below_size (by repeat (first | (with_reducible first | exact HB.out | apply below_alloc | apply pw_below_drewN | apply below_drew1) | exact HB.out)))); have n3_ := Aside0.mk (below_step (by repeat (first | (with_reducible first | exact HB.out | apply below_alloc | apply pw_below_drewN | apply below_drew1) | exact HB.out)) hb); clear HO433; clear HO436; clear HB; have HO433 := n0_; have HO436 := n1_; have HO440 := n2_; have HB := n3_; clear n0_ n1_ n2_ n3_; (try clear hb); (try clear hb2); (try clear hk); (try clear hi); (try clear ho0)) | ((with_reducible refine gate_callee (f := 19) rfl ?_); refine goesL_ (some 36) rfl rfl Try.func19 (by kernel_rfl) rfl #[.slice A0 l0.length c0] rfl (by (try simp only [List.map_toArray, List.map_cons, List.map_nil]); first | done | rfl | (simp only [List.length_drop, List.length_take]; rfl)) ?_; (with_reducible refine (laws_toRowS.calls k _ _ l0 t441 _ ?side1 ?side2 A13.out).mono ?_); (case side1 => repeat (first | exact (Kd.C_below HR0.out HB.out) | (with_reducible refine Kd.C_alloc ?_ _) | (with_reducible refine Kd.C_drewN ?_ _) | (with_reducible refine Kd.C_drew ?_))); (case side2 => exact HC0.out); rintro e w24 ⟨v442, rfl, ho0, hb⟩; refine ⟨_, rfl, ?_⟩; have n0_ := Aside0.mk (Kd.R_elder' (by (with_reducible repeat (first | apply Kd.R_alloc | apply Kd.R_drewN | apply Kd.R_drew)); exact HO433.out) (Kd.R_base ho0) hb); have n1_ := Aside0.mk (Kd.R_elder' (by (with_reducible repeat (first | apply Kd.R_alloc | apply Kd.R_drewN | apply Kd.R_drew)); exact HO436.out) (Kd.R_base ho0) hb); have n2_ := Aside0.mk (Kd.R_elder' (by (with_reducible repeat (first | apply Kd.R_alloc | apply Kd.R_drewN | apply Kd.R_drew)); exact HO440.out) (Kd.R_base ho0) hb); have n3_ := Aside0.mk (Kd.R_lower (Kd.R_new' (Kd.R_new' (Kd.R_new' ho0 (Kd.R_lt (by (with_reducible repeat (first | apply Kd.R_alloc | apply Kd.R_drewN | apply Kd.R_drew)); exact HO433.out))) (Kd.R_lt (by (with_reducible repeat (first | apply Kd.R_alloc | apply Kd.R_drewN | apply Kd.R_drew)); exact HO436.out))) (Kd.R_lt (by (with_reducible repeat (first | apply Kd.R_alloc | apply Kd.R_drewN | apply Kd.R_drew)); exact HO440.out))) (below_size (by repeat (first | (with_reducible first | exact HB.out | apply below_alloc | apply pw_below_drewN | apply below_drew1) | exact HB.out)))); have n4_ := Aside0.mk (below_step (by repeat (first | (with_reducible first | exact HB.out | apply below_alloc | apply pw_below_drewN | apply below_drew1) | exact HB.out)) hb); clear HO433; clear HO436; clear HO440; clear HB; have HO433 := n0_; have HO436 := n1_; have HO440 := n2_; have HO443 := n3_; have HB := n4_; clear n0_ n1_ n2_ n3_ n4_; (try clear hb); (try clear hb2); (try clear hk); (try clear hi); (try clear ho0)) | ((with_reducible refine gate_callee (f := 19) rfl ?_); refine goesL_ (some 38) rfl rfl Try.func19 (by kernel_rfl) rfl #[.slice A1 l1.length c1] rfl (by (try simp only [List.map_toArray, List.map_cons, List.map_nil]); first | done | rfl | (simp only [List.length_drop, List.length_take]; rfl)) ?_; (with_reducible refine (laws_toRowS.calls k _ _ l1 t444 _ ?side1 ?side2 A14.out).mono ?_); (case side1 => repeat (first | exact (Kd.C_below HR1.out HB.out) | (with_reducible refine Kd.C_alloc ?_ _) | (with_reducible refine Kd.C_drewN ?_ _) | (with_reducible refine Kd.C_drew ?_))); (case side2 => exact HC1.out); rintro e w25 ⟨v445, rfl, ho0, hb⟩; refine ⟨_, rfl, ?_⟩; have n0_ := Aside0.mk (Kd.R_elder' (by (with_reducible repeat (first | apply Kd.R_alloc | apply Kd.R_drewN | apply Kd.R_drew)); exact HO433.out) (Kd.R_base ho0) hb); have n1_ := Aside0.mk (Kd.R_elder' (by (with_reducible repeat (first | apply Kd.R_alloc | apply Kd.R_drewN | apply Kd.R_drew)); exact HO436.out) (Kd.R_base ho0) hb); have n2_ := Aside0.mk (Kd.R_elder' (by (with_reducible repeat (first | apply Kd.R_alloc | apply Kd.R_drewN | apply Kd.R_drew)); exact HO440.out) (Kd.R_base ho0) hb); have n3_ := Aside0.mk (Kd.R_elder' (by (with_reducible repeat (first | apply Kd.R_alloc | apply Kd.R_drewN | apply Kd.R_drew)); exact HO443.out) (Kd.R_base ho0) hb); have n4_ := Aside0.mk (Kd.R_lower (Kd.R_new' (Kd.R_new' (Kd.R_new' (Kd.R_new' ho0 (Kd.R_lt (by (with_reducible repeat (first | apply Kd.R_alloc | apply Kd.R_drewN | apply Kd.R_drew)); exact HO433.out))) (Kd.R_lt (by (with_reducible repeat (first | apply Kd.R_alloc | apply Kd.R_drewN | apply Kd.R_drew)); exact HO436.out))) (Kd.R_lt (by (with_reducible repeat (first | apply Kd.R_alloc | apply Kd.R_drewN | apply Kd.R_drew)); exact HO440.out))) (Kd.R_lt (by (with_reducible repeat (first | apply Kd.R_alloc | apply Kd.R_drewN | apply Kd.R_drew)); exact HO443.out))) (below_size (by repeat (first | (with_reducible first | exact HB.out | apply below_alloc | apply pw_below_drewN | apply below_drew1) | exact HB.out)))); have n5_ := Aside0.mk (below_step (by repeat (first | (with_reducible first | exact HB.out | apply below_alloc | apply pw_below_drewN | apply below_drew1) | exact HB.out)) hb); clear HO433; clear HO436; clear HO440; clear HO443; clear HB; have HO433 := n0_; have HO436 := n1_; have HO440 := n2_; have HO443 := n3_; have HO446 := n4_; have HB := n5_; clear n0_ n1_ n2_ n3_ n4_ n5_; (try clear hb); (try clear hb2); (try clear hk); (try clear hi); (try clear ho0); obtain ⟨Ao26, co26, eo26⟩ := Kd.R_slice HO443.out; subst eo26; obtain ⟨Ao27, co27, eo27⟩ := Kd.R_slice HO446.out; subst eo27) | ((with_reducible refine gate_callee (f := 38) rfl ?_); refine goesL_ (some 42) rfl rfl Try.func38 (by kernel_rfl) rfl #[.slice Ao26 t441.length co26, .slice Ao27 t444.length co27] rfl (by (try simp only [List.map_toArray, List.map_cons, List.map_nil]); first | done | rfl | (simp only [List.length_drop, List.length_take]; rfl)) ?_; (with_reducible refine (impl_CatLayouts.calls k _ _ t441 _ _ t444 t447 t448 _ ?side1 ?side2 ?side3 ?side4 A15.out).mono ?_); (case side1 => repeat (first | exact (Kd.R_reads' HO443.out).2.2 | (with_reducible refine Kd.C_alloc ?_ _) | (with_reducible refine Kd.C_drewN ?_ _) | (with_reducible refine Kd.C_drew ?_))); (case side2 => exact (Kd.R_reads' HO443.out).2.1); (case side3 => repeat (first | exact (Kd.R_reads' HO446.out).2.2 | (with_reducible refine Kd.C_alloc ?_ _) | (with_reducible refine Kd.C_drewN ?_ _) | (with_reducible refine Kd.C_drew ?_))); (case side4 => exact (Kd.R_reads' HO446.out).2.1); rintro e w28 ⟨v449, rfl, ho0, hb⟩; refine ⟨_, rfl, ?_⟩; have n0_ := Aside0.mk (Kd.R_elder' (by (with_reducible repeat (first | apply Kd.R_alloc | apply Kd.R_drewN | apply Kd.R_drew)); exact HO433.out) (Kd.R_base ho0) hb); have n1_ := Aside0.mk (Kd.R_elder' (by (with_reducible repeat (first | apply Kd.R_alloc | apply Kd.R_drewN | apply Kd.R_drew)); exact HO436.out) (Kd.R_base ho0) hb); have n2_ := Aside0.mk (Kd.R_elder' (by (with_reducible repeat (first | apply Kd.R_alloc | apply Kd.R_drewN | apply Kd.R_drew)); exact HO440.out) (Kd.R_base ho0) hb); have n3_ := Aside0.mk (Kd.R_elder' (by (with_reducible repeat (first | apply Kd.R_alloc | apply Kd.R_drewN | apply Kd.R_drew)); exact HO443.out) (Kd.R_base ho0) hb); have n4_ := Aside0.mk (Kd.R_elder' (by (with_reducible repeat (first | apply Kd.R_alloc | apply Kd.R_drewN | apply Kd.R_drew)); exact HO446.out) (Kd.R_base ho0) hb); have n5_ := Aside0.mk (Kd.R_lower (Kd.R_new' (Kd.R_new' (Kd.R_new' (Kd.R_new' (Kd.R_new' ho0 (Kd.R_lt (by (with_reducible repeat (first | apply Kd.R_alloc | apply Kd.R_drewN | apply Kd.R_drew)); exact HO433.out))) (Kd.R_lt (by (with_reducible repeat (first | apply Kd.R_alloc | apply Kd.R_drewN | apply Kd.R_drew)); exact HO436.out))) (Kd.R_lt (by (with_reducible repeat (first | apply Kd.R_alloc | apply Kd.R_drewN | apply Kd.R_drew)); exact HO440.out))) (Kd.R_lt (by (with_reducible repeat (first | apply Kd.R_alloc | apply Kd.R_drewN | apply Kd.R_drew)); exact HO443.out))) (Kd.R_lt (by (with_reducible repeat (first | apply Kd.R_alloc | apply Kd.R_drewN | apply Kd.R_drew)); exact HO446.out))) (below_size (by repeat (first | (with_reducible first | exact HB.out | apply below_alloc | apply pw_below_drewN | apply below_drew1) | exact HB.out)))); have n6_ := Aside0.mk (below_step (by repeat (first | (with_reducible first | exact HB.out | apply below_alloc | apply pw_below_drewN | apply below_drew1) | exact HB.out)) hb); clear HO433; clear HO436; clear HO440; clear HO443; clear HO446; clear HB; have HO433 := n0_; have HO436 := n1_; have HO440 := n2_; have HO443 := n3_; have HO446 := n4_; have HO450 := n5_; have HB := n6_; clear n0_ n1_ n2_ n3_ n4_ n5_ n6_; (try clear hb); (try clear hb2); (try clear hk); (try clear hi); (try clear ho0)))
      (try simp only [Act.put, List.setIfInBounds_toArray, List.set_cons_zero, List.set_cons_succ])
      go_cut [53] (fun v53 wc => ∃ (kq : Nat) (x53_15 : Bool), v53 = .bool x53_15 ∧ Aside0 (laws_FnExactCatLayouts.j0 kq l0 l1 t437 t438 t441 t444 t447 t448 x53_15 = some r) ∧ Aside0 (kq ≤ k) ∧ Aside0 (Kd.R k58 58 wc w.heap.size (fun k_ => some k_ ≠ ((.slice Ao26 t441.length co26) : Value).ownBlock ∧ some k_ ≠ ((.slice Ao27 t444.length co27) : Value).ownBlock ∧ some k_ ≠ (v449 : Value).ownBlock) v439 t437) ∧ Aside0 (Kd.R k58 58 wc w.heap.size (fun k_ => some k_ ≠ (v439 : Value).ownBlock ∧ some k_ ≠ ((.slice Ao27 t444.length co27) : Value).ownBlock ∧ some k_ ≠ (v449 : Value).ownBlock) (.slice Ao26 t441.length co26) t441) ∧ Aside0 (Kd.R k58 58 wc w.heap.size (fun k_ => some k_ ≠ (v439 : Value).ownBlock ∧ some k_ ≠ ((.slice Ao26 t441.length co26) : Value).ownBlock ∧ some k_ ≠ (v449 : Value).ownBlock) (.slice Ao27 t444.length co27) t444) ∧ Aside0 (Kd.R k58 58 wc w.heap.size (fun k_ => some k_ ≠ (v439 : Value).ownBlock ∧ some k_ ≠ ((.slice Ao26 t441.length co26) : Value).ownBlock ∧ some k_ ≠ ((.slice Ao27 t444.length co27) : Value).ownBlock) v449 t447) ∧ Aside0 (Below w.heap.size w wc))
      case first =>
        have H := HC16.out
        clear HC16
        replace H := Option.bind_eq_some_iff.mp H
        obtain ⟨t451, A290, H⟩ := H
        replace H : (if t451 = true then (laws_FnExactCatLayouts.j0 k l0 l1 t437 t438 t441 t444 t447 t448 (t448 != t438)) else (laws_FnExactCatLayouts.j0 k l0 l1 t437 t438 t441 t444 t447 t448 true)) = some r := H
        have A29 := Aside0.mk A290
        clear A290
        by_cases c30 : t451 = true
        · subst c30
          have H1 : (laws_FnExactCatLayouts.j0 k l0 l1 t437 t438 t441 t444 t447 t448 (t448 != t438)) = some r := by rw [if_pos rfl] at H; exact H
          clear H
          have H := H1
          clear H1
          have H' := Aside0.mk H
          clear H
          obtain ⟨Ao31, co31, eo31⟩ := Kd.R_slice HO450.out
          subst eo31
          obtain ⟨Ao32, co32, eo32⟩ := Kd.R_slice HO440.out
          subst eo32
          go_wp2_with (first | ((with_reducible refine gate_callee (f := 21) rfl ?_); refine goesL_ (some 47) rfl rfl Try.func21 (by kernel_rfl) rfl #[.slice Ao31 t447.length co31, .slice Ao32 t437.length co32] rfl (by (try simp only [List.map_toArray, List.map_cons, List.map_nil]); first | done | rfl | (simp only [List.length_drop, List.length_take]; rfl)) ?_; (with_reducible refine (laws_eqRowS.calls k _ _ t447 _ _ t437 true _ ?side1 ?side2 ?side3 ?side4 A29.out).mono ?_); (case side1 => repeat (first | exact (Kd.R_reads' HO450.out).2.2 | (with_reducible refine Kd.C_alloc ?_ _) | (with_reducible refine Kd.C_drewN ?_ _) | (with_reducible refine Kd.C_drew ?_))); (case side2 => exact (Kd.R_reads' HO450.out).2.1); (case side3 => repeat (first | exact (Kd.R_reads' HO440.out).2.2 | (with_reducible refine Kd.C_alloc ?_ _) | (with_reducible refine Kd.C_drewN ?_ _) | (with_reducible refine Kd.C_drew ?_))); (case side4 => exact (Kd.R_reads' HO440.out).2.1); rintro e w33 ⟨rfl, hb⟩; refine ⟨_, rfl, ?_⟩; have n0_ := Aside0.mk (Kd.R_below (by (with_reducible repeat (first | apply Kd.R_alloc | apply Kd.R_drewN | apply Kd.R_drew)); exact HO433.out) hb); have n1_ := Aside0.mk (Kd.R_below (by (with_reducible repeat (first | apply Kd.R_alloc | apply Kd.R_drewN | apply Kd.R_drew)); exact HO436.out) hb); have n2_ := Aside0.mk (Kd.R_below (by (with_reducible repeat (first | apply Kd.R_alloc | apply Kd.R_drewN | apply Kd.R_drew)); exact HO440.out) hb); have n3_ := Aside0.mk (Kd.R_below (by (with_reducible repeat (first | apply Kd.R_alloc | apply Kd.R_drewN | apply Kd.R_drew)); exact HO443.out) hb); have n4_ := Aside0.mk (Kd.R_below (by (with_reducible repeat (first | apply Kd.R_alloc | apply Kd.R_drewN | apply Kd.R_drew)); exact HO446.out) hb); have n5_ := Aside0.mk (Kd.R_below (by (with_reducible repeat (first | apply Kd.R_alloc | apply Kd.R_drewN | apply Kd.R_drew)); exact HO450.out) hb); have n6_ := Aside0.mk (below_step (by repeat (first | (with_reducible first | exact HB.out | apply below_alloc | apply pw_below_drewN | apply below_drew1) | exact HB.out)) hb); clear HO433; clear HO436; clear HO440; clear HO443; clear HO446; clear HO450; clear HB; have HO433 := n0_; have HO436 := n1_; have HO440 := n2_; have HO443 := n3_; have HO446 := n4_; have HO450 := n5_; have HB := n6_; clear n0_ n1_ n2_ n3_ n4_ n5_ n6_; (try clear hb); (try clear hb2); (try clear hk); (try clear hi)))
          go_meet
          case rel => exact ⟨_, ((t448 != t438)), (by first | rfl | (simp; done) | (simp [*]; done)), H', ⟨by first | omega | exact Nat.le_refl _⟩, ⟨by (with_reducible repeat (first | apply Kd.R_alloc | apply Kd.R_drewN | apply Kd.R_drew)); exact Kd.R_mono HO440.out (fun _ hk => ⟨hk.1.1.2, ⟨hk.1.2, hk.2⟩⟩)⟩, ⟨by (with_reducible repeat (first | apply Kd.R_alloc | apply Kd.R_drewN | apply Kd.R_drew)); exact Kd.R_mono HO443.out (fun _ hk => ⟨hk.1.1.2, ⟨hk.1.2, hk.2⟩⟩)⟩, ⟨by (with_reducible repeat (first | apply Kd.R_alloc | apply Kd.R_drewN | apply Kd.R_drew)); exact Kd.R_mono HO446.out (fun _ hk => ⟨hk.1.1.2, ⟨hk.1.2, hk.2⟩⟩)⟩, ⟨by (with_reducible repeat (first | apply Kd.R_alloc | apply Kd.R_drewN | apply Kd.R_drew)); exact Kd.R_mono HO450.out (fun _ hk => ⟨hk.1.1.2, ⟨hk.1.2, hk.2⟩⟩)⟩, ⟨by repeat (first | (with_reducible first | exact HB.out | apply below_alloc | apply pw_below_drewN | apply below_drew1) | exact HB.out)⟩⟩
        · replace c30 := Bool.eq_false_iff.mpr c30
          subst c30
          have H1 : (laws_FnExactCatLayouts.j0 k l0 l1 t437 t438 t441 t444 t447 t448 true) = some r := by rw [if_neg (show ¬ (false = true) by decide)] at H; exact H
          clear H
          have H := H1
          clear H1
          have H' := Aside0.mk H
          clear H
          obtain ⟨Ao34, co34, eo34⟩ := Kd.R_slice HO450.out
          subst eo34
          obtain ⟨Ao35, co35, eo35⟩ := Kd.R_slice HO440.out
          subst eo35
          go_wp2_with (first | ((with_reducible refine gate_callee (f := 21) rfl ?_); refine goesL_ (some 47) rfl rfl Try.func21 (by kernel_rfl) rfl #[.slice Ao34 t447.length co34, .slice Ao35 t437.length co35] rfl (by (try simp only [List.map_toArray, List.map_cons, List.map_nil]); first | done | rfl | (simp only [List.length_drop, List.length_take]; rfl)) ?_; (with_reducible refine (laws_eqRowS.calls k _ _ t447 _ _ t437 false _ ?side1 ?side2 ?side3 ?side4 A29.out).mono ?_); (case side1 => repeat (first | exact (Kd.R_reads' HO450.out).2.2 | (with_reducible refine Kd.C_alloc ?_ _) | (with_reducible refine Kd.C_drewN ?_ _) | (with_reducible refine Kd.C_drew ?_))); (case side2 => exact (Kd.R_reads' HO450.out).2.1); (case side3 => repeat (first | exact (Kd.R_reads' HO440.out).2.2 | (with_reducible refine Kd.C_alloc ?_ _) | (with_reducible refine Kd.C_drewN ?_ _) | (with_reducible refine Kd.C_drew ?_))); (case side4 => exact (Kd.R_reads' HO440.out).2.1); rintro e w36 ⟨rfl, hb⟩; refine ⟨_, rfl, ?_⟩; have n0_ := Aside0.mk (Kd.R_below (by (with_reducible repeat (first | apply Kd.R_alloc | apply Kd.R_drewN | apply Kd.R_drew)); exact HO433.out) hb); have n1_ := Aside0.mk (Kd.R_below (by (with_reducible repeat (first | apply Kd.R_alloc | apply Kd.R_drewN | apply Kd.R_drew)); exact HO436.out) hb); have n2_ := Aside0.mk (Kd.R_below (by (with_reducible repeat (first | apply Kd.R_alloc | apply Kd.R_drewN | apply Kd.R_drew)); exact HO440.out) hb); have n3_ := Aside0.mk (Kd.R_below (by (with_reducible repeat (first | apply Kd.R_alloc | apply Kd.R_drewN | apply Kd.R_drew)); exact HO443.out) hb); have n4_ := Aside0.mk (Kd.R_below (by (with_reducible repeat (first | apply Kd.R_alloc | apply Kd.R_drewN | apply Kd.R_drew)); exact HO446.out) hb); have n5_ := Aside0.mk (Kd.R_below (by (with_reducible repeat (first | apply Kd.R_alloc | apply Kd.R_drewN | apply Kd.R_drew)); exact HO450.out) hb); have n6_ := Aside0.mk (below_step (by repeat (first | (with_reducible first | exact HB.out | apply below_alloc | apply pw_below_drewN | apply below_drew1) | exact HB.out)) hb); clear HO433; clear HO436; clear HO440; clear HO443; clear HO446; clear HO450; clear HB; have HO433 := n0_; have HO436 := n1_; have HO440 := n2_; have HO443 := n3_; have HO446 := n4_; have HO450 := n5_; have HB := n6_; clear n0_ n1_ n2_ n3_ n4_ n5_ n6_; (try clear hb); (try clear hb2); (try clear hk); (try clear hi)))
          go_meet
          case rel => exact ⟨_, (true), (by first | rfl | (simp; done) | (simp [*]; done)), H', ⟨by first | omega | exact Nat.le_refl _⟩, ⟨by (with_reducible repeat (first | apply Kd.R_alloc | apply Kd.R_drewN | apply Kd.R_drew)); exact Kd.R_mono HO440.out (fun _ hk => ⟨hk.1.1.2, ⟨hk.1.2, hk.2⟩⟩)⟩, ⟨by (with_reducible repeat (first | apply Kd.R_alloc | apply Kd.R_drewN | apply Kd.R_drew)); exact Kd.R_mono HO443.out (fun _ hk => ⟨hk.1.1.2, ⟨hk.1.2, hk.2⟩⟩)⟩, ⟨by (with_reducible repeat (first | apply Kd.R_alloc | apply Kd.R_drewN | apply Kd.R_drew)); exact Kd.R_mono HO446.out (fun _ hk => ⟨hk.1.1.2, ⟨hk.1.2, hk.2⟩⟩)⟩, ⟨by (with_reducible repeat (first | apply Kd.R_alloc | apply Kd.R_drewN | apply Kd.R_drew)); exact Kd.R_mono HO450.out (fun _ hk => ⟨hk.1.1.2, ⟨hk.1.2, hk.2⟩⟩)⟩, ⟨by repeat (first | (with_reducible first | exact HB.out | apply below_alloc | apply pw_below_drewN | apply below_drew1) | exact HB.out)⟩⟩
      case rest =>
        clear HC16
        try clear c1
        try clear c2
        try clear p2
        try clear c3
        try clear c4
        try clear c4b0
        try clear c7
        try clear c7b0
        try clear c12
        try clear c17
        try clear c19
        try clear c21
        try clear c30
        obtain ⟨kq, x53_15, rfl, HA, HJ15, HO_6, HO_8, HO_9, HO_10, HB⟩ := hcut
        cases kq with
        | zero => exact absurd HA.out (by simp [laws_FnExactCatLayouts.j0])
        | succ kj15 =>
          have H := HA.out
          clear HA
          simp only [laws_FnExactCatLayouts.j0] at H
          by_cases c37 : x53_15 = true
          · subst c37
            have H1 : (none) = some r := by rw [if_pos rfl] at H; exact H
            clear H
            have H := H1
            clear H1
            exact absurd H (by simp)
          · replace c37 := Bool.eq_false_iff.mpr c37
            subst c37
            have H1 : ((laws_toRowS.f kj15 l0).bind fun t452 => ((laws_eqRowS.f kj15 t441 t452).bind fun t455 => (if t455 = true then ((laws_toRowS.f kj15 l1).bind fun t456 => ((laws_eqRowS.f kj15 t444 t456).bind fun t459 => (if t459 = true then ((laws_markRowS.f kj15 t441 1).bind fun bt460 => ((laws_markRowS.f kj15 t444 bt460.1).bind fun bt462 => (if bt462.1 < 0 then (laws_FnExactCatLayouts.j1 kj15 l0 l1 t437 t438 t447 true) else ((laws_eqRowS.f kj15 t447 t437).bind fun t464 => (if t464 = true then (laws_FnExactCatLayouts.j1 kj15 l0 l1 t437 t438 t447 (t448 != t438)) else (laws_FnExactCatLayouts.j1 kj15 l0 l1 t437 t438 t447 true)))))) else (none)))) else (none)))) = some r := by rw [if_neg (show ¬ (false = true) by decide)] at H; exact H
            clear H
            have H := H1
            clear H1
            replace H := Option.bind_eq_some_iff.mp H
            obtain ⟨t452, A380, H⟩ := H
            replace H : ((laws_eqRowS.f kj15 t441 t452).bind fun t455 => (if t455 = true then ((laws_toRowS.f kj15 l1).bind fun t456 => ((laws_eqRowS.f kj15 t444 t456).bind fun t459 => (if t459 = true then ((laws_markRowS.f kj15 t441 1).bind fun bt460 => ((laws_markRowS.f kj15 t444 bt460.1).bind fun bt462 => (if bt462.1 < 0 then (laws_FnExactCatLayouts.j1 kj15 l0 l1 t437 t438 t447 true) else ((laws_eqRowS.f kj15 t447 t437).bind fun t464 => (if t464 = true then (laws_FnExactCatLayouts.j1 kj15 l0 l1 t437 t438 t447 (t448 != t438)) else (laws_FnExactCatLayouts.j1 kj15 l0 l1 t437 t438 t447 true)))))) else (none)))) else (none))) = some r := H
            have A38 := Aside0.mk A380
            clear A380
            replace H := Option.bind_eq_some_iff.mp H
            obtain ⟨t455, A390, H⟩ := H
            replace H : (if t455 = true then ((laws_toRowS.f kj15 l1).bind fun t456 => ((laws_eqRowS.f kj15 t444 t456).bind fun t459 => (if t459 = true then ((laws_markRowS.f kj15 t441 1).bind fun bt460 => ((laws_markRowS.f kj15 t444 bt460.1).bind fun bt462 => (if bt462.1 < 0 then (laws_FnExactCatLayouts.j1 kj15 l0 l1 t437 t438 t447 true) else ((laws_eqRowS.f kj15 t447 t437).bind fun t464 => (if t464 = true then (laws_FnExactCatLayouts.j1 kj15 l0 l1 t437 t438 t447 (t448 != t438)) else (laws_FnExactCatLayouts.j1 kj15 l0 l1 t437 t438 t447 true)))))) else (none)))) else (none)) = some r := H
            have A39 := Aside0.mk A390
            clear A390
            by_cases c40 : t455 = true
            · subst c40
              have H1 : ((laws_toRowS.f kj15 l1).bind fun t456 => ((laws_eqRowS.f kj15 t444 t456).bind fun t459 => (if t459 = true then ((laws_markRowS.f kj15 t441 1).bind fun bt460 => ((laws_markRowS.f kj15 t444 bt460.1).bind fun bt462 => (if bt462.1 < 0 then (laws_FnExactCatLayouts.j1 kj15 l0 l1 t437 t438 t447 true) else ((laws_eqRowS.f kj15 t447 t437).bind fun t464 => (if t464 = true then (laws_FnExactCatLayouts.j1 kj15 l0 l1 t437 t438 t447 (t448 != t438)) else (laws_FnExactCatLayouts.j1 kj15 l0 l1 t437 t438 t447 true)))))) else (none)))) = some r := by rw [if_pos rfl] at H; exact H
              clear H
              have H := H1
              clear H1
              replace H := Option.bind_eq_some_iff.mp H
              obtain ⟨t456, A410, H⟩ := H
              replace H : ((laws_eqRowS.f kj15 t444 t456).bind fun t459 => (if t459 = true then ((laws_markRowS.f kj15 t441 1).bind fun bt460 => ((laws_markRowS.f kj15 t444 bt460.1).bind fun bt462 => (if bt462.1 < 0 then (laws_FnExactCatLayouts.j1 kj15 l0 l1 t437 t438 t447 true) else ((laws_eqRowS.f kj15 t447 t437).bind fun t464 => (if t464 = true then (laws_FnExactCatLayouts.j1 kj15 l0 l1 t437 t438 t447 (t448 != t438)) else (laws_FnExactCatLayouts.j1 kj15 l0 l1 t437 t438 t447 true)))))) else (none))) = some r := H
              have A41 := Aside0.mk A410
              clear A410
              replace H := Option.bind_eq_some_iff.mp H
              obtain ⟨t459, A420, H⟩ := H
              replace H : (if t459 = true then ((laws_markRowS.f kj15 t441 1).bind fun bt460 => ((laws_markRowS.f kj15 t444 bt460.1).bind fun bt462 => (if bt462.1 < 0 then (laws_FnExactCatLayouts.j1 kj15 l0 l1 t437 t438 t447 true) else ((laws_eqRowS.f kj15 t447 t437).bind fun t464 => (if t464 = true then (laws_FnExactCatLayouts.j1 kj15 l0 l1 t437 t438 t447 (t448 != t438)) else (laws_FnExactCatLayouts.j1 kj15 l0 l1 t437 t438 t447 true)))))) else (none)) = some r := H
              have A42 := Aside0.mk A420
              clear A420
              by_cases c43 : t459 = true
              · subst c43
                have H1 : ((laws_markRowS.f kj15 t441 1).bind fun bt460 => ((laws_markRowS.f kj15 t444 bt460.1).bind fun bt462 => (if bt462.1 < 0 then (laws_FnExactCatLayouts.j1 kj15 l0 l1 t437 t438 t447 true) else ((laws_eqRowS.f kj15 t447 t437).bind fun t464 => (if t464 = true then (laws_FnExactCatLayouts.j1 kj15 l0 l1 t437 t438 t447 (t448 != t438)) else (laws_FnExactCatLayouts.j1 kj15 l0 l1 t437 t438 t447 true)))))) = some r := by rw [if_pos rfl] at H; exact H
                clear H
                have H := H1
                clear H1
                replace H := Option.bind_eq_some_iff.mp H
                obtain ⟨⟨t460, t461⟩, A440, H⟩ := H
                replace H : ((laws_markRowS.f kj15 t444 t460).bind fun bt462 => (if bt462.1 < 0 then (laws_FnExactCatLayouts.j1 kj15 l0 l1 t437 t438 t447 true) else ((laws_eqRowS.f kj15 t447 t437).bind fun t464 => (if t464 = true then (laws_FnExactCatLayouts.j1 kj15 l0 l1 t437 t438 t447 (t448 != t438)) else (laws_FnExactCatLayouts.j1 kj15 l0 l1 t437 t438 t447 true))))) = some r := H
                have A44 := Aside0.mk A440
                clear A440
                replace H := Option.bind_eq_some_iff.mp H
                obtain ⟨⟨t462, t463⟩, A450, H⟩ := H
                replace H : (if t462 < 0 then (laws_FnExactCatLayouts.j1 kj15 l0 l1 t437 t438 t447 true) else ((laws_eqRowS.f kj15 t447 t437).bind fun t464 => (if t464 = true then (laws_FnExactCatLayouts.j1 kj15 l0 l1 t437 t438 t447 (t448 != t438)) else (laws_FnExactCatLayouts.j1 kj15 l0 l1 t437 t438 t447 true)))) = some r := H
                have A45 := Aside0.mk A450
                clear A450
                have HC46 := Aside0.mk H
                clear H
                go_upto_region 21 with (first | ((with_reducible refine gate_callee (f := 19) rfl ?_); refine goesL_ (some 56) rfl rfl Try.func19 (by kernel_rfl) rfl #[.slice A0 l0.length c0] rfl (by (try simp only [List.map_toArray, List.map_cons, List.map_nil]); first | done | rfl | (simp only [List.length_drop, List.length_take]; rfl)) ?_; (with_reducible refine (laws_toRowS.calls kj15 _ _ l0 t452 _ ?side1 ?side2 A38.out).mono ?_); (case side1 => repeat (first | exact (Kd.C_below HR0.out HB.out) | (with_reducible refine Kd.C_alloc ?_ _) | (with_reducible refine Kd.C_drewN ?_ _) | (with_reducible refine Kd.C_drew ?_))); (case side2 => exact HC0.out); rintro e w47 ⟨v453, rfl, ho0, hb⟩; refine ⟨_, rfl, ?_⟩; have n0_ := Aside0.mk (Kd.R_elder' (by (with_reducible repeat (first | apply Kd.R_alloc | apply Kd.R_drewN | apply Kd.R_drew)); exact HO_6.out) (Kd.R_base ho0) hb); have n1_ := Aside0.mk (Kd.R_elder' (by (with_reducible repeat (first | apply Kd.R_alloc | apply Kd.R_drewN | apply Kd.R_drew)); exact HO_8.out) (Kd.R_base ho0) hb); have n2_ := Aside0.mk (Kd.R_elder' (by (with_reducible repeat (first | apply Kd.R_alloc | apply Kd.R_drewN | apply Kd.R_drew)); exact HO_9.out) (Kd.R_base ho0) hb); have n3_ := Aside0.mk (Kd.R_elder' (by (with_reducible repeat (first | apply Kd.R_alloc | apply Kd.R_drewN | apply Kd.R_drew)); exact HO_10.out) (Kd.R_base ho0) hb); have n4_ := Aside0.mk (Kd.R_lower (Kd.R_new' (Kd.R_new' (Kd.R_new' (Kd.R_new' ho0 (Kd.R_lt (by (with_reducible repeat (first | apply Kd.R_alloc | apply Kd.R_drewN | apply Kd.R_drew)); exact HO_6.out))) (Kd.R_lt (by (with_reducible repeat (first | apply Kd.R_alloc | apply Kd.R_drewN | apply Kd.R_drew)); exact HO_8.out))) (Kd.R_lt (by (with_reducible repeat (first | apply Kd.R_alloc | apply Kd.R_drewN | apply Kd.R_drew)); exact HO_9.out))) (Kd.R_lt (by (with_reducible repeat (first | apply Kd.R_alloc | apply Kd.R_drewN | apply Kd.R_drew)); exact HO_10.out))) (below_size (by repeat (first | (with_reducible first | exact HB.out | apply below_alloc | apply pw_below_drewN | apply below_drew1) | exact HB.out)))); have n5_ := Aside0.mk (below_step (by repeat (first | (with_reducible first | exact HB.out | apply below_alloc | apply pw_below_drewN | apply below_drew1) | exact HB.out)) hb); clear HO_6; clear HO_8; clear HO_9; clear HO_10; clear HB; have HO_6 := n0_; have HO_8 := n1_; have HO_9 := n2_; have HO_10 := n3_; have HO454 := n4_; have HB := n5_; clear n0_ n1_ n2_ n3_ n4_ n5_; (try clear hb); (try clear hb2); (try clear hk); (try clear hi); (try clear ho0); obtain ⟨Ao48, co48, eo48⟩ := Kd.R_slice HO454.out; subst eo48) | ((with_reducible refine gate_callee (f := 21) rfl ?_); refine goesL_ (some 57) rfl rfl Try.func21 (by kernel_rfl) rfl #[.slice Ao26 t441.length co26, .slice Ao48 t452.length co48] rfl (by (try simp only [List.map_toArray, List.map_cons, List.map_nil]); first | done | rfl | (simp only [List.length_drop, List.length_take]; rfl)) ?_; (with_reducible refine (laws_eqRowS.calls kj15 _ _ t441 _ _ t452 true _ ?side1 ?side2 ?side3 ?side4 A39.out).mono ?_); (case side1 => repeat (first | exact (Kd.R_reads' HO_8.out).2.2 | (with_reducible refine Kd.C_alloc ?_ _) | (with_reducible refine Kd.C_drewN ?_ _) | (with_reducible refine Kd.C_drew ?_))); (case side2 => exact (Kd.R_reads' HO_8.out).2.1); (case side3 => repeat (first | exact (Kd.R_reads' HO454.out).2.2 | (with_reducible refine Kd.C_alloc ?_ _) | (with_reducible refine Kd.C_drewN ?_ _) | (with_reducible refine Kd.C_drew ?_))); (case side4 => exact (Kd.R_reads' HO454.out).2.1); rintro e w49 ⟨rfl, hb⟩; refine ⟨_, rfl, ?_⟩; have n0_ := Aside0.mk (Kd.R_below (by (with_reducible repeat (first | apply Kd.R_alloc | apply Kd.R_drewN | apply Kd.R_drew)); exact HO_6.out) hb); have n1_ := Aside0.mk (Kd.R_below (by (with_reducible repeat (first | apply Kd.R_alloc | apply Kd.R_drewN | apply Kd.R_drew)); exact HO_8.out) hb); have n2_ := Aside0.mk (Kd.R_below (by (with_reducible repeat (first | apply Kd.R_alloc | apply Kd.R_drewN | apply Kd.R_drew)); exact HO_9.out) hb); have n3_ := Aside0.mk (Kd.R_below (by (with_reducible repeat (first | apply Kd.R_alloc | apply Kd.R_drewN | apply Kd.R_drew)); exact HO_10.out) hb); have n4_ := Aside0.mk (Kd.R_below (by (with_reducible repeat (first | apply Kd.R_alloc | apply Kd.R_drewN | apply Kd.R_drew)); exact HO454.out) hb); have n5_ := Aside0.mk (below_step (by repeat (first | (with_reducible first | exact HB.out | apply below_alloc | apply pw_below_drewN | apply below_drew1) | exact HB.out)) hb); clear HO_6; clear HO_8; clear HO_9; clear HO_10; clear HO454; clear HB; have HO_6 := n0_; have HO_8 := n1_; have HO_9 := n2_; have HO_10 := n3_; have HO454 := n4_; have HB := n5_; clear n0_ n1_ n2_ n3_ n4_ n5_; (try clear hb); (try clear hb2); (try clear hk); (try clear hi)) | ((with_reducible refine gate_callee (f := 19) rfl ?_); refine goesL_ (some 61) rfl rfl Try.func19 (by kernel_rfl) rfl #[.slice A1 l1.length c1] rfl (by (try simp only [List.map_toArray, List.map_cons, List.map_nil]); first | done | rfl | (simp only [List.length_drop, List.length_take]; rfl)) ?_; (with_reducible refine (laws_toRowS.calls kj15 _ _ l1 t456 _ ?side1 ?side2 A41.out).mono ?_); (case side1 => repeat (first | exact (Kd.C_below HR1.out HB.out) | (with_reducible refine Kd.C_alloc ?_ _) | (with_reducible refine Kd.C_drewN ?_ _) | (with_reducible refine Kd.C_drew ?_))); (case side2 => exact HC1.out); rintro e w50 ⟨v457, rfl, ho0, hb⟩; refine ⟨_, rfl, ?_⟩; have n0_ := Aside0.mk (Kd.R_elder' (by (with_reducible repeat (first | apply Kd.R_alloc | apply Kd.R_drewN | apply Kd.R_drew)); exact HO_6.out) (Kd.R_base ho0) hb); have n1_ := Aside0.mk (Kd.R_elder' (by (with_reducible repeat (first | apply Kd.R_alloc | apply Kd.R_drewN | apply Kd.R_drew)); exact HO_8.out) (Kd.R_base ho0) hb); have n2_ := Aside0.mk (Kd.R_elder' (by (with_reducible repeat (first | apply Kd.R_alloc | apply Kd.R_drewN | apply Kd.R_drew)); exact HO_9.out) (Kd.R_base ho0) hb); have n3_ := Aside0.mk (Kd.R_elder' (by (with_reducible repeat (first | apply Kd.R_alloc | apply Kd.R_drewN | apply Kd.R_drew)); exact HO_10.out) (Kd.R_base ho0) hb); have n4_ := Aside0.mk (Kd.R_elder' (by (with_reducible repeat (first | apply Kd.R_alloc | apply Kd.R_drewN | apply Kd.R_drew)); exact HO454.out) (Kd.R_base ho0) hb); have n5_ := Aside0.mk (Kd.R_lower (Kd.R_new' (Kd.R_new' (Kd.R_new' (Kd.R_new' (Kd.R_new' ho0 (Kd.R_lt (by (with_reducible repeat (first | apply Kd.R_alloc | apply Kd.R_drewN | apply Kd.R_drew)); exact HO_6.out))) (Kd.R_lt (by (with_reducible repeat (first | apply Kd.R_alloc | apply Kd.R_drewN | apply Kd.R_drew)); exact HO_8.out))) (Kd.R_lt (by (with_reducible repeat (first | apply Kd.R_alloc | apply Kd.R_drewN | apply Kd.R_drew)); exact HO_9.out))) (Kd.R_lt (by (with_reducible repeat (first | apply Kd.R_alloc | apply Kd.R_drewN | apply Kd.R_drew)); exact HO_10.out))) (Kd.R_lt (by (with_reducible repeat (first | apply Kd.R_alloc | apply Kd.R_drewN | apply Kd.R_drew)); exact HO454.out))) (below_size (by repeat (first | (with_reducible first | exact HB.out | apply below_alloc | apply pw_below_drewN | apply below_drew1) | exact HB.out)))); have n6_ := Aside0.mk (below_step (by repeat (first | (with_reducible first | exact HB.out | apply below_alloc | apply pw_below_drewN | apply below_drew1) | exact HB.out)) hb); clear HO_6; clear HO_8; clear HO_9; clear HO_10; clear HO454; clear HB; have HO_6 := n0_; have HO_8 := n1_; have HO_9 := n2_; have HO_10 := n3_; have HO454 := n4_; have HO458 := n5_; have HB := n6_; clear n0_ n1_ n2_ n3_ n4_ n5_ n6_; (try clear hb); (try clear hb2); (try clear hk); (try clear hi); (try clear ho0); obtain ⟨Ao51, co51, eo51⟩ := Kd.R_slice HO458.out; subst eo51) | ((with_reducible refine gate_callee (f := 21) rfl ?_); refine goesL_ (some 62) rfl rfl Try.func21 (by kernel_rfl) rfl #[.slice Ao27 t444.length co27, .slice Ao51 t456.length co51] rfl (by (try simp only [List.map_toArray, List.map_cons, List.map_nil]); first | done | rfl | (simp only [List.length_drop, List.length_take]; rfl)) ?_; (with_reducible refine (laws_eqRowS.calls kj15 _ _ t444 _ _ t456 true _ ?side1 ?side2 ?side3 ?side4 A42.out).mono ?_); (case side1 => repeat (first | exact (Kd.R_reads' HO_9.out).2.2 | (with_reducible refine Kd.C_alloc ?_ _) | (with_reducible refine Kd.C_drewN ?_ _) | (with_reducible refine Kd.C_drew ?_))); (case side2 => exact (Kd.R_reads' HO_9.out).2.1); (case side3 => repeat (first | exact (Kd.R_reads' HO458.out).2.2 | (with_reducible refine Kd.C_alloc ?_ _) | (with_reducible refine Kd.C_drewN ?_ _) | (with_reducible refine Kd.C_drew ?_))); (case side4 => exact (Kd.R_reads' HO458.out).2.1); rintro e w52 ⟨rfl, hb⟩; refine ⟨_, rfl, ?_⟩; have n0_ := Aside0.mk (Kd.R_below (by (with_reducible repeat (first | apply Kd.R_alloc | apply Kd.R_drewN | apply Kd.R_drew)); exact HO_6.out) hb); have n1_ := Aside0.mk (Kd.R_below (by (with_reducible repeat (first | apply Kd.R_alloc | apply Kd.R_drewN | apply Kd.R_drew)); exact HO_8.out) hb); have n2_ := Aside0.mk (Kd.R_below (by (with_reducible repeat (first | apply Kd.R_alloc | apply Kd.R_drewN | apply Kd.R_drew)); exact HO_9.out) hb); have n3_ := Aside0.mk (Kd.R_below (by (with_reducible repeat (first | apply Kd.R_alloc | apply Kd.R_drewN | apply Kd.R_drew)); exact HO_10.out) hb); have n4_ := Aside0.mk (Kd.R_below (by (with_reducible repeat (first | apply Kd.R_alloc | apply Kd.R_drewN | apply Kd.R_drew)); exact HO454.out) hb); have n5_ := Aside0.mk (Kd.R_below (by (with_reducible repeat (first | apply Kd.R_alloc | apply Kd.R_drewN | apply Kd.R_drew)); exact HO458.out) hb); have n6_ := Aside0.mk (below_step (by repeat (first | (with_reducible first | exact HB.out | apply below_alloc | apply pw_below_drewN | apply below_drew1) | exact HB.out)) hb); clear HO_6; clear HO_8; clear HO_9; clear HO_10; clear HO454; clear HO458; clear HB; have HO_6 := n0_; have HO_8 := n1_; have HO_9 := n2_; have HO_10 := n3_; have HO454 := n4_; have HO458 := n5_; have HB := n6_; clear n0_ n1_ n2_ n3_ n4_ n5_ n6_; (try clear hb); (try clear hb2); (try clear hk); (try clear hi)) | ((with_reducible refine gate_callee (f := 39) rfl ?_); refine goesL_ (some 66) rfl rfl Try.func39 (by kernel_rfl) rfl #[.slice Ao26 t441.length co26, .int .i64 1] rfl (by (try simp only [List.map_toArray, List.map_cons, List.map_nil]); first | done | rfl | (simp only [List.length_drop, List.length_take]; rfl)) ?_; (with_reducible refine (laws_markRowS.calls kj15 (fun k_ => some k_ = (.slice Ao26 t441.length co26 : Value).ownBlock) (.slice Ao26 t441.length co26) t441 1 t460 t461 w _ ?side1 ?side2 A44.out).mono ?_); (case side1 => repeat (first | (with_reducible first | exact HB.out | apply below_alloc | apply pw_below_drewN | apply below_drew1) | exact HB.out)); (case side2 => exact Kd.R_tight rfl HO_8.out); rintro e w53 ⟨rfl, hy0, hb, hkp⟩; refine ⟨_, rfl, ?_⟩; have n0_ := Aside0.mk (Kd.R_mono (ok' := fun k_ => some k_ ≠ (.slice Ao26 t441.length co26 : Value).ownBlock ∧ some k_ ≠ (.slice Ao27 t444.length co27 : Value).ownBlock ∧ some k_ ≠ (v449 : Value).ownBlock ∧ some k_ ≠ (.slice Ao48 t452.length co48 : Value).ownBlock ∧ some k_ ≠ (.slice Ao51 t456.length co51 : Value).ownBlock) (Kd.R_keptB (HO_6.out) hkp (fun k_ hk_ hs_ => (hk_.1.1.1) hs_)) (fun k_ hk_ => ⟨hk_.1.1.1.1, hk_.1.1.1.2.1, hk_.1.1.1.2.2, hk_.1.1.2, hk_.1.2⟩)); have n1_ := Aside0.mk (Kd.R_reok rfl hy0 (fun k_ e_ => HO_8.out.1 k_ e_)); have n2_ := Aside0.mk (Kd.R_mono (ok' := fun k_ => some k_ ≠ (v439 : Value).ownBlock ∧ some k_ ≠ (.slice Ao26 t441.length co26 : Value).ownBlock ∧ some k_ ≠ (v449 : Value).ownBlock ∧ some k_ ≠ (.slice Ao48 t452.length co48 : Value).ownBlock ∧ some k_ ≠ (.slice Ao51 t456.length co51 : Value).ownBlock) (Kd.R_keptB (HO_9.out) hkp (fun k_ hk_ hs_ => (hk_.1.1.2.1) hs_)) (fun k_ hk_ => ⟨hk_.1.1.1.1, hk_.1.1.1.2.1, hk_.1.1.1.2.2, hk_.1.1.2, hk_.1.2⟩)); have n3_ := Aside0.mk (Kd.R_mono (ok' := fun k_ => some k_ ≠ (v439 : Value).ownBlock ∧ some k_ ≠ (.slice Ao26 t441.length co26 : Value).ownBlock ∧ some k_ ≠ (.slice Ao27 t444.length co27 : Value).ownBlock ∧ some k_ ≠ (.slice Ao48 t452.length co48 : Value).ownBlock ∧ some k_ ≠ (.slice Ao51 t456.length co51 : Value).ownBlock) (Kd.R_keptB (HO_10.out) hkp (fun k_ hk_ hs_ => (hk_.1.1.2.1) hs_)) (fun k_ hk_ => ⟨hk_.1.1.1.1, hk_.1.1.1.2.1, hk_.1.1.1.2.2, hk_.1.1.2, hk_.1.2⟩)); have n4_ := Aside0.mk (Kd.R_mono (ok' := fun k_ => some k_ ≠ (v439 : Value).ownBlock ∧ some k_ ≠ (.slice Ao26 t441.length co26 : Value).ownBlock ∧ some k_ ≠ (.slice Ao27 t444.length co27 : Value).ownBlock ∧ some k_ ≠ (v449 : Value).ownBlock ∧ some k_ ≠ (.slice Ao51 t456.length co51 : Value).ownBlock) (Kd.R_keptB (HO454.out) hkp (fun k_ hk_ hs_ => (hk_.1.1.1.2) hs_)) (fun k_ hk_ => ⟨hk_.1.1.1.1.1.2, hk_.1.1.1.1.2, hk_.1.1.1.2, hk_.1.1.2, hk_.1.2⟩)); have n5_ := Aside0.mk (Kd.R_mono (ok' := fun k_ => some k_ ≠ (v439 : Value).ownBlock ∧ some k_ ≠ (.slice Ao26 t441.length co26 : Value).ownBlock ∧ some k_ ≠ (.slice Ao27 t444.length co27 : Value).ownBlock ∧ some k_ ≠ (v449 : Value).ownBlock ∧ some k_ ≠ (.slice Ao48 t452.length co48 : Value).ownBlock) (Kd.R_keptB (HO458.out) hkp (fun k_ hk_ hs_ => (hk_.1.1.1.2) hs_)) (fun k_ hk_ => ⟨hk_.1.1.1.1.1.2, hk_.1.1.1.1.2, hk_.1.1.1.2, hk_.1.1.2, hk_.1.2⟩)); have n6_ := Aside0.mk (hb); clear HO_6; clear HO_8; clear HO_9; clear HO_10; clear HO454; clear HO458; clear HB; have HO_6 := n0_; have HO_8 := n1_; have HO_9 := n2_; have HO_10 := n3_; have HO454 := n4_; have HO458 := n5_; have HB := n6_; clear n0_ n1_ n2_ n3_ n4_ n5_ n6_; (try clear hb); (try clear hkp); (try clear hy0)) | ((with_reducible refine gate_callee (f := 39) rfl ?_); refine goesL_ (some 69) rfl rfl Try.func39 (by kernel_rfl) rfl #[.slice Ao27 t444.length co27, .int .i64 t460] rfl (by (try simp only [List.map_toArray, List.map_cons, List.map_nil]); first | done | rfl | (simp only [List.length_drop, List.length_take]; rfl)) ?_; (with_reducible refine (laws_markRowS.calls kj15 (fun k_ => some k_ = (.slice Ao27 t444.length co27 : Value).ownBlock) (.slice Ao27 t444.length co27) t444 t460 t462 t463 w _ ?side1 ?side2 A45.out).mono ?_); (case side1 => repeat (first | (with_reducible first | exact HB.out | apply below_alloc | apply pw_below_drewN | apply below_drew1) | exact HB.out)); (case side2 => exact Kd.R_tight rfl HO_9.out); rintro e w54 ⟨rfl, hy0, hb, hkp⟩; refine ⟨_, rfl, ?_⟩; have n0_ := Aside0.mk (Kd.R_mono (ok' := fun k_ => some k_ ≠ (.slice Ao26 t441.length co26 : Value).ownBlock ∧ some k_ ≠ (.slice Ao27 t444.length co27 : Value).ownBlock ∧ some k_ ≠ (v449 : Value).ownBlock ∧ some k_ ≠ (.slice Ao48 t452.length co48 : Value).ownBlock ∧ some k_ ≠ (.slice Ao51 t456.length co51 : Value).ownBlock) (Kd.R_keptB (HO_6.out) hkp (fun k_ hk_ hs_ => (hk_.2.1) hs_)) (fun k_ hk_ => ⟨hk_.1.1, hk_.1.2.1, hk_.1.2.2.1, hk_.1.2.2.2.1, hk_.1.2.2.2.2⟩)); have n1_ := Aside0.mk (Kd.R_mono (ok' := fun k_ => some k_ ≠ (v439 : Value).ownBlock ∧ some k_ ≠ (.slice Ao27 t444.length co27 : Value).ownBlock ∧ some k_ ≠ (v449 : Value).ownBlock ∧ some k_ ≠ (.slice Ao48 t452.length co48 : Value).ownBlock ∧ some k_ ≠ (.slice Ao51 t456.length co51 : Value).ownBlock) (Kd.R_keptB (HO_8.out) hkp (fun k_ hk_ hs_ => (hk_.1.1.2.1) hs_)) (fun k_ hk_ => ⟨hk_.1.1.1.1, hk_.1.1.1.2.1, hk_.1.1.1.2.2, hk_.1.1.2, hk_.1.2⟩)); have n2_ := Aside0.mk (Kd.R_reok rfl hy0 (fun k_ e_ => HO_9.out.1 k_ e_)); have n3_ := Aside0.mk (Kd.R_mono (ok' := fun k_ => some k_ ≠ (v439 : Value).ownBlock ∧ some k_ ≠ (.slice Ao26 t441.length co26 : Value).ownBlock ∧ some k_ ≠ (.slice Ao27 t444.length co27 : Value).ownBlock ∧ some k_ ≠ (.slice Ao48 t452.length co48 : Value).ownBlock ∧ some k_ ≠ (.slice Ao51 t456.length co51 : Value).ownBlock) (Kd.R_keptB (HO_10.out) hkp (fun k_ hk_ hs_ => (hk_.2.2.1) hs_)) (fun k_ hk_ => ⟨hk_.1.1, hk_.1.2.1, hk_.1.2.2.1, hk_.1.2.2.2.1, hk_.1.2.2.2.2⟩)); have n4_ := Aside0.mk (Kd.R_mono (ok' := fun k_ => some k_ ≠ (v439 : Value).ownBlock ∧ some k_ ≠ (.slice Ao26 t441.length co26 : Value).ownBlock ∧ some k_ ≠ (.slice Ao27 t444.length co27 : Value).ownBlock ∧ some k_ ≠ (v449 : Value).ownBlock ∧ some k_ ≠ (.slice Ao51 t456.length co51 : Value).ownBlock) (Kd.R_keptB (HO454.out) hkp (fun k_ hk_ hs_ => (hk_.2.2.1) hs_)) (fun k_ hk_ => ⟨hk_.1.1, hk_.1.2.1, hk_.1.2.2.1, hk_.1.2.2.2.1, hk_.1.2.2.2.2⟩)); have n5_ := Aside0.mk (Kd.R_mono (ok' := fun k_ => some k_ ≠ (v439 : Value).ownBlock ∧ some k_ ≠ (.slice Ao26 t441.length co26 : Value).ownBlock ∧ some k_ ≠ (.slice Ao27 t444.length co27 : Value).ownBlock ∧ some k_ ≠ (v449 : Value).ownBlock ∧ some k_ ≠ (.slice Ao48 t452.length co48 : Value).ownBlock) (Kd.R_keptB (HO458.out) hkp (fun k_ hk_ hs_ => (hk_.2.2.1) hs_)) (fun k_ hk_ => ⟨hk_.1.1, hk_.1.2.1, hk_.1.2.2.1, hk_.1.2.2.2.1, hk_.1.2.2.2.2⟩)); have n6_ := Aside0.mk (hb); clear HO_6; clear HO_8; clear HO_9; clear HO_10; clear HO454; clear HO458; clear HB; have HO_6 := n0_; have HO_8 := n1_; have HO_9 := n2_; have HO_10 := n3_; have HO454 := n4_; have HO458 := n5_; have HB := n6_; clear n0_ n1_ n2_ n3_ n4_ n5_ n6_; (try clear hb); (try clear hkp); (try clear hy0)))
                (try simp only [Act.put, List.setIfInBounds_toArray, List.set_cons_zero, List.set_cons_succ])
                go_cut [82] (fun v82 wc => ∃ (kq : Nat) (x82_45 : Bool), v82 = .bool x82_45 ∧ Aside0 (laws_FnExactCatLayouts.j1 kq l0 l1 t437 t438 t447 x82_45 = some r) ∧ Aside0 (kq ≤ kj15) ∧ Aside0 (Kd.R k58 58 wc w.heap.size (fun k_ => some k_ ≠ (v449 : Value).ownBlock) v439 t437) ∧ Aside0 (Kd.R k58 58 wc w.heap.size (fun k_ => some k_ ≠ (v439 : Value).ownBlock) v449 t447) ∧ Aside0 (Below w.heap.size w wc))
                case first =>
                  have H := HC46.out
                  clear HC46
                  by_cases c55 : t462 < 0
                  · rw [if_pos c55] at H
                    have c55b0 : decide (t462 < 0) = true := decide_eq_true c55
                    clear c55
                    (first | rw [c55b0] | (simp only [i64_w, i32_w]; rw [c55b0]) | skip)
                    have H' := Aside0.mk H
                    clear H
                    go_wp2
                    go_meet
                    case rel => exact ⟨_, (true), (by first | rfl | (simp; done) | (simp [*]; done)), H', ⟨by have := HJ15.out; first | omega | exact Nat.le_refl _⟩, ⟨by (with_reducible repeat (first | apply Kd.R_alloc | apply Kd.R_drewN | apply Kd.R_drew)); exact Kd.R_mono HO_6.out (fun _ hk => hk.2.2.1)⟩, ⟨by (with_reducible repeat (first | apply Kd.R_alloc | apply Kd.R_drewN | apply Kd.R_drew)); exact Kd.R_mono HO_10.out (fun _ hk => hk.1)⟩, ⟨by repeat (first | (with_reducible first | exact HB.out | apply below_alloc | apply pw_below_drewN | apply below_drew1) | exact HB.out)⟩⟩
                  · rw [if_neg c55] at H
                    have c55b0 : decide (t462 < 0) = false := decide_eq_false c55
                    clear c55
                    (first | rw [c55b0] | (simp only [i64_w, i32_w]; rw [c55b0]) | skip)
                    replace H := Option.bind_eq_some_iff.mp H
                    obtain ⟨t464, A560, H⟩ := H
                    replace H : (if t464 = true then (laws_FnExactCatLayouts.j1 kj15 l0 l1 t437 t438 t447 (t448 != t438)) else (laws_FnExactCatLayouts.j1 kj15 l0 l1 t437 t438 t447 true)) = some r := H
                    have A56 := Aside0.mk A560
                    clear A560
                    by_cases c57 : t464 = true
                    · subst c57
                      have H1 : (laws_FnExactCatLayouts.j1 kj15 l0 l1 t437 t438 t447 (t448 != t438)) = some r := by rw [if_pos rfl] at H; exact H
                      clear H
                      have H := H1
                      clear H1
                      have H' := Aside0.mk H
                      clear H
                      obtain ⟨Ao58, co58, eo58⟩ := Kd.R_slice HO_10.out
                      subst eo58
                      obtain ⟨Ao59, co59, eo59⟩ := Kd.R_slice HO_6.out
                      subst eo59
                      go_wp2_with (first | (go_at_call 21; (with_reducible refine (laws_eqRowS.calls kj15 _ _ t447 _ _ t437 true _ ?side1 ?side2 ?side3 ?side4 A56.out).mono ?_); (case side1 => repeat (first | exact (Kd.R_reads' HO_10.out).2.2 | (with_reducible refine Kd.C_alloc ?_ _) | (with_reducible refine Kd.C_drewN ?_ _) | (with_reducible refine Kd.C_drew ?_))); (case side2 => exact (Kd.R_reads' HO_10.out).2.1); (case side3 => repeat (first | exact (Kd.R_reads' HO_6.out).2.2 | (with_reducible refine Kd.C_alloc ?_ _) | (with_reducible refine Kd.C_drewN ?_ _) | (with_reducible refine Kd.C_drew ?_))); (case side4 => exact (Kd.R_reads' HO_6.out).2.1); rintro e w60 ⟨rfl, hb⟩; have n0_ := Aside0.mk (Kd.R_below (by (with_reducible repeat (first | apply Kd.R_alloc | apply Kd.R_drewN | apply Kd.R_drew)); exact HO_6.out) hb); have n1_ := Aside0.mk (Kd.R_below (by (with_reducible repeat (first | apply Kd.R_alloc | apply Kd.R_drewN | apply Kd.R_drew)); exact HO_8.out) hb); have n2_ := Aside0.mk (Kd.R_below (by (with_reducible repeat (first | apply Kd.R_alloc | apply Kd.R_drewN | apply Kd.R_drew)); exact HO_9.out) hb); have n3_ := Aside0.mk (Kd.R_below (by (with_reducible repeat (first | apply Kd.R_alloc | apply Kd.R_drewN | apply Kd.R_drew)); exact HO_10.out) hb); have n4_ := Aside0.mk (Kd.R_below (by (with_reducible repeat (first | apply Kd.R_alloc | apply Kd.R_drewN | apply Kd.R_drew)); exact HO454.out) hb); have n5_ := Aside0.mk (Kd.R_below (by (with_reducible repeat (first | apply Kd.R_alloc | apply Kd.R_drewN | apply Kd.R_drew)); exact HO458.out) hb); have n6_ := Aside0.mk (below_step (by repeat (first | (with_reducible first | exact HB.out | apply below_alloc | apply pw_below_drewN | apply below_drew1) | exact HB.out)) hb); clear HO_6; clear HO_8; clear HO_9; clear HO_10; clear HO454; clear HO458; clear HB; have HO_6 := n0_; have HO_8 := n1_; have HO_9 := n2_; have HO_10 := n3_; have HO454 := n4_; have HO458 := n5_; have HB := n6_; clear n0_ n1_ n2_ n3_ n4_ n5_ n6_; (try clear hb); (try clear hb2); (try clear hk); (try clear hi)))
                      go_meet
                      case rel => exact ⟨_, ((t448 != t438)), (by first | rfl | (simp; done) | (simp [*]; done)), H', ⟨by have := HJ15.out; first | omega | exact Nat.le_refl _⟩, ⟨by (with_reducible repeat (first | apply Kd.R_alloc | apply Kd.R_drewN | apply Kd.R_drew)); exact Kd.R_mono HO_6.out (fun _ hk => hk.2.2.1)⟩, ⟨by (with_reducible repeat (first | apply Kd.R_alloc | apply Kd.R_drewN | apply Kd.R_drew)); exact Kd.R_mono HO_10.out (fun _ hk => hk.1)⟩, ⟨by repeat (first | (with_reducible first | exact HB.out | apply below_alloc | apply pw_below_drewN | apply below_drew1) | exact HB.out)⟩⟩
                    · replace c57 := Bool.eq_false_iff.mpr c57
                      subst c57
                      have H1 : (laws_FnExactCatLayouts.j1 kj15 l0 l1 t437 t438 t447 true) = some r := by rw [if_neg (show ¬ (false = true) by decide)] at H; exact H
                      clear H
                      have H := H1
                      clear H1
                      have H' := Aside0.mk H
                      clear H
                      obtain ⟨Ao61, co61, eo61⟩ := Kd.R_slice HO_10.out
                      subst eo61
                      obtain ⟨Ao62, co62, eo62⟩ := Kd.R_slice HO_6.out
                      subst eo62
                      go_wp2_with (first | (go_at_call 21; (with_reducible refine (laws_eqRowS.calls kj15 _ _ t447 _ _ t437 false _ ?side1 ?side2 ?side3 ?side4 A56.out).mono ?_); (case side1 => repeat (first | exact (Kd.R_reads' HO_10.out).2.2 | (with_reducible refine Kd.C_alloc ?_ _) | (with_reducible refine Kd.C_drewN ?_ _) | (with_reducible refine Kd.C_drew ?_))); (case side2 => exact (Kd.R_reads' HO_10.out).2.1); (case side3 => repeat (first | exact (Kd.R_reads' HO_6.out).2.2 | (with_reducible refine Kd.C_alloc ?_ _) | (with_reducible refine Kd.C_drewN ?_ _) | (with_reducible refine Kd.C_drew ?_))); (case side4 => exact (Kd.R_reads' HO_6.out).2.1); rintro e w63 ⟨rfl, hb⟩; have n0_ := Aside0.mk (Kd.R_below (by (with_reducible repeat (first | apply Kd.R_alloc | apply Kd.R_drewN | apply Kd.R_drew)); exact HO_6.out) hb); have n1_ := Aside0.mk (Kd.R_below (by (with_reducible repeat (first | apply Kd.R_alloc | apply Kd.R_drewN | apply Kd.R_drew)); exact HO_8.out) hb); have n2_ := Aside0.mk (Kd.R_below (by (with_reducible repeat (first | apply Kd.R_alloc | apply Kd.R_drewN | apply Kd.R_drew)); exact HO_9.out) hb); have n3_ := Aside0.mk (Kd.R_below (by (with_reducible repeat (first | apply Kd.R_alloc | apply Kd.R_drewN | apply Kd.R_drew)); exact HO_10.out) hb); have n4_ := Aside0.mk (Kd.R_below (by (with_reducible repeat (first | apply Kd.R_alloc | apply Kd.R_drewN | apply Kd.R_drew)); exact HO454.out) hb); have n5_ := Aside0.mk (Kd.R_below (by (with_reducible repeat (first | apply Kd.R_alloc | apply Kd.R_drewN | apply Kd.R_drew)); exact HO458.out) hb); have n6_ := Aside0.mk (below_step (by repeat (first | (with_reducible first | exact HB.out | apply below_alloc | apply pw_below_drewN | apply below_drew1) | exact HB.out)) hb); clear HO_6; clear HO_8; clear HO_9; clear HO_10; clear HO454; clear HO458; clear HB; have HO_6 := n0_; have HO_8 := n1_; have HO_9 := n2_; have HO_10 := n3_; have HO454 := n4_; have HO458 := n5_; have HB := n6_; clear n0_ n1_ n2_ n3_ n4_ n5_ n6_; (try clear hb); (try clear hb2); (try clear hk); (try clear hi)))
                      go_meet
                      case rel => exact ⟨_, (true), (by first | rfl | (simp; done) | (simp [*]; done)), H', ⟨by have := HJ15.out; first | omega | exact Nat.le_refl _⟩, ⟨by (with_reducible repeat (first | apply Kd.R_alloc | apply Kd.R_drewN | apply Kd.R_drew)); exact Kd.R_mono HO_6.out (fun _ hk => hk.2.2.1)⟩, ⟨by (with_reducible repeat (first | apply Kd.R_alloc | apply Kd.R_drewN | apply Kd.R_drew)); exact Kd.R_mono HO_10.out (fun _ hk => hk.1)⟩, ⟨by repeat (first | (with_reducible first | exact HB.out | apply below_alloc | apply pw_below_drewN | apply below_drew1) | exact HB.out)⟩⟩
                case rest =>
                  clear HC46
                  try clear c1
                  try clear c2
                  try clear p2
                  try clear c3
                  try clear c4
                  try clear c4b0
                  try clear c5
                  try clear c7
                  try clear c7b0
                  try clear c12
                  try clear c17
                  try clear c19
                  try clear c21
                  try clear c30
                  try clear c37
                  try clear c38
                  try clear c39
                  try clear c40
                  try clear c43
                  try clear c55
                  try clear c55b0
                  try clear c57
                  try clear p2
                  obtain ⟨kq, x82_45, rfl, HA, HJ45, HO_6, HO_10, HB⟩ := hcut
                  cases kq with
                  | zero => exact absurd HA.out (by simp [laws_FnExactCatLayouts.j1])
                  | succ kj45 =>
                    have H := HA.out
                    clear HA
                    simp only [laws_FnExactCatLayouts.j1] at H
                    by_cases c64 : x82_45 = true
                    · subst c64
                      have H1 : (none) = some r := by rw [if_pos rfl] at H; exact H
                      clear H
                      have H := H1
                      clear H1
                      exact absurd H (by simp)
                    · replace c64 := Bool.eq_false_iff.mpr c64
                      subst c64
                      have H1 : ((laws_markRowS.f kj45 t447 1).bind fun bt465 => ((laws_heldRowS.f kj45 bt465.2 1).bind fun t467 => (if t467 < 0 then (none) else (if t467 = bt465.1 then ((laws_toRowS.f kj45 l0).bind fun t468 => ((laws_toRowS.f kj45 l1).bind fun t471 => ((impl_CatLayouts.f kj45 t468 t471).bind fun bt474 => ((laws_eqRowS.f kj45 bt474.1 t437).bind fun t478 => (if t478 = true then (laws_FnExactCatLayouts.j2 kj45 bt465.2 bt465.1 (bt474.2 != t438)) else (laws_FnExactCatLayouts.j2 kj45 bt465.2 bt465.1 true)))))) else (none))))) = some r := by rw [if_neg (show ¬ (false = true) by decide)] at H; exact H
                      clear H
                      have H := H1
                      clear H1
                      replace H := Option.bind_eq_some_iff.mp H
                      obtain ⟨⟨t465, t466⟩, A650, H⟩ := H
                      replace H : ((laws_heldRowS.f kj45 t466 1).bind fun t467 => (if t467 < 0 then (none) else (if t467 = t465 then ((laws_toRowS.f kj45 l0).bind fun t468 => ((laws_toRowS.f kj45 l1).bind fun t471 => ((impl_CatLayouts.f kj45 t468 t471).bind fun bt474 => ((laws_eqRowS.f kj45 bt474.1 t437).bind fun t478 => (if t478 = true then (laws_FnExactCatLayouts.j2 kj45 t466 t465 (bt474.2 != t438)) else (laws_FnExactCatLayouts.j2 kj45 t466 t465 true)))))) else (none)))) = some r := H
                      have A65 := Aside0.mk A650
                      clear A650
                      replace H := Option.bind_eq_some_iff.mp H
                      obtain ⟨t467, A660, H⟩ := H
                      replace H : (if t467 < 0 then (none) else (if t467 = t465 then ((laws_toRowS.f kj45 l0).bind fun t468 => ((laws_toRowS.f kj45 l1).bind fun t471 => ((impl_CatLayouts.f kj45 t468 t471).bind fun bt474 => ((laws_eqRowS.f kj45 bt474.1 t437).bind fun t478 => (if t478 = true then (laws_FnExactCatLayouts.j2 kj45 t466 t465 (bt474.2 != t438)) else (laws_FnExactCatLayouts.j2 kj45 t466 t465 true)))))) else (none))) = some r := H
                      have A66 := Aside0.mk A660
                      clear A660
                      by_cases c67 : t467 < 0
                      · rw [if_pos c67] at H
                        exact absurd H (by simp)
                      · rw [if_neg c67] at H
                        have c67b0 : decide (t467 < 0) = false := decide_eq_false c67
                        clear c67
                        by_cases c68 : t467 = t465
                        · rw [if_pos c68] at H
                          have c68b0 : (t467 == t465) = true := beq_iff_eq.mpr c68
                          have c68b1 : (t467 != t465) = false := bne_eq_false_iff_eq.mpr c68
                          clear c68
                          replace H := Option.bind_eq_some_iff.mp H
                          obtain ⟨t468, A690, H⟩ := H
                          replace H : ((laws_toRowS.f kj45 l1).bind fun t471 => ((impl_CatLayouts.f kj45 t468 t471).bind fun bt474 => ((laws_eqRowS.f kj45 bt474.1 t437).bind fun t478 => (if t478 = true then (laws_FnExactCatLayouts.j2 kj45 t466 t465 (bt474.2 != t438)) else (laws_FnExactCatLayouts.j2 kj45 t466 t465 true))))) = some r := H
                          have A69 := Aside0.mk A690
                          clear A690
                          replace H := Option.bind_eq_some_iff.mp H
                          obtain ⟨t471, A700, H⟩ := H
                          replace H : ((impl_CatLayouts.f kj45 t468 t471).bind fun bt474 => ((laws_eqRowS.f kj45 bt474.1 t437).bind fun t478 => (if t478 = true then (laws_FnExactCatLayouts.j2 kj45 t466 t465 (bt474.2 != t438)) else (laws_FnExactCatLayouts.j2 kj45 t466 t465 true)))) = some r := H
                          have A70 := Aside0.mk A700
                          clear A700
                          replace H := Option.bind_eq_some_iff.mp H
                          obtain ⟨⟨t474, t475⟩, A710, H⟩ := H
                          replace H : ((laws_eqRowS.f kj45 t474 t437).bind fun t478 => (if t478 = true then (laws_FnExactCatLayouts.j2 kj45 t466 t465 (t475 != t438)) else (laws_FnExactCatLayouts.j2 kj45 t466 t465 true))) = some r := H
                          have A71 := Aside0.mk A710
                          clear A710
                          have HC72 := Aside0.mk H
                          clear H
                          obtain ⟨Ao73, co73, eo73⟩ := Kd.R_slice HO_10.out
                          subst eo73
                          go_upto_region 32 with (first | ((with_reducible refine gate_callee (f := 39) rfl ?_); refine goesL_ (some 85) rfl rfl Try.func39 (by kernel_rfl) rfl #[.slice Ao73 t447.length co73, .int .i64 1] rfl (by (try simp only [List.map_toArray, List.map_cons, List.map_nil]); first | done | rfl | (simp only [List.length_drop, List.length_take]; rfl)) ?_; (with_reducible refine (laws_markRowS.calls kj45 (fun k_ => some k_ = (.slice Ao73 t447.length co73 : Value).ownBlock) (.slice Ao73 t447.length co73) t447 1 t465 t466 w _ ?side1 ?side2 A65.out).mono ?_); (case side1 => repeat (first | (with_reducible first | exact HB.out | apply below_alloc | apply pw_below_drewN | apply below_drew1) | exact HB.out)); (case side2 => exact Kd.R_tight rfl HO_10.out); rintro e w74 ⟨rfl, hy0, hb, hkp⟩; refine ⟨_, rfl, ?_⟩; have n0_ := Aside0.mk (Kd.R_mono (ok' := fun k_ => some k_ ≠ (.slice Ao73 t447.length co73 : Value).ownBlock) (Kd.R_keptB (HO_6.out) hkp (fun k_ hk_ hs_ => (hk_) hs_)) (fun k_ hk_ => hk_.1)); have n1_ := Aside0.mk (Kd.R_reok rfl hy0 (fun k_ e_ => HO_10.out.1 k_ e_)); have n2_ := Aside0.mk (hb); clear HO_6; clear HO_10; clear HB; have HO_6 := n0_; have HO_10 := n1_; have HB := n2_; clear n0_ n1_ n2_; (try clear hb); (try clear hkp); (try clear hy0)) | ((with_reducible refine gate_callee (f := 40) rfl ?_); refine goesL_ (some 88) rfl rfl Try.func40 (by kernel_rfl) rfl #[.slice Ao73 t466.length co73, .int .i64 1] rfl (by (try simp only [List.map_toArray, List.map_cons, List.map_nil]); first | done | (rw [show t466.length = t447.length from (Kd.R_reads' HO_10.out).1.symm] <;> rfl) | rfl | (simp only [List.length_drop, List.length_take]; rfl)) ?_; (with_reducible refine (laws_heldRowS.calls kj45 _ _ t466 1 t467 _ ?side1 ?side2 A66.out).mono ?_); (case side1 => repeat (first | exact (Kd.R_reads' HO_10.out).2.2 | (with_reducible refine Kd.C_alloc ?_ _) | (with_reducible refine Kd.C_drewN ?_ _) | (with_reducible refine Kd.C_drew ?_))); (case side2 => rw [show t466.length = t447.length from (Kd.R_reads' HO_10.out).1.symm]; exact (Kd.R_reads' HO_10.out).2.1); rintro e w75 ⟨rfl, hb⟩; refine ⟨_, rfl, ?_⟩; have n0_ := Aside0.mk (Kd.R_below (by (with_reducible repeat (first | apply Kd.R_alloc | apply Kd.R_drewN | apply Kd.R_drew)); exact HO_6.out) hb); have n1_ := Aside0.mk (Kd.R_below (by (with_reducible repeat (first | apply Kd.R_alloc | apply Kd.R_drewN | apply Kd.R_drew)); exact HO_10.out) hb); have n2_ := Aside0.mk (below_step (by repeat (first | (with_reducible first | exact HB.out | apply below_alloc | apply pw_below_drewN | apply below_drew1) | exact HB.out)) hb); clear HO_6; clear HO_10; clear HB; have HO_6 := n0_; have HO_10 := n1_; have HB := n2_; clear n0_ n1_ n2_; (try clear hb); (try clear hb2); (try clear hk); (try clear hi)) | ((with_reducible refine gate_callee (f := 19) rfl ?_); refine goesL_ (some 96) rfl rfl Try.func19 (by kernel_rfl) rfl #[.slice A0 l0.length c0] rfl (by (try simp only [List.map_toArray, List.map_cons, List.map_nil]); first | done | rfl | (simp only [List.length_drop, List.length_take]; rfl)) ?_; (with_reducible refine (laws_toRowS.calls kj45 _ _ l0 t468 _ ?side1 ?side2 A69.out).mono ?_); (case side1 => repeat (first | exact (Kd.C_below HR0.out HB.out) | (with_reducible refine Kd.C_alloc ?_ _) | (with_reducible refine Kd.C_drewN ?_ _) | (with_reducible refine Kd.C_drew ?_))); (case side2 => exact HC0.out); rintro e w76 ⟨v469, rfl, ho0, hb⟩; refine ⟨_, rfl, ?_⟩; have n0_ := Aside0.mk (Kd.R_elder' (by (with_reducible repeat (first | apply Kd.R_alloc | apply Kd.R_drewN | apply Kd.R_drew)); exact HO_6.out) (Kd.R_base ho0) hb); have n1_ := Aside0.mk (Kd.R_elder' (by (with_reducible repeat (first | apply Kd.R_alloc | apply Kd.R_drewN | apply Kd.R_drew)); exact HO_10.out) (Kd.R_base ho0) hb); have n2_ := Aside0.mk (Kd.R_lower (Kd.R_new' (Kd.R_new' ho0 (Kd.R_lt (by (with_reducible repeat (first | apply Kd.R_alloc | apply Kd.R_drewN | apply Kd.R_drew)); exact HO_6.out))) (Kd.R_lt (by (with_reducible repeat (first | apply Kd.R_alloc | apply Kd.R_drewN | apply Kd.R_drew)); exact HO_10.out))) (below_size (by repeat (first | (with_reducible first | exact HB.out | apply below_alloc | apply pw_below_drewN | apply below_drew1) | exact HB.out)))); have n3_ := Aside0.mk (below_step (by repeat (first | (with_reducible first | exact HB.out | apply below_alloc | apply pw_below_drewN | apply below_drew1) | exact HB.out)) hb); clear HO_6; clear HO_10; clear HB; have HO_6 := n0_; have HO_10 := n1_; have HO470 := n2_; have HB := n3_; clear n0_ n1_ n2_ n3_; (try clear hb); (try clear hb2); (try clear hk); (try clear hi); (try clear ho0)) | ((with_reducible refine gate_callee (f := 19) rfl ?_); refine goesL_ (some 98) rfl rfl Try.func19 (by kernel_rfl) rfl #[.slice A1 l1.length c1] rfl (by (try simp only [List.map_toArray, List.map_cons, List.map_nil]); first | done | rfl | (simp only [List.length_drop, List.length_take]; rfl)) ?_; (with_reducible refine (laws_toRowS.calls kj45 _ _ l1 t471 _ ?side1 ?side2 A70.out).mono ?_); (case side1 => repeat (first | exact (Kd.C_below HR1.out HB.out) | (with_reducible refine Kd.C_alloc ?_ _) | (with_reducible refine Kd.C_drewN ?_ _) | (with_reducible refine Kd.C_drew ?_))); (case side2 => exact HC1.out); rintro e w77 ⟨v472, rfl, ho0, hb⟩; refine ⟨_, rfl, ?_⟩; have n0_ := Aside0.mk (Kd.R_elder' (by (with_reducible repeat (first | apply Kd.R_alloc | apply Kd.R_drewN | apply Kd.R_drew)); exact HO_6.out) (Kd.R_base ho0) hb); have n1_ := Aside0.mk (Kd.R_elder' (by (with_reducible repeat (first | apply Kd.R_alloc | apply Kd.R_drewN | apply Kd.R_drew)); exact HO_10.out) (Kd.R_base ho0) hb); have n2_ := Aside0.mk (Kd.R_elder' (by (with_reducible repeat (first | apply Kd.R_alloc | apply Kd.R_drewN | apply Kd.R_drew)); exact HO470.out) (Kd.R_base ho0) hb); have n3_ := Aside0.mk (Kd.R_lower (Kd.R_new' (Kd.R_new' (Kd.R_new' ho0 (Kd.R_lt (by (with_reducible repeat (first | apply Kd.R_alloc | apply Kd.R_drewN | apply Kd.R_drew)); exact HO_6.out))) (Kd.R_lt (by (with_reducible repeat (first | apply Kd.R_alloc | apply Kd.R_drewN | apply Kd.R_drew)); exact HO_10.out))) (Kd.R_lt (by (with_reducible repeat (first | apply Kd.R_alloc | apply Kd.R_drewN | apply Kd.R_drew)); exact HO470.out))) (below_size (by repeat (first | (with_reducible first | exact HB.out | apply below_alloc | apply pw_below_drewN | apply below_drew1) | exact HB.out)))); have n4_ := Aside0.mk (below_step (by repeat (first | (with_reducible first | exact HB.out | apply below_alloc | apply pw_below_drewN | apply below_drew1) | exact HB.out)) hb); clear HO_6; clear HO_10; clear HO470; clear HB; have HO_6 := n0_; have HO_10 := n1_; have HO470 := n2_; have HO473 := n3_; have HB := n4_; clear n0_ n1_ n2_ n3_ n4_; (try clear hb); (try clear hb2); (try clear hk); (try clear hi); (try clear ho0); obtain ⟨Ao78, co78, eo78⟩ := Kd.R_slice HO470.out; subst eo78; obtain ⟨Ao79, co79, eo79⟩ := Kd.R_slice HO473.out; subst eo79) | ((with_reducible refine gate_callee (f := 38) rfl ?_); refine goesL_ (some 99) rfl rfl Try.func38 (by kernel_rfl) rfl #[.slice Ao78 t468.length co78, .slice Ao79 t471.length co79] rfl (by (try simp only [List.map_toArray, List.map_cons, List.map_nil]); first | done | rfl | (simp only [List.length_drop, List.length_take]; rfl)) ?_; (with_reducible refine (impl_CatLayouts.calls kj45 _ _ t468 _ _ t471 t474 t475 _ ?side1 ?side2 ?side3 ?side4 A71.out).mono ?_); (case side1 => repeat (first | exact (Kd.R_reads' HO470.out).2.2 | (with_reducible refine Kd.C_alloc ?_ _) | (with_reducible refine Kd.C_drewN ?_ _) | (with_reducible refine Kd.C_drew ?_))); (case side2 => exact (Kd.R_reads' HO470.out).2.1); (case side3 => repeat (first | exact (Kd.R_reads' HO473.out).2.2 | (with_reducible refine Kd.C_alloc ?_ _) | (with_reducible refine Kd.C_drewN ?_ _) | (with_reducible refine Kd.C_drew ?_))); (case side4 => exact (Kd.R_reads' HO473.out).2.1); rintro e w80 ⟨v476, rfl, ho0, hb⟩; refine ⟨_, rfl, ?_⟩; have n0_ := Aside0.mk (Kd.R_elder' (by (with_reducible repeat (first | apply Kd.R_alloc | apply Kd.R_drewN | apply Kd.R_drew)); exact HO_6.out) (Kd.R_base ho0) hb); have n1_ := Aside0.mk (Kd.R_elder' (by (with_reducible repeat (first | apply Kd.R_alloc | apply Kd.R_drewN | apply Kd.R_drew)); exact HO_10.out) (Kd.R_base ho0) hb); have n2_ := Aside0.mk (Kd.R_elder' (by (with_reducible repeat (first | apply Kd.R_alloc | apply Kd.R_drewN | apply Kd.R_drew)); exact HO470.out) (Kd.R_base ho0) hb); have n3_ := Aside0.mk (Kd.R_elder' (by (with_reducible repeat (first | apply Kd.R_alloc | apply Kd.R_drewN | apply Kd.R_drew)); exact HO473.out) (Kd.R_base ho0) hb); have n4_ := Aside0.mk (Kd.R_lower (Kd.R_new' (Kd.R_new' (Kd.R_new' (Kd.R_new' ho0 (Kd.R_lt (by (with_reducible repeat (first | apply Kd.R_alloc | apply Kd.R_drewN | apply Kd.R_drew)); exact HO_6.out))) (Kd.R_lt (by (with_reducible repeat (first | apply Kd.R_alloc | apply Kd.R_drewN | apply Kd.R_drew)); exact HO_10.out))) (Kd.R_lt (by (with_reducible repeat (first | apply Kd.R_alloc | apply Kd.R_drewN | apply Kd.R_drew)); exact HO470.out))) (Kd.R_lt (by (with_reducible repeat (first | apply Kd.R_alloc | apply Kd.R_drewN | apply Kd.R_drew)); exact HO473.out))) (below_size (by repeat (first | (with_reducible first | exact HB.out | apply below_alloc | apply pw_below_drewN | apply below_drew1) | exact HB.out)))); have n5_ := Aside0.mk (below_step (by repeat (first | (with_reducible first | exact HB.out | apply below_alloc | apply pw_below_drewN | apply below_drew1) | exact HB.out)) hb); clear HO_6; clear HO_10; clear HO470; clear HO473; clear HB; have HO_6 := n0_; have HO_10 := n1_; have HO470 := n2_; have HO473 := n3_; have HO477 := n4_; have HB := n5_; clear n0_ n1_ n2_ n3_ n4_ n5_; (try clear hb); (try clear hb2); (try clear hk); (try clear hi); (try clear ho0)))
                          (try simp only [Act.put, List.setIfInBounds_toArray, List.set_cons_zero, List.set_cons_succ])
                          go_cut [110] (fun v110 wc => ∃ (kq : Nat) (x110_71 : Bool), v110 = .bool x110_71 ∧ Aside0 (laws_FnExactCatLayouts.j2 kq t466 t465 x110_71 = some r) ∧ Aside0 (kq ≤ kj45) ∧ Aside0 (Kd.R k58 58 wc w.heap.size (fun _ => True) (.slice Ao73 t447.length co73) t466) ∧ Aside0 (Below w.heap.size w wc))
                          case first =>
                            have H := HC72.out
                            clear HC72
                            replace H := Option.bind_eq_some_iff.mp H
                            obtain ⟨t478, A810, H⟩ := H
                            replace H : (if t478 = true then (laws_FnExactCatLayouts.j2 kj45 t466 t465 (t475 != t438)) else (laws_FnExactCatLayouts.j2 kj45 t466 t465 true)) = some r := H
                            have A81 := Aside0.mk A810
                            clear A810
                            by_cases c82 : t478 = true
                            · subst c82
                              have H1 : (laws_FnExactCatLayouts.j2 kj45 t466 t465 (t475 != t438)) = some r := by rw [if_pos rfl] at H; exact H
                              clear H
                              have H := H1
                              clear H1
                              have H' := Aside0.mk H
                              clear H
                              obtain ⟨Ao83, co83, eo83⟩ := Kd.R_slice HO477.out
                              subst eo83
                              obtain ⟨Ao84, co84, eo84⟩ := Kd.R_slice HO_6.out
                              subst eo84
                              go_wp2_with (first | ((with_reducible refine gate_callee (f := 21) rfl ?_); refine goesL_ (some 104) rfl rfl Try.func21 (by kernel_rfl) rfl #[.slice Ao83 t474.length co83, .slice Ao84 t437.length co84] rfl (by (try simp only [List.map_toArray, List.map_cons, List.map_nil]); first | done | rfl | (simp only [List.length_drop, List.length_take]; rfl)) ?_; (with_reducible refine (laws_eqRowS.calls kj45 _ _ t474 _ _ t437 true _ ?side1 ?side2 ?side3 ?side4 A81.out).mono ?_); (case side1 => repeat (first | exact (Kd.R_reads' HO477.out).2.2 | (with_reducible refine Kd.C_alloc ?_ _) | (with_reducible refine Kd.C_drewN ?_ _) | (with_reducible refine Kd.C_drew ?_))); (case side2 => exact (Kd.R_reads' HO477.out).2.1); (case side3 => repeat (first | exact (Kd.R_reads' HO_6.out).2.2 | (with_reducible refine Kd.C_alloc ?_ _) | (with_reducible refine Kd.C_drewN ?_ _) | (with_reducible refine Kd.C_drew ?_))); (case side4 => exact (Kd.R_reads' HO_6.out).2.1); rintro e w85 ⟨rfl, hb⟩; refine ⟨_, rfl, ?_⟩; have n0_ := Aside0.mk (Kd.R_below (by (with_reducible repeat (first | apply Kd.R_alloc | apply Kd.R_drewN | apply Kd.R_drew)); exact HO_6.out) hb); have n1_ := Aside0.mk (Kd.R_below (by (with_reducible repeat (first | apply Kd.R_alloc | apply Kd.R_drewN | apply Kd.R_drew)); exact HO_10.out) hb); have n2_ := Aside0.mk (Kd.R_below (by (with_reducible repeat (first | apply Kd.R_alloc | apply Kd.R_drewN | apply Kd.R_drew)); exact HO470.out) hb); have n3_ := Aside0.mk (Kd.R_below (by (with_reducible repeat (first | apply Kd.R_alloc | apply Kd.R_drewN | apply Kd.R_drew)); exact HO473.out) hb); have n4_ := Aside0.mk (Kd.R_below (by (with_reducible repeat (first | apply Kd.R_alloc | apply Kd.R_drewN | apply Kd.R_drew)); exact HO477.out) hb); have n5_ := Aside0.mk (below_step (by repeat (first | (with_reducible first | exact HB.out | apply below_alloc | apply pw_below_drewN | apply below_drew1) | exact HB.out)) hb); clear HO_6; clear HO_10; clear HO470; clear HO473; clear HO477; clear HB; have HO_6 := n0_; have HO_10 := n1_; have HO470 := n2_; have HO473 := n3_; have HO477 := n4_; have HB := n5_; clear n0_ n1_ n2_ n3_ n4_ n5_; (try clear hb); (try clear hb2); (try clear hk); (try clear hi)))
                              go_meet
                              case rel => exact ⟨_, ((t475 != t438)), (by first | rfl | (simp; done) | (simp [*]; done)), H', ⟨by have := HJ15.out; have := HJ45.out; first | omega | exact Nat.le_refl _⟩, ⟨by (with_reducible repeat (first | apply Kd.R_alloc | apply Kd.R_drewN | apply Kd.R_drew)); exact Kd.R_mono HO_10.out (fun _ hk => trivial)⟩, ⟨by repeat (first | (with_reducible first | exact HB.out | apply below_alloc | apply pw_below_drewN | apply below_drew1) | exact HB.out)⟩⟩
                            · replace c82 := Bool.eq_false_iff.mpr c82
                              subst c82
                              have H1 : (laws_FnExactCatLayouts.j2 kj45 t466 t465 true) = some r := by rw [if_neg (show ¬ (false = true) by decide)] at H; exact H
                              clear H
                              have H := H1
                              clear H1
                              have H' := Aside0.mk H
                              clear H
                              obtain ⟨Ao86, co86, eo86⟩ := Kd.R_slice HO477.out
                              subst eo86
                              obtain ⟨Ao87, co87, eo87⟩ := Kd.R_slice HO_6.out
                              subst eo87
                              go_wp2_with (first | ((with_reducible refine gate_callee (f := 21) rfl ?_); refine goesL_ (some 104) rfl rfl Try.func21 (by kernel_rfl) rfl #[.slice Ao86 t474.length co86, .slice Ao87 t437.length co87] rfl (by (try simp only [List.map_toArray, List.map_cons, List.map_nil]); first | done | rfl | (simp only [List.length_drop, List.length_take]; rfl)) ?_; (with_reducible refine (laws_eqRowS.calls kj45 _ _ t474 _ _ t437 false _ ?side1 ?side2 ?side3 ?side4 A81.out).mono ?_); (case side1 => repeat (first | exact (Kd.R_reads' HO477.out).2.2 | (with_reducible refine Kd.C_alloc ?_ _) | (with_reducible refine Kd.C_drewN ?_ _) | (with_reducible refine Kd.C_drew ?_))); (case side2 => exact (Kd.R_reads' HO477.out).2.1); (case side3 => repeat (first | exact (Kd.R_reads' HO_6.out).2.2 | (with_reducible refine Kd.C_alloc ?_ _) | (with_reducible refine Kd.C_drewN ?_ _) | (with_reducible refine Kd.C_drew ?_))); (case side4 => exact (Kd.R_reads' HO_6.out).2.1); rintro e w88 ⟨rfl, hb⟩; refine ⟨_, rfl, ?_⟩; have n0_ := Aside0.mk (Kd.R_below (by (with_reducible repeat (first | apply Kd.R_alloc | apply Kd.R_drewN | apply Kd.R_drew)); exact HO_6.out) hb); have n1_ := Aside0.mk (Kd.R_below (by (with_reducible repeat (first | apply Kd.R_alloc | apply Kd.R_drewN | apply Kd.R_drew)); exact HO_10.out) hb); have n2_ := Aside0.mk (Kd.R_below (by (with_reducible repeat (first | apply Kd.R_alloc | apply Kd.R_drewN | apply Kd.R_drew)); exact HO470.out) hb); have n3_ := Aside0.mk (Kd.R_below (by (with_reducible repeat (first | apply Kd.R_alloc | apply Kd.R_drewN | apply Kd.R_drew)); exact HO473.out) hb); have n4_ := Aside0.mk (Kd.R_below (by (with_reducible repeat (first | apply Kd.R_alloc | apply Kd.R_drewN | apply Kd.R_drew)); exact HO477.out) hb); have n5_ := Aside0.mk (below_step (by repeat (first | (with_reducible first | exact HB.out | apply below_alloc | apply pw_below_drewN | apply below_drew1) | exact HB.out)) hb); clear HO_6; clear HO_10; clear HO470; clear HO473; clear HO477; clear HB; have HO_6 := n0_; have HO_10 := n1_; have HO470 := n2_; have HO473 := n3_; have HO477 := n4_; have HB := n5_; clear n0_ n1_ n2_ n3_ n4_ n5_; (try clear hb); (try clear hb2); (try clear hk); (try clear hi)))
                              go_meet
                              case rel => exact ⟨_, (true), (by first | rfl | (simp; done) | (simp [*]; done)), H', ⟨by have := HJ15.out; have := HJ45.out; first | omega | exact Nat.le_refl _⟩, ⟨by (with_reducible repeat (first | apply Kd.R_alloc | apply Kd.R_drewN | apply Kd.R_drew)); exact Kd.R_mono HO_10.out (fun _ hk => trivial)⟩, ⟨by repeat (first | (with_reducible first | exact HB.out | apply below_alloc | apply pw_below_drewN | apply below_drew1) | exact HB.out)⟩⟩
                          case rest =>
                            clear HC72
                            try clear c1
                            try clear c2
                            try clear p2
                            try clear c3
                            try clear c4
                            try clear c4b0
                            try clear c5
                            try clear c6
                            try clear c7
                            try clear c7b0
                            try clear c8
                            try clear c12
                            try clear c17
                            try clear c19
                            try clear c21
                            try clear c30
                            try clear c37
                            try clear c38
                            try clear c39
                            try clear c40
                            try clear c43
                            try clear c55
                            try clear c55b0
                            try clear c57
                            try clear c64
                            try clear c67
                            try clear c67b0
                            try clear c68
                            try clear c68b0
                            try clear c68b1
                            try clear c82
                            try clear p2
                            obtain ⟨kq, x110_71, rfl, HA, HJ71, HO_10, HB⟩ := hcut
                            have hl10_71 := (Kd.R_reads' HO_10.out).1
                            rw [hl10_71] at HO_10
                            (try simp only [hl10_71])
                            cases kq with
                            | zero => exact absurd HA.out (by simp [laws_FnExactCatLayouts.j2])
                            | succ kj71 =>
                              have H := HA.out
                              clear HA
                              simp only [laws_FnExactCatLayouts.j2] at H
                              by_cases c89 : x110_71 = true
                              · subst c89
                                have H1 : (none) = some r := by rw [if_pos rfl] at H; exact H
                                clear H
                                have H := H1
                                clear H1
                                exact absurd H (by simp)
                              · replace c89 := Bool.eq_false_iff.mpr c89
                                subst c89
                                have H1 : ((laws_heldRowS.f kj71 t466 1).bind fun t479 => (if t479 < 0 then (none) else (if t479 = t465 then (some true) else (none)))) = some r := by rw [if_neg (show ¬ (false = true) by decide)] at H; exact H
                                clear H
                                have H := H1
                                clear H1
                                replace H := Option.bind_eq_some_iff.mp H
                                obtain ⟨t479, A900, H⟩ := H
                                replace H : (if t479 < 0 then (none) else (if t479 = t465 then (some true) else (none))) = some r := H
                                have A90 := Aside0.mk A900
                                clear A900
                                by_cases c91 : t479 < 0
                                · rw [if_pos c91] at H
                                  exact absurd H (by simp)
                                · rw [if_neg c91] at H
                                  have c91b0 : decide (t479 < 0) = false := decide_eq_false c91
                                  clear c91
                                  by_cases c92 : t479 = t465
                                  · rw [if_pos c92] at H
                                    have c92b0 : (t479 == t465) = true := beq_iff_eq.mpr c92
                                    have c92b1 : (t479 != t465) = false := bne_eq_false_iff_eq.mpr c92
                                    clear c92
                                    obtain rfl := Option.some.inj H
                                    go_wp2_with (first | ((with_reducible refine gate_callee (f := 40) rfl ?_); refine goesL_ (some 113) rfl rfl Try.func40 (by kernel_rfl) rfl #[.slice Ao73 t466.length co73, .int .i64 1] rfl (by (try simp only [List.map_toArray, List.map_cons, List.map_nil]); first | done | rfl | (simp only [List.length_drop, List.length_take]; rfl)) ?_; (with_reducible refine (laws_heldRowS.calls kj71 _ _ t466 1 t479 _ ?side1 ?side2 A90.out).mono ?_); (case side1 => repeat (first | exact (Kd.R_reads' HO_10.out).2.2 | (with_reducible refine Kd.C_alloc ?_ _) | (with_reducible refine Kd.C_drewN ?_ _) | (with_reducible refine Kd.C_drew ?_))); (case side2 => exact (Kd.R_reads' HO_10.out).2.1); rintro e w93 ⟨rfl, hb⟩; refine ⟨_, rfl, ?_⟩; have n0_ := Aside0.mk (Kd.R_below (by (with_reducible repeat (first | apply Kd.R_alloc | apply Kd.R_drewN | apply Kd.R_drew)); exact HO_10.out) hb); have n1_ := Aside0.mk (below_step (by repeat (first | (with_reducible first | exact HB.out | apply below_alloc | apply pw_below_drewN | apply below_drew1) | exact HB.out)) hb); clear HO_10; clear HB; have HO_10 := n0_; have HB := n1_; clear n0_ n1_; (try clear hb); (try clear hb2); (try clear hk); (try clear hi)))
                                    go_ret
                                    exact ⟨by first | rfl | (simp [errW_none, errW_some] <;> rfl) | (simp [*, errW_none, errW_some] <;> rfl), by repeat (first | (with_reducible first | exact HB.out | apply below_alloc | apply pw_below_drewN | apply below_drew1) | exact HB.out)⟩
                                  · rw [if_neg c92] at H
                                    exact absurd H (by simp)
                        · rw [if_neg c68] at H
                          exact absurd H (by simp)
              · replace c43 := Bool.eq_false_iff.mpr c43
                subst c43
                have H1 : (none) = some r := by rw [if_neg (show ¬ (false = true) by decide)] at H; exact H
                clear H
                have H := H1
                clear H1
                exact absurd H (by simp)
            · replace c40 := Bool.eq_false_iff.mpr c40
              subst c40
              have H1 : (none) = some r := by rw [if_neg (show ¬ (false = true) by decide)] at H; exact H
              clear H
              have H := H1
              clear H1
              exact absurd H (by simp)

/-- THE ONE PURE STATEMENT of laws_FnExactCatLayouts. -/
def laws_FnExactCatLayouts.Pure : Prop := ∀ (l0 : List (SLRow)) (l1 : List (SLRow)), l0.length ≤ maxLen → (∀ x ∈ l0, FineLRow x) → l1.length ≤ maxLen → (∀ x ∈ l1, FineLRow x) → ∃ k, laws_FnExactCatLayouts.f k l0 l1 = some true

end Go.Proofs.Ytbijachmecgpgaa.P
