/- CONTRACTS: each theorem here says that a Go function of the program, called over the translation under the theorem's own hypotheses, returns what the Lean function beside it computes. Written by the session's program xprint.py. -/
import Derived.Test.YtbijachmecgpgaaPx0
import Derived.Test.YtbijachmecgpgaaPx32
namespace Go.Proofs.Ytbijachmecgpgaa.P
open Go.RowKit Go.Proofs.YtbijachmecgpgaaW.PrintWords Go.Proofs.YtbijachmecgpgaaW.PrintLast Go.Proofs.YtbijachmecgpgaaW.PrintMore
attribute [local go_sem] max2_int min2_int max_two min_two max_three min_three max_four min_four   -- for this text's walks alone
set_option linter.unusedVariables false
set_option linter.unusedSimpArgs false

/-! ### spec_LayoutValid: function 31 -/
mutual
def spec_LayoutValid.l0 : Nat → List (SRow) → Int → Option (Bool)
  | 0, _, _ => none
  | k + 1, x0, x3 => if x3 < (x0.length : Int) then (spec_LayoutValid.j1 k x0 x3 (decide (x3 ≤ 200))) else (spec_LayoutValid.j1 k x0 x3 false)
def spec_LayoutValid.j1 : Nat → List (SRow) → Int → Bool → Option (Bool)
  | 0, _, _, _ => none
  | k + 1, x0, x3, x11 => if x11 = true then (if 0 ≤ x3 then (if x3 < (x0.length : Int) then (if ((rd_TRow x0 x3).f0) < 0 then (spec_LayoutValid.j2 k x0 x3 true) else (if ((rd_TRow x0 x3).f0) > 400 then (spec_LayoutValid.j2 k x0 x3 true) else (if x3 = 0 then (if ((rd_TRow x0 x3).f0) = 0 then ((spec_l2Text.f k ((rd_TRow x0 x3).f1)).bind fun t306 => (spec_LayoutValid.j2 k x0 x3 (!t306))) else (spec_LayoutValid.j2 k x0 x3 true)) else ((spec_l2Text.f k ((rd_TRow x0 x3).f1)).bind fun t308 => (spec_LayoutValid.j2 k x0 x3 (!t308)))))) else (none)) else (none)) else (if (x0.length : Int) > 0 then (some (decide ((x0.length : Int) ≤ 200))) else (some false))
def spec_LayoutValid.j2 : Nat → List (SRow) → Int → Bool → Option (Bool)
  | 0, _, _, _ => none
  | k + 1, x0, x3, x48 => if x48 = true then (some false) else (spec_LayoutValid.l0 k x0 (wrap64 (x3 + 1)))
end
def spec_LayoutValid.f (k : Nat) (l0 : List (SRow)) : Option (Bool) := spec_LayoutValid.l0 k l0 0
theorem spec_LayoutValid.mono_l : ∀ k, (∀ y0 y1, LeO (spec_LayoutValid.l0 k y0 y1) (spec_LayoutValid.l0 (k + 1) y0 y1)) ∧ (∀ y0 y1 y2, LeO (spec_LayoutValid.j1 k y0 y1 y2) (spec_LayoutValid.j1 (k + 1) y0 y1 y2)) ∧ (∀ y0 y1 y2, LeO (spec_LayoutValid.j2 k y0 y1 y2) (spec_LayoutValid.j2 (k + 1) y0 y1 y2))
  | 0 => ⟨fun _ _ r h => by simp [spec_LayoutValid.l0] at h, fun _ _ _ r h => by simp [spec_LayoutValid.j1] at h, fun _ _ _ r h => by simp [spec_LayoutValid.j2] at h⟩
  | k + 1 => by
    obtain ⟨ih0, ih1, ih2⟩ := spec_LayoutValid.mono_l k
    refine ⟨?_, ?_, ?_⟩
    · intro y0 y1
      unfold spec_LayoutValid.l0
      repeat' first
      | (with_reducible exact ih0 _ _)
      | (with_reducible exact ih1 _ _ _)
      | (with_reducible exact ih2 _ _ _)
      | (with_reducible exact spec_l2Text.mono _ _)
      | (with_reducible exact LeO.refl _)
      | (with_reducible exact LeO.none _)
      | (with_reducible refine LeO.ite ?_ ?_)
      | (with_reducible refine LeO.bind ?_ (fun _ => ?_))
      | exact ih0 _ _
      | exact ih1 _ _ _
      | exact ih2 _ _ _
      | exact spec_l2Text.mono _ _
      | exact LeO.none _
      | refine LeO.ite ?_ ?_
      | refine LeO.bind ?_ (fun _ => ?_)
    · intro y0 y1 y2
      unfold spec_LayoutValid.j1
      repeat' first
      | (with_reducible exact ih0 _ _)
      | (with_reducible exact ih1 _ _ _)
      | (with_reducible exact ih2 _ _ _)
      | (with_reducible exact spec_l2Text.mono _ _)
      | (with_reducible exact LeO.refl _)
      | (with_reducible exact LeO.none _)
      | (with_reducible refine LeO.ite ?_ ?_)
      | (with_reducible refine LeO.bind ?_ (fun _ => ?_))
      | exact ih0 _ _
      | exact ih1 _ _ _
      | exact ih2 _ _ _
      | exact spec_l2Text.mono _ _
      | exact LeO.none _
      | refine LeO.ite ?_ ?_
      | refine LeO.bind ?_ (fun _ => ?_)
    · intro y0 y1 y2
      unfold spec_LayoutValid.j2
      repeat' first
      | (with_reducible exact ih0 _ _)
      | (with_reducible exact ih1 _ _ _)
      | (with_reducible exact ih2 _ _ _)
      | (with_reducible exact spec_l2Text.mono _ _)
      | (with_reducible exact LeO.refl _)
      | (with_reducible exact LeO.none _)
      | (with_reducible refine LeO.ite ?_ ?_)
      | (with_reducible refine LeO.bind ?_ (fun _ => ?_))
      | exact ih0 _ _
      | exact ih1 _ _ _
      | exact ih2 _ _ _
      | exact spec_l2Text.mono _ _
      | exact LeO.none _
      | refine LeO.ite ?_ ?_
      | refine LeO.bind ?_ (fun _ => ?_)
theorem spec_LayoutValid.mono : ∀ a0 k, LeO (spec_LayoutValid.f k a0) (spec_LayoutValid.f (k + 1) a0) := by
  intro a0 k
  obtain ⟨ih0, ih1, ih2⟩ := spec_LayoutValid.mono_l k
  unfold spec_LayoutValid.f
  repeat' first
      | (with_reducible exact ih0 _ _)
      | (with_reducible exact ih1 _ _ _)
      | (with_reducible exact ih2 _ _ _)
      | (with_reducible exact spec_l2Text.mono _ _)
      | (with_reducible exact LeO.refl _)
      | (with_reducible exact LeO.none _)
      | (with_reducible refine LeO.ite ?_ ?_)
      | (with_reducible refine LeO.bind ?_ (fun _ => ?_))
      | exact ih0 _ _
      | exact ih1 _ _ _
      | exact ih2 _ _ _
      | exact spec_l2Text.mono _ _
      | exact LeO.none _
      | refine LeO.ite ?_ ?_
      | refine LeO.bind ?_ (fun _ => ?_)
set_option maxHeartbeats 8000000 in
set_option maxRecDepth 100000 in
theorem spec_LayoutValid.calls (k : Nat) (A0 : Option Addr) (c0 : Nat) (l0 : List (SRow)) (r : Bool) (w : World) (hr0 : Kd.C k58 w A0 l0.length l0) (hc0 : l0.length ≤ c0) (h : spec_LayoutValid.f k l0 = some r) :
    Calls Try.prog 31 #[.slice A0 l0.length c0] w fun e w' => e = .returned (.bool r) ∧ Drawn0 w w' := by
  have HR0 := Aside0.mk hr0
  have HC0 := Aside0.mk hc0
  clear hr0 hc0
  have H : (spec_LayoutValid.l0 k l0 0) = some r := h
  clear h
  have H' := Aside0.mk H
  clear H
  go_enter Try.func31, Try.ntmps31
  go_wp2
  go_loopg [3] k (fun kq v3 w' => ∃ (x3_1 : Int), v3 = .int .i64 x3_1 ∧ Aside0 (spec_LayoutValid.l0 kq l0 x3_1 = some r) ∧ Aside0 (kq ≤ k) ∧ Drawn0 w w')
  case atStart => exact ⟨(0), (by first | rfl | (simp; done) | (simp [*]; done)), H', ⟨Nat.le_refl _⟩, by repeat (first | exact Drawn0.refl _ | apply Drawn0.step)⟩
  case round =>
    clear H'
    obtain ⟨x3_1, rfl, HA, HK1, ⟨m1, rfl⟩⟩ := hrel
    cases gk with
    | zero => exact absurd HA.out (by simp [spec_LayoutValid.l0])
    | succ k1 =>
      have H := HA.out
      clear HA
      simp only [spec_LayoutValid.l0] at H
      have HC2 := Aside0.mk H
      clear H
      go_upto_region 2 with (fail)
      go_cut [11] (fun v11 wc => ∃ (kq : Nat) (x11_1 : Bool), v11 = .bool x11_1 ∧ Aside0 (spec_LayoutValid.j1 kq l0 x3_1 x11_1 = some r) ∧ Aside0 (kq ≤ k1) ∧ Drawn0 w wc)
      case first =>
        have H := HC2.out
        clear HC2
        by_cases c3 : x3_1 < (l0.length : Int)
        · rw [if_pos c3] at H
          have c3b0 : decide (x3_1 < (l0.length : Int)) = true := decide_eq_true c3
          clear c3
          (first | rw [c3b0] | (simp only [i64_w, i32_w]; rw [c3b0]) | skip)
          have H' := Aside0.mk H
          clear H
          go_wp2
          go_meet
          case rel => exact ⟨_, (decide (x3_1 ≤ 200)), (by first | rfl | (simp; done) | (simp [*]; done)), H', ⟨by have := HK1.out; first | omega | exact Nat.le_refl _⟩, by repeat (first | exact Drawn0.refl _ | apply Drawn0.step)⟩
        · rw [if_neg c3] at H
          have c3b0 : decide (x3_1 < (l0.length : Int)) = false := decide_eq_false c3
          clear c3
          (first | rw [c3b0] | (simp only [i64_w, i32_w]; rw [c3b0]) | skip)
          have H' := Aside0.mk H
          clear H
          go_wp2
          go_meet
          case rel => exact ⟨_, (false), (by first | rfl | (simp; done) | (simp [*]; done)), H', ⟨by have := HK1.out; first | omega | exact Nat.le_refl _⟩, by repeat (first | exact Drawn0.refl _ | apply Drawn0.step)⟩
      case rest =>
        clear HC2
        try clear p2
        try clear c3
        try clear c3b0
        obtain ⟨kq, x11_1, rfl, HA, HJ1, ⟨mc1, rfl⟩⟩ := hcut
        cases kq with
        | zero => exact absurd HA.out (by simp [spec_LayoutValid.j1])
        | succ kj1 =>
          have H := HA.out
          clear HA
          simp only [spec_LayoutValid.j1] at H
          by_cases c4 : x11_1 = true
          · subst c4
            have H1 : (if 0 ≤ x3_1 then (if x3_1 < (l0.length : Int) then (if ((rd_TRow l0 x3_1).f0) < 0 then (spec_LayoutValid.j2 kj1 l0 x3_1 true) else (if ((rd_TRow l0 x3_1).f0) > 400 then (spec_LayoutValid.j2 kj1 l0 x3_1 true) else (if x3_1 = 0 then (if ((rd_TRow l0 x3_1).f0) = 0 then ((spec_l2Text.f kj1 ((rd_TRow l0 x3_1).f1)).bind fun t306 => (spec_LayoutValid.j2 kj1 l0 x3_1 (!t306))) else (spec_LayoutValid.j2 kj1 l0 x3_1 true)) else ((spec_l2Text.f kj1 ((rd_TRow l0 x3_1).f1)).bind fun t308 => (spec_LayoutValid.j2 kj1 l0 x3_1 (!t308)))))) else (none)) else (none)) = some r := by rw [if_pos rfl] at H; exact H
            clear H
            have H := H1
            clear H1
            have HC5 := Aside0.mk H
            clear H
            go_upto_region 4 with (fail)
            go_cut [48] (fun v48 wc => ∃ (kq : Nat) (x48_4 : Bool), v48 = .bool x48_4 ∧ Aside0 (spec_LayoutValid.j2 kq l0 x3_1 x48_4 = some r) ∧ Aside0 (kq ≤ kj1) ∧ Drawn0 w wc)
            case first =>
              have H := HC5.out
              clear HC5
              by_cases c6 : 0 ≤ x3_1
              · rw [if_pos c6] at H
                have c6b0 : decide (0 ≤ x3_1) = true := decide_eq_true c6
                clear c6
                (first | rw [c6b0] | (simp only [i64_w, i32_w]; rw [c6b0]) | skip)
                by_cases c7 : x3_1 < (l0.length : Int)
                · rw [if_pos c7] at H
                  have c7b0 : decide (x3_1 < (l0.length : Int)) = true := decide_eq_true c7
                  clear c7
                  by_cases c8 : ((rd_TRow l0 x3_1).f0) < 0
                  · rw [if_pos c8] at H
                    have c8b0 : decide (((rd_TRow l0 x3_1).f0) < 0) = true := decide_eq_true c8
                    clear c8
                    have H' := Aside0.mk H
                    clear H
                    have p302 : 0 ≤ (x3_1 : Int) := of_decide_eq_true (by first | (with_reducible assumption) | assumption)
                    have q302 : x3_1 < (l0.length : Int) := of_decide_eq_true (by first | (with_reducible assumption) | assumption)
                    obtain ⟨ad302, e302, hx302_0, hx302_1⟩ := at_TRow HR0.out x3_1 p302 q302
                    cases e302
                    replace p302 := eq_true p302
                    replace q302 := eq_true q302
                    go_wp2
                    go_meet
                    case rel => exact ⟨_, (true), (by first | rfl | (simp; done) | (simp [*]; done)), H', ⟨by have := HK1.out; have := HJ1.out; first | omega | exact Nat.le_refl _⟩, by repeat (first | exact Drawn0.refl _ | apply Drawn0.step)⟩
                  · rw [if_neg c8] at H
                    have c8b0 : decide (((rd_TRow l0 x3_1).f0) < 0) = false := decide_eq_false c8
                    clear c8
                    by_cases c9 : ((rd_TRow l0 x3_1).f0) > 400
                    · rw [if_pos c9] at H
                      have c9b0 : decide (400 < ((rd_TRow l0 x3_1).f0)) = true := decide_eq_true c9
                      clear c9
                      have H' := Aside0.mk H
                      clear H
                      have p302 : 0 ≤ (x3_1 : Int) := of_decide_eq_true (by first | (with_reducible assumption) | assumption)
                      have q302 : x3_1 < (l0.length : Int) := of_decide_eq_true (by first | (with_reducible assumption) | assumption)
                      obtain ⟨ad302, e302, hx302_0, hx302_1⟩ := at_TRow HR0.out x3_1 p302 q302
                      cases e302
                      replace p302 := eq_true p302
                      replace q302 := eq_true q302
                      have p303 : 0 ≤ (x3_1 : Int) := of_decide_eq_true (by first | (with_reducible assumption) | assumption)
                      have q303 : x3_1 < (l0.length : Int) := of_decide_eq_true (by first | (with_reducible assumption) | assumption)
                      obtain ⟨ad303, e303, hx303_0, hx303_1⟩ := at_TRow HR0.out x3_1 p303 q303
                      obtain rfl : ad302 = ad303 := (by injection e303)
                      replace p303 := eq_true p303
                      replace q303 := eq_true q303
                      go_wp2
                      go_meet
                      case rel => exact ⟨_, (true), (by first | rfl | (simp; done) | (simp [*]; done)), H', ⟨by have := HK1.out; have := HJ1.out; first | omega | exact Nat.le_refl _⟩, by repeat (first | exact Drawn0.refl _ | apply Drawn0.step)⟩
                    · rw [if_neg c9] at H
                      have c9b0 : decide (400 < ((rd_TRow l0 x3_1).f0)) = false := decide_eq_false c9
                      clear c9
                      by_cases c10 : x3_1 = 0
                      · rw [if_pos c10] at H
                        have c10b0 : (x3_1 == 0) = true := beq_iff_eq.mpr c10
                        have c10b1 : (x3_1 != 0) = false := bne_eq_false_iff_eq.mpr c10
                        clear c10
                        by_cases c11 : ((rd_TRow l0 x3_1).f0) = 0
                        · rw [if_pos c11] at H
                          have c11b0 : (((rd_TRow l0 x3_1).f0) == 0) = true := beq_iff_eq.mpr c11
                          have c11b1 : (((rd_TRow l0 x3_1).f0) != 0) = false := bne_eq_false_iff_eq.mpr c11
                          clear c11
                          replace H := Option.bind_eq_some_iff.mp H
                          obtain ⟨t306, A120, H⟩ := H
                          replace H : (spec_LayoutValid.j2 kj1 l0 x3_1 (!t306)) = some r := H
                          have A12 := Aside0.mk A120
                          clear A120
                          have H' := Aside0.mk H
                          clear H
                          have p302 : 0 ≤ (x3_1 : Int) := of_decide_eq_true (by first | (with_reducible assumption) | assumption)
                          have q302 : x3_1 < (l0.length : Int) := of_decide_eq_true (by first | (with_reducible assumption) | assumption)
                          obtain ⟨ad302, e302, hx302_0, hx302_1⟩ := at_TRow HR0.out x3_1 p302 q302
                          cases e302
                          replace p302 := eq_true p302
                          replace q302 := eq_true q302
                          have p303 : 0 ≤ (x3_1 : Int) := of_decide_eq_true (by first | (with_reducible assumption) | assumption)
                          have q303 : x3_1 < (l0.length : Int) := of_decide_eq_true (by first | (with_reducible assumption) | assumption)
                          obtain ⟨ad303, e303, hx303_0, hx303_1⟩ := at_TRow HR0.out x3_1 p303 q303
                          obtain rfl : ad302 = ad303 := (by injection e303)
                          replace p303 := eq_true p303
                          replace q303 := eq_true q303
                          have p304 : 0 ≤ (x3_1 : Int) := of_decide_eq_true (by first | (with_reducible assumption) | assumption)
                          have q304 : x3_1 < (l0.length : Int) := of_decide_eq_true (by first | (with_reducible assumption) | assumption)
                          obtain ⟨ad304, e304, hx304_0, hx304_1⟩ := at_TRow HR0.out x3_1 p304 q304
                          obtain rfl : ad302 = ad304 := (by injection e304)
                          replace p304 := eq_true p304
                          replace q304 := eq_true q304
                          have p305 : 0 ≤ (x3_1 : Int) := of_decide_eq_true (by first | (with_reducible assumption) | assumption)
                          have q305 : x3_1 < (l0.length : Int) := of_decide_eq_true (by first | (with_reducible assumption) | assumption)
                          obtain ⟨ad305, e305, hx305_0, hx305_1⟩ := at_TRow HR0.out x3_1 p305 q305
                          obtain rfl : ad302 = ad305 := (by injection e305)
                          replace p305 := eq_true p305
                          replace q305 := eq_true q305
                          go_wp2_with (first | (go_at_call 54; (with_reducible refine (spec_l2Text.calls kj1 ((rd_TRow l0 x3_1).f1) t306 _ A12.out).mono ?_); rintro e w' ⟨rfl, ⟨nd, rfl⟩⟩))
                          go_meet
                          case rel => exact ⟨_, (!t306), (by first | rfl | (simp; done) | (simp [*]; done)), H', ⟨by have := HK1.out; have := HJ1.out; first | omega | exact Nat.le_refl _⟩, by repeat (first | exact Drawn0.refl _ | apply Drawn0.step)⟩
                        · rw [if_neg c11] at H
                          have c11b0 : (((rd_TRow l0 x3_1).f0) == 0) = false := beq_eq_false_iff_ne.mpr c11
                          have c11b1 : (((rd_TRow l0 x3_1).f0) != 0) = true := bne_iff_ne.mpr c11
                          have H' := Aside0.mk H
                          clear H
                          have p302 : 0 ≤ (x3_1 : Int) := of_decide_eq_true (by first | (with_reducible assumption) | assumption)
                          have q302 : x3_1 < (l0.length : Int) := of_decide_eq_true (by first | (with_reducible assumption) | assumption)
                          obtain ⟨ad302, e302, hx302_0, hx302_1⟩ := at_TRow HR0.out x3_1 p302 q302
                          cases e302
                          replace p302 := eq_true p302
                          replace q302 := eq_true q302
                          have p303 : 0 ≤ (x3_1 : Int) := of_decide_eq_true (by first | (with_reducible assumption) | assumption)
                          have q303 : x3_1 < (l0.length : Int) := of_decide_eq_true (by first | (with_reducible assumption) | assumption)
                          obtain ⟨ad303, e303, hx303_0, hx303_1⟩ := at_TRow HR0.out x3_1 p303 q303
                          obtain rfl : ad302 = ad303 := (by injection e303)
                          replace p303 := eq_true p303
                          replace q303 := eq_true q303
                          have p304 : 0 ≤ (x3_1 : Int) := of_decide_eq_true (by first | (with_reducible assumption) | assumption)
                          have q304 : x3_1 < (l0.length : Int) := of_decide_eq_true (by first | (with_reducible assumption) | assumption)
                          obtain ⟨ad304, e304, hx304_0, hx304_1⟩ := at_TRow HR0.out x3_1 p304 q304
                          obtain rfl : ad302 = ad304 := (by injection e304)
                          replace p304 := eq_true p304
                          replace q304 := eq_true q304
                          go_wp2
                          go_meet
                          case rel => exact ⟨_, (true), (by first | rfl | (simp; done) | (simp [*]; done)), H', ⟨by have := HK1.out; have := HJ1.out; first | omega | exact Nat.le_refl _⟩, by repeat (first | exact Drawn0.refl _ | apply Drawn0.step)⟩
                      · rw [if_neg c10] at H
                        have c10b0 : (x3_1 == 0) = false := beq_eq_false_iff_ne.mpr c10
                        have c10b1 : (x3_1 != 0) = true := bne_iff_ne.mpr c10
                        replace H := Option.bind_eq_some_iff.mp H
                        obtain ⟨t308, A130, H⟩ := H
                        replace H : (spec_LayoutValid.j2 kj1 l0 x3_1 (!t308)) = some r := H
                        have A13 := Aside0.mk A130
                        clear A130
                        have H' := Aside0.mk H
                        clear H
                        have p302 : 0 ≤ (x3_1 : Int) := of_decide_eq_true (by first | (with_reducible assumption) | assumption)
                        have q302 : x3_1 < (l0.length : Int) := of_decide_eq_true (by first | (with_reducible assumption) | assumption)
                        obtain ⟨ad302, e302, hx302_0, hx302_1⟩ := at_TRow HR0.out x3_1 p302 q302
                        cases e302
                        replace p302 := eq_true p302
                        replace q302 := eq_true q302
                        have p303 : 0 ≤ (x3_1 : Int) := of_decide_eq_true (by first | (with_reducible assumption) | assumption)
                        have q303 : x3_1 < (l0.length : Int) := of_decide_eq_true (by first | (with_reducible assumption) | assumption)
                        obtain ⟨ad303, e303, hx303_0, hx303_1⟩ := at_TRow HR0.out x3_1 p303 q303
                        obtain rfl : ad302 = ad303 := (by injection e303)
                        replace p303 := eq_true p303
                        replace q303 := eq_true q303
                        have p307 : 0 ≤ (x3_1 : Int) := of_decide_eq_true (by first | (with_reducible assumption) | assumption)
                        have q307 : x3_1 < (l0.length : Int) := of_decide_eq_true (by first | (with_reducible assumption) | assumption)
                        obtain ⟨ad307, e307, hx307_0, hx307_1⟩ := at_TRow HR0.out x3_1 p307 q307
                        obtain rfl : ad302 = ad307 := (by injection e307)
                        replace p307 := eq_true p307
                        replace q307 := eq_true q307
                        go_wp2_with (first | (go_at_call 54; (with_reducible refine (spec_l2Text.calls kj1 ((rd_TRow l0 x3_1).f1) t308 _ A13.out).mono ?_); rintro e w' ⟨rfl, ⟨nd, rfl⟩⟩))
                        go_meet
                        case rel => exact ⟨_, (!t308), (by first | rfl | (simp; done) | (simp [*]; done)), H', ⟨by have := HK1.out; have := HJ1.out; first | omega | exact Nat.le_refl _⟩, by repeat (first | exact Drawn0.refl _ | apply Drawn0.step)⟩
                · rw [if_neg c7] at H
                  exact absurd H (by simp)
              · rw [if_neg c6] at H
                exact absurd H (by simp)
            case rest =>
              clear HC5
              try clear c1
              try clear p2
              try clear c3
              try clear c3b0
              try clear p3
              try clear q3
              try clear hx3
              try clear c4
              try clear c6
              try clear c6b0
              try clear c7
              try clear c7b0
              try clear c8
              try clear c8b0
              try clear c9
              try clear c9b0
              try clear c10
              try clear c10b0
              try clear c10b1
              try clear c11
              try clear c11b0
              try clear c11b1
              try clear hx302_0
              try clear hx302_1
              try clear hx303_0
              try clear hx303_1
              try clear hx304_0
              try clear hx304_1
              try clear hx305_0
              try clear hx305_1
              try clear hx307_0
              try clear hx307_1
              try clear p2
              try clear p302
              try clear p303
              try clear p304
              try clear p305
              try clear p307
              try clear q302
              try clear q303
              try clear q304
              try clear q305
              try clear q307
              obtain ⟨kq, x48_4, rfl, HA, HJ4, ⟨mc4, rfl⟩⟩ := hcut
              cases kq with
              | zero => exact absurd HA.out (by simp [spec_LayoutValid.j2])
              | succ kj4 =>
                have H := HA.out
                clear HA
                simp only [spec_LayoutValid.j2] at H
                by_cases c14 : x48_4 = true
                · subst c14
                  have H1 : (some false) = some r := by rw [if_pos rfl] at H; exact H
                  clear H
                  have H := H1
                  clear H1
                  obtain rfl := Option.some.inj H
                  go_wp2
                  go_ret
                  exact ⟨by first | rfl | (simp; done) | (simp [*]; done), by repeat (first | exact Drawn0.refl _ | apply Drawn0.step)⟩
                · replace c14 := Bool.eq_false_iff.mpr c14
                  subst c14
                  have H1 : (spec_LayoutValid.l0 kj4 l0 (wrap64 (x3_1 + 1))) = some r := by rw [if_neg (show ¬ (false = true) by decide)] at H; exact H
                  clear H
                  have H := H1
                  clear H1
                  have H' := Aside0.mk H
                  clear H
                  go_wp2
                  go_roundg kj4
                  case measure => have := HK1.out; have := HJ1.out; have := HJ4.out; omega
                  case rel => exact ⟨(wrap64 (x3_1 + 1)), (by first | rfl | (simp; done) | (simp [*]; done)), H', ⟨by have := HK1.out; have := HJ1.out; have := HJ4.out; omega⟩, by repeat (first | exact Drawn0.refl _ | apply Drawn0.step)⟩
          · replace c4 := Bool.eq_false_iff.mpr c4
            subst c4
            have H1 : (if (l0.length : Int) > 0 then (some (decide ((l0.length : Int) ≤ 200))) else (some false)) = some r := by rw [if_neg (show ¬ (false = true) by decide)] at H; exact H
            clear H
            have H := H1
            clear H1
            by_cases c15 : (l0.length : Int) > 0
            · rw [if_pos c15] at H
              have c15b0 : decide (0 < (l0.length : Int)) = true := decide_eq_true c15
              have c15b1 : decide (0 < l0.length) = true := decide_eq_true (by omega)
              clear c15
              obtain rfl := Option.some.inj H
              go_wp2
              go_ret
              exact ⟨by first | rfl | (simp; done) | (simp [*]; done), by repeat (first | exact Drawn0.refl _ | apply Drawn0.step)⟩
            · rw [if_neg c15] at H
              have c15b0 : decide (0 < (l0.length : Int)) = false := decide_eq_false c15
              have c15b1 : decide (0 < l0.length) = false := decide_eq_false (by omega)
              clear c15
              obtain rfl := Option.some.inj H
              go_wp2
              go_ret
              exact ⟨by first | rfl | (simp; done) | (simp [*]; done), by repeat (first | exact Drawn0.refl _ | apply Drawn0.step)⟩

end Go.Proofs.Ytbijachmecgpgaa.P
