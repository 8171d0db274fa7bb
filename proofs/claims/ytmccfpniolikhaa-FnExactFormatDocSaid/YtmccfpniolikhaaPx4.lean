/- CONTRACTS: each theorem here says that a Go function of the program, called over the translation under the theorem's own hypotheses, returns what the Lean function beside it computes. Written by the session's program xprint.py. -/
import Derived.Test.YtmccfpniolikhaaPx0
namespace Go.Proofs.Ytmccfpniolikhaa.P
open Go.RowKit Go.Proofs.YtmccfpniolikhaaW.PrintWords Go.Proofs.YtmccfpniolikhaaW.PrintLast Go.Proofs.YtmccfpniolikhaaW.PrintMore
attribute [local go_sem] max2_int min2_int max_two min_two max_three min_three max_four min_four   -- for this text's walks alone
set_option linter.unusedVariables false
set_option linter.unusedSimpArgs false

/-! ### spec_TextValid: function 125 -/
mutual
def spec_TextValid.j0 : Nat → ByteArray → Bool → Option (Bool)
  | 0, _, _ => none
  | k + 1, x0, x14 => if x14 = true then (some false) else (spec_TextValid.l0 k x0 0)
def spec_TextValid.l0 : Nat → ByteArray → Int → Option (Bool)
  | 0, _, _ => none
  | k + 1, x0, x3 => if x3 < (x0.size : Int) then (if 0 ≤ x3 then (if (bt x0 x3) ≥ 97 then (if (bt x0 x3) ≤ 122 then (spec_TextValid.j2 k x0 x3 (bt x0 x3) true) else (if (bt x0 x3) ≥ 48 then (spec_TextValid.j2 k x0 x3 (bt x0 x3) (decide ((bt x0 x3) ≤ 57))) else (spec_TextValid.j2 k x0 x3 (bt x0 x3) false))) else (if (bt x0 x3) ≥ 48 then (spec_TextValid.j2 k x0 x3 (bt x0 x3) (decide ((bt x0 x3) ≤ 57))) else (spec_TextValid.j2 k x0 x3 (bt x0 x3) false))) else (none)) else (some true)
def spec_TextValid.j2 : Nat → ByteArray → Int → Int → Bool → Option (Bool)
  | 0, _, _, _, _ => none
  | k + 1, x0, x3, x4, x5 => if x4 = 44 then (spec_TextValid.j3 k x0 x3 x5 true) else (if x4 = 58 then (spec_TextValid.j3 k x0 x3 x5 true) else (if x4 = 61 then (spec_TextValid.j3 k x0 x3 x5 true) else (if x4 = 123 then (spec_TextValid.j3 k x0 x3 x5 true) else (if x4 = 125 then (spec_TextValid.j3 k x0 x3 x5 true) else (if x4 = 40 then (spec_TextValid.j3 k x0 x3 x5 true) else (if x4 = 41 then (spec_TextValid.j3 k x0 x3 x5 true) else (if x4 = 91 then (spec_TextValid.j3 k x0 x3 x5 true) else (spec_TextValid.j3 k x0 x3 x5 (x4 == 93)))))))))
def spec_TextValid.j3 : Nat → ByteArray → Int → Bool → Bool → Option (Bool)
  | 0, _, _, _, _ => none
  | k + 1, x0, x3, x5, x6 => if x5 = true then (spec_TextValid.l0 k x0 (wrap64 (x3 + 1))) else (if x6 = true then (spec_TextValid.l0 k x0 (wrap64 (x3 + 1))) else (some false))
end
def spec_TextValid.f (k : Nat) (a0 : ByteArray) : Option (Bool) := if (a0.size : Int) < 1 then (spec_TextValid.j0 k a0 true) else (spec_TextValid.j0 k a0 (decide ((a0.size : Int) > 12)))
theorem spec_TextValid.mono_l : ∀ k, (∀ y0 y1, LeO (spec_TextValid.j0 k y0 y1) (spec_TextValid.j0 (k + 1) y0 y1)) ∧ (∀ y0 y1, LeO (spec_TextValid.l0 k y0 y1) (spec_TextValid.l0 (k + 1) y0 y1)) ∧ (∀ y0 y1 y2 y3, LeO (spec_TextValid.j2 k y0 y1 y2 y3) (spec_TextValid.j2 (k + 1) y0 y1 y2 y3)) ∧ (∀ y0 y1 y2 y3, LeO (spec_TextValid.j3 k y0 y1 y2 y3) (spec_TextValid.j3 (k + 1) y0 y1 y2 y3))
  | 0 => ⟨fun _ _ r h => by simp [spec_TextValid.j0] at h, fun _ _ r h => by simp [spec_TextValid.l0] at h, fun _ _ _ _ r h => by simp [spec_TextValid.j2] at h, fun _ _ _ _ r h => by simp [spec_TextValid.j3] at h⟩
  | k + 1 => by
    obtain ⟨ih0, ih1, ih2, ih3⟩ := spec_TextValid.mono_l k
    refine ⟨?_, ?_, ?_, ?_⟩
    · intro y0 y1
      unfold spec_TextValid.j0
      repeat' first
      | (with_reducible exact ih0 _ _)
      | (with_reducible exact ih1 _ _)
      | (with_reducible exact ih2 _ _ _ _)
      | (with_reducible exact ih3 _ _ _ _)
      | (with_reducible exact LeO.refl _)
      | (with_reducible exact LeO.none _)
      | (with_reducible refine LeO.ite ?_ ?_)
      | (with_reducible refine LeO.bind ?_ (fun _ => ?_))
      | exact ih0 _ _
      | exact ih1 _ _
      | exact ih2 _ _ _ _
      | exact ih3 _ _ _ _
      | exact LeO.none _
      | refine LeO.ite ?_ ?_
      | refine LeO.bind ?_ (fun _ => ?_)
    · intro y0 y1
      unfold spec_TextValid.l0
      repeat' first
      | (with_reducible exact ih0 _ _)
      | (with_reducible exact ih1 _ _)
      | (with_reducible exact ih2 _ _ _ _)
      | (with_reducible exact ih3 _ _ _ _)
      | (with_reducible exact LeO.refl _)
      | (with_reducible exact LeO.none _)
      | (with_reducible refine LeO.ite ?_ ?_)
      | (with_reducible refine LeO.bind ?_ (fun _ => ?_))
      | exact ih0 _ _
      | exact ih1 _ _
      | exact ih2 _ _ _ _
      | exact ih3 _ _ _ _
      | exact LeO.none _
      | refine LeO.ite ?_ ?_
      | refine LeO.bind ?_ (fun _ => ?_)
    · intro y0 y1 y2 y3
      unfold spec_TextValid.j2
      repeat' first
      | (with_reducible exact ih0 _ _)
      | (with_reducible exact ih1 _ _)
      | (with_reducible exact ih2 _ _ _ _)
      | (with_reducible exact ih3 _ _ _ _)
      | (with_reducible exact LeO.refl _)
      | (with_reducible exact LeO.none _)
      | (with_reducible refine LeO.ite ?_ ?_)
      | (with_reducible refine LeO.bind ?_ (fun _ => ?_))
      | exact ih0 _ _
      | exact ih1 _ _
      | exact ih2 _ _ _ _
      | exact ih3 _ _ _ _
      | exact LeO.none _
      | refine LeO.ite ?_ ?_
      | refine LeO.bind ?_ (fun _ => ?_)
    · intro y0 y1 y2 y3
      unfold spec_TextValid.j3
      repeat' first
      | (with_reducible exact ih0 _ _)
      | (with_reducible exact ih1 _ _)
      | (with_reducible exact ih2 _ _ _ _)
      | (with_reducible exact ih3 _ _ _ _)
      | (with_reducible exact LeO.refl _)
      | (with_reducible exact LeO.none _)
      | (with_reducible refine LeO.ite ?_ ?_)
      | (with_reducible refine LeO.bind ?_ (fun _ => ?_))
      | exact ih0 _ _
      | exact ih1 _ _
      | exact ih2 _ _ _ _
      | exact ih3 _ _ _ _
      | exact LeO.none _
      | refine LeO.ite ?_ ?_
      | refine LeO.bind ?_ (fun _ => ?_)
theorem spec_TextValid.mono : ∀ a0 k, LeO (spec_TextValid.f k a0) (spec_TextValid.f (k + 1) a0) := by
  intro a0 k
  obtain ⟨ih0, ih1, ih2, ih3⟩ := spec_TextValid.mono_l k
  unfold spec_TextValid.f
  repeat' first
      | (with_reducible exact ih0 _ _)
      | (with_reducible exact ih1 _ _)
      | (with_reducible exact ih2 _ _ _ _)
      | (with_reducible exact ih3 _ _ _ _)
      | (with_reducible exact LeO.refl _)
      | (with_reducible exact LeO.none _)
      | (with_reducible refine LeO.ite ?_ ?_)
      | (with_reducible refine LeO.bind ?_ (fun _ => ?_))
      | exact ih0 _ _
      | exact ih1 _ _
      | exact ih2 _ _ _ _
      | exact ih3 _ _ _ _
      | exact LeO.none _
      | refine LeO.ite ?_ ?_
      | refine LeO.bind ?_ (fun _ => ?_)
set_option maxHeartbeats 8000000 in
set_option maxRecDepth 100000 in
theorem spec_TextValid.calls (k : Nat) (a0 : ByteArray) (r : Bool) (w : World) (h : spec_TextValid.f k a0 = some r) :
    Calls Try.prog 125 #[.string a0] w fun e w' => e = .returned (.bool r) ∧ Drawn0 w w' := by
  have H : (if (a0.size : Int) < 1 then (spec_TextValid.j0 k a0 true) else (spec_TextValid.j0 k a0 (decide ((a0.size : Int) > 12)))) = some r := h
  clear h
  have HC2 := Aside0.mk H
  clear H
  go_enter Try.func125, Try.ntmps125
  go_upto_region 1 with (fail)
  go_cut [14] (fun v14 wc => ∃ (kq : Nat) (x14_1 : Bool), v14 = .bool x14_1 ∧ Aside0 (spec_TextValid.j0 kq a0 x14_1 = some r) ∧ Aside0 (kq ≤ k) ∧ Drawn0 w wc)
  case first =>
    have H := HC2.out
    clear HC2
    by_cases c3 : (a0.size : Int) < 1
    · rw [if_pos c3] at H
      have c3b0 : decide ((a0.size : Int) < 1) = true := decide_eq_true c3
      have c3b1 : decide (a0.size < 1) = true := decide_eq_true (by omega)
      clear c3
      (first | rw [c3b0] | (simp only [i64_w, i32_w]; rw [c3b0]) | skip)
      have H' := Aside0.mk H
      clear H
      go_wp2
      go_meet
      case rel => exact ⟨_, (true), (by first | rfl | (simp; done) | (simp [*]; done)), H', ⟨by first | omega | exact Nat.le_refl _⟩, by repeat (first | exact Drawn0.refl _ | apply Drawn0.step)⟩
    · rw [if_neg c3] at H
      have c3b0 : decide ((a0.size : Int) < 1) = false := decide_eq_false c3
      have c3b1 : decide (a0.size < 1) = false := decide_eq_false (by omega)
      clear c3
      (first | rw [c3b0] | (simp only [i64_w, i32_w]; rw [c3b0]) | skip)
      have H' := Aside0.mk H
      clear H
      go_wp2
      go_meet
      case rel => exact ⟨_, (decide ((a0.size : Int) > 12)), (by first | rfl | (simp; done) | (simp [*]; done)), H', ⟨by first | omega | exact Nat.le_refl _⟩, by repeat (first | exact Drawn0.refl _ | apply Drawn0.step)⟩
  case rest =>
    clear HC2
    try clear c1
    try clear p2
    try clear c3
    try clear c3b0
    try clear c3b1
    obtain ⟨kq, x14_1, rfl, HA, HJ1, ⟨mc1, rfl⟩⟩ := hcut
    cases kq with
    | zero => exact absurd HA.out (by simp [spec_TextValid.j0])
    | succ kj1 =>
      have H := HA.out
      clear HA
      simp only [spec_TextValid.j0] at H
      by_cases c4 : x14_1 = true
      · subst c4
        have H1 : (some false) = some r := by rw [if_pos rfl] at H; exact H
        clear H
        have H := H1
        clear H1
        obtain rfl := Option.some.inj H
        go_wp2
        go_ret
        exact ⟨by first | rfl | (simp; done) | (simp [*]; done), by repeat (first | exact Drawn0.refl _ | apply Drawn0.step)⟩
      · replace c4 := Bool.eq_false_iff.mpr c4
        subst c4
        have H1 : (spec_TextValid.l0 kj1 a0 0) = some r := by rw [if_neg (show ¬ (false = true) by decide)] at H; exact H
        clear H
        have H := H1
        clear H1
        have H' := Aside0.mk H
        clear H
        go_wp2
        go_loopg [3] kj1 (fun kq v3 w' => ∃ (x3_2 : Int), v3 = .int .i64 x3_2 ∧ Aside0 (spec_TextValid.l0 kq a0 x3_2 = some r) ∧ Aside0 (kq ≤ kj1) ∧ Drawn0 w w')
        case atStart => exact ⟨(0), (by first | rfl | (simp; done) | (simp [*]; done)), H', ⟨Nat.le_refl _⟩, by repeat (first | exact Drawn0.refl _ | apply Drawn0.step)⟩
        case round =>
          clear H'
          try clear c1
          try clear p2
          try clear c3
          try clear c3b0
          try clear c3b1
          try clear c4
          try clear p2
          obtain ⟨x3_2, rfl, HA, HK2, ⟨m2, rfl⟩⟩ := hrel
          cases gk with
          | zero => exact absurd HA.out (by simp [spec_TextValid.l0])
          | succ k2 =>
            have H := HA.out
            clear HA
            simp only [spec_TextValid.l0] at H
            by_cases c5 : x3_2 < (a0.size : Int)
            · rw [if_pos c5] at H
              have c5b0 : decide (x3_2 < (a0.size : Int)) = true := decide_eq_true c5
              clear c5
              by_cases c6 : 0 ≤ x3_2
              · rw [if_pos c6] at H
                have c6b0 : decide (0 ≤ x3_2) = true := decide_eq_true c6
                clear c6
                have HC8 := Aside0.mk H
                clear H
                have p7 : 0 ≤ (x3_2 : Int) := of_decide_eq_true (by first | (with_reducible assumption) | assumption)
                have q7 : x3_2 < (a0.size : Int) := of_decide_eq_true (by first | (with_reducible assumption) | assumption)
                have hx7 := bt_at a0 x3_2
                replace p7 := eq_true p7
                replace q7 := eq_true q7
                go_upto_region 7 with (fail)
                go_cut [5] (fun v5 wc => ∃ (kq : Nat) (x5_7 : Bool), v5 = .bool x5_7 ∧ Aside0 (spec_TextValid.j2 kq a0 x3_2 (bt a0 x3_2) x5_7 = some r) ∧ Aside0 (kq ≤ k2) ∧ Drawn0 w wc)
                case first =>
                  have H := HC8.out
                  clear HC8
                  by_cases c9 : (bt a0 x3_2) ≥ 97
                  · rw [if_pos c9] at H
                    have c9b0 : decide (97 ≤ (bt a0 x3_2)) = true := decide_eq_true c9
                    clear c9
                    (first | rw [c9b0] | (simp only [i64_w, i32_w]; rw [c9b0]) | skip)
                    by_cases c10 : (bt a0 x3_2) ≤ 122
                    · rw [if_pos c10] at H
                      have c10b0 : decide ((bt a0 x3_2) ≤ 122) = true := decide_eq_true c10
                      clear c10
                      have H' := Aside0.mk H
                      clear H
                      go_wp2
                      go_meet
                      case rel => exact ⟨_, (true), (by first | rfl | (simp; done) | (simp [*]; done)), H', ⟨by have := HJ1.out; have := HK2.out; first | omega | exact Nat.le_refl _⟩, by repeat (first | exact Drawn0.refl _ | apply Drawn0.step)⟩
                    · rw [if_neg c10] at H
                      have c10b0 : decide ((bt a0 x3_2) ≤ 122) = false := decide_eq_false c10
                      clear c10
                      by_cases c11 : (bt a0 x3_2) ≥ 48
                      · rw [if_pos c11] at H
                        have c11b0 : decide (48 ≤ (bt a0 x3_2)) = true := decide_eq_true c11
                        clear c11
                        have H' := Aside0.mk H
                        clear H
                        go_wp2
                        go_meet
                        case rel => exact ⟨_, (decide ((bt a0 x3_2) ≤ 57)), (by first | rfl | (simp; done) | (simp [*]; done)), H', ⟨by have := HJ1.out; have := HK2.out; first | omega | exact Nat.le_refl _⟩, by repeat (first | exact Drawn0.refl _ | apply Drawn0.step)⟩
                      · rw [if_neg c11] at H
                        have c11b0 : decide (48 ≤ (bt a0 x3_2)) = false := decide_eq_false c11
                        clear c11
                        have H' := Aside0.mk H
                        clear H
                        go_wp2
                        go_meet
                        case rel => exact ⟨_, (false), (by first | rfl | (simp; done) | (simp [*]; done)), H', ⟨by have := HJ1.out; have := HK2.out; first | omega | exact Nat.le_refl _⟩, by repeat (first | exact Drawn0.refl _ | apply Drawn0.step)⟩
                  · rw [if_neg c9] at H
                    have c9b0 : decide (97 ≤ (bt a0 x3_2)) = false := decide_eq_false c9
                    clear c9
                    (first | rw [c9b0] | (simp only [i64_w, i32_w]; rw [c9b0]) | skip)
                    by_cases c12 : (bt a0 x3_2) ≥ 48
                    · rw [if_pos c12] at H
                      have c12b0 : decide (48 ≤ (bt a0 x3_2)) = true := decide_eq_true c12
                      clear c12
                      have H' := Aside0.mk H
                      clear H
                      go_wp2
                      go_meet
                      case rel => exact ⟨_, (decide ((bt a0 x3_2) ≤ 57)), (by first | rfl | (simp; done) | (simp [*]; done)), H', ⟨by have := HJ1.out; have := HK2.out; first | omega | exact Nat.le_refl _⟩, by repeat (first | exact Drawn0.refl _ | apply Drawn0.step)⟩
                    · rw [if_neg c12] at H
                      have c12b0 : decide (48 ≤ (bt a0 x3_2)) = false := decide_eq_false c12
                      clear c12
                      have H' := Aside0.mk H
                      clear H
                      go_wp2
                      go_meet
                      case rel => exact ⟨_, (false), (by first | rfl | (simp; done) | (simp [*]; done)), H', ⟨by have := HJ1.out; have := HK2.out; first | omega | exact Nat.le_refl _⟩, by repeat (first | exact Drawn0.refl _ | apply Drawn0.step)⟩
                case rest =>
                  clear HC8
                  try clear c1
                  try clear p2
                  try clear c3
                  try clear c3b0
                  try clear c3b1
                  try clear c4
                  try clear c5
                  try clear c5b0
                  try clear c6
                  try clear c6b0
                  try clear p7
                  try clear q7
                  try clear hx7
                  try clear c9
                  try clear c9b0
                  try clear c10
                  try clear c10b0
                  try clear c11
                  try clear c11b0
                  try clear c12
                  try clear c12b0
                  try clear p2
                  try clear p7
                  try clear q7
                  obtain ⟨kq, x5_7, rfl, HA, HJ7, ⟨mc7, rfl⟩⟩ := hcut
                  cases kq with
                  | zero => exact absurd HA.out (by simp [spec_TextValid.j2])
                  | succ kj7 =>
                    have H := HA.out
                    clear HA
                    simp only [spec_TextValid.j2] at H
                    have HC13 := Aside0.mk H
                    clear H
                    go_upto_region 8 with (fail)
                    go_cut [6] (fun v6 wc => ∃ (kq : Nat) (x6_12 : Bool), v6 = .bool x6_12 ∧ Aside0 (spec_TextValid.j3 kq a0 x3_2 x5_7 x6_12 = some r) ∧ Aside0 (kq ≤ kj7) ∧ Drawn0 w wc)
                    case first =>
                      have H := HC13.out
                      clear HC13
                      by_cases c14 : (bt a0 x3_2) = 44
                      · rw [if_pos c14] at H
                        have c14b0 : ((bt a0 x3_2) == 44) = true := beq_iff_eq.mpr c14
                        have c14b1 : ((bt a0 x3_2) != 44) = false := bne_eq_false_iff_eq.mpr c14
                        clear c14
                        (first | rw [c14b0] | (simp only [i64_w, i32_w]; rw [c14b0]) | skip)
                        have H' := Aside0.mk H
                        clear H
                        go_wp2
                        go_meet
                        case rel => exact ⟨_, (true), (by first | rfl | (simp; done) | (simp [*]; done)), H', ⟨by have := HJ1.out; have := HK2.out; have := HJ7.out; first | omega | exact Nat.le_refl _⟩, by repeat (first | exact Drawn0.refl _ | apply Drawn0.step)⟩
                      · rw [if_neg c14] at H
                        have c14b0 : ((bt a0 x3_2) == 44) = false := beq_eq_false_iff_ne.mpr c14
                        have c14b1 : ((bt a0 x3_2) != 44) = true := bne_iff_ne.mpr c14
                        (first | rw [c14b0] | (simp only [i64_w, i32_w]; rw [c14b0]) | skip)
                        by_cases c15 : (bt a0 x3_2) = 58
                        · rw [if_pos c15] at H
                          have c15b0 : ((bt a0 x3_2) == 58) = true := beq_iff_eq.mpr c15
                          have c15b1 : ((bt a0 x3_2) != 58) = false := bne_eq_false_iff_eq.mpr c15
                          clear c15
                          have H' := Aside0.mk H
                          clear H
                          go_wp2
                          go_meet
                          case rel => exact ⟨_, (true), (by first | rfl | (simp; done) | (simp [*]; done)), H', ⟨by have := HJ1.out; have := HK2.out; have := HJ7.out; first | omega | exact Nat.le_refl _⟩, by repeat (first | exact Drawn0.refl _ | apply Drawn0.step)⟩
                        · rw [if_neg c15] at H
                          have c15b0 : ((bt a0 x3_2) == 58) = false := beq_eq_false_iff_ne.mpr c15
                          have c15b1 : ((bt a0 x3_2) != 58) = true := bne_iff_ne.mpr c15
                          by_cases c16 : (bt a0 x3_2) = 61
                          · rw [if_pos c16] at H
                            have c16b0 : ((bt a0 x3_2) == 61) = true := beq_iff_eq.mpr c16
                            have c16b1 : ((bt a0 x3_2) != 61) = false := bne_eq_false_iff_eq.mpr c16
                            clear c16
                            have H' := Aside0.mk H
                            clear H
                            go_wp2
                            go_meet
                            case rel => exact ⟨_, (true), (by first | rfl | (simp; done) | (simp [*]; done)), H', ⟨by have := HJ1.out; have := HK2.out; have := HJ7.out; first | omega | exact Nat.le_refl _⟩, by repeat (first | exact Drawn0.refl _ | apply Drawn0.step)⟩
                          · rw [if_neg c16] at H
                            have c16b0 : ((bt a0 x3_2) == 61) = false := beq_eq_false_iff_ne.mpr c16
                            have c16b1 : ((bt a0 x3_2) != 61) = true := bne_iff_ne.mpr c16
                            by_cases c17 : (bt a0 x3_2) = 123
                            · rw [if_pos c17] at H
                              have c17b0 : ((bt a0 x3_2) == 123) = true := beq_iff_eq.mpr c17
                              have c17b1 : ((bt a0 x3_2) != 123) = false := bne_eq_false_iff_eq.mpr c17
                              clear c17
                              have H' := Aside0.mk H
                              clear H
                              go_wp2
                              go_meet
                              case rel => exact ⟨_, (true), (by first | rfl | (simp; done) | (simp [*]; done)), H', ⟨by have := HJ1.out; have := HK2.out; have := HJ7.out; first | omega | exact Nat.le_refl _⟩, by repeat (first | exact Drawn0.refl _ | apply Drawn0.step)⟩
                            · rw [if_neg c17] at H
                              have c17b0 : ((bt a0 x3_2) == 123) = false := beq_eq_false_iff_ne.mpr c17
                              have c17b1 : ((bt a0 x3_2) != 123) = true := bne_iff_ne.mpr c17
                              by_cases c18 : (bt a0 x3_2) = 125
                              · rw [if_pos c18] at H
                                have c18b0 : ((bt a0 x3_2) == 125) = true := beq_iff_eq.mpr c18
                                have c18b1 : ((bt a0 x3_2) != 125) = false := bne_eq_false_iff_eq.mpr c18
                                clear c18
                                have H' := Aside0.mk H
                                clear H
                                go_wp2
                                go_meet
                                case rel => exact ⟨_, (true), (by first | rfl | (simp; done) | (simp [*]; done)), H', ⟨by have := HJ1.out; have := HK2.out; have := HJ7.out; first | omega | exact Nat.le_refl _⟩, by repeat (first | exact Drawn0.refl _ | apply Drawn0.step)⟩
                              · rw [if_neg c18] at H
                                have c18b0 : ((bt a0 x3_2) == 125) = false := beq_eq_false_iff_ne.mpr c18
                                have c18b1 : ((bt a0 x3_2) != 125) = true := bne_iff_ne.mpr c18
                                by_cases c19 : (bt a0 x3_2) = 40
                                · rw [if_pos c19] at H
                                  have c19b0 : ((bt a0 x3_2) == 40) = true := beq_iff_eq.mpr c19
                                  have c19b1 : ((bt a0 x3_2) != 40) = false := bne_eq_false_iff_eq.mpr c19
                                  clear c19
                                  have H' := Aside0.mk H
                                  clear H
                                  go_wp2
                                  go_meet
                                  case rel => exact ⟨_, (true), (by first | rfl | (simp; done) | (simp [*]; done)), H', ⟨by have := HJ1.out; have := HK2.out; have := HJ7.out; first | omega | exact Nat.le_refl _⟩, by repeat (first | exact Drawn0.refl _ | apply Drawn0.step)⟩
                                · rw [if_neg c19] at H
                                  have c19b0 : ((bt a0 x3_2) == 40) = false := beq_eq_false_iff_ne.mpr c19
                                  have c19b1 : ((bt a0 x3_2) != 40) = true := bne_iff_ne.mpr c19
                                  by_cases c20 : (bt a0 x3_2) = 41
                                  · rw [if_pos c20] at H
                                    have c20b0 : ((bt a0 x3_2) == 41) = true := beq_iff_eq.mpr c20
                                    have c20b1 : ((bt a0 x3_2) != 41) = false := bne_eq_false_iff_eq.mpr c20
                                    clear c20
                                    have H' := Aside0.mk H
                                    clear H
                                    go_wp2
                                    go_meet
                                    case rel => exact ⟨_, (true), (by first | rfl | (simp; done) | (simp [*]; done)), H', ⟨by have := HJ1.out; have := HK2.out; have := HJ7.out; first | omega | exact Nat.le_refl _⟩, by repeat (first | exact Drawn0.refl _ | apply Drawn0.step)⟩
                                  · rw [if_neg c20] at H
                                    have c20b0 : ((bt a0 x3_2) == 41) = false := beq_eq_false_iff_ne.mpr c20
                                    have c20b1 : ((bt a0 x3_2) != 41) = true := bne_iff_ne.mpr c20
                                    by_cases c21 : (bt a0 x3_2) = 91
                                    · rw [if_pos c21] at H
                                      have c21b0 : ((bt a0 x3_2) == 91) = true := beq_iff_eq.mpr c21
                                      have c21b1 : ((bt a0 x3_2) != 91) = false := bne_eq_false_iff_eq.mpr c21
                                      clear c21
                                      have H' := Aside0.mk H
                                      clear H
                                      go_wp2
                                      go_meet
                                      case rel => exact ⟨_, (true), (by first | rfl | (simp; done) | (simp [*]; done)), H', ⟨by have := HJ1.out; have := HK2.out; have := HJ7.out; first | omega | exact Nat.le_refl _⟩, by repeat (first | exact Drawn0.refl _ | apply Drawn0.step)⟩
                                    · rw [if_neg c21] at H
                                      have c21b0 : ((bt a0 x3_2) == 91) = false := beq_eq_false_iff_ne.mpr c21
                                      have c21b1 : ((bt a0 x3_2) != 91) = true := bne_iff_ne.mpr c21
                                      have H' := Aside0.mk H
                                      clear H
                                      go_wp2
                                      go_meet
                                      case rel => exact ⟨_, (((bt a0 x3_2) == 93)), (by first | rfl | (simp; done) | (simp [*]; done)), H', ⟨by have := HJ1.out; have := HK2.out; have := HJ7.out; first | omega | exact Nat.le_refl _⟩, by repeat (first | exact Drawn0.refl _ | apply Drawn0.step)⟩
                    case rest =>
                      clear HC13
                      try clear c1
                      try clear c2
                      try clear p2
                      try clear c3
                      try clear c3b0
                      try clear c3b1
                      try clear c4
                      try clear c5
                      try clear c5b0
                      try clear c6
                      try clear c6b0
                      try clear c7
                      try clear p7
                      try clear q7
                      try clear hx7
                      try clear c9
                      try clear c9b0
                      try clear c10
                      try clear c10b0
                      try clear c11
                      try clear c11b0
                      try clear c12
                      try clear c12b0
                      try clear c14
                      try clear c14b0
                      try clear c14b1
                      try clear c15
                      try clear c15b0
                      try clear c15b1
                      try clear c16
                      try clear c16b0
                      try clear c16b1
                      try clear c17
                      try clear c17b0
                      try clear c17b1
                      try clear c18
                      try clear c18b0
                      try clear c18b1
                      try clear c19
                      try clear c19b0
                      try clear c19b1
                      try clear c20
                      try clear c20b0
                      try clear c20b1
                      try clear c21
                      try clear c21b0
                      try clear c21b1
                      try clear p2
                      try clear p7
                      try clear q7
                      obtain ⟨kq, x6_12, rfl, HA, HJ12, ⟨mc12, rfl⟩⟩ := hcut
                      cases kq with
                      | zero => exact absurd HA.out (by simp [spec_TextValid.j3])
                      | succ kj12 =>
                        have H := HA.out
                        clear HA
                        simp only [spec_TextValid.j3] at H
                        by_cases c22 : x5_7 = true
                        · subst c22
                          have H1 : (spec_TextValid.l0 kj12 a0 (wrap64 (x3_2 + 1))) = some r := by rw [if_pos rfl] at H; exact H
                          clear H
                          have H := H1
                          clear H1
                          have H' := Aside0.mk H
                          clear H
                          go_wp2
                          go_roundg kj12
                          case measure => have := HJ1.out; have := HK2.out; have := HJ7.out; have := HJ12.out; omega
                          case rel => exact ⟨(wrap64 (x3_2 + 1)), (by first | rfl | (simp; done) | (simp [*]; done)), H', ⟨by have := HJ1.out; have := HK2.out; have := HJ7.out; have := HJ12.out; omega⟩, by repeat (first | exact Drawn0.refl _ | apply Drawn0.step)⟩
                        · replace c22 := Bool.eq_false_iff.mpr c22
                          subst c22
                          have H1 : (if x6_12 = true then (spec_TextValid.l0 kj12 a0 (wrap64 (x3_2 + 1))) else (some false)) = some r := by rw [if_neg (show ¬ (false = true) by decide)] at H; exact H
                          clear H
                          have H := H1
                          clear H1
                          by_cases c23 : x6_12 = true
                          · subst c23
                            have H1 : (spec_TextValid.l0 kj12 a0 (wrap64 (x3_2 + 1))) = some r := by rw [if_pos rfl] at H; exact H
                            clear H
                            have H := H1
                            clear H1
                            have H' := Aside0.mk H
                            clear H
                            go_wp2
                            go_roundg kj12
                            case measure => have := HJ1.out; have := HK2.out; have := HJ7.out; have := HJ12.out; omega
                            case rel => exact ⟨(wrap64 (x3_2 + 1)), (by first | rfl | (simp; done) | (simp [*]; done)), H', ⟨by have := HJ1.out; have := HK2.out; have := HJ7.out; have := HJ12.out; omega⟩, by repeat (first | exact Drawn0.refl _ | apply Drawn0.step)⟩
                          · replace c23 := Bool.eq_false_iff.mpr c23
                            subst c23
                            have H1 : (some false) = some r := by rw [if_neg (show ¬ (false = true) by decide)] at H; exact H
                            clear H
                            have H := H1
                            clear H1
                            obtain rfl := Option.some.inj H
                            go_wp2
                            go_ret
                            exact ⟨by first | rfl | (simp; done) | (simp [*]; done), by repeat (first | exact Drawn0.refl _ | apply Drawn0.step)⟩
              · rw [if_neg c6] at H
                exact absurd H (by simp)
            · rw [if_neg c5] at H
              have c5b0 : decide (x3_2 < (a0.size : Int)) = false := decide_eq_false c5
              clear c5
              obtain rfl := Option.some.inj H
              go_wp2
              go_ret
              exact ⟨by first | rfl | (simp; done) | (simp [*]; done), by repeat (first | exact Drawn0.refl _ | apply Drawn0.step)⟩

end Go.Proofs.Ytmccfpniolikhaa.P
