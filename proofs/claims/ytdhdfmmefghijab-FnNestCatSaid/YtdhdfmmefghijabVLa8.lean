/- CONTRACTS and lemmas: each contract says that a Go function of the program, called over the translation under the theorem's own hypotheses, returns what the Lean function beside it computes. -/
import Derived.Test.YtdhdfmmefghijabVLa7
import Derived.Test.YtdhdfmmefghijabRows
import Derived.ClosedOfChecked
import Derived.KernelRfl
namespace Go.Proofs.Ytdhdfmmefghijab.P
open Go.RowKit Go.Proofs.YtdhdfmmefghijabW.PrintWords Go.Proofs.YtdhdfmmefghijabW.PrintLast Go.Proofs.YtdhdfmmefghijabW.PrintMore
attribute [local go_sem] max2_int min2_int max_two min_two max_three min_three max_four min_four
set_option linter.unusedVariables false
set_option linter.unusedSimpArgs false
def impl_nestRows.l0 : Nat → Int → List (SRow) → Int → Option ((List (SRow)))
  | 0, _, _, _ => none
  | k + 1, x0, x5, x6 => if x6 < (x5.length : Int) then (if 0 ≤ x6 then (impl_nestRows.l0 k x0 (x5.set (x6 : Int).toNat (⟨wrap64 (((rd_TRow x5 x6).f0) + x0), (rd_TRow x5 x6).f1⟩ : SRow)) (wrap64 (x6 + 1))) else (none)) else (some x5)
def impl_nestRows.f (k : Nat) (a0 : Int) (l1 : List (SRow)) : Option ((List (SRow))) := (slices_Clone_Llimpl_Row.f l1).bind fun t593 => (impl_nestRows.l0 k a0 t593 1)
set_option maxHeartbeats 8000000 in
set_option maxRecDepth 100000 in
theorem impl_nestRows.calls (k : Nat) (a0 : Int) (A1 : Option Addr) (c1 : Nat) (l1 : List (SRow)) (r : List (SRow)) (w : World) (hr1 : Kd.C k30 w A1 l1.length l1) (hc1 : l1.length ≤ c1) (h : impl_nestRows.f k a0 l1 = some r) :
    Calls Try.prog 47 #[.int .i64 a0, .slice A1 l1.length c1] w fun e w' => ∃ v0_ : Value, e = .returned (v0_) ∧ Kd.R k30 30 w' w.heap.size (fun _ => True) v0_ r ∧ Below w.heap.size w w' := by
  have HR1 := Aside0.mk hr1
  have HC1 := Aside0.mk hc1
  clear hr1 hc1
  have HB := Aside0.mk (Below.refl w.heap.size w)
  have H : ((slices_Clone_Llimpl_Row.f l1).bind fun t593 => (impl_nestRows.l0 k a0 t593 1)) = some r := h
  clear h
  replace H := Option.bind_eq_some_iff.mp H
  obtain ⟨t593, A30, H⟩ := H
  replace H : (impl_nestRows.l0 k a0 t593 1) = some r := H
  have A3 := Aside0.mk A30
  clear A30
  have H' := Aside0.mk H
  clear H
  go_enter Try.func47, Try.ntmps47
  go_wp2_with (first | ((with_reducible refine gate_callee (f := 67) rfl ?_); refine goesL_ (some 8) rfl rfl Try.func67 (by kernel_rfl) rfl #[.slice A1 l1.length c1] rfl (by (try simp only [List.map_toArray, List.map_cons, List.map_nil]); first | done | rfl | (simp only [List.length_drop, List.length_take]; rfl)) ?_; (with_reducible refine (slices_Clone_Llimpl_Row.calls _ _ l1 t593 _ ?side1 ?side2 A3.out).mono ?_); (case side1 => repeat (first | exact HR1.out | (with_reducible refine Kd.C_alloc ?_ _) | (with_reducible refine Kd.C_drewN ?_ _) | (with_reducible refine Kd.C_drew ?_))); (case side2 => exact HC1.out); rintro e w4 ⟨v594, rfl, ho0, hb⟩; refine ⟨_, rfl, ?_⟩; have n0_ := Aside0.mk (Kd.R_lower ho0 (below_size (gB HB))); have n1_ := Aside0.mk (below_step (gB HB) hb); clear HB; have HO595 := n0_; have HB := n1_; clear n0_ n1_; (try clear hb); (try clear hb2); (try clear hk); (try clear hi); (try clear ho0)))
  go_loopg [6] k (fun kq v6 w' => ∃ (x5_1 : List (SRow)) (x6_1 : Int), v6 = .int .i64 x6_1 ∧ Aside0 (impl_nestRows.l0 kq a0 x5_1 x6_1 = some r) ∧ Aside0 (kq ≤ k) ∧ Aside0 (Kd.R k30 30 w' w.heap.size (fun _ => True) v594 x5_1) ∧ Aside0 (Below w.heap.size w w'))
  case atStart => exact ⟨(t593), (1), (by first | rfl | (simp; done) | (simp [*]; done)), H', ⟨Nat.le_refl _⟩, ⟨gR HO595⟩, ⟨gB HB⟩⟩
  case round =>
    clear H'
    try clear c1
    try clear p2
    try clear c4
    (try clear HO_5); (try clear HB)
    obtain ⟨x5_1, x6_1, rfl, HA, HK1, HO_5, HB⟩ := hrel
    cases gk with
    | zero => exact absurd HA.out (by simp [impl_nestRows.l0])
    | succ k1 =>
      have H := HA.out
      clear HA
      simp only [impl_nestRows.l0] at H
      by_cases c5 : x6_1 < (x5_1.length : Int)
      · rw [if_pos c5] at H
        have c5b0 : decide (x6_1 < (x5_1.length : Int)) = true := decide_eq_true c5
        clear c5
        by_cases c6 : 0 ≤ x6_1
        · rw [if_pos c6] at H
          have c6b0 : decide (0 ≤ x6_1) = true := decide_eq_true c6
          clear c6
          obtain ⟨y597, hy597⟩ : ∃ y_ : List (SRow), y_ = (x5_1.set (x6_1 : Int).toNat (⟨wrap64 (((rd_TRow x5_1 x6_1).f0) + a0), (rd_TRow x5_1 x6_1).f1⟩ : SRow)) := ⟨_, rfl⟩
          replace H : (impl_nestRows.l0 k1 a0 y597 (wrap64 (x6_1 + 1))) = some r := by first | (rw [hy597]; with_reducible exact H) | (have H2_ := (Option.bind_some _ _).symm.trans H; rw [hy597]; with_reducible exact H2_) | (have H2_ := (Option.bind_some _ _).symm.trans H; with_reducible exact H2_) | with_reducible exact H | (rw [hy597]; exact H) | exact H
          have Ny597 := Aside0.mk hy597
          clear hy597
          have H' := Aside0.mk H
          clear H
          obtain ⟨Ao8, co8, eo8⟩ := Kd.R_slice HO_5.out
          subst eo8
          have p596 : 0 ≤ (x6_1 : Int) := of_decide_eq_true (by first | (with_reducible assumption) | assumption)
          have q596 : x6_1 < (x5_1.length : Int) := of_decide_eq_true (by first | (with_reducible assumption) | assumption)
          obtain ⟨ad596, e596, hx596_0, hx596_1⟩ := at_TRow (Kd.R_reads' HO_5.out).2.2 x6_1 p596 q596
          cases e596
          replace p596 := eq_true p596
          replace q596 := eq_true q596
          have p7 : 0 ≤ (x6_1 : Int) := of_decide_eq_true (by first | (with_reducible assumption) | assumption)
          have q7 : (x6_1 : Int) < ((x5_1.length : Int) : Int) := of_decide_eq_true (by first | (with_reducible assumption) | assumption)
          obtain ⟨go7, co7, eo7, gb7, gl7, cl7, HG7⟩ := Kd.R_form HO_5.out (by omega)
          (first | cases eo7 | (injection eo7 with ea_ en_ ec_; (first | subst ea_ | (injection ea_ with ea_; subst ea_)); subst ec_; clear en_))
          have GB7 := Aside0.mk gb7
          have GG7 := Aside0.mk HG7
          clear gb7 gl7 HG7
          (first | simp only [add_plain] at hx596_0 | skip)
          (first | simp only [add_plain] at hx596_1 | skip)
          obtain ⟨ce7, hcl7, hM7, hcc7, hfr7⟩ := Kd.R_elem HO_5.out zRow (x6_1 : Int) p7 q7
          obtain rfl := k30_openM hM7
          have hx7_0 : wr.cell? ⟨go7, (x6_1 : Int).toNat * 2, none⟩ = some (.int .i64 ((rd_TRow x5_1 x6_1).f0)) := hcc7 0 _ rfl
          have hx7_1 : wr.cell? ⟨go7, (x6_1 : Int).toNat * 2 + 1, none⟩ = some (.string ((rd_TRow x5_1 x6_1).f1)) := hcc7 1 _ rfl
          have hf7_0 : wr.frozen? ⟨go7, (x6_1 : Int).toNat * 2, none⟩ = false := hfr7 0
          have hf7_1 : wr.frozen? ⟨go7, (x6_1 : Int).toNat * 2 + 1, none⟩ = false := hfr7 1
          clear hcl7 hcc7 hfr7 hM7
          replace p7 := eq_true p7
          replace q7 := eq_true q7
          have HX9 := Aside0.mk (show Kd.R k30 30 wr w.heap.size (fun _ => True) (.slice (some ⟨go7, 0, none⟩) x5_1.length co8) x5_1 from (gR HO_5))
          obtain ⟨ce9, hcl9, hM9, hcc9, hfr9⟩ := Kd.R_elem HX9.out zRow (x6_1 : Int) (of_decide_eq_true (by first | (with_reducible assumption) | assumption)) (by have h_ : (x6_1 : Int) < ((x5_1.length : Int) : Int) := of_decide_eq_true (by first | (with_reducible assumption) | assumption); first | exact h_ | (have e_ := (Kd.R_reads' HO_5.out).1; omega) | simpa using h_)
          obtain rfl := k30_openM hM9
          have HP9 := Kd.R_seg HX9.out (x6_1 : Int) (of_decide_eq_true (by first | (with_reducible assumption) | assumption)) (by have h_ : (x6_1 : Int) < ((x5_1.length : Int) : Int) := of_decide_eq_true (by first | (with_reducible assumption) | assumption); first | exact h_ | (have e_ := (Kd.R_reads' HO_5.out).1; omega) | simpa using h_) (seg := [.int .i64 (wrap64 (((rd_TRow x5_1 x6_1).f0) + a0))]) (j := 0) hcl9 hcc9 (show 1 ≤ 2 from by decide) (x' := (⟨wrap64 (((rd_TRow x5_1 x6_1).f0) + a0), (rd_TRow x5_1 x6_1).f1⟩ : SRow)) (k30_mkM _ _ _ (⟨wrap64 (((rd_TRow x5_1 x6_1).f0) + a0), (rd_TRow x5_1 x6_1).f1⟩ : SRow) ) (fun _ hk => hk)
          have hx9_0 := hcc9 0 _ rfl
          (try simp only [show (k30).sz = 2 from rfl, Nat.mul_one, Nat.add_zero] at hx9_0)
          have hf9_0 := hfr9 0
          (try simp only [show (k30).sz = 2 from rfl, Nat.mul_one, Nat.add_zero] at hf9_0)
          clear hcl9 hcc9 hfr9 hM9
          go_wp2_with (first | ((with_reducible refine gate_store (t := 3) (p := 23) rfl ?_); refine store_event (t := 3) (p := 23) (v := ?vo_w10) (w1 := (wr.setCell ⟨go7, (x6_1 : Int).toNat * 2, none⟩ (.int .i64 (wrap64 (((rd_TRow x5_1 x6_1).f0) + a0))))) ?hg ?ho ?hn ?hr ?_; (case ho => rfl); (case hg => rfl); (case hn => rfl); (case hr => first | (go_simp; done) | (go_simp; rfl)); intro w10 hw; have hg : wr.grownBy w10 (some go7) := (by rw [hw]; exact HP9.2); have hp_ : Kd.R k30 30 w10 w.heap.size (fun _ => True) (.slice (some ⟨go7, 0, none⟩) x5_1.length co8) y597 := (by rw [hw, Ny597.out]; exact HP9.1); clear HP9; have n0_ := Aside0.mk (hp_); have n1_ := Aside0.mk ((by rw [hw]; exact below_set (HB.out) GB7.out : Below w.heap.size w w10)); clear HO_5; clear HB; have HO_5 := n0_; have HB := n1_; clear n0_ n1_; clear hg hw hp_))
          go_roundg k1
          case measure => have := HK1.out; omega
          case rel => exact ⟨(y597), (wrap64 (x6_1 + 1)), (by first | rfl | (simp; done) | (simp [*]; done)), H', ⟨by have := HK1.out; omega⟩, ⟨gR HO_5⟩, ⟨gB HB⟩⟩
        · rw [if_neg c6] at H
          exact absurd H (by simp)
      · rw [if_neg c5] at H
        have c5b0 : decide (x6_1 < (x5_1.length : Int)) = false := decide_eq_false c5
        clear c5
        obtain rfl := Option.some.inj H
        obtain ⟨Ao11, co11, eo11⟩ := Kd.R_slice HO_5.out
        subst eo11
        go_wp2
        go_ret
        exact ⟨_, by first | rfl | (simp [errW_none, errW_some] <;> rfl) | (simp [*, errW_none, errW_some] <;> rfl), gR HO_5, gB HB⟩
end Go.Proofs.Ytdhdfmmefghijab.P
namespace Go.Proofs.Ytdhdfmmefghijab.P
open Go.RowKit Go.Proofs.YtdhdfmmefghijabW.PrintWords Go.Proofs.YtdhdfmmefghijabW.PrintLast Go.Proofs.YtdhdfmmefghijabW.PrintMore
attribute [local go_sem] max2_int min2_int max_two min_two max_three min_three max_four min_four
set_option linter.unusedVariables false
set_option linter.unusedSimpArgs false
def spec_NestLayout.j0 : Nat → Int → List (SRow) → Bool → Option ((List (SRow)) × Bool)
  | 0, _, _, _ => none
  | k + 1, x0, x1, x17 => if x17 = true then (some ((([] : List (SRow))), false)) else ((spec_l2Nest.f k x0 x1).bind fun t607 => ((spec_LayoutValid.f k t607).bind fun t610 => (if t610 = true then (some (t607, true)) else (some ((([] : List (SRow))), false)))))
def spec_NestLayout.f (k : Nat) (a0 : Int) (l1 : List (SRow)) : Option ((List (SRow)) × Bool) := (spec_LayoutValid.f k l1).bind fun t603 => (if t603 = true then (if a0 < 0 then (spec_NestLayout.j0 k a0 l1 true) else (spec_NestLayout.j0 k a0 l1 (decide (a0 > 200)))) else (spec_NestLayout.j0 k a0 l1 true))
set_option maxHeartbeats 8000000 in
set_option maxRecDepth 100000 in
theorem spec_NestLayout.calls (k : Nat) (a0 : Int) (A1 : Option Addr) (c1 : Nat) (l1 : List (SRow)) (r1 : List (SRow)) (r2 : Bool) (w : World) (hr1 : Kd.C k30 w A1 l1.length l1) (hc1 : l1.length ≤ c1) (h : spec_NestLayout.f k a0 l1 = some (r1, r2)) :
    Calls Try.prog 22 #[.int .i64 a0, .slice A1 l1.length c1] w fun e w' => ∃ v0_ : Value, e = .returned (.tuple #[v0_, .bool r2]) ∧ Kd.R k30 30 w' w.heap.size (fun _ => True) v0_ r1 ∧ Below w.heap.size w w' := by
  have HR1 := Aside0.mk hr1
  have HC1 := Aside0.mk hc1
  clear hr1 hc1
  have HB := Aside0.mk (Below.refl w.heap.size w)
  have H : ((spec_LayoutValid.f k l1).bind fun t603 => (if t603 = true then (if a0 < 0 then (spec_NestLayout.j0 k a0 l1 true) else (spec_NestLayout.j0 k a0 l1 (decide (a0 > 200)))) else (spec_NestLayout.j0 k a0 l1 true))) = some (r1, r2) := h
  clear h
  have HC3 := Aside0.mk H
  clear H
  go_enter Try.func22, Try.ntmps22
  go_upto_region 1 with (fail)
  go_cut [17] (fun v17 wc => ∃ (kq : Nat) (x17_2 : Bool), v17 = .bool x17_2 ∧ Aside0 (spec_NestLayout.j0 kq a0 l1 x17_2 = some (r1, r2)) ∧ Aside0 (kq ≤ k) ∧ Aside0 (Below w.heap.size w wc))
  case first =>
    have H := HC3.out
    clear HC3
    replace H := Option.bind_eq_some_iff.mp H
    obtain ⟨t603, A40, H⟩ := H
    replace H : (if t603 = true then (if a0 < 0 then (spec_NestLayout.j0 k a0 l1 true) else (spec_NestLayout.j0 k a0 l1 (decide (a0 > 200)))) else (spec_NestLayout.j0 k a0 l1 true)) = some (r1, r2) := H
    have A4 := Aside0.mk A40
    clear A40
    by_cases c5 : t603 = true
    · subst c5
      have H1 : (if a0 < 0 then (spec_NestLayout.j0 k a0 l1 true) else (spec_NestLayout.j0 k a0 l1 (decide (a0 > 200)))) = some (r1, r2) := by rw [if_pos rfl] at H; exact H
      clear H
      have H := H1
      clear H1
      by_cases c6 : a0 < 0
      · rw [if_pos c6] at H
        have c6b0 : decide (a0 < 0) = true := decide_eq_true c6
        clear c6
        (first | rw [c6b0] | (simp only [i64_w, i32_w]; rw [c6b0]) | skip)
        have H' := Aside0.mk H
        clear H
        go_wp2_with (first | ((with_reducible refine gate_callee (f := 29) rfl ?_); refine goesL_ (some 8) rfl rfl Try.func29 (by kernel_rfl) rfl #[.slice A1 l1.length c1] rfl (by (try simp only [List.map_toArray, List.map_cons, List.map_nil]); first | done | rfl | (simp only [List.length_drop, List.length_take]; rfl)) ?_; (with_reducible refine (spec_LayoutValid.calls k _ _ l1 true _ ?side1 ?side2 A4.out).mono ?_); (case side1 => exact gC (Kd.C_below HR1.out HB.out)); (case side2 => exact HC1.out); rintro e w' ⟨rfl, ⟨nd, rfl⟩⟩; refine ⟨_, rfl, ?_⟩))
        go_meet
        case rel => exact ⟨_, (true), (by first | rfl | (simp; done) | (simp [*]; done)), H', ⟨by first | omega | exact Nat.le_refl _⟩, ⟨gB HB⟩⟩
      · rw [if_neg c6] at H
        have c6b0 : decide (a0 < 0) = false := decide_eq_false c6
        clear c6
        (first | rw [c6b0] | (simp only [i64_w, i32_w]; rw [c6b0]) | skip)
        have H' := Aside0.mk H
        clear H
        go_wp2_with (first | ((with_reducible refine gate_callee (f := 29) rfl ?_); refine goesL_ (some 8) rfl rfl Try.func29 (by kernel_rfl) rfl #[.slice A1 l1.length c1] rfl (by (try simp only [List.map_toArray, List.map_cons, List.map_nil]); first | done | rfl | (simp only [List.length_drop, List.length_take]; rfl)) ?_; (with_reducible refine (spec_LayoutValid.calls k _ _ l1 true _ ?side1 ?side2 A4.out).mono ?_); (case side1 => exact gC (Kd.C_below HR1.out HB.out)); (case side2 => exact HC1.out); rintro e w' ⟨rfl, ⟨nd, rfl⟩⟩; refine ⟨_, rfl, ?_⟩))
        go_meet
        case rel => exact ⟨_, (decide (a0 > 200)), (by first | rfl | (simp; done) | (simp [*]; done)), H', ⟨by first | omega | exact Nat.le_refl _⟩, ⟨gB HB⟩⟩
    · replace c5 := Bool.eq_false_iff.mpr c5
      subst c5
      have H1 : (spec_NestLayout.j0 k a0 l1 true) = some (r1, r2) := by rw [if_neg (show ¬ (false = true) by decide)] at H; exact H
      clear H
      have H := H1
      clear H1
      have H' := Aside0.mk H
      clear H
      go_wp2_with (first | ((with_reducible refine gate_callee (f := 29) rfl ?_); refine goesL_ (some 8) rfl rfl Try.func29 (by kernel_rfl) rfl #[.slice A1 l1.length c1] rfl (by (try simp only [List.map_toArray, List.map_cons, List.map_nil]); first | done | rfl | (simp only [List.length_drop, List.length_take]; rfl)) ?_; (with_reducible refine (spec_LayoutValid.calls k _ _ l1 false _ ?side1 ?side2 A4.out).mono ?_); (case side1 => exact gC (Kd.C_below HR1.out HB.out)); (case side2 => exact HC1.out); rintro e w' ⟨rfl, ⟨nd, rfl⟩⟩; refine ⟨_, rfl, ?_⟩))
      go_meet
      case rel => exact ⟨_, (true), (by first | rfl | (simp; done) | (simp [*]; done)), H', ⟨by first | omega | exact Nat.le_refl _⟩, ⟨gB HB⟩⟩
  case rest =>
    clear HC3
    try clear c1
    try clear c2
    try clear p2
    try clear c5
    try clear c6
    try clear c6b0
    obtain ⟨kq, x17_2, rfl, HA, HJ2, HB⟩ := hcut
    cases kq with
    | zero => exact absurd HA.out (by simp [spec_NestLayout.j0])
    | succ kj2 =>
      have H := HA.out
      clear HA
      simp only [spec_NestLayout.j0] at H
      by_cases c7 : x17_2 = true
      · subst c7
        have H1 : (some ((([] : List (SRow))), false)) = some (r1, r2) := by rw [if_pos rfl] at H; exact H
        clear H
        have H := H1
        clear H1
        obtain ⟨y604, hy604⟩ : ∃ y_ : List (SRow), y_ = (([] : List (SRow))) := ⟨_, rfl⟩
        replace H : (some (y604, false)) = some (r1, r2) := by first | (rw [hy604]; with_reducible exact H) | (have H2_ := (Option.bind_some _ _).symm.trans H; rw [hy604]; with_reducible exact H2_) | (have H2_ := (Option.bind_some _ _).symm.trans H; with_reducible exact H2_) | with_reducible exact H | (rw [hy604]; exact H) | exact H
        have Ny604 := Aside0.mk hy604
        clear hy604
        simp only [Option.some.injEq, Prod.mk.injEq] at H
        obtain ⟨rfl, rfl⟩ := H
        go_wp2_with (first | ((with_reducible refine gate_dst (N := 18) rfl ?_); refine Kd.R_lit k30 _ 30 ?hg (N := 18) ?hd (xs := ([] : List (SRow))) (inner := []) (ok := fun _ => True) (okp := fun _ => True) ?hr ?hp (fun _ hk => hk) trivial (Below.refl _ _) (Nat.le_refl _) (by simp) ?_; (case hd => rfl); (case hg => rfl); (case hr => first | (go_simp; done) | (go_simp; rfl)); (case hp => exact (Reps.none _ _)); intro v605 w8 ho9 hb hg_ hnew_; clear hg_ hnew_; (first | rw [← Ny604.out] at ho9 | (simp only [Int.reduceToNat] at ho9; rw [← Ny604.out] at ho9)); have n0_ := Aside0.mk (Kd.R_lower ho9 (below_size (gB HB))); have n1_ := Aside0.mk (below_step (gB HB) hb); clear HB; have HO606 := n0_; have HB := n1_; clear n0_ n1_; clear hb ho9))
        go_ret2
        exact ⟨_, by first | rfl | (simp [errW_none, errW_some] <;> rfl) | (simp [*, errW_none, errW_some] <;> rfl), gR HO606, gB HB⟩
      · replace c7 := Bool.eq_false_iff.mpr c7
        subst c7
        have H1 : ((spec_l2Nest.f kj2 a0 l1).bind fun t607 => ((spec_LayoutValid.f kj2 t607).bind fun t610 => (if t610 = true then (some (t607, true)) else (some ((([] : List (SRow))), false))))) = some (r1, r2) := by rw [if_neg (show ¬ (false = true) by decide)] at H; exact H
        clear H
        have H := H1
        clear H1
        replace H := Option.bind_eq_some_iff.mp H
        obtain ⟨t607, A100, H⟩ := H
        replace H : ((spec_LayoutValid.f kj2 t607).bind fun t610 => (if t610 = true then (some (t607, true)) else (some ((([] : List (SRow))), false)))) = some (r1, r2) := H
        have A10 := Aside0.mk A100
        clear A100
        replace H := Option.bind_eq_some_iff.mp H
        obtain ⟨t610, A110, H⟩ := H
        replace H : (if t610 = true then (some (t607, true)) else (some ((([] : List (SRow))), false))) = some (r1, r2) := H
        have A11 := Aside0.mk A110
        clear A110
        by_cases c12 : t610 = true
        · subst c12
          have H1 : (some (t607, true)) = some (r1, r2) := by rw [if_pos rfl] at H; exact H
          clear H
          have H := H1
          clear H1
          simp only [Option.some.injEq, Prod.mk.injEq] at H
          obtain ⟨rfl, rfl⟩ := H
          go_wp2_with (first | ((with_reducible refine gate_callee (f := 48) rfl ?_); refine goesL_ (some 21) rfl rfl Try.func48 (by kernel_rfl) rfl #[.int .i64 a0, .slice A1 l1.length c1] rfl (by (try simp only [List.map_toArray, List.map_cons, List.map_nil]); first | done | rfl | (simp only [List.length_drop, List.length_take]; rfl)) ?_; (with_reducible refine (spec_l2Nest.calls kj2 a0 _ _ l1 t607 _ ?side1 ?side2 A10.out).mono ?_); (case side1 => exact gC (Kd.C_below HR1.out HB.out)); (case side2 => exact HC1.out); rintro e w13 ⟨v608, rfl, ho0, hb⟩; refine ⟨_, rfl, ?_⟩; have n0_ := Aside0.mk (Kd.R_lower ho0 (below_size (gB HB))); have n1_ := Aside0.mk (below_step (gB HB) hb); clear HB; have HO609 := n0_; have HB := n1_; clear n0_ n1_; (try clear hb); (try clear hb2); (try clear hk); (try clear hi); (try clear ho0); obtain ⟨Ao14, co14, eo14⟩ := Kd.R_slice HO609.out; subst eo14) | ((with_reducible refine gate_callee (f := 29) rfl ?_); refine goesL_ (some 23) rfl rfl Try.func29 (by kernel_rfl) rfl #[.slice Ao14 t607.length co14] rfl (by (try simp only [List.map_toArray, List.map_cons, List.map_nil]); first | done | rfl | (simp only [List.length_drop, List.length_take]; rfl)) ?_; (with_reducible refine (spec_LayoutValid.calls kj2 _ _ t607 true _ ?side1 ?side2 A11.out).mono ?_); (case side1 => exact gC ((Kd.R_reads' HO609.out).2.2)); (case side2 => exact (Kd.R_reads' HO609.out).2.1); rintro e w' ⟨rfl, ⟨nd, rfl⟩⟩; refine ⟨_, rfl, ?_⟩))
          go_ret2
          exact ⟨_, by first | rfl | (simp [errW_none, errW_some] <;> rfl) | (simp [*, errW_none, errW_some] <;> rfl), gR HO609, gB HB⟩
        · replace c12 := Bool.eq_false_iff.mpr c12
          subst c12
          have H1 : (some ((([] : List (SRow))), false)) = some (r1, r2) := by rw [if_neg (show ¬ (false = true) by decide)] at H; exact H
          clear H
          have H := H1
          clear H1
          obtain ⟨y611, hy611⟩ : ∃ y_ : List (SRow), y_ = (([] : List (SRow))) := ⟨_, rfl⟩
          replace H : (some (y611, false)) = some (r1, r2) := by first | (rw [hy611]; with_reducible exact H) | (have H2_ := (Option.bind_some _ _).symm.trans H; rw [hy611]; with_reducible exact H2_) | (have H2_ := (Option.bind_some _ _).symm.trans H; with_reducible exact H2_) | with_reducible exact H | (rw [hy611]; exact H) | exact H
          have Ny611 := Aside0.mk hy611
          clear hy611
          simp only [Option.some.injEq, Prod.mk.injEq] at H
          obtain ⟨rfl, rfl⟩ := H
          go_wp2_with (first | ((with_reducible refine gate_callee (f := 48) rfl ?_); refine goesL_ (some 21) rfl rfl Try.func48 (by kernel_rfl) rfl #[.int .i64 a0, .slice A1 l1.length c1] rfl (by (try simp only [List.map_toArray, List.map_cons, List.map_nil]); first | done | rfl | (simp only [List.length_drop, List.length_take]; rfl)) ?_; (with_reducible refine (spec_l2Nest.calls kj2 a0 _ _ l1 t607 _ ?side1 ?side2 A10.out).mono ?_); (case side1 => exact gC (Kd.C_below HR1.out HB.out)); (case side2 => exact HC1.out); rintro e w15 ⟨v608, rfl, ho0, hb⟩; refine ⟨_, rfl, ?_⟩; have n0_ := Aside0.mk (Kd.R_lower ho0 (below_size (gB HB))); have n1_ := Aside0.mk (below_step (gB HB) hb); clear HB; have HO609 := n0_; have HB := n1_; clear n0_ n1_; (try clear hb); (try clear hb2); (try clear hk); (try clear hi); (try clear ho0); obtain ⟨Ao16, co16, eo16⟩ := Kd.R_slice HO609.out; subst eo16) | ((with_reducible refine gate_callee (f := 29) rfl ?_); refine goesL_ (some 23) rfl rfl Try.func29 (by kernel_rfl) rfl #[.slice Ao16 t607.length co16] rfl (by (try simp only [List.map_toArray, List.map_cons, List.map_nil]); first | done | rfl | (simp only [List.length_drop, List.length_take]; rfl)) ?_; (with_reducible refine (spec_LayoutValid.calls kj2 _ _ t607 false _ ?side1 ?side2 A11.out).mono ?_); (case side1 => exact gC ((Kd.R_reads' HO609.out).2.2)); (case side2 => exact (Kd.R_reads' HO609.out).2.1); rintro e w' ⟨rfl, ⟨nd, rfl⟩⟩; refine ⟨_, rfl, ?_⟩) | ((with_reducible refine gate_dst (N := 25) rfl ?_); refine Kd.R_lit k30 _ 30 ?hg (N := 25) ?hd (xs := ([] : List (SRow))) (inner := []) (ok := fun _ => True) (okp := fun _ => True) ?hr ?hp (fun _ hk => hk) trivial (Below.refl _ _) (Nat.le_refl _) (by simp) ?_; (case hd => rfl); (case hg => rfl); (case hr => first | (go_simp; done) | (go_simp; rfl)); (case hp => exact (Reps.none _ _)); intro v612 w17 ho18 hb hg_ hnew_; clear hg_ hnew_; (first | rw [← Ny611.out] at ho18 | (simp only [Int.reduceToNat] at ho18; rw [← Ny611.out] at ho18)); have n0_ := Aside0.mk (Kd.R_elder' (gR HO609) (Kd.R_base ho18) hb); have n1_ := Aside0.mk (Kd.R_lower (Kd.R_new' ho18 (Kd.R_lt (gR HO609))) (below_size (gB HB))); have n2_ := Aside0.mk (below_step (gB HB) hb); clear HO609; clear HB; have HO609 := n0_; have HO613 := n1_; have HB := n2_; clear n0_ n1_ n2_; clear hb ho18))
          go_ret2
          exact ⟨_, by first | rfl | (simp [errW_none, errW_some] <;> rfl) | (simp [*, errW_none, errW_some] <;> rfl), by (with_reducible repeat (first | apply Kd.R_alloc | apply Kd.R_drewN | apply Kd.R_drew)); exact Kd.R_mono HO613.out (fun _ hk => trivial), gB HB⟩
end Go.Proofs.Ytdhdfmmefghijab.P
namespace Go.Proofs.Ytdhdfmmefghijab.P
open Go.RowKit Go.Proofs.YtdhdfmmefghijabW.PrintWords Go.Proofs.YtdhdfmmefghijabW.PrintLast Go.Proofs.YtdhdfmmefghijabW.PrintMore
attribute [local go_sem] max2_int min2_int max_two min_two max_three min_three max_four min_four
set_option linter.unusedVariables false
set_option linter.unusedSimpArgs false
def impl_NestLayout.j0 : Nat → Int → List (SRow) → Bool → Option ((List (SRow)) × Bool)
  | 0, _, _, _ => none
  | k + 1, x0, x1, x17 => if x17 = true then (some (([] : List (SRow)), false)) else ((impl_nestRows.f k x0 x1).bind fun t599 => ((impl_LayoutValid.f k t599).bind fun t602 => (if t602 = true then (some (t599, true)) else (some (([] : List (SRow)), false)))))
def impl_NestLayout.f (k : Nat) (a0 : Int) (l1 : List (SRow)) : Option ((List (SRow)) × Bool) := (impl_LayoutValid.f k l1).bind fun t598 => (if t598 = true then (if a0 < 0 then (impl_NestLayout.j0 k a0 l1 true) else (impl_NestLayout.j0 k a0 l1 (decide (a0 > 200)))) else (impl_NestLayout.j0 k a0 l1 true))
set_option maxHeartbeats 8000000 in
set_option maxRecDepth 100000 in
theorem impl_NestLayout.calls (k : Nat) (a0 : Int) (A1 : Option Addr) (c1 : Nat) (l1 : List (SRow)) (r1 : List (SRow)) (r2 : Bool) (w : World) (hr1 : Kd.C k30 w A1 l1.length l1) (hc1 : l1.length ≤ c1) (h : impl_NestLayout.f k a0 l1 = some (r1, r2)) :
    Calls Try.prog 21 #[.int .i64 a0, .slice A1 l1.length c1] w fun e w' => ∃ v0_ : Value, e = .returned (.tuple #[v0_, .bool r2]) ∧ Kd.R k30 30 w' w.heap.size (fun _ => True) v0_ r1 ∧ Below w.heap.size w w' := by
  have HR1 := Aside0.mk hr1
  have HC1 := Aside0.mk hc1
  clear hr1 hc1
  have HB := Aside0.mk (Below.refl w.heap.size w)
  have H : ((impl_LayoutValid.f k l1).bind fun t598 => (if t598 = true then (if a0 < 0 then (impl_NestLayout.j0 k a0 l1 true) else (impl_NestLayout.j0 k a0 l1 (decide (a0 > 200)))) else (impl_NestLayout.j0 k a0 l1 true))) = some (r1, r2) := h
  clear h
  have HC3 := Aside0.mk H
  clear H
  go_enter Try.func21, Try.ntmps21
  go_upto_region 1 with (fail)
  go_cut [17] (fun v17 wc => ∃ (kq : Nat) (x17_2 : Bool), v17 = .bool x17_2 ∧ Aside0 (impl_NestLayout.j0 kq a0 l1 x17_2 = some (r1, r2)) ∧ Aside0 (kq ≤ k) ∧ Aside0 (Below w.heap.size w wc))
  case first =>
    have H := HC3.out
    clear HC3
    replace H := Option.bind_eq_some_iff.mp H
    obtain ⟨t598, A40, H⟩ := H
    replace H : (if t598 = true then (if a0 < 0 then (impl_NestLayout.j0 k a0 l1 true) else (impl_NestLayout.j0 k a0 l1 (decide (a0 > 200)))) else (impl_NestLayout.j0 k a0 l1 true)) = some (r1, r2) := H
    have A4 := Aside0.mk A40
    clear A40
    by_cases c5 : t598 = true
    · subst c5
      have H1 : (if a0 < 0 then (impl_NestLayout.j0 k a0 l1 true) else (impl_NestLayout.j0 k a0 l1 (decide (a0 > 200)))) = some (r1, r2) := by rw [if_pos rfl] at H; exact H
      clear H
      have H := H1
      clear H1
      by_cases c6 : a0 < 0
      · rw [if_pos c6] at H
        have c6b0 : decide (a0 < 0) = true := decide_eq_true c6
        clear c6
        (first | rw [c6b0] | (simp only [i64_w, i32_w]; rw [c6b0]) | skip)
        have H' := Aside0.mk H
        clear H
        go_wp2_with (first | ((with_reducible refine gate_callee (f := 19) rfl ?_); refine goesL_ (some 8) rfl rfl Try.func19 (by kernel_rfl) rfl #[.slice A1 l1.length c1] rfl (by (try simp only [List.map_toArray, List.map_cons, List.map_nil]); first | done | rfl | (simp only [List.length_drop, List.length_take]; rfl)) ?_; (with_reducible refine (impl_LayoutValid.calls k _ _ l1 true _ ?side1 ?side2 A4.out).mono ?_); (case side1 => exact gC (Kd.C_below HR1.out HB.out)); (case side2 => exact HC1.out); rintro e w7 ⟨rfl, hb⟩; refine ⟨_, rfl, ?_⟩; have n0_ := Aside0.mk (below_step (gB HB) hb); clear HB; have HB := n0_; clear n0_; (try clear hb); (try clear hb2); (try clear hk); (try clear hi)))
        go_meet
        case rel => exact ⟨_, (true), (by first | rfl | (simp; done) | (simp [*]; done)), H', ⟨by first | omega | exact Nat.le_refl _⟩, ⟨gB HB⟩⟩
      · rw [if_neg c6] at H
        have c6b0 : decide (a0 < 0) = false := decide_eq_false c6
        clear c6
        (first | rw [c6b0] | (simp only [i64_w, i32_w]; rw [c6b0]) | skip)
        have H' := Aside0.mk H
        clear H
        go_wp2_with (first | ((with_reducible refine gate_callee (f := 19) rfl ?_); refine goesL_ (some 8) rfl rfl Try.func19 (by kernel_rfl) rfl #[.slice A1 l1.length c1] rfl (by (try simp only [List.map_toArray, List.map_cons, List.map_nil]); first | done | rfl | (simp only [List.length_drop, List.length_take]; rfl)) ?_; (with_reducible refine (impl_LayoutValid.calls k _ _ l1 true _ ?side1 ?side2 A4.out).mono ?_); (case side1 => exact gC (Kd.C_below HR1.out HB.out)); (case side2 => exact HC1.out); rintro e w8 ⟨rfl, hb⟩; refine ⟨_, rfl, ?_⟩; have n0_ := Aside0.mk (below_step (gB HB) hb); clear HB; have HB := n0_; clear n0_; (try clear hb); (try clear hb2); (try clear hk); (try clear hi)))
        go_meet
        case rel => exact ⟨_, (decide (a0 > 200)), (by first | rfl | (simp; done) | (simp [*]; done)), H', ⟨by first | omega | exact Nat.le_refl _⟩, ⟨gB HB⟩⟩
    · replace c5 := Bool.eq_false_iff.mpr c5
      subst c5
      have H1 : (impl_NestLayout.j0 k a0 l1 true) = some (r1, r2) := by rw [if_neg (show ¬ (false = true) by decide)] at H; exact H
      clear H
      have H := H1
      clear H1
      have H' := Aside0.mk H
      clear H
      go_wp2_with (first | ((with_reducible refine gate_callee (f := 19) rfl ?_); refine goesL_ (some 8) rfl rfl Try.func19 (by kernel_rfl) rfl #[.slice A1 l1.length c1] rfl (by (try simp only [List.map_toArray, List.map_cons, List.map_nil]); first | done | rfl | (simp only [List.length_drop, List.length_take]; rfl)) ?_; (with_reducible refine (impl_LayoutValid.calls k _ _ l1 false _ ?side1 ?side2 A4.out).mono ?_); (case side1 => exact gC (Kd.C_below HR1.out HB.out)); (case side2 => exact HC1.out); rintro e w9 ⟨rfl, hb⟩; refine ⟨_, rfl, ?_⟩; have n0_ := Aside0.mk (below_step (gB HB) hb); clear HB; have HB := n0_; clear n0_; (try clear hb); (try clear hb2); (try clear hk); (try clear hi)))
      go_meet
      case rel => exact ⟨_, (true), (by first | rfl | (simp; done) | (simp [*]; done)), H', ⟨by first | omega | exact Nat.le_refl _⟩, ⟨gB HB⟩⟩
  case rest =>
    clear HC3
    try clear c1
    try clear c2
    try clear p2
    try clear c5
    try clear c6
    try clear c6b0
    obtain ⟨kq, x17_2, rfl, HA, HJ2, HB⟩ := hcut
    cases kq with
    | zero => exact absurd HA.out (by simp [impl_NestLayout.j0])
    | succ kj2 =>
      have H := HA.out
      clear HA
      simp only [impl_NestLayout.j0] at H
      by_cases c10 : x17_2 = true
      · subst c10
        have H1 : (some (([] : List (SRow)), false)) = some (r1, r2) := by rw [if_pos rfl] at H; exact H
        clear H
        have H := H1
        clear H1
        simp only [Option.some.injEq, Prod.mk.injEq] at H
        obtain ⟨rfl, rfl⟩ := H
        go_wp2
        go_ret2
        exact ⟨_, by first | rfl | (simp [errW_none, errW_some] <;> rfl) | (simp [*, errW_none, errW_some] <;> rfl), by first | exact Kd.R_nil _ _ _ _ _ | exact Kd.N_nil _ _ _ _ _ | exact Kd.V_nil _ _ _ _ _ | exact Kd.Q_nil _ _ _ _ _ | exact Kd.S_nil _ _ _ _ _, gB HB⟩
      · replace c10 := Bool.eq_false_iff.mpr c10
        subst c10
        have H1 : ((impl_nestRows.f kj2 a0 l1).bind fun t599 => ((impl_LayoutValid.f kj2 t599).bind fun t602 => (if t602 = true then (some (t599, true)) else (some (([] : List (SRow)), false))))) = some (r1, r2) := by rw [if_neg (show ¬ (false = true) by decide)] at H; exact H
        clear H
        have H := H1
        clear H1
        replace H := Option.bind_eq_some_iff.mp H
        obtain ⟨t599, A110, H⟩ := H
        replace H : ((impl_LayoutValid.f kj2 t599).bind fun t602 => (if t602 = true then (some (t599, true)) else (some (([] : List (SRow)), false)))) = some (r1, r2) := H
        have A11 := Aside0.mk A110
        clear A110
        replace H := Option.bind_eq_some_iff.mp H
        obtain ⟨t602, A120, H⟩ := H
        replace H : (if t602 = true then (some (t599, true)) else (some (([] : List (SRow)), false))) = some (r1, r2) := H
        have A12 := Aside0.mk A120
        clear A120
        by_cases c13 : t602 = true
        · subst c13
          have H1 : (some (t599, true)) = some (r1, r2) := by rw [if_pos rfl] at H; exact H
          clear H
          have H := H1
          clear H1
          simp only [Option.some.injEq, Prod.mk.injEq] at H
          obtain ⟨rfl, rfl⟩ := H
          go_wp2_with (first | ((with_reducible refine gate_callee (f := 47) rfl ?_); refine goesL_ (some 20) rfl rfl Try.func47 (by kernel_rfl) rfl #[.int .i64 a0, .slice A1 l1.length c1] rfl (by (try simp only [List.map_toArray, List.map_cons, List.map_nil]); first | done | rfl | (simp only [List.length_drop, List.length_take]; rfl)) ?_; (with_reducible refine (impl_nestRows.calls kj2 a0 _ _ l1 t599 _ ?side1 ?side2 A11.out).mono ?_); (case side1 => exact gC (Kd.C_below HR1.out HB.out)); (case side2 => exact HC1.out); rintro e w14 ⟨v600, rfl, ho0, hb⟩; refine ⟨_, rfl, ?_⟩; have n0_ := Aside0.mk (Kd.R_lower ho0 (below_size (gB HB))); have n1_ := Aside0.mk (below_step (gB HB) hb); clear HB; have HO601 := n0_; have HB := n1_; clear n0_ n1_; (try clear hb); (try clear hb2); (try clear hk); (try clear hi); (try clear ho0); obtain ⟨Ao15, co15, eo15⟩ := Kd.R_slice HO601.out; subst eo15) | ((with_reducible refine gate_callee (f := 19) rfl ?_); refine goesL_ (some 22) rfl rfl Try.func19 (by kernel_rfl) rfl #[.slice Ao15 t599.length co15] rfl (by (try simp only [List.map_toArray, List.map_cons, List.map_nil]); first | done | rfl | (simp only [List.length_drop, List.length_take]; rfl)) ?_; (with_reducible refine (impl_LayoutValid.calls kj2 _ _ t599 true _ ?side1 ?side2 A12.out).mono ?_); (case side1 => exact gC ((Kd.R_reads' HO601.out).2.2)); (case side2 => exact (Kd.R_reads' HO601.out).2.1); rintro e w16 ⟨rfl, hb⟩; refine ⟨_, rfl, ?_⟩; have n0_ := Aside0.mk (Kd.R_below (gR HO601) hb); have n1_ := Aside0.mk (below_step (gB HB) hb); clear HO601; clear HB; have HO601 := n0_; have HB := n1_; clear n0_ n1_; (try clear hb); (try clear hb2); (try clear hk); (try clear hi)))
          go_ret2
          exact ⟨_, by first | rfl | (simp [errW_none, errW_some] <;> rfl) | (simp [*, errW_none, errW_some] <;> rfl), gR HO601, gB HB⟩
        · replace c13 := Bool.eq_false_iff.mpr c13
          subst c13
          have H1 : (some (([] : List (SRow)), false)) = some (r1, r2) := by rw [if_neg (show ¬ (false = true) by decide)] at H; exact H
          clear H
          have H := H1
          clear H1
          simp only [Option.some.injEq, Prod.mk.injEq] at H
          obtain ⟨rfl, rfl⟩ := H
          go_wp2_with (first | ((with_reducible refine gate_callee (f := 47) rfl ?_); refine goesL_ (some 20) rfl rfl Try.func47 (by kernel_rfl) rfl #[.int .i64 a0, .slice A1 l1.length c1] rfl (by (try simp only [List.map_toArray, List.map_cons, List.map_nil]); first | done | rfl | (simp only [List.length_drop, List.length_take]; rfl)) ?_; (with_reducible refine (impl_nestRows.calls kj2 a0 _ _ l1 t599 _ ?side1 ?side2 A11.out).mono ?_); (case side1 => exact gC (Kd.C_below HR1.out HB.out)); (case side2 => exact HC1.out); rintro e w17 ⟨v600, rfl, ho0, hb⟩; refine ⟨_, rfl, ?_⟩; have n0_ := Aside0.mk (Kd.R_lower ho0 (below_size (gB HB))); have n1_ := Aside0.mk (below_step (gB HB) hb); clear HB; have HO601 := n0_; have HB := n1_; clear n0_ n1_; (try clear hb); (try clear hb2); (try clear hk); (try clear hi); (try clear ho0); obtain ⟨Ao18, co18, eo18⟩ := Kd.R_slice HO601.out; subst eo18) | ((with_reducible refine gate_callee (f := 19) rfl ?_); refine goesL_ (some 22) rfl rfl Try.func19 (by kernel_rfl) rfl #[.slice Ao18 t599.length co18] rfl (by (try simp only [List.map_toArray, List.map_cons, List.map_nil]); first | done | rfl | (simp only [List.length_drop, List.length_take]; rfl)) ?_; (with_reducible refine (impl_LayoutValid.calls kj2 _ _ t599 false _ ?side1 ?side2 A12.out).mono ?_); (case side1 => exact gC ((Kd.R_reads' HO601.out).2.2)); (case side2 => exact (Kd.R_reads' HO601.out).2.1); rintro e w19 ⟨rfl, hb⟩; refine ⟨_, rfl, ?_⟩; have n0_ := Aside0.mk (Kd.R_below (gR HO601) hb); have n1_ := Aside0.mk (below_step (gB HB) hb); clear HO601; clear HB; have HO601 := n0_; have HB := n1_; clear n0_ n1_; (try clear hb); (try clear hb2); (try clear hk); (try clear hi)))
          go_ret2
          exact ⟨_, by first | rfl | (simp [errW_none, errW_some] <;> rfl) | (simp [*, errW_none, errW_some] <;> rfl), by first | exact Kd.R_nil _ _ _ _ _ | exact Kd.N_nil _ _ _ _ _ | exact Kd.V_nil _ _ _ _ _ | exact Kd.Q_nil _ _ _ _ _ | exact Kd.S_nil _ _ _ _ _, gB HB⟩
end Go.Proofs.Ytdhdfmmefghijab.P
namespace Go.Proofs.Ytdhdfmmefghijab.Pure
open Go.RowKit Go.Proofs.Ytdhdfmmefghijab.P Go.Proofs.YtdhdfmmefghijabW.PrintWords Go.Proofs.YtdhdfmmefghijabW.PrintLast Go.Proofs.YtdhdfmmefghijabW.PrintMore
set_option linter.unusedVariables false
set_option linter.unusedSimpArgs false
def inR (n : Int) (r : SRow) : SRow := ⟨wrap64 (r.f0 + n), r.f1⟩
def nestO (n : Int) : List SRow → List SRow
  | [] => []
  | r :: t => r :: t.map (inR n)
theorem setN (a b : List SRow) (d z : SRow) : (a ++ d :: b).set (a.length : Int).toNat z = a ++ z :: b := by
  rw [Int.toNat_natCast, List.set_append_right _ _ (Nat.le_refl _), Nat.sub_self, List.set_cons_zero]
theorem specNest_loop (n : Int) (suf : List SRow) : ∀ pre : List SRow, pre.length + suf.length ≤ 1099511627776 →
    Ev (fun k => spec_l2Nest.l0 k n (pre ++ suf) (pre.length : Int)) (pre ++ suf.map (inR n)) := by
  induction suf with
  | nil =>
    intro pre hm
    refine Ev.step (fun k => by rw [spec_l2Nest.l0]) ?_
    simp only [List.append_nil, Int.lt_irrefl, if_false, List.map_nil]
    exact Ev.now _
  | cons y suf ih =>
    intro pre hm
    simp only [List.length_cons] at hm
    refine Ev.step (fun k => by rw [spec_l2Nest.l0]) ?_
    have c1 : (pre.length : Int) < ((pre ++ y :: suf).length : Int) := by simp; omega
    have c2 : (0 : Int) ≤ (pre.length : Int) := by omega
    simp only [if_pos c1, if_pos c2, rdR, setN]
    rw [w64 (i := (pre.length : Int) + 1) (by omega) (by omega)]
    have := ih (pre ++ [inR n y]) (by simp; omega)
    rw [List.append_assoc, List.append_assoc, show ((pre ++ [inR n y]).length : Int) = (pre.length : Int) + 1 by simp] at this
    exact this
theorem implNest_loop (n : Int) (suf : List SRow) : ∀ pre : List SRow, pre.length + suf.length ≤ 1099511627776 →
    Ev (fun k => impl_nestRows.l0 k n (pre ++ suf) (pre.length : Int)) (pre ++ suf.map (inR n)) := by
  induction suf with
  | nil =>
    intro pre hm
    refine Ev.step (fun k => by rw [impl_nestRows.l0]) ?_
    simp only [List.append_nil, Int.lt_irrefl, if_false, List.map_nil]
    exact Ev.now _
  | cons y suf ih =>
    intro pre hm
    simp only [List.length_cons] at hm
    refine Ev.step (fun k => by rw [impl_nestRows.l0]) ?_
    have c1 : (pre.length : Int) < ((pre ++ y :: suf).length : Int) := by simp; omega
    have c2 : (0 : Int) ≤ (pre.length : Int) := by omega
    simp only [if_pos c1, if_pos c2, rdR, setN]
    rw [w64 (i := (pre.length : Int) + 1) (by omega) (by omega)]
    have := ih (pre ++ [inR n y]) (by simp; omega)
    rw [List.append_assoc, List.append_assoc, show ((pre ++ [inR n y]).length : Int) = (pre.length : Int) + 1 by simp] at this
    exact this
theorem specNest_ev (n : Int) (l : List SRow) (h0 : 0 < l.length) (h1 : l.length ≤ 1048576) : Ev (fun k => spec_l2Nest.f k n l) (nestO n l) := by
  refine Ev.congr (fun k => by rw [spec_l2Nest.f]) ?_
  simp only [Option.bind_some, List.nil_append, List.length_nil, Nat.zero_add, if_pos (show l.length < 5864062014805 by omega)]
  cases l with
  | nil => simp at h0
  | cons r t => exact specNest_loop n t [r] (by simp at h1 ⊢; omega)
theorem implNest_ev (n : Int) (l : List SRow) (h0 : 0 < l.length) (h1 : l.length ≤ 1048576) : Ev (fun k => impl_nestRows.f k n l) (nestO n l) := by
  refine Ev.congr (fun k => by rw [impl_nestRows.f]) ?_
  simp only [slices_Clone_Llimpl_Row.f, if_pos (show l.length < 5864062014805 by omega), Option.bind_some]
  cases l with
  | nil => simp at h0
  | cons r t => exact implNest_loop n t [r] (by simp at h1 ⊢; omega)
theorem nestO_sizes (n : Int) {l : List SRow} (h : ∀ y ∈ l, y.f1.size ≤ 1048576) : (nestO n l).length = l.length ∧ ∀ y ∈ nestO n l, y.f1.size ≤ 1048576 := by
  cases l with
  | nil => exact ⟨rfl, h⟩
  | cons r t =>
    refine ⟨by simp [nestO], fun y hy => ?_⟩
    rcases List.mem_cons.1 hy with rfl | hy
    · exact h _ List.mem_cons_self
    · obtain ⟨z, hz, rfl⟩ := List.mem_map.1 hy
      exact h z (List.mem_cons_of_mem _ hz)
def nestL (n : Int) (l : List SRow) : List SRow × Bool := if layV l = true ∧ 0 ≤ n ∧ n ≤ 200 then (if layV (nestO n l) = true then (nestO n l, true) else ([], false)) else ([], false)
theorem specNestL_ev (n : Int) (l : List SRow) (hl : l.length ≤ 1048576) (h : ∀ y ∈ l, y.f1.size ≤ 1048576) : Ev (fun k => spec_NestLayout.f k n l) (nestL n l) := by
  refine Ev.congr (fun k => by rw [spec_NestLayout.f]) ?_
  refine Ev.bind (specLV_ev l (by omega) (fun y hy => by have := h y hy; omega)) ?_
  have F : Ev (fun k => spec_NestLayout.j0 k n l true) ([], false) := Ev.step (fun k => by rw [spec_NestLayout.j0]) (by simp only [if_true]; exact Ev.now _)
  by_cases hv : layV l = true
  · simp only [if_pos hv]
    have hz := nestO_sizes n h
    refine Ev.iff (fun c => ?_) (fun c => ?_)
    · rw [nestL, if_neg (by omega)]; exact F
    · by_cases c2 : n > 200
      · rw [nestL, if_neg (by omega), decide_eq_true c2]; exact F
      · rw [nestL, if_pos ⟨hv, by omega, by omega⟩, decide_eq_false c2]
        refine Ev.step (fun k => by rw [spec_NestLayout.j0]) ?_
        simp only [Bool.false_eq_true, if_false]
        refine Ev.bind (specNest_ev n l (layV_ok hv).1 hl) ?_
        refine Ev.bind (specLV_ev _ (by omega) (fun y hy => by have := hz.2 y hy; omega)) ?_
        by_cases ho : layV (nestO n l) = true
        · simp only [if_pos ho]; exact Ev.now _
        · simp only [if_neg ho]; exact Ev.now _
  · simp only [if_neg hv]
    rw [nestL, if_neg (fun c => hv c.1)]
    exact F
theorem implNestL_ev (n : Int) (l : List SRow) (hl : l.length ≤ 1048576) (h : ∀ y ∈ l, y.f1.size ≤ 1048576) : Ev (fun k => impl_NestLayout.f k n l) (nestL n l) := by
  refine Ev.congr (fun k => by rw [impl_NestLayout.f]) ?_
  refine Ev.bind (implLV_ev l (by omega) (fun y hy => by have := h y hy; omega)) ?_
  have F : Ev (fun k => impl_NestLayout.j0 k n l true) ([], false) := Ev.step (fun k => by rw [impl_NestLayout.j0]) (by simp only [if_true]; exact Ev.now _)
  by_cases hv : layV l = true
  · simp only [if_pos hv]
    have hz := nestO_sizes n h
    refine Ev.iff (fun c => ?_) (fun c => ?_)
    · rw [nestL, if_neg (by omega)]; exact F
    · by_cases c2 : n > 200
      · rw [nestL, if_neg (by omega), decide_eq_true c2]; exact F
      · rw [nestL, if_pos ⟨hv, by omega, by omega⟩, decide_eq_false c2]
        refine Ev.step (fun k => by rw [impl_NestLayout.j0]) ?_
        simp only [Bool.false_eq_true, if_false]
        refine Ev.bind (implNest_ev n l (layV_ok hv).1 hl) ?_
        refine Ev.bind (implLV_ev _ (by omega) (fun y hy => by have := hz.2 y hy; omega)) ?_
        by_cases ho : layV (nestO n l) = true
        · simp only [if_pos ho]; exact Ev.now _
        · simp only [if_neg ho]; exact Ev.now _
  · simp only [if_neg hv]
    rw [nestL, if_neg (fun c => hv c.1)]
    exact F
end Go.Proofs.Ytdhdfmmefghijab.Pure
namespace Go.Proofs.Ytdhdfmmefghijab.Pure
open Go.RowKit Go.Proofs.Ytdhdfmmefghijab.P Go.Proofs.YtdhdfmmefghijabW.PrintWords Go.Proofs.YtdhdfmmefghijabW.PrintLast Go.Proofs.YtdhdfmmefghijabW.PrintMore
set_option linter.unusedVariables false
set_option linter.unusedSimpArgs false
def Code (b : List Int) : Prop := b.length ≤ 2000 ∧ ∀ x ∈ b, 0 ≤ x ∧ x < 256
theorem open_ev (l : List Int) (hl : l.length ≤ maxLen) (h : ∀ x ∈ l, (Lit.int .u8 x).wf = true) : ∃ b, Code b ∧ spec_l15Open.f l = some (b, 0) := by
  have hx : ∀ x ∈ l, 0 ≤ x ∧ x < 256 := by
    intro x hx
    have := h x hx
    have e1 : IntKind.u8.min = 0 := rfl
    have e2 : IntKind.u8.max = 255 := rfl
    simp [Lit.wf, e1, e2] at this
    omega
  rw [spec_l15Open.f]
  by_cases c : (l.length : Int) > 2000
  · rw [if_pos c, if_pos (by omega)]
    exact ⟨l.take 2000, ⟨by rw [List.length_take]; omega, fun x hx' => hx x (List.mem_of_mem_take hx')⟩, rfl⟩
  · rw [if_neg c]
    exact ⟨l, ⟨by omega, hx⟩, rfl⟩
theorem rd_in {b : List Int} (hb : Code b) (i : Int) : 0 ≤ rd b i ∧ rd b i < 256 := by
  unfold rd
  rw [List.getD_eq_getElem?_getD]
  cases h : b[i.toNat]? with
  | none => simp
  | some x =>
    have := hb.2 x (List.mem_of_getElem? h)
    simpa using this
theorem xor_nonneg (x y : Int) (hx0 : 0 ≤ x) (hx : x < 4611686018427387904) (hy0 : 0 ≤ y) (hy : y < 4611686018427387904) : 0 ≤ Go.bits .xor .i64 x y := by
  obtain ⟨n, rfl⟩ := Int.eq_ofNat_of_zero_le hx0
  obtain ⟨m, rfl⟩ := Int.eq_ofNat_of_zero_le hy0
  have hn : n < 2 ^ 62 := by omega
  have hm : m < 2 ^ 62 := by omega
  have hxm : n ^^^ m < 2 ^ 62 := Nat.xor_lt_two_pow hn hm
  have e1 : (BitVec.ofInt 64 (n : Int)).toNat = n := by
    rw [BitVec.ofInt_natCast, BitVec.toNat_ofNat]
    exact Nat.mod_eq_of_lt (by omega)
  have e2 : (BitVec.ofInt 64 (m : Int)).toNat = m := by
    rw [BitVec.ofInt_natCast, BitVec.toNat_ofNat]
    exact Nat.mod_eq_of_lt (by omega)
  have e : Go.bits .xor .i64 (n : Int) (m : Int) = IntKind.i64.wrap ((n ^^^ m : Nat) : Int) := by
    show IntKind.i64.wrap ((BitVec.ofInt 64 (n : Int) ^^^ BitVec.ofInt 64 (m : Int)).toNat : Int) = _
    rw [BitVec.toNat_xor, e1, e2]
  rw [e]
  have w : IntKind.i64.wrap ((n ^^^ m : Nat) : Int) = ((n ^^^ m : Nat) : Int) := by
    simp [IntKind.wrap, IntKind.bits, IntKind.signed]
    omega
  rw [w]
  omega
theorem tm_in (x : Int) {n : Int} (h0 : 0 ≤ x) (hn : 0 < n) : 0 ≤ Int.tmod x n ∧ Int.tmod x n < n := ⟨Int.tmod_nonneg n h0, Int.tmod_lt_of_pos x hn⟩
theorem pick_ev {b : List Int} (hb : Code b) (p n : Int) (hp0 : 0 ≤ p) (hp : p ≤ 1000000000) : ∃ r, Ev (fun k => spec_l15Rd_pick.f k b p n) (r, p + 1) ∧ 0 ≤ r ∧ (1 ≤ n → r < n) := by
  have w1 : wrap64 (p + 1) = p + 1 := w64 (by omega) (by omega)
  have w2 : wrap64 (p + 1 - 1) = p := by rw [w64 (by omega) (by omega)]; omega
  have hl := hb.1
  have J0 : Ev (fun k => spec_l15Rd_pick.j0 k n true b (p + 1)) (0, p + 1) := by
    refine Ev.step (fun k => by rw [spec_l15Rd_pick.j0]) ?_
    simp only [if_true]
    exact Ev.now _
  by_cases c1 : n < 1
  · refine ⟨0, Ev.congr (fun k => by rw [spec_l15Rd_pick.f, if_pos c1, w1]) J0, Int.le_refl _, fun h => by omega⟩
  by_cases c2 : (b.length : Int) = 0
  · refine ⟨0, Ev.congr (fun k => by rw [spec_l15Rd_pick.f, if_neg c1, w1, show (((b.length : Int)) == 0) = true by simpa using c2]) J0, Int.le_refl _, fun h => by omega⟩
  have hn0 : n ≠ 0 := by omega
  have start : ∀ R, Ev (fun k => spec_l15Rd_pick.j0 k n false b (p + 1)) R → Ev (fun k => spec_l15Rd_pick.f k b p n) R := by
    intro R h
    exact Ev.congr (fun k => by rw [spec_l15Rd_pick.f, if_neg c1, w1, show (((b.length : Int)) == 0) = false by simpa using c2]) h
  by_cases c3 : p < (b.length : Int)
  · have hr := rd_in hb p
    have w3 : wrap64 (rd b p) = rd b p := w64 (by omega) (by omega)
    have ht := tm_in (rd b p) (n := n) hr.1 (by omega)
    refine ⟨Int.tmod (rd b p) n, start _ (Ev.step (fun k => by rw [spec_l15Rd_pick.j0]) ?_), ht.1, fun _ => ht.2⟩
    simp only [Bool.false_eq_true, if_false, w2, if_pos c3, if_pos hp0, if_neg hn0, w3]
    exact Ev.now _
  · have hlp : 0 < (b.length : Int) := by omega
    have t1 := tm_in p hp0 hlp
    have w3 : wrap64 (p * 7) = p * 7 := w64 (by omega) (by omega)
    have w4 : wrap64 (p * 7 + 3) = p * 7 + 3 := w64 (by omega) (by omega)
    have t2 := tm_in (p * 7 + 3) (by omega) hlp
    have r1 := rd_in hb (Int.tmod p (b.length : Int))
    have r2 := rd_in hb (Int.tmod (p * 7 + 3) (b.length : Int))
    have d0 : 0 ≤ Int.tdiv p (b.length : Int) := Int.tdiv_nonneg hp0 (by omega)
    have d1 : Int.tdiv p (b.length : Int) ≤ p := by
      obtain ⟨m, rfl⟩ := Int.eq_ofNat_of_zero_le hp0
      have : Int.tdiv (m : Int) (b.length : Int) = ((m / b.length : Nat) : Int) := rfl
      rw [this]
      exact Int.ofNat_le.2 (Nat.div_le_self _ _)
    generalize hA : rd b (Int.tmod p (b.length : Int)) = A at r1
    generalize hB : rd b (Int.tmod (p * 7 + 3) (b.length : Int)) = B at r2
    generalize hD : Int.tdiv p (b.length : Int) = D at d0 d1
    have e1 : wrap64 (wrap64 A * 131) = A * 131 := by rw [w64 (i := A) (by omega) (by omega), w64 (by omega) (by omega)]
    have e2 : wrap64 (wrap64 B * 1117) = B * 1117 := by rw [w64 (i := B) (by omega) (by omega), w64 (by omega) (by omega)]
    have e3 : wrap64 (p * 29) = p * 29 := w64 (by omega) (by omega)
    have e4 : wrap64 (wrap64 D * 53) = D * 53 := by rw [w64 (i := D) (by omega) (by omega), w64 (by omega) (by omega)]
    have e5 : wrap64 (A * 131 + B * 1117) = A * 131 + B * 1117 := w64 (by omega) (by omega)
    have e6 : wrap64 (A * 131 + B * 1117 + p * 29) = A * 131 + B * 1117 + p * 29 := w64 (by omega) (by omega)
    have e7 : wrap64 (A * 131 + B * 1117 + p * 29 + D * 53) = A * 131 + B * 1117 + p * 29 + D * 53 := w64 (by omega) (by omega)
    generalize hX : A * 131 + B * 1117 + p * 29 + D * 53 = X at e7
    have hX0 : 0 ≤ X := by omega
    have hX1 : X ≤ 1000000000000 := by omega
    have q0 : 0 ≤ Int.tdiv X 64 := Int.tdiv_nonneg hX0 (by omega)
    have q1 : Int.tdiv X 64 ≤ X := by
      obtain ⟨m, rfl⟩ := Int.eq_ofNat_of_zero_le hX0
      have : Int.tdiv (m : Int) 64 = ((m / 64 : Nat) : Int) := rfl
      rw [this]
      exact Int.ofNat_le.2 (Nat.div_le_self _ _)
    have e8 : wrap64 (Int.tdiv X 64) = Int.tdiv X 64 := w64 (by omega) (by omega)
    have hx := xor_nonneg X (Int.tdiv X 64) hX0 (by omega) q0 (by omega)
    have ht := tm_in (Go.bits .xor .i64 X (Int.tdiv X 64)) (n := n) hx (by omega)
    refine ⟨Int.tmod (Go.bits .xor .i64 X (Int.tdiv X 64)) n, start _ (Ev.step (fun k => by rw [spec_l15Rd_pick.j0]) ?_), ht.1, fun _ => ht.2⟩
    simp only [Bool.false_eq_true, if_false, w2, if_neg c3, if_neg c2, w3, w4, if_pos t1.1, if_pos t1.2, if_pos t2.1, if_pos t2.2, if_neg hn0, hA, hB, hD, e1, e2, e3, e4, e5, e6, e7, hX, e8]
    exact Ev.now _
theorem of_ev {b : List Int} (hb : Code b) (p : Int) (l : List ByteArray) (hl : 0 < l.length) (hp0 : 0 ≤ p) (hp : p ≤ 1000000000) : ∃ s, s ∈ l ∧ Ev (fun k => spec_l15Rd_of.f k b p l) (s, p + 1) := by
  obtain ⟨r, h, h0, h1⟩ := pick_ev hb p (l.length : Int) hp0 hp
  have h1 := h1 (by omega)
  have hr : r.toNat < l.length := by omega
  refine ⟨rdOf ByteArray.empty l r, ?_, Ev.congr (fun k => by rw [spec_l15Rd_of.f]) (Ev.bind h ?_)⟩
  · unfold rdOf
    rw [List.getD_eq_getElem?_getD, List.getElem?_eq_getElem hr]
    exact List.getElem_mem hr
  · simp only [if_pos h0, if_pos h1]
    exact Ev.now _
theorem num_ev {b : List Int} (hb : Code b) (p : Int) (l : List Int) (hl : 0 < l.length) (hp0 : 0 ≤ p) (hp : p ≤ 1000000000) : ∃ s, s ∈ l ∧ Ev (fun k => spec_l15Rd_num.f k b p l) (s, p + 1) := by
  obtain ⟨r, h, h0, h1⟩ := pick_ev hb p (l.length : Int) hp0 hp
  have h1 := h1 (by omega)
  have hr : r.toNat < l.length := by omega
  refine ⟨rd l r, ?_, Ev.congr (fun k => by rw [spec_l15Rd_num.f]) (Ev.bind h ?_)⟩
  · unfold rd
    rw [List.getD_eq_getElem?_getD, List.getElem?_eq_getElem hr]
    exact List.getElem_mem hr
  · simp only [if_pos h0, if_pos h1]
    exact Ev.now _
end Go.Proofs.Ytdhdfmmefghijab.Pure
namespace Go.Proofs.Ytdhdfmmefghijab.P
open Go.RowKit Go.Proofs.YtdhdfmmefghijabW.PrintWords Go.Proofs.YtdhdfmmefghijabW.PrintLast Go.Proofs.YtdhdfmmefghijabW.PrintMore
attribute [local go_sem] max2_int min2_int max_two min_two max_three min_three max_four min_four
set_option linter.unusedVariables false
set_option linter.unusedSimpArgs false
def docKids (o : Int) : Int := if o = 7 then 2 else if o = 6 then 1 else if o = 8 then 1 else 0
mutual
def impl_docOk.l0 : Nat → List (SDoc) → Int → Int → Int → Option (Bool × Int)
  | 0, _, _, _, _ => none
  | k + 1, ks, i, deep, left => if i < (ks.length : Int) then (if 0 ≤ i then ((impl_docOk.f k ((rd_TDoc ks i).f0) ((rd_TDoc ks i).f1) ((rd_TDoc ks i).f2) ((rd_TDoc ks i).f3) (wrap64 (deep - 1)) left).bind fun b => (if b.1 = true then (impl_docOk.l0 k ks (wrap64 (i + 1)) deep b.2) else (some (false, b.2)))) else (none)) else (some (true, left))
def impl_docOk.f : Nat → Int → Int → ByteArray → List (SDoc) → Int → Int → Option (Bool × Int)
  | 0, _, _, _, _, _, _ => none
  | k + 1, o, n, t, ks, deep, left => if deep = 0 ∨ (wrap64 (left - 1)) < 0 ∨ o < 1 ∨ 8 < o then (some (false, (wrap64 (left - 1)))) else (if ¬ ((ks.length : Int) = docKids o) ∨ n < 0 ∨ 9 < n ∨ (0 < n ∧ ¬ (o = 6)) then (some (false, (wrap64 (left - 1)))) else (if o = 2 then ((impl_TextValid.f k t).bind fun b => (if b = true then (impl_docOk.l0 k ks 0 deep (wrap64 (left - 1))) else (some (false, (wrap64 (left - 1)))))) else (if t.toList = [] then (impl_docOk.l0 k ks 0 deep (wrap64 (left - 1))) else (some (false, (wrap64 (left - 1)))))))
end
def impl_DocValid.f (k : Nat) (a0_0 : Int) (a0_1 : Int) (a0_2 : ByteArray) (l0_3 : List (SDoc)) : Option (Bool) := (impl_docOk.f k a0_0 a0_1 a0_2 l0_3 40 80).bind fun b => (some b.1)
end Go.Proofs.Ytdhdfmmefghijab.P
namespace Go.Proofs.Ytdhdfmmefghijab.Pure
open Go.RowKit Go.Proofs.Ytdhdfmmefghijab.P Go.Proofs.YtdhdfmmefghijabW.PrintWords Go.Proofs.YtdhdfmmefghijabW.PrintLast Go.Proofs.YtdhdfmmefghijabW.PrintMore
set_option linter.unusedVariables false
set_option linter.unusedSimpArgs false
mutual
/-- nodes and bytes of texts -/
def msz : SDoc → Nat
  | ⟨_, _, t, ks⟩ => 1 + t.size + mszL ks
def mszL : List SDoc → Nat
  | [] => 0
  | k :: ks => msz k + mszL ks
end
theorem mszL_len : ∀ (a : List SDoc), a.length ≤ mszL a
  | [] => by simp [mszL]
  | ⟨_, _, _, ks⟩ :: a => by have := mszL_len a; simp [mszL, msz]; omega
theorem mszL_mem : ∀ {a : List SDoc} {d : SDoc}, d ∈ a → msz d ≤ mszL a
  | k :: a, d, h => by
    rcases List.mem_cons.1 h with rfl | h
    · simp [mszL]
    · have := mszL_mem h; simp [mszL]; omega
theorem dsz_msz : ∀ d : SDoc, dsz d ≤ msz d := by
  intro d
  induction d using SDoc.ind with
  | h o n t ks ih =>
    have key : ∀ l : List SDoc, (∀ k, k ∈ l → dsz k ≤ msz k) → dszL l ≤ mszL l := by
      intro l
      induction l with
      | nil => intro _; simp [dszL, mszL]
      | cons y l ihl =>
        intro hl
        have h1 := hl y List.mem_cons_self
        have h2 := ihl (fun k hk => hl k (List.mem_cons_of_mem _ hk))
        simp only [dszL, mszL]
        omega
    have := key ks ih
    simp only [dsz, msz]
    omega
theorem specCount_loop (o n : Int) (t : ByteArray) (suf : List SDoc) : ∀ (pre : List SDoc) (acc : Int),
    (∀ y, y ∈ suf → Ev (fun k => spec_l1Count.f k y.f0 y.f1 y.f2 y.f3) (dsz y : Int)) → 0 ≤ acc → acc + dszL suf ≤ 9223372036854775807 → pre.length + suf.length ≤ 4611686018427387904 →
    Ev (fun k => spec_l1Count.l0 k acc (pre.length : Int) o n t (pre ++ suf)) (acc + dszL suf) := by
  induction suf with
  | nil =>
    intro pre acc _ h0 hs hm
    refine Ev.step (fun k => by rw [spec_l1Count.l0]) ?_
    simp only [List.append_nil, Int.lt_irrefl, if_false, dszL, Int.natCast_zero, Int.add_zero]
    exact Ev.now _
  | cons y suf ih =>
    intro pre acc hy h0 hs hm
    simp only [List.length_cons, dszL] at hm hs
    refine Ev.step (fun k => by rw [spec_l1Count.l0]) ?_
    have c1 : (pre.length : Int) < ((pre ++ y :: suf).length : Int) := by simp; omega
    have c2 : (0 : Int) ≤ (pre.length : Int) := by omega
    simp only [if_pos c1, if_pos c2, rdD]
    refine Ev.bind (hy y List.mem_cons_self) ?_
    rw [w64 (i := acc + dsz y) (by omega) (by omega), w64 (by omega) (by omega)]
    have := ih (pre ++ [y]) (acc + dsz y) (fun z hz => hy z (List.mem_cons_of_mem _ hz)) (by omega) (by omega) (by simp; omega)
    rw [List.append_assoc, show ((pre ++ [y]).length : Int) = (pre.length : Int) + 1 by simp] at this
    rw [show acc + (dszL (y :: suf) : Int) = acc + dsz y + dszL suf by simp [dszL]; omega]
    exact this
theorem specCount_ev : ∀ (d : SDoc), dsz d ≤ 4611686018427387904 → Ev (fun k => spec_l1Count.f k d.f0 d.f1 d.f2 d.f3) (dsz d : Int) := by
  intro d
  induction d using SDoc.ind with
  | h o n t ks ih =>
    intro hd
    simp only [dsz] at hd
    refine Ev.step (fun k => by rw [spec_l1Count.f]) ?_
    have := specCount_loop o n t ks [] 1 (fun y hy => ih y hy (by have := dszL_mem hy; omega)) (by omega) (by omega) (by have := dszL_len ks; simp; omega)
    rw [show ((dsz ⟨o, n, t, ks⟩ : Nat) : Int) = 1 + (dszL ks : Int) by simp [dsz]]
    simpa using this
end Go.Proofs.Ytdhdfmmefghijab.Pure
namespace Go.Proofs.Ytdhdfmmefghijab.Pure
open Go.RowKit Go.Proofs.Ytdhdfmmefghijab.P Go.Proofs.YtdhdfmmefghijabW.PrintWords Go.Proofs.YtdhdfmmefghijabW.PrintLast Go.Proofs.YtdhdfmmefghijabW.PrintMore
set_option linter.unusedVariables false
set_option linter.unusedSimpArgs false
theorem toList_data (bs : ByteArray) : bs.toList = bs.data.toList := by
  have key : ∀ (n i : Nat) (r : List UInt8), bs.size - i = n → ByteArray.toList.loop bs i r = r.reverse ++ bs.data.toList.drop i := by
    intro n
    induction n with
    | zero =>
      intro i r h
      rw [ByteArray.toList.loop]
      have : ¬ i < bs.size := by omega
      simp [this]
      omega
    | succ n ih =>
      intro i r h
      rw [ByteArray.toList.loop]
      have hi : i < bs.size := by omega
      simp only [hi, if_true]
      rw [ih (i+1) _ (by omega)]
      have h2 : i < bs.data.toList.length := by rw [Array.length_toList]; exact hi
      rw [List.drop_eq_getElem_cons h2]
      have h3 : i < bs.data.size := hi
      have : bs.get! i = bs.data.toList[i] := by
        simp [ByteArray.get!, Array.getElem!_eq_getD, Array.getD, hi]
      simp [this]
  unfold ByteArray.toList
  rw [key bs.size 0 [] (by omega)]
  simp
theorem toList_inj {a b : ByteArray} : a.toList = b.toList ↔ a = b := by
  rw [toList_data, toList_data]
  constructor
  · intro h
    obtain ⟨⟨a⟩⟩ := a
    obtain ⟨⟨b⟩⟩ := b
    simp at h
    subst h
    rfl
  · rintro rfl; rfl
theorem toList_nil {a : ByteArray} : a.toList = [] ↔ a.size = 0 := by
  rw [toList_data, size_data, List.length_eq_zero_iff]
def nodeOk (o n : Int) (t : ByteArray) (len : Nat) : Bool :=
  decide (1 ≤ o) && (decide (o ≤ 8) && (decide ((len : Int) = docKids o) && (decide (0 ≤ n) && (decide (n ≤ 9) && (decide (n = 0 ∨ o = 6) && (if o = 2 then tv t else decide (t.size = 0)))))))
mutual
def wf : SDoc → Nat → Bool
  | ⟨o, n, t, ks⟩, deep => decide (deep ≠ 0) && (nodeOk o n t ks.length && wfL ks (deep - 1))
def wfL : List SDoc → Nat → Bool
  | [], _ => true
  | k :: ks, deep => wf k deep && wfL ks deep
end
def docV (d : SDoc) : Bool := wf d 40 && decide (dsz d ≤ 80)
theorem wfL_all : ∀ (ks : List SDoc) (deep : Nat), wfL ks deep = ks.all fun k => wf k deep
  | [], _ => rfl
  | k :: ks, deep => by rw [wfL, wfL_all ks deep, List.all_cons]
theorem wf_mk (o n : Int) (t : ByteArray) (ks : List SDoc) (deep : Nat) : wf ⟨o, n, t, ks⟩ deep = true ↔ deep ≠ 0 ∧ nodeOk o n t ks.length = true ∧ wfL ks (deep - 1) = true := by rw [wf, Bool.and_eq_true, Bool.and_eq_true, decide_eq_true_eq]
theorem nodeOk_iff (o n : Int) (t : ByteArray) (len : Nat) : nodeOk o n t len = true ↔ 1 ≤ o ∧ o ≤ 8 ∧ (len : Int) = docKids o ∧ 0 ≤ n ∧ n ≤ 9 ∧ (n = 0 ∨ o = 6) ∧ (if o = 2 then tv t else decide (t.size = 0)) = true := by
  simp only [nodeOk, Bool.and_eq_true, decide_eq_true_eq]
theorem docV_iff (d : SDoc) : docV d = true ↔ wf d 40 = true ∧ dsz d ≤ 80 := by rw [docV, Bool.and_eq_true, decide_eq_true_eq]
theorem specKids_ev (o : Int) : Ev (fun k => spec_l1Kids.f k o) (if o < 1 ∨ 8 < o then -1 else docKids o) := by
  have j1 : ∀ b, Ev (fun k => spec_l1Kids.j1 k o b) (if b = true then 1 else if o = 7 then 2 else -1) := by
    intro b
    refine Ev.step (fun k => by rw [spec_l1Kids.j1]) ?_
    cases b
    · simp only [Bool.false_eq_true, if_false]
      by_cases h : o = 7
      · simp only [if_pos h]; exact Ev.now _
      · simp only [if_neg h]; exact Ev.now _
    · exact Ev.now _
  have j0 : ∀ b, Ev (fun k => spec_l1Kids.j0 k o b) (if b = true then 0 else if o = 6 ∨ o = 8 then 1 else if o = 7 then 2 else -1) := by
    intro b
    refine Ev.step (fun k => by rw [spec_l1Kids.j0]) ?_
    cases b
    · simp only [Bool.false_eq_true, if_false]
      by_cases h : o = 6
      · simp only [if_pos h]
        have := j1 (o == 6)
        rw [h] at this ⊢
        simpa using this
      · simp only [if_neg h]
        have := j1 (o == 8)
        by_cases h8 : o = 8
        · rw [h8] at this ⊢
          simpa using this
        · rw [show (o == 8) = false by simpa using h8] at this ⊢
          simpa [h, h8] using this
    · exact Ev.now _
  refine Ev.congr (fun k => by rw [spec_l1Kids.f]) ?_
  have fin : ∀ x b, (o = x → b = true) → (b = true → 1 ≤ o ∧ o ≤ 5) → (b = false → ¬ (1 ≤ o ∧ o ≤ 5)) → Ev (fun k => spec_l1Kids.j0 k o b) (if o < 1 ∨ 8 < o then -1 else docKids o) := by
    intro x b _ h1 h2
    have := j0 b
    cases b
    · have := h2 rfl
      rename_i this'
      rw [show (if o < 1 ∨ 8 < o then -1 else docKids o) = (if (false : Bool) = true then 0 else if o = 6 ∨ o = 8 then 1 else if o = 7 then 2 else -1) from by
        by_cases q : o < 1 ∨ 8 < o
        · have : ¬ (o = 6 ∨ o = 8) := by omega
          have : ¬ o = 7 := by omega
          simp [*]
        · have : o = 6 ∨ o = 7 ∨ o = 8 := by omega
          rcases this with rfl | rfl | rfl <;> simp [docKids]]
      exact this'
    · have := h1 rfl
      rename_i this'
      rw [show (if o < 1 ∨ 8 < o then -1 else docKids o) = 0 from by
        have q : ¬ (o < 1 ∨ 8 < o) := by omega
        rw [if_neg q]
        have : o = 1 ∨ o = 2 ∨ o = 3 ∨ o = 4 ∨ o = 5 := by omega
        rcases this with rfl | rfl | rfl | rfl | rfl <;> rfl]
      exact this'
  repeat' refine Ev.iff (fun hc => ?_) (fun hc => ?_)
  · subst hc; exact fin 1 _ (fun _ => rfl) (fun _ => by omega) (fun h => by cases h)
  · subst hc; exact fin 2 _ (fun _ => rfl) (fun _ => by omega) (fun h => by cases h)
  · subst hc; exact fin 3 _ (fun _ => rfl) (fun _ => by omega) (fun h => by cases h)
  · subst hc; exact fin 4 _ (fun _ => rfl) (fun _ => by omega) (fun h => by cases h)
  · refine fin 5 _ (fun h => by simp [h]) (fun h => by have : o = 5 := by simpa using h
                                                       omega) (fun h => by have : ¬ o = 5 := by simpa using h
                                                                           omega)
theorem specIs_loop (o n : Int) (t : ByteArray) (deep : Nat) (suf : List SDoc) : ∀ (pre : List SDoc),
    (∀ y, y ∈ suf → Ev (fun k => spec_l1Is.f k y.f0 y.f1 y.f2 y.f3 (wrap64 ((deep : Int) - 1))) (wf y (deep - 1))) → pre.length + suf.length ≤ 4611686018427387904 →
    Ev (fun k => spec_l1Is.l0 k (deep : Int) (pre.length : Int) o n t (pre ++ suf)) (wfL suf (deep - 1)) := by
  induction suf with
  | nil =>
    intro pre _ hm
    refine Ev.step (fun k => by rw [spec_l1Is.l0]) ?_
    simp only [List.append_nil, Int.lt_irrefl, if_false]
    exact Ev.now _
  | cons y suf ih =>
    intro pre hy hm
    simp only [List.length_cons] at hm
    have c1 : (pre.length : Int) < ((pre ++ y :: suf).length : Int) := by simp; omega
    have c2 : (0 : Int) ≤ (pre.length : Int) := by omega
    refine Ev.step (fun k => by rw [spec_l1Is.l0]) ?_
    simp only [if_pos c1, if_pos c2, rdD]
    refine Ev.bind (hy y List.mem_cons_self) ?_
    cases hw : wf y (deep - 1) with
    | false =>
      simp only [Bool.false_eq_true, if_false]
      rw [show wfL (y :: suf) (deep - 1) = false from by rw [wfL, hw, Bool.false_and]]
      exact Ev.now _
    | true =>
      simp only [if_true]
      rw [w64 (by omega) (by omega), show wfL (y :: suf) (deep - 1) = wfL suf (deep - 1) from by rw [wfL, hw, Bool.true_and]]
      have := ih (pre ++ [y]) (fun z hz => hy z (List.mem_cons_of_mem _ hz)) (by simp; omega)
      rw [List.append_assoc, show ((pre ++ [y]).length : Int) = (pre.length : Int) + 1 by simp] at this
      exact this
theorem specIs_ev : ∀ (d : SDoc), msz d ≤ 1099511627776 → ∀ (deep : Nat), deep ≤ 40 → Ev (fun k => spec_l1Is.f k d.f0 d.f1 d.f2 d.f3 (deep : Int)) (wf d deep) := by
  intro d
  induction d using SDoc.ind with
  | h o n t ks ih =>
    intro hd deep hdp
    simp only [msz] at hd
    have hkl := mszL_len ks
    have hloop : deep ≠ 0 → Ev (fun k => spec_l1Is.l0 k (deep : Int) 0 o n t ks) (wfL ks (deep - 1)) := fun h0 => by
      have := specIs_loop o n t deep ks [] (fun y hy => by
        have hym := mszL_mem hy
        rw [w64 (by omega) (by omega), show ((deep : Int) - 1) = ((deep - 1 : Nat) : Int) by omega]
        exact ih y hy (by omega) (deep - 1) (by omega)) (by simp; omega)
      simpa using this
    -- the tests, from the last one on
    have j2 : deep ≠ 0 → ∀ b, Ev (fun k => spec_l1Is.j2 k (deep : Int) b o n t ks) (!b && wfL ks (deep - 1)) := fun h0 b => by
      refine Ev.step (fun k => by rw [spec_l1Is.j2]) ?_
      cases b
      · simpa using hloop h0
      · exact Ev.now _
    have j1 : deep ≠ 0 → ∀ b, Ev (fun k => spec_l1Is.j1 k (deep : Int) b o n t ks) (!b && (decide ((o = 6 ∧ 0 ≤ n ∧ n ≤ 9) ∨ (o ≠ 6 ∧ n = 0)) && wfL ks (deep - 1))) := fun h0 b => by
      refine Ev.step (fun k => by rw [spec_l1Is.j1]) ?_
      cases b
      · simp only [Bool.false_eq_true, if_false, Bool.not_false, Bool.true_and]
        have fin : ∀ b, (b = true ↔ ¬ ((o = 6 ∧ 0 ≤ n ∧ n ≤ 9) ∨ (o ≠ 6 ∧ n = 0))) → Ev (fun k => spec_l1Is.j2 k (deep : Int) b o n t ks) (decide ((o = 6 ∧ 0 ≤ n ∧ n ≤ 9) ∨ (o ≠ 6 ∧ n = 0)) && wfL ks (deep - 1)) := fun b hb => by
          have := j2 h0 b
          rwa [show (!b) = decide ((o = 6 ∧ 0 ≤ n ∧ n ≤ 9) ∨ (o ≠ 6 ∧ n = 0)) from by
            rw [Bool.eq_iff_iff, decide_eq_true_eq]
            cases b
            · have : (o = 6 ∧ 0 ≤ n ∧ n ≤ 9) ∨ (o ≠ 6 ∧ n = 0) := Decidable.not_not.1 (fun h => by have := hb.2 h; cases this)
              simpa using this
            · have := hb.1 rfl
              simpa using this] at this
        repeat' refine Ev.iff (fun hc => ?_) (fun hc => ?_)
        · exact fin true ⟨fun _ => by omega, fun _ => rfl⟩
        · exact fin true ⟨fun _ => by omega, fun _ => rfl⟩
        · exact fin false ⟨fun h => (by cases h), fun h => absurd (by omega) h⟩
        · refine fin (n != 0) ⟨fun h => ?_, fun h => ?_⟩
          · have : ¬ n = 0 := by simpa using h
            omega
          · have : ¬ n = 0 := by omega
            simpa using this
      · exact Ev.now _
    have j0 : deep ≠ 0 → ∀ b, Ev (fun k => spec_l1Is.j0 k (deep : Int) b o n t ks) (!b && ((if o = 2 then tv t else decide (t.size = 0)) && (decide ((o = 6 ∧ 0 ≤ n ∧ n ≤ 9) ∨ (o ≠ 6 ∧ n = 0)) && wfL ks (deep - 1)))) := fun h0 b => by
      refine Ev.step (fun k => by rw [spec_l1Is.j0]) ?_
      cases b
      · simp only [Bool.false_eq_true, if_false, Bool.not_false, Bool.true_and]
        by_cases h2 : o = 2
        · simp only [if_pos h2]
          refine Ev.bind (specText_ev t (by omega)) ?_
          cases tv t
          · simp only [Bool.false_eq_true, if_false]
            exact j1 h0 true
          · simp only [if_true]
            exact j1 h0 false
        · simp only [if_neg h2]
          have := j1 h0 (t.toList != ([] : List UInt8))
          rwa [show (!(t.toList != ([] : List UInt8))) = decide (t.size = 0) from by
            rw [Bool.eq_iff_iff, decide_eq_true_eq, ← toList_nil]; simp] at this
      · exact Ev.now _
    refine Ev.step (fun k => by rw [spec_l1Is.f]) ?_
    by_cases h0 : deep = 0
    · subst h0
      simp only [Int.natCast_zero, if_true]
      rw [show wf ⟨o, n, t, ks⟩ 0 = false from by rw [wf]; simp]
      refine Ev.step (fun k => by rw [spec_l1Is.j0]) ?_
      exact Ev.now _
    · have c0 : ¬ (deep : Int) = 0 := by omega
      simp only [if_neg c0]
      refine Ev.bind (specKids_ev o) ?_
      have := j0 h0 ((ks.length : Int) != (if o < 1 ∨ 8 < o then -1 else docKids o))
      rwa [show (!((ks.length : Int) != (if o < 1 ∨ 8 < o then -1 else docKids o)) && ((if o = 2 then tv t else decide (t.size = 0)) && (decide ((o = 6 ∧ 0 ≤ n ∧ n ≤ 9) ∨ (o ≠ 6 ∧ n = 0)) && wfL ks (deep - 1)))) = wf ⟨o, n, t, ks⟩ deep from by
        rw [Bool.eq_iff_iff, wf_mk, nodeOk_iff]
        simp only [Bool.and_eq_true, decide_eq_true_eq, Bool.not_eq_true', bne_eq_false_iff_eq]
        generalize (if o = 2 then tv t else decide (t.size = 0)) = tt
        constructor
        · rintro ⟨h1, h2, h3, h4⟩
          by_cases q : o < 1 ∨ 8 < o
          · rw [if_pos q] at h1; omega
          · rw [if_neg q] at h1
            exact ⟨h0, ⟨by omega, by omega, h1, by omega, by omega, by omega, h2⟩, h4⟩
        · rintro ⟨_, ⟨h1, h2, h3, h4, h5, h6, h7⟩, h8⟩
          have q : ¬ (o < 1 ∨ 8 < o) := by omega
          rw [if_neg q]
          exact ⟨h3, h7, by omega, h8⟩] at this
theorem specValid_ev (d : SDoc) (hd : msz d ≤ 1099511627776) : Ev (fun k => spec_DocValid.f k d.f0 d.f1 d.f2 d.f3) (docV d) := by
  refine Ev.congr (fun k => by rw [spec_DocValid.f]) ?_
  refine Ev.bind (specIs_ev d hd 40 (by omega)) ?_
  cases hw : wf d 40 with
  | false =>
    simp only [Bool.false_eq_true, if_false]
    rw [show docV d = false from by rw [docV, hw, Bool.false_and]]
    exact Ev.now _
  | true =>
    simp only [if_true]
    have := dsz_msz d
    refine Ev.bind (specCount_ev d (by omega)) ?_
    rw [show docV d = decide ((dsz d : Int) ≤ 80) from by rw [docV, hw, Bool.true_and]; exact dec_eq (by omega)]
    exact Ev.now _
end Go.Proofs.Ytdhdfmmefghijab.Pure
namespace Go.Proofs.Ytdhdfmmefghijab.Pure
open Go.RowKit Go.Proofs.Ytdhdfmmefghijab.P Go.Proofs.YtdhdfmmefghijabW.PrintWords Go.Proofs.YtdhdfmmefghijabW.PrintLast Go.Proofs.YtdhdfmmefghijabW.PrintMore
set_option linter.unusedVariables false
set_option linter.unusedSimpArgs false
def ba (l : List UInt8) : ByteArray := ⟨l.toArray⟩
theorem ba_size (l : List UInt8) : (ba l).size = l.length := by simp [ba, ByteArray.size]
theorem ba_data (l : List UInt8) : (ba l).data.toList = l := by simp [ba]
theorem ba_of (s : ByteArray) : ba s.data.toList = s := by
  obtain ⟨⟨l⟩⟩ := s
  rfl
theorem ba_extract (l : List UInt8) (i j : Nat) : (ba l).extract i j = ba ((l.drop i).take (j - i)) := by
  apply ByteArray.ext
  apply Array.ext'
  simp [ba, List.take_drop]
def pW : List UInt8 → Option (List UInt8 × List UInt8)
  | [] => none
  | c :: s => if (c.toNat : Int) = 34 then some ([], s) else (pW s).map fun q => (c :: q.1, q.2)
def pK (f : List UInt8 → Option (SDoc × List UInt8)) : Nat → Int → List UInt8 → Option (List SDoc × List UInt8)
  | 0, _, [] => none
  | 0, e, c :: r => if (c.toNat : Int) = e then some ([], r) else none
  | m + 1, e, s => (f s).bind fun q => (pK f m e q.2).map fun p => (q.1 :: p.1, p.2)
def hd60 : List UInt8 → Bool
  | [] => false
  | c :: _ => (c.toNat : Int) == 60
def pN (f : List UInt8 → Option (SDoc × List UInt8)) : List UInt8 → Option (SDoc × List UInt8)
  | [] => none
  | c :: s =>
    if (c.toNat : Int) = 126 then some (⟨1, 0, ba [], []⟩, s) else if (c.toNat : Int) = 95 then some (⟨3, 0, ba [], []⟩, s)
    else if (c.toNat : Int) = 46 then some (⟨4, 0, ba [], []⟩, s) else if (c.toNat : Int) = 33 then some (⟨5, 0, ba [], []⟩, s)
    else if (c.toNat : Int) = 34 then (pW s).map fun q => (⟨2, 0, ba q.1, []⟩, q.2)
    else if (c.toNat : Int) = 40 then (pK f 2 41 s).map fun q => (⟨7, 0, ba [], q.1⟩, q.2)
    else if (c.toNat : Int) = 91 then (pK f 1 93 s).map fun q => (⟨8, 0, ba [], q.1⟩, q.2)
    else if 48 ≤ (c.toNat : Int) ∧ (c.toNat : Int) ≤ 57 ∧ hd60 s = true then (pK f 1 62 s.tail).map fun q => (⟨6, (c.toNat : Int) - 48, ba [], q.1⟩, q.2)
    else none
def pD : Nat → List UInt8 → Option (SDoc × List UInt8)
  | 0 => fun _ => none
  | n + 1 => pN (pD n)
theorem pW_is : ∀ {s a r : List UInt8}, pW s = some (a, r) → ∃ c : UInt8, (c.toNat : Int) = 34 ∧ s = a ++ c :: r
  | c :: s, a, r, h => by
    rw [pW] at h
    by_cases e : (c.toNat : Int) = 34
    · rw [if_pos e] at h
      obtain ⟨rfl, rfl⟩ := Prod.mk.inj (Option.some.inj h)
      exact ⟨c, e, rfl⟩
    · rw [if_neg e] at h
      obtain ⟨⟨a', r'⟩, h1, h2⟩ := Option.map_eq_some_iff.1 h
      obtain ⟨rfl, rfl⟩ := Prod.mk.inj h2
      obtain ⟨c', hc, hs⟩ := pW_is h1
      exact ⟨c', hc, by rw [hs]; rfl⟩
def Good (f : List UInt8 → Option (SDoc × List UInt8)) : Prop := ∀ s d r, f s = some (d, r) → msz d + r.length ≤ s.length ∧ ∃ u, s = u ++ r
theorem pK_good {f} (hf : Good f) : ∀ (m : Nat) (e : Int) (s : List UInt8) (ks : List SDoc) (r : List UInt8), pK f m e s = some (ks, r) → ks.length = m ∧ mszL ks + 1 + r.length ≤ s.length ∧ ∃ u, s = u ++ r
  | 0, e, [], ks, r, h => by simp [pK] at h
  | 0, e, c :: s, ks, r, h => by
    rw [pK] at h
    by_cases e' : (c.toNat : Int) = e
    · rw [if_pos e'] at h
      obtain ⟨rfl, rfl⟩ := Prod.mk.inj (Option.some.inj h)
      exact ⟨rfl, by simp [mszL]; omega, [c], rfl⟩
    · rw [if_neg e'] at h; cases h
  | m + 1, e, s, ks, r, h => by
    rw [pK] at h
    obtain ⟨⟨d, r1⟩, h1, h⟩ := Option.bind_eq_some_iff.1 h
    obtain ⟨⟨l, r2⟩, h2, h⟩ := Option.map_eq_some_iff.1 h
    obtain ⟨rfl, rfl⟩ := Prod.mk.inj h
    obtain ⟨g1, u1, e1⟩ := hf _ _ _ h1
    obtain ⟨g2, g3, u2, e2⟩ := pK_good hf m e _ _ _ h2
    simp only at g3 e2
    refine ⟨by simp [g2], ?_, u1 ++ u2, by rw [e1, e2, List.append_assoc]⟩
    simp only [mszL]
    have : r1.length = u2.length + r2.length := by rw [e2, List.length_append]
    omega
theorem pN_good {f} (hf : Good f) : Good (pN f) := by
  intro s d r h
  match s, h with
  | c :: s, h =>
    rw [pN] at h
    by_cases c1 : (c.toNat : Int) = 126
    · rw [if_pos c1] at h; obtain ⟨rfl, rfl⟩ := Prod.mk.inj (Option.some.inj h)
      exact ⟨by simp [msz, mszL, ba_size]; omega, [c], rfl⟩
    rw [if_neg c1] at h
    by_cases c2 : (c.toNat : Int) = 95
    · rw [if_pos c2] at h; obtain ⟨rfl, rfl⟩ := Prod.mk.inj (Option.some.inj h)
      exact ⟨by simp [msz, mszL, ba_size]; omega, [c], rfl⟩
    rw [if_neg c2] at h
    by_cases c3 : (c.toNat : Int) = 46
    · rw [if_pos c3] at h; obtain ⟨rfl, rfl⟩ := Prod.mk.inj (Option.some.inj h)
      exact ⟨by simp [msz, mszL, ba_size]; omega, [c], rfl⟩
    rw [if_neg c3] at h
    by_cases c4 : (c.toNat : Int) = 33
    · rw [if_pos c4] at h; obtain ⟨rfl, rfl⟩ := Prod.mk.inj (Option.some.inj h)
      exact ⟨by simp [msz, mszL, ba_size]; omega, [c], rfl⟩
    rw [if_neg c4] at h
    by_cases c5 : (c.toNat : Int) = 34
    · rw [if_pos c5] at h
      obtain ⟨⟨a, r'⟩, h1, h2⟩ := Option.map_eq_some_iff.1 h
      obtain ⟨rfl, rfl⟩ := Prod.mk.inj h2
      obtain ⟨q, _, rfl⟩ := pW_is h1
      exact ⟨by simp [msz, mszL, ba_size]; omega, c :: a ++ [q], by simp⟩
    rw [if_neg c5] at h
    by_cases c6 : (c.toNat : Int) = 40
    · rw [if_pos c6] at h
      obtain ⟨⟨a, r'⟩, h1, h2⟩ := Option.map_eq_some_iff.1 h
      obtain ⟨rfl, rfl⟩ := Prod.mk.inj h2
      obtain ⟨_, g, u, rfl⟩ := pK_good hf _ _ _ _ _ h1
      exact ⟨by simp [msz, ba_size] at g ⊢; omega, c :: u, by simp⟩
    rw [if_neg c6] at h
    by_cases c7 : (c.toNat : Int) = 91
    · rw [if_pos c7] at h
      obtain ⟨⟨a, r'⟩, h1, h2⟩ := Option.map_eq_some_iff.1 h
      obtain ⟨rfl, rfl⟩ := Prod.mk.inj h2
      obtain ⟨_, g, u, rfl⟩ := pK_good hf _ _ _ _ _ h1
      exact ⟨by simp [msz, ba_size] at g ⊢; omega, c :: u, by simp⟩
    rw [if_neg c7] at h
    by_cases c8 : 48 ≤ (c.toNat : Int) ∧ (c.toNat : Int) ≤ 57 ∧ hd60 s = true
    · rw [if_pos c8] at h
      obtain ⟨⟨a, r'⟩, h1, h2⟩ := Option.map_eq_some_iff.1 h
      obtain ⟨rfl, rfl⟩ := Prod.mk.inj h2
      obtain ⟨_, g, u, e⟩ := pK_good hf _ _ _ _ _ h1
      match s, c8, e, g with
      | [], c8, _, _ => simp [hd60] at c8
      | q :: s, _, e, g =>
        simp only [List.tail_cons] at e g
        subst e
        exact ⟨by simp [msz, ba_size] at g ⊢; omega, c :: q :: u, by simp⟩
    · rw [if_neg c8] at h; cases h
theorem pD_good : ∀ n, Good (pD n)
  | 0 => fun s d r h => by simp [pD] at h
  | n + 1 => pN_good (pD_good n)
def endAt (N : Nat) {α : Type} : Option (α × List UInt8) → Int
  | some q => (N : Int) - (q.2.length : Int)
  | none => -1
end Go.Proofs.Ytdhdfmmefghijab.Pure
namespace Go.Proofs.Ytdhdfmmefghijab.Pure
open Go.RowKit Go.Proofs.Ytdhdfmmefghijab.P Go.Proofs.YtdhdfmmefghijabW.PrintWords Go.Proofs.YtdhdfmmefghijabW.PrintLast Go.Proofs.YtdhdfmmefghijabW.PrintMore
set_option linter.unusedVariables false
set_option linter.unusedSimpArgs false
theorem bt_at {L pre suf : List UInt8} {c : UInt8} (h : L = pre ++ c :: suf) : bt (ba L) (pre.length : Int) = (c.toNat : Int) := bt_mid (s := ba L) (by rw [ba_data]; exact h)
def wordR (N : Nat) (mid : List UInt8) : Option (List UInt8 × List UInt8) → Int × Int × ByteArray × List SDoc × Int
  | some q => (2, 0, ba (mid ++ q.1), [], (N : Int) - (q.2.length : Int))
  | none => (0, 0, ⟨#[]⟩, [], -1)
theorem specWord_loop {L pre : List UInt8} {c0 : UInt8} (hL : L.length ≤ 1099511627776) : ∀ (suf mid : List UInt8), L = pre ++ c0 :: (mid ++ suf) →
    Ev (fun k => spec_l1Word.l0 k (ba L) (pre.length : Int) ((pre.length + 1 + mid.length : Nat) : Int)) (wordR L.length mid (pW suf)) := by
  intro suf
  induction suf with
  | nil =>
    intro mid h
    have hl : L.length = pre.length + 1 + mid.length := by rw [h]; simp; omega
    refine Ev.step (fun k => by rw [spec_l1Word.l0]) ?_
    simp only [ba_size, if_neg (show ¬ (((pre.length + 1 + mid.length : Nat) : Int) < (L.length : Int)) by omega)]
    refine Ev.step (fun k => by rw [spec_l1Word.j1]) ?_
    simp only [ba_size, if_pos (show ((pre.length + 1 + mid.length : Nat) : Int) ≥ (L.length : Int) by omega)]
    exact Ev.now _
  | cons c suf ih =>
    intro mid h
    have hl : L.length = pre.length + 1 + mid.length + 1 + suf.length := by rw [h]; simp; omega
    have hb : bt (ba L) ((pre.length + 1 + mid.length : Nat) : Int) = (c.toNat : Int) := by
      have := bt_at (L := L) (pre := pre ++ c0 :: mid) (suf := suf) (c := c) (by rw [h]; simp)
      rw [show ((pre.length + 1 + mid.length : Nat) : Int) = (((pre ++ c0 :: mid).length : Nat) : Int) by simp; omega]
      exact this
    refine Ev.step (fun k => by rw [spec_l1Word.l0]) ?_
    simp only [ba_size, if_pos (show ((pre.length + 1 + mid.length : Nat) : Int) < (L.length : Int) by omega), if_pos (show (0 : Int) ≤ ((pre.length + 1 + mid.length : Nat) : Int) by omega), hb]
    rw [pW]
    by_cases e : (c.toNat : Int) = 34
    · simp only [if_pos e]
      refine Ev.step (fun k => by rw [spec_l1Word.j1]) ?_
      have w1 : wrap64 ((pre.length : Int) + 1) = ((pre.length + 1 : Nat) : Int) := by rw [w64 (by omega) (by omega)]; omega
      have w2 : wrap64 (((pre.length + 1 + mid.length : Nat) : Int) + 1) = (L.length : Int) - (suf.length : Int) := by rw [w64 (by omega) (by omega)]; omega
      have hx : (ba L).extract (((pre.length + 1 : Nat) : Int).toNat) (((pre.length + 1 + mid.length : Nat) : Int).toNat) = ba mid := by
        rw [ba_extract, Int.toNat_natCast, Int.toNat_natCast, h, show pre ++ c0 :: (mid ++ c :: suf) = (pre ++ [c0]) ++ (mid ++ c :: suf) by simp, List.drop_left' (by simp), List.take_left' (by omega)]
      simp only [ba_size, if_neg (show ¬ (((pre.length + 1 + mid.length : Nat) : Int) ≥ (L.length : Int)) by omega), w1, w2, if_pos (show (0 : Int) ≤ ((pre.length + 1 : Nat) : Int) by omega),
        if_pos (show ((pre.length + 1 : Nat) : Int) ≤ ((pre.length + 1 + mid.length : Nat) : Int) by omega), if_pos (show ((pre.length + 1 + mid.length : Nat) : Int) ≤ (L.length : Int) by omega), hx]
      simp only [wordR, List.append_nil]
      exact Ev.now _
    · simp only [if_neg e]
      have w1 : wrap64 (((pre.length + 1 + mid.length : Nat) : Int) + 1) = ((pre.length + 1 + (mid ++ [c]).length : Nat) : Int) := by rw [w64 (by omega) (by omega)]; simp; omega
      rw [w1]
      have := ih (mid ++ [c]) (by rw [h]; simp)
      have e2 : wordR L.length (mid ++ [c]) (pW suf) = wordR L.length mid ((pW suf).map fun q => (c :: q.1, q.2)) := by
        cases pW suf <;> simp [wordR]
      rw [← e2]
      exact this
def RdS (L : List UInt8) (n : Nat) : Prop := ∀ pre suf : List UInt8, L = pre ++ suf → ∃ d : SDoc, Ev (fun k => spec_l1Read.f k (ba L) (pre.length : Int) (n : Int)) (d.f0, d.f1, d.f2, d.f3, endAt L.length (pD n suf)) ∧ ∀ d' r, pD n suf = some (d', r) → d' = d
theorem specInner_loop {L : List UInt8} (hL : L.length ≤ 1099511627776) {n : Nat} (hn : n + 1 ≤ 40) (IH : RdS L n) (e : Int) (x2 : Nat) (hx2 : x2 ≤ 2) : ∀ (m : Nat), m ≤ x2 → ∀ (pre suf : List UInt8) (out : List SDoc), L = pre ++ suf → out.length + m = x2 →
    ∃ l : List SDoc, Ev (fun k => spec_l1Inner.l0 k (ba L) (pre.length : Int) (x2 : Int) e ((n + 1 : Nat) : Int) out (out.length : Int)) (l, endAt L.length (pK (pD n) m e suf)) ∧ ∀ ks r, pK (pD n) m e suf = some (ks, r) → l = out ++ ks := by
  intro m
  induction m with
  | zero =>
    intro _ pre suf out h ho
    refine ⟨out, Ev.step (fun k => by rw [spec_l1Inner.l0]) ?_, ?_⟩
    · simp only [if_neg (show ¬ ((out.length : Int) < (x2 : Int)) by omega), ba_size]
      match suf, h with
      | [], h =>
        have hl : L.length = pre.length := by rw [h]; simp
        simp only [if_pos (show (pre.length : Int) ≥ (L.length : Int) by omega)]
        exact Ev.now _
      | c :: suf, h =>
        have hl : L.length = pre.length + 1 + suf.length := by rw [h]; simp; omega
        simp only [if_neg (show ¬ ((pre.length : Int) ≥ (L.length : Int)) by omega), if_pos (show (0 : Int) ≤ (pre.length : Int) by omega), if_pos (show (pre.length : Int) < (L.length : Int) by omega), bt_at h, pK]
        by_cases c1 : (c.toNat : Int) = e
        · simp only [if_pos c1]
          rw [w64 (by omega) (by omega), show endAt L.length (some (([] : List SDoc), suf)) = (pre.length : Int) + 1 by simp [endAt]; omega]
          exact Ev.now _
        · simp only [if_neg c1]
          exact Ev.now _
    · intro ks r hk
      match suf, hk with
      | [], hk => simp [pK] at hk
      | c :: suf, hk =>
        rw [pK] at hk
        by_cases c1 : (c.toNat : Int) = e
        · rw [if_pos c1] at hk
          obtain ⟨rfl, rfl⟩ := Prod.mk.inj (Option.some.inj hk)
          simp
        · rw [if_neg c1] at hk; cases hk
  | succ m ih =>
    intro hm pre suf out h ho
    obtain ⟨d, hd, hd'⟩ := IH pre suf h
    have w1 : wrap64 (((n + 1 : Nat) : Int) - 1) = (n : Int) := by rw [w64 (by omega) (by omega)]; omega
    have c1 : (out.length : Int) < (x2 : Int) := by omega
    cases hp : pD n suf with
    | none =>
      rw [hp] at hd
      refine ⟨out, Ev.step (fun k => by rw [spec_l1Inner.l0]) ?_, ?_⟩
      · simp only [if_pos c1, w1]
        refine Ev.bind hd ?_
        simp only [endAt, show ((-1 : Int) < 0) = True by simp, if_true]
        rw [pK, hp]
        exact Ev.now _
      · intro ks r hk
        rw [pK, hp] at hk
        cases hk
    | some q =>
      obtain ⟨d1, r1⟩ := q
      obtain rfl := hd' d1 r1 hp
      obtain ⟨_, u, rfl⟩ := pD_good n _ _ _ hp
      have hl : L.length = pre.length + u.length + r1.length := by rw [h]; simp; omega
      obtain ⟨l, hl1, hl2⟩ := ih (by omega) (pre ++ u) r1 (out ++ [d1]) (by rw [h]; simp) (by simp; omega)
      rw [hp] at hd
      have e1 : endAt L.length (some (d1, r1)) = (((pre ++ u).length : Nat) : Int) := by simp [endAt]; omega
      rw [e1] at hd
      refine ⟨l, Ev.step (fun k => by rw [spec_l1Inner.l0]) ?_, ?_⟩
      · simp only [if_pos c1, w1]
        refine Ev.bind hd ?_
        simp only [if_neg (show ¬ ((((pre ++ u).length : Nat) : Int) < 0) by omega), if_pos (show out.length < 2513169434916 by omega), SDoc_eta]
        rw [w64 (by omega) (by omega), show (out.length : Int) + 1 = ((out ++ [d1]).length : Int) by simp]
        rw [pK, hp]
        have e2 : endAt L.length (((some (d1, r1)).bind fun q => (pK (pD n) m e q.2).map fun p => (q.1 :: p.1, p.2)) : Option (List SDoc × List UInt8)) = endAt L.length (pK (pD n) m e r1) := by
          simp only [Option.bind_some]
          cases pK (pD n) m e r1 <;> rfl
        rw [e2]
        exact hl1
      · intro ks r hk
        rw [pK, hp] at hk
        simp only [Option.bind_some] at hk
        obtain ⟨⟨l2, r2⟩, h1, h2⟩ := Option.map_eq_some_iff.1 hk
        obtain ⟨rfl, rfl⟩ := Prod.mk.inj h2
        rw [hl2 l2 r2 h1]
        simp
theorem specRead_ev {L : List UInt8} (hL : L.length ≤ 1099511627776) : ∀ n : Nat, n ≤ 40 → RdS L n := by
  intro n
  induction n with
  | zero =>
    intro _ pre suf h
    refine ⟨⟨0, 0, ⟨#[]⟩, []⟩, Ev.step (fun k => by rw [spec_l1Read.f]) ?_, fun d' r hp => by simp [pD] at hp⟩
    have J : Ev (fun k => spec_l1Read.j0 k (ba L) (pre.length : Int) ((0 : Nat) : Int) true) (0, 0, (⟨#[]⟩ : ByteArray), ([] : List SDoc), -1) := by
      refine Ev.step (fun k => by rw [spec_l1Read.j0]) ?_
      simp only [if_true]
      exact Ev.now _
    exact Ev.iff (fun _ => J) (fun _ => J)
  | succ n ih =>
    intro hn pre suf h
    have IH := ih (by omega)
    match suf, h with
    | [], h =>
      have hl : L.length = pre.length := by rw [h]; simp
      refine ⟨⟨0, 0, ⟨#[]⟩, []⟩, Ev.step (fun k => by rw [spec_l1Read.f]) ?_, fun d' r hp => by simp [pD, pN] at hp⟩
      simp only [ba_size, if_pos (show (pre.length : Int) ≥ (L.length : Int) by omega)]
      refine Ev.step (fun k => by rw [spec_l1Read.j0]) ?_
      simp only [if_true]
      exact Ev.now _
    | c :: suf, h =>
      have hl : L.length = pre.length + 1 + suf.length := by rw [h]; simp; omega
      have h' : L = (pre ++ [c]) ++ suf := by rw [h]; simp
      have w1 : wrap64 ((pre.length : Int) + 1) = (((pre ++ [c]).length : Nat) : Int) := by rw [w64 (by omega) (by omega)]; simp
      have start : ∀ R, Ev (fun k => spec_l1Read.j0 k (ba L) (pre.length : Int) ((n + 1 : Nat) : Int) false) R → Ev (fun k => spec_l1Read.f k (ba L) (pre.length : Int) ((n + 1 : Nat) : Int)) R := by
        intro R hR
        refine Ev.step (fun k => by rw [spec_l1Read.f]) ?_
        simp only [ba_size, if_neg (show ¬ ((pre.length : Int) ≥ (L.length : Int)) by omega)]
        rw [show (((n + 1 : Nat) : Int) == 0) = false by simp; omega]
        exact hR
      have inner : ∀ (pre' suf' : List UInt8) (m : Nat) (e : Int), L = pre' ++ suf' → m ≤ 2 → ∃ l : List SDoc, Ev (fun k => spec_l1Inner.f k (ba L) (pre'.length : Int) (m : Int) e ((n + 1 : Nat) : Int)) (l, endAt L.length (pK (pD n) m e suf')) ∧ ∀ ks r, pK (pD n) m e suf' = some (ks, r) → l = ks := by
        intro pre' suf' m e hp hm
        obtain ⟨l, h1, h2⟩ := specInner_loop hL (by omega) IH e m hm m (Nat.le_refl _) pre' suf' [] hp (by simp)
        exact ⟨l, Ev.step (fun k => by rw [spec_l1Inner.f]; rfl) h1, fun ks r hk => by rw [h2 ks r hk]; rfl⟩
      have leafs : ∀ o : Int, pD (n + 1) (c :: suf) = some (⟨o, 0, ba [], []⟩, suf) → Ev (fun k => spec_l1Read.j0 k (ba L) (pre.length : Int) ((n + 1 : Nat) : Int) false) (o, 0, (⟨#[]⟩ : ByteArray), ([] : List SDoc), (((pre ++ [c]).length : Nat) : Int)) →
          ∃ d : SDoc, Ev (fun k => spec_l1Read.f k (ba L) (pre.length : Int) ((n + 1 : Nat) : Int)) (d.f0, d.f1, d.f2, d.f3, endAt L.length (pD (n + 1) (c :: suf))) ∧ ∀ d' r, pD (n + 1) (c :: suf) = some (d', r) → d' = d := by
        intro o hp hR
        refine ⟨⟨o, 0, ba [], []⟩, start _ ?_, fun d' r hd => by rw [hp] at hd; exact (Prod.mk.inj (Option.some.inj hd)).1.symm⟩
        rw [hp, show endAt L.length (some ((⟨o, 0, ba [], []⟩ : SDoc), suf)) = (((pre ++ [c]).length : Nat) : Int) by simp [endAt]; omega]
        exact hR
      have J : ∀ R, (Ev (fun k => if (c.toNat : Int) = 126 then (some ((1 : Int), (0 : Int), (⟨#[]⟩ : ByteArray), ([] : List SDoc), (((pre ++ [c]).length : Nat) : Int))) else (if (c.toNat : Int) = 95 then (some (3, 0, (⟨#[]⟩ : ByteArray), ([] : List SDoc), (((pre ++ [c]).length : Nat) : Int))) else (if (c.toNat : Int) = 46 then (some (4, 0, (⟨#[]⟩ : ByteArray), ([] : List SDoc), (((pre ++ [c]).length : Nat) : Int))) else (if (c.toNat : Int) = 33 then (some (5, 0, (⟨#[]⟩ : ByteArray), ([] : List SDoc), (((pre ++ [c]).length : Nat) : Int))) else (if (c.toNat : Int) = 34 then ((spec_l1Word.f k (ba L) (pre.length : Int)).bind fun b => (some (b.1, b.2.1, b.2.2.1, b.2.2.2.1, b.2.2.2.2))) else (if (c.toNat : Int) = 40 then ((spec_l1Inner.f k (ba L) (((pre ++ [c]).length : Nat) : Int) 2 41 ((n + 1 : Nat) : Int)).bind fun b => (some (7, 0, (⟨#[]⟩ : ByteArray), b.1, b.2))) else (if (c.toNat : Int) = 91 then ((spec_l1Inner.f k (ba L) (((pre ++ [c]).length : Nat) : Int) 1 93 ((n + 1 : Nat) : Int)).bind fun b => (some (8, 0, (⟨#[]⟩ : ByteArray), b.1, b.2))) else (if (c.toNat : Int) ≥ 48 then (if (c.toNat : Int) ≤ 57 then (if (((pre ++ [c]).length : Nat) : Int) < (L.length : Int) then (if 0 ≤ (((pre ++ [c]).length : Nat) : Int) then (spec_l1Read.j1 k (ba L) (pre.length : Int) ((n + 1 : Nat) : Int) ((bt (ba L) (((pre ++ [c]).length : Nat) : Int)) == 60)) else (none)) else (spec_l1Read.j1 k (ba L) (pre.length : Int) ((n + 1 : Nat) : Int) false)) else (spec_l1Read.j1 k (ba L) (pre.length : Int) ((n + 1 : Nat) : Int) false)) else (spec_l1Read.j1 k (ba L) (pre.length : Int) ((n + 1 : Nat) : Int) false))))))))) R) →
          Ev (fun k => spec_l1Read.j0 k (ba L) (pre.length : Int) ((n + 1 : Nat) : Int) false) R := by
        intro R hR
        refine Ev.step (fun k => by rw [spec_l1Read.j0]) ?_
        simp only [Bool.false_eq_true, if_false, if_pos (show (0 : Int) ≤ (pre.length : Int) by omega), ba_size, if_pos (show (pre.length : Int) < (L.length : Int) by omega), bt_at h, w1]
        exact hR
      by_cases c1 : (c.toNat : Int) = 126
      · refine leafs 1 (by rw [pD, pN, if_pos c1]) (J _ ?_)
        simp only [if_pos c1]; exact Ev.now _
      by_cases c2 : (c.toNat : Int) = 95
      · refine leafs 3 (by rw [pD, pN, if_neg c1, if_pos c2]) (J _ ?_)
        simp only [if_neg c1, if_pos c2]; exact Ev.now _
      by_cases c3 : (c.toNat : Int) = 46
      · refine leafs 4 (by rw [pD, pN, if_neg c1, if_neg c2, if_pos c3]) (J _ ?_)
        simp only [if_neg c1, if_neg c2, if_pos c3]; exact Ev.now _
      by_cases c4 : (c.toNat : Int) = 33
      · refine leafs 5 (by rw [pD, pN, if_neg c1, if_neg c2, if_neg c3, if_pos c4]) (J _ ?_)
        simp only [if_neg c1, if_neg c2, if_neg c3, if_pos c4]; exact Ev.now _
      by_cases c5 : (c.toNat : Int) = 34
      · have hp : pD (n + 1) (c :: suf) = (pW suf).map fun q => (⟨2, 0, ba q.1, []⟩, q.2) := by rw [pD, pN, if_neg c1, if_neg c2, if_neg c3, if_neg c4, if_pos c5]
        have hw := specWord_loop (L := L) (pre := pre) (c0 := c) hL suf [] h
        have hw' : Ev (fun k => spec_l1Word.f k (ba L) (pre.length : Int)) (wordR L.length [] (pW suf)) := by
          refine Ev.congr (fun k => by rw [spec_l1Word.f]) ?_
          rw [w64 (by omega) (by omega), show (pre.length : Int) + 1 = ((pre.length + 1 + ([] : List UInt8).length : Nat) : Int) by simp]
          exact hw
        rw [hp]
        cases hq : pW suf with
        | none =>
          rw [hq] at hw'
          refine ⟨⟨0, 0, ⟨#[]⟩, []⟩, start _ (J _ ?_), fun d' r hd => by cases hd⟩
          simp only [if_neg c1, if_neg c2, if_neg c3, if_neg c4, if_pos c5]
          exact Ev.bind hw' (Ev.now _)
        | some q =>
          rw [hq] at hw'
          refine ⟨⟨2, 0, ba q.1, []⟩, start _ (J _ ?_), fun d' r hd => (Prod.mk.inj (Option.some.inj hd)).1.symm⟩
          simp only [if_neg c1, if_neg c2, if_neg c3, if_neg c4, if_pos c5]
          exact Ev.bind hw' (Ev.now _)
      by_cases c6 : (c.toNat : Int) = 40
      · have hp : pD (n + 1) (c :: suf) = (pK (pD n) 2 41 suf).map fun q => (⟨7, 0, ba [], q.1⟩, q.2) := by rw [pD, pN, if_neg c1, if_neg c2, if_neg c3, if_neg c4, if_neg c5, if_pos c6]
        obtain ⟨l, h1, h2⟩ := inner (pre ++ [c]) suf 2 41 h' (by omega)
        refine ⟨⟨7, 0, ba [], l⟩, start _ (J _ ?_), fun d' r hd => ?_⟩
        · simp only [if_neg c1, if_neg c2, if_neg c3, if_neg c4, if_neg c5, if_pos c6]
          refine Ev.bind h1 ?_
          rw [hp, show endAt L.length ((pK (pD n) 2 41 suf).map fun q => ((⟨7, 0, ba [], q.1⟩ : SDoc), q.2)) = endAt L.length (pK (pD n) 2 41 suf) by cases pK (pD n) 2 41 suf <;> rfl]
          exact Ev.now _
        · rw [hp] at hd
          obtain ⟨⟨ks, r'⟩, e1, e2⟩ := Option.map_eq_some_iff.1 hd
          obtain ⟨rfl, rfl⟩ := Prod.mk.inj e2
          rw [h2 ks r' e1]
      by_cases c7 : (c.toNat : Int) = 91
      · have hp : pD (n + 1) (c :: suf) = (pK (pD n) 1 93 suf).map fun q => (⟨8, 0, ba [], q.1⟩, q.2) := by rw [pD, pN, if_neg c1, if_neg c2, if_neg c3, if_neg c4, if_neg c5, if_neg c6, if_pos c7]
        obtain ⟨l, h1, h2⟩ := inner (pre ++ [c]) suf 1 93 h' (by omega)
        refine ⟨⟨8, 0, ba [], l⟩, start _ (J _ ?_), fun d' r hd => ?_⟩
        · simp only [if_neg c1, if_neg c2, if_neg c3, if_neg c4, if_neg c5, if_neg c6, if_pos c7]
          refine Ev.bind h1 ?_
          rw [hp, show endAt L.length ((pK (pD n) 1 93 suf).map fun q => ((⟨8, 0, ba [], q.1⟩ : SDoc), q.2)) = endAt L.length (pK (pD n) 1 93 suf) by cases pK (pD n) 1 93 suf <;> rfl]
          exact Ev.now _
        · rw [hp] at hd
          obtain ⟨⟨ks, r'⟩, e1, e2⟩ := Option.map_eq_some_iff.1 hd
          obtain ⟨rfl, rfl⟩ := Prod.mk.inj e2
          rw [h2 ks r' e1]
      have bad : (¬ (48 ≤ (c.toNat : Int) ∧ (c.toNat : Int) ≤ 57 ∧ hd60 suf = true)) → Ev (fun k => spec_l1Read.j1 k (ba L) (pre.length : Int) ((n + 1 : Nat) : Int) false) ((0 : Int), (0 : Int), (⟨#[]⟩ : ByteArray), ([] : List SDoc), (-1 : Int)) := by
        intro _
        refine Ev.step (fun k => by rw [spec_l1Read.j1]) ?_
        simp only [Bool.false_eq_true, if_false]
        exact Ev.now _
      by_cases c8 : 48 ≤ (c.toNat : Int) ∧ (c.toNat : Int) ≤ 57 ∧ hd60 suf = true
      · have hp : pD (n + 1) (c :: suf) = (pK (pD n) 1 62 suf.tail).map fun q => (⟨6, (c.toNat : Int) - 48, ba [], q.1⟩, q.2) := by rw [pD, pN, if_neg c1, if_neg c2, if_neg c3, if_neg c4, if_neg c5, if_neg c6, if_neg c7, if_pos c8]
        obtain ⟨c80, c81, c82⟩ := c8
        match suf, h, h', c82, hp, hl with
        | [], _, _, c82, _, _ => simp [hd60] at c82
        | q :: suf, h, h', c82, hp, hl =>
          have hq : (q.toNat : Int) = 60 := by simpa [hd60] using c82
          simp only [List.length_cons] at hl
          obtain ⟨l, h1, h2⟩ := inner (pre ++ [c] ++ [q]) suf 1 62 (by rw [h]; simp) (by omega)
          have w2 : wrap64 ((pre.length : Int) + 2) = (((pre ++ [c] ++ [q]).length : Nat) : Int) := by rw [w64 (by omega) (by omega)]; simp
          refine ⟨⟨6, (c.toNat : Int) - 48, ba [], l⟩, start _ (J _ ?_), fun d' r hd => ?_⟩
          · simp only [if_neg c1, if_neg c2, if_neg c3, if_neg c4, if_neg c5, if_neg c6, if_neg c7, if_pos (show (c.toNat : Int) ≥ 48 from c80), if_pos c81]
            rw [bt_at (L := L) (pre := pre ++ [c]) (suf := suf) (c := q) h']
            simp only [if_pos (show (((pre ++ [c]).length : Nat) : Int) < (L.length : Int) by simp; omega), if_pos (show (0 : Int) ≤ (((pre ++ [c]).length : Nat) : Int) by omega), hq, beq_self_eq_true]
            refine Ev.step (fun k => by rw [spec_l1Read.j1]) ?_
            simp only [if_true, w2]
            refine Ev.bind h1 ?_
            simp only [ba_size, if_pos (show (0 : Int) ≤ (pre.length : Int) by omega), if_pos (show (pre.length : Int) < (L.length : Int) by omega), bt_at h]
            rw [show ((c.toNat : Int) - 48) % 256 = (c.toNat : Int) - 48 by omega, hp]
            simp only [List.tail_cons]
            rw [show endAt L.length ((pK (pD n) 1 62 suf).map fun p => ((⟨6, (c.toNat : Int) - 48, ba [], p.1⟩ : SDoc), p.2)) = endAt L.length (pK (pD n) 1 62 suf) by cases pK (pD n) 1 62 suf <;> rfl]
            exact Ev.now _
          · rw [hp] at hd
            simp only [List.tail_cons] at hd
            obtain ⟨⟨ks, r'⟩, e1, e2⟩ := Option.map_eq_some_iff.1 hd
            obtain ⟨rfl, rfl⟩ := Prod.mk.inj e2
            rw [h2 ks r' e1]
      · have hp : pD (n + 1) (c :: suf) = none := by rw [pD, pN, if_neg c1, if_neg c2, if_neg c3, if_neg c4, if_neg c5, if_neg c6, if_neg c7, if_neg c8]
        rw [hp]
        refine ⟨⟨0, 0, ⟨#[]⟩, []⟩, start _ (J _ ?_), fun d' r hd => by cases hd⟩
        simp only [if_neg c1, if_neg c2, if_neg c3, if_neg c4, if_neg c5, if_neg c6, if_neg c7]
        refine Ev.iff (fun c80 => Ev.iff (fun c81 => ?_) (fun _ => bad c8)) (fun _ => bad c8)
        match suf, h, h', c8 with
        | [], h, _, c8 =>
          simp only [List.length_append, List.length_cons, List.length_nil] at hl
          simp only [if_neg (show ¬ ((((pre ++ [c]).length : Nat) : Int) < (L.length : Int)) by simp; omega)]
          exact bad c8
        | q :: suf, h, h', c8 =>
          have hq : ((q.toNat : Int) == 60) = false := by
            cases hb : ((q.toNat : Int) == 60) with
            | false => rfl
            | true => exact absurd ⟨c80, c81, by simpa [hd60] using hb⟩ c8
          simp only [List.length_cons] at hl
          simp only [if_pos (show (((pre ++ [c]).length : Nat) : Int) < (L.length : Int) by simp; omega), if_pos (show (0 : Int) ≤ (((pre ++ [c]).length : Nat) : Int) by omega), bt_at (L := L) (pre := pre ++ [c]) (suf := suf) (c := q) h', hq]
          exact bad c8
def parseR (L : List UInt8) : Option SDoc := match pD 40 L with
  | some (d, []) => if docV d = true then some d else none
  | _ => none
def docR : Option SDoc → Int × Int × ByteArray × List SDoc × Bool
  | some d => (d.f0, d.f1, d.f2, d.f3, true)
  | none => (0, 0, ⟨#[]⟩, [], false)
theorem specParse_ev (s : ByteArray) (hs : s.size ≤ 1099511627776) : Ev (fun k => spec_ParseDoc.f k s) (docR (parseR s.data.toList)) := by
  have hs' : s.data.toList.length ≤ 1099511627776 := by rw [← size_data]; exact hs
  obtain ⟨d, h1, h2⟩ := specRead_ev hs' 40 (Nat.le_refl _) [] s.data.toList rfl
  rw [ba_of] at h1
  have h1 : Ev (fun k => spec_l1Read.f k s 0 40) (d.f0, d.f1, d.f2, d.f3, endAt s.data.toList.length (pD 40 s.data.toList)) := h1
  refine Ev.congr (fun k => by rw [spec_ParseDoc.f]) (Ev.bind h1 ?_)
  rw [size_data]
  unfold parseR
  cases hp : pD 40 s.data.toList with
  | none =>
    simp only [endAt, if_neg (show ¬ ((-1 : Int) = (s.data.toList.length : Int)) by omega)]
    exact Ev.now _
  | some q =>
    obtain ⟨d', r⟩ := q
    obtain rfl := h2 d' r hp
    obtain ⟨hm, u, hu⟩ := pD_good 40 _ _ _ hp
    match r, hp, hm, hu with
    | [], hp, hm, hu =>
      simp only [endAt, List.length_nil, if_pos (show ((s.data.toList.length : Int) - ((0 : Nat) : Int) = (s.data.toList.length : Int)) by omega)]
      refine Ev.bind (specValid_ev d' (by omega)) ?_
      by_cases hv : docV d' = true
      · simp only [if_pos hv, docR]; exact Ev.now _
      · simp only [if_neg hv, docR]; exact Ev.now _
    | c :: r, hp, hm, hu =>
      simp only [endAt, List.length_cons, if_neg (show ¬ ((s.data.toList.length : Int) - ((r.length + 1 : Nat) : Int) = (s.data.toList.length : Int)) by omega)]
      exact Ev.now _
end Go.Proofs.Ytdhdfmmefghijab.Pure
namespace Go.Proofs.Ytdhdfmmefghijab.P
open Go.RowKit Go.Proofs.YtdhdfmmefghijabW.PrintWords Go.Proofs.YtdhdfmmefghijabW.PrintLast Go.Proofs.YtdhdfmmefghijabW.PrintMore
attribute [local go_sem] max2_int min2_int max_two min_two max_three min_three max_four min_four
set_option linter.unusedVariables false
set_option linter.unusedSimpArgs false
mutual
def spec_CountOps.j0 : Nat → Int → Int → Int → Int → ByteArray → List (SDoc) → Option (Int)
  | 0, _, _, _, _, _, _ => none
  | k + 1, x1, x5, x1012000, x1012001, x1012002, x1012003 => spec_CountOps.l0 k x1 x5 0 x1012000 x1012001 x1012002 x1012003
def spec_CountOps.l0 : Nat → Int → Int → Int → Int → Int → ByteArray → List (SDoc) → Option (Int)
  | 0, _, _, _, _, _, _, _ => none
  | k + 1, x1, x5, x6, x1012000, x1012001, x1012002, x1012003 => if x6 < (x1012003.length : Int) then (if 0 ≤ x6 then ((spec_CountOps.f k ((rd_TDoc x1012003 x6).f0) ((rd_TDoc x1012003 x6).f1) ((rd_TDoc x1012003 x6).f2) ((rd_TDoc x1012003 x6).f3) x1).bind fun t1013 => (spec_CountOps.l0 k x1 (wrap64 (x5 + t1013)) (wrap64 (x6 + 1)) x1012000 x1012001 x1012002 x1012003)) else (none)) else (some x5)
def spec_CountOps.f : Nat → Int → Int → ByteArray → List (SDoc) → Int → Option (Int)
  | 0, _, _, _, _, _ => none
  | k + 1, a0_0, a0_1, a0_2, l0_3, a1 => if a0_0 = a1 then (spec_CountOps.j0 k a1 1 a0_0 a0_1 a0_2 l0_3) else (spec_CountOps.j0 k a1 0 a0_0 a0_1 a0_2 l0_3)
end
end Go.Proofs.Ytdhdfmmefghijab.P
namespace Go.Proofs.Ytdhdfmmefghijab.P
open Go.RowKit Go.Proofs.YtdhdfmmefghijabW.PrintWords Go.Proofs.YtdhdfmmefghijabW.PrintLast Go.Proofs.YtdhdfmmefghijabW.PrintMore
attribute [local go_sem] max2_int min2_int max_two min_two max_three min_three max_four min_four
set_option linter.unusedVariables false
set_option linter.unusedSimpArgs false
mutual
def impl_CountOps.j0 : Nat → Int → Int → Int → Int → ByteArray → List (SDoc) → Option (Int)
  | 0, _, _, _, _, _, _ => none
  | k + 1, x1, x5, x860000, x860001, x860002, x860003 => impl_CountOps.l0 k x1 x5 x860003 (x860003.length : Int) 0
def impl_CountOps.l0 : Nat → Int → Int → List (SDoc) → Int → Int → Option (Int)
  | 0, _, _, _, _, _ => none
  | k + 1, x1, x5, x13, x14, x15 => if x15 < x14 then (if 0 ≤ x15 then (if x15 < (x13.length : Int) then ((impl_CountOps.f k ((rd_TDoc x13 x15).f0) ((rd_TDoc x13 x15).f1) ((rd_TDoc x13 x15).f2) ((rd_TDoc x13 x15).f3) x1).bind fun t862 => (impl_CountOps.l0 k x1 (wrap64 (x5 + t862)) x13 x14 (wrap64 (x15 + 1)))) else (none)) else (none)) else (some x5)
def impl_CountOps.f : Nat → Int → Int → ByteArray → List (SDoc) → Int → Option (Int)
  | 0, _, _, _, _, _ => none
  | k + 1, a0_0, a0_1, a0_2, l0_3, a1 => if a0_0 = a1 then (impl_CountOps.j0 k a1 1 a0_0 a0_1 a0_2 l0_3) else (impl_CountOps.j0 k a1 0 a0_0 a0_1 a0_2 l0_3)
end
end Go.Proofs.Ytdhdfmmefghijab.P
namespace Go.Proofs.Ytdhdfmmefghijab.Pure
open Go.RowKit Go.Proofs.Ytdhdfmmefghijab.P Go.Proofs.YtdhdfmmefghijabW.PrintWords Go.Proofs.YtdhdfmmefghijabW.PrintLast Go.Proofs.YtdhdfmmefghijabW.PrintMore
set_option linter.unusedVariables false
set_option linter.unusedSimpArgs false
mutual
def cnt (op : Int) : SDoc → Nat
  | ⟨o, _, _, ks⟩ => (if o = op then 1 else 0) + cntL op ks
def cntL (op : Int) : List SDoc → Nat
  | [] => 0
  | k :: ks => cnt op k + cntL op ks
end
end Go.Proofs.Ytdhdfmmefghijab.Pure
namespace Go.Proofs.Ytdhdfmmefghijab.Pure
open Go.RowKit Go.Proofs.Ytdhdfmmefghijab.P Go.Proofs.YtdhdfmmefghijabW.PrintWords Go.Proofs.YtdhdfmmefghijabW.PrintLast Go.Proofs.YtdhdfmmefghijabW.PrintMore
set_option linter.unusedVariables false
set_option linter.unusedSimpArgs false
theorem wf_kids {o n : Int} {t : ByteArray} {ks : List SDoc} {deep : Nat} (h : wf ⟨o, n, t, ks⟩ deep = true) : ∀ y, y ∈ ks → wf y (deep - 1) = true := by
  have h3 := ((wf_mk o n t ks deep).1 h).2.2
  rw [wfL_all, List.all_eq_true] at h3
  exact h3
theorem wf_node {o n : Int} {t : ByteArray} {ks : List SDoc} {deep : Nat} (h : wf ⟨o, n, t, ks⟩ deep = true) : 1 ≤ o ∧ o ≤ 8 ∧ (ks.length : Int) = docKids o ∧ 0 ≤ n ∧ n ≤ 9 ∧ (n = 0 ∨ o = 6) ∧ (o = 2 → tv t = true) ∧ (o ≠ 2 → t = ⟨#[]⟩) := by
  have h2 := (nodeOk_iff o n t ks.length).1 ((wf_mk o n t ks deep).1 h).2.1
  obtain ⟨a, b, c, d, e, f, g⟩ := h2
  refine ⟨a, b, c, d, e, f, fun h => by rwa [if_pos h] at g, fun h => ?_⟩
  rw [if_neg h, decide_eq_true_eq, size_data, List.length_eq_zero_iff] at g
  obtain ⟨⟨l⟩⟩ := t
  simp at g
  subst g
  rfl
end Go.Proofs.Ytdhdfmmefghijab.Pure
namespace Go.Proofs.Ytdhdfmmefghijab.P
open Go.RowKit Go.Proofs.YtdhdfmmefghijabW.PrintWords Go.Proofs.YtdhdfmmefghijabW.PrintLast Go.Proofs.YtdhdfmmefghijabW.PrintMore
attribute [local go_sem] max2_int min2_int max_two min_two max_three min_three max_four min_four
set_option linter.unusedVariables false
set_option linter.unusedSimpArgs false
mutual
def spec_l1Copy.l0 : Nat → Int → Int → Int → ByteArray → List (SDoc) → Int → Int → ByteArray → List (SDoc) → Option (Int × Int × ByteArray × (List (SDoc)))
  | 0, _, _, _, _, _, _, _, _, _ => none
  | k + 1, x4, x695000, x695001, x695002, x695003, x697000, x697001, x697002, x697003 => if x4 < (x695003.length : Int) then (if 0 ≤ x4 then ((spec_l1Copy.f k ((rd_TDoc x695003 x4).f0) ((rd_TDoc x695003 x4).f1) ((rd_TDoc x695003 x4).f2) ((rd_TDoc x695003 x4).f3)).bind fun bt698 => (if x697003.length < 2513169434916 then (spec_l1Copy.l0 k (wrap64 (x4 + 1)) x695000 x695001 x695002 x695003 x697000 x697001 x697002 (x697003 ++ [(⟨bt698.1, bt698.2.1, bt698.2.2.1, bt698.2.2.2⟩ : SDoc)])) else (none))) else (none)) else (some (x697000, x697001, x697002, x697003))
def spec_l1Copy.f : Nat → Int → Int → ByteArray → List (SDoc) → Option (Int × Int × ByteArray × (List (SDoc)))
  | 0, _, _, _, _ => none
  | k + 1, a0_0, a0_1, a0_2, l0_3 => spec_l1Copy.l0 k 0 a0_0 a0_1 a0_2 l0_3 a0_0 a0_1 a0_2 ([] : List (SDoc))
end
end Go.Proofs.Ytdhdfmmefghijab.P
namespace Go.Proofs.Ytdhdfmmefghijab.Pure
open Go.RowKit Go.Proofs.Ytdhdfmmefghijab.P Go.Proofs.YtdhdfmmefghijabW.PrintWords Go.Proofs.YtdhdfmmefghijabW.PrintLast Go.Proofs.YtdhdfmmefghijabW.PrintMore
set_option linter.unusedVariables false
set_option linter.unusedSimpArgs false
end Go.Proofs.Ytdhdfmmefghijab.Pure
namespace Go.Proofs.Ytdhdfmmefghijab.Pure
open Go.RowKit Go.Proofs.Ytdhdfmmefghijab.P Go.Proofs.YtdhdfmmefghijabW.PrintWords Go.Proofs.YtdhdfmmefghijabW.PrintLast Go.Proofs.YtdhdfmmefghijabW.PrintMore
set_option linter.unusedVariables false
set_option linter.unusedSimpArgs false
theorem word2_ev {b : List Int} (hb : Code b) (p : Int) (hp0 : 0 ≤ p) (hp : p ≤ 1000000000) : ∃ s, tv s = true ∧ Ev (fun k => spec_l1Word2.f k b p) (s, p + 1) := by
  obtain ⟨s, hs, h⟩ := of_ev hb p [(⟨#[97]⟩ : ByteArray), (⟨#[98, 98]⟩ : ByteArray), (⟨#[99, 99, 99]⟩ : ByteArray), (⟨#[100, 100, 100, 100]⟩ : ByteArray), (⟨#[102, 40]⟩ : ByteArray), (⟨#[41]⟩ : ByteArray), (⟨#[44]⟩ : ByteArray), (⟨#[120, 61, 49]⟩ : ByteArray), (⟨#[97, 98, 99, 100, 101, 102, 103, 104]⟩ : ByteArray), (⟨#[101]⟩ : ByteArray)] (by simp) hp0 hp
  refine ⟨s, ?_, Ev.congr (fun k => by rw [spec_l1Word2.f]) (Ev.bind h (Ev.now _))⟩
  have : ∀ s ∈ [(⟨#[97]⟩ : ByteArray), (⟨#[98, 98]⟩ : ByteArray), (⟨#[99, 99, 99]⟩ : ByteArray), (⟨#[100, 100, 100, 100]⟩ : ByteArray), (⟨#[102, 40]⟩ : ByteArray), (⟨#[41]⟩ : ByteArray), (⟨#[44]⟩ : ByteArray), (⟨#[120, 61, 49]⟩ : ByteArray), (⟨#[97, 98, 99, 100, 101, 102, 103, 104]⟩ : ByteArray), (⟨#[101]⟩ : ByteArray)], tv s = true := by decide +kernel
  exact this s hs
theorem tv_size {s : ByteArray} (h : tv s = true) : 1 ≤ s.size ∧ s.size ≤ 12 := by
  simp only [tv, Bool.and_eq_true, decide_eq_true_eq] at h
  exact ⟨h.1, h.2.1⟩
theorem wf_mono : ∀ (d : SDoc) (m m' : Nat), m ≤ m' → wf d m = true → wf d m' = true := by
  intro d
  induction d using SDoc.ind with
  | h o n t ks ih =>
    intro m m' hm h
    rw [wf_mk] at h ⊢
    refine ⟨by omega, h.2.1, ?_⟩
    rw [wfL_all, List.all_eq_true] at h ⊢
    exact fun y hy => ih y hy (m - 1) (m' - 1) (by omega) (h.2.2 y hy)
theorem wf_msz : ∀ (d : SDoc) (m : Nat), wf d m = true → msz d ≤ 13 * dsz d := by
  intro d
  induction d using SDoc.ind with
  | h o n t ks ih =>
    intro m h
    obtain ⟨_, _, _, _, _, _, h2, h3⟩ := wf_node h
    have hk := wf_kids h
    have key : ∀ l : List SDoc, (∀ y, y ∈ l → msz y ≤ 13 * dsz y) → mszL l ≤ 13 * dszL l := by
      intro l
      induction l with
      | nil => intro _; simp [mszL, dszL]
      | cons y l ihl =>
        intro hl
        have h1 := hl y List.mem_cons_self
        have h2 := ihl (fun z hz => hl z (List.mem_cons_of_mem _ hz))
        simp only [mszL, dszL]
        omega
    have := key ks (fun y hy => ih y hy (m - 1) (hk y hy))
    have ht : t.size ≤ 12 := by
      by_cases c : o = 2
      · exact (tv_size (h2 c)).2
      · rw [h3 c]; show 0 ≤ 12; omega
    simp only [msz, dsz]
    omega
theorem wf_of {o n : Int} {t : ByteArray} {ks : List SDoc} {m : Nat} (h1 : 1 ≤ o) (h8 : o ≤ 8) (hk : (ks.length : Int) = docKids o) (hn0 : 0 ≤ n) (hn9 : n ≤ 9) (hn : n = 0 ∨ o = 6) (ht : o = 2 → tv t = true) (ht' : o ≠ 2 → t = ⟨#[]⟩) (hks : ∀ y, y ∈ ks → wf y m = true) : wf ⟨o, n, t, ks⟩ (m + 1) = true := by
  rw [wf_mk]
  refine ⟨by omega, (nodeOk_iff _ _ _ _).2 ⟨h1, h8, hk, hn0, hn9, hn, ?_⟩, ?_⟩
  · by_cases c : o = 2
    · rw [if_pos c]; exact ht c
    · rw [if_neg c, ht' c]; rfl
  · rw [wfL_all, List.all_eq_true]
    exact hks
theorem three_pos (n : Nat) : 1 ≤ 3 ^ n := by
  induction n with
  | zero => exact Nat.le_refl 1
  | succ n ih => rw [Nat.pow_succ]; omega
theorem dr_leaf (o : Int) (h : o = 1 ∨ o = 3 ∨ o = 4 ∨ o = 5) (m : Nat) : wf ⟨o, 0, ⟨#[]⟩, []⟩ (m + 1) = true := wf_of (by omega) (by omega) (by rcases h with rfl | rfl | rfl | rfl <;> rfl) (by omega) (by omega) (.inl rfl) (by omega) (fun _ => rfl) (fun y hy => by cases hy)
theorem some0_ev {b : List Int} (hb : Code b) (p : Int) (hp0 : 0 ≤ p) (hp : p ≤ 900000000) : ∃ (d : SDoc) (q : Int), Ev (fun k => spec_l1Some.f k b p 0) (d.f0, d.f1, d.f2, d.f3, q) ∧ wf d 1 = true ∧ dsz d = 1 ∧ p ≤ q ∧ q ≤ p + 2 := by
  obtain ⟨r, h1, hr0, hr⟩ := pick_ev hb p 8 hp0 (by omega)
  obtain ⟨s, hs, h2⟩ := word2_ev hb (p + 1) (by omega) (by omega)
  have J : ∀ R, Ev (fun k => (spec_l15Rd_pick.f k b p 8).bind fun bt237 => (if bt237.1 = 0 then (some ((1 : Int), (0 : Int), (⟨#[]⟩ : ByteArray), ([] : List SDoc), bt237.2)) else (if bt237.1 = 1 then (spec_l1Some.j0 k bt237.1 (bt237.1 == 1) b bt237.2) else (spec_l1Some.j0 k bt237.1 (bt237.1 == 2) b bt237.2)))) R → Ev (fun k => spec_l1Some.f k b p 0) R := by
    intro R h
    refine Ev.step (fun k => by rw [spec_l1Some.f]) ?_
    simp only [if_true]
    exact h
  by_cases c0 : r = 0
  · refine ⟨⟨1, 0, ⟨#[]⟩, []⟩, p + 1, J _ (Ev.bind h1 ?_), dr_leaf 1 (by omega) 0, rfl, by omega, by omega⟩
    simp only [if_pos c0]
    exact Ev.now _
  have J2 : ∀ (R : Int × Int × ByteArray × List SDoc × Int) (w : Bool), w = (decide (r = 1) || decide (r = 2)) → Ev (fun k => spec_l1Some.j0 k r w b (p + 1)) R → Ev (fun k => spec_l1Some.f k b p 0) R := by
    intro R w hw h
    refine J _ (Ev.bind h1 ?_)
    simp only [if_neg c0]
    refine Ev.iff (fun c => ?_) (fun c => ?_)
    · rw [show (r == 1) = w by rw [hw]; simp [c]]
      exact h
    · rw [show (r == 2) = w by rw [hw, decide_eq_false (show ¬ r = 1 from c), Bool.false_or]; rfl]
      exact h
  by_cases c1 : r = 1 ∨ r = 2
  · refine ⟨⟨3, 0, ⟨#[]⟩, []⟩, p + 1, J2 _ true (by rcases c1 with rfl | rfl <;> rfl) (Ev.step (fun k => by rw [spec_l1Some.j0]) ?_), dr_leaf 3 (by omega) 0, rfl, by omega, by omega⟩
    simp only [if_true]
    exact Ev.now _
  have hw : false = (decide (r = 1) || decide (r = 2)) := by
    rw [decide_eq_false (fun e => c1 (.inl e)), decide_eq_false (fun e => c1 (.inr e))]; rfl
  by_cases c3 : r = 3
  · refine ⟨⟨4, 0, ⟨#[]⟩, []⟩, p + 1, J2 _ false hw (Ev.step (fun k => by rw [spec_l1Some.j0]) ?_), dr_leaf 4 (by omega) 0, rfl, by omega, by omega⟩
    simp only [Bool.false_eq_true, if_false, if_pos c3]
    exact Ev.now _
  · refine ⟨⟨2, 0, s, []⟩, p + 1 + 1, J2 _ false hw (Ev.step (fun k => by rw [spec_l1Some.j0]) ?_), ?_, rfl, by omega, by omega⟩
    · simp only [Bool.false_eq_true, if_false, if_neg c3]
      exact Ev.bind h2 (Ev.now _)
    · exact wf_of (by omega) (by omega) rfl (by omega) (by omega) (.inl rfl) (fun _ => hs) (fun h => absurd rfl h) (fun y hy => by cases hy)
theorem some_ev {b : List Int} (hb : Code b) : ∀ (n : Nat), n ≤ 5 → ∀ (p : Int), 0 ≤ p → p + 12 * 3 ^ n ≤ 800000000 → ∃ (d : SDoc) (q : Int), Ev (fun k => spec_l1Some.f k b p (n : Int)) (d.f0, d.f1, d.f2, d.f3, q) ∧ wf d (n + 3) = true ∧ dsz d ≤ 5 * 3 ^ n - 4 ∧ p ≤ q ∧ q ≤ p + 12 * 3 ^ n := by
  intro n
  induction n with
  | zero =>
    intro _ p hp0 hp
    obtain ⟨d, q, h, h1, h2, h3, h4⟩ := some0_ev hb p hp0 (by omega)
    exact ⟨d, q, h, wf_mono d 1 3 (by omega) h1, by omega, h3, by omega⟩
  | succ n ih =>
    intro hn p hp0 hp
    have ih := ih (by omega)
    have h3 := three_pos n
    have h3b : 3 ^ n ≤ 3 ^ 5 := Nat.pow_le_pow_right (by omega) (by omega)
    have h3c : (3 : Nat) ^ 5 = 243 := rfl
    have e3 : 3 ^ (n + 1) = 3 * 3 ^ n := by rw [Nat.pow_succ]; omega
    have e3i : ((3 : Int) ^ (n + 1)) = 3 * ((3 ^ n : Nat) : Int) := by rw [Int.pow_succ]; simp; omega
    have e3j : ((3 : Int) ^ n) = ((3 ^ n : Nat) : Int) := by simp
    rw [e3i] at hp ⊢
    rw [e3j] at ih
    rw [e3]
    generalize 3 ^ n = T at *
    obtain ⟨r, g1, hr0, hr⟩ := pick_ev hb p 12 hp0 (by omega)
    have hr := hr (by omega)
    have w1 : wrap64 (((n + 1 : Nat) : Int) - 1) = (n : Int) := by rw [w64 (by omega) (by omega)]; omega
    have J : ∀ R, Ev (fun k => (spec_l15Rd_pick.f k b p 12).bind fun bt241 => (if bt241.1 = 0 then ((spec_l1Some.f k b bt241.2 0).bind fun bt243 => (some (bt243.1, bt243.2.1, bt243.2.2.1, bt243.2.2.2.1, bt243.2.2.2.2))) else (if bt241.1 = 1 then (spec_l1Some.j1 k ((n + 1 : Nat) : Int) bt241.1 (bt241.1 == 1) b bt241.2) else (spec_l1Some.j1 k ((n + 1 : Nat) : Int) bt241.1 (bt241.1 == 2) b bt241.2)))) R → Ev (fun k => spec_l1Some.f k b p ((n + 1 : Nat) : Int)) R := by
      intro R h
      refine Ev.step (fun k => by rw [spec_l1Some.f]) ?_
      simp only [if_neg (show ¬ ((n + 1 : Nat) : Int) = 0 by omega)]
      exact h
    by_cases c0 : r = 0
    · obtain ⟨d, q, h, h1, h2, h4, h5⟩ := some0_ev hb (p + 1) (by omega) (by omega)
      refine ⟨d, q, J _ (Ev.bind g1 ?_), wf_mono d 1 _ (by omega) h1, by omega, by omega, by omega⟩
      simp only [if_pos c0]
      exact Ev.bind h (Ev.now _)
    have J2 : ∀ (R : Int × Int × ByteArray × List SDoc × Int) (w : Bool), w = (decide (r = 1) || decide (r = 2)) → Ev (fun k => spec_l1Some.j1 k ((n + 1 : Nat) : Int) r w b (p + 1)) R → Ev (fun k => spec_l1Some.f k b p ((n + 1 : Nat) : Int)) R := by
      intro R w hw h
      refine J _ (Ev.bind g1 ?_)
      simp only [if_neg c0]
      refine Ev.iff (fun c => ?_) (fun c => ?_)
      · rw [show (r == 1) = w by rw [hw]; simp [c]]
        exact h
      · rw [show (r == 2) = w by rw [hw, decide_eq_false (show ¬ r = 1 from c), Bool.false_or]; rfl]
        exact h
    by_cases c1 : r = 1 ∨ r = 2
    · obtain ⟨m, hm, g2⟩ := num_ev hb (p + 1) [2, 1, 4, 0, 9] (by simp) (by omega) (by omega)
      have hm9 : 0 ≤ m ∧ m ≤ 9 := by
        simp only [List.mem_cons, List.not_mem_nil, or_false] at hm
        omega
      obtain ⟨d, q, h, h1, h2, h4, h5⟩ := ih (p + 1 + 1) (by omega) (by omega)
      refine ⟨⟨6, m, ⟨#[]⟩, [d]⟩, q, J2 _ true (by rcases c1 with rfl | rfl <;> rfl) (Ev.step (fun k => by rw [spec_l1Some.j1]) ?_), ?_, ?_, by omega, by omega⟩
      · simp only [if_true, w1]
        refine Ev.bind g2 (Ev.bind h ?_)
        simp only [SDoc_eta]
        exact Ev.now _
      · exact wf_of (by omega) (by omega) rfl hm9.1 hm9.2 (.inr rfl) (by omega) (fun _ => rfl) (fun y hy => by rw [List.mem_singleton.1 hy]; exact h1)
      · simp only [dsz, dszL]; omega
    have hw : false = (decide (r = 1) || decide (r = 2)) := by
      rw [decide_eq_false (fun e => c1 (.inl e)), decide_eq_false (fun e => c1 (.inr e))]; rfl
    have J3 : ∀ (R : Int × Int × ByteArray × List SDoc × Int) (w : Bool), w = (decide (r = 3) || (decide (r = 4) || decide (r = 5))) → Ev (fun k => spec_l1Some.j2 k ((n + 1 : Nat) : Int) r w b (p + 1)) R → Ev (fun k => spec_l1Some.f k b p ((n + 1 : Nat) : Int)) R := by
      intro R w hw' h
      refine J2 _ false hw (Ev.step (fun k => by rw [spec_l1Some.j1]) ?_)
      simp only [Bool.false_eq_true, if_false]
      refine Ev.iff (fun c => ?_) (fun c => Ev.iff (fun c' => ?_) (fun c' => ?_))
      · rw [show (r == 3) = w by rw [hw']; simp [c]]
        exact h
      · rw [show (r == 4) = w by rw [hw', decide_eq_false (show ¬ r = 3 from c), Bool.false_or, decide_eq_true (show r = 4 from c'), show (r == 4) = true by rw [show r = 4 from c']; rfl]; rfl]
        exact h
      · rw [show (r == 5) = w by rw [hw', decide_eq_false (show ¬ r = 3 from c), Bool.false_or, decide_eq_false (show ¬ r = 4 from c'), Bool.false_or]; rfl]
        exact h
    by_cases c3 : r = 3 ∨ r = 4 ∨ r = 5
    · obtain ⟨d, q, h, h1, h2, h4, h5⟩ := ih (p + 1) (by omega) (by omega)
      refine ⟨⟨8, 0, ⟨#[]⟩, [d]⟩, q, J3 _ true (by rcases c3 with rfl | rfl | rfl <;> rfl) (Ev.step (fun k => by rw [spec_l1Some.j2]) ?_), ?_, ?_, by omega, by omega⟩
      · simp only [if_true, w1]
        refine Ev.bind h ?_
        simp only [SDoc_eta]
        exact Ev.now _
      · exact wf_of (by omega) (by omega) rfl (by omega) (by omega) (.inl rfl) (by omega) (fun _ => rfl) (fun y hy => by rw [List.mem_singleton.1 hy]; exact h1)
      · simp only [dsz, dszL]; omega
    have hw3 : false = (decide (r = 3) || (decide (r = 4) || decide (r = 5))) := by
      rw [decide_eq_false (fun e => c3 (.inl e)), decide_eq_false (fun e => c3 (.inr (.inl e))), decide_eq_false (fun e => c3 (.inr (.inr e)))]; rfl
    have cat : ∀ (x y : SDoc) (m : Nat), wf x m = true → wf y m = true → wf ⟨7, 0, ⟨#[]⟩, [x, y]⟩ (m + 1) = true := by
      intro x y m hx hy
      refine wf_of (by omega) (by omega) rfl (by omega) (by omega) (.inl rfl) (by omega) (fun _ => rfl) (fun z hz => ?_)
      simp only [List.mem_cons, List.not_mem_nil, or_false] at hz
      rcases hz with rfl | rfl
      · exact hx
      · exact hy
    by_cases c6 : r = 6
    · obtain ⟨s, g2, hs0, hs⟩ := pick_ev hb (p + 1) 3 (by omega) (by omega)
      obtain ⟨d, q, h, h1, h2, h4, h5⟩ := ih (p + 1 + 1) (by omega) (by omega)
      obtain ⟨d0, q0, i, i1, i2, i4, i5⟩ := some0_ev hb q (by omega) (by omega)
      have hd0 := wf_mono d0 1 (n + 1) (by omega) i1
      have fin : ∀ o : Int, (o = 5 ∨ o = 3) → wf ⟨7, 0, ⟨#[]⟩, [d, ⟨7, 0, ⟨#[]⟩, [⟨o, 0, ⟨#[]⟩, []⟩, d0]⟩]⟩ (n + 1 + 3) = true ∧ dsz ⟨7, 0, ⟨#[]⟩, [d, ⟨7, 0, ⟨#[]⟩, [⟨o, 0, ⟨#[]⟩, []⟩, d0]⟩]⟩ ≤ 5 * (3 * T) - 4 := by
        intro o ho
        refine ⟨cat _ _ (n + 3) h1 (wf_mono _ (n + 1 + 1) _ (by omega) (cat _ _ (n + 1) (dr_leaf o (by omega) n) hd0)), ?_⟩
        simp only [dsz, dszL]
        omega
      by_cases cs : s = 0
      · refine ⟨⟨7, 0, ⟨#[]⟩, [d, ⟨7, 0, ⟨#[]⟩, [⟨5, 0, ⟨#[]⟩, []⟩, d0]⟩]⟩, q0, J3 _ false hw3 (Ev.step (fun k => by rw [spec_l1Some.j2]) ?_), (fin 5 (.inl rfl)).1, (fin 5 (.inl rfl)).2, by omega, by omega⟩
        simp only [Bool.false_eq_true, if_false, if_pos c6, w1]
        refine Ev.bind g2 ?_
        simp only [if_pos cs]
        refine Ev.bind h (Ev.bind i ?_)
        simp only [spec_l1Cat.f, Option.bind_some, SDoc_eta]
        exact Ev.now _
      · refine ⟨⟨7, 0, ⟨#[]⟩, [d, ⟨7, 0, ⟨#[]⟩, [⟨3, 0, ⟨#[]⟩, []⟩, d0]⟩]⟩, q0, J3 _ false hw3 (Ev.step (fun k => by rw [spec_l1Some.j2]) ?_), (fin 3 (.inr rfl)).1, (fin 3 (.inr rfl)).2, by omega, by omega⟩
        simp only [Bool.false_eq_true, if_false, if_pos c6, w1]
        refine Ev.bind g2 ?_
        simp only [if_neg cs]
        refine Ev.bind h (Ev.bind i ?_)
        simp only [spec_l1Cat.f, Option.bind_some, SDoc_eta]
        exact Ev.now _
    · obtain ⟨d, q, h, h1, h2, h4, h5⟩ := ih (p + 1) (by omega) (by omega)
      obtain ⟨d', q', i, i1, i2, i4, i5⟩ := ih q (by omega) (by omega)
      refine ⟨⟨7, 0, ⟨#[]⟩, [d, d']⟩, q', J3 _ false hw3 (Ev.step (fun k => by rw [spec_l1Some.j2]) ?_), cat _ _ (n + 3) h1 i1, ?_, by omega, by omega⟩
      · simp only [Bool.false_eq_true, if_false, if_neg c6, w1]
        refine Ev.bind h (Ev.bind i ?_)
        simp only [spec_l1Cat.f, Option.bind_some, SDoc_eta]
        exact Ev.now _
      · simp only [dsz, dszL]; omega
def VDoc (d : SDoc) : Prop := docV d = true ∧ msz d ≤ 1040
theorem vdoc_of {d : SDoc} (h : docV d = true) : VDoc d := by
  obtain ⟨h1, h2⟩ := (docV_iff d).1 h
  have := wf_msz d 40 h1
  exact ⟨h, by omega⟩
theorem draw_loop {b : List Int} (hb : Code b) (L : List ByteArray) (hL0 : 0 < L.length) (hL : ∀ s ∈ L, s.size ≤ 1000) : ∀ (m : Nat) (i : Nat), i + m = 3 → ∀ p : Int, 0 ≤ p → p ≤ 100000000 + 10000 * i →
    ∃ (d : SDoc) (q : Int), Ev (fun k => spec_l1Draw.l0 k L (i : Int) b p) (d.f0, d.f1, d.f2, d.f3, q) ∧ VDoc d ∧ p ≤ q ∧ q ≤ p + 5000 * (m + 1) := by
  intro m
  induction m with
  | zero =>
    intro i hi p hp0 hp
    obtain ⟨d, q, h, h1, h2, h3, h4⟩ := some_ev hb 2 (by omega) p hp0 (by omega)
    refine ⟨d, q, Ev.step (fun k => by rw [spec_l1Draw.l0]) ?_, vdoc_of ((docV_iff d).2 ⟨wf_mono d 5 40 (by omega) h1, by omega⟩), h3, by omega⟩
    simp only [if_neg (show ¬ (i : Int) < 3 by omega)]
    exact Ev.bind h (Ev.now _)
  | succ m ih =>
    intro i hi p hp0 hp
    have c : (i : Int) < 3 := by omega
    have w1 : wrap64 ((i : Int) + 1) = ((i + 1 : Nat) : Int) := by rw [w64 (by omega) (by omega)]; omega
    obtain ⟨r, g1, hr0, hr⟩ := pick_ev hb p 3 hp0 (by omega)
    have J1 : ∀ p' : Int, p + 1 ≤ p' → p' ≤ p + 2 → ∃ (d : SDoc) (q : Int), Ev (fun k => spec_l1Draw.j1 k L (i : Int) b p') (d.f0, d.f1, d.f2, d.f3, q) ∧ VDoc d ∧ p ≤ q ∧ q ≤ p + 5000 * (m + 1 + 1) := by
      intro p' h1 h2
      obtain ⟨n, hn, g2⟩ := num_ev hb p' [4, 3, 5, 2] (by simp) (by omega) (by omega)
      simp only [List.mem_cons, List.not_mem_nil, or_false] at hn
      obtain ⟨n', hn', rfl⟩ : ∃ n' : Nat, n' ≤ 5 ∧ n = (n' : Int) := ⟨n.toNat, by omega, by omega⟩
      obtain ⟨d, q, h, k1, k2, k3, k4⟩ := some_ev hb n' hn' (p' + 1) (by omega) (by
        have h3b : 3 ^ n' ≤ 3 ^ 5 := Nat.pow_le_pow_right (by omega) hn'
        have h3c : (3 : Nat) ^ 5 = 243 := rfl
        have e3j : ((3 : Int) ^ n') = ((3 ^ n' : Nat) : Int) := by simp
        rw [e3j]
        omega)
      have h3b : 3 ^ n' ≤ 3 ^ 5 := Nat.pow_le_pow_right (by omega) hn'
      have h3c : (3 : Nat) ^ 5 = 243 := rfl
      have e3j : ((3 : Int) ^ n') = ((3 ^ n' : Nat) : Int) := by simp
      rw [e3j] at k4
      generalize 3 ^ n' = T at *
      have km := wf_msz d _ k1
      obtain ⟨d2, q2, h2', v2, m2, m3⟩ := ih (i + 1) (by omega) q (by omega) (by omega)
      by_cases cv : docV d = true
      · by_cases c4 : (dsz d : Int) ≤ 40
        · refine ⟨d, q, Ev.step (fun k => by rw [spec_l1Draw.j1]) (Ev.bind g2 (Ev.bind h (Ev.bind (specValid_ev d (by omega)) ?_))), vdoc_of cv, by omega, by omega⟩
          simp only [if_pos cv]
          refine Ev.bind (specCount_ev d (by omega)) ?_
          simp only [if_pos c4]
          exact Ev.now _
        · refine ⟨d2, q2, Ev.step (fun k => by rw [spec_l1Draw.j1]) (Ev.bind g2 (Ev.bind h (Ev.bind (specValid_ev d (by omega)) ?_))), v2, by omega, by omega⟩
          simp only [if_pos cv]
          refine Ev.bind (specCount_ev d (by omega)) ?_
          simp only [if_neg c4, w1]
          exact h2'
      · refine ⟨d2, q2, Ev.step (fun k => by rw [spec_l1Draw.j1]) (Ev.bind g2 (Ev.bind h (Ev.bind (specValid_ev d (by omega)) ?_))), v2, by omega, by omega⟩
        simp only [if_neg cv, w1]
        exact h2'
    by_cases c0 : r = 0
    · obtain ⟨j, g2, hj0, hj⟩ := pick_ev hb (p + 1) (L.length : Int) (by omega) (by omega)
      have hj := hj (by omega)
      have hjl : j.toNat < L.length := by omega
      have hsz : (rdOf ByteArray.empty L j).size ≤ 1000 := by
        unfold rdOf
        rw [List.getD_eq_getElem?_getD, List.getElem?_eq_getElem hjl]
        exact hL _ (List.getElem_mem hjl)
      have hp := specParse_ev (rdOf ByteArray.empty L j) (by omega)
      cases hd : parseR (rdOf ByteArray.empty L j).data.toList with
      | none =>
        rw [hd] at hp
        obtain ⟨d, q, h1, h2, h3, h4⟩ := J1 (p + 1 + 1) (by omega) (by omega)
        refine ⟨d, q, Ev.step (fun k => by rw [spec_l1Draw.l0]) ?_, h2, h3, h4⟩
        simp only [if_pos c]
        refine Ev.bind g1 ?_
        simp only [if_pos c0]
        refine Ev.bind g2 ?_
        simp only [if_pos hj0, if_pos hj]
        refine Ev.bind hp ?_
        simp only [docR, Bool.false_eq_true, if_false]
        exact h1
      | some d =>
        rw [hd] at hp
        have hv : docV d = true := by
          unfold parseR at hd
          split at hd
          · split at hd
            · rename_i hv
              obtain rfl := Option.some.inj hd
              exact hv
            · cases hd
          · cases hd
        refine ⟨d, p + 1 + 1, Ev.step (fun k => by rw [spec_l1Draw.l0]) ?_, vdoc_of hv, by omega, by omega⟩
        simp only [if_pos c]
        refine Ev.bind g1 ?_
        simp only [if_pos c0]
        refine Ev.bind g2 ?_
        simp only [if_pos hj0, if_pos hj]
        refine Ev.bind hp ?_
        simp only [docR, if_true]
        exact Ev.now _
    · obtain ⟨d, q, h1, h2, h3, h4⟩ := J1 (p + 1) (by omega) (by omega)
      refine ⟨d, q, Ev.step (fun k => by rw [spec_l1Draw.l0]) ?_, h2, h3, h4⟩
      simp only [if_pos c]
      refine Ev.bind g1 ?_
      simp only [if_neg c0]
      exact h1
theorem draw_ev {b : List Int} (hb : Code b) (p : Int) (hp0 : 0 ≤ p) (hp : p ≤ 100000000) : ∃ (d : SDoc) (q : Int), Ev (fun k => spec_l1Draw.f k b p) (d.f0, d.f1, d.f2, d.f3, q) ∧ VDoc d ∧ p ≤ q ∧ q ≤ p + 20000 := by
  have key : ∀ L : List ByteArray, 0 < L.length → (∀ s ∈ L, s.size ≤ 1000) → ∃ (d : SDoc) (q : Int), Ev (fun k => spec_l1Draw.l0 k L 0 b p) (d.f0, d.f1, d.f2, d.f3, q) ∧ VDoc d ∧ p ≤ q ∧ q ≤ p + 20000 := by
    intro L h1 h2
    obtain ⟨d, q, h, v, m1, m2⟩ := draw_loop hb L h1 h2 3 0 (by omega) p hp0 (by omega)
    exact ⟨d, q, h, v, m1, by omega⟩
  have : ∀ L : List ByteArray, (0 < L.length ∧ ∀ s ∈ L, s.size ≤ 1000) → (∀ k, spec_l1Draw.f k b p = spec_l1Draw.l0 k L 0 b p) → ∃ (d : SDoc) (q : Int), Ev (fun k => spec_l1Draw.f k b p) (d.f0, d.f1, d.f2, d.f3, q) ∧ VDoc d ∧ p ≤ q ∧ q ≤ p + 20000 := by
    intro L hL hf
    obtain ⟨d, q, h, v⟩ := key L hL.1 hL.2
    exact ⟨d, q, Ev.congr hf h, v⟩
  refine this _ ?_ (fun k => rfl)
  decide +kernel
end Go.Proofs.Ytdhdfmmefghijab.Pure
namespace Go.Proofs.Ytdhdfmmefghijab.Pure
open Go.RowKit Go.Proofs.Ytdhdfmmefghijab.P Go.Proofs.YtdhdfmmefghijabW.PrintWords Go.Proofs.YtdhdfmmefghijabW.PrintLast Go.Proofs.YtdhdfmmefghijabW.PrintMore
set_option linter.unusedVariables false
set_option linter.unusedSimpArgs false
structure LP (B I : Nat) (l : List SRow) : Prop where
  ne : 0 < l.length
  hd : ∀ r, l.head? = some r → r.f0 = 0
  rows : ∀ r ∈ l, 0 ≤ r.f0 ∧ r.f0 ≤ 9 * (I : Int) ∧ r.f1.data.toList.all rowB = true
  bz : bsz l ≤ B
theorem bsz_app : ∀ a b : List SRow, bsz (a ++ b) = bsz a + bsz b
  | [], b => by simp [bsz]
  | r :: a, b => by simp [bsz, bsz_app a b]; omega
theorem bsz_map {f : SRow → SRow} (hf : ∀ r, (f r).f1 = r.f1) : ∀ a : List SRow, bsz (a.map f) = bsz a
  | [] => rfl
  | r :: a => by simp [bsz, bsz_map hf a, hf]
theorem LP.mono {B B' I I' : Nat} {l : List SRow} (h : LP B I l) (hB : B ≤ B') (hI : I ≤ I') : LP B' I' l := ⟨h.ne, h.hd, fun r hr => by have := h.rows r hr; exact ⟨this.1, by omega, this.2.2⟩, Nat.le_trans h.bz hB⟩
theorem data_app (a b : ByteArray) : (a ++ b).data.toList = a.data.toList ++ b.data.toList := by simp
theorem LP.cat {B B' I : Nat} {a b : List SRow} (ha : LP B I a) (hb : LP B' I b) : LP (B + B') I (catO a b) ∧ (catO a b).length + 1 = a.length + b.length ∧ ∃ pre r s t, a = pre ++ [r] ∧ b = s :: t ∧ catO a b = pre ++ ⟨r.f0, r.f1 ++ s.f1⟩ :: t := by
  rcases List.eq_nil_or_concat a with rfl | ⟨pre, r, e⟩
  · have := ha.ne; simp at this
  · rw [List.concat_eq_append] at e
    cases b with
    | nil => have := hb.ne; simp at this
    | cons s t =>
      subst e
      have e := catO_eq r s t pre
      refine ⟨?_, by rw [e]; simp; omega, pre, r, s, t, rfl, rfl, e⟩
      rw [e]
      have hr := ha.rows r (by simp)
      have hs := hb.rows s (by simp)
      have z1 := ha.bz
      have z2 := hb.bz
      rw [bsz_app] at z1
      simp only [bsz] at z1 z2
      refine ⟨by simp; omega, ?_, ?_, ?_⟩
      · intro x hx
        cases pre with
        | nil =>
          simp only [List.nil_append, List.head?_cons, Option.some.injEq] at hx
          subst hx
          exact ha.hd r rfl
        | cons p pre =>
          simp only [List.cons_append, List.head?_cons, Option.some.injEq] at hx
          subst hx
          exact ha.hd p rfl
      · intro x hx
        rcases List.mem_append.1 hx with hx | hx
        · exact ha.rows x (by simp [hx])
        · rcases List.mem_cons.1 hx with rfl | hx
          · refine ⟨hr.1, hr.2.1, ?_⟩
            show ((r.f1 ++ s.f1).data.toList).all rowB = true
            rw [data_app, List.all_append, hr.2.2, hs.2.2]
            rfl
          · exact hb.rows x (by simp [hx])
      · rw [bsz_app]
        simp only [bsz]
        rw [ByteArray.size_append]
        omega
theorem LP.nest {B I : Nat} {l : List SRow} (h : LP B I l) (n : Int) (h0 : 0 ≤ n) (h9 : n ≤ 9) (hI : I ≤ 1000) : LP B (I + 1) (nestO n l) ∧ (nestO n l).length = l.length := by
  cases l with
  | nil => have := h.ne; simp at this
  | cons r t =>
    refine ⟨⟨by simp [nestO], ?_, ?_, ?_⟩, by simp [nestO]⟩
    · intro x hx
      simp only [nestO, List.head?_cons, Option.some.injEq] at hx
      subst hx
      exact h.hd r rfl
    · intro x hx
      rcases List.mem_cons.1 hx with rfl | hx
      · have := h.rows x (by simp); exact ⟨this.1, by omega, this.2.2⟩
      · obtain ⟨y, hy, rfl⟩ := List.mem_map.1 hx
        have := h.rows y (by simp [hy])
        simp only [inR]
        rw [w64 (by omega) (by omega)]
        exact ⟨by omega, by omega, this.2.2⟩
    · simp only [nestO, bsz]
      rw [bsz_map (f := inR n) (fun _ => rfl)]
      exact h.bz
theorem rowsOk_of {l : List SRow} (h : ∀ r ∈ l, rowOk r = true) : ∀ i, (i = 0 → ∀ r, l.head? = some r → r.f0 = 0) → rowsOk i l = true := by
  cases l with
  | nil => intro i _; rfl
  | cons r t =>
    intro i hi
    rw [rowsOk, rowsOk_all, h r (by simp), Bool.and_true, Bool.and_eq_true]
    refine ⟨?_, List.all_eq_true.2 fun x hx => h x (by simp [hx])⟩
    by_cases c : i = 0
    · have := hi c r rfl; simp [this]
    · simp [c]
theorem LP.lay {B I : Nat} {l : List SRow} (h : LP B I l) (hI : I ≤ 44) (hB : B < 2000) (hl : l.length ≤ 200) : layV l = true := by
  rw [layV, Bool.and_eq_true, Bool.and_eq_true]
  refine ⟨rowsOk_of (fun r hr => ?_) 0 (fun _ => h.hd), by simpa using h.ne, by simpa using hl⟩
  have := h.rows r hr
  have hz := bsz_mem hr
  have hz2 := h.bz
  rw [rowOk, Bool.and_eq_true, Bool.and_eq_true, rowT, Bool.and_eq_true]
  exact ⟨decide_eq_true this.1, decide_eq_true (by omega), this.2.2, decide_eq_true (by omega)⟩
theorem LP.sizes {B I : Nat} {l : List SRow} (h : LP B I l) : ∀ r ∈ l, r.f1.size ≤ B := fun r hr => Nat.le_trans (bsz_mem hr) h.bz
theorem LP.one {B I : Nat} {t : ByteArray} (ht : t.size ≤ B) (hb : t.data.toList.all rowB = true) : LP B I [⟨0, t⟩] :=
  ⟨by simp, fun r hr => by simp at hr; subst hr; rfl, fun r hr => by rw [List.mem_singleton.1 hr]; exact ⟨Int.le_refl _, by show (0 : Int) ≤ _; omega, hb⟩, by simpa [bsz] using ht⟩
theorem LP.two {B I : Nat} : LP B I [⟨0, ⟨#[]⟩⟩, ⟨0, ⟨#[]⟩⟩] :=
  ⟨by simp, fun r hr => by simp at hr; subst hr; rfl, fun r hr => by
    have : r = ⟨0, ⟨#[]⟩⟩ := by simpa using hr
    rw [this]
    exact ⟨Int.le_refl _, by show (0 : Int) ≤ _; omega, rfl⟩, by show 0 + (0 + 0) ≤ B; omega⟩
theorem specCat_of {B B' I : Nat} {a b : List SRow} (ha : LP B I a) (hb : LP B' I b) (hB : B + B' ≤ 1000000) (hl : a.length + b.length ≤ 1000000) : spec_l2Cat.f a b = some (catO a b) := by
  obtain ⟨_, _, pre, r, s, t, e1, e2, e3⟩ := ha.cat hb
  have h1 := ha.sizes r (by rw [e1]; simp)
  have h2 := hb.sizes s (by rw [e2]; simp)
  rw [e3]
  subst e1 e2
  simp at hl
  exact specCat_eq pre t r s (by omega) (by omega)
theorem rowB_good {b : UInt8} (h : goodB b = true) : rowB b = true := by simp [rowB, h]
theorem tv_rows {t : ByteArray} (h : tv t = true) : t.data.toList.all rowB = true ∧ t.size ≤ 12 := by
  simp only [tv, Bool.and_eq_true, decide_eq_true_eq] at h
  exact ⟨List.all_eq_true.2 fun b hb => rowB_good (List.all_eq_true.1 h.2.2 b hb), h.2.1⟩
end Go.Proofs.Ytdhdfmmefghijab.Pure
namespace Go.Proofs.Ytdhdfmmefghijab.P
open Go.RowKit Go.Proofs.YtdhdfmmefghijabW.PrintWords Go.Proofs.YtdhdfmmefghijabW.PrintLast Go.Proofs.YtdhdfmmefghijabW.PrintMore
attribute [local go_sem] max2_int min2_int max_two min_two max_three min_three max_four min_four
set_option linter.unusedVariables false
set_option linter.unusedSimpArgs false
mutual
def impl_openRows.j0 : Nat → Int → Bool → Int → Int → ByteArray → List (SDoc) → Option ((List (SRow)))
  | 0, _, _, _, _, _, _ => none
  | k + 1, x4, x11, x785000, x785001, x785002, x785003 => if x11 = true then (some (([(⟨0, (⟨#[]⟩ : ByteArray)⟩ : SRow), (⟨0, (⟨#[]⟩ : ByteArray)⟩ : SRow)] : List (SRow)))) else (if x4 = 6 then (if 0 < (x785003.length : Int) then ((impl_openRows.f k ((rd_TDoc x785003 0).f0) ((rd_TDoc x785003 0).f1) ((rd_TDoc x785003 0).f2) ((rd_TDoc x785003 0).f3)).bind fun t792 => ((impl_nestRows.f k x785001 t792).bind fun t795 => (some t795))) else (none)) else (if x4 = 7 then (if 0 < (x785003.length : Int) then ((impl_openRows.f k ((rd_TDoc x785003 0).f0) ((rd_TDoc x785003 0).f1) ((rd_TDoc x785003 0).f2) ((rd_TDoc x785003 0).f3)).bind fun t799 => (if 1 < (x785003.length : Int) then ((impl_openRows.f k ((rd_TDoc x785003 1).f0) ((rd_TDoc x785003 1).f1) ((rd_TDoc x785003 1).f2) ((rd_TDoc x785003 1).f3)).bind fun t803 => ((impl_catRows.f t799 t803).bind fun t806 => (some t806))) else (none))) else (none)) else (if x4 = 8 then (if 0 < (x785003.length : Int) then ((impl_openRows.f k ((rd_TDoc x785003 0).f0) ((rd_TDoc x785003 0).f1) ((rd_TDoc x785003 0).f2) ((rd_TDoc x785003 0).f3)).bind fun t810 => (some t810)) else (none)) else (some (([(⟨0, (⟨#[]⟩ : ByteArray)⟩ : SRow)] : List (SRow)))))))
def impl_openRows.f : Nat → Int → Int → ByteArray → List (SDoc) → Option ((List (SRow)))
  | 0, _, _, _, _ => none
  | k + 1, a0_0, a0_1, a0_2, l0_3 => if a0_0 = 2 then (some (([(⟨0, a0_2⟩ : SRow)] : List (SRow)))) else (if a0_0 = 3 then (impl_openRows.j0 k a0_0 (a0_0 == 3) a0_0 a0_1 a0_2 l0_3) else (if a0_0 = 4 then (impl_openRows.j0 k a0_0 (a0_0 == 4) a0_0 a0_1 a0_2 l0_3) else (impl_openRows.j0 k a0_0 (a0_0 == 5) a0_0 a0_1 a0_2 l0_3)))
end
def impl_openRows.T9 : Bool × List (List Nat × List Nat) := (true, [([], []), ([0], [0]), ([], []), ([2], [2]), ([3], [3]), ([4], [4]), ([5], [5]), ([1, 6, 6], [1, 6]), ([7, 7, 0, 1, 2, 3, 4, 5, 6, 7], [7])])
def impl_openRows.B9 : List Nat := [0, 1, 0, 4, 12, 28, 60, 127, 255]
theorem impl_openRows.tab9 : rtab .any (opsOf Try.f51 9) = impl_openRows.T9 := by kernel_rfl
theorem impl_openRows.bits9 : waitsOk impl_openRows.T9.2 impl_openRows.B9 = true := by kernel_rfl
def impl_openRows.T11 : Bool × List (List Nat × List Nat) := (true, [([], []), ([0], [0]), ([1], [1]), ([2], [2]), ([3], [3]), ([], []), ([5], [5]), ([6], [6]), ([7], [7]), ([8, 4], [8]), ([4, 9, 9], [4, 9]), ([10, 10, 0, 1, 2, 3, 4, 5, 6, 7, 8, 9, 10], [10])])
def impl_openRows.B11 : List Nat := [0, 1, 3, 7, 15, 0, 32, 96, 224, 511, 1023, 2047]
theorem impl_openRows.tab11 : rtab .any (opsOf Try.f51 11) = impl_openRows.T11 := by kernel_rfl
theorem impl_openRows.bits11 : waitsOk impl_openRows.T11.2 impl_openRows.B11 = true := by kernel_rfl
end Go.Proofs.Ytdhdfmmefghijab.P
namespace Go.Proofs.Ytdhdfmmefghijab.Pure
open Go.RowKit Go.Proofs.Ytdhdfmmefghijab.P Go.Proofs.YtdhdfmmefghijabW.PrintWords Go.Proofs.YtdhdfmmefghijabW.PrintLast Go.Proofs.YtdhdfmmefghijabW.PrintMore
set_option linter.unusedVariables false
set_option linter.unusedSimpArgs false
def eR : SRow := ⟨0, ⟨#[]⟩⟩
def openN (o n : Int) (t : ByteArray) (rs : List (List SRow)) : List SRow :=
  if o = 2 then [⟨0, t⟩] else if o = 3 ∨ o = 4 ∨ o = 5 then [eR, eR] else if o = 6 then nestO n (rs.getD 0 []) else if o = 7 then catO (rs.getD 0 []) (rs.getD 1 []) else if o = 8 then rs.getD 0 [] else [eR]
mutual
def openO : SDoc → List SRow
  | ⟨o, n, t, ks⟩ => openN o n t (openL ks)
def openL : List SDoc → List (List SRow)
  | [] => []
  | k :: ks => openO k :: openL ks
end
def nl (d : SDoc) : Nat := cnt 3 d + cnt 4 d + cnt 5 d
def nlL (l : List SDoc) : Nat := cntL 3 l + cntL 4 l + cntL 5 l
theorem op_kids1 {ks : List SDoc} (h : (ks.length : Int) = 1) : ∃ y, ks = [y] := by
  match ks, h with
  | [y], _ => exact ⟨y, rfl⟩
  | [], h => simp at h
  | _ :: _ :: _, h => simp only [List.length_cons] at h; omega
theorem op_kids2 {ks : List SDoc} (h : (ks.length : Int) = 2) : ∃ x y, ks = [x, y] := by
  match ks, h with
  | [x, y], _ => exact ⟨x, y, rfl⟩
  | [], h => simp at h
  | [_], h => simp at h
  | _ :: _ :: _ :: _, h => simp only [List.length_cons] at h; omega
theorem op_rd0 (y : SDoc) (l : List SDoc) : rd_TDoc (y :: l) 0 = y := by simp [rd_TDoc]
theorem op_rd1 (x y : SDoc) (l : List SDoc) : rd_TDoc (x :: y :: l) 1 = y := by simp [rd_TDoc]
theorem wf_cases {o n : Int} {t : ByteArray} {ks : List SDoc} {deep : Nat} (h : wf ⟨o, n, t, ks⟩ deep = true) :
    0 < deep ∧ 0 ≤ n ∧ n ≤ 9 ∧ (((o = 1 ∨ o = 3 ∨ o = 4 ∨ o = 5) ∧ ks = [] ∧ t = ⟨#[]⟩ ∧ n = 0) ∨ (o = 2 ∧ ks = [] ∧ tv t = true ∧ n = 0) ∨ ((o = 6 ∨ (o = 8 ∧ n = 0)) ∧ t = ⟨#[]⟩ ∧ ∃ y, ks = [y] ∧ wf y (deep - 1) = true) ∨ (o = 7 ∧ n = 0 ∧ t = ⟨#[]⟩ ∧ ∃ x y, ks = [x, y] ∧ wf x (deep - 1) = true ∧ wf y (deep - 1) = true)) := by
  obtain ⟨h1, h8, hk, hn0, hn9, hn, ht, ht'⟩ := wf_node h
  have hks := wf_kids h
  have hdp : 0 < deep := by rw [wf_mk] at h; omega
  refine ⟨hdp, hn0, hn9, ?_⟩
  have hcase : (o = 1 ∨ o = 3 ∨ o = 4 ∨ o = 5) ∨ o = 2 ∨ o = 6 ∨ o = 7 ∨ o = 8 := by omega
  rcases hcase with c | c | c | c | c
  · refine .inl ⟨c, List.length_eq_zero_iff.1 ?_, ht' (by omega), by omega⟩
    have : docKids o = 0 := by unfold docKids; (repeat' split) <;> omega
    omega
  · subst c
    exact .inr (.inl ⟨rfl, List.length_eq_zero_iff.1 (by have : docKids 2 = 0 := rfl; omega), ht rfl, by omega⟩)
  · subst c
    obtain ⟨y, rfl⟩ := op_kids1 (hk.trans rfl)
    exact .inr (.inr (.inl ⟨.inl rfl, ht' (by omega), y, rfl, hks y (by simp)⟩))
  · subst c
    obtain ⟨x, y, rfl⟩ := op_kids2 (hk.trans rfl)
    exact .inr (.inr (.inr ⟨rfl, by omega, ht' (by omega), x, y, rfl, hks x (by simp), hks y (by simp)⟩))
  · subst c
    obtain ⟨y, rfl⟩ := op_kids1 (hk.trans rfl)
    exact .inr (.inr (.inl ⟨.inr ⟨rfl, by omega⟩, ht' (by omega), y, rfl, hks y (by simp)⟩))
theorem open_keeps : ∀ (d : SDoc) (deep : Nat), deep ≤ 40 → wf d deep = true → LP (msz d) deep (openO d) ∧ (openO d).length = nl d + 1 := by
  intro d
  induction d using SDoc.ind with
  | h o n t ks ih =>
    intro deep hdp hw
    obtain ⟨hd0, hn0, hn9, hc⟩ := wf_cases hw
    rcases hc with ⟨ho, rfl, rfl, rfl⟩ | ⟨rfl, rfl, ht, rfl⟩ | ⟨ho, rfl, y, rfl, hy⟩ | ⟨rfl, rfl, rfl, x, y, rfl, hx, hy⟩
    · rcases ho with rfl | rfl | rfl | rfl
      · exact ⟨LP.one (Nat.zero_le _) rfl, rfl⟩
      · exact ⟨LP.two, rfl⟩
      · exact ⟨LP.two, rfl⟩
      · exact ⟨LP.two, rfl⟩
    · have := tv_rows ht
      exact ⟨LP.one (by simp only [msz]; omega) this.1, rfl⟩
    · obtain ⟨k1, k2⟩ := ih y (by simp) (deep - 1) (by omega) hy
      rcases ho with rfl | ⟨rfl, rfl⟩
      · have hn := k1.nest n hn0 hn9 (by omega)
        have e : openO ⟨6, n, ⟨#[]⟩, [y]⟩ = nestO n (openO y) := by simp [openO, openN, openL]
        rw [e]
        refine ⟨hn.1.mono (by simp only [msz, mszL]; omega) (by omega), ?_⟩
        rw [hn.2, k2]
        simp [nl, cnt, cntL]
      · have e : openO ⟨8, 0, ⟨#[]⟩, [y]⟩ = openO y := by simp [openO, openN, openL]
        rw [e]
        refine ⟨k1.mono (by simp only [msz, mszL]; omega) (by omega), ?_⟩
        rw [k2]
        simp [nl, cnt, cntL]
    · obtain ⟨k1, k2⟩ := ih x (by simp) (deep - 1) (by omega) hx
      obtain ⟨j1, j2⟩ := ih y (by simp) (deep - 1) (by omega) hy
      have hc := k1.cat j1
      have e : openO ⟨7, 0, ⟨#[]⟩, [x, y]⟩ = catO (openO x) (openO y) := by simp [openO, openN, openL]
      rw [e]
      refine ⟨hc.1.mono (by simp only [msz, mszL]; omega) (by omega), ?_⟩
      have := hc.2.1
      have e2 : nl ⟨7, 0, ⟨#[]⟩, [x, y]⟩ = nl x + nl y := by
        simp only [nl, cnt, cntL, if_neg (show ¬ (7 : Int) = 3 by omega), if_neg (show ¬ (7 : Int) = 4 by omega), if_neg (show ¬ (7 : Int) = 5 by omega)]
        omega
      omega
theorem nl_le (d : SDoc) : nl d ≤ dsz d := by
  have key : ∀ d : SDoc, nl d ≤ dsz d := by
    intro d
    induction d using SDoc.ind with
    | h o n t ks ih =>
      have : ∀ l : List SDoc, (∀ y, y ∈ l → nl y ≤ dsz y) → nlL l ≤ dszL l := by
        intro l
        induction l with
        | nil => intro _; simp [nlL, cntL, dszL]
        | cons y l ihl =>
          intro hl
          have h1 := hl y List.mem_cons_self
          have h2 := ihl (fun z hz => hl z (List.mem_cons_of_mem _ hz))
          simp only [nlL, nl, cntL, dszL] at *
          omega
      have := this ks ih
      simp only [nl, nlL, cnt, dsz] at *
      split <;> split <;> split <;> omega
  exact key d
theorem open_valid {d : SDoc} (h : docV d = true) : layV (openO d) = true ∧ LP (msz d) 40 (openO d) ∧ (openO d).length ≤ 81 := by
  obtain ⟨h1, h2⟩ := (docV_iff d).1 h
  obtain ⟨k1, k2⟩ := open_keeps d 40 (Nat.le_refl _) h1
  have hn := nl_le d
  have hm : msz d ≤ 13 * dsz d := by
    have key : ∀ (d : SDoc) (m : Nat), wf d m = true → msz d ≤ 13 * dsz d := by
      intro d
      induction d using SDoc.ind with
      | h o n t ks ih =>
        intro m h
        obtain ⟨_, _, _, _, _, _, h2, h3⟩ := wf_node h
        have hk := wf_kids h
        have key : ∀ l : List SDoc, (∀ y, y ∈ l → msz y ≤ 13 * dsz y) → mszL l ≤ 13 * dszL l := by
          intro l
          induction l with
          | nil => intro _; simp [mszL, dszL]
          | cons y l ihl =>
            intro hl
            have h1 := hl y List.mem_cons_self
            have h2 := ihl (fun z hz => hl z (List.mem_cons_of_mem _ hz))
            simp only [mszL, dszL]
            omega
        have := key ks (fun y hy => ih y hy (m - 1) (hk y hy))
        have ht : t.size ≤ 12 := by
          by_cases c : o = 2
          · exact (tv_rows (h2 c)).2
          · rw [h3 c]; show 0 ≤ 12; omega
        simp only [msz, dsz]
        omega
    exact key d 40 h1
  exact ⟨k1.lay (by omega) (by omega) (by omega), k1, by omega⟩
theorem specOpen_ev : ∀ (d : SDoc) (deep : Nat), deep ≤ 40 → wf d deep = true → msz d ≤ 100000 → dsz d ≤ 100000 → Ev (fun k => spec_l2Open.f k d.f0 d.f1 d.f2 d.f3) (openO d) := by
  intro d
  induction d using SDoc.ind with
  | h o n t ks ih =>
    intro deep hdp hw hm hs
    obtain ⟨hd0, hn0, hn9, hc⟩ := wf_cases hw
    have keeps := fun (y : SDoc) (hy : wf y (deep - 1) = true) => open_keeps y (deep - 1) (by omega) hy
    have J : ∀ (w : Bool) (R : List SRow), o ≠ 2 → w = (decide (o = 3) || (decide (o = 4) || decide (o = 5))) → Ev (fun k => spec_l2Open.j0 k o w o n t ks) R → Ev (fun k => spec_l2Open.f k o n t ks) R := by
      intro w R h2 hw h
      refine Ev.step (fun k => by rw [spec_l2Open.f]) ?_
      simp only [if_neg h2]
      refine Ev.iff (fun c => ?_) (fun c => Ev.iff (fun c' => ?_) (fun c' => ?_))
      · rw [show (o == 3) = w by rw [hw, decide_eq_true (show o = 3 from c), show o = 3 from c]; rfl]
        exact h
      · rw [show (o == 4) = w by rw [hw, decide_eq_false (show ¬ o = 3 from c), decide_eq_true (show o = 4 from c'), show o = 4 from c']; rfl]
        exact h
      · rw [show (o == 5) = w by rw [hw, decide_eq_false (show ¬ o = 3 from c), decide_eq_false (show ¬ o = 4 from c')]; rfl]
        exact h
    rcases hc with ⟨ho, rfl, rfl, rfl⟩ | ⟨rfl, rfl, ht, rfl⟩ | ⟨ho, rfl, y, rfl, hy⟩ | ⟨rfl, rfl, rfl, x, y, rfl, hx, hy⟩
    · rcases ho with rfl | rfl | rfl | rfl
      · refine J false _ (by omega) rfl (Ev.step (fun k => by rw [spec_l2Open.j0]) ?_)
        simp only [Bool.false_eq_true, if_false, if_neg (show ¬ (1 : Int) = 6 by omega), if_neg (show ¬ (1 : Int) = 7 by omega), if_neg (show ¬ (1 : Int) = 8 by omega)]
        exact Ev.now _
      · refine J true _ (by omega) rfl (Ev.step (fun k => by rw [spec_l2Open.j0]) ?_)
        simp only [if_true]
        exact Ev.now _
      · refine J true _ (by omega) rfl (Ev.step (fun k => by rw [spec_l2Open.j0]) ?_)
        simp only [if_true]
        exact Ev.now _
      · refine J true _ (by omega) rfl (Ev.step (fun k => by rw [spec_l2Open.j0]) ?_)
        simp only [if_true]
        exact Ev.now _
    · refine Ev.step (fun k => by rw [spec_l2Open.f]) ?_
      simp only [if_true]
      exact Ev.now _
    · simp only [msz, mszL, dsz, dszL] at hm hs
      obtain ⟨k1, k2⟩ := keeps y hy
      have hnl := nl_le y
      have hev := ih y (by simp) (deep - 1) (by omega) hy (by omega) (by omega)
      rcases ho with rfl | ⟨rfl, rfl⟩
      · refine J false _ (by omega) rfl (Ev.step (fun k => by rw [spec_l2Open.j0]) ?_)
        have e : openO ⟨6, n, ⟨#[]⟩, [y]⟩ = nestO n (openO y) := by simp [openO, openN, openL]
        rw [e]
        simp only [Bool.false_eq_true, if_false, if_true, if_pos (show (0 : Int) < (([y] : List SDoc).length : Int) by simp), op_rd0]
        exact Ev.bind hev (Ev.bind (specNest_ev n _ k1.ne (by omega)) (Ev.now _))
      · refine J false _ (by omega) rfl (Ev.step (fun k => by rw [spec_l2Open.j0]) ?_)
        have e : openO ⟨8, 0, ⟨#[]⟩, [y]⟩ = openO y := by simp [openO, openN, openL]
        rw [e]
        simp only [Bool.false_eq_true, if_false, if_neg (show ¬ (8 : Int) = 6 by omega), if_neg (show ¬ (8 : Int) = 7 by omega), if_true, if_pos (show (0 : Int) < (([y] : List SDoc).length : Int) by simp), op_rd0]
        exact Ev.bind hev (Ev.now _)
    · simp only [msz, mszL, dsz, dszL] at hm hs
      obtain ⟨k1, k2⟩ := keeps x hx
      obtain ⟨j1, j2⟩ := keeps y hy
      have hnx := nl_le x
      have hny := nl_le y
      have hx' := ih x (by simp) (deep - 1) (by omega) hx (by omega) (by omega)
      have hy' := ih y (by simp) (deep - 1) (by omega) hy (by omega) (by omega)
      refine J false _ (by omega) rfl (Ev.step (fun k => by rw [spec_l2Open.j0]) ?_)
      have e : openO ⟨7, 0, ⟨#[]⟩, [x, y]⟩ = catO (openO x) (openO y) := by simp [openO, openN, openL]
      rw [e]
      simp only [Bool.false_eq_true, if_false, if_neg (show ¬ (7 : Int) = 6 by omega), if_true, if_pos (show (0 : Int) < (([x, y] : List SDoc).length : Int) by simp), if_pos (show (1 : Int) < (([x, y] : List SDoc).length : Int) by simp), op_rd0, op_rd1]
      refine Ev.bind hx' (Ev.bind hy' ?_)
      rw [specCat_of k1 j1 (by omega) (by omega)]
      exact Ev.now _
end Go.Proofs.Ytdhdfmmefghijab.Pure
namespace Go.Proofs.Ytdhdfmmefghijab.P
open Go.RowKit Go.Proofs.YtdhdfmmefghijabW.PrintWords Go.Proofs.YtdhdfmmefghijabW.PrintLast Go.Proofs.YtdhdfmmefghijabW.PrintMore
attribute [local go_sem] max2_int min2_int max_two min_two max_three min_three max_four min_four
set_option linter.unusedVariables false
set_option linter.unusedSimpArgs false
def spec_DrawNestLayout.f (k : Nat) (l0 : List Int) : Option (Int × (List (SRow))) := (spec_l15Open.f l0).bind fun bt581 => ((spec_l15Rd_num.f k bt581.1 bt581.2 (([2, 1, 4, 0, (-1), 200] : List Int))).bind fun bt587 => ((spec_l2Draw.f k bt581.1 bt587.2).bind fun bt589 => (some (bt587.1, bt589.1))))
set_option maxHeartbeats 8000000 in
set_option maxRecDepth 100000 in
theorem spec_DrawNestLayout.calls (k : Nat) (A0 : Option Addr) (c0 : Nat) (l0 : List Int) (r1 : Int) (r2 : List (SRow)) (w : World) (hr0 : Kd.C (Kd.int .u8) w A0 l0.length l0) (hc0 : l0.length ≤ c0) (h : spec_DrawNestLayout.f k l0 = some (r1, r2)) :
    Calls Try.prog 20 #[.slice A0 l0.length c0] w fun e w' => ∃ v1_ : Value, e = .returned (.tuple #[.int .i64 r1, v1_]) ∧ Kd.R k30 30 w' w.heap.size (fun _ => True) v1_ r2 ∧ Below w.heap.size w w' := by
  have HR0 := Aside0.mk hr0
  have HC0 := Aside0.mk hc0
  clear hr0 hc0
  have HB := Aside0.mk (Below.refl w.heap.size w)
  have H : ((spec_l15Open.f l0).bind fun bt581 => ((spec_l15Rd_num.f k bt581.1 bt581.2 (([2, 1, 4, 0, (-1), 200] : List Int))).bind fun bt587 => ((spec_l2Draw.f k bt581.1 bt587.2).bind fun bt589 => (some (bt587.1, bt589.1))))) = some (r1, r2) := h
  clear h
  replace H := Option.bind_eq_some_iff.mp H
  obtain ⟨⟨t581, t582⟩, A20, H⟩ := H
  replace H : ((spec_l15Rd_num.f k t581 t582 (([2, 1, 4, 0, (-1), 200] : List Int))).bind fun bt587 => ((spec_l2Draw.f k t581 bt587.2).bind fun bt589 => (some (bt587.1, bt589.1)))) = some (r1, r2) := H
  have A2 := Aside0.mk A20
  clear A20
  obtain ⟨y584, hy584⟩ : ∃ y_ : List Int, y_ = (([2, 1, 4, 0, (-1), 200] : List Int)) := ⟨_, rfl⟩
  replace H : ((spec_l15Rd_num.f k t581 t582 y584).bind fun bt587 => ((spec_l2Draw.f k t581 bt587.2).bind fun bt589 => (some (bt587.1, bt589.1)))) = some (r1, r2) := by first | (rw [hy584]; with_reducible exact H) | (have H2_ := (Option.bind_some _ _).symm.trans H; rw [hy584]; with_reducible exact H2_) | (have H2_ := (Option.bind_some _ _).symm.trans H; with_reducible exact H2_) | with_reducible exact H | (rw [hy584]; exact H) | exact H
  have Ny584 := Aside0.mk hy584
  clear hy584
  replace H := Option.bind_eq_some_iff.mp H
  obtain ⟨⟨t587, t588⟩, A30, H⟩ := H
  replace H : ((spec_l2Draw.f k t581 t588).bind fun bt589 => (some (t587, bt589.1))) = some (r1, r2) := H
  have A3 := Aside0.mk A30
  clear A30
  replace H := Option.bind_eq_some_iff.mp H
  obtain ⟨⟨t589, t592⟩, A40, H⟩ := H
  replace H : (some (t587, t589)) = some (r1, r2) := H
  have A4 := Aside0.mk A40
  clear A40
  simp only [Option.some.injEq, Prod.mk.injEq] at H
  obtain ⟨rfl, rfl⟩ := H
  go_enter Try.func20, Try.ntmps20
  go_wp2_with (first | ((with_reducible refine gate_callee (f := 40) rfl ?_); refine goesL_ (some 6) rfl rfl Try.func40 (by kernel_rfl) rfl #[.slice A0 l0.length c0] rfl (by (try simp only [List.map_toArray, List.map_cons, List.map_nil]); first | done | rfl | (simp only [List.length_drop, List.length_take]; rfl)) ?_; (with_reducible refine (spec_l15Open.calls _ _ l0 t581 t582 w _ ?side1 ?side2 ?side3 A2.out).mono ?_); (case side1 => exact gB HB); (case side2 => exact HR0.out); (case side3 => exact HC0.out); rintro e w5 ⟨g583, rfl, hi, hb, hb2⟩; refine ⟨_, rfl, ?_⟩; have n0_ := Aside0.mk (hb); have n1_ := Aside0.mk (hi); clear HB; have HB := n0_; have HI583 := n1_; clear n0_ n1_; (try clear hb); (try clear hb2); (try clear hk); (try clear hi)) | ((with_reducible refine gate_dst (N := 8) rfl ?_); refine Kd.R_lit (Kd.int .i64) _ 3 ?hg (N := 8) ?hd (xs := ([2, 1, 4, 0, (-1), 200] : List Int)) (inner := [.int .i64 2, .int .i64 1, .int .i64 4, .int .i64 0, .int .i64 (-1), .int .i64 200]) (ok := fun _ => True) (okp := fun _ => True) ?hr ?hp (fun _ hk => hk) trivial (Below.refl _ _) (Nat.le_refl _) (by simp) ?_; (case hd => rfl); (case hg => rfl); (case hr => first | (go_simp; done) | (go_simp; rfl)); (case hp => exact (Reps.one (show Kd.M (Kd.int .i64) _ _ _ 2 [.int .i64 2] from rfl) (Reps.one (show Kd.M (Kd.int .i64) _ _ _ 1 [.int .i64 1] from rfl) (Reps.one (show Kd.M (Kd.int .i64) _ _ _ 4 [.int .i64 4] from rfl) (Reps.one (show Kd.M (Kd.int .i64) _ _ _ 0 [.int .i64 0] from rfl) (Reps.one (show Kd.M (Kd.int .i64) _ _ _ (-1) [.int .i64 (-1)] from rfl) (Reps.one (show Kd.M (Kd.int .i64) _ _ _ 200 [.int .i64 200] from rfl) (Reps.none _ _)))))))); intro v585 w6 ho7 hb hg_ hnew_; clear hg_ hnew_; (first | rw [← Ny584.out] at ho7 | (simp only [Int.reduceToNat] at ho7; rw [← Ny584.out] at ho7)); have n0_ := Aside0.mk (Kd.R_lower ho7 (below_size (by repeat (first | exact gB HB | refine below_set ?_ (IsS67.ge HI583.out))))); have n1_ := Aside0.mk (IsS67.below (by repeat (first | (with_reducible first | exact HI583.out | apply IsS67.alloc | apply IsS67.drewN | apply IsS67.drew | apply IsS67.set_1) | exact HI583.out)) hb); have n2_ := Aside0.mk (below_step (by repeat (first | exact gB HB | refine below_set ?_ (IsS67.ge HI583.out))) hb); clear HI583; clear HB; have HO586 := n0_; have HI583 := n1_; have HB := n2_; clear n0_ n1_ n2_; clear hb ho7; obtain ⟨Ao8, co8, eo8⟩ := Kd.R_slice HO586.out; subst eo8) | ((with_reducible refine gate_callee (f := 46) rfl ?_); refine goesL_ (some 9) rfl rfl Try.func46 (by kernel_rfl) rfl #[.pointer (some ⟨g583, 0, none⟩), .slice Ao8 y584.length co8] rfl (by (try simp only [List.map_toArray, List.map_cons, List.map_nil]); first | done | rfl | (simp only [List.length_drop, List.length_take]; rfl)) ?_; (with_reducible refine (spec_l15Rd_num.calls k g583 t581 t582 _ _ y584 t587 t588 w _ ?side1 ?side2 ?side3 ?side4 ?side5 A3.out).mono ?_); (case side1 => repeat (first | (with_reducible first | exact HI583.out | apply IsS67.alloc | apply IsS67.drewN | apply IsS67.drew | apply IsS67.set_1) | exact HI583.out)); (case side2 => repeat (first | exact gB HB | refine below_set ?_ (IsS67.ge HI583.out))); (case side3 => exact gC ((Kd.R_reads' HO586.out).2.2)); (case side4 => exact (Kd.R_reads' HO586.out).2.1); (case side5 => exact far_slice (IsS67.own_ne HI583.out HO586.out (by decide))); rintro e w9 ⟨rfl, hi, hb, hk⟩; refine ⟨_, rfl, ?_⟩; have n0_ := Aside0.mk (Kd.R_mono (Kd.R_keep (IsS67.apart (show IsS67 w _ g583 t581 t582 from by repeat (first | (with_reducible first | exact HI583.out | apply IsS67.alloc | apply IsS67.drewN | apply IsS67.drew | apply IsS67.set_1) | exact HI583.out)) (gR HO586) (by decide)) hk (fun _ h => h.2)) (fun _ h => h.1)); have n1_ := Aside0.mk (hb); have n2_ := Aside0.mk (hi); clear HO586; clear HB; clear HI583; have HO586 := n0_; have HB := n1_; have HI583 := n2_; clear n0_ n1_ n2_; (try clear hb); (try clear hb2); (try clear hk); (try clear hi)) | ((with_reducible refine gate_callee (f := 41) rfl ?_); refine goesL_ (some 11) rfl rfl Try.func41 (by kernel_rfl) rfl #[.pointer (some ⟨g583, 0, none⟩)] rfl (by (try simp only [List.map_toArray, List.map_cons, List.map_nil]); first | done | rfl | (simp only [List.length_drop, List.length_take]; rfl)) ?_; (with_reducible refine (spec_l2Draw.calls k g583 t581 t588 t589 t592 w _ ?side1 ?side2 A4.out).mono ?_); (case side1 => repeat (first | (with_reducible first | exact HI583.out | apply IsS67.alloc | apply IsS67.drewN | apply IsS67.drew | apply IsS67.set_1) | exact HI583.out)); (case side2 => repeat (first | exact gB HB | refine below_set ?_ (IsS67.ge HI583.out))); rintro e w10 ⟨v590, rfl, ho0, hi, hb, hk⟩; refine ⟨_, rfl, ?_⟩; have n0_ := Aside0.mk (Kd.R_mono (Kd.R_keep (IsS67.apart (show IsS67 w _ g583 t581 t588 from by repeat (first | (with_reducible first | exact HI583.out | apply IsS67.alloc | apply IsS67.drewN | apply IsS67.drew | apply IsS67.set_1) | exact HI583.out)) (gR HO586) (by decide)) hk (fun _ h => h.2)) (fun _ h => h.1)); have n1_ := Aside0.mk (Kd.R_lower ho0 (below_size (by repeat (first | exact gB HB | refine below_set ?_ (IsS67.ge HI583.out))))); have n2_ := Aside0.mk (hb); have n3_ := Aside0.mk (hi); clear HO586; clear HB; clear HI583; have HO586 := n0_; have HO591 := n1_; have HB := n2_; have HI583 := n3_; clear n0_ n1_ n2_ n3_; (try clear hb); (try clear hb2); (try clear hk); (try clear hi); (try clear ho0)))
  go_ret2
  exact ⟨_, by first | rfl | (simp [errW_none, errW_some] <;> rfl) | (simp [*, errW_none, errW_some] <;> rfl), gR HO591, by repeat (first | exact gB HB | refine below_set ?_ (IsS67.ge HI583.out))⟩
end Go.Proofs.Ytdhdfmmefghijab.P
namespace Go.Proofs.Ytdhdfmmefghijab.Pure
open Go.RowKit Go.Proofs.Ytdhdfmmefghijab.P Go.Proofs.YtdhdfmmefghijabW.PrintWords Go.Proofs.YtdhdfmmefghijabW.PrintLast Go.Proofs.YtdhdfmmefghijabW.PrintMore
set_option linter.unusedVariables false
set_option linter.unusedSimpArgs false
def Rows (l : List SRow) : Prop := l.length ≤ 1048576 ∧ ∀ y ∈ l, y.f1.size ≤ 1048576
theorem rows_set {l : List SRow} {i : Nat} {r : SRow} (h : ∀ y ∈ l, y.f1.size ≤ 1048576) (hr : r.f1.size ≤ 1048576) : ∀ y ∈ l.set i r, y.f1.size ≤ 1048576 := by
  intro y hy
  rcases List.mem_or_eq_of_mem_set hy with h' | rfl
  · exact h y h'
  · exact hr
theorem l2Draw_ev {b : List Int} (hb : Code b) (p : Int) (hp0 : 0 ≤ p) (hp : p ≤ 90000000) : ∃ (l : List SRow) (q : Int), Ev (fun k => spec_l2Draw.f k b p) (l, q) ∧ Rows l ∧ p ≤ q ∧ q ≤ p + 30000 := by
  obtain ⟨d, q, g0, hv, hq0, hq1⟩ := draw_ev hb p hp0 (by omega)
  obtain ⟨o1, o2, o3⟩ := open_valid hv.1
  have hm := hv.2
  obtain ⟨hw, hdz⟩ := (docV_iff d).1 hv.1
  have hsz := o2.sizes
  have hR : ∀ y ∈ openO d, y.f1.size ≤ 1048576 := fun y hy => by have := hsz y hy; omega
  have hne := o2.ne
  obtain ⟨i, g1, hi0, hi⟩ := pick_ev hb q ((openO d).length : Int) (by omega) (by omega)
  have hi := hi (by omega)
  have hil : i.toNat < (openO d).length := by omega
  obtain ⟨r, g2, _, _⟩ := pick_ev hb (q + 1) 16 (by omega) (by omega)
  have hrd : rd_TRow (openO d) i = (openO d)[i.toNat] := by
    unfold rd_TRow
    rw [List.getD_eq_getElem?_getD, List.getElem?_eq_getElem hil]
    rfl
  have hri := hR _ (List.getElem_mem hil)
  have S : ∀ R, Ev (fun k => if r = 0 then ((spec_l15Rd_num.f k b (q + 1 + 1) (([(-1), 401, 3] : List Int))).bind fun bt405 => (if 0 ≤ i then (if i < ((openO d).length : Int) then (some (((openO d).set (i : Int).toNat (⟨bt405.1, (rd_TRow (openO d) i).f1⟩ : SRow)), bt405.2)) else (none)) else (none))) else (if r = 1 then ((spec_l15Rd_of.f k b (q + 1 + 1) (([(⟨#[65]⟩ : ByteArray), (⟨#[97, 32, 98]⟩ : ByteArray), (⟨#[120, 10]⟩ : ByteArray), (⟨#[]⟩ : ByteArray)] : List ByteArray))).bind fun bt411 => (if 0 ≤ i then (if i < ((openO d).length : Int) then (some (((openO d).set (i : Int).toNat (⟨(rd_TRow (openO d) i).f0, bt411.1⟩ : SRow)), bt411.2)) else (none)) else (none))) else (if r = 2 then (if 0 ≤ ((openO d).length : Int) then (some (((openO d).take (0 : Int).toNat), (q + 1 + 1))) else (none)) else (some (openO d, (q + 1 + 1)))))) R → Ev (fun k => spec_l2Draw.f k b p) R := by
    intro R h
    exact Ev.congr (fun k => by rw [spec_l2Draw.f]) (Ev.bind g0 (Ev.bind (specOpen_ev d 40 (Nat.le_refl _) hw (by omega) (by omega)) (Ev.bind g1 (Ev.bind g2 h))))
  by_cases c0 : r = 0
  · obtain ⟨s, _, g3⟩ := num_ev hb (q + 1 + 1) [(-1), 401, 3] (by simp) (by omega) (by omega)
    refine ⟨(openO d).set i.toNat ⟨s, (openO d)[i.toNat].f1⟩, q + 1 + 1 + 1, S _ ?_, ⟨by rw [List.length_set]; omega, rows_set hR hri⟩, by omega, by omega⟩
    simp only [if_pos c0]
    refine Ev.bind g3 ?_
    simp only [if_pos hi0, if_pos hi, hrd]
    exact Ev.now _
  by_cases c1 : r = 1
  · obtain ⟨s, hs, g3⟩ := of_ev hb (q + 1 + 1) [(⟨#[65]⟩ : ByteArray), (⟨#[97, 32, 98]⟩ : ByteArray), (⟨#[120, 10]⟩ : ByteArray), (⟨#[]⟩ : ByteArray)] (by simp) (by omega) (by omega)
    have hz : s.size ≤ 1048576 := by
      have : ∀ s ∈ [(⟨#[65]⟩ : ByteArray), (⟨#[97, 32, 98]⟩ : ByteArray), (⟨#[120, 10]⟩ : ByteArray), (⟨#[]⟩ : ByteArray)], s.size ≤ 1048576 := by decide +kernel
      exact this s hs
    refine ⟨(openO d).set i.toNat ⟨(openO d)[i.toNat].f0, s⟩, q + 1 + 1 + 1, S _ ?_, ⟨by rw [List.length_set]; omega, rows_set hR hz⟩, by omega, by omega⟩
    simp only [if_neg c0, if_pos c1]
    refine Ev.bind g3 ?_
    simp only [if_pos hi0, if_pos hi, hrd]
    exact Ev.now _
  by_cases c2 : r = 2
  · refine ⟨[], q + 1 + 1, S _ ?_, ⟨by simp, fun y hy => by cases hy⟩, by omega, by omega⟩
    simp only [if_neg c0, if_neg c1, if_pos c2, if_pos (show (0 : Int) ≤ ((openO d).length : Int) by omega)]
    exact Ev.now _
  · refine ⟨openO d, q + 1 + 1, S _ ?_, ⟨by omega, hR⟩, by omega, by omega⟩
    simp only [if_neg c0, if_neg c1, if_neg c2]
    exact Ev.now _
theorem drawCat_ev (l : List Int) (hl : l.length ≤ maxLen) (h : ∀ x ∈ l, (Lit.int .u8 x).wf = true) : ∃ a c : List SRow, Ev (fun k => spec_DrawCatLayouts.f k l) (a, c) ∧ Rows a ∧ Rows c := by
  obtain ⟨b, hb, e⟩ := open_ev l hl h
  obtain ⟨a, q, h1, h2, h3, h4⟩ := l2Draw_ev hb 0 (by omega) (by omega)
  obtain ⟨c, q', i1, i2, i3, i4⟩ := l2Draw_ev hb q (by omega) (by omega)
  refine ⟨a, c, Ev.congr (fun k => by rw [spec_DrawCatLayouts.f, e]) ?_, h2, i2⟩
  simp only [Option.bind_some]
  exact Ev.bind h1 (Ev.bind i1 (Ev.now _))
theorem drawNest_ev (l : List Int) (hl : l.length ≤ maxLen) (h : ∀ x ∈ l, (Lit.int .u8 x).wf = true) : ∃ (n : Int) (a : List SRow), Ev (fun k => spec_DrawNestLayout.f k l) (n, a) ∧ Rows a ∧ -1 ≤ n ∧ n ≤ 200 := by
  obtain ⟨b, hb, e⟩ := open_ev l hl h
  obtain ⟨n, hn, g⟩ := num_ev hb 0 [2, 1, 4, 0, (-1), 200] (by simp) (by omega) (by omega)
  obtain ⟨a, q, h1, h2, h3, h4⟩ := l2Draw_ev hb (0 + 1) (by omega) (by omega)
  refine ⟨n, a, Ev.congr (fun k => by rw [spec_DrawNestLayout.f, e]) ?_, h2, ?_⟩
  · simp only [Option.bind_some]
    exact Ev.bind g (Ev.bind h1 (Ev.now _))
  · simp only [List.mem_cons, List.not_mem_nil, or_false] at hn
    omega
end Go.Proofs.Ytdhdfmmefghijab.Pure
namespace Go.Proofs.Ytdhdfmmefghijab.Pure
open Go.RowKit Go.Proofs.Ytdhdfmmefghijab.P Go.Proofs.YtdhdfmmefghijabW.PrintWords Go.Proofs.YtdhdfmmefghijabW.PrintLast Go.Proofs.YtdhdfmmefghijabW.PrintMore
set_option linter.unusedVariables false
set_option linter.unusedSimpArgs false
theorem rsame_eq : ∀ {a b : List SRow}, a.length = b.length → (rsame a b = true ↔ a = b)
  | [], [], _ => by simp [rsame]
  | [], _ :: _, h => by simp at h
  | _ :: _, [], h => by simp at h
  | r :: a, s :: b, h => by
    have ih := rsame_eq (a := a) (b := b) (by simpa using h)
    rw [rsame, Bool.and_eq_true, ih, rowEq, Bool.and_eq_true]
    constructor
    · rintro ⟨⟨h1, h2⟩, rfl⟩
      have e1 : r.f0 = s.f0 := by simpa using h1
      have e2 : r.f1 = s.f1 := toList_inj.1 (by simpa using h2)
      cases r; cases s
      simp only at e1 e2
      subst e1 e2
      rfl
    · intro h
      injection h with h1 h2
      subst h1 h2
      exact ⟨⟨by simp, by simp⟩, rfl⟩
theorem laySame_iff {a b : List SRow} : laySame a b = true ↔ a = b := by
  rw [laySame, Bool.and_eq_true, decide_eq_true_eq]
  constructor
  · rintro ⟨h1, h2⟩; exact (rsame_eq h1).1 h2
  · rintro rfl; exact ⟨rfl, (rsame_eq rfl).2 rfl⟩
theorem laySame_refl (a : List SRow) : laySame a a = true := laySame_iff.2 rfl
theorem same_ev {a : List SRow} (h : Rows a) : Ev (fun k => impl_LayoutSame.f k a a) true := by
  have := implLay_ev a a (by have := h.1; omega)
  rwa [laySame_refl] at this
theorem same_ev' {a b : List SRow} (h : Rows a) (e : a = b) : Ev (fun k => impl_LayoutSame.f k a b) true := by subst e; exact same_ev h
theorem rows_nil : Rows [] := ⟨by simp, fun y hy => by cases hy⟩
theorem layV_rows {l : List SRow} (h : layV l = true) : Rows l := by
  obtain ⟨h1, h2, h3⟩ := layV_ok h
  refine ⟨by omega, fun y hy => ?_⟩
  have h4 := h3 y hy
  simp only [rowOk, rowT, Bool.and_eq_true, decide_eq_true_eq] at h4
  omega
theorem layV_row {l : List SRow} (h : layV l = true) : ∀ y ∈ l, 0 ≤ y.f0 ∧ y.f0 ≤ 400 := by
  intro y hy
  have h4 := (layV_ok h).2.2 y hy
  simp only [rowOk, Bool.and_eq_true, decide_eq_true_eq] at h4
  exact ⟨h4.1, h4.2.1⟩
theorem layV_head {r : SRow} {t : List SRow} (h : layV (r :: t) = true) : r.f0 = 0 := by
  rw [layV, Bool.and_eq_true, rowsOk, Bool.and_eq_true, Bool.and_eq_true] at h
  have := h.1.1.1
  simpa using this
theorem catL_rows (a b : List SRow) : Rows (catL a b).1 := by
  unfold catL
  split
  · split
    · rename_i h; exact layV_rows h
    · exact rows_nil
  · exact rows_nil
theorem catL_true {a b : List SRow} (h : (catL a b).2 = true) : layV a = true ∧ layV b = true ∧ layV (catO a b) = true ∧ catL a b = (catO a b, true) := by
  unfold catL at h ⊢
  split at h
  · rename_i h1
    rw [Bool.and_eq_true] at h1
    split at h
    · rename_i h2
      exact ⟨h1.1, h1.2, h2, by rw [if_pos (by rw [h1.1, h1.2]; rfl), if_pos h2]⟩
    · cases h
  · cases h
theorem catL_of {a b : List SRow} (ha : layV a = true) (hb : layV b = true) (hc : layV (catO a b) = true) : catL a b = (catO a b, true) := by
  unfold catL
  rw [if_pos (by rw [ha, hb]; rfl), if_pos hc]
theorem catI_ev {a b : List SRow} (ha : Rows a) (hb : Rows b) : Ev (fun k => impl_CatLayouts.f k a b) (catL a b) := implCatL_ev a b ha.1 hb.1 ha.2 hb.2
theorem catS_ev {a b : List SRow} (ha : Rows a) (hb : Rows b) : Ev (fun k => spec_CatLayouts.f k a b) (catL a b) := specCatL_ev a b ha.1 hb.1 ha.2 hb.2
theorem catO_assoc {a b c : List SRow} (ha : 0 < a.length) (hb : 0 < b.length) (hc : 0 < c.length) : catO (catO a b) c = catO a (catO b c) := by
  rcases List.eq_nil_or_concat a with rfl | ⟨pre, r, e⟩
  · simp at ha
  rw [List.concat_eq_append] at e
  subst e
  cases b with
  | nil => simp at hb
  | cons s t =>
    cases c with
    | nil => simp at hc
    | cons u v =>
      rw [catO_eq]
      rcases List.eq_nil_or_concat t with rfl | ⟨t', z, e⟩
      · rw [catO_eq]
        have e1 : catO [s] (u :: v) = ⟨s.f0, s.f1 ++ u.f1⟩ :: v := rfl
        rw [e1, catO_eq]
        simp only [ByteArray.append_assoc]
      · rw [List.concat_eq_append] at e
        subst e
        have e1 : catO (s :: (t' ++ [z])) (u :: v) = (s :: t') ++ ⟨z.f0, z.f1 ++ u.f1⟩ :: v := by
          have := catO_eq z u v (s :: t')
          simpa using this
        have e2 := catO_eq z u v (pre ++ ⟨r.f0, r.f1 ++ s.f1⟩ :: t')
        rw [e1]
        simp only [List.cons_append]
        rw [catO_eq]
        rw [show pre ++ (⟨r.f0, r.f1 ++ s.f1⟩ : SRow) :: (t' ++ [z]) = (pre ++ ⟨r.f0, r.f1 ++ s.f1⟩ :: t') ++ [z] by simp, e2]
        simp
theorem catO_empty_left {s : SRow} {t : List SRow} (h : s.f0 = 0) : catO [⟨0, ⟨#[]⟩⟩] (s :: t) = s :: t := by
  have e : (⟨#[]⟩ : ByteArray) ++ s.f1 = s.f1 := by apply ByteArray.ext; apply Array.ext'; simp
  show (⟨0, (⟨#[]⟩ : ByteArray) ++ s.f1⟩ : SRow) :: t = _
  rw [e]
  cases s
  simp only at h
  subst h
  rfl
theorem catO_empty_right {a : List SRow} (h : 0 < a.length) : catO a [⟨0, ⟨#[]⟩⟩] = a := by
  rcases List.eq_nil_or_concat a with rfl | ⟨pre, r, e⟩
  · simp at h
  rw [List.concat_eq_append] at e
  subst e
  rw [catO_eq]
  have e : r.f1 ++ (⟨#[]⟩ : ByteArray) = r.f1 := by apply ByteArray.ext; apply Array.ext'; simp
  rw [e]
theorem nestL_rows (n : Int) (l : List SRow) : Rows (nestL n l).1 := by
  unfold nestL
  split
  · split
    · rename_i h; exact layV_rows h
    · exact rows_nil
  · exact rows_nil
theorem nestL_true {n : Int} {l : List SRow} (h : (nestL n l).2 = true) : layV l = true ∧ 0 ≤ n ∧ n ≤ 200 ∧ layV (nestO n l) = true ∧ nestL n l = (nestO n l, true) := by
  unfold nestL at h ⊢
  split at h
  · rename_i h1
    split at h
    · rename_i h2
      exact ⟨h1.1, h1.2.1, h1.2.2, h2, by rw [if_pos h1, if_pos h2]⟩
    · cases h
  · cases h
theorem nestL_of {n : Int} {l : List SRow} (h : layV l = true) (h0 : 0 ≤ n) (h1 : n ≤ 200) (h2 : layV (nestO n l) = true) : nestL n l = (nestO n l, true) := by
  unfold nestL
  rw [if_pos ⟨h, h0, h1⟩, if_pos h2]
theorem nestI_ev {n : Int} {l : List SRow} (h : Rows l) : Ev (fun k => impl_NestLayout.f k n l) (nestL n l) := implNestL_ev n l h.1 h.2
theorem nestS_ev {n : Int} {l : List SRow} (h : Rows l) : Ev (fun k => spec_NestLayout.f k n l) (nestL n l) := specNestL_ev n l h.1 h.2
theorem nestO_zero {l : List SRow} (h : layV l = true) : nestO 0 l = l := by
  have hr := layV_row h
  cases l with
  | nil => rfl
  | cons r t =>
    simp only [nestO]
    congr 1
    have : ∀ t : List SRow, (∀ y ∈ t, 0 ≤ y.f0 ∧ y.f0 ≤ 400) → t.map (inR 0) = t := by
      intro t
      induction t with
      | nil => intro _; rfl
      | cons y t ih =>
        intro hy
        have := hy y (by simp)
        rw [List.map_cons, ih (fun z hz => hy z (by simp [hz])), inR, Int.add_zero, w64 (by omega) (by omega)]
    exact this t (fun y hy => hr y (by simp [hy]))
theorem nestO_add {n m : Int} {l : List SRow} (h : layV l = true) (hn0 : 0 ≤ n) (hn : n ≤ 1000) (hm0 : 0 ≤ m) (hm : m ≤ 1000) : nestO m (nestO n l) = nestO (n + m) l := by
  have hr := layV_row h
  cases l with
  | nil => rfl
  | cons r t =>
    simp only [nestO, List.map_map]
    congr 1
    apply List.map_congr_left
    intro y hy
    have := hr y (by simp [hy])
    simp only [Function.comp, inR]
    rw [w64 (i := y.f0 + n) (by omega) (by omega), Int.add_assoc]
theorem nestO_cat {n : Int} {a b : List SRow} (ha : 0 < a.length) (hb : 0 < b.length) : catO (nestO n a) (nestO n b) = nestO n (catO a b) := by
  cases b with
  | nil => simp at hb
  | cons s t =>
    rcases List.eq_nil_or_concat a with rfl | ⟨pre, r, e⟩
    · simp at ha
    rw [List.concat_eq_append] at e
    subst e
    rw [catO_eq]
    cases pre with
    | nil => rfl
    | cons p pre =>
      have e1 : nestO n ((p :: pre) ++ [r]) = (p :: pre.map (inR n)) ++ [inR n r] := by simp [nestO]
      have e2 : nestO n (s :: t) = s :: t.map (inR n) := rfl
      rw [e1, e2, catO_eq]
      simp [nestO, inR]
theorem big_or {l : List Int} {f : Nat → Option Bool} (h : Ev f true) : Ev (fun k => if (l.length : Int) > 1048576 then (some true) else f k) true := Ev.iff (fun _ => Ev.now _) (fun _ => h)
end Go.Proofs.Ytdhdfmmefghijab.Pure
namespace Go.Proofs.Ytdhdfmmefghijab
theorem closed3 : laidOutB Try.prog = true ∧ mapsRowed Try.prog = true ∧ Try.prog.plainKeys = true := Go.ClosedOfChecked.closed_of_checked Try.checked (by kernel_rfl) (by kernel_rfl) (by kernel_rfl)
def edgesL : List (List Nat) := [[], [], [1], [15, 16, 17, 18, 16, 16, 19, 18, 18], [15, 15, 16, 17, 18, 18, 16, 16, 16, 18], [15, 16, 17, 18, 18, 19, 18, 18], [20, 21, 22, 18, 18, 21, 21, 18], [20, 21, 22, 18, 18, 21, 18, 18], [15, 16, 17, 18, 18, 21, 21, 21, 16, 18], [23, 24, 25, 24, 18, 18, 21, 18], [23, 24, 25, 18, 18, 26, 26, 26, 19, 24, 24, 16, 18], [27, 18, 28, 18, 18, 19, 29, 30, 30, 19, 19], [31, 32, 33, 19, 33, 30, 32], [31, 32, 34, 30, 33, 35, 36, 19, 33, 35, 36], [37, 38, 39, 26], [40, 41, 41], [19, 19, 42, 19], [29, 29, 43, 29], [44], [45], [40, 46, 41], [19, 47, 19], [29, 48, 29], [49], [50, 51], [52, 53], [26], [40, 41, 54, 54, 41], [], [55], [19, 56, 57], [40, 41, 46], [19, 58], [29, 59], [19, 58], [29, 60, 60], [29, 61], [62], [50, 63], [52, 64], [], [65, 53, 54, 54, 46, 66], [67], [], [], [68], [54], [67], [], [40, 65, 54, 69, 69], [70], [51, 47, 51, 51, 42, 51], [71, 72], [53, 48, 53, 53, 43, 53], [], [73], [74], [75, 76, 76, 76, 77], [], [60], [78], [60], [40, 54, 65, 69, 69, 65, 79], [63, 26], [64, 64, 64, 64, 80], [54, 54, 81, 46, 82, 52, 72, 82], [54], [], [83], [84, 54, 54, 69, 54, 46, 46, 66], [68, 70], [85, 73, 71], [72], [], [86, 87, 87, 87, 87, 87, 75, 76, 88, 88, 88, 77, 76, 77], [89, 90], [89], [], [], [65, 64, 81], [80], [91, 52], [54, 92, 54, 82, 46, 82, 82, 54, 82, 82, 93, 93, 82, 82, 93, 93, 82, 82, 93], [94], [84], [], [95, 96], [97], [], [98], [99], [100, 101, 101, 101], [66], [], [102], [], [], [], [], [], [], [91], [], [], [], [], [], [], [], [], [], [], [], [], [], [], [], [], [], [], []]
theorem edges : Try.prog.funcs.toList.map Try.prog.leadsTo = edgesL := by kernel_rfl
def clo (E : List (List Nat)) : Nat → List Nat → List Nat → List Nat
  | 0, _, seen => seen.reverse
  | _, [], seen => seen.reverse
  | n + 1, f :: todo, seen => if seen.contains f then clo E n todo seen else clo E n ((E[f]?).getD [] ++ todo) (f :: seen)
set_option maxRecDepth 100000 in
theorem elim_edges (f : Nat) : (Try.prog.funcs[f]?).elim [] Try.prog.leadsTo = (edgesL[f]?).getD [] := by
  rw [← edges, List.getElem?_map, Array.getElem?_toList]
  cases Try.prog.funcs[f]? <;> rfl
theorem closureVia_clo : ∀ (n : Nat) (todo seen : List Nat), Try.prog.closureVia n todo seen = clo edgesL n todo seen
  | 0, _, _ => by simp [Program.closureVia, clo]
  | n + 1, [], _ => by simp [Program.closureVia, clo]
  | n + 1, f :: todo, seen => by
    rw [Program.closureVia, clo, elim_edges, closureVia_clo n, closureVia_clo n]
def fuelE : Nat := 1 + (edgesL.map fun l => l.length + 1).sum
set_option maxRecDepth 100000 in
theorem fuel_eq : 1 + (Try.prog.funcs.toList.map fun g => (Try.prog.leadsTo g).length + 1).sum = fuelE := by
  rw [fuelE, ← edges, List.map_map]
  rfl
theorem closure_clo (f : Nat) : Try.prog.closure f = clo edgesL fuelE [f] [] := by
  rw [Program.closure, fuel_eq, closureVia_clo]
noncomputable def unfB (fn : Func) : Bool := match fn.body with | some c => c.unfollowed | none => entryCalls fn
noncomputable def unfL : List Bool := Try.prog.funcs.toList.map unfB
set_option maxRecDepth 100000 in
theorem any_unf (f : Nat) : ((Try.prog.funcs[f]?).any fun fn => match fn.body with | some c => c.unfollowed | none => entryCalls fn) = (unfL[f]?).getD false := by
  rw [unfL, List.getElem?_map, Array.getElem?_toList]
  cases Try.prog.funcs[f]? <;> rfl
set_option maxRecDepth 100000 in
theorem unfollowed_of {f : Nat} {L : List Nat} (h : clo edgesL fuelE [f] [] = L) : Try.prog.unfollowed f = L.any fun g => (unfL[g]?).getD false := by
  rw [Program.unfollowed, closure_clo, h]
  congr 1
  funext g
  exact any_unf g
set_option maxRecDepth 100000 in
theorem recurses_of {f : Nat} {L : List Nat} (h : clo edgesL fuelE [f] [] = L) : Try.prog.recurses f = ((L.any fun g => (unfL[g]?).getD false) || L.any fun g => ((edgesL[g]?).getD []).any fun h => (clo edgesL fuelE [h] []).contains g) := by
  rw [Program.recurses, unfollowed_of h, closure_clo, h]
  congr 1
  congr 1
  funext g
  rw [elim_edges]
  congr 1
  funext h
  rw [closure_clo]
def signs : List Char := ([104, 97, 114, 110, 101, 115, 115, 32, 55, 54, 56, 99, 97, 49, 97, 102, 102, 49, 51, 102, 102, 53, 98, 56, 101, 49, 51, 49, 48, 100, 52, 48, 54, 57, 51, 99, 52, 57, 49, 51, 56, 51, 50, 50, 102, 48, 48, 49, 55, 54, 100, 98, 100, 48, 101, 52, 101, 50, 48, 97, 52, 51, 54, 97, 98, 55, 99, 102, 56, 57, 98, 55, 32, 99, 117, 116, 32, 97, 116, 32, 108, 111, 111, 112, 46, 101, 120, 97, 109, 112, 108, 101, 47, 100, 111, 99, 97, 108, 103, 101, 98, 114, 97, 47, 108, 97, 119, 115, 46, 70, 110, 67, 97, 116, 69, 109, 112, 116, 121, 32, 108, 111, 111, 112, 46, 101, 120, 97, 109, 112, 108, 101, 47, 100, 111, 99, 97, 108, 103, 101, 98, 114, 97, 47, 108, 97, 119, 115, 46, 70, 110, 67, 97, 116, 71, 114, 111, 117, 112, 115, 32, 108, 111, 111, 112, 46, 101, 120, 97, 109, 112, 108, 101, 47, 100, 111, 99, 97, 108, 103, 101, 98, 114, 97, 47, 108, 97, 119, 115, 46, 70, 110, 67, 97, 116, 76, 97, 121, 111, 117, 116, 115, 32, 108, 111, 111, 112, 46, 101, 120, 97, 109, 112, 108, 101, 47, 100, 111, 99, 97, 108, 103, 101, 98, 114, 97, 47, 108, 97, 119, 115, 46, 70, 110, 78, 101, 115, 116, 76, 97, 121, 111, 117, 116, 32, 108, 111, 111, 112, 46, 101, 120, 97, 109, 112, 108, 101, 47, 100, 111, 99, 97, 108, 103, 101, 98, 114, 97, 47, 108, 97, 119, 115, 46, 70, 110, 78, 101, 115, 116, 90, 101, 114, 111, 32, 108, 111, 111, 112, 46, 101, 120, 97, 109, 112, 108, 101, 47, 100, 111, 99, 97, 108, 103, 101, 98, 114, 97, 47, 108, 97, 119, 115, 46, 70, 110, 78, 101, 115, 116, 67, 97, 116, 32, 108, 111, 111, 112, 46, 101, 120, 97, 109, 112, 108, 101, 47, 100, 111, 99, 97, 108, 103, 101, 98, 114, 97, 47, 108, 97, 119, 115, 46, 70, 110, 79, 112, 101, 110, 78, 101, 115, 116, 32, 108, 111, 111, 112, 46, 101, 120, 97, 109, 112, 108, 101, 47, 100, 111, 99, 97, 108, 103, 101, 98, 114, 97, 47, 108, 97, 119, 115, 46, 70, 110, 79, 112, 101, 110, 76, 97, 121, 111, 117, 116, 32, 108, 111, 111, 112, 46, 101, 120, 97, 109, 112, 108, 101, 47, 100, 111, 99, 97, 108, 103, 101, 98, 114, 97, 47, 108, 97, 119, 115, 46, 70, 110, 76, 97, 121, 111, 117, 116, 83, 97, 109, 101, 32, 108, 111, 111, 112, 46, 101, 120, 97, 109, 112, 108, 101, 47, 100, 111, 99, 97, 108, 103, 101, 98, 114, 97, 47, 108, 97, 119, 115, 46, 70, 110, 79, 118, 101, 114, 102, 108, 111, 119, 83, 117, 109, 32, 108, 111, 111, 112, 46, 101, 120, 97, 109, 112, 108, 101, 47, 100, 111, 99, 97, 108, 103, 101, 98, 114, 97, 47, 108, 97, 119, 115, 46, 70, 110, 76, 97, 121, 111, 117, 116, 87, 105, 100, 116, 104, 32, 108, 111, 111, 112, 46, 101, 120, 97, 109, 112, 108, 101, 47, 100, 111, 99, 97, 108, 103, 101, 98, 114, 97, 47, 108, 97, 119, 115, 46, 70, 110, 67, 111, 117, 110, 116, 71, 114, 111, 117, 112, 115] : List Nat).map Char.ofNat
def wordsL : List (List Char) := ([[104, 97, 114, 110, 101, 115, 115], [55, 54, 56, 99, 97, 49, 97, 102, 102, 49, 51, 102, 102, 53, 98, 56, 101, 49, 51, 49, 48, 100, 52, 48, 54, 57, 51, 99, 52, 57, 49, 51, 56, 51, 50, 50, 102, 48, 48, 49, 55, 54, 100, 98, 100, 48, 101, 52, 101, 50, 48, 97, 52, 51, 54, 97, 98, 55, 99, 102, 56, 57, 98, 55], [99, 117, 116], [97, 116], [108, 111, 111, 112, 46, 101, 120, 97, 109, 112, 108, 101, 47, 100, 111, 99, 97, 108, 103, 101, 98, 114, 97, 47, 108, 97, 119, 115, 46, 70, 110, 67, 97, 116, 69, 109, 112, 116, 121], [108, 111, 111, 112, 46, 101, 120, 97, 109, 112, 108, 101, 47, 100, 111, 99, 97, 108, 103, 101, 98, 114, 97, 47, 108, 97, 119, 115, 46, 70, 110, 67, 97, 116, 71, 114, 111, 117, 112, 115], [108, 111, 111, 112, 46, 101, 120, 97, 109, 112, 108, 101, 47, 100, 111, 99, 97, 108, 103, 101, 98, 114, 97, 47, 108, 97, 119, 115, 46, 70, 110, 67, 97, 116, 76, 97, 121, 111, 117, 116, 115], [108, 111, 111, 112, 46, 101, 120, 97, 109, 112, 108, 101, 47, 100, 111, 99, 97, 108, 103, 101, 98, 114, 97, 47, 108, 97, 119, 115, 46, 70, 110, 78, 101, 115, 116, 76, 97, 121, 111, 117, 116], [108, 111, 111, 112, 46, 101, 120, 97, 109, 112, 108, 101, 47, 100, 111, 99, 97, 108, 103, 101, 98, 114, 97, 47, 108, 97, 119, 115, 46, 70, 110, 78, 101, 115, 116, 90, 101, 114, 111], [108, 111, 111, 112, 46, 101, 120, 97, 109, 112, 108, 101, 47, 100, 111, 99, 97, 108, 103, 101, 98, 114, 97, 47, 108, 97, 119, 115, 46, 70, 110, 78, 101, 115, 116, 67, 97, 116], [108, 111, 111, 112, 46, 101, 120, 97, 109, 112, 108, 101, 47, 100, 111, 99, 97, 108, 103, 101, 98, 114, 97, 47, 108, 97, 119, 115, 46, 70, 110, 79, 112, 101, 110, 78, 101, 115, 116], [108, 111, 111, 112, 46, 101, 120, 97, 109, 112, 108, 101, 47, 100, 111, 99, 97, 108, 103, 101, 98, 114, 97, 47, 108, 97, 119, 115, 46, 70, 110, 79, 112, 101, 110, 76, 97, 121, 111, 117, 116], [108, 111, 111, 112, 46, 101, 120, 97, 109, 112, 108, 101, 47, 100, 111, 99, 97, 108, 103, 101, 98, 114, 97, 47, 108, 97, 119, 115, 46, 70, 110, 76, 97, 121, 111, 117, 116, 83, 97, 109, 101], [108, 111, 111, 112, 46, 101, 120, 97, 109, 112, 108, 101, 47, 100, 111, 99, 97, 108, 103, 101, 98, 114, 97, 47, 108, 97, 119, 115, 46, 70, 110, 79, 118, 101, 114, 102, 108, 111, 119, 83, 117, 109], [108, 111, 111, 112, 46, 101, 120, 97, 109, 112, 108, 101, 47, 100, 111, 99, 97, 108, 103, 101, 98, 114, 97, 47, 108, 97, 119, 115, 46, 70, 110, 76, 97, 121, 111, 117, 116, 87, 105, 100, 116, 104], [108, 111, 111, 112, 46, 101, 120, 97, 109, 112, 108, 101, 47, 100, 111, 99, 97, 108, 103, 101, 98, 114, 97, 47, 108, 97, 119, 115, 46, 70, 110, 67, 111, 117, 110, 116, 71, 114, 111, 117, 112, 115]] : List (List Nat)).map (List.map Char.ofNat)
theorem headI : Try.prog.initOrder = String.ofList signs := by kernel_rfl
theorem headS : wordsSigns Try.prog.initOrder.toList = wordsL := by
  rw [headI, String.toList_ofList]
  kernel_rfl
theorem headLifts_of {P : Program} {ws} (h : wordsSigns P.initOrder.toList = ws) : P.headLifts = if ((stripLifts liftWords (behindMainWord ws)).2.head? == some "cut".toList) = true then (stripLifts liftWords (behindMainWord ws)).1 else [] := by
  subst h; rfl
theorem headL : Try.prog.headLifts = [] := (headLifts_of headS).trans (by kernel_rfl)
theorem liftsFinal_of {P : Program} {ws l} (h : wordsSigns P.initOrder.toList = ws) (hl : P.headLifts = l) : P.liftsFinal = (((behindMainWord ws).head? == some "carried".toList && (behindMainWord ws).take 3 != ["carried".toList, "gc".toList, "cut".toList]) || l.contains "finals") := by
  subst h; subst hl; rfl
theorem liftsF : Try.prog.liftsFinal = false := (liftsFinal_of headS headL).trans (by kernel_rfl)
theorem mayEnter_of {P : Program} (h : wordsSigns P.initOrder.toList = wordsL) (h1 : P.laysLater = false) (h2 : P.bearsReflect = false) : P.mayEnter = P.doorFits [] := by
  delta Program.mayEnter
  rw [h, h1, h2]
  kernel_rfl
theorem mayE : Try.prog.mayEnter = true := (mayEnter_of headS (by kernel_rfl) (by kernel_rfl)).trans (by kernel_rfl)
theorem make_of {P : Program} (h : wordsSigns P.initOrder.toList = wordsL) : P.make = some .cut := by
  delta Program.make
  rw [h]
  kernel_rfl
theorem makeC : Try.prog.make = some .cut := make_of headS
end Go.Proofs.Ytdhdfmmefghijab
