/- CONTRACTS: each theorem here says that a Go function of the program, called over the translation under the theorem's own hypotheses, returns what the Lean function beside it computes. Written by the session's program xprint.py. -/
import Derived.Test.YtbijachmecgpgaaPx0
import Derived.Test.YtbijachmecgpgaaPx49
namespace Go.Proofs.Ytbijachmecgpgaa.P
open Go.RowKit Go.Proofs.YtbijachmecgpgaaW.PrintWords Go.Proofs.YtbijachmecgpgaaW.PrintLast Go.Proofs.YtbijachmecgpgaaW.PrintMore
attribute [local go_sem] max2_int min2_int max_two min_two max_three min_three max_four min_four   -- for this text's walks alone
set_option linter.unusedVariables false
set_option linter.unusedSimpArgs false

/-! ### impl_nestRows: function 63 -/
def impl_nestRows.l0 : Nat → Int → List (SRow) → Int → Option ((List (SRow)))
  | 0, _, _, _ => none
  | k + 1, x0, x5, x6 => if x6 < (x5.length : Int) then (if 0 ≤ x6 then (impl_nestRows.l0 k x0 (x5.set (x6 : Int).toNat (⟨wrap64 (((rd_TRow x5 x6).f0) + x0), (rd_TRow x5 x6).f1⟩ : SRow)) (wrap64 (x6 + 1))) else (none)) else (some x5)
def impl_nestRows.f (k : Nat) (a0 : Int) (l1 : List (SRow)) : Option ((List (SRow))) := (slices_Clone_Llimpl_Row.f l1).bind fun t499 => (impl_nestRows.l0 k a0 t499 1)
theorem impl_nestRows.mono_l : ∀ k, (∀ y0 y1 y2, LeO (impl_nestRows.l0 k y0 y1 y2) (impl_nestRows.l0 (k + 1) y0 y1 y2))
  | 0 => fun _ _ _ r h => by simp [impl_nestRows.l0] at h
  | k + 1 => by
    have ih0 := impl_nestRows.mono_l k
    · intro y0 y1 y2
      unfold impl_nestRows.l0
      repeat' first
      | (with_reducible exact ih0 _ _ _)
      | (with_reducible exact LeO.refl _)
      | (with_reducible exact LeO.none _)
      | (with_reducible refine LeO.ite ?_ ?_)
      | (with_reducible refine LeO.bind ?_ (fun _ => ?_))
      | exact ih0 _ _ _
      | exact LeO.none _
      | refine LeO.ite ?_ ?_
      | refine LeO.bind ?_ (fun _ => ?_)
theorem impl_nestRows.mono : ∀ a0 a1 k, LeO (impl_nestRows.f k a0 a1) (impl_nestRows.f (k + 1) a0 a1) := by
  intro a0 a1 k
  have ih0 := impl_nestRows.mono_l k
  unfold impl_nestRows.f
  repeat' first
      | (with_reducible exact ih0 _ _ _)
      | (with_reducible exact LeO.refl _)
      | (with_reducible exact LeO.none _)
      | (with_reducible refine LeO.ite ?_ ?_)
      | (with_reducible refine LeO.bind ?_ (fun _ => ?_))
      | exact ih0 _ _ _
      | exact LeO.none _
      | refine LeO.ite ?_ ?_
      | refine LeO.bind ?_ (fun _ => ?_)
set_option maxHeartbeats 8000000 in
set_option maxRecDepth 100000 in
theorem impl_nestRows.calls (k : Nat) (a0 : Int) (A1 : Option Addr) (c1 : Nat) (l1 : List (SRow)) (r : List (SRow)) (w : World) (hr1 : Kd.C k58 w A1 l1.length l1) (hc1 : l1.length ≤ c1) (h : impl_nestRows.f k a0 l1 = some r) :
    Calls Try.prog 63 #[.int .i64 a0, .slice A1 l1.length c1] w fun e w' => ∃ v0_ : Value, e = .returned (v0_) ∧ Kd.R k58 58 w' w.heap.size (fun _ => True) v0_ r ∧ Below w.heap.size w w' := by
  have HR1 := Aside0.mk hr1
  have HC1 := Aside0.mk hc1
  clear hr1 hc1
  have HB := Aside0.mk (Below.refl w.heap.size w)
  have H : ((slices_Clone_Llimpl_Row.f l1).bind fun t499 => (impl_nestRows.l0 k a0 t499 1)) = some r := h
  clear h
  replace H := Option.bind_eq_some_iff.mp H
  obtain ⟨t499, A30, H⟩ := H
  replace H : (impl_nestRows.l0 k a0 t499 1) = some r := H
  have A3 := Aside0.mk A30
  clear A30
  have H' := Aside0.mk H
  clear H
  go_enter Try.func63, Try.ntmps63
  go_wp2_with (first | ((with_reducible refine gate_callee (f := 69) rfl ?_); refine goesL_ (some 8) rfl rfl Try.func69 (by kernel_rfl) rfl #[.slice A1 l1.length c1] rfl (by (try simp only [List.map_toArray, List.map_cons, List.map_nil]); first | done | rfl | (simp only [List.length_drop, List.length_take]; rfl)) ?_; (with_reducible refine (slices_Clone_Llimpl_Row.calls _ _ l1 t499 _ ?side1 ?side2 A3.out).mono ?_); (case side1 => repeat (first | exact HR1.out | (with_reducible refine Kd.C_alloc ?_ _) | (with_reducible refine Kd.C_drewN ?_ _) | (with_reducible refine Kd.C_drew ?_))); (case side2 => exact HC1.out); rintro e w4 ⟨v500, rfl, ho0, hb⟩; refine ⟨_, rfl, ?_⟩; have n0_ := Aside0.mk (Kd.R_lower ho0 (below_size (by repeat (first | (with_reducible first | exact HB.out | apply below_alloc | apply pw_below_drewN | apply below_drew1) | exact HB.out)))); have n1_ := Aside0.mk (below_step (by repeat (first | (with_reducible first | exact HB.out | apply below_alloc | apply pw_below_drewN | apply below_drew1) | exact HB.out)) hb); clear HB; have HO501 := n0_; have HB := n1_; clear n0_ n1_; (try clear hb); (try clear hb2); (try clear hk); (try clear hi); (try clear ho0)))
  go_loopg [6] k (fun kq v6 w' => ∃ (x5_1 : List (SRow)) (x6_1 : Int), v6 = .int .i64 x6_1 ∧ Aside0 (impl_nestRows.l0 kq a0 x5_1 x6_1 = some r) ∧ Aside0 (kq ≤ k) ∧ Aside0 (Kd.R k58 58 w' w.heap.size (fun _ => True) v500 x5_1) ∧ Aside0 (Below w.heap.size w w'))
  case atStart => exact ⟨(t499), (1), (by first | rfl | (simp; done) | (simp [*]; done)), H', ⟨Nat.le_refl _⟩, ⟨by (with_reducible repeat (first | apply Kd.R_alloc | apply Kd.R_drewN | apply Kd.R_drew)); exact HO501.out⟩, ⟨by repeat (first | (with_reducible first | exact HB.out | apply below_alloc | apply pw_below_drewN | apply below_drew1) | exact HB.out)⟩⟩
  case round =>
    clear H'
    try clear c1
    try clear p2
    (try clear HO_5); (try clear HB)
    obtain ⟨x5_1, x6_1, rfl, HA, HK1, HO_5, HB⟩ := hrel
    cases gk with
    | zero => exact absurd HA.out (by simp [impl_nestRows.l0])
    | succ k1 =>
      have H := HA.out
      clear HA
      simp only [impl_nestRows.l0] at H
      by_cases c5 : x6_1 < (x5_1.length : Int)
      · rw [if_pos c5] at H
        have c5b0 : decide (x6_1 < (x5_1.length : Int)) = true := decide_eq_true c5
        clear c5
        by_cases c6 : 0 ≤ x6_1
        · rw [if_pos c6] at H
          have c6b0 : decide (0 ≤ x6_1) = true := decide_eq_true c6
          clear c6
          obtain ⟨y503, hy503⟩ : ∃ y_ : List (SRow), y_ = (x5_1.set (x6_1 : Int).toNat (⟨wrap64 (((rd_TRow x5_1 x6_1).f0) + a0), (rd_TRow x5_1 x6_1).f1⟩ : SRow)) := ⟨_, rfl⟩
          replace H : (impl_nestRows.l0 k1 a0 y503 (wrap64 (x6_1 + 1))) = some r := by first | (rw [hy503]; with_reducible exact H) | (have H2_ := (Option.bind_some _ _).symm.trans H; rw [hy503]; with_reducible exact H2_) | (have H2_ := (Option.bind_some _ _).symm.trans H; with_reducible exact H2_) | with_reducible exact H | (rw [hy503]; exact H) | exact H
          have Ny503 := Aside0.mk hy503
          clear hy503
          have H' := Aside0.mk H
          clear H
          obtain ⟨Ao8, co8, eo8⟩ := Kd.R_slice HO_5.out
          subst eo8
          have p502 : 0 ≤ (x6_1 : Int) := of_decide_eq_true (by first | (with_reducible assumption) | assumption)
          have q502 : x6_1 < (x5_1.length : Int) := of_decide_eq_true (by first | (with_reducible assumption) | assumption)
          obtain ⟨ad502, e502, hx502_0, hx502_1⟩ := at_TRow (Kd.R_reads' HO_5.out).2.2 x6_1 p502 q502
          cases e502
          replace p502 := eq_true p502
          replace q502 := eq_true q502
          have p7 : 0 ≤ (x6_1 : Int) := of_decide_eq_true (by first | (with_reducible assumption) | assumption)
          have q7 : (x6_1 : Int) < ((x5_1.length : Int) : Int) := of_decide_eq_true (by first | (with_reducible assumption) | assumption)
          obtain ⟨go7, co7, eo7, gb7, gl7, cl7, HG7⟩ := Kd.R_form HO_5.out (by omega)
          (first | cases eo7 | (injection eo7 with ea_ en_ ec_; (first | subst ea_ | (injection ea_ with ea_; subst ea_)); subst ec_; clear en_))
          have GB7 := Aside0.mk gb7
          have GG7 := Aside0.mk HG7
          clear gb7 gl7 HG7
          (first | simp only [add_plain] at hx502_0 | skip)
          (first | simp only [add_plain] at hx502_1 | skip)
          obtain ⟨ce7, hcl7, hM7, hcc7, hfr7⟩ := Kd.R_elem HO_5.out zRow (x6_1 : Int) p7 q7
          obtain rfl := k58_openM hM7
          have hx7_0 : wr.cell? ⟨go7, (x6_1 : Int).toNat * 2, none⟩ = some (.int .i64 ((rd_TRow x5_1 x6_1).f0)) := hcc7 0 _ rfl
          have hx7_1 : wr.cell? ⟨go7, (x6_1 : Int).toNat * 2 + 1, none⟩ = some (.string ((rd_TRow x5_1 x6_1).f1)) := hcc7 1 _ rfl
          have hf7_0 : wr.frozen? ⟨go7, (x6_1 : Int).toNat * 2, none⟩ = false := hfr7 0
          have hf7_1 : wr.frozen? ⟨go7, (x6_1 : Int).toNat * 2 + 1, none⟩ = false := hfr7 1
          clear hcl7 hcc7 hfr7 hM7
          replace p7 := eq_true p7
          replace q7 := eq_true q7
          have HX9 := Aside0.mk (show Kd.R k58 58 wr w.heap.size (fun _ => True) (.slice (some ⟨go7, 0, none⟩) x5_1.length co8) x5_1 from (by (with_reducible repeat (first | apply Kd.R_alloc | apply Kd.R_drewN | apply Kd.R_drew)); exact HO_5.out))
          obtain ⟨ce9, hcl9, hM9, hcc9, hfr9⟩ := Kd.R_elem HX9.out zRow (x6_1 : Int) (of_decide_eq_true (by first | (with_reducible assumption) | assumption)) (by have h_ : (x6_1 : Int) < ((x5_1.length : Int) : Int) := of_decide_eq_true (by first | (with_reducible assumption) | assumption); first | exact h_ | (have e_ := (Kd.R_reads' HO_5.out).1; omega) | simpa using h_)
          obtain rfl := k58_openM hM9
          have HP9 := Kd.R_seg HX9.out (x6_1 : Int) (of_decide_eq_true (by first | (with_reducible assumption) | assumption)) (by have h_ : (x6_1 : Int) < ((x5_1.length : Int) : Int) := of_decide_eq_true (by first | (with_reducible assumption) | assumption); first | exact h_ | (have e_ := (Kd.R_reads' HO_5.out).1; omega) | simpa using h_) (seg := [.int .i64 (wrap64 (((rd_TRow x5_1 x6_1).f0) + a0))]) (j := 0) hcl9 hcc9 (show 1 ≤ 2 from by decide) (x' := (⟨wrap64 (((rd_TRow x5_1 x6_1).f0) + a0), (rd_TRow x5_1 x6_1).f1⟩ : SRow)) (k58_mkM _ _ _ (⟨wrap64 (((rd_TRow x5_1 x6_1).f0) + a0), (rd_TRow x5_1 x6_1).f1⟩ : SRow) ) (fun _ hk => hk)
          have hx9_0 := hcc9 0 _ rfl
          (try simp only [show (k58).sz = 2 from rfl, Nat.mul_one, Nat.add_zero] at hx9_0)
          have hf9_0 := hfr9 0
          (try simp only [show (k58).sz = 2 from rfl, Nat.mul_one, Nat.add_zero] at hf9_0)
          clear hcl9 hcc9 hfr9 hM9
          go_wp2_with (first | ((with_reducible refine gate_store (t := 3) (p := 23) rfl ?_); refine store_event (t := 3) (p := 23) (v := ?vo_w10) (w1 := (wr.setCell ⟨go7, (x6_1 : Int).toNat * 2, none⟩ (.int .i64 (wrap64 (((rd_TRow x5_1 x6_1).f0) + a0))))) ?hg ?ho ?hn ?hr ?_; (case ho => rfl); (case hg => rfl); (case hn => rfl); (case hr => first | (go_simp; done) | (go_simp; rfl)); intro w10 hw; have hg : wr.grownBy w10 (some go7) := (by rw [hw]; exact HP9.2); have hp_ : Kd.R k58 58 w10 w.heap.size (fun _ => True) (.slice (some ⟨go7, 0, none⟩) x5_1.length co8) y503 := (by rw [hw, Ny503.out]; exact HP9.1); clear HP9; have n0_ := Aside0.mk (hp_); have n1_ := Aside0.mk ((by rw [hw]; exact below_set (HB.out) GB7.out : Below w.heap.size w w10)); clear HO_5; clear HB; have HO_5 := n0_; have HB := n1_; clear n0_ n1_; clear hg hw hp_))
          go_roundg k1
          case measure => have := HK1.out; omega
          case rel => exact ⟨(y503), (wrap64 (x6_1 + 1)), (by first | rfl | (simp; done) | (simp [*]; done)), H', ⟨by have := HK1.out; omega⟩, ⟨by (with_reducible repeat (first | apply Kd.R_alloc | apply Kd.R_drewN | apply Kd.R_drew)); exact HO_5.out⟩, ⟨by repeat (first | (with_reducible first | exact HB.out | apply below_alloc | apply pw_below_drewN | apply below_drew1) | exact HB.out)⟩⟩
        · rw [if_neg c6] at H
          exact absurd H (by simp)
      · rw [if_neg c5] at H
        have c5b0 : decide (x6_1 < (x5_1.length : Int)) = false := decide_eq_false c5
        clear c5
        obtain rfl := Option.some.inj H
        obtain ⟨Ao11, co11, eo11⟩ := Kd.R_slice HO_5.out
        subst eo11
        go_wp2
        go_ret
        exact ⟨_, by first | rfl | (simp [errW_none, errW_some] <;> rfl) | (simp [*, errW_none, errW_some] <;> rfl), by (with_reducible repeat (first | apply Kd.R_alloc | apply Kd.R_drewN | apply Kd.R_drew)); exact HO_5.out, by repeat (first | (with_reducible first | exact HB.out | apply below_alloc | apply pw_below_drewN | apply below_drew1) | exact HB.out)⟩

end Go.Proofs.Ytbijachmecgpgaa.P
