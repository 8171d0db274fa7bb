/- CONTRACTS: each theorem here says that a Go function of the program, called over the translation under the theorem's own hypotheses, returns what the Lean function beside it computes. Written by the session's program xprint.py. -/
import Derived.Test.YtbijachmecgpgaaPx0
namespace Go.Proofs.Ytbijachmecgpgaa.P
open Go.RowKit Go.Proofs.YtbijachmecgpgaaW.PrintWords Go.Proofs.YtbijachmecgpgaaW.PrintLast Go.Proofs.YtbijachmecgpgaaW.PrintMore
attribute [local go_sem] max2_int min2_int max_two min_two max_three min_three max_four min_four   -- for this text's walks alone
set_option linter.unusedVariables false
set_option linter.unusedSimpArgs false

/-! ### spec_l2Nest: function 62 -/
def spec_l2Nest.l0 : Nat → Int → List (SRow) → Int → Option ((List (SRow)))
  | 0, _, _, _ => none
  | k + 1, x0, x5, x6 => if x6 < (x5.length : Int) then (if 0 ≤ x6 then (spec_l2Nest.l0 k x0 (x5.set (x6 : Int).toNat (⟨wrap64 (((rd_TRow x5 x6).f0) + x0), (rd_TRow x5 x6).f1⟩ : SRow)) (wrap64 (x6 + 1))) else (none)) else (some x5)
def spec_l2Nest.f (k : Nat) (a0 : Int) (l1 : List (SRow)) : Option ((List (SRow))) := (some (([] : List (SRow)) : List (SRow))).bind fun y480 => (if y480.length + l1.length < 5864062014805 then (spec_l2Nest.l0 k a0 (y480 ++ l1) 1) else (none))
theorem spec_l2Nest.mono_l : ∀ k, (∀ y0 y1 y2, LeO (spec_l2Nest.l0 k y0 y1 y2) (spec_l2Nest.l0 (k + 1) y0 y1 y2))
  | 0 => fun _ _ _ r h => by simp [spec_l2Nest.l0] at h
  | k + 1 => by
    have ih0 := spec_l2Nest.mono_l k
    · intro y0 y1 y2
      unfold spec_l2Nest.l0
      repeat' first
      | (with_reducible exact ih0 _ _ _)
      | (with_reducible exact LeO.refl _)
      | (with_reducible exact LeO.none _)
      | (with_reducible refine LeO.ite ?_ ?_)
      | (with_reducible refine LeO.bind ?_ (fun _ => ?_))
      | exact ih0 _ _ _
      | exact LeO.none _
      | refine LeO.ite ?_ ?_
      | refine LeO.bind ?_ (fun _ => ?_)
theorem spec_l2Nest.mono : ∀ a0 a1 k, LeO (spec_l2Nest.f k a0 a1) (spec_l2Nest.f (k + 1) a0 a1) := by
  intro a0 a1 k
  have ih0 := spec_l2Nest.mono_l k
  unfold spec_l2Nest.f
  repeat' first
      | (with_reducible exact ih0 _ _ _)
      | (with_reducible exact LeO.refl _)
      | (with_reducible exact LeO.none _)
      | (with_reducible refine LeO.ite ?_ ?_)
      | (with_reducible refine LeO.bind ?_ (fun _ => ?_))
      | exact ih0 _ _ _
      | exact LeO.none _
      | refine LeO.ite ?_ ?_
      | refine LeO.bind ?_ (fun _ => ?_)
set_option maxHeartbeats 8000000 in
set_option maxRecDepth 100000 in
theorem spec_l2Nest.calls (k : Nat) (a0 : Int) (A1 : Option Addr) (c1 : Nat) (l1 : List (SRow)) (r : List (SRow)) (w : World) (hr1 : Kd.C k58 w A1 l1.length l1) (hc1 : l1.length ≤ c1) (h : spec_l2Nest.f k a0 l1 = some r) :
    Calls Try.prog 62 #[.int .i64 a0, .slice A1 l1.length c1] w fun e w' => ∃ v0_ : Value, e = .returned (v0_) ∧ Kd.R k58 58 w' w.heap.size (fun _ => True) v0_ r ∧ Below w.heap.size w w' := by
  have HR1 := Aside0.mk hr1
  have HC1 := Aside0.mk hc1
  clear hr1 hc1
  have HB := Aside0.mk (Below.refl w.heap.size w)
  have H : ((some (([] : List (SRow)) : List (SRow))).bind fun y480 => (if y480.length + l1.length < 5864062014805 then (spec_l2Nest.l0 k a0 (y480 ++ l1) 1) else (none))) = some r := h
  clear h
  obtain ⟨y480, hy480⟩ : ∃ y_ : List (SRow), y_ = (([] : List (SRow))) := ⟨_, rfl⟩
  replace H : (if y480.length + l1.length < 5864062014805 then (spec_l2Nest.l0 k a0 (y480 ++ l1) 1) else (none)) = some r := by first | (rw [hy480]; with_reducible exact H) | (have H2_ := (Option.bind_some _ _).symm.trans H; rw [hy480]; with_reducible exact H2_) | (have H2_ := (Option.bind_some _ _).symm.trans H; with_reducible exact H2_) | with_reducible exact H | (rw [hy480]; exact H) | exact H
  have Ny480 := Aside0.mk hy480
  clear hy480
  by_cases c3 : y480.length + l1.length < 5864062014805
  · rw [if_pos c3] at H
    have LMc3 := Aside0.mk c3
    clear c3
    obtain ⟨y483, hy483⟩ : ∃ y_ : List (SRow), y_ = (y480 ++ l1) := ⟨_, rfl⟩
    replace H : (spec_l2Nest.l0 k a0 y483 1) = some r := by first | (rw [hy483]; with_reducible exact H) | (have H2_ := (Option.bind_some _ _).symm.trans H; rw [hy483]; with_reducible exact H2_) | (have H2_ := (Option.bind_some _ _).symm.trans H; with_reducible exact H2_) | with_reducible exact H | (rw [hy483]; exact H) | exact H
    have Ny483 := Aside0.mk hy483
    clear hy483
    have H' := Aside0.mk H
    clear H
    go_enter Try.func62, Try.ntmps62
    go_wp2_with (first | ((with_reducible refine gate_dst (N := 7) rfl ?_); refine Kd.R_lit k58 _ 58 ?hg (N := 7) ?hd (xs := ([] : List (SRow))) (inner := []) (ok := fun _ => True) (okp := fun _ => True) ?hr ?hp (fun _ hk => hk) trivial (Below.refl _ _) (Nat.le_refl _) (by simp) ?_; (case hd => rfl); (case hg => rfl); (case hr => first | (go_simp; done) | (go_simp; rfl)); (case hp => exact (Reps.none _ _)); intro v481 w4 ho5 hb hg_ hnew_; clear hg_ hnew_; (first | rw [← Ny480.out] at ho5 | (simp only [Int.reduceToNat] at ho5; rw [← Ny480.out] at ho5)); have n0_ := Aside0.mk (Kd.R_lower ho5 (below_size (by repeat (first | (with_reducible first | exact HB.out | apply below_alloc | apply pw_below_drewN | apply below_drew1) | exact HB.out)))); have n1_ := Aside0.mk (below_step (by repeat (first | (with_reducible first | exact HB.out | apply below_alloc | apply pw_below_drewN | apply below_drew1) | exact HB.out)) hb); clear HB; have HO482 := n0_; have HB := n1_; clear n0_ n1_; clear hb ho5) | ((with_reducible refine gate_builtin (b := .append) (xs := #[.tmp 7, .tmp 8]) rfl ?_); at_builtin; refine Kd.R_append_rows k58 (w0 := w) w.heap.size rfl (.tmp 7) (.tmp 8) 27 58 (.agg #[(.int .i64 0), (.string ⟨#[]⟩)]) 24 rfl Try.underlying27 info58 rfl (by decide) (by omega) v481 y480 l1 _ _ _ (fun _ => True) (fun _ => False) rfl rfl ?aO ?aR (fun _ _ h => h) (fun _ h => h.elim) ?aF ?aB ?aS ?aL ?_; (case aR => repeat (first | exact (Kd.C_below HR1.out HB.out) | (with_reducible refine Kd.C_alloc ?_ _) | (with_reducible refine Kd.C_drewN ?_ _) | (with_reducible refine Kd.C_drew ?_))); (case aB => exact (by repeat (first | (with_reducible first | exact HB.out | apply below_alloc | apply pw_below_drewN | apply below_drew1) | exact HB.out))); (case aF => exact (fun _ _ => trivial)); (case aO => exact (by (with_reducible repeat (first | apply Kd.R_alloc | apply Kd.R_drewN | apply Kd.R_drew)); exact HO482.out)); (case aS => exact (below_size (by repeat (first | (with_reducible first | exact HB.out | apply below_alloc | apply pw_below_drewN | apply below_drew1) | exact HB.out)))); (case aL => have := LMc3.out; omega); intro v484 w6 ho hb hg hat; rw [← Ny483.out] at ho; have n0_ := Aside0.mk (hb); have n1_ := Aside0.mk (ho); clear HB; clear HO482; have HB := n0_; have HO485 := n1_; clear n0_ n1_; clear ho hb hg hat))
    go_loopg [6] k (fun kq v6 w' => ∃ (x5_1 : List (SRow)) (x6_1 : Int), v6 = .int .i64 x6_1 ∧ Aside0 (spec_l2Nest.l0 kq a0 x5_1 x6_1 = some r) ∧ Aside0 (kq ≤ k) ∧ Aside0 (Kd.R k58 58 w' w.heap.size (fun _ => True) v484 x5_1) ∧ Aside0 (Below w.heap.size w w'))
    case atStart => exact ⟨(y483), (1), (by first | rfl | (simp; done) | (simp [*]; done)), H', ⟨Nat.le_refl _⟩, ⟨by (with_reducible repeat (first | apply Kd.R_alloc | apply Kd.R_drewN | apply Kd.R_drew)); exact HO485.out⟩, ⟨by repeat (first | (with_reducible first | exact HB.out | apply below_alloc | apply pw_below_drewN | apply below_drew1) | exact HB.out)⟩⟩
    case round =>
      clear H'
      try clear c1
      try clear p2
      try clear c3
      try clear c6
      (try clear HO_5); (try clear HB)
      obtain ⟨x5_1, x6_1, rfl, HA, HK1, HO_5, HB⟩ := hrel
      cases gk with
      | zero => exact absurd HA.out (by simp [spec_l2Nest.l0])
      | succ k1 =>
        have H := HA.out
        clear HA
        simp only [spec_l2Nest.l0] at H
        by_cases c7 : x6_1 < (x5_1.length : Int)
        · rw [if_pos c7] at H
          have c7b0 : decide (x6_1 < (x5_1.length : Int)) = true := decide_eq_true c7
          clear c7
          by_cases c8 : 0 ≤ x6_1
          · rw [if_pos c8] at H
            have c8b0 : decide (0 ≤ x6_1) = true := decide_eq_true c8
            clear c8
            obtain ⟨y487, hy487⟩ : ∃ y_ : List (SRow), y_ = (x5_1.set (x6_1 : Int).toNat (⟨wrap64 (((rd_TRow x5_1 x6_1).f0) + a0), (rd_TRow x5_1 x6_1).f1⟩ : SRow)) := ⟨_, rfl⟩
            replace H : (spec_l2Nest.l0 k1 a0 y487 (wrap64 (x6_1 + 1))) = some r := by first | (rw [hy487]; with_reducible exact H) | (have H2_ := (Option.bind_some _ _).symm.trans H; rw [hy487]; with_reducible exact H2_) | (have H2_ := (Option.bind_some _ _).symm.trans H; with_reducible exact H2_) | with_reducible exact H | (rw [hy487]; exact H) | exact H
            have Ny487 := Aside0.mk hy487
            clear hy487
            have H' := Aside0.mk H
            clear H
            obtain ⟨Ao10, co10, eo10⟩ := Kd.R_slice HO_5.out
            subst eo10
            have p486 : 0 ≤ (x6_1 : Int) := of_decide_eq_true (by first | (with_reducible assumption) | assumption)
            have q486 : x6_1 < (x5_1.length : Int) := of_decide_eq_true (by first | (with_reducible assumption) | assumption)
            obtain ⟨ad486, e486, hx486_0, hx486_1⟩ := at_TRow (Kd.R_reads' HO_5.out).2.2 x6_1 p486 q486
            cases e486
            replace p486 := eq_true p486
            replace q486 := eq_true q486
            have p9 : 0 ≤ (x6_1 : Int) := of_decide_eq_true (by first | (with_reducible assumption) | assumption)
            have q9 : (x6_1 : Int) < ((x5_1.length : Int) : Int) := of_decide_eq_true (by first | (with_reducible assumption) | assumption)
            obtain ⟨go9, co9, eo9, gb9, gl9, cl9, HG9⟩ := Kd.R_form HO_5.out (by omega)
            (first | cases eo9 | (injection eo9 with ea_ en_ ec_; (first | subst ea_ | (injection ea_ with ea_; subst ea_)); subst ec_; clear en_))
            have GB9 := Aside0.mk gb9
            have GG9 := Aside0.mk HG9
            clear gb9 gl9 HG9
            (first | simp only [add_plain] at hx486_0 | skip)
            (first | simp only [add_plain] at hx486_1 | skip)
            obtain ⟨ce9, hcl9, hM9, hcc9, hfr9⟩ := Kd.R_elem HO_5.out zRow (x6_1 : Int) p9 q9
            obtain rfl := k58_openM hM9
            have hx9_0 : wr.cell? ⟨go9, (x6_1 : Int).toNat * 2, none⟩ = some (.int .i64 ((rd_TRow x5_1 x6_1).f0)) := hcc9 0 _ rfl
            have hx9_1 : wr.cell? ⟨go9, (x6_1 : Int).toNat * 2 + 1, none⟩ = some (.string ((rd_TRow x5_1 x6_1).f1)) := hcc9 1 _ rfl
            have hf9_0 : wr.frozen? ⟨go9, (x6_1 : Int).toNat * 2, none⟩ = false := hfr9 0
            have hf9_1 : wr.frozen? ⟨go9, (x6_1 : Int).toNat * 2 + 1, none⟩ = false := hfr9 1
            clear hcl9 hcc9 hfr9 hM9
            replace p9 := eq_true p9
            replace q9 := eq_true q9
            have HX11 := Aside0.mk (show Kd.R k58 58 wr w.heap.size (fun _ => True) (.slice (some ⟨go9, 0, none⟩) x5_1.length co10) x5_1 from (by (with_reducible repeat (first | apply Kd.R_alloc | apply Kd.R_drewN | apply Kd.R_drew)); exact HO_5.out))
            obtain ⟨ce11, hcl11, hM11, hcc11, hfr11⟩ := Kd.R_elem HX11.out zRow (x6_1 : Int) (of_decide_eq_true (by first | (with_reducible assumption) | assumption)) (by have h_ : (x6_1 : Int) < ((x5_1.length : Int) : Int) := of_decide_eq_true (by first | (with_reducible assumption) | assumption); first | exact h_ | (have e_ := (Kd.R_reads' HO_5.out).1; omega) | simpa using h_)
            obtain rfl := k58_openM hM11
            have HP11 := Kd.R_seg HX11.out (x6_1 : Int) (of_decide_eq_true (by first | (with_reducible assumption) | assumption)) (by have h_ : (x6_1 : Int) < ((x5_1.length : Int) : Int) := of_decide_eq_true (by first | (with_reducible assumption) | assumption); first | exact h_ | (have e_ := (Kd.R_reads' HO_5.out).1; omega) | simpa using h_) (seg := [.int .i64 (wrap64 (((rd_TRow x5_1 x6_1).f0) + a0))]) (j := 0) hcl11 hcc11 (show 1 ≤ 2 from by decide) (x' := (⟨wrap64 (((rd_TRow x5_1 x6_1).f0) + a0), (rd_TRow x5_1 x6_1).f1⟩ : SRow)) (k58_mkM _ _ _ (⟨wrap64 (((rd_TRow x5_1 x6_1).f0) + a0), (rd_TRow x5_1 x6_1).f1⟩ : SRow) ) (fun _ hk => hk)
            have hx11_0 := hcc11 0 _ rfl
            (try simp only [show (k58).sz = 2 from rfl, Nat.mul_one, Nat.add_zero] at hx11_0)
            have hf11_0 := hfr11 0
            (try simp only [show (k58).sz = 2 from rfl, Nat.mul_one, Nat.add_zero] at hf11_0)
            clear hcl11 hcc11 hfr11 hM11
            go_wp2_with (first | ((with_reducible refine gate_store (t := 3) (p := 26) rfl ?_); refine store_event (t := 3) (p := 26) (v := ?vo_w12) (w1 := (wr.setCell ⟨go9, (x6_1 : Int).toNat * 2, none⟩ (.int .i64 (wrap64 (((rd_TRow x5_1 x6_1).f0) + a0))))) ?hg ?ho ?hn ?hr ?_; (case ho => rfl); (case hg => rfl); (case hn => rfl); (case hr => first | (go_simp; done) | (go_simp; rfl)); intro w12 hw; have hg : wr.grownBy w12 (some go9) := (by rw [hw]; exact HP11.2); have hp_ : Kd.R k58 58 w12 w.heap.size (fun _ => True) (.slice (some ⟨go9, 0, none⟩) x5_1.length co10) y487 := (by rw [hw, Ny487.out]; exact HP11.1); clear HP11; have n0_ := Aside0.mk (hp_); have n1_ := Aside0.mk ((by rw [hw]; exact below_set (HB.out) GB9.out : Below w.heap.size w w12)); clear HO_5; clear HB; have HO_5 := n0_; have HB := n1_; clear n0_ n1_; clear hg hw hp_))
            go_roundg k1
            case measure => have := HK1.out; omega
            case rel => exact ⟨(y487), (wrap64 (x6_1 + 1)), (by first | rfl | (simp; done) | (simp [*]; done)), H', ⟨by have := HK1.out; omega⟩, ⟨by (with_reducible repeat (first | apply Kd.R_alloc | apply Kd.R_drewN | apply Kd.R_drew)); exact HO_5.out⟩, ⟨by repeat (first | (with_reducible first | exact HB.out | apply below_alloc | apply pw_below_drewN | apply below_drew1) | exact HB.out)⟩⟩
          · rw [if_neg c8] at H
            exact absurd H (by simp)
        · rw [if_neg c7] at H
          have c7b0 : decide (x6_1 < (x5_1.length : Int)) = false := decide_eq_false c7
          clear c7
          obtain rfl := Option.some.inj H
          obtain ⟨Ao13, co13, eo13⟩ := Kd.R_slice HO_5.out
          subst eo13
          go_wp2
          go_ret
          exact ⟨_, by first | rfl | (simp [errW_none, errW_some] <;> rfl) | (simp [*, errW_none, errW_some] <;> rfl), by (with_reducible repeat (first | apply Kd.R_alloc | apply Kd.R_drewN | apply Kd.R_drew)); exact HO_5.out, by repeat (first | (with_reducible first | exact HB.out | apply below_alloc | apply pw_below_drewN | apply below_drew1) | exact HB.out)⟩
  · rw [if_neg c3] at H
    exact absurd H (by simp)

end Go.Proofs.Ytbijachmecgpgaa.P
