/- CONTRACTS and lemmas: each contract says that a Go function of the program, called over the translation under the theorem's own hypotheses, returns what the Lean function beside it computes. -/
import Derived.Test.YtdhdfmmefghijabVLa6
namespace Go.Proofs.Ytdhdfmmefghijab.P
open Go.RowKit Go.Proofs.YtdhdfmmefghijabW.PrintWords Go.Proofs.YtdhdfmmefghijabW.PrintLast Go.Proofs.YtdhdfmmefghijabW.PrintMore
attribute [local go_sem] max2_int min2_int max_two min_two max_three min_three max_four min_four
set_option linter.unusedVariables false
set_option linter.unusedSimpArgs false
def spec_l2Draw.f (k : Nat) (s0_0 : List Int) (s0_1 : Int) : Option ((List (SRow)) × Int) := (spec_l1Draw.f k s0_0 s0_1).bind fun bt388 => ((spec_l2Open.f k bt388.1 bt388.2.1 bt388.2.2.1 bt388.2.2.2.1).bind fun t395 => ((spec_l15Rd_pick.f k s0_0 bt388.2.2.2.2 (t395.length : Int)).bind fun bt398 => ((spec_l15Rd_pick.f k s0_0 bt398.2 16).bind fun bt400 => (if bt400.1 = 0 then ((spec_l15Rd_num.f k s0_0 bt400.2 (([(-1), 401, 3] : List Int))).bind fun bt405 => (if 0 ≤ bt398.1 then (if bt398.1 < (t395.length : Int) then (some ((t395.set (bt398.1 : Int).toNat (⟨bt405.1, (rd_TRow t395 bt398.1).f1⟩ : SRow)), bt405.2)) else (none)) else (none))) else (if bt400.1 = 1 then ((spec_l15Rd_of.f k s0_0 bt400.2 (([(⟨#[65]⟩ : ByteArray), (⟨#[97, 32, 98]⟩ : ByteArray), (⟨#[120, 10]⟩ : ByteArray), (⟨#[]⟩ : ByteArray)] : List ByteArray))).bind fun bt411 => (if 0 ≤ bt398.1 then (if bt398.1 < (t395.length : Int) then (some ((t395.set (bt398.1 : Int).toNat (⟨(rd_TRow t395 bt398.1).f0, bt411.1⟩ : SRow)), bt411.2)) else (none)) else (none))) else (if bt400.1 = 2 then (if 0 ≤ (t395.length : Int) then (some ((t395.take (0 : Int).toNat), bt400.2)) else (none)) else (some (t395, bt400.2))))))))
set_option maxHeartbeats 8000000 in
set_option maxRecDepth 100000 in
theorem spec_l2Draw.calls (k : Nat) (g : Nat) (s0_0 : List Int) (s0_1 : Int) (r1 : List (SRow)) (r2 : Int) (w0 w : World) (hI : IsS67 w0 w g s0_0 s0_1) (hB : Below w0.heap.size w0 w) (h : spec_l2Draw.f k s0_0 s0_1 = some (r1, r2)) :
    Calls Try.prog 41 #[.pointer (some ⟨g, 0, none⟩)] w fun e w' => ∃ v0_ : Value, e = .returned (v0_) ∧ Kd.R k30 30 w' w.heap.size (fun _ => True) v0_ r1 ∧ IsS67 w0 w' g s0_0 r2 ∧ Below w0.heap.size w0 w' ∧ KeepBut w w' g none := by
  have HI0 := Aside0.mk hI
  have HK := Aside0.mk (KeepBut.refl w g none)
  have HL := Aside0.mk hB.size
  clear hI
  have HW0 := Aside0.mk hB.size
  have HB := Aside0.mk hB
  clear hB
  have H : ((spec_l1Draw.f k s0_0 s0_1).bind fun bt388 => ((spec_l2Open.f k bt388.1 bt388.2.1 bt388.2.2.1 bt388.2.2.2.1).bind fun t395 => ((spec_l15Rd_pick.f k s0_0 bt388.2.2.2.2 (t395.length : Int)).bind fun bt398 => ((spec_l15Rd_pick.f k s0_0 bt398.2 16).bind fun bt400 => (if bt400.1 = 0 then ((spec_l15Rd_num.f k s0_0 bt400.2 (([(-1), 401, 3] : List Int))).bind fun bt405 => (if 0 ≤ bt398.1 then (if bt398.1 < (t395.length : Int) then (some ((t395.set (bt398.1 : Int).toNat (⟨bt405.1, (rd_TRow t395 bt398.1).f1⟩ : SRow)), bt405.2)) else (none)) else (none))) else (if bt400.1 = 1 then ((spec_l15Rd_of.f k s0_0 bt400.2 (([(⟨#[65]⟩ : ByteArray), (⟨#[97, 32, 98]⟩ : ByteArray), (⟨#[120, 10]⟩ : ByteArray), (⟨#[]⟩ : ByteArray)] : List ByteArray))).bind fun bt411 => (if 0 ≤ bt398.1 then (if bt398.1 < (t395.length : Int) then (some ((t395.set (bt398.1 : Int).toNat (⟨(rd_TRow t395 bt398.1).f0, bt411.1⟩ : SRow)), bt411.2)) else (none)) else (none))) else (if bt400.1 = 2 then (if 0 ≤ (t395.length : Int) then (some ((t395.take (0 : Int).toNat), bt400.2)) else (none)) else (some (t395, bt400.2))))))))) = some (r1, r2) := h
  clear h
  replace H := Option.bind_eq_some_iff.mp H
  obtain ⟨⟨t388, t389, t390, t391, t394⟩, A20, H⟩ := H
  replace H : ((spec_l2Open.f k t388 t389 t390 t391).bind fun t395 => ((spec_l15Rd_pick.f k s0_0 t394 (t395.length : Int)).bind fun bt398 => ((spec_l15Rd_pick.f k s0_0 bt398.2 16).bind fun bt400 => (if bt400.1 = 0 then ((spec_l15Rd_num.f k s0_0 bt400.2 (([(-1), 401, 3] : List Int))).bind fun bt405 => (if 0 ≤ bt398.1 then (if bt398.1 < (t395.length : Int) then (some ((t395.set (bt398.1 : Int).toNat (⟨bt405.1, (rd_TRow t395 bt398.1).f1⟩ : SRow)), bt405.2)) else (none)) else (none))) else (if bt400.1 = 1 then ((spec_l15Rd_of.f k s0_0 bt400.2 (([(⟨#[65]⟩ : ByteArray), (⟨#[97, 32, 98]⟩ : ByteArray), (⟨#[120, 10]⟩ : ByteArray), (⟨#[]⟩ : ByteArray)] : List ByteArray))).bind fun bt411 => (if 0 ≤ bt398.1 then (if bt398.1 < (t395.length : Int) then (some ((t395.set (bt398.1 : Int).toNat (⟨(rd_TRow t395 bt398.1).f0, bt411.1⟩ : SRow)), bt411.2)) else (none)) else (none))) else (if bt400.1 = 2 then (if 0 ≤ (t395.length : Int) then (some ((t395.take (0 : Int).toNat), bt400.2)) else (none)) else (some (t395, bt400.2)))))))) = some (r1, r2) := H
  have A2 := Aside0.mk A20
  clear A20
  replace H := Option.bind_eq_some_iff.mp H
  obtain ⟨t395, A30, H⟩ := H
  replace H : ((spec_l15Rd_pick.f k s0_0 t394 (t395.length : Int)).bind fun bt398 => ((spec_l15Rd_pick.f k s0_0 bt398.2 16).bind fun bt400 => (if bt400.1 = 0 then ((spec_l15Rd_num.f k s0_0 bt400.2 (([(-1), 401, 3] : List Int))).bind fun bt405 => (if 0 ≤ bt398.1 then (if bt398.1 < (t395.length : Int) then (some ((t395.set (bt398.1 : Int).toNat (⟨bt405.1, (rd_TRow t395 bt398.1).f1⟩ : SRow)), bt405.2)) else (none)) else (none))) else (if bt400.1 = 1 then ((spec_l15Rd_of.f k s0_0 bt400.2 (([(⟨#[65]⟩ : ByteArray), (⟨#[97, 32, 98]⟩ : ByteArray), (⟨#[120, 10]⟩ : ByteArray), (⟨#[]⟩ : ByteArray)] : List ByteArray))).bind fun bt411 => (if 0 ≤ bt398.1 then (if bt398.1 < (t395.length : Int) then (some ((t395.set (bt398.1 : Int).toNat (⟨(rd_TRow t395 bt398.1).f0, bt411.1⟩ : SRow)), bt411.2)) else (none)) else (none))) else (if bt400.1 = 2 then (if 0 ≤ (t395.length : Int) then (some ((t395.take (0 : Int).toNat), bt400.2)) else (none)) else (some (t395, bt400.2))))))) = some (r1, r2) := H
  have A3 := Aside0.mk A30
  clear A30
  replace H := Option.bind_eq_some_iff.mp H
  obtain ⟨⟨t398, t399⟩, A40, H⟩ := H
  replace H : ((spec_l15Rd_pick.f k s0_0 t399 16).bind fun bt400 => (if bt400.1 = 0 then ((spec_l15Rd_num.f k s0_0 bt400.2 (([(-1), 401, 3] : List Int))).bind fun bt405 => (if 0 ≤ t398 then (if t398 < (t395.length : Int) then (some ((t395.set (t398 : Int).toNat (⟨bt405.1, (rd_TRow t395 t398).f1⟩ : SRow)), bt405.2)) else (none)) else (none))) else (if bt400.1 = 1 then ((spec_l15Rd_of.f k s0_0 bt400.2 (([(⟨#[65]⟩ : ByteArray), (⟨#[97, 32, 98]⟩ : ByteArray), (⟨#[120, 10]⟩ : ByteArray), (⟨#[]⟩ : ByteArray)] : List ByteArray))).bind fun bt411 => (if 0 ≤ t398 then (if t398 < (t395.length : Int) then (some ((t395.set (t398 : Int).toNat (⟨(rd_TRow t395 t398).f0, bt411.1⟩ : SRow)), bt411.2)) else (none)) else (none))) else (if bt400.1 = 2 then (if 0 ≤ (t395.length : Int) then (some ((t395.take (0 : Int).toNat), bt400.2)) else (none)) else (some (t395, bt400.2)))))) = some (r1, r2) := H
  have A4 := Aside0.mk A40
  clear A40
  replace H := Option.bind_eq_some_iff.mp H
  obtain ⟨⟨t400, t401⟩, A50, H⟩ := H
  replace H : (if t400 = 0 then ((spec_l15Rd_num.f k s0_0 t401 (([(-1), 401, 3] : List Int))).bind fun bt405 => (if 0 ≤ t398 then (if t398 < (t395.length : Int) then (some ((t395.set (t398 : Int).toNat (⟨bt405.1, (rd_TRow t395 t398).f1⟩ : SRow)), bt405.2)) else (none)) else (none))) else (if t400 = 1 then ((spec_l15Rd_of.f k s0_0 t401 (([(⟨#[65]⟩ : ByteArray), (⟨#[97, 32, 98]⟩ : ByteArray), (⟨#[120, 10]⟩ : ByteArray), (⟨#[]⟩ : ByteArray)] : List ByteArray))).bind fun bt411 => (if 0 ≤ t398 then (if t398 < (t395.length : Int) then (some ((t395.set (t398 : Int).toNat (⟨(rd_TRow t395 t398).f0, bt411.1⟩ : SRow)), bt411.2)) else (none)) else (none))) else (if t400 = 2 then (if 0 ≤ (t395.length : Int) then (some ((t395.take (0 : Int).toNat), t401)) else (none)) else (some (t395, t401))))) = some (r1, r2) := H
  have A5 := Aside0.mk A50
  clear A50
  by_cases c6 : t400 = 0
  · rw [if_pos c6] at H
    have c6b0 : (t400 == 0) = true := beq_iff_eq.mpr c6
    have c6b1 : (t400 != 0) = false := bne_eq_false_iff_eq.mpr c6
    clear c6
    obtain ⟨y402, hy402⟩ : ∃ y_ : List Int, y_ = (([(-1), 401, 3] : List Int)) := ⟨_, rfl⟩
    replace H : ((spec_l15Rd_num.f k s0_0 t401 y402).bind fun bt405 => (if 0 ≤ t398 then (if t398 < (t395.length : Int) then (some ((t395.set (t398 : Int).toNat (⟨bt405.1, (rd_TRow t395 t398).f1⟩ : SRow)), bt405.2)) else (none)) else (none))) = some (r1, r2) := by first | (rw [hy402]; with_reducible exact H) | (have H2_ := (Option.bind_some _ _).symm.trans H; rw [hy402]; with_reducible exact H2_) | (have H2_ := (Option.bind_some _ _).symm.trans H; with_reducible exact H2_) | with_reducible exact H | (rw [hy402]; exact H) | exact H
    have Ny402 := Aside0.mk hy402
    clear hy402
    replace H := Option.bind_eq_some_iff.mp H
    obtain ⟨⟨t405, t406⟩, A70, H⟩ := H
    replace H : (if 0 ≤ t398 then (if t398 < (t395.length : Int) then (some ((t395.set (t398 : Int).toNat (⟨t405, (rd_TRow t395 t398).f1⟩ : SRow)), t406)) else (none)) else (none)) = some (r1, r2) := H
    have A7 := Aside0.mk A70
    clear A70
    by_cases c8 : 0 ≤ t398
    · rw [if_pos c8] at H
      have c8b0 : decide (0 ≤ t398) = true := decide_eq_true c8
      clear c8
      by_cases c9 : t398 < (t395.length : Int)
      · rw [if_pos c9] at H
        have c9b0 : decide (t398 < (t395.length : Int)) = true := decide_eq_true c9
        clear c9
        obtain ⟨y407, hy407⟩ : ∃ y_ : List (SRow), y_ = (t395.set (t398 : Int).toNat (⟨t405, (rd_TRow t395 t398).f1⟩ : SRow)) := ⟨_, rfl⟩
        replace H : (some (y407, t406)) = some (r1, r2) := by first | (rw [hy407]; with_reducible exact H) | (have H2_ := (Option.bind_some _ _).symm.trans H; rw [hy407]; with_reducible exact H2_) | (have H2_ := (Option.bind_some _ _).symm.trans H; with_reducible exact H2_) | with_reducible exact H | (rw [hy407]; exact H) | exact H
        have Ny407 := Aside0.mk hy407
        clear hy407
        simp only [Option.some.injEq, Prod.mk.injEq] at H
        obtain ⟨rfl, rfl⟩ := H
        go_enter Try.func41, Try.ntmps41
        go_wp2_with (first | ((with_reducible refine gate_callee (f := 65) rfl ?_); refine goesL_ (some 6) rfl rfl Try.func65 (by kernel_rfl) rfl #[.pointer (some ⟨g, 0, none⟩)] rfl (by (try simp only [List.map_toArray, List.map_cons, List.map_nil]); first | done | rfl | (simp only [List.length_drop, List.length_take]; rfl)) ?_; (with_reducible refine (spec_l1Draw.calls k g s0_0 s0_1 t388 t389 t390 t391 t394 w0 _ ?side1 ?side2 A2.out).mono ?_); (case side1 => repeat (first | (with_reducible first | exact HI0.out | apply IsS67.alloc | apply IsS67.drewN | apply IsS67.drew | apply IsS67.set_1) | exact HI0.out)); (case side2 => repeat (first | exact gB HB | refine below_set ?_ (IsS67.ge HI0.out))); rintro e w11 ⟨v392, rfl, ho0, hi, hb, hk⟩; refine ⟨_, rfl, ?_⟩; have n0_ := Aside0.mk (Kd.N_lower (Kd.N_mono (ok' := fun k_ => k_ ≠ g) ho0 (fun k_ hk_ => (IsS67.fresh (by repeat (first | (with_reducible first | exact HI0.out | apply IsS67.alloc | apply IsS67.drewN | apply IsS67.drew | apply IsS67.set_1) | exact HI0.out)) k_ hk_))) (keep_size (w := w) (g := g) (row := none) (by repeat (first | exact gW HK | apply KeepBut.set_)))); have n1_ := Aside0.mk (KeepBut.trans (by repeat (first | exact gW HK | apply KeepBut.set_)) hk (.inl rfl)); have n2_ := Aside0.mk (hb); have n3_ := Aside0.mk (hi); clear HK; clear HB; clear HI0; have HO393 := n0_; have HK := n1_; have HB := n2_; have HI0 := n3_; clear n0_ n1_ n2_ n3_; (try clear hb); (try clear hb2); (try clear hk); (try clear hi); (try clear ho0); obtain ⟨Ao12, co12, eo12⟩ := Kd.N_slice HO393.out; subst eo12) | ((with_reducible refine gate_callee (f := 53) rfl ?_); refine goesL_ (some 7) rfl rfl Try.func53 (by kernel_rfl) rfl #[.agg #[.int .i64 t388, .int .i64 t389, .string t390, .slice Ao12 t391.length co12]] rfl (by (try simp only [List.map_toArray, List.map_cons, List.map_nil]); first | done | rfl | (simp only [List.length_drop, List.length_take]; rfl)) ?_; (with_reducible refine (spec_l2Open.calls k t388 t389 t390 _ _ t391 t395 _ ?side1 ?side2 A3.out).mono ?_); (case side1 => exact gC ((Kd.N_reads' HO393.out).2.2)); (case side2 => exact (Kd.N_reads' HO393.out).2.1); rintro e w13 ⟨v396, rfl, ho0, hb⟩; refine ⟨_, rfl, ?_⟩; have n0_ := Aside0.mk (Kd.N_elder' (gN HO393) (Kd.R_base ho0) hb); have n1_ := Aside0.mk (Kd.R_lower ho0 (keep_size (w := w) (g := g) (row := none) (by repeat (first | exact gW HK | apply KeepBut.set_)))); have n2_ := Aside0.mk (IsS67.below (by repeat (first | (with_reducible first | exact HI0.out | apply IsS67.alloc | apply IsS67.drewN | apply IsS67.drew | apply IsS67.set_1) | exact HI0.out)) hb); have n3_ := Aside0.mk (KeepBut.trans (by repeat (first | exact gW HK | apply KeepBut.set_)) (KeepBut.of_below hb g none) (.inl rfl)); have n4_ := Aside0.mk (below_step (by repeat (first | exact gB HB | refine below_set ?_ (IsS67.ge HI0.out))) hb); clear HO393; clear HI0; clear HK; clear HB; have HO393 := n0_; have HO397 := n1_; have HI0 := n2_; have HK := n3_; have HB := n4_; clear n0_ n1_ n2_ n3_ n4_; (try clear hb); (try clear hb2); (try clear hk); (try clear hi); (try clear ho0); obtain ⟨Ao14, co14, eo14⟩ := Kd.R_slice HO397.out; subst eo14) | ((with_reducible refine gate_callee (f := 54) rfl ?_); refine goesL_ (some 11) rfl rfl Try.func54 (by kernel_rfl) rfl #[.pointer (some ⟨g, 0, none⟩), .int .i64 (t395.length : Int)] rfl (by (try simp only [List.map_toArray, List.map_cons, List.map_nil]); first | done | rfl | (simp only [List.length_drop, List.length_take]; rfl)) ?_; (with_reducible refine (spec_l15Rd_pick.calls k g s0_0 t394 (t395.length : Int) t398 t399 w0 _ ?side1 ?side2 A4.out).mono ?_); (case side1 => repeat (first | (with_reducible first | exact HI0.out | apply IsS67.alloc | apply IsS67.drewN | apply IsS67.drew | apply IsS67.set_1) | exact HI0.out)); (case side2 => repeat (first | exact gB HB | refine below_set ?_ (IsS67.ge HI0.out))); rintro e w15 ⟨rfl, hi, hb, hk⟩; refine ⟨_, rfl, ?_⟩; have n0_ := Aside0.mk (Kd.N_mono (Kd.N_keep (Kd.N_mono (ok := fun k_ => (k_ ≠ g ∧ some k_ ≠ (.slice Ao14 t395.length co14 : Value).ownBlock)) (gN HO393) (fun k_ hk_ => (⟨hk_, hk_.1⟩ : _ ∧ k_ ≠ g))) hk (fun _ h => h.2)) (fun _ h => h.1)); have n1_ := Aside0.mk (Kd.R_mono (Kd.R_keep (IsS67.apart (show IsS67 w0 _ g s0_0 t394 from by repeat (first | (with_reducible first | exact HI0.out | apply IsS67.alloc | apply IsS67.drewN | apply IsS67.drew | apply IsS67.set_1) | exact HI0.out)) (gR HO397) (by decide)) hk (fun _ h => h.2)) (fun _ h => h.1)); have n2_ := Aside0.mk (KeepBut.trans (by repeat (first | exact gW HK | apply KeepBut.set_)) hk (.inl rfl)); have n3_ := Aside0.mk (hb); have n4_ := Aside0.mk (hi); clear HO393; clear HO397; clear HK; clear HB; clear HI0; have HO393 := n0_; have HO397 := n1_; have HK := n2_; have HB := n3_; have HI0 := n4_; clear n0_ n1_ n2_ n3_ n4_; (try clear hb); (try clear hb2); (try clear hk); (try clear hi)) | ((with_reducible refine gate_callee (f := 54) rfl ?_); refine goesL_ (some 13) rfl rfl Try.func54 (by kernel_rfl) rfl #[.pointer (some ⟨g, 0, none⟩), .int .i64 16] rfl (by (try simp only [List.map_toArray, List.map_cons, List.map_nil]); first | done | rfl | (simp only [List.length_drop, List.length_take]; rfl)) ?_; (with_reducible refine (spec_l15Rd_pick.calls k g s0_0 t399 16 t400 t401 w0 _ ?side1 ?side2 A5.out).mono ?_); (case side1 => repeat (first | (with_reducible first | exact HI0.out | apply IsS67.alloc | apply IsS67.drewN | apply IsS67.drew | apply IsS67.set_1) | exact HI0.out)); (case side2 => repeat (first | exact gB HB | refine below_set ?_ (IsS67.ge HI0.out))); rintro e w16 ⟨rfl, hi, hb, hk⟩; refine ⟨_, rfl, ?_⟩; have n0_ := Aside0.mk (Kd.N_mono (Kd.N_keep (Kd.N_mono (ok := fun k_ => (k_ ≠ g ∧ some k_ ≠ (.slice Ao14 t395.length co14 : Value).ownBlock)) (gN HO393) (fun k_ hk_ => (⟨hk_, hk_.1⟩ : _ ∧ k_ ≠ g))) hk (fun _ h => h.2)) (fun _ h => h.1)); have n1_ := Aside0.mk (Kd.R_mono (Kd.R_keep (IsS67.apart (show IsS67 w0 _ g s0_0 t399 from by repeat (first | (with_reducible first | exact HI0.out | apply IsS67.alloc | apply IsS67.drewN | apply IsS67.drew | apply IsS67.set_1) | exact HI0.out)) (gR HO397) (by decide)) hk (fun _ h => h.2)) (fun _ h => h.1)); have n2_ := Aside0.mk (KeepBut.trans (by repeat (first | exact gW HK | apply KeepBut.set_)) hk (.inl rfl)); have n3_ := Aside0.mk (hb); have n4_ := Aside0.mk (hi); clear HO393; clear HO397; clear HK; clear HB; clear HI0; have HO393 := n0_; have HO397 := n1_; have HK := n2_; have HB := n3_; have HI0 := n4_; clear n0_ n1_ n2_ n3_ n4_; (try clear hb); (try clear hb2); (try clear hk); (try clear hi)) | ((with_reducible refine gate_dst (N := 19) rfl ?_); refine Kd.R_lit (Kd.int .i64) _ 3 ?hg (N := 19) ?hd (xs := ([(-1), 401, 3] : List Int)) (inner := [.int .i64 (-1), .int .i64 401, .int .i64 3]) (ok := fun _ => True) (okp := fun _ => True) ?hr ?hp (fun _ hk => hk) trivial (Below.refl _ _) (Nat.le_refl _) (by simp) ?_; (case hd => rfl); (case hg => rfl); (case hr => first | (go_simp; done) | (go_simp; rfl)); (case hp => exact (Reps.one (show Kd.M (Kd.int .i64) _ _ _ (-1) [.int .i64 (-1)] from rfl) (Reps.one (show Kd.M (Kd.int .i64) _ _ _ 401 [.int .i64 401] from rfl) (Reps.one (show Kd.M (Kd.int .i64) _ _ _ 3 [.int .i64 3] from rfl) (Reps.none _ _))))); intro v403 w17 ho18 hb hg_ hnew_; clear hg_ hnew_; (first | rw [← Ny402.out] at ho18 | (simp only [Int.reduceToNat] at ho18; rw [← Ny402.out] at ho18)); have n0_ := Aside0.mk (Kd.N_elder' (gN HO393) (Kd.R_base ho18) hb); have n1_ := Aside0.mk (Kd.R_below (gR HO397) hb); have n2_ := Aside0.mk (Kd.R_lower ho18 (keep_size (w := w) (g := g) (row := none) (by repeat (first | exact gW HK | apply KeepBut.set_)))); have n3_ := Aside0.mk (IsS67.below (by repeat (first | (with_reducible first | exact HI0.out | apply IsS67.alloc | apply IsS67.drewN | apply IsS67.drew | apply IsS67.set_1) | exact HI0.out)) hb); have n4_ := Aside0.mk (KeepBut.trans (by repeat (first | exact gW HK | apply KeepBut.set_)) (KeepBut.of_below hb g none) (.inl rfl)); have n5_ := Aside0.mk (below_step (by repeat (first | exact gB HB | refine below_set ?_ (IsS67.ge HI0.out))) hb); clear HO393; clear HO397; clear HI0; clear HK; clear HB; have HO393 := n0_; have HO397 := n1_; have HO404 := n2_; have HI0 := n3_; have HK := n4_; have HB := n5_; clear n0_ n1_ n2_ n3_ n4_ n5_; clear hb ho18; obtain ⟨Ao19, co19, eo19⟩ := Kd.R_slice HO404.out; subst eo19) | ((with_reducible refine gate_callee (f := 46) rfl ?_); refine goesL_ (some 20) rfl rfl Try.func46 (by kernel_rfl) rfl #[.pointer (some ⟨g, 0, none⟩), .slice Ao19 y402.length co19] rfl (by (try simp only [List.map_toArray, List.map_cons, List.map_nil]); first | done | rfl | (simp only [List.length_drop, List.length_take]; rfl)) ?_; (with_reducible refine (spec_l15Rd_num.calls k g s0_0 t401 _ _ y402 t405 t406 w0 _ ?side1 ?side2 ?side3 ?side4 ?side5 A7.out).mono ?_); (case side1 => repeat (first | (with_reducible first | exact HI0.out | apply IsS67.alloc | apply IsS67.drewN | apply IsS67.drew | apply IsS67.set_1) | exact HI0.out)); (case side2 => repeat (first | exact gB HB | refine below_set ?_ (IsS67.ge HI0.out))); (case side3 => exact gC ((Kd.R_reads' HO404.out).2.2)); (case side4 => exact (Kd.R_reads' HO404.out).2.1); (case side5 => exact far_slice (IsS67.own_ne HI0.out HO404.out (by decide))); rintro e w20 ⟨rfl, hi, hb, hk⟩; refine ⟨_, rfl, ?_⟩; have n0_ := Aside0.mk (Kd.N_mono (Kd.N_keep (Kd.N_mono (ok := fun k_ => ((k_ ≠ g ∧ some k_ ≠ (.slice Ao14 t395.length co14 : Value).ownBlock) ∧ some k_ ≠ (.slice Ao19 y402.length co19 : Value).ownBlock)) (gN HO393) (fun k_ hk_ => (⟨hk_, hk_.1.1⟩ : _ ∧ k_ ≠ g))) hk (fun _ h => h.2)) (fun _ h => h.1)); have n1_ := Aside0.mk (Kd.R_mono (Kd.R_keep (IsS67.apart (show IsS67 w0 _ g s0_0 t401 from by repeat (first | (with_reducible first | exact HI0.out | apply IsS67.alloc | apply IsS67.drewN | apply IsS67.drew | apply IsS67.set_1) | exact HI0.out)) (gR HO397) (by decide)) hk (fun _ h => h.2)) (fun _ h => h.1)); have n2_ := Aside0.mk (Kd.R_mono (Kd.R_keep (IsS67.apart (show IsS67 w0 _ g s0_0 t401 from by repeat (first | (with_reducible first | exact HI0.out | apply IsS67.alloc | apply IsS67.drewN | apply IsS67.drew | apply IsS67.set_1) | exact HI0.out)) (gR HO404) (by decide)) hk (fun _ h => h.2)) (fun _ h => h.1)); have n3_ := Aside0.mk (KeepBut.trans (by repeat (first | exact gW HK | apply KeepBut.set_)) hk (.inl rfl)); have n4_ := Aside0.mk (hb); have n5_ := Aside0.mk (hi); clear HO393; clear HO397; clear HO404; clear HK; clear HB; clear HI0; have HO393 := n0_; have HO397 := n1_; have HO404 := n2_; have HK := n3_; have HB := n4_; have HI0 := n5_; clear n0_ n1_ n2_ n3_ n4_ n5_; (try clear hb); (try clear hb2); (try clear hk); (try clear hi); have p10 : 0 ≤ (t398 : Int) := of_decide_eq_true (by first | (with_reducible assumption) | assumption); have q10 : (t398 : Int) < ((t395.length : Int) : Int) := of_decide_eq_true (by first | (with_reducible assumption) | assumption); obtain ⟨go10, co10, eo10, gb10, gl10, cl10, HG10⟩ := Kd.R_form HO397.out (by omega); (first | cases eo10 | (injection eo10 with ea_ en_ ec_; (first | subst ea_ | (injection ea_ with ea_; subst ea_)); subst ec_; clear en_)); have GB10 := Aside0.mk gb10; have GG10 := Aside0.mk HG10; clear gb10 gl10 HG10; obtain ⟨ce10, hcl10, hM10, hcc10, hfr10⟩ := Kd.R_elem HO397.out zRow (t398 : Int) p10 q10; obtain rfl := k30_openM hM10; have hx10_0 : w20.cell? ⟨go10, (t398 : Int).toNat * 2, none⟩ = some (.int .i64 ((rd_TRow t395 t398).f0)) := hcc10 0 _ rfl; have hx10_1 : w20.cell? ⟨go10, (t398 : Int).toNat * 2 + 1, none⟩ = some (.string ((rd_TRow t395 t398).f1)) := hcc10 1 _ rfl; have hf10_0 : w20.frozen? ⟨go10, (t398 : Int).toNat * 2, none⟩ = false := hfr10 0; have hf10_1 : w20.frozen? ⟨go10, (t398 : Int).toNat * 2 + 1, none⟩ = false := hfr10 1; clear hcl10 hcc10 hfr10 hM10; replace p10 := eq_true p10; replace q10 := eq_true q10; have HX21 := Aside0.mk (show Kd.R k30 30 w20 w.heap.size (fun _ => True) (.slice (some ⟨go10, 0, none⟩) t395.length co14) t395 from (gR HO397)); obtain ⟨ce21, hcl21, hM21, hcc21, hfr21⟩ := Kd.R_elem HX21.out zRow (t398 : Int) (of_decide_eq_true (by first | (with_reducible assumption) | assumption)) (by have h_ : (t398 : Int) < ((t395.length : Int) : Int) := of_decide_eq_true (by first | (with_reducible assumption) | assumption); first | exact h_ | (have e_ := (Kd.R_reads' HO397.out).1; omega) | simpa using h_); obtain rfl := k30_openM hM21; have HP21 := Kd.R_seg HX21.out (t398 : Int) (of_decide_eq_true (by first | (with_reducible assumption) | assumption)) (by have h_ : (t398 : Int) < ((t395.length : Int) : Int) := of_decide_eq_true (by first | (with_reducible assumption) | assumption); first | exact h_ | (have e_ := (Kd.R_reads' HO397.out).1; omega) | simpa using h_) (seg := [.int .i64 t405]) (j := 0) hcl21 hcc21 (show 1 ≤ 2 from by decide) (x' := (⟨t405, (rd_TRow t395 t398).f1⟩ : SRow)) (k30_mkM _ _ _ (⟨t405, (rd_TRow t395 t398).f1⟩ : SRow) ) (fun _ hk => hk); have hx21_0 := hcc21 0 _ rfl; (try simp only [show (k30).sz = 2 from rfl, Nat.mul_one, Nat.add_zero] at hx21_0); have hf21_0 := hfr21 0; (try simp only [show (k30).sz = 2 from rfl, Nat.mul_one, Nat.add_zero] at hf21_0); clear hcl21 hcc21 hfr21 hM21) | ((with_reducible refine gate_store (t := 3) (p := 22) rfl ?_); refine store_event (t := 3) (p := 22) (v := ?vo_w22) (w1 := (w20.setCell ⟨go10, (t398 : Int).toNat * 2, none⟩ (.int .i64 t405))) ?hg ?ho ?hn ?hr ?_; (case ho => rfl); (case hg => rfl); (case hn => rfl); (case hr => first | (go_simp; done) | (go_simp; rfl)); intro w22 hw; have hg : w20.grownBy w22 (some go10) := (by rw [hw]; exact HP21.2); have hp_ : Kd.R k30 30 w22 w.heap.size (fun _ => True) (.slice (some ⟨go10, 0, none⟩) t395.length co14) y407 := (by rw [hw, Ny407.out]; exact HP21.1); clear HP21; have n0_ := Aside0.mk (IsS67.grown (by repeat (first | (with_reducible first | exact HI0.out | apply IsS67.alloc | apply IsS67.drewN | apply IsS67.drew | apply IsS67.set_1) | exact HI0.out)) hg (IsS67.own_ne HI0.out HO397.out (by decide))); have n1_ := Aside0.mk (Kd.N_afterv (v := (.slice (some ⟨go10, 0, none⟩) t395.length co14)) (v1 := (.slice (some ⟨go10, 0, none⟩) t395.length co14)) (ok := (fun k_ => some k_ ≠ (.slice Ao19 y402.length co19 : Value).ownBlock ∧ k_ ≠ g)) (by (with_reducible repeat (first | apply Kd.N_alloc | apply Kd.N_drewN | apply Kd.N_drew)); exact Kd.N_mono HO393.out (fun _ hk => ⟨⟨hk.2, hk.1.1⟩, hk.1.2⟩)) hg (.inl rfl)); have n2_ := Aside0.mk (hp_); have n3_ := Aside0.mk (Kd.R_over' (v := (.slice (some ⟨go10, 0, none⟩) t395.length co14)) (gR HO404) (Kd.R_typed HO397.out) (by decide) hg); have n4_ := Aside0.mk ((by rw [hw]; exact below_set (HB.out) (Nat.le_trans HL.out GB10.out) : Below w0.heap.size w0 w22)); have n5_ := Aside0.mk (KeepBut.trans (by repeat (first | exact gW HK | apply KeepBut.set_)) (KeepBut.of_grown hg g) (Kd.R_base2 HO397.out)); clear HI0; clear HO393; clear HO397; clear HO404; clear HB; clear HK; have HI0 := n0_; have HO393 := n1_; have HO397 := n2_; have HO404 := n3_; have HB := n4_; have HK := n5_; clear n0_ n1_ n2_ n3_ n4_ n5_; clear hg hw hp_))
        go_ret
        exact ⟨_, by first | rfl | (simp [errW_none, errW_some] <;> rfl) | (simp [*, errW_none, errW_some] <;> rfl), gR HO397, by repeat (first | (with_reducible first | exact HI0.out | apply IsS67.alloc | apply IsS67.drewN | apply IsS67.drew | apply IsS67.set_1) | exact HI0.out), by repeat (first | exact gB HB | refine below_set ?_ (IsS67.ge HI0.out)), by repeat (first | exact gW HK | apply KeepBut.set_)⟩
      · rw [if_neg c9] at H
        exact absurd H (by simp)
    · rw [if_neg c8] at H
      exact absurd H (by simp)
  · rw [if_neg c6] at H
    have c6b0 : (t400 == 0) = false := beq_eq_false_iff_ne.mpr c6
    have c6b1 : (t400 != 0) = true := bne_iff_ne.mpr c6
    by_cases c23 : t400 = 1
    · rw [if_pos c23] at H
      have c23b0 : (t400 == 1) = true := beq_iff_eq.mpr c23
      have c23b1 : (t400 != 1) = false := bne_eq_false_iff_eq.mpr c23
      clear c23
      obtain ⟨y408, hy408⟩ : ∃ y_ : List ByteArray, y_ = (([(⟨#[65]⟩ : ByteArray), (⟨#[97, 32, 98]⟩ : ByteArray), (⟨#[120, 10]⟩ : ByteArray), (⟨#[]⟩ : ByteArray)] : List ByteArray)) := ⟨_, rfl⟩
      replace H : ((spec_l15Rd_of.f k s0_0 t401 y408).bind fun bt411 => (if 0 ≤ t398 then (if t398 < (t395.length : Int) then (some ((t395.set (t398 : Int).toNat (⟨(rd_TRow t395 t398).f0, bt411.1⟩ : SRow)), bt411.2)) else (none)) else (none))) = some (r1, r2) := by first | (rw [hy408]; with_reducible exact H) | (have H2_ := (Option.bind_some _ _).symm.trans H; rw [hy408]; with_reducible exact H2_) | (have H2_ := (Option.bind_some _ _).symm.trans H; with_reducible exact H2_) | with_reducible exact H | (rw [hy408]; exact H) | exact H
      have Ny408 := Aside0.mk hy408
      clear hy408
      replace H := Option.bind_eq_some_iff.mp H
      obtain ⟨⟨t411, t412⟩, A240, H⟩ := H
      replace H : (if 0 ≤ t398 then (if t398 < (t395.length : Int) then (some ((t395.set (t398 : Int).toNat (⟨(rd_TRow t395 t398).f0, t411⟩ : SRow)), t412)) else (none)) else (none)) = some (r1, r2) := H
      have A24 := Aside0.mk A240
      clear A240
      by_cases c25 : 0 ≤ t398
      · rw [if_pos c25] at H
        have c25b0 : decide (0 ≤ t398) = true := decide_eq_true c25
        clear c25
        by_cases c26 : t398 < (t395.length : Int)
        · rw [if_pos c26] at H
          have c26b0 : decide (t398 < (t395.length : Int)) = true := decide_eq_true c26
          clear c26
          obtain ⟨y413, hy413⟩ : ∃ y_ : List (SRow), y_ = (t395.set (t398 : Int).toNat (⟨(rd_TRow t395 t398).f0, t411⟩ : SRow)) := ⟨_, rfl⟩
          replace H : (some (y413, t412)) = some (r1, r2) := by first | (rw [hy413]; with_reducible exact H) | (have H2_ := (Option.bind_some _ _).symm.trans H; rw [hy413]; with_reducible exact H2_) | (have H2_ := (Option.bind_some _ _).symm.trans H; with_reducible exact H2_) | with_reducible exact H | (rw [hy413]; exact H) | exact H
          have Ny413 := Aside0.mk hy413
          clear hy413
          simp only [Option.some.injEq, Prod.mk.injEq] at H
          obtain ⟨rfl, rfl⟩ := H
          go_enter Try.func41, Try.ntmps41
          go_wp2_with (first | ((with_reducible refine gate_callee (f := 65) rfl ?_); refine goesL_ (some 6) rfl rfl Try.func65 (by kernel_rfl) rfl #[.pointer (some ⟨g, 0, none⟩)] rfl (by (try simp only [List.map_toArray, List.map_cons, List.map_nil]); first | done | rfl | (simp only [List.length_drop, List.length_take]; rfl)) ?_; (with_reducible refine (spec_l1Draw.calls k g s0_0 s0_1 t388 t389 t390 t391 t394 w0 _ ?side1 ?side2 A2.out).mono ?_); (case side1 => repeat (first | (with_reducible first | exact HI0.out | apply IsS67.alloc | apply IsS67.drewN | apply IsS67.drew | apply IsS67.set_1) | exact HI0.out)); (case side2 => repeat (first | exact gB HB | refine below_set ?_ (IsS67.ge HI0.out))); rintro e w28 ⟨v392, rfl, ho0, hi, hb, hk⟩; refine ⟨_, rfl, ?_⟩; have n0_ := Aside0.mk (Kd.N_lower (Kd.N_mono (ok' := fun k_ => k_ ≠ g) ho0 (fun k_ hk_ => (IsS67.fresh (by repeat (first | (with_reducible first | exact HI0.out | apply IsS67.alloc | apply IsS67.drewN | apply IsS67.drew | apply IsS67.set_1) | exact HI0.out)) k_ hk_))) (keep_size (w := w) (g := g) (row := none) (by repeat (first | exact gW HK | apply KeepBut.set_)))); have n1_ := Aside0.mk (KeepBut.trans (by repeat (first | exact gW HK | apply KeepBut.set_)) hk (.inl rfl)); have n2_ := Aside0.mk (hb); have n3_ := Aside0.mk (hi); clear HK; clear HB; clear HI0; have HO393 := n0_; have HK := n1_; have HB := n2_; have HI0 := n3_; clear n0_ n1_ n2_ n3_; (try clear hb); (try clear hb2); (try clear hk); (try clear hi); (try clear ho0); obtain ⟨Ao29, co29, eo29⟩ := Kd.N_slice HO393.out; subst eo29) | ((with_reducible refine gate_callee (f := 53) rfl ?_); refine goesL_ (some 7) rfl rfl Try.func53 (by kernel_rfl) rfl #[.agg #[.int .i64 t388, .int .i64 t389, .string t390, .slice Ao29 t391.length co29]] rfl (by (try simp only [List.map_toArray, List.map_cons, List.map_nil]); first | done | rfl | (simp only [List.length_drop, List.length_take]; rfl)) ?_; (with_reducible refine (spec_l2Open.calls k t388 t389 t390 _ _ t391 t395 _ ?side1 ?side2 A3.out).mono ?_); (case side1 => exact gC ((Kd.N_reads' HO393.out).2.2)); (case side2 => exact (Kd.N_reads' HO393.out).2.1); rintro e w30 ⟨v396, rfl, ho0, hb⟩; refine ⟨_, rfl, ?_⟩; have n0_ := Aside0.mk (Kd.N_elder' (gN HO393) (Kd.R_base ho0) hb); have n1_ := Aside0.mk (Kd.R_lower ho0 (keep_size (w := w) (g := g) (row := none) (by repeat (first | exact gW HK | apply KeepBut.set_)))); have n2_ := Aside0.mk (IsS67.below (by repeat (first | (with_reducible first | exact HI0.out | apply IsS67.alloc | apply IsS67.drewN | apply IsS67.drew | apply IsS67.set_1) | exact HI0.out)) hb); have n3_ := Aside0.mk (KeepBut.trans (by repeat (first | exact gW HK | apply KeepBut.set_)) (KeepBut.of_below hb g none) (.inl rfl)); have n4_ := Aside0.mk (below_step (by repeat (first | exact gB HB | refine below_set ?_ (IsS67.ge HI0.out))) hb); clear HO393; clear HI0; clear HK; clear HB; have HO393 := n0_; have HO397 := n1_; have HI0 := n2_; have HK := n3_; have HB := n4_; clear n0_ n1_ n2_ n3_ n4_; (try clear hb); (try clear hb2); (try clear hk); (try clear hi); (try clear ho0); obtain ⟨Ao31, co31, eo31⟩ := Kd.R_slice HO397.out; subst eo31) | ((with_reducible refine gate_callee (f := 54) rfl ?_); refine goesL_ (some 11) rfl rfl Try.func54 (by kernel_rfl) rfl #[.pointer (some ⟨g, 0, none⟩), .int .i64 (t395.length : Int)] rfl (by (try simp only [List.map_toArray, List.map_cons, List.map_nil]); first | done | rfl | (simp only [List.length_drop, List.length_take]; rfl)) ?_; (with_reducible refine (spec_l15Rd_pick.calls k g s0_0 t394 (t395.length : Int) t398 t399 w0 _ ?side1 ?side2 A4.out).mono ?_); (case side1 => repeat (first | (with_reducible first | exact HI0.out | apply IsS67.alloc | apply IsS67.drewN | apply IsS67.drew | apply IsS67.set_1) | exact HI0.out)); (case side2 => repeat (first | exact gB HB | refine below_set ?_ (IsS67.ge HI0.out))); rintro e w32 ⟨rfl, hi, hb, hk⟩; refine ⟨_, rfl, ?_⟩; have n0_ := Aside0.mk (Kd.N_mono (Kd.N_keep (Kd.N_mono (ok := fun k_ => (k_ ≠ g ∧ some k_ ≠ (.slice Ao31 t395.length co31 : Value).ownBlock)) (gN HO393) (fun k_ hk_ => (⟨hk_, hk_.1⟩ : _ ∧ k_ ≠ g))) hk (fun _ h => h.2)) (fun _ h => h.1)); have n1_ := Aside0.mk (Kd.R_mono (Kd.R_keep (IsS67.apart (show IsS67 w0 _ g s0_0 t394 from by repeat (first | (with_reducible first | exact HI0.out | apply IsS67.alloc | apply IsS67.drewN | apply IsS67.drew | apply IsS67.set_1) | exact HI0.out)) (gR HO397) (by decide)) hk (fun _ h => h.2)) (fun _ h => h.1)); have n2_ := Aside0.mk (KeepBut.trans (by repeat (first | exact gW HK | apply KeepBut.set_)) hk (.inl rfl)); have n3_ := Aside0.mk (hb); have n4_ := Aside0.mk (hi); clear HO393; clear HO397; clear HK; clear HB; clear HI0; have HO393 := n0_; have HO397 := n1_; have HK := n2_; have HB := n3_; have HI0 := n4_; clear n0_ n1_ n2_ n3_ n4_; (try clear hb); (try clear hb2); (try clear hk); (try clear hi)) | ((with_reducible refine gate_callee (f := 54) rfl ?_); refine goesL_ (some 13) rfl rfl Try.func54 (by kernel_rfl) rfl #[.pointer (some ⟨g, 0, none⟩), .int .i64 16] rfl (by (try simp only [List.map_toArray, List.map_cons, List.map_nil]); first | done | rfl | (simp only [List.length_drop, List.length_take]; rfl)) ?_; (with_reducible refine (spec_l15Rd_pick.calls k g s0_0 t399 16 t400 t401 w0 _ ?side1 ?side2 A5.out).mono ?_); (case side1 => repeat (first | (with_reducible first | exact HI0.out | apply IsS67.alloc | apply IsS67.drewN | apply IsS67.drew | apply IsS67.set_1) | exact HI0.out)); (case side2 => repeat (first | exact gB HB | refine below_set ?_ (IsS67.ge HI0.out))); rintro e w33 ⟨rfl, hi, hb, hk⟩; refine ⟨_, rfl, ?_⟩; have n0_ := Aside0.mk (Kd.N_mono (Kd.N_keep (Kd.N_mono (ok := fun k_ => (k_ ≠ g ∧ some k_ ≠ (.slice Ao31 t395.length co31 : Value).ownBlock)) (gN HO393) (fun k_ hk_ => (⟨hk_, hk_.1⟩ : _ ∧ k_ ≠ g))) hk (fun _ h => h.2)) (fun _ h => h.1)); have n1_ := Aside0.mk (Kd.R_mono (Kd.R_keep (IsS67.apart (show IsS67 w0 _ g s0_0 t399 from by repeat (first | (with_reducible first | exact HI0.out | apply IsS67.alloc | apply IsS67.drewN | apply IsS67.drew | apply IsS67.set_1) | exact HI0.out)) (gR HO397) (by decide)) hk (fun _ h => h.2)) (fun _ h => h.1)); have n2_ := Aside0.mk (KeepBut.trans (by repeat (first | exact gW HK | apply KeepBut.set_)) hk (.inl rfl)); have n3_ := Aside0.mk (hb); have n4_ := Aside0.mk (hi); clear HO393; clear HO397; clear HK; clear HB; clear HI0; have HO393 := n0_; have HO397 := n1_; have HK := n2_; have HB := n3_; have HI0 := n4_; clear n0_ n1_ n2_ n3_ n4_; (try clear hb); (try clear hb2); (try clear hk); (try clear hi)) | ((with_reducible refine gate_dst (N := 28) rfl ?_); refine Kd.R_lit Kd.string _ 9 ?hg (N := 28) ?hd (xs := ([(⟨#[65]⟩ : ByteArray), (⟨#[97, 32, 98]⟩ : ByteArray), (⟨#[120, 10]⟩ : ByteArray), (⟨#[]⟩ : ByteArray)] : List ByteArray)) (inner := [.string (⟨#[65]⟩ : ByteArray), .string (⟨#[97, 32, 98]⟩ : ByteArray), .string (⟨#[120, 10]⟩ : ByteArray), .string (⟨#[]⟩ : ByteArray)]) (ok := fun _ => True) (okp := fun _ => True) ?hr ?hp (fun _ hk => hk) trivial (Below.refl _ _) (Nat.le_refl _) (by simp) ?_; (case hd => rfl); (case hg => rfl); (case hr => first | (go_simp; done) | (go_simp; rfl)); (case hp => exact (Reps.one (show Kd.M Kd.string _ _ _ (⟨#[65]⟩ : ByteArray) [.string (⟨#[65]⟩ : ByteArray)] from rfl) (Reps.one (show Kd.M Kd.string _ _ _ (⟨#[97, 32, 98]⟩ : ByteArray) [.string (⟨#[97, 32, 98]⟩ : ByteArray)] from rfl) (Reps.one (show Kd.M Kd.string _ _ _ (⟨#[120, 10]⟩ : ByteArray) [.string (⟨#[120, 10]⟩ : ByteArray)] from rfl) (Reps.one (show Kd.M Kd.string _ _ _ (⟨#[]⟩ : ByteArray) [.string (⟨#[]⟩ : ByteArray)] from rfl) (Reps.none _ _)))))); intro v409 w34 ho35 hb hg_ hnew_; clear hg_ hnew_; (first | rw [← Ny408.out] at ho35 | (simp only [Int.reduceToNat] at ho35; rw [← Ny408.out] at ho35)); have n0_ := Aside0.mk (Kd.N_elder' (gN HO393) (Kd.R_base ho35) hb); have n1_ := Aside0.mk (Kd.R_below (gR HO397) hb); have n2_ := Aside0.mk (Kd.R_lower ho35 (keep_size (w := w) (g := g) (row := none) (by repeat (first | exact gW HK | apply KeepBut.set_)))); have n3_ := Aside0.mk (IsS67.below (by repeat (first | (with_reducible first | exact HI0.out | apply IsS67.alloc | apply IsS67.drewN | apply IsS67.drew | apply IsS67.set_1) | exact HI0.out)) hb); have n4_ := Aside0.mk (KeepBut.trans (by repeat (first | exact gW HK | apply KeepBut.set_)) (KeepBut.of_below hb g none) (.inl rfl)); have n5_ := Aside0.mk (below_step (by repeat (first | exact gB HB | refine below_set ?_ (IsS67.ge HI0.out))) hb); clear HO393; clear HO397; clear HI0; clear HK; clear HB; have HO393 := n0_; have HO397 := n1_; have HO410 := n2_; have HI0 := n3_; have HK := n4_; have HB := n5_; clear n0_ n1_ n2_ n3_ n4_ n5_; clear hb ho35; obtain ⟨Ao36, co36, eo36⟩ := Kd.R_slice HO410.out; subst eo36) | ((with_reducible refine gate_callee (f := 66) rfl ?_); refine goesL_ (some 29) rfl rfl Try.func66 (by kernel_rfl) rfl #[.pointer (some ⟨g, 0, none⟩), .slice Ao36 y408.length co36] rfl (by (try simp only [List.map_toArray, List.map_cons, List.map_nil]); first | done | rfl | (simp only [List.length_drop, List.length_take]; rfl)) ?_; (with_reducible refine (spec_l15Rd_of.calls k g s0_0 t401 _ _ y408 t411 t412 w0 _ ?side1 ?side2 ?side3 ?side4 ?side5 A24.out).mono ?_); (case side1 => repeat (first | (with_reducible first | exact HI0.out | apply IsS67.alloc | apply IsS67.drewN | apply IsS67.drew | apply IsS67.set_1) | exact HI0.out)); (case side2 => repeat (first | exact gB HB | refine below_set ?_ (IsS67.ge HI0.out))); (case side3 => exact gC ((Kd.R_reads' HO410.out).2.2)); (case side4 => exact (Kd.R_reads' HO410.out).2.1); (case side5 => exact far_slice (IsS67.own_ne HI0.out HO410.out (by decide))); rintro e w37 ⟨rfl, hi, hb, hk⟩; refine ⟨_, rfl, ?_⟩; have n0_ := Aside0.mk (Kd.N_mono (Kd.N_keep (Kd.N_mono (ok := fun k_ => ((k_ ≠ g ∧ some k_ ≠ (.slice Ao31 t395.length co31 : Value).ownBlock) ∧ some k_ ≠ (.slice Ao36 y408.length co36 : Value).ownBlock)) (gN HO393) (fun k_ hk_ => (⟨hk_, hk_.1.1⟩ : _ ∧ k_ ≠ g))) hk (fun _ h => h.2)) (fun _ h => h.1)); have n1_ := Aside0.mk (Kd.R_mono (Kd.R_keep (IsS67.apart (show IsS67 w0 _ g s0_0 t401 from by repeat (first | (with_reducible first | exact HI0.out | apply IsS67.alloc | apply IsS67.drewN | apply IsS67.drew | apply IsS67.set_1) | exact HI0.out)) (gR HO397) (by decide)) hk (fun _ h => h.2)) (fun _ h => h.1)); have n2_ := Aside0.mk (Kd.R_mono (Kd.R_keep (IsS67.apart (show IsS67 w0 _ g s0_0 t401 from by repeat (first | (with_reducible first | exact HI0.out | apply IsS67.alloc | apply IsS67.drewN | apply IsS67.drew | apply IsS67.set_1) | exact HI0.out)) (gR HO410) (by decide)) hk (fun _ h => h.2)) (fun _ h => h.1)); have n3_ := Aside0.mk (KeepBut.trans (by repeat (first | exact gW HK | apply KeepBut.set_)) hk (.inl rfl)); have n4_ := Aside0.mk (hb); have n5_ := Aside0.mk (hi); clear HO393; clear HO397; clear HO410; clear HK; clear HB; clear HI0; have HO393 := n0_; have HO397 := n1_; have HO410 := n2_; have HK := n3_; have HB := n4_; have HI0 := n5_; clear n0_ n1_ n2_ n3_ n4_ n5_; (try clear hb); (try clear hb2); (try clear hk); (try clear hi); have p27 : 0 ≤ (t398 : Int) := of_decide_eq_true (by first | (with_reducible assumption) | assumption); have q27 : (t398 : Int) < ((t395.length : Int) : Int) := of_decide_eq_true (by first | (with_reducible assumption) | assumption); obtain ⟨go27, co27, eo27, gb27, gl27, cl27, HG27⟩ := Kd.R_form HO397.out (by omega); (first | cases eo27 | (injection eo27 with ea_ en_ ec_; (first | subst ea_ | (injection ea_ with ea_; subst ea_)); subst ec_; clear en_)); have GB27 := Aside0.mk gb27; have GG27 := Aside0.mk HG27; clear gb27 gl27 HG27; obtain ⟨ce27, hcl27, hM27, hcc27, hfr27⟩ := Kd.R_elem HO397.out zRow (t398 : Int) p27 q27; obtain rfl := k30_openM hM27; have hx27_0 : w37.cell? ⟨go27, (t398 : Int).toNat * 2, none⟩ = some (.int .i64 ((rd_TRow t395 t398).f0)) := hcc27 0 _ rfl; have hx27_1 : w37.cell? ⟨go27, (t398 : Int).toNat * 2 + 1, none⟩ = some (.string ((rd_TRow t395 t398).f1)) := hcc27 1 _ rfl; have hf27_0 : w37.frozen? ⟨go27, (t398 : Int).toNat * 2, none⟩ = false := hfr27 0; have hf27_1 : w37.frozen? ⟨go27, (t398 : Int).toNat * 2 + 1, none⟩ = false := hfr27 1; clear hcl27 hcc27 hfr27 hM27; replace p27 := eq_true p27; replace q27 := eq_true q27; have HX38 := Aside0.mk (show Kd.R k30 30 w37 w.heap.size (fun _ => True) (.slice (some ⟨go27, 0, none⟩) t395.length co31) t395 from (gR HO397)); obtain ⟨ce38, hcl38, hM38, hcc38, hfr38⟩ := Kd.R_elem HX38.out zRow (t398 : Int) (of_decide_eq_true (by first | (with_reducible assumption) | assumption)) (by have h_ : (t398 : Int) < ((t395.length : Int) : Int) := of_decide_eq_true (by first | (with_reducible assumption) | assumption); first | exact h_ | (have e_ := (Kd.R_reads' HO397.out).1; omega) | simpa using h_); obtain rfl := k30_openM hM38; have HP38 := Kd.R_seg HX38.out (t398 : Int) (of_decide_eq_true (by first | (with_reducible assumption) | assumption)) (by have h_ : (t398 : Int) < ((t395.length : Int) : Int) := of_decide_eq_true (by first | (with_reducible assumption) | assumption); first | exact h_ | (have e_ := (Kd.R_reads' HO397.out).1; omega) | simpa using h_) (seg := [.string t411]) (j := 1) hcl38 hcc38 (show 2 ≤ 2 from by decide) (x' := (⟨(rd_TRow t395 t398).f0, t411⟩ : SRow)) (k30_mkM _ _ _ (⟨(rd_TRow t395 t398).f0, t411⟩ : SRow) ) (fun _ hk => hk); have hx38_1 := hcc38 1 _ rfl; (try simp only [show (k30).sz = 2 from rfl, Nat.mul_one, Nat.add_zero] at hx38_1); have hf38_1 := hfr38 1; (try simp only [show (k30).sz = 2 from rfl, Nat.mul_one, Nat.add_zero] at hf38_1); clear hcl38 hcc38 hfr38 hM38) | ((with_reducible refine gate_store (t := 9) (p := 31) rfl ?_); refine store_event (t := 9) (p := 31) (v := ?vo_w39) (w1 := (w37.setCell ⟨go27, (t398 : Int).toNat * 2 + 1, none⟩ (.string t411))) ?hg ?ho ?hn ?hr ?_; (case ho => rfl); (case hg => rfl); (case hn => rfl); (case hr => first | (go_simp; done) | (go_simp; rfl)); intro w39 hw; have hg : w37.grownBy w39 (some go27) := (by rw [hw]; exact HP38.2); have hp_ : Kd.R k30 30 w39 w.heap.size (fun _ => True) (.slice (some ⟨go27, 0, none⟩) t395.length co31) y413 := (by rw [hw, Ny413.out]; exact HP38.1); clear HP38; have n0_ := Aside0.mk (IsS67.grown (by repeat (first | (with_reducible first | exact HI0.out | apply IsS67.alloc | apply IsS67.drewN | apply IsS67.drew | apply IsS67.set_1) | exact HI0.out)) hg (IsS67.own_ne HI0.out HO397.out (by decide))); have n1_ := Aside0.mk (Kd.N_afterv (v := (.slice (some ⟨go27, 0, none⟩) t395.length co31)) (v1 := (.slice (some ⟨go27, 0, none⟩) t395.length co31)) (ok := (fun k_ => some k_ ≠ (.slice Ao36 y408.length co36 : Value).ownBlock ∧ k_ ≠ g)) (by (with_reducible repeat (first | apply Kd.N_alloc | apply Kd.N_drewN | apply Kd.N_drew)); exact Kd.N_mono HO393.out (fun _ hk => ⟨⟨hk.2, hk.1.1⟩, hk.1.2⟩)) hg (.inl rfl)); have n2_ := Aside0.mk (hp_); have n3_ := Aside0.mk (Kd.R_over' (v := (.slice (some ⟨go27, 0, none⟩) t395.length co31)) (gR HO410) (Kd.R_typed HO397.out) (by decide) hg); have n4_ := Aside0.mk ((by rw [hw]; exact below_set (HB.out) (Nat.le_trans HL.out GB27.out) : Below w0.heap.size w0 w39)); have n5_ := Aside0.mk (KeepBut.trans (by repeat (first | exact gW HK | apply KeepBut.set_)) (KeepBut.of_grown hg g) (Kd.R_base2 HO397.out)); clear HI0; clear HO393; clear HO397; clear HO410; clear HB; clear HK; have HI0 := n0_; have HO393 := n1_; have HO397 := n2_; have HO410 := n3_; have HB := n4_; have HK := n5_; clear n0_ n1_ n2_ n3_ n4_ n5_; clear hg hw hp_))
          go_ret
          exact ⟨_, by first | rfl | (simp [errW_none, errW_some] <;> rfl) | (simp [*, errW_none, errW_some] <;> rfl), gR HO397, by repeat (first | (with_reducible first | exact HI0.out | apply IsS67.alloc | apply IsS67.drewN | apply IsS67.drew | apply IsS67.set_1) | exact HI0.out), by repeat (first | exact gB HB | refine below_set ?_ (IsS67.ge HI0.out)), by repeat (first | exact gW HK | apply KeepBut.set_)⟩
        · rw [if_neg c26] at H
          exact absurd H (by simp)
      · rw [if_neg c25] at H
        exact absurd H (by simp)
    · rw [if_neg c23] at H
      have c23b0 : (t400 == 1) = false := beq_eq_false_iff_ne.mpr c23
      have c23b1 : (t400 != 1) = true := bne_iff_ne.mpr c23
      by_cases c40 : t400 = 2
      · rw [if_pos c40] at H
        have c40b0 : (t400 == 2) = true := beq_iff_eq.mpr c40
        have c40b1 : (t400 != 2) = false := bne_eq_false_iff_eq.mpr c40
        clear c40
        by_cases c41 : 0 ≤ (t395.length : Int)
        · rw [if_pos c41] at H
          have c41b0 := eq_true c41
          have c41b1 : decide (0 ≤ (t395.length : Int)) = true := decide_eq_true c41
          clear c41
          obtain ⟨y414, hy414⟩ : ∃ y_ : List (SRow), y_ = (t395.take (0 : Int).toNat) := ⟨_, rfl⟩
          replace H : (some (y414, t401)) = some (r1, r2) := by first | (rw [hy414]; with_reducible exact H) | (have H2_ := (Option.bind_some _ _).symm.trans H; rw [hy414]; with_reducible exact H2_) | (have H2_ := (Option.bind_some _ _).symm.trans H; with_reducible exact H2_) | with_reducible exact H | (rw [hy414]; exact H) | exact H
          have Ny414 := Aside0.mk hy414
          clear hy414
          simp only [Option.some.injEq, Prod.mk.injEq] at H
          obtain ⟨rfl, rfl⟩ := H
          go_enter Try.func41, Try.ntmps41
          go_wp2_with (first | ((with_reducible refine gate_callee (f := 65) rfl ?_); refine goesL_ (some 6) rfl rfl Try.func65 (by kernel_rfl) rfl #[.pointer (some ⟨g, 0, none⟩)] rfl (by (try simp only [List.map_toArray, List.map_cons, List.map_nil]); first | done | rfl | (simp only [List.length_drop, List.length_take]; rfl)) ?_; (with_reducible refine (spec_l1Draw.calls k g s0_0 s0_1 t388 t389 t390 t391 t394 w0 _ ?side1 ?side2 A2.out).mono ?_); (case side1 => repeat (first | (with_reducible first | exact HI0.out | apply IsS67.alloc | apply IsS67.drewN | apply IsS67.drew | apply IsS67.set_1) | exact HI0.out)); (case side2 => repeat (first | exact gB HB | refine below_set ?_ (IsS67.ge HI0.out))); rintro e w42 ⟨v392, rfl, ho0, hi, hb, hk⟩; refine ⟨_, rfl, ?_⟩; have n0_ := Aside0.mk (Kd.N_lower (Kd.N_mono (ok' := fun k_ => k_ ≠ g) ho0 (fun k_ hk_ => (IsS67.fresh (by repeat (first | (with_reducible first | exact HI0.out | apply IsS67.alloc | apply IsS67.drewN | apply IsS67.drew | apply IsS67.set_1) | exact HI0.out)) k_ hk_))) (keep_size (w := w) (g := g) (row := none) (by repeat (first | exact gW HK | apply KeepBut.set_)))); have n1_ := Aside0.mk (KeepBut.trans (by repeat (first | exact gW HK | apply KeepBut.set_)) hk (.inl rfl)); have n2_ := Aside0.mk (hb); have n3_ := Aside0.mk (hi); clear HK; clear HB; clear HI0; have HO393 := n0_; have HK := n1_; have HB := n2_; have HI0 := n3_; clear n0_ n1_ n2_ n3_; (try clear hb); (try clear hb2); (try clear hk); (try clear hi); (try clear ho0); obtain ⟨Ao43, co43, eo43⟩ := Kd.N_slice HO393.out; subst eo43) | ((with_reducible refine gate_callee (f := 53) rfl ?_); refine goesL_ (some 7) rfl rfl Try.func53 (by kernel_rfl) rfl #[.agg #[.int .i64 t388, .int .i64 t389, .string t390, .slice Ao43 t391.length co43]] rfl (by (try simp only [List.map_toArray, List.map_cons, List.map_nil]); first | done | rfl | (simp only [List.length_drop, List.length_take]; rfl)) ?_; (with_reducible refine (spec_l2Open.calls k t388 t389 t390 _ _ t391 t395 _ ?side1 ?side2 A3.out).mono ?_); (case side1 => exact gC ((Kd.N_reads' HO393.out).2.2)); (case side2 => exact (Kd.N_reads' HO393.out).2.1); rintro e w44 ⟨v396, rfl, ho0, hb⟩; refine ⟨_, rfl, ?_⟩; have n0_ := Aside0.mk (Kd.N_elder' (gN HO393) (Kd.R_base ho0) hb); have n1_ := Aside0.mk (Kd.R_lower ho0 (keep_size (w := w) (g := g) (row := none) (by repeat (first | exact gW HK | apply KeepBut.set_)))); have n2_ := Aside0.mk (IsS67.below (by repeat (first | (with_reducible first | exact HI0.out | apply IsS67.alloc | apply IsS67.drewN | apply IsS67.drew | apply IsS67.set_1) | exact HI0.out)) hb); have n3_ := Aside0.mk (KeepBut.trans (by repeat (first | exact gW HK | apply KeepBut.set_)) (KeepBut.of_below hb g none) (.inl rfl)); have n4_ := Aside0.mk (below_step (by repeat (first | exact gB HB | refine below_set ?_ (IsS67.ge HI0.out))) hb); clear HO393; clear HI0; clear HK; clear HB; have HO393 := n0_; have HO397 := n1_; have HI0 := n2_; have HK := n3_; have HB := n4_; clear n0_ n1_ n2_ n3_ n4_; (try clear hb); (try clear hb2); (try clear hk); (try clear hi); (try clear ho0); obtain ⟨Ao45, co45, eo45⟩ := Kd.R_slice HO397.out; subst eo45) | ((with_reducible refine gate_callee (f := 54) rfl ?_); refine goesL_ (some 11) rfl rfl Try.func54 (by kernel_rfl) rfl #[.pointer (some ⟨g, 0, none⟩), .int .i64 (t395.length : Int)] rfl (by (try simp only [List.map_toArray, List.map_cons, List.map_nil]); first | done | rfl | (simp only [List.length_drop, List.length_take]; rfl)) ?_; (with_reducible refine (spec_l15Rd_pick.calls k g s0_0 t394 (t395.length : Int) t398 t399 w0 _ ?side1 ?side2 A4.out).mono ?_); (case side1 => repeat (first | (with_reducible first | exact HI0.out | apply IsS67.alloc | apply IsS67.drewN | apply IsS67.drew | apply IsS67.set_1) | exact HI0.out)); (case side2 => repeat (first | exact gB HB | refine below_set ?_ (IsS67.ge HI0.out))); rintro e w46 ⟨rfl, hi, hb, hk⟩; refine ⟨_, rfl, ?_⟩; have n0_ := Aside0.mk (Kd.N_mono (Kd.N_keep (Kd.N_mono (ok := fun k_ => (k_ ≠ g ∧ some k_ ≠ (.slice Ao45 t395.length co45 : Value).ownBlock)) (gN HO393) (fun k_ hk_ => (⟨hk_, hk_.1⟩ : _ ∧ k_ ≠ g))) hk (fun _ h => h.2)) (fun _ h => h.1)); have n1_ := Aside0.mk (Kd.R_mono (Kd.R_keep (IsS67.apart (show IsS67 w0 _ g s0_0 t394 from by repeat (first | (with_reducible first | exact HI0.out | apply IsS67.alloc | apply IsS67.drewN | apply IsS67.drew | apply IsS67.set_1) | exact HI0.out)) (gR HO397) (by decide)) hk (fun _ h => h.2)) (fun _ h => h.1)); have n2_ := Aside0.mk (KeepBut.trans (by repeat (first | exact gW HK | apply KeepBut.set_)) hk (.inl rfl)); have n3_ := Aside0.mk (hb); have n4_ := Aside0.mk (hi); clear HO393; clear HO397; clear HK; clear HB; clear HI0; have HO393 := n0_; have HO397 := n1_; have HK := n2_; have HB := n3_; have HI0 := n4_; clear n0_ n1_ n2_ n3_ n4_; (try clear hb); (try clear hb2); (try clear hk); (try clear hi)) | ((with_reducible refine gate_callee (f := 54) rfl ?_); refine goesL_ (some 13) rfl rfl Try.func54 (by kernel_rfl) rfl #[.pointer (some ⟨g, 0, none⟩), .int .i64 16] rfl (by (try simp only [List.map_toArray, List.map_cons, List.map_nil]); first | done | rfl | (simp only [List.length_drop, List.length_take]; rfl)) ?_; (with_reducible refine (spec_l15Rd_pick.calls k g s0_0 t399 16 t400 t401 w0 _ ?side1 ?side2 A5.out).mono ?_); (case side1 => repeat (first | (with_reducible first | exact HI0.out | apply IsS67.alloc | apply IsS67.drewN | apply IsS67.drew | apply IsS67.set_1) | exact HI0.out)); (case side2 => repeat (first | exact gB HB | refine below_set ?_ (IsS67.ge HI0.out))); rintro e w47 ⟨rfl, hi, hb, hk⟩; refine ⟨_, rfl, ?_⟩; have n0_ := Aside0.mk (Kd.N_mono (Kd.N_keep (Kd.N_mono (ok := fun k_ => (k_ ≠ g ∧ some k_ ≠ (.slice Ao45 t395.length co45 : Value).ownBlock)) (gN HO393) (fun k_ hk_ => (⟨hk_, hk_.1⟩ : _ ∧ k_ ≠ g))) hk (fun _ h => h.2)) (fun _ h => h.1)); have n1_ := Aside0.mk (Kd.R_mono (Kd.R_keep (IsS67.apart (show IsS67 w0 _ g s0_0 t399 from by repeat (first | (with_reducible first | exact HI0.out | apply IsS67.alloc | apply IsS67.drewN | apply IsS67.drew | apply IsS67.set_1) | exact HI0.out)) (gR HO397) (by decide)) hk (fun _ h => h.2)) (fun _ h => h.1)); have n2_ := Aside0.mk (KeepBut.trans (by repeat (first | exact gW HK | apply KeepBut.set_)) hk (.inl rfl)); have n3_ := Aside0.mk (hb); have n4_ := Aside0.mk (hi); clear HO393; clear HO397; clear HK; clear HB; clear HI0; have HO393 := n0_; have HO397 := n1_; have HK := n2_; have HB := n3_; have HI0 := n4_; clear n0_ n1_ n2_ n3_ n4_; (try clear hb); (try clear hb2); (try clear hk); (try clear hi); have q48 : (0 : Int) ≤ ((t395.length : Int) : Int) := of_decide_eq_true (by first | (with_reducible assumption) | assumption); obtain ⟨i048, hi048, _, hsz48, _⟩ := info_parts info30; have hcut48 := cut_to (P := Try.prog) 23 30 .i64 Try.underlying23 hi048 Ao45 t395.length co45 0 (by omega) q48 (Kd.R_reads' HO397.out).2.1; have hr48 := Kd.R_take (m := (0 : Int).toNat) HO397.out (by omega); have hy48 : y414.length = (0 : Int).toNat := (by rw [Ny414.out, List.length_take]; omega); rw [← Ny414.out] at hr48; rw [← hy48] at hr48 hcut48; clear hy48 hi048 hsz48 HO397; have HO416 := Aside0.mk hr48; clear hr48; replace q48 := eq_true q48))
          go_ret
          exact ⟨_, by first | rfl | (simp [errW_none, errW_some] <;> rfl) | (simp [*, errW_none, errW_some] <;> rfl), gR HO416, by repeat (first | (with_reducible first | exact HI0.out | apply IsS67.alloc | apply IsS67.drewN | apply IsS67.drew | apply IsS67.set_1) | exact HI0.out), by repeat (first | exact gB HB | refine below_set ?_ (IsS67.ge HI0.out)), by repeat (first | exact gW HK | apply KeepBut.set_)⟩
        · rw [if_neg c41] at H
          exact absurd H (by simp)
      · rw [if_neg c40] at H
        have c40b0 : (t400 == 2) = false := beq_eq_false_iff_ne.mpr c40
        have c40b1 : (t400 != 2) = true := bne_iff_ne.mpr c40
        simp only [Option.some.injEq, Prod.mk.injEq] at H
        obtain ⟨rfl, rfl⟩ := H
        go_enter Try.func41, Try.ntmps41
        go_wp2_with (first | ((with_reducible refine gate_callee (f := 65) rfl ?_); refine goesL_ (some 6) rfl rfl Try.func65 (by kernel_rfl) rfl #[.pointer (some ⟨g, 0, none⟩)] rfl (by (try simp only [List.map_toArray, List.map_cons, List.map_nil]); first | done | rfl | (simp only [List.length_drop, List.length_take]; rfl)) ?_; (with_reducible refine (spec_l1Draw.calls k g s0_0 s0_1 t388 t389 t390 t391 t394 w0 _ ?side1 ?side2 A2.out).mono ?_); (case side1 => repeat (first | (with_reducible first | exact HI0.out | apply IsS67.alloc | apply IsS67.drewN | apply IsS67.drew | apply IsS67.set_1) | exact HI0.out)); (case side2 => repeat (first | exact gB HB | refine below_set ?_ (IsS67.ge HI0.out))); rintro e w49 ⟨v392, rfl, ho0, hi, hb, hk⟩; refine ⟨_, rfl, ?_⟩; have n0_ := Aside0.mk (Kd.N_lower (Kd.N_mono (ok' := fun k_ => k_ ≠ g) ho0 (fun k_ hk_ => (IsS67.fresh (by repeat (first | (with_reducible first | exact HI0.out | apply IsS67.alloc | apply IsS67.drewN | apply IsS67.drew | apply IsS67.set_1) | exact HI0.out)) k_ hk_))) (keep_size (w := w) (g := g) (row := none) (by repeat (first | exact gW HK | apply KeepBut.set_)))); have n1_ := Aside0.mk (KeepBut.trans (by repeat (first | exact gW HK | apply KeepBut.set_)) hk (.inl rfl)); have n2_ := Aside0.mk (hb); have n3_ := Aside0.mk (hi); clear HK; clear HB; clear HI0; have HO393 := n0_; have HK := n1_; have HB := n2_; have HI0 := n3_; clear n0_ n1_ n2_ n3_; (try clear hb); (try clear hb2); (try clear hk); (try clear hi); (try clear ho0); obtain ⟨Ao50, co50, eo50⟩ := Kd.N_slice HO393.out; subst eo50) | ((with_reducible refine gate_callee (f := 53) rfl ?_); refine goesL_ (some 7) rfl rfl Try.func53 (by kernel_rfl) rfl #[.agg #[.int .i64 t388, .int .i64 t389, .string t390, .slice Ao50 t391.length co50]] rfl (by (try simp only [List.map_toArray, List.map_cons, List.map_nil]); first | done | rfl | (simp only [List.length_drop, List.length_take]; rfl)) ?_; (with_reducible refine (spec_l2Open.calls k t388 t389 t390 _ _ t391 t395 _ ?side1 ?side2 A3.out).mono ?_); (case side1 => exact gC ((Kd.N_reads' HO393.out).2.2)); (case side2 => exact (Kd.N_reads' HO393.out).2.1); rintro e w51 ⟨v396, rfl, ho0, hb⟩; refine ⟨_, rfl, ?_⟩; have n0_ := Aside0.mk (Kd.N_elder' (gN HO393) (Kd.R_base ho0) hb); have n1_ := Aside0.mk (Kd.R_lower ho0 (keep_size (w := w) (g := g) (row := none) (by repeat (first | exact gW HK | apply KeepBut.set_)))); have n2_ := Aside0.mk (IsS67.below (by repeat (first | (with_reducible first | exact HI0.out | apply IsS67.alloc | apply IsS67.drewN | apply IsS67.drew | apply IsS67.set_1) | exact HI0.out)) hb); have n3_ := Aside0.mk (KeepBut.trans (by repeat (first | exact gW HK | apply KeepBut.set_)) (KeepBut.of_below hb g none) (.inl rfl)); have n4_ := Aside0.mk (below_step (by repeat (first | exact gB HB | refine below_set ?_ (IsS67.ge HI0.out))) hb); clear HO393; clear HI0; clear HK; clear HB; have HO393 := n0_; have HO397 := n1_; have HI0 := n2_; have HK := n3_; have HB := n4_; clear n0_ n1_ n2_ n3_ n4_; (try clear hb); (try clear hb2); (try clear hk); (try clear hi); (try clear ho0); obtain ⟨Ao52, co52, eo52⟩ := Kd.R_slice HO397.out; subst eo52) | ((with_reducible refine gate_callee (f := 54) rfl ?_); refine goesL_ (some 11) rfl rfl Try.func54 (by kernel_rfl) rfl #[.pointer (some ⟨g, 0, none⟩), .int .i64 (t395.length : Int)] rfl (by (try simp only [List.map_toArray, List.map_cons, List.map_nil]); first | done | rfl | (simp only [List.length_drop, List.length_take]; rfl)) ?_; (with_reducible refine (spec_l15Rd_pick.calls k g s0_0 t394 (t395.length : Int) t398 t399 w0 _ ?side1 ?side2 A4.out).mono ?_); (case side1 => repeat (first | (with_reducible first | exact HI0.out | apply IsS67.alloc | apply IsS67.drewN | apply IsS67.drew | apply IsS67.set_1) | exact HI0.out)); (case side2 => repeat (first | exact gB HB | refine below_set ?_ (IsS67.ge HI0.out))); rintro e w53 ⟨rfl, hi, hb, hk⟩; refine ⟨_, rfl, ?_⟩; have n0_ := Aside0.mk (Kd.N_mono (Kd.N_keep (Kd.N_mono (ok := fun k_ => (k_ ≠ g ∧ some k_ ≠ (.slice Ao52 t395.length co52 : Value).ownBlock)) (gN HO393) (fun k_ hk_ => (⟨hk_, hk_.1⟩ : _ ∧ k_ ≠ g))) hk (fun _ h => h.2)) (fun _ h => h.1)); have n1_ := Aside0.mk (Kd.R_mono (Kd.R_keep (IsS67.apart (show IsS67 w0 _ g s0_0 t394 from by repeat (first | (with_reducible first | exact HI0.out | apply IsS67.alloc | apply IsS67.drewN | apply IsS67.drew | apply IsS67.set_1) | exact HI0.out)) (gR HO397) (by decide)) hk (fun _ h => h.2)) (fun _ h => h.1)); have n2_ := Aside0.mk (KeepBut.trans (by repeat (first | exact gW HK | apply KeepBut.set_)) hk (.inl rfl)); have n3_ := Aside0.mk (hb); have n4_ := Aside0.mk (hi); clear HO393; clear HO397; clear HK; clear HB; clear HI0; have HO393 := n0_; have HO397 := n1_; have HK := n2_; have HB := n3_; have HI0 := n4_; clear n0_ n1_ n2_ n3_ n4_; (try clear hb); (try clear hb2); (try clear hk); (try clear hi)) | ((with_reducible refine gate_callee (f := 54) rfl ?_); refine goesL_ (some 13) rfl rfl Try.func54 (by kernel_rfl) rfl #[.pointer (some ⟨g, 0, none⟩), .int .i64 16] rfl (by (try simp only [List.map_toArray, List.map_cons, List.map_nil]); first | done | rfl | (simp only [List.length_drop, List.length_take]; rfl)) ?_; (with_reducible refine (spec_l15Rd_pick.calls k g s0_0 t399 16 t400 t401 w0 _ ?side1 ?side2 A5.out).mono ?_); (case side1 => repeat (first | (with_reducible first | exact HI0.out | apply IsS67.alloc | apply IsS67.drewN | apply IsS67.drew | apply IsS67.set_1) | exact HI0.out)); (case side2 => repeat (first | exact gB HB | refine below_set ?_ (IsS67.ge HI0.out))); rintro e w54 ⟨rfl, hi, hb, hk⟩; refine ⟨_, rfl, ?_⟩; have n0_ := Aside0.mk (Kd.N_mono (Kd.N_keep (Kd.N_mono (ok := fun k_ => (k_ ≠ g ∧ some k_ ≠ (.slice Ao52 t395.length co52 : Value).ownBlock)) (gN HO393) (fun k_ hk_ => (⟨hk_, hk_.1⟩ : _ ∧ k_ ≠ g))) hk (fun _ h => h.2)) (fun _ h => h.1)); have n1_ := Aside0.mk (Kd.R_mono (Kd.R_keep (IsS67.apart (show IsS67 w0 _ g s0_0 t399 from by repeat (first | (with_reducible first | exact HI0.out | apply IsS67.alloc | apply IsS67.drewN | apply IsS67.drew | apply IsS67.set_1) | exact HI0.out)) (gR HO397) (by decide)) hk (fun _ h => h.2)) (fun _ h => h.1)); have n2_ := Aside0.mk (KeepBut.trans (by repeat (first | exact gW HK | apply KeepBut.set_)) hk (.inl rfl)); have n3_ := Aside0.mk (hb); have n4_ := Aside0.mk (hi); clear HO393; clear HO397; clear HK; clear HB; clear HI0; have HO393 := n0_; have HO397 := n1_; have HK := n2_; have HB := n3_; have HI0 := n4_; clear n0_ n1_ n2_ n3_ n4_; (try clear hb); (try clear hb2); (try clear hk); (try clear hi)))
        go_ret
        exact ⟨_, by first | rfl | (simp [errW_none, errW_some] <;> rfl) | (simp [*, errW_none, errW_some] <;> rfl), gR HO397, by repeat (first | (with_reducible first | exact HI0.out | apply IsS67.alloc | apply IsS67.drewN | apply IsS67.drew | apply IsS67.set_1) | exact HI0.out), by repeat (first | exact gB HB | refine below_set ?_ (IsS67.ge HI0.out)), by repeat (first | exact gW HK | apply KeepBut.set_)⟩
end Go.Proofs.Ytdhdfmmefghijab.P
namespace Go.Proofs.Ytdhdfmmefghijab.P
open Go.RowKit Go.Proofs.YtdhdfmmefghijabW.PrintWords Go.Proofs.YtdhdfmmefghijabW.PrintLast Go.Proofs.YtdhdfmmefghijabW.PrintMore
attribute [local go_sem] max2_int min2_int max_two min_two max_three min_three max_four min_four
set_option linter.unusedVariables false
set_option linter.unusedSimpArgs false
def spec_DrawCatLayouts.f (k : Nat) (l0 : List Int) : Option ((List (SRow)) × (List (SRow))) := (spec_l15Open.f l0).bind fun bt417 => ((spec_l2Draw.f k bt417.1 bt417.2).bind fun bt420 => ((spec_l2Draw.f k bt417.1 bt420.2).bind fun bt424 => (some (bt420.1, bt424.1))))
set_option maxHeartbeats 8000000 in
set_option maxRecDepth 100000 in
theorem spec_DrawCatLayouts.calls (k : Nat) (A0 : Option Addr) (c0 : Nat) (l0 : List Int) (r1 : List (SRow)) (r2 : List (SRow)) (w : World) (hr0 : Kd.C (Kd.int .u8) w A0 l0.length l0) (hc0 : l0.length ≤ c0) (h : spec_DrawCatLayouts.f k l0 = some (r1, r2)) :
    Calls Try.prog 15 #[.slice A0 l0.length c0] w fun e w' => ∃ v0_ v1_ : Value, e = .returned (.tuple #[v0_, v1_]) ∧ Kd.R k30 30 w' w.heap.size (fun k_ => some k_ ≠ (v1_ : Value).ownBlock) v0_ r1 ∧ Kd.R k30 30 w' w.heap.size (fun k_ => some k_ ≠ (v0_ : Value).ownBlock) v1_ r2 ∧ Below w.heap.size w w' := by
  have HR0 := Aside0.mk hr0
  have HC0 := Aside0.mk hc0
  clear hr0 hc0
  have HB := Aside0.mk (Below.refl w.heap.size w)
  have H : ((spec_l15Open.f l0).bind fun bt417 => ((spec_l2Draw.f k bt417.1 bt417.2).bind fun bt420 => ((spec_l2Draw.f k bt417.1 bt420.2).bind fun bt424 => (some (bt420.1, bt424.1))))) = some (r1, r2) := h
  clear h
  replace H := Option.bind_eq_some_iff.mp H
  obtain ⟨⟨t417, t418⟩, A20, H⟩ := H
  replace H : ((spec_l2Draw.f k t417 t418).bind fun bt420 => ((spec_l2Draw.f k t417 bt420.2).bind fun bt424 => (some (bt420.1, bt424.1)))) = some (r1, r2) := H
  have A2 := Aside0.mk A20
  clear A20
  replace H := Option.bind_eq_some_iff.mp H
  obtain ⟨⟨t420, t423⟩, A30, H⟩ := H
  replace H : ((spec_l2Draw.f k t417 t423).bind fun bt424 => (some (t420, bt424.1))) = some (r1, r2) := H
  have A3 := Aside0.mk A30
  clear A30
  replace H := Option.bind_eq_some_iff.mp H
  obtain ⟨⟨t424, t427⟩, A40, H⟩ := H
  replace H : (some (t420, t424)) = some (r1, r2) := H
  have A4 := Aside0.mk A40
  clear A40
  simp only [Option.some.injEq, Prod.mk.injEq] at H
  obtain ⟨rfl, rfl⟩ := H
  go_enter Try.func15, Try.ntmps15
  go_wp2_with (first | ((with_reducible refine gate_callee (f := 40) rfl ?_); refine goesL_ (some 6) rfl rfl Try.func40 (by kernel_rfl) rfl #[.slice A0 l0.length c0] rfl (by (try simp only [List.map_toArray, List.map_cons, List.map_nil]); first | done | rfl | (simp only [List.length_drop, List.length_take]; rfl)) ?_; (with_reducible refine (spec_l15Open.calls _ _ l0 t417 t418 w _ ?side1 ?side2 ?side3 A2.out).mono ?_); (case side1 => exact gB HB); (case side2 => exact HR0.out); (case side3 => exact HC0.out); rintro e w5 ⟨g419, rfl, hi, hb, hb2⟩; refine ⟨_, rfl, ?_⟩; have n0_ := Aside0.mk (hb); have n1_ := Aside0.mk (hi); clear HB; have HB := n0_; have HI419 := n1_; clear n0_ n1_; (try clear hb); (try clear hb2); (try clear hk); (try clear hi)) | ((with_reducible refine gate_callee (f := 41) rfl ?_); refine goesL_ (some 8) rfl rfl Try.func41 (by kernel_rfl) rfl #[.pointer (some ⟨g419, 0, none⟩)] rfl (by (try simp only [List.map_toArray, List.map_cons, List.map_nil]); first | done | rfl | (simp only [List.length_drop, List.length_take]; rfl)) ?_; (with_reducible refine (spec_l2Draw.calls k g419 t417 t418 t420 t423 w _ ?side1 ?side2 A3.out).mono ?_); (case side1 => repeat (first | (with_reducible first | exact HI419.out | apply IsS67.alloc | apply IsS67.drewN | apply IsS67.drew | apply IsS67.set_1) | exact HI419.out)); (case side2 => repeat (first | exact gB HB | refine below_set ?_ (IsS67.ge HI419.out))); rintro e w6 ⟨v421, rfl, ho0, hi, hb, hk⟩; refine ⟨_, rfl, ?_⟩; have n0_ := Aside0.mk (Kd.R_lower ho0 (below_size (by repeat (first | exact gB HB | refine below_set ?_ (IsS67.ge HI419.out))))); have n1_ := Aside0.mk (hb); have n2_ := Aside0.mk (hi); clear HB; clear HI419; have HO422 := n0_; have HB := n1_; have HI419 := n2_; clear n0_ n1_ n2_; (try clear hb); (try clear hb2); (try clear hk); (try clear hi); (try clear ho0)) | ((with_reducible refine gate_callee (f := 41) rfl ?_); refine goesL_ (some 10) rfl rfl Try.func41 (by kernel_rfl) rfl #[.pointer (some ⟨g419, 0, none⟩)] rfl (by (try simp only [List.map_toArray, List.map_cons, List.map_nil]); first | done | rfl | (simp only [List.length_drop, List.length_take]; rfl)) ?_; (with_reducible refine (spec_l2Draw.calls k g419 t417 t423 t424 t427 w _ ?side1 ?side2 A4.out).mono ?_); (case side1 => repeat (first | (with_reducible first | exact HI419.out | apply IsS67.alloc | apply IsS67.drewN | apply IsS67.drew | apply IsS67.set_1) | exact HI419.out)); (case side2 => repeat (first | exact gB HB | refine below_set ?_ (IsS67.ge HI419.out))); rintro e w7 ⟨v425, rfl, ho0, hi, hb, hk⟩; refine ⟨_, rfl, ?_⟩; have n0_ := Aside0.mk (Kd.R_mono (Kd.R_told (Kd.R_oldK (IsS67.apart (show IsS67 w _ g419 t417 t423 from by repeat (first | (with_reducible first | exact HI419.out | apply IsS67.alloc | apply IsS67.drewN | apply IsS67.drew | apply IsS67.set_1) | exact HI419.out)) (gR HO422) (by decide)) hk) (Kd.R_base ho0)) (fun _ h_ => h_.1)); have n1_ := Aside0.mk (Kd.R_lower (Kd.R_new' ho0 (Kd.R_lt (gR HO422))) (below_size (by repeat (first | exact gB HB | refine below_set ?_ (IsS67.ge HI419.out))))); have n2_ := Aside0.mk (hb); have n3_ := Aside0.mk (hi); clear HO422; clear HB; clear HI419; have HO422 := n0_; have HO426 := n1_; have HB := n2_; have HI419 := n3_; clear n0_ n1_ n2_ n3_; (try clear hb); (try clear hb2); (try clear hk); (try clear hi); (try clear ho0)))
  go_ret2
  exact ⟨_, _, by first | rfl | (simp [errW_none, errW_some] <;> rfl) | (simp [*, errW_none, errW_some] <;> rfl), by (with_reducible repeat (first | apply Kd.R_alloc | apply Kd.R_drewN | apply Kd.R_drew)); exact Kd.R_mono HO422.out (fun _ hk => hk.2), by (with_reducible repeat (first | apply Kd.R_alloc | apply Kd.R_drewN | apply Kd.R_drew)); exact Kd.R_mono HO426.out (fun _ hk => hk.2), by repeat (first | exact gB HB | refine below_set ?_ (IsS67.ge HI419.out))⟩
end Go.Proofs.Ytdhdfmmefghijab.P
namespace Go.Proofs.Ytdhdfmmefghijab.P
open Go.RowKit Go.Proofs.YtdhdfmmefghijabW.PrintWords Go.Proofs.YtdhdfmmefghijabW.PrintLast Go.Proofs.YtdhdfmmefghijabW.PrintMore
attribute [local go_sem] max2_int min2_int max_two min_two max_three min_three max_four min_four
set_option linter.unusedVariables false
set_option linter.unusedSimpArgs false
def strings_IndexByte.f (a0 : ByteArray) (a1 : Int) : Option (Int) := some (Lib.indexByte a0.data.toList a1.toNat.toUInt8)
theorem strings_IndexByte.calls (a0 : ByteArray) (a1 : Int) (r : Int) (w : World) (h : strings_IndexByte.f a0 a1 = some r) :
    Calls Try.prog 83 #[.string a0, .int .u8 a1] w fun e w' => e = .returned (.int .i64 r) ∧ Drawn0 w w' := by
  obtain rfl := Option.some.inj h
  refine (Try.strings_IndexByte a0 a1 w).mono ?_
  rintro e w' ⟨rfl, rfl⟩
  exact ⟨rfl, Drawn0.refl _⟩
end Go.Proofs.Ytdhdfmmefghijab.P
namespace Go.Proofs.Ytdhdfmmefghijab.P
open Go.RowKit Go.Proofs.YtdhdfmmefghijabW.PrintWords Go.Proofs.YtdhdfmmefghijabW.PrintLast Go.Proofs.YtdhdfmmefghijabW.PrintMore
attribute [local go_sem] max2_int min2_int max_two min_two max_three min_three max_four min_four
set_option linter.unusedVariables false
set_option linter.unusedSimpArgs false
mutual
def impl_TextValid.l0 : Nat → ByteArray → Int → Option (Bool)
  | 0, _, _ => none
  | k + 1, x0, x3 => if x3 < (x0.size : Int) then (if 0 ≤ x3 then (if (bt x0 x3) ≥ 97 then (if (bt x0 x3) ≤ 122 then (impl_TextValid.j1 k x0 x3 (!true)) else (if (bt x0 x3) ≥ 48 then (if (bt x0 x3) ≤ 57 then (impl_TextValid.j1 k x0 x3 (!true)) else ((strings_IndexByte.f (⟨#[44, 58, 61, 123, 125, 40, 41, 91, 93]⟩ : ByteArray) (bt x0 x3)).bind fun t428 => (impl_TextValid.j1 k x0 x3 (!(decide (t428 ≥ 0)))))) else ((strings_IndexByte.f (⟨#[44, 58, 61, 123, 125, 40, 41, 91, 93]⟩ : ByteArray) (bt x0 x3)).bind fun t429 => (impl_TextValid.j1 k x0 x3 (!(decide (t429 ≥ 0))))))) else (if (bt x0 x3) ≥ 48 then (if (bt x0 x3) ≤ 57 then (impl_TextValid.j1 k x0 x3 (!true)) else ((strings_IndexByte.f (⟨#[44, 58, 61, 123, 125, 40, 41, 91, 93]⟩ : ByteArray) (bt x0 x3)).bind fun t430 => (impl_TextValid.j1 k x0 x3 (!(decide (t430 ≥ 0)))))) else ((strings_IndexByte.f (⟨#[44, 58, 61, 123, 125, 40, 41, 91, 93]⟩ : ByteArray) (bt x0 x3)).bind fun t431 => (impl_TextValid.j1 k x0 x3 (!(decide (t431 ≥ 0))))))) else (none)) else (if (x0.size : Int) ≥ 1 then (some (decide ((x0.size : Int) ≤ 12))) else (some false))
def impl_TextValid.j1 : Nat → ByteArray → Int → Bool → Option (Bool)
  | 0, _, _, _ => none
  | k + 1, x0, x3, x39 => if x39 = true then (some false) else (impl_TextValid.l0 k x0 (wrap64 (x3 + 1)))
end
def impl_TextValid.f (k : Nat) (a0 : ByteArray) : Option (Bool) := impl_TextValid.l0 k a0 0
set_option maxHeartbeats 8000000 in
set_option maxRecDepth 100000 in
theorem impl_TextValid.calls (k : Nat) (a0 : ByteArray) (r : Bool) (w : World) (h : impl_TextValid.f k a0 = some r) :
    Calls Try.prog 68 #[.string a0] w fun e w' => e = .returned (.bool r) ∧ Drawn0 w w' := by
  have H : (impl_TextValid.l0 k a0 0) = some r := h
  clear h
  have H' := Aside0.mk H
  clear H
  go_enter Try.func68, Try.ntmps68
  go_wp2
  go_loopg [3] k (fun kq v3 w' => ∃ (x3_1 : Int), v3 = .int .i64 x3_1 ∧ Aside0 (impl_TextValid.l0 kq a0 x3_1 = some r) ∧ Aside0 (kq ≤ k) ∧ Drawn0 w w')
  case atStart => exact ⟨(0), (by first | rfl | (simp; done) | (simp [*]; done)), H', ⟨Nat.le_refl _⟩, by repeat (first | exact Drawn0.refl _ | apply Drawn0.step)⟩
  case round =>
    clear H'
    obtain ⟨x3_1, rfl, HA, HK1, ⟨m1, rfl⟩⟩ := hrel
    cases gk with
    | zero => exact absurd HA.out (by simp [impl_TextValid.l0])
    | succ k1 =>
      have H := HA.out
      clear HA
      simp only [impl_TextValid.l0] at H
      by_cases c2 : x3_1 < (a0.size : Int)
      · rw [if_pos c2] at H
        have c2b0 : decide (x3_1 < (a0.size : Int)) = true := decide_eq_true c2
        clear c2
        have HC3 := Aside0.mk H
        clear H
        go_upto_region 4 with (fail)
        go_cut [39] (fun v39 wc => ∃ (kq : Nat) (x39_2 : Bool), v39 = .bool x39_2 ∧ Aside0 (impl_TextValid.j1 kq a0 x3_1 x39_2 = some r) ∧ Aside0 (kq ≤ k1) ∧ Drawn0 w wc)
        case first =>
          have H := HC3.out
          clear HC3
          by_cases c4 : 0 ≤ x3_1
          · rw [if_pos c4] at H
            have c4b0 : decide (0 ≤ x3_1) = true := decide_eq_true c4
            clear c4
            (first | rw [c4b0] | (simp only [i64_w, i32_w]; rw [c4b0]) | skip)
            by_cases c6 : (bt a0 x3_1) ≥ 97
            · rw [if_pos c6] at H
              have c6b0 : decide (97 ≤ (bt a0 x3_1)) = true := decide_eq_true c6
              clear c6
              by_cases c8 : (bt a0 x3_1) ≤ 122
              · rw [if_pos c8] at H
                have c8b0 : decide ((bt a0 x3_1) ≤ 122) = true := decide_eq_true c8
                clear c8
                have H' := Aside0.mk H
                clear H
                have p5 : 0 ≤ (x3_1 : Int) := of_decide_eq_true (by first | (with_reducible assumption) | assumption)
                have q5 : x3_1 < (a0.size : Int) := of_decide_eq_true (by first | (with_reducible assumption) | assumption)
                have hx5 := bt_at a0 x3_1
                replace p5 := eq_true p5
                replace q5 := eq_true q5
                have p7 : 0 ≤ (x3_1 : Int) := of_decide_eq_true (by first | (with_reducible assumption) | assumption)
                have q7 : x3_1 < (a0.size : Int) := of_decide_eq_true (by first | (with_reducible assumption) | assumption)
                have hx7 := bt_at a0 x3_1
                replace p7 := eq_true p7
                replace q7 := eq_true q7
                go_wp2
                go_meet
                case rel => exact ⟨_, (!true), (by first | rfl | (simp; done) | (simp [*]; done)), H', ⟨by have := HK1.out; first | omega | exact Nat.le_refl _⟩, by repeat (first | exact Drawn0.refl _ | apply Drawn0.step)⟩
              · rw [if_neg c8] at H
                have c8b0 : decide ((bt a0 x3_1) ≤ 122) = false := decide_eq_false c8
                clear c8
                by_cases c10 : (bt a0 x3_1) ≥ 48
                · rw [if_pos c10] at H
                  have c10b0 : decide (48 ≤ (bt a0 x3_1)) = true := decide_eq_true c10
                  clear c10
                  by_cases c12 : (bt a0 x3_1) ≤ 57
                  · rw [if_pos c12] at H
                    have c12b0 : decide ((bt a0 x3_1) ≤ 57) = true := decide_eq_true c12
                    clear c12
                    have H' := Aside0.mk H
                    clear H
                    have p5 : 0 ≤ (x3_1 : Int) := of_decide_eq_true (by first | (with_reducible assumption) | assumption)
                    have q5 : x3_1 < (a0.size : Int) := of_decide_eq_true (by first | (with_reducible assumption) | assumption)
                    have hx5 := bt_at a0 x3_1
                    replace p5 := eq_true p5
                    replace q5 := eq_true q5
                    have p7 : 0 ≤ (x3_1 : Int) := of_decide_eq_true (by first | (with_reducible assumption) | assumption)
                    have q7 : x3_1 < (a0.size : Int) := of_decide_eq_true (by first | (with_reducible assumption) | assumption)
                    have hx7 := bt_at a0 x3_1
                    replace p7 := eq_true p7
                    replace q7 := eq_true q7
                    have p9 : 0 ≤ (x3_1 : Int) := of_decide_eq_true (by first | (with_reducible assumption) | assumption)
                    have q9 : x3_1 < (a0.size : Int) := of_decide_eq_true (by first | (with_reducible assumption) | assumption)
                    have hx9 := bt_at a0 x3_1
                    replace p9 := eq_true p9
                    replace q9 := eq_true q9
                    have p11 : 0 ≤ (x3_1 : Int) := of_decide_eq_true (by first | (with_reducible assumption) | assumption)
                    have q11 : x3_1 < (a0.size : Int) := of_decide_eq_true (by first | (with_reducible assumption) | assumption)
                    have hx11 := bt_at a0 x3_1
                    replace p11 := eq_true p11
                    replace q11 := eq_true q11
                    go_wp2
                    go_meet
                    case rel => exact ⟨_, (!true), (by first | rfl | (simp; done) | (simp [*]; done)), H', ⟨by have := HK1.out; first | omega | exact Nat.le_refl _⟩, by repeat (first | exact Drawn0.refl _ | apply Drawn0.step)⟩
                  · rw [if_neg c12] at H
                    have c12b0 : decide ((bt a0 x3_1) ≤ 57) = false := decide_eq_false c12
                    clear c12
                    replace H := Option.bind_eq_some_iff.mp H
                    obtain ⟨t428, A140, H⟩ := H
                    replace H : (impl_TextValid.j1 k1 a0 x3_1 (!(decide (t428 ≥ 0)))) = some r := H
                    have A14 := Aside0.mk A140
                    clear A140
                    have H' := Aside0.mk H
                    clear H
                    have p5 : 0 ≤ (x3_1 : Int) := of_decide_eq_true (by first | (with_reducible assumption) | assumption)
                    have q5 : x3_1 < (a0.size : Int) := of_decide_eq_true (by first | (with_reducible assumption) | assumption)
                    have hx5 := bt_at a0 x3_1
                    replace p5 := eq_true p5
                    replace q5 := eq_true q5
                    have p7 : 0 ≤ (x3_1 : Int) := of_decide_eq_true (by first | (with_reducible assumption) | assumption)
                    have q7 : x3_1 < (a0.size : Int) := of_decide_eq_true (by first | (with_reducible assumption) | assumption)
                    have hx7 := bt_at a0 x3_1
                    replace p7 := eq_true p7
                    replace q7 := eq_true q7
                    have p9 : 0 ≤ (x3_1 : Int) := of_decide_eq_true (by first | (with_reducible assumption) | assumption)
                    have q9 : x3_1 < (a0.size : Int) := of_decide_eq_true (by first | (with_reducible assumption) | assumption)
                    have hx9 := bt_at a0 x3_1
                    replace p9 := eq_true p9
                    replace q9 := eq_true q9
                    have p11 : 0 ≤ (x3_1 : Int) := of_decide_eq_true (by first | (with_reducible assumption) | assumption)
                    have q11 : x3_1 < (a0.size : Int) := of_decide_eq_true (by first | (with_reducible assumption) | assumption)
                    have hx11 := bt_at a0 x3_1
                    replace p11 := eq_true p11
                    replace q11 := eq_true q11
                    have p13 : 0 ≤ (x3_1 : Int) := of_decide_eq_true (by first | (with_reducible assumption) | assumption)
                    have q13 : x3_1 < (a0.size : Int) := of_decide_eq_true (by first | (with_reducible assumption) | assumption)
                    have hx13 := bt_at a0 x3_1
                    replace p13 := eq_true p13
                    replace q13 := eq_true q13
                    go_wp2_with (first | (go_at_call 83; (with_reducible refine (strings_IndexByte.calls (⟨#[44, 58, 61, 123, 125, 40, 41, 91, 93]⟩ : ByteArray) (bt a0 x3_1) t428 _ A14.out).mono ?_); rintro e w' ⟨rfl, ⟨nd, rfl⟩⟩))
                    go_meet
                    case rel => exact ⟨_, (!(decide (t428 ≥ 0))), (by first | rfl | (simp; done) | (simp [*]; done)), H', ⟨by have := HK1.out; first | omega | exact Nat.le_refl _⟩, by repeat (first | exact Drawn0.refl _ | apply Drawn0.step)⟩
                · rw [if_neg c10] at H
                  have c10b0 : decide (48 ≤ (bt a0 x3_1)) = false := decide_eq_false c10
                  clear c10
                  replace H := Option.bind_eq_some_iff.mp H
                  obtain ⟨t429, A160, H⟩ := H
                  replace H : (impl_TextValid.j1 k1 a0 x3_1 (!(decide (t429 ≥ 0)))) = some r := H
                  have A16 := Aside0.mk A160
                  clear A160
                  have H' := Aside0.mk H
                  clear H
                  have p5 : 0 ≤ (x3_1 : Int) := of_decide_eq_true (by first | (with_reducible assumption) | assumption)
                  have q5 : x3_1 < (a0.size : Int) := of_decide_eq_true (by first | (with_reducible assumption) | assumption)
                  have hx5 := bt_at a0 x3_1
                  replace p5 := eq_true p5
                  replace q5 := eq_true q5
                  have p7 : 0 ≤ (x3_1 : Int) := of_decide_eq_true (by first | (with_reducible assumption) | assumption)
                  have q7 : x3_1 < (a0.size : Int) := of_decide_eq_true (by first | (with_reducible assumption) | assumption)
                  have hx7 := bt_at a0 x3_1
                  replace p7 := eq_true p7
                  replace q7 := eq_true q7
                  have p9 : 0 ≤ (x3_1 : Int) := of_decide_eq_true (by first | (with_reducible assumption) | assumption)
                  have q9 : x3_1 < (a0.size : Int) := of_decide_eq_true (by first | (with_reducible assumption) | assumption)
                  have hx9 := bt_at a0 x3_1
                  replace p9 := eq_true p9
                  replace q9 := eq_true q9
                  have p15 : 0 ≤ (x3_1 : Int) := of_decide_eq_true (by first | (with_reducible assumption) | assumption)
                  have q15 : x3_1 < (a0.size : Int) := of_decide_eq_true (by first | (with_reducible assumption) | assumption)
                  have hx15 := bt_at a0 x3_1
                  replace p15 := eq_true p15
                  replace q15 := eq_true q15
                  go_wp2_with (first | (go_at_call 83; (with_reducible refine (strings_IndexByte.calls (⟨#[44, 58, 61, 123, 125, 40, 41, 91, 93]⟩ : ByteArray) (bt a0 x3_1) t429 _ A16.out).mono ?_); rintro e w' ⟨rfl, ⟨nd, rfl⟩⟩))
                  go_meet
                  case rel => exact ⟨_, (!(decide (t429 ≥ 0))), (by first | rfl | (simp; done) | (simp [*]; done)), H', ⟨by have := HK1.out; first | omega | exact Nat.le_refl _⟩, by repeat (first | exact Drawn0.refl _ | apply Drawn0.step)⟩
            · rw [if_neg c6] at H
              have c6b0 : decide (97 ≤ (bt a0 x3_1)) = false := decide_eq_false c6
              clear c6
              by_cases c18 : (bt a0 x3_1) ≥ 48
              · rw [if_pos c18] at H
                have c18b0 : decide (48 ≤ (bt a0 x3_1)) = true := decide_eq_true c18
                clear c18
                by_cases c20 : (bt a0 x3_1) ≤ 57
                · rw [if_pos c20] at H
                  have c20b0 : decide ((bt a0 x3_1) ≤ 57) = true := decide_eq_true c20
                  clear c20
                  have H' := Aside0.mk H
                  clear H
                  have p5 : 0 ≤ (x3_1 : Int) := of_decide_eq_true (by first | (with_reducible assumption) | assumption)
                  have q5 : x3_1 < (a0.size : Int) := of_decide_eq_true (by first | (with_reducible assumption) | assumption)
                  have hx5 := bt_at a0 x3_1
                  replace p5 := eq_true p5
                  replace q5 := eq_true q5
                  have p17 : 0 ≤ (x3_1 : Int) := of_decide_eq_true (by first | (with_reducible assumption) | assumption)
                  have q17 : x3_1 < (a0.size : Int) := of_decide_eq_true (by first | (with_reducible assumption) | assumption)
                  have hx17 := bt_at a0 x3_1
                  replace p17 := eq_true p17
                  replace q17 := eq_true q17
                  have p19 : 0 ≤ (x3_1 : Int) := of_decide_eq_true (by first | (with_reducible assumption) | assumption)
                  have q19 : x3_1 < (a0.size : Int) := of_decide_eq_true (by first | (with_reducible assumption) | assumption)
                  have hx19 := bt_at a0 x3_1
                  replace p19 := eq_true p19
                  replace q19 := eq_true q19
                  go_wp2
                  go_meet
                  case rel => exact ⟨_, (!true), (by first | rfl | (simp; done) | (simp [*]; done)), H', ⟨by have := HK1.out; first | omega | exact Nat.le_refl _⟩, by repeat (first | exact Drawn0.refl _ | apply Drawn0.step)⟩
                · rw [if_neg c20] at H
                  have c20b0 : decide ((bt a0 x3_1) ≤ 57) = false := decide_eq_false c20
                  clear c20
                  replace H := Option.bind_eq_some_iff.mp H
                  obtain ⟨t430, A220, H⟩ := H
                  replace H : (impl_TextValid.j1 k1 a0 x3_1 (!(decide (t430 ≥ 0)))) = some r := H
                  have A22 := Aside0.mk A220
                  clear A220
                  have H' := Aside0.mk H
                  clear H
                  have p5 : 0 ≤ (x3_1 : Int) := of_decide_eq_true (by first | (with_reducible assumption) | assumption)
                  have q5 : x3_1 < (a0.size : Int) := of_decide_eq_true (by first | (with_reducible assumption) | assumption)
                  have hx5 := bt_at a0 x3_1
                  replace p5 := eq_true p5
                  replace q5 := eq_true q5
                  have p17 : 0 ≤ (x3_1 : Int) := of_decide_eq_true (by first | (with_reducible assumption) | assumption)
                  have q17 : x3_1 < (a0.size : Int) := of_decide_eq_true (by first | (with_reducible assumption) | assumption)
                  have hx17 := bt_at a0 x3_1
                  replace p17 := eq_true p17
                  replace q17 := eq_true q17
                  have p19 : 0 ≤ (x3_1 : Int) := of_decide_eq_true (by first | (with_reducible assumption) | assumption)
                  have q19 : x3_1 < (a0.size : Int) := of_decide_eq_true (by first | (with_reducible assumption) | assumption)
                  have hx19 := bt_at a0 x3_1
                  replace p19 := eq_true p19
                  replace q19 := eq_true q19
                  have p21 : 0 ≤ (x3_1 : Int) := of_decide_eq_true (by first | (with_reducible assumption) | assumption)
                  have q21 : x3_1 < (a0.size : Int) := of_decide_eq_true (by first | (with_reducible assumption) | assumption)
                  have hx21 := bt_at a0 x3_1
                  replace p21 := eq_true p21
                  replace q21 := eq_true q21
                  go_wp2_with (first | (go_at_call 83; (with_reducible refine (strings_IndexByte.calls (⟨#[44, 58, 61, 123, 125, 40, 41, 91, 93]⟩ : ByteArray) (bt a0 x3_1) t430 _ A22.out).mono ?_); rintro e w' ⟨rfl, ⟨nd, rfl⟩⟩))
                  go_meet
                  case rel => exact ⟨_, (!(decide (t430 ≥ 0))), (by first | rfl | (simp; done) | (simp [*]; done)), H', ⟨by have := HK1.out; first | omega | exact Nat.le_refl _⟩, by repeat (first | exact Drawn0.refl _ | apply Drawn0.step)⟩
              · rw [if_neg c18] at H
                have c18b0 : decide (48 ≤ (bt a0 x3_1)) = false := decide_eq_false c18
                clear c18
                replace H := Option.bind_eq_some_iff.mp H
                obtain ⟨t431, A240, H⟩ := H
                replace H : (impl_TextValid.j1 k1 a0 x3_1 (!(decide (t431 ≥ 0)))) = some r := H
                have A24 := Aside0.mk A240
                clear A240
                have H' := Aside0.mk H
                clear H
                have p5 : 0 ≤ (x3_1 : Int) := of_decide_eq_true (by first | (with_reducible assumption) | assumption)
                have q5 : x3_1 < (a0.size : Int) := of_decide_eq_true (by first | (with_reducible assumption) | assumption)
                have hx5 := bt_at a0 x3_1
                replace p5 := eq_true p5
                replace q5 := eq_true q5
                have p17 : 0 ≤ (x3_1 : Int) := of_decide_eq_true (by first | (with_reducible assumption) | assumption)
                have q17 : x3_1 < (a0.size : Int) := of_decide_eq_true (by first | (with_reducible assumption) | assumption)
                have hx17 := bt_at a0 x3_1
                replace p17 := eq_true p17
                replace q17 := eq_true q17
                have p23 : 0 ≤ (x3_1 : Int) := of_decide_eq_true (by first | (with_reducible assumption) | assumption)
                have q23 : x3_1 < (a0.size : Int) := of_decide_eq_true (by first | (with_reducible assumption) | assumption)
                have hx23 := bt_at a0 x3_1
                replace p23 := eq_true p23
                replace q23 := eq_true q23
                go_wp2_with (first | (go_at_call 83; (with_reducible refine (strings_IndexByte.calls (⟨#[44, 58, 61, 123, 125, 40, 41, 91, 93]⟩ : ByteArray) (bt a0 x3_1) t431 _ A24.out).mono ?_); rintro e w' ⟨rfl, ⟨nd, rfl⟩⟩))
                go_meet
                case rel => exact ⟨_, (!(decide (t431 ≥ 0))), (by first | rfl | (simp; done) | (simp [*]; done)), H', ⟨by have := HK1.out; first | omega | exact Nat.le_refl _⟩, by repeat (first | exact Drawn0.refl _ | apply Drawn0.step)⟩
          · rw [if_neg c4] at H
            exact absurd H (by simp)
        case rest =>
          clear HC3
          try clear c1
          try clear p1
          try clear q1
          try clear hx1
          try clear c2
          try clear c2b0
          try clear p2
          try clear q2
          try clear hx2
          try clear c4
          try clear c4b0
          try clear p5
          try clear q5
          try clear hx5
          try clear c6
          try clear c6b0
          try clear p7
          try clear q7
          try clear hx7
          try clear c8
          try clear c8b0
          try clear p9
          try clear q9
          try clear hx9
          try clear c10
          try clear c10b0
          try clear p11
          try clear q11
          try clear hx11
          try clear c12
          try clear c12b0
          try clear p13
          try clear q13
          try clear hx13
          try clear p15
          try clear q15
          try clear hx15
          try clear p17
          try clear q17
          try clear hx17
          try clear c18
          try clear c18b0
          try clear p19
          try clear q19
          try clear hx19
          try clear c20
          try clear c20b0
          try clear p21
          try clear q21
          try clear hx21
          try clear p23
          try clear q23
          try clear hx23
          try clear p11
          try clear p13
          try clear p15
          try clear p17
          try clear p19
          try clear p21
          try clear p23
          try clear p5
          try clear p7
          try clear p9
          try clear q11
          try clear q13
          try clear q15
          try clear q17
          try clear q19
          try clear q21
          try clear q23
          try clear q5
          try clear q7
          try clear q9
          obtain ⟨kq, x39_2, rfl, HA, HJ2, ⟨mc2, rfl⟩⟩ := hcut
          cases kq with
          | zero => exact absurd HA.out (by simp [impl_TextValid.j1])
          | succ kj2 =>
            have H := HA.out
            clear HA
            simp only [impl_TextValid.j1] at H
            by_cases c25 : x39_2 = true
            · subst c25
              have H1 : (some false) = some r := by rw [if_pos rfl] at H; exact H
              clear H
              have H := H1
              clear H1
              obtain rfl := Option.some.inj H
              go_wp2
              go_ret
              exact ⟨by first | rfl | (simp; done) | (simp [*]; done), by repeat (first | exact Drawn0.refl _ | apply Drawn0.step)⟩
            · replace c25 := Bool.eq_false_iff.mpr c25
              subst c25
              have H1 : (impl_TextValid.l0 kj2 a0 (wrap64 (x3_1 + 1))) = some r := by rw [if_neg (show ¬ (false = true) by decide)] at H; exact H
              clear H
              have H := H1
              clear H1
              have H' := Aside0.mk H
              clear H
              go_wp2
              go_roundg kj2
              case measure => have := HK1.out; have := HJ2.out; omega
              case rel => exact ⟨(wrap64 (x3_1 + 1)), (by first | rfl | (simp; done) | (simp [*]; done)), H', ⟨by have := HK1.out; have := HJ2.out; omega⟩, by repeat (first | exact Drawn0.refl _ | apply Drawn0.step)⟩
      · rw [if_neg c2] at H
        have c2b0 : decide (x3_1 < (a0.size : Int)) = false := decide_eq_false c2
        clear c2
        by_cases c26 : (a0.size : Int) ≥ 1
        · rw [if_pos c26] at H
          have c26b0 : decide (1 ≤ (a0.size : Int)) = true := decide_eq_true c26
          have c26b1 : decide (1 ≤ a0.size) = true := decide_eq_true (by omega)
          clear c26
          obtain rfl := Option.some.inj H
          go_wp2
          go_ret
          exact ⟨by first | rfl | (simp; done) | (simp [*]; done), by repeat (first | exact Drawn0.refl _ | apply Drawn0.step)⟩
        · rw [if_neg c26] at H
          have c26b0 : decide (1 ≤ (a0.size : Int)) = false := decide_eq_false c26
          have c26b1 : decide (1 ≤ a0.size) = false := decide_eq_false (by omega)
          clear c26
          obtain rfl := Option.some.inj H
          go_wp2
          go_ret
          exact ⟨by first | rfl | (simp; done) | (simp [*]; done), by repeat (first | exact Drawn0.refl _ | apply Drawn0.step)⟩
end Go.Proofs.Ytdhdfmmefghijab.P
namespace Go.Proofs.Ytdhdfmmefghijab.P
open Go.RowKit Go.Proofs.YtdhdfmmefghijabW.PrintWords Go.Proofs.YtdhdfmmefghijabW.PrintLast Go.Proofs.YtdhdfmmefghijabW.PrintMore
attribute [local go_sem] max2_int min2_int max_two min_two max_three min_three max_four min_four
set_option linter.unusedVariables false
set_option linter.unusedSimpArgs false
def impl_rowBytes.l0 : Nat → ByteArray → Int → Option (Bool)
  | 0, _, _ => none
  | k + 1, x0, x3 => if x3 < (x0.size : Int) then (if 0 ≤ x3 then (if (bt x0 x3) = 32 then (impl_rowBytes.l0 k x0 (wrap64 (x3 + 1))) else (if x3 ≤ (wrap64 (x3 + 1)) then (if (wrap64 (x3 + 1)) ≤ (x0.size : Int) then ((impl_TextValid.f k (x0.extract (x3 : Int).toNat ((wrap64 (x3 + 1)) : Int).toNat)).bind fun t432 => (if t432 = true then (impl_rowBytes.l0 k x0 (wrap64 (x3 + 1))) else (some false))) else (none)) else (none))) else (none)) else (some true)
def impl_rowBytes.f (k : Nat) (a0 : ByteArray) : Option (Bool) := impl_rowBytes.l0 k a0 0
set_option maxHeartbeats 8000000 in
set_option maxRecDepth 100000 in
theorem impl_rowBytes.calls (k : Nat) (a0 : ByteArray) (r : Bool) (w : World) (h : impl_rowBytes.f k a0 = some r) :
    Calls Try.prog 45 #[.string a0] w fun e w' => e = .returned (.bool r) ∧ Drawn0 w w' := by
  have H : (impl_rowBytes.l0 k a0 0) = some r := h
  clear h
  have H' := Aside0.mk H
  clear H
  go_enter Try.func45, Try.ntmps45
  go_wp2
  go_loopg [3] k (fun kq v3 w' => ∃ (x3_1 : Int), v3 = .int .i64 x3_1 ∧ Aside0 (impl_rowBytes.l0 kq a0 x3_1 = some r) ∧ Aside0 (kq ≤ k) ∧ Drawn0 w w')
  case atStart => exact ⟨(0), (by first | rfl | (simp; done) | (simp [*]; done)), H', ⟨Nat.le_refl _⟩, by repeat (first | exact Drawn0.refl _ | apply Drawn0.step)⟩
  case round =>
    clear H'
    obtain ⟨x3_1, rfl, HA, HK1, ⟨m1, rfl⟩⟩ := hrel
    cases gk with
    | zero => exact absurd HA.out (by simp [impl_rowBytes.l0])
    | succ k1 =>
      have H := HA.out
      clear HA
      simp only [impl_rowBytes.l0] at H
      by_cases c2 : x3_1 < (a0.size : Int)
      · rw [if_pos c2] at H
        have c2b0 : decide (x3_1 < (a0.size : Int)) = true := decide_eq_true c2
        clear c2
        by_cases c3 : 0 ≤ x3_1
        · rw [if_pos c3] at H
          have c3b0 : decide (0 ≤ x3_1) = true := decide_eq_true c3
          clear c3
          by_cases c5 : (bt a0 x3_1) = 32
          · rw [if_pos c5] at H
            have c5b0 : ((bt a0 x3_1) == 32) = true := beq_iff_eq.mpr c5
            have c5b1 : ((bt a0 x3_1) != 32) = false := bne_eq_false_iff_eq.mpr c5
            clear c5
            have H' := Aside0.mk H
            clear H
            have p4 : 0 ≤ (x3_1 : Int) := of_decide_eq_true (by first | (with_reducible assumption) | assumption)
            have q4 : x3_1 < (a0.size : Int) := of_decide_eq_true (by first | (with_reducible assumption) | assumption)
            have hx4 := bt_at a0 x3_1
            replace p4 := eq_true p4
            replace q4 := eq_true q4
            go_wp2
            go_roundg k1
            case measure => have := HK1.out; omega
            case rel => exact ⟨(wrap64 (x3_1 + 1)), (by first | rfl | (simp; done) | (simp [*]; done)), H', ⟨by have := HK1.out; omega⟩, by repeat (first | exact Drawn0.refl _ | apply Drawn0.step)⟩
          · rw [if_neg c5] at H
            have c5b0 : ((bt a0 x3_1) == 32) = false := beq_eq_false_iff_ne.mpr c5
            have c5b1 : ((bt a0 x3_1) != 32) = true := bne_iff_ne.mpr c5
            have c6b0 := eq_true (of_decide_eq_true (by first | (with_reducible assumption) | assumption) : 0 ≤ x3_1)
            by_cases c7 : x3_1 ≤ (wrap64 (x3_1 + 1))
            · rw [if_pos c7] at H
              have c7b0 := eq_true c7
              have c7b1 : decide (x3_1 ≤ (wrap64 (x3_1 + 1))) = true := decide_eq_true c7
              by_cases c8 : (wrap64 (x3_1 + 1)) ≤ (a0.size : Int)
              · rw [if_pos c8] at H
                have c8b0 := eq_true c8
                have c8b1 : decide ((wrap64 (x3_1 + 1)) ≤ (a0.size : Int)) = true := decide_eq_true c8
                replace H := Option.bind_eq_some_iff.mp H
                obtain ⟨t432, A90, H⟩ := H
                replace H : (if t432 = true then (impl_rowBytes.l0 k1 a0 (wrap64 (x3_1 + 1))) else (some false)) = some r := H
                have A9 := Aside0.mk A90
                clear A90
                by_cases c10 : t432 = true
                · subst c10
                  have H1 : (impl_rowBytes.l0 k1 a0 (wrap64 (x3_1 + 1))) = some r := by rw [if_pos rfl] at H; exact H
                  clear H
                  have H := H1
                  clear H1
                  have H' := Aside0.mk H
                  clear H
                  have p4 : 0 ≤ (x3_1 : Int) := of_decide_eq_true (by first | (with_reducible assumption) | assumption)
                  have q4 : x3_1 < (a0.size : Int) := of_decide_eq_true (by first | (with_reducible assumption) | assumption)
                  have hx4 := bt_at a0 x3_1
                  replace p4 := eq_true p4
                  replace q4 := eq_true q4
                  go_wp2_with (first | (go_at_call 68; (with_reducible refine (impl_TextValid.calls k1 (a0.extract (x3_1 : Int).toNat ((wrap64 (x3_1 + 1)) : Int).toNat) true _ A9.out).mono ?_); rintro e w' ⟨rfl, ⟨nd, rfl⟩⟩))
                  go_roundg k1
                  case measure => have := HK1.out; omega
                  case rel => exact ⟨(wrap64 (x3_1 + 1)), (by first | rfl | (simp; done) | (simp [*]; done)), H', ⟨by have := HK1.out; omega⟩, by repeat (first | exact Drawn0.refl _ | apply Drawn0.step)⟩
                · replace c10 := Bool.eq_false_iff.mpr c10
                  subst c10
                  have H1 : (some false) = some r := by rw [if_neg (show ¬ (false = true) by decide)] at H; exact H
                  clear H
                  have H := H1
                  clear H1
                  obtain rfl := Option.some.inj H
                  have p4 : 0 ≤ (x3_1 : Int) := of_decide_eq_true (by first | (with_reducible assumption) | assumption)
                  have q4 : x3_1 < (a0.size : Int) := of_decide_eq_true (by first | (with_reducible assumption) | assumption)
                  have hx4 := bt_at a0 x3_1
                  replace p4 := eq_true p4
                  replace q4 := eq_true q4
                  go_wp2_with (first | (go_at_call 68; (with_reducible refine (impl_TextValid.calls k1 (a0.extract (x3_1 : Int).toNat ((wrap64 (x3_1 + 1)) : Int).toNat) false _ A9.out).mono ?_); rintro e w' ⟨rfl, ⟨nd, rfl⟩⟩))
                  go_ret
                  exact ⟨by first | rfl | (simp; done) | (simp [*]; done), by repeat (first | exact Drawn0.refl _ | apply Drawn0.step)⟩
              · rw [if_neg c8] at H
                exact absurd H (by simp)
            · rw [if_neg c7] at H
              exact absurd H (by simp)
        · rw [if_neg c3] at H
          exact absurd H (by simp)
      · rw [if_neg c2] at H
        have c2b0 : decide (x3_1 < (a0.size : Int)) = false := decide_eq_false c2
        clear c2
        obtain rfl := Option.some.inj H
        go_wp2
        go_ret
        exact ⟨by first | rfl | (simp; done) | (simp [*]; done), by repeat (first | exact Drawn0.refl _ | apply Drawn0.step)⟩
end Go.Proofs.Ytdhdfmmefghijab.P
namespace Go.Proofs.Ytdhdfmmefghijab.P
open Go.RowKit Go.Proofs.YtdhdfmmefghijabW.PrintWords Go.Proofs.YtdhdfmmefghijabW.PrintLast Go.Proofs.YtdhdfmmefghijabW.PrintMore
attribute [local go_sem] max2_int min2_int max_two min_two max_three min_three max_four min_four
set_option linter.unusedVariables false
set_option linter.unusedSimpArgs false
mutual
def impl_LayoutValid.j0 : Nat → List (SRow) → Bool → Option (Bool)
  | 0, _, _ => none
  | k + 1, x0, x19 => if x19 = true then (some false) else (impl_LayoutValid.l0 k x0 (x0.length : Int) 0)
def impl_LayoutValid.l0 : Nat → List (SRow) → Int → Int → Option (Bool)
  | 0, _, _, _ => none
  | k + 1, x20, x21, x22 => if x22 < x21 then (if 0 ≤ x22 then (if x22 < (x20.length : Int) then (if ((rd_TRow x20 x22).f0) < 0 then (impl_LayoutValid.j2 k x20 x21 x22 true) else (if ((rd_TRow x20 x22).f0) > 400 then (impl_LayoutValid.j2 k x20 x21 x22 true) else ((impl_rowBytes.f k ((rd_TRow x20 x22).f1)).bind fun t436 => (if t436 = true then (impl_LayoutValid.j2 k x20 x21 x22 (decide ((((rd_TRow x20 x22).f1).size : Int) ≥ 2000))) else (impl_LayoutValid.j2 k x20 x21 x22 true))))) else (none)) else (none)) else (some true)
def impl_LayoutValid.j2 : Nat → List (SRow) → Int → Int → Bool → Option (Bool)
  | 0, _, _, _, _ => none
  | k + 1, x20, x21, x22, x45 => if x45 = true then (some false) else (impl_LayoutValid.l0 k x20 x21 (wrap64 (x22 + 1)))
end
def impl_LayoutValid.f (k : Nat) (l0 : List (SRow)) : Option (Bool) := if (l0.length : Int) < 1 then (impl_LayoutValid.j0 k l0 true) else (if (l0.length : Int) > 200 then (impl_LayoutValid.j0 k l0 true) else (if 0 < (l0.length : Int) then (impl_LayoutValid.j0 k l0 (((rd_TRow l0 0).f0) != 0)) else (none)))
set_option maxHeartbeats 8000000 in
set_option maxRecDepth 100000 in
theorem impl_LayoutValid.calls (k : Nat) (A0 : Option Addr) (c0 : Nat) (l0 : List (SRow)) (r : Bool) (w : World) (hr0 : Kd.C k30 w A0 l0.length l0) (hc0 : l0.length ≤ c0) (h : impl_LayoutValid.f k l0 = some r) :
    Calls Try.prog 19 #[.slice A0 l0.length c0] w fun e w' => e = .returned (.bool r) ∧ Below w.heap.size w w' := by
  have hu30 := Try.underlying30
  have HR0 := Aside0.mk hr0
  have HC0 := Aside0.mk hc0
  clear hr0 hc0
  have HB := Aside0.mk (Below.refl w.heap.size w)
  have H : (if (l0.length : Int) < 1 then (impl_LayoutValid.j0 k l0 true) else (if (l0.length : Int) > 200 then (impl_LayoutValid.j0 k l0 true) else (if 0 < (l0.length : Int) then (impl_LayoutValid.j0 k l0 (((rd_TRow l0 0).f0) != 0)) else (none)))) = some r := h
  clear h
  have HC2 := Aside0.mk H
  clear H
  go_enter Try.func19, Try.ntmps19
  go_upto_region 1 with (fail)
  go_cut [19] (fun v19 wc => ∃ (kq : Nat) (x19_1 : Bool), v19 = .bool x19_1 ∧ Aside0 (impl_LayoutValid.j0 kq l0 x19_1 = some r) ∧ Aside0 (kq ≤ k) ∧ Aside0 (Below w.heap.size w wc))
  case first =>
    have H := HC2.out
    clear HC2
    by_cases c3 : (l0.length : Int) < 1
    · rw [if_pos c3] at H
      have c3b0 : decide ((l0.length : Int) < 1) = true := decide_eq_true c3
      have c3b1 : decide (l0.length < 1) = true := decide_eq_true (by omega)
      clear c3
      (first | rw [c3b0] | (simp only [i64_w, i32_w]; rw [c3b0]) | skip)
      have H' := Aside0.mk H
      clear H
      go_wp2
      go_meet
      case rel => exact ⟨_, (true), (by first | rfl | (simp; done) | (simp [*]; done)), H', ⟨by first | omega | exact Nat.le_refl _⟩, ⟨gB HB⟩⟩
    · rw [if_neg c3] at H
      have c3b0 : decide ((l0.length : Int) < 1) = false := decide_eq_false c3
      have c3b1 : decide (l0.length < 1) = false := decide_eq_false (by omega)
      clear c3
      (first | rw [c3b0] | (simp only [i64_w, i32_w]; rw [c3b0]) | skip)
      by_cases c4 : (l0.length : Int) > 200
      · rw [if_pos c4] at H
        have c4b0 : decide (200 < (l0.length : Int)) = true := decide_eq_true c4
        have c4b1 : decide (200 < l0.length) = true := decide_eq_true (by omega)
        clear c4
        have H' := Aside0.mk H
        clear H
        go_wp2
        go_meet
        case rel => exact ⟨_, (true), (by first | rfl | (simp; done) | (simp [*]; done)), H', ⟨by first | omega | exact Nat.le_refl _⟩, ⟨gB HB⟩⟩
      · rw [if_neg c4] at H
        have c4b0 : decide (200 < (l0.length : Int)) = false := decide_eq_false c4
        have c4b1 : decide (200 < l0.length) = false := decide_eq_false (by omega)
        clear c4
        by_cases c5 : 0 < (l0.length : Int)
        · rw [if_pos c5] at H
          have c5b0 : decide (0 < (l0.length : Int)) = true := decide_eq_true c5
          have c5b1 : decide (0 < l0.length) = true := decide_eq_true (by omega)
          clear c5
          have H' := Aside0.mk H
          clear H
          have p433 : 0 ≤ (0 : Int) := (by omega)
          have q433 : 0 < (l0.length : Int) := of_decide_eq_true (by first | (with_reducible assumption) | assumption)
          obtain ⟨ad433, e433, hx433_0, hx433_1⟩ := at_TRow HR0.out 0 p433 q433
          cases e433
          have qi433 : (0 < l0.length) = True := eq_true (by omega)
          (try rw [show ((0 : Int)).toNat = 0 from rfl] at hx433_0)
          (try rw [show 0 * 2 = 0 from rfl] at hx433_0)
          (try rw [Addr.add_zero'] at hx433_0)
          (try rw [show ((0 : Int)).toNat = 0 from rfl] at hx433_1)
          (try rw [show 0 * 2 = 0 from rfl] at hx433_1)
          (try rw [Addr.add_zero'] at hx433_1)
          replace hx433_0 := (HB.out.cell (World.block_lt_of_cell? w _ hx433_0)).trans hx433_0
          replace hx433_1 := (HB.out.cell (World.block_lt_of_cell? w _ hx433_1)).trans hx433_1
          replace p433 := eq_true p433
          replace q433 := eq_true q433
          go_wp2
          go_meet
          case rel => exact ⟨_, ((((rd_TRow l0 0).f0) != 0)), (by first | rfl | (simp; done) | (simp [*]; done)), H', ⟨by first | omega | exact Nat.le_refl _⟩, ⟨gB HB⟩⟩
        · rw [if_neg c5] at H
          exact absurd H (by simp)
  case rest =>
    clear HC2
    try clear c1
    try clear p2
    try clear c3
    try clear c3b0
    try clear c3b1
    try clear c4
    try clear c4b0
    try clear c4b1
    try clear p4
    try clear q4
    try clear hx4
    try clear qi4
    try clear c5
    try clear c5b0
    try clear c5b1
    try clear hx433_0
    try clear hx433_1
    try clear p433
    try clear q433
    obtain ⟨kq, x19_1, rfl, HA, HJ1, HB⟩ := hcut
    cases kq with
    | zero => exact absurd HA.out (by simp [impl_LayoutValid.j0])
    | succ kj1 =>
      have H := HA.out
      clear HA
      simp only [impl_LayoutValid.j0] at H
      by_cases c6 : x19_1 = true
      · subst c6
        have H1 : (some false) = some r := by rw [if_pos rfl] at H; exact H
        clear H
        have H := H1
        clear H1
        obtain rfl := Option.some.inj H
        go_wp2
        go_ret
        exact ⟨by first | rfl | (simp [errW_none, errW_some] <;> rfl) | (simp [*, errW_none, errW_some] <;> rfl), gB HB⟩
      · replace c6 := Bool.eq_false_iff.mpr c6
        subst c6
        have H1 : (impl_LayoutValid.l0 kj1 l0 (l0.length : Int) 0) = some r := by rw [if_neg (show ¬ (false = true) by decide)] at H; exact H
        clear H
        have H := H1
        clear H1
        have H' := Aside0.mk H
        clear H
        go_wp2
        go_loopg [22] kj1 (fun kq v22 w' => ∃ (x22_2 : Int), v22 = .int .i64 x22_2 ∧ Aside0 (impl_LayoutValid.l0 kq l0 (l0.length : Int) x22_2 = some r) ∧ Aside0 (kq ≤ kj1) ∧ Aside0 (Below w.heap.size w w'))
        case atStart => exact ⟨(0), (by first | rfl | (simp; done) | (simp [*]; done)), H', ⟨Nat.le_refl _⟩, ⟨gB HB⟩⟩
        case round =>
          clear H'
          try clear c1
          try clear p2
          try clear c3
          try clear c3b0
          try clear c3b1
          try clear c4
          try clear c4b0
          try clear c4b1
          try clear p4
          try clear q4
          try clear hx4
          try clear qi4
          try clear c5
          try clear c5b0
          try clear c5b1
          try clear c6
          try clear hx433_0
          try clear hx433_1
          try clear p2
          try clear p4
          try clear p433
          try clear q4
          try clear q433
          (try clear HB)
          obtain ⟨x22_2, rfl, HA, HK2, HB⟩ := hrel
          cases gk with
          | zero => exact absurd HA.out (by simp [impl_LayoutValid.l0])
          | succ k2 =>
            have H := HA.out
            clear HA
            simp only [impl_LayoutValid.l0] at H
            by_cases c7 : x22_2 < (l0.length : Int)
            · rw [if_pos c7] at H
              have c7b0 : decide (x22_2 < (l0.length : Int)) = true := decide_eq_true c7
              clear c7
              by_cases c8 : 0 ≤ x22_2
              · rw [if_pos c8] at H
                have c8b0 : decide (0 ≤ x22_2) = true := decide_eq_true c8
                clear c8
                by_cases c9 : x22_2 < (l0.length : Int)
                · rw [if_pos c9] at H
                  have c9b0 : decide (x22_2 < (l0.length : Int)) = true := decide_eq_true c9
                  clear c9
                  have HC10 := Aside0.mk H
                  clear H
                  have p434 : 0 ≤ (x22_2 : Int) := of_decide_eq_true (by first | (with_reducible assumption) | assumption)
                  have q434 : x22_2 < (l0.length : Int) := of_decide_eq_true (by first | (with_reducible assumption) | assumption)
                  obtain ⟨ad434, e434, hx434_0, hx434_1⟩ := at_TRow HR0.out x22_2 p434 q434
                  cases e434
                  replace hx434_0 := (HB.out.cell (World.block_lt_of_cell? w _ hx434_0)).trans hx434_0
                  replace hx434_1 := (HB.out.cell (World.block_lt_of_cell? w _ hx434_1)).trans hx434_1
                  replace p434 := eq_true p434
                  replace q434 := eq_true q434
                  go_upto_region 6 with (first | ((with_reducible refine gate_dst (N := 4) rfl ?_); (try (refine gate_guard (by rfl) ?_; dsimp only)); refine box_event ?hg (N := 4) ?hd (cs := #[.int .i64 0, .string (⟨#[]⟩ : ByteArray)]) (t := 30) ?hr ?_; (case hd => rfl); (case hg => rfl); (case hr => first | (go_simp; done) | (go_simp; rfl)); intro gb435 hg w11 hbox hb; have n0_ := Aside0.mk (below_step (gB HB) hb); have n1_ := Aside0.mk (hbox); have n2_ := Aside0.mk ((by rw [hg]; exact (below_size (gB HB)) : w.heap.size ≤ gb435)); have n3_ := Aside0.mk ((by rw [hg]; exact (below_size (gB HB)) : w.heap.size ≤ gb435)); clear HB; have HB := n0_; have BK435 := n1_; have GW435 := n2_; have GE435 := n3_; clear n0_ n1_ n2_ n3_; clear hb hbox hg; have hcz12_0 : w11.cell? ⟨gb435, 0, none⟩ = some (.int .i64 0) := (blk_cell BK435.out 0).trans rfl; have hcz12_1 : w11.cell? ⟨gb435, 1, none⟩ = some (.string (⟨#[]⟩ : ByteArray)) := (blk_cell BK435.out 1).trans rfl; have hfz12_0 := blk_frozen BK435.out 0; have hfz12_1 := blk_frozen BK435.out 1))
                  (try simp only [Act.put, List.setIfInBounds_toArray, List.set_cons_zero, List.set_cons_succ])
                  go_cut [45] (fun v45 wc => ∃ (kq : Nat) (x45_9 : Bool), v45 = .bool x45_9 ∧ Aside0 (impl_LayoutValid.j2 kq l0 (l0.length : Int) x22_2 x45_9 = some r) ∧ Aside0 (kq ≤ k2) ∧ Aside0 (wc.heap[gb435]? = some (.cells #[.int .i64 ((rd_TRow l0 x22_2).f0), .string ((rd_TRow l0 x22_2).f1)] 30 (0, 0))) ∧ Aside0 (Below w.heap.size w wc))
                  case first =>
                    have H := HC10.out
                    clear HC10
                    by_cases c13 : ((rd_TRow l0 x22_2).f0) < 0
                    · rw [if_pos c13] at H
                      have c13b0 : decide (((rd_TRow l0 x22_2).f0) < 0) = true := decide_eq_true c13
                      clear c13
                      (first | rw [c13b0] | (simp only [i64_w, i32_w]; rw [c13b0]) | skip)
                      have H' := Aside0.mk H
                      clear H
                      have hcz14_0 : w11.cell? ⟨gb435, 0, none⟩ = some (.int .i64 0) := (blk_cell BK435.out 0).trans rfl
                      have hcz14_1 : w11.cell? ⟨gb435, 1, none⟩ = some (.string (⟨#[]⟩ : ByteArray)) := (blk_cell BK435.out 1).trans rfl
                      have hfz14_0 := blk_frozen BK435.out 0
                      have hfz14_1 := blk_frozen BK435.out 1
                      go_wp2
                      go_meet
                      case rel => exact ⟨_, (true), (by first | rfl | (simp; done) | (simp [*]; done)), H', ⟨by have := HJ1.out; have := HK2.out; first | omega | exact Nat.le_refl _⟩, ⟨by (with_reducible repeat (first | refine blk_drewN ?_ _ | refine blk_drew ?_ | refine blk_alloc ?_ _)); refine blk_put (cs := #[.int .i64 ((rd_TRow l0 x22_2).f0), .string (⟨#[]⟩ : ByteArray)]) ?_ 1 _ rfl; (with_reducible repeat (first | refine blk_drewN ?_ _ | refine blk_drew ?_ | refine blk_alloc ?_ _)); refine blk_put (cs := #[.int .i64 0, .string (⟨#[]⟩ : ByteArray)]) ?_ 0 _ rfl; (with_reducible repeat (first | refine blk_drewN ?_ _ | refine blk_drew ?_ | refine blk_alloc ?_ _)); exact BK435.out⟩, ⟨by repeat (first | (with_reducible first | exact HB.out | apply below_alloc | apply pw_below_drewN | apply below_drew1 | refine below_set ?_ GE435.out) | exact HB.out)⟩⟩
                    · rw [if_neg c13] at H
                      have c13b0 : decide (((rd_TRow l0 x22_2).f0) < 0) = false := decide_eq_false c13
                      clear c13
                      (first | rw [c13b0] | (simp only [i64_w, i32_w]; rw [c13b0]) | skip)
                      by_cases c15 : ((rd_TRow l0 x22_2).f0) > 400
                      · rw [if_pos c15] at H
                        have c15b0 : decide (400 < ((rd_TRow l0 x22_2).f0)) = true := decide_eq_true c15
                        clear c15
                        have H' := Aside0.mk H
                        clear H
                        have hcz16_0 : w11.cell? ⟨gb435, 0, none⟩ = some (.int .i64 0) := (blk_cell BK435.out 0).trans rfl
                        have hcz16_1 : w11.cell? ⟨gb435, 1, none⟩ = some (.string (⟨#[]⟩ : ByteArray)) := (blk_cell BK435.out 1).trans rfl
                        have hfz16_0 := blk_frozen BK435.out 0
                        have hfz16_1 := blk_frozen BK435.out 1
                        go_wp2
                        go_meet
                        case rel => exact ⟨_, (true), (by first | rfl | (simp; done) | (simp [*]; done)), H', ⟨by have := HJ1.out; have := HK2.out; first | omega | exact Nat.le_refl _⟩, ⟨by (with_reducible repeat (first | refine blk_drewN ?_ _ | refine blk_drew ?_ | refine blk_alloc ?_ _)); refine blk_put (cs := #[.int .i64 ((rd_TRow l0 x22_2).f0), .string (⟨#[]⟩ : ByteArray)]) ?_ 1 _ rfl; (with_reducible repeat (first | refine blk_drewN ?_ _ | refine blk_drew ?_ | refine blk_alloc ?_ _)); refine blk_put (cs := #[.int .i64 0, .string (⟨#[]⟩ : ByteArray)]) ?_ 0 _ rfl; (with_reducible repeat (first | refine blk_drewN ?_ _ | refine blk_drew ?_ | refine blk_alloc ?_ _)); exact BK435.out⟩, ⟨by repeat (first | (with_reducible first | exact HB.out | apply below_alloc | apply pw_below_drewN | apply below_drew1 | refine below_set ?_ GE435.out) | exact HB.out)⟩⟩
                      · rw [if_neg c15] at H
                        have c15b0 : decide (400 < ((rd_TRow l0 x22_2).f0)) = false := decide_eq_false c15
                        clear c15
                        replace H := Option.bind_eq_some_iff.mp H
                        obtain ⟨t436, A170, H⟩ := H
                        replace H : (if t436 = true then (impl_LayoutValid.j2 k2 l0 (l0.length : Int) x22_2 (decide ((((rd_TRow l0 x22_2).f1).size : Int) ≥ 2000))) else (impl_LayoutValid.j2 k2 l0 (l0.length : Int) x22_2 true)) = some r := H
                        have A17 := Aside0.mk A170
                        clear A170
                        by_cases c18 : t436 = true
                        · subst c18
                          have H1 : (impl_LayoutValid.j2 k2 l0 (l0.length : Int) x22_2 (decide ((((rd_TRow l0 x22_2).f1).size : Int) ≥ 2000))) = some r := by rw [if_pos rfl] at H; exact H
                          clear H
                          have H := H1
                          clear H1
                          have H' := Aside0.mk H
                          clear H
                          have hcz19_0 : w11.cell? ⟨gb435, 0, none⟩ = some (.int .i64 0) := (blk_cell BK435.out 0).trans rfl
                          have hcz19_1 : w11.cell? ⟨gb435, 1, none⟩ = some (.string (⟨#[]⟩ : ByteArray)) := (blk_cell BK435.out 1).trans rfl
                          have hfz19_0 := blk_frozen BK435.out 0
                          have hfz19_1 := blk_frozen BK435.out 1
                          go_wp2_with (first | (go_at_call 45; (with_reducible refine (impl_rowBytes.calls k2 ((rd_TRow l0 x22_2).f1) true _ A17.out).mono ?_); rintro e w' ⟨rfl, ⟨nd, rfl⟩⟩))
                          go_meet
                          case rel => exact ⟨_, (decide ((((rd_TRow l0 x22_2).f1).size : Int) ≥ 2000)), (by first | rfl | (simp; done) | (simp [*]; done)), H', ⟨by have := HJ1.out; have := HK2.out; first | omega | exact Nat.le_refl _⟩, ⟨by (with_reducible repeat (first | refine blk_drewN ?_ _ | refine blk_drew ?_ | refine blk_alloc ?_ _)); refine blk_put (cs := #[.int .i64 ((rd_TRow l0 x22_2).f0), .string (⟨#[]⟩ : ByteArray)]) ?_ 1 _ rfl; (with_reducible repeat (first | refine blk_drewN ?_ _ | refine blk_drew ?_ | refine blk_alloc ?_ _)); refine blk_put (cs := #[.int .i64 0, .string (⟨#[]⟩ : ByteArray)]) ?_ 0 _ rfl; (with_reducible repeat (first | refine blk_drewN ?_ _ | refine blk_drew ?_ | refine blk_alloc ?_ _)); exact BK435.out⟩, ⟨by repeat (first | (with_reducible first | exact HB.out | apply below_alloc | apply pw_below_drewN | apply below_drew1 | refine below_set ?_ GE435.out) | exact HB.out)⟩⟩
                        · replace c18 := Bool.eq_false_iff.mpr c18
                          subst c18
                          have H1 : (impl_LayoutValid.j2 k2 l0 (l0.length : Int) x22_2 true) = some r := by rw [if_neg (show ¬ (false = true) by decide)] at H; exact H
                          clear H
                          have H := H1
                          clear H1
                          have H' := Aside0.mk H
                          clear H
                          have hcz20_0 : w11.cell? ⟨gb435, 0, none⟩ = some (.int .i64 0) := (blk_cell BK435.out 0).trans rfl
                          have hcz20_1 : w11.cell? ⟨gb435, 1, none⟩ = some (.string (⟨#[]⟩ : ByteArray)) := (blk_cell BK435.out 1).trans rfl
                          have hfz20_0 := blk_frozen BK435.out 0
                          have hfz20_1 := blk_frozen BK435.out 1
                          go_wp2_with (first | (go_at_call 45; (with_reducible refine (impl_rowBytes.calls k2 ((rd_TRow l0 x22_2).f1) false _ A17.out).mono ?_); rintro e w' ⟨rfl, ⟨nd, rfl⟩⟩))
                          go_meet
                          case rel => exact ⟨_, (true), (by first | rfl | (simp; done) | (simp [*]; done)), H', ⟨by have := HJ1.out; have := HK2.out; first | omega | exact Nat.le_refl _⟩, ⟨by (with_reducible repeat (first | refine blk_drewN ?_ _ | refine blk_drew ?_ | refine blk_alloc ?_ _)); refine blk_put (cs := #[.int .i64 ((rd_TRow l0 x22_2).f0), .string (⟨#[]⟩ : ByteArray)]) ?_ 1 _ rfl; (with_reducible repeat (first | refine blk_drewN ?_ _ | refine blk_drew ?_ | refine blk_alloc ?_ _)); refine blk_put (cs := #[.int .i64 0, .string (⟨#[]⟩ : ByteArray)]) ?_ 0 _ rfl; (with_reducible repeat (first | refine blk_drewN ?_ _ | refine blk_drew ?_ | refine blk_alloc ?_ _)); exact BK435.out⟩, ⟨by repeat (first | (with_reducible first | exact HB.out | apply below_alloc | apply pw_below_drewN | apply below_drew1 | refine below_set ?_ GE435.out) | exact HB.out)⟩⟩
                  case rest =>
                    clear HC10
                    try clear c1
                    try clear p2
                    try clear c3
                    try clear c3b0
                    try clear c3b1
                    try clear c4
                    try clear c4b0
                    try clear c4b1
                    try clear p4
                    try clear q4
                    try clear hx4
                    try clear qi4
                    try clear c5
                    try clear c5b0
                    try clear c5b1
                    try clear c6
                    try clear c7
                    try clear c7b0
                    try clear c8
                    try clear c8b0
                    try clear c9
                    try clear c9b0
                    try clear c13
                    try clear c13b0
                    try clear c15
                    try clear c15b0
                    try clear c18
                    try clear c19
                    try clear hcz12_0
                    try clear hcz12_1
                    try clear hcz14_0
                    try clear hcz14_1
                    try clear hcz16_0
                    try clear hcz16_1
                    try clear hcz19_0
                    try clear hcz19_1
                    try clear hcz20_0
                    try clear hcz20_1
                    try clear hfz12_0
                    try clear hfz12_1
                    try clear hfz14_0
                    try clear hfz14_1
                    try clear hfz16_0
                    try clear hfz16_1
                    try clear hfz19_0
                    try clear hfz19_1
                    try clear hfz20_0
                    try clear hfz20_1
                    try clear hx433_0
                    try clear hx433_1
                    try clear hx434_0
                    try clear hx434_1
                    try clear p2
                    try clear p4
                    try clear p433
                    try clear p434
                    try clear q4
                    try clear q433
                    try clear q434
                    obtain ⟨kq, x45_9, rfl, HA, HJ9, BK435, HB⟩ := hcut
                    cases kq with
                    | zero => exact absurd HA.out (by simp [impl_LayoutValid.j2])
                    | succ kj9 =>
                      have H := HA.out
                      clear HA
                      simp only [impl_LayoutValid.j2] at H
                      by_cases c21 : x45_9 = true
                      · subst c21
                        have H1 : (some false) = some r := by rw [if_pos rfl] at H; exact H
                        clear H
                        have H := H1
                        clear H1
                        obtain rfl := Option.some.inj H
                        go_wp2
                        go_ret
                        exact ⟨by first | rfl | (simp [errW_none, errW_some] <;> rfl) | (simp [*, errW_none, errW_some] <;> rfl), by repeat (first | (with_reducible first | exact HB.out | apply below_alloc | apply pw_below_drewN | apply below_drew1 | refine below_set ?_ GE435.out) | exact HB.out)⟩
                      · replace c21 := Bool.eq_false_iff.mpr c21
                        subst c21
                        have H1 : (impl_LayoutValid.l0 kj9 l0 (l0.length : Int) (wrap64 (x22_2 + 1))) = some r := by rw [if_neg (show ¬ (false = true) by decide)] at H; exact H
                        clear H
                        have H := H1
                        clear H1
                        have H' := Aside0.mk H
                        clear H
                        go_wp2
                        go_roundg kj9
                        case measure => have := HJ1.out; have := HK2.out; have := HJ9.out; omega
                        case rel => exact ⟨(wrap64 (x22_2 + 1)), (by first | rfl | (simp; done) | (simp [*]; done)), H', ⟨by have := HJ1.out; have := HK2.out; have := HJ9.out; omega⟩, ⟨by repeat (first | (with_reducible first | exact HB.out | apply below_alloc | apply pw_below_drewN | apply below_drew1 | refine below_set ?_ GE435.out) | exact HB.out)⟩⟩
                · rw [if_neg c9] at H
                  exact absurd H (by simp)
              · rw [if_neg c8] at H
                exact absurd H (by simp)
            · rw [if_neg c7] at H
              have c7b0 : decide (x22_2 < (l0.length : Int)) = false := decide_eq_false c7
              clear c7
              obtain rfl := Option.some.inj H
              go_wp2
              go_ret
              exact ⟨by first | rfl | (simp [errW_none, errW_some] <;> rfl) | (simp [*, errW_none, errW_some] <;> rfl), gB HB⟩
end Go.Proofs.Ytdhdfmmefghijab.P
namespace Go.Proofs.Ytdhdfmmefghijab.P
open Go.RowKit Go.Proofs.YtdhdfmmefghijabW.PrintWords Go.Proofs.YtdhdfmmefghijabW.PrintLast Go.Proofs.YtdhdfmmefghijabW.PrintMore
attribute [local go_sem] max2_int min2_int max_two min_two max_three min_three max_four min_four
set_option linter.unusedVariables false
set_option linter.unusedSimpArgs false
def slices_Clone_Llimpl_Row.f (l0 : List (SRow)) : Option ((List (SRow))) := if l0.length < 5864062014805 then some l0 else none
set_option maxHeartbeats 8000000 in
set_option maxRecDepth 100000 in
theorem slices_Clone_Llimpl_Row.calls (A0 : Option Addr) (c0 : Nat) (l0 : List (SRow)) (r : List (SRow)) (w : World) (hr0 : Kd.C k30 w A0 l0.length l0) (hc0 : l0.length ≤ c0) (h : slices_Clone_Llimpl_Row.f l0 = some r) :
    Calls Try.prog 67 #[.slice A0 l0.length c0] w fun e w' => ∃ v0_ : Value, e = .returned (v0_) ∧ Kd.R k30 30 w' w.heap.size (fun _ => True) v0_ r ∧ Below w.heap.size w w' := by
  unfold slices_Clone_Llimpl_Row.f at h
  by_cases c2 : l0.length < 5864062014805
  case neg => rw [if_neg c2] at h; cases h
  rw [if_pos c2] at h
  obtain rfl := Option.some.inj h
  clear h
  have hq := fun (W : World) (a : Option Addr) (n c : Nat) => Lib.run_eql_slice_nil (P := Try.prog) W 23 30 a n c 0 0 Try.underlying23
  cases A0 with
  | none =>
    have hl : l0.length = 0 := by
      rcases Nat.eq_zero_or_pos l0.length with h | h
      · exact h
      · obtain ⟨ad, he, _⟩ := hr0.2.2 h; cases he
    obtain rfl := List.length_eq_zero_iff.1 hl
    clear hr0 hc0 hl c2
    go_enter Try.func67, Try.ntmps67
    go_wp2
    go_ret
    exact ⟨_, rfl, Kd.R_nil _ _ _ _ _, Below.refl _ _⟩
  | some ad0 =>
  have HR0 := Aside0.mk hr0
  have HC0 := Aside0.mk hc0
  clear hr0 hc0
  have HB := Aside0.mk (Below.refl w.heap.size w)
  obtain ⟨y528, hy528⟩ : ∃ y_ : List (SRow), y_ = (([] : List (SRow))) := ⟨_, rfl⟩
  have LMc2 : Aside0 (y528.length + l0.length < 5864062014805) := ⟨by rw [hy528]; simpa using c2⟩
  have Ny528 := Aside0.mk hy528
  clear hy528
  clear c2
  obtain ⟨y531, hy531⟩ : ∃ y_ : List (SRow), y_ = (y528 ++ l0) := ⟨_, rfl⟩
  have Ny531 := Aside0.mk hy531
  have Nl : Aside0 (l0 = y531) := ⟨by rw [hy531, Ny528.out]; simp⟩
  clear hy531
  go_enter Try.func67, Try.ntmps67
  go_wp2_with (first | ((with_reducible refine gate_dst (N := 5) rfl ?_); refine Kd.R_lit k30 _ 30 ?hg (N := 5) ?hd (xs := ([] : List (SRow))) (inner := []) (ok := fun _ => True) (okp := fun _ => True) ?hr ?hp (fun _ hk => hk) trivial (Below.refl _ _) (Nat.le_refl _) (by simp) ?_; (case hd => rfl); (case hg => rfl); (case hr => first | (go_simp; done) | (go_simp; rfl)); (case hp => exact (Reps.none _ _)); intro v529 w3 ho4 hb hg_ hnew_; clear hg_ hnew_; (first | rw [← Ny528.out] at ho4 | (simp only [Int.reduceToNat] at ho4; rw [← Ny528.out] at ho4)); have n0_ := Aside0.mk (Kd.R_lower ho4 (below_size (gB HB))); have n1_ := Aside0.mk (below_step (gB HB) hb); clear HB; have HO530 := n0_; have HB := n1_; clear n0_ n1_; clear hb ho4) | ((with_reducible refine gate_builtin (b := .append) (xs := #[.tmp 5, .tmp 6]) rfl ?_); at_builtin; refine Kd.R_append_rows k30 (w0 := w) w.heap.size rfl (.tmp 5) (.tmp 6) 23 30 (.agg #[(.int .i64 0), (.string ⟨#[]⟩)]) 24 rfl Try.underlying23 (by kernel_rfl) rfl (by decide) (by omega) v529 y528 l0 _ _ _ (fun _ => True) (fun _ => False) rfl rfl ?aO ?aR (fun _ _ h => h) (fun _ h => h.elim) ?aF ?aB ?aS ?aL ?_; (case aR => exact gC (Kd.C_below HR0.out HB.out)); (case aB => exact (gB HB)); (case aF => exact (fun _ _ => trivial)); (case aO => exact (gR HO530)); (case aS => exact (below_size (gB HB))); (case aL => have := LMc2.out; omega); intro v532 w5 ho hb hg hat; rw [← Ny531.out] at ho; have n0_ := Aside0.mk (hb); have n1_ := Aside0.mk (ho); clear HB; clear HO530; have HB := n0_; have HO533 := n1_; clear n0_ n1_; clear ho hb hg hat))
  go_ret
  exact ⟨_, rfl, by rw [Nl.out]; exact HO533.out, HB.out⟩
end Go.Proofs.Ytdhdfmmefghijab.P
namespace Go.Proofs.Ytdhdfmmefghijab.P
open Go.RowKit Go.Proofs.YtdhdfmmefghijabW.PrintWords Go.Proofs.YtdhdfmmefghijabW.PrintLast Go.Proofs.YtdhdfmmefghijabW.PrintMore
attribute [local go_sem] max2_int min2_int max_two min_two max_three min_three max_four min_four
set_option linter.unusedVariables false
set_option linter.unusedSimpArgs false
def impl_catRows.f (l0 : List (SRow)) (l1 : List (SRow)) : Option ((List (SRow))) := (slices_Clone_Llimpl_Row.f l0).bind fun t437 => (if 1 ≤ (l1.length : Int) then ((some (l1.drop 1 : List (SRow))).bind fun y440 => (if t437.length + y440.length < 5864062014805 then ((some (t437 ++ y440 : List (SRow))).bind fun y444 => (if 0 ≤ (wrap64 ((l0.length : Int) - 1)) then (if (wrap64 ((l0.length : Int) - 1)) < (y444.length : Int) then (if 0 < (l1.length : Int) then (if ((rd_TRow y444 (wrap64 ((l0.length : Int) - 1))).f1).size + ((rd_TRow l1 0).f1).size ≤ 9223372036854775807 then (some (y444.set ((wrap64 ((l0.length : Int) - 1)) : Int).toNat (⟨(rd_TRow y444 (wrap64 ((l0.length : Int) - 1))).f0, ((rd_TRow y444 (wrap64 ((l0.length : Int) - 1))).f1) ++ ((rd_TRow l1 0).f1)⟩ : SRow))) else (none)) else (none)) else (none)) else (none))) else (none))) else (none))
def impl_catRows.T2 : Bool × List (List Nat × List Nat) := (true, [([], []), ([], []), ([1], [1]), ([2], [2]), ([0, 3], [0, 3]), ([4], [4]), ([5], [5]), ([], []), ([7], [7]), ([8], [8]), ([9], [9]), ([6, 10], [6, 10]), ([0, 3, 0, 1, 2, 3, 4, 5, 6, 7, 8, 9, 10, 11], [0, 3]), ([12, 0, 1, 2, 3, 4, 5, 6, 7, 8, 9, 10, 11], [12]), ([13, 11, 0, 1, 2, 3, 4, 5, 6, 7, 8, 9, 10, 11], [11, 13])])
def impl_catRows.B2 : List Nat := [0, 0, 2, 6, 15, 31, 63, 0, 128, 384, 896, 2047, 4095, 8191, 16383]
theorem impl_catRows.tab2 : rtab .any (opsOf Try.f42 2) = impl_catRows.T2 := by kernel_rfl
theorem impl_catRows.bits2 : waitsOk impl_catRows.T2.2 impl_catRows.B2 = true := by kernel_rfl
set_option maxHeartbeats 8000000 in
set_option maxRecDepth 100000 in
theorem impl_catRows.calls (A0 : Option Addr) (c0 : Nat) (l0 : List (SRow)) (A1 : Option Addr) (c1 : Nat) (l1 : List (SRow)) (r : List (SRow)) (w : World) (hr0 : Kd.C k30 w A0 l0.length l0) (hc0 : l0.length ≤ c0) (hr1 : Kd.C k30 w A1 l1.length l1) (hc1 : l1.length ≤ c1) (h : impl_catRows.f l0 l1 = some r) :
    Calls Try.prog 42 #[.slice A0 l0.length c0, .slice A1 l1.length c1] w fun e w' => ∃ v0_ : Value, e = .returned (v0_) ∧ Kd.R k30 30 w' w.heap.size (fun _ => True) v0_ r ∧ Below w.heap.size w w' := by
  have HR0 := Aside0.mk hr0
  have HC0 := Aside0.mk hc0
  clear hr0 hc0
  have HR1 := Aside0.mk hr1
  have HC1 := Aside0.mk hc1
  clear hr1 hc1
  have HB := Aside0.mk (Below.refl w.heap.size w)
  have H : ((slices_Clone_Llimpl_Row.f l0).bind fun t437 => (if 1 ≤ (l1.length : Int) then ((some (l1.drop 1 : List (SRow))).bind fun y440 => (if t437.length + y440.length < 5864062014805 then ((some (t437 ++ y440 : List (SRow))).bind fun y444 => (if 0 ≤ (wrap64 ((l0.length : Int) - 1)) then (if (wrap64 ((l0.length : Int) - 1)) < (y444.length : Int) then (if 0 < (l1.length : Int) then (if ((rd_TRow y444 (wrap64 ((l0.length : Int) - 1))).f1).size + ((rd_TRow l1 0).f1).size ≤ 9223372036854775807 then (some (y444.set ((wrap64 ((l0.length : Int) - 1)) : Int).toNat (⟨(rd_TRow y444 (wrap64 ((l0.length : Int) - 1))).f0, ((rd_TRow y444 (wrap64 ((l0.length : Int) - 1))).f1) ++ ((rd_TRow l1 0).f1)⟩ : SRow))) else (none)) else (none)) else (none)) else (none))) else (none))) else (none))) = some r := h
  clear h
  replace H := Option.bind_eq_some_iff.mp H
  obtain ⟨t437, A30, H⟩ := H
  replace H : (if 1 ≤ (l1.length : Int) then ((some (l1.drop 1 : List (SRow))).bind fun y440 => (if t437.length + y440.length < 5864062014805 then ((some (t437 ++ y440 : List (SRow))).bind fun y444 => (if 0 ≤ (wrap64 ((l0.length : Int) - 1)) then (if (wrap64 ((l0.length : Int) - 1)) < (y444.length : Int) then (if 0 < (l1.length : Int) then (if ((rd_TRow y444 (wrap64 ((l0.length : Int) - 1))).f1).size + ((rd_TRow l1 0).f1).size ≤ 9223372036854775807 then (some (y444.set ((wrap64 ((l0.length : Int) - 1)) : Int).toNat (⟨(rd_TRow y444 (wrap64 ((l0.length : Int) - 1))).f0, ((rd_TRow y444 (wrap64 ((l0.length : Int) - 1))).f1) ++ ((rd_TRow l1 0).f1)⟩ : SRow))) else (none)) else (none)) else (none)) else (none))) else (none))) else (none)) = some r := H
  have A3 := Aside0.mk A30
  clear A30
  by_cases c4 : 1 ≤ (l1.length : Int)
  · rw [if_pos c4] at H
    have c4b0 := eq_true c4
    have c4b1 : decide (1 ≤ (l1.length : Int)) = true := decide_eq_true c4
    clear c4
    obtain ⟨y440, hy440⟩ : ∃ y_ : List (SRow), y_ = (l1.drop 1) := ⟨_, rfl⟩
    replace H : (if t437.length + y440.length < 5864062014805 then ((some (t437 ++ y440 : List (SRow))).bind fun y444 => (if 0 ≤ (wrap64 ((l0.length : Int) - 1)) then (if (wrap64 ((l0.length : Int) - 1)) < (y444.length : Int) then (if 0 < (l1.length : Int) then (if ((rd_TRow y444 (wrap64 ((l0.length : Int) - 1))).f1).size + ((rd_TRow l1 0).f1).size ≤ 9223372036854775807 then (some (y444.set ((wrap64 ((l0.length : Int) - 1)) : Int).toNat (⟨(rd_TRow y444 (wrap64 ((l0.length : Int) - 1))).f0, ((rd_TRow y444 (wrap64 ((l0.length : Int) - 1))).f1) ++ ((rd_TRow l1 0).f1)⟩ : SRow))) else (none)) else (none)) else (none)) else (none))) else (none)) = some r := by first | (rw [hy440]; with_reducible exact H) | (have H2_ := (Option.bind_some _ _).symm.trans H; rw [hy440]; with_reducible exact H2_) | (have H2_ := (Option.bind_some _ _).symm.trans H; with_reducible exact H2_) | with_reducible exact H | (rw [hy440]; exact H) | exact H
    have Ny440 := Aside0.mk hy440
    clear hy440
    by_cases c5 : t437.length + y440.length < 5864062014805
    · rw [if_pos c5] at H
      have LMc5 := Aside0.mk c5
      clear c5
      obtain ⟨y444, hy444⟩ : ∃ y_ : List (SRow), y_ = (t437 ++ y440) := ⟨_, rfl⟩
      replace H : (if 0 ≤ (wrap64 ((l0.length : Int) - 1)) then (if (wrap64 ((l0.length : Int) - 1)) < (y444.length : Int) then (if 0 < (l1.length : Int) then (if ((rd_TRow y444 (wrap64 ((l0.length : Int) - 1))).f1).size + ((rd_TRow l1 0).f1).size ≤ 9223372036854775807 then (some (y444.set ((wrap64 ((l0.length : Int) - 1)) : Int).toNat (⟨(rd_TRow y444 (wrap64 ((l0.length : Int) - 1))).f0, ((rd_TRow y444 (wrap64 ((l0.length : Int) - 1))).f1) ++ ((rd_TRow l1 0).f1)⟩ : SRow))) else (none)) else (none)) else (none)) else (none)) = some r := by first | (rw [hy444]; with_reducible exact H) | (have H2_ := (Option.bind_some _ _).symm.trans H; rw [hy444]; with_reducible exact H2_) | (have H2_ := (Option.bind_some _ _).symm.trans H; with_reducible exact H2_) | with_reducible exact H | (rw [hy444]; exact H) | exact H
      have Ny444 := Aside0.mk hy444
      clear hy444
      obtain ⟨ji6, hji6⟩ : ∃ j_ : Int, (wrap64 ((l0.length : Int) - 1)) = j_ := ⟨_, rfl⟩
      replace H : (if 0 ≤ (ji6) then (if (ji6) < (y444.length : Int) then (if 0 < (l1.length : Int) then (if ((rd_TRow y444 (ji6)).f1).size + ((rd_TRow l1 0).f1).size ≤ 9223372036854775807 then (some (y444.set ((ji6) : Int).toNat (⟨(rd_TRow y444 (ji6)).f0, ((rd_TRow y444 (ji6)).f1) ++ ((rd_TRow l1 0).f1)⟩ : SRow))) else (none)) else (none)) else (none)) else (none)) = some r := by first | (rw [hji6] at H; exact H) | (simp only [hji6] at H ⊢; exact H)
      (try rw [hji6] at A3)
      have hji6w : (IntKind.i64.wrap ((l0.length : Int) - 1)) = ji6 := (i64_w _).trans hji6
      by_cases c7 : 0 ≤ (ji6)
      · rw [if_pos c7] at H
        have c7b0 : decide (0 ≤ (ji6)) = true := decide_eq_true c7
        clear c7
        by_cases c8 : (ji6) < (y444.length : Int)
        · rw [if_pos c8] at H
          have c8b0 : decide ((ji6) < (y444.length : Int)) = true := decide_eq_true c8
          clear c8
          by_cases c9 : 0 < (l1.length : Int)
          · rw [if_pos c9] at H
            have c9b0 : decide (0 < (l1.length : Int)) = true := decide_eq_true c9
            have c9b1 : decide (0 < l1.length) = true := decide_eq_true (by omega)
            clear c9
            by_cases c10 : ((rd_TRow y444 (ji6)).f1).size + ((rd_TRow l1 0).f1).size ≤ 9223372036854775807
            · rw [if_pos c10] at H
              have c10b0 := eq_true c10
              have c10b1 : decide (((rd_TRow y444 (ji6)).f1).size + ((rd_TRow l1 0).f1).size ≤ 9223372036854775807) = true := decide_eq_true c10
              try have c10b2 : (9223372036854775807 < ((rd_TRow y444 (ji6)).f1).size + ((rd_TRow l1 0).f1).size) = False := eq_false (Nat.not_lt.2 c10)
              obtain ⟨y449, hy449⟩ : ∃ y_ : List (SRow), y_ = (y444.set ((ji6) : Int).toNat (⟨(rd_TRow y444 (ji6)).f0, ((rd_TRow y444 (ji6)).f1) ++ ((rd_TRow l1 0).f1)⟩ : SRow)) := ⟨_, rfl⟩
              replace H : (some y449) = some r := by first | (rw [hy449]; with_reducible exact H) | (have H2_ := (Option.bind_some _ _).symm.trans H; rw [hy449]; with_reducible exact H2_) | (have H2_ := (Option.bind_some _ _).symm.trans H; with_reducible exact H2_) | with_reducible exact H | (rw [hy449]; exact H) | exact H
              have Ny449 := Aside0.mk hy449
              clear hy449
              obtain rfl := Option.some.inj H
              go_enter Try.func42, Try.ntmps42
              try go_wp2
              have n0_ := Aside0.mk (below_drew1 HB.out)
              clear HB
              have HB := n0_
              clear n0_
              have q13 : (1 : Int) ≤ ((l1.length : Int) : Int) := of_decide_eq_true (by first | (with_reducible assumption) | assumption)
              obtain ⟨i013, hi013, _, hsz13, _⟩ := info_parts info30
              have hroom13 : l1.length ≤ c1 := HC1.out
              have hC13 : Kd.C k30 _ A1 l1.length l1 := HR1.out
              have hcut13 := cut_from (P := Try.prog) 23 30 .i64 Try.underlying23 hi013 2 hsz13 A1 l1.length c1 1 (by omega) q13
              have hr13 := Kd.C_drop (m := (1 : Int).toNat) (c := c1) hC13 (by omega) hroom13
              obtain ⟨A13, hA13⟩ : ∃ Az_, Az_ = (if c1 = (1 : Int).toNat then A1 else (A1 : Option Addr).map (·.add ((1 : Int).toNat * 2))) := ⟨_, rfl⟩
              obtain ⟨c13, hc13⟩ : ∃ cz_, cz_ = c1 - (1 : Int).toNat := ⟨_, rfl⟩
              have hy13 : y440.length = l1.length - (1 : Int).toNat := (by rw [Ny440.out, List.length_drop] <;> omega)
              rw [show (l1).drop (1 : Int).toNat = y440 from Ny440.out.symm] at hr13
              replace hr13 : Kd.C k30 _ A13 y440.length y440 := (by rw [hA13]; exact hr13)
              rw [← hy13, ← hA13, ← hc13] at hcut13
              have HR443 := Aside0.mk hr13
              have HC443 := Aside0.mk (show y440.length ≤ c13 from by rw [hy13, hc13]; exact Nat.sub_le_sub_right hroom13 _)
              clear hr13 hC13 hroom13 hi013 hsz13 hc13
              have KY13 := Aside0.mk hy13
              have KA13 := Aside0.mk hA13
              clear hy13 hA13
              replace q13 := eq_true q13
              refine start_ (n := 6) (S := fun w' => True) (ds := []) #[false, false, false, false, false, false] (by kernel_rfl) rfl rfl trivial (fun hHeld => ?_)
              generalize w.drew = w12 at HB HR443 hHeld ⊢
              refine pure_ (i := 0) (N := some 6) (v := ?_) (a' := ?_) #[true, false, false, false, false, false] rfl rfl (by kernel_rfl) (fun _ _ _ h => h) (Or.inl ⟨by rfl, ?_⟩) ?_ ?_
              rotate_left
              · intro w'
                go_simp
                with_reducible rfl
              rotate_left
              · simp only [Act.put, List.setIfInBounds_toArray, List.set_cons_zero, List.set_cons_succ, i64_w, i32_w]
                rfl
              refine pure_ (i := 2) (N := some 8) (v := ?_) (a' := ?_) #[true, false, true, false, false, false] rfl rfl (by kernel_rfl) (fun _ _ _ h => h) (Or.inl ⟨by rfl, ?_⟩) ?_ ?_
              rotate_left
              · intro w'
                go_simp
                with_reducible rfl
              rotate_left
              · simp only [Act.put, List.setIfInBounds_toArray, List.set_cons_zero, List.set_cons_succ, i64_w, i32_w]
                rfl
              refine pure_ (i := 3) (N := some 9) (v := ?_) (a' := ?_) #[true, false, true, true, false, false] rfl rfl (by kernel_rfl) (fun _ _ _ h => h) (Or.inl ⟨by rfl, ?_⟩) ?_ ?_
              rotate_left
              · intro w'
                go_simp
                with_reducible rfl
              rotate_left
              · simp only [Act.put, List.setIfInBounds_toArray, List.set_cons_zero, List.set_cons_succ, i64_w, i32_w]
                rfl
              refine one_ (i := 1) (N := some 7) #[true, true, true, true, false, false] rfl rfl (by kernel_rfl) (by decide) (fun K hK => ?_)
              refine goes_ Try.func67 (by kernel_rfl) rfl #[.slice A0 l0.length c0] (by rfl) rfl rfl (by (try simp only [List.map_toArray, List.map_cons, List.map_nil]); first | done | rfl | (simp only [List.length_drop, List.length_take]; rfl)) ?_
              with_reducible refine (slices_Clone_Llimpl_Row.calls _ _ l0 t437 _ ?side1 ?side2 A3.out).mono ?_
              (case side1 => repeat (first | exact (Kd.C_below HR0.out HB.out) | (with_reducible refine Kd.C_alloc ?_ _) | (with_reducible refine Kd.C_drewN ?_ _) | (with_reducible refine Kd.C_drew ?_)))
              (case side2 => exact HC0.out)
              rintro e w14 ⟨v438, rfl, ho0, hb⟩
              refine ⟨_, rfl, ?_⟩
              have n0_ := Aside0.mk (Kd.R_lower ho0 (below_size (by repeat (first | (with_reducible first | exact HB.out | apply below_alloc | apply pw_below_drewN | apply below_drew1) | exact HB.out))))
              have n1_ := Aside0.mk (below_step (by repeat (first | (with_reducible first | exact HB.out | apply below_alloc | apply pw_below_drewN | apply below_drew1) | exact HB.out)) hb)
              clear HB
              have HO439 := n0_
              have HB := n1_
              clear n0_ n1_
              (try clear hb)
              (try clear hb2)
              (try clear hk)
              (try clear hi)
              (try clear ho0)
              refine hK.out _ _ trivial (fun hHeld => ?_)
              clear hK K
              refine norm_ (a' := ?_) ?_ ?_
              rotate_left
              · show Act.put _ (some 7) _ = _
                simp only [Act.put, List.setIfInBounds_toArray, List.set_cons_zero, List.set_cons_succ, i64_w, i32_w]
                rfl
              refine one_ (i := 4) (N := some 10) #[true, true, true, true, true, false] rfl rfl (by kernel_rfl) (by decide) (fun K hK => ?_)
              refine Kd.R_append_rows_step k30 (w0 := w) w.heap.size (by rfl) (.tmp 7) (.tmp 9) 23 30 (.agg #[(.int .i64 0), (.string ⟨#[]⟩)]) 24 rfl Try.underlying23 info30 rfl (by decide) (by omega) v438 t437 y440 _ _ _ (fun _ => True) (fun _ => False) rfl rfl ?aO ?aR (fun _ _ h => h) (fun _ h => h.elim) ?aF ?aB ?aS ?aL ?_
              (case aR => repeat (first | exact (Kd.C_below HR443.out HB.out) | (with_reducible refine Kd.C_alloc ?_ _) | (with_reducible refine Kd.C_drewN ?_ _) | (with_reducible refine Kd.C_drew ?_)))
              (case aB => exact (by repeat (first | (with_reducible first | exact HB.out | apply below_alloc | apply pw_below_drewN | apply below_drew1) | exact HB.out)))
              (case aF => exact (fun _ _ => trivial))
              (case aO => exact (by (with_reducible repeat (first | apply Kd.R_alloc | apply Kd.R_drewN | apply Kd.R_drew)); exact HO439.out))
              (case aS => exact (below_size (by repeat (first | (with_reducible first | exact HB.out | apply below_alloc | apply pw_below_drewN | apply below_drew1) | exact HB.out))))
              (case aL => have := LMc5.out; omega)
              intro v445 w15 ho hb hg hat
              rw [← Ny444.out] at ho
              have n0_ := Aside0.mk (hb)
              have n1_ := Aside0.mk (ho)
              clear HB
              clear HO439
              have HB := n0_
              have HO446 := n1_
              clear n0_ n1_
              clear ho hb hg hat
              refine hK.out _ _ trivial (fun hHeld => ?_)
              clear hK K
              refine norm_ (a' := ?_) ?_ ?_
              rotate_left
              · show Act.put _ (some 10) _ = _
                simp only [Act.put, List.setIfInBounds_toArray, List.set_cons_zero, List.set_cons_succ, i64_w, i32_w]
                rfl
              refine pure_ (i := 5) (N := some 5) (v := ?_) (a' := ?_) #[true, true, true, true, true, true] rfl rfl (by kernel_rfl) (fun _ _ _ h => h) (Or.inl ⟨by rfl, ?_⟩) ?_ ?_
              rotate_left
              · intro w'
                go_simp
                with_reducible rfl
              rotate_left
              · simp only [Act.put, List.setIfInBounds_toArray, List.set_cons_zero, List.set_cons_succ, i64_w, i32_w]
                rfl
              refine done_ (by kernel_rfl) ?_
              try go_wp2
              have n0_ := Aside0.mk (Kd.R_drew HO446.out)
              have n1_ := Aside0.mk (below_drew1 HB.out)
              clear HO446
              clear HB
              have HO446 := n0_
              have HB := n1_
              clear n0_ n1_
              obtain ⟨Ao17, co17, eo17⟩ := Kd.R_slice HO446.out
              (first | subst eo17 | (injection eo17 with f1_ f2_ f3_; have f4_ := f1_.symm; have f5_ := f3_.symm; clear f1_ f2_ f3_; subst f4_; subst f5_))
              have p447 : 0 ≤ ((ji6) : Int) := of_decide_eq_true (by first | (with_reducible assumption) | assumption)
              have q447 : (ji6) < (y444.length : Int) := of_decide_eq_true (by first | (with_reducible assumption) | assumption)
              obtain ⟨ad447, e447, hx447_0, hx447_1⟩ := at_TRow (Kd.R_reads' HO446.out).2.2 (ji6) p447 q447
              cases e447
              replace p447 := eq_true p447
              replace q447 := eq_true q447
              have p448 : 0 ≤ (0 : Int) := (by omega)
              have q448 : 0 < (l1.length : Int) := of_decide_eq_true (by first | (with_reducible assumption) | assumption)
              obtain ⟨ad448, e448, hx448_0, hx448_1⟩ := at_TRow HR1.out 0 p448 q448
              have hw448_1 := hx448_1
              (try rw [show ((0 : Int)).toNat = 0 from rfl] at hw448_1)
              (try rw [show 0 * 2 = 0 from rfl] at hw448_1)
              (try rw [Addr.add_zero'] at hw448_1)
              have hw448_0 := hx448_0
              (try rw [show ((0 : Int)).toNat = 0 from rfl] at hw448_0)
              (try rw [show 0 * 2 = 0 from rfl] at hw448_0)
              (try rw [Addr.add_zero'] at hw448_0)
              cases e448
              have qi448 : (0 < l1.length) = True := eq_true (by omega)
              (try rw [show ((0 : Int)).toNat = 0 from rfl] at hx448_0)
              (try rw [show 0 * 2 = 0 from rfl] at hx448_0)
              (try rw [Addr.add_zero'] at hx448_0)
              (try rw [show ((0 : Int)).toNat = 0 from rfl] at hx448_1)
              (try rw [show 0 * 2 = 0 from rfl] at hx448_1)
              (try rw [Addr.add_zero'] at hx448_1)
              replace hx448_0 := (HB.out.cell (World.block_lt_of_cell? w _ hx448_0)).trans hx448_0
              replace hx448_1 := (HB.out.cell (World.block_lt_of_cell? w _ hx448_1)).trans hx448_1
              replace p448 := eq_true p448
              replace q448 := eq_true q448
              have p11 : 0 ≤ ((ji6) : Int) := of_decide_eq_true (by first | (with_reducible assumption) | assumption)
              have q11 : ((ji6) : Int) < ((y444.length : Int) : Int) := of_decide_eq_true (by first | (with_reducible assumption) | assumption)
              obtain ⟨go11, co11, eo11, gb11, gl11, cl11, HG11⟩ := Kd.R_form HO446.out (by omega)
              (first | cases eo11 | (injection eo11 with ea_ en_ ec_; (first | subst ea_ | (injection ea_ with ea_; subst ea_)); subst ec_; clear en_))
              have GB11 := Aside0.mk gb11
              have GG11 := Aside0.mk HG11
              clear gb11 gl11 HG11
              (first | simp only [add_plain] at hx447_0 | skip)
              (first | simp only [add_plain] at hx447_1 | skip)
              obtain ⟨ce11, hcl11, hM11, hcc11, hfr11⟩ := Kd.R_elem HO446.out zRow ((ji6) : Int) p11 q11
              obtain rfl := k30_openM hM11
              have hx11_0 : World.cell? _ ⟨go11, ((ji6) : Int).toNat * 2, none⟩ = some (.int .i64 ((rd_TRow y444 (ji6)).f0)) := hcc11 0 _ rfl
              have hx11_1 : World.cell? _ ⟨go11, ((ji6) : Int).toNat * 2 + 1, none⟩ = some (.string ((rd_TRow y444 (ji6)).f1)) := hcc11 1 _ rfl
              have hf11_0 : World.frozen? _ ⟨go11, ((ji6) : Int).toNat * 2, none⟩ = false := hfr11 0
              have hf11_1 : World.frozen? _ ⟨go11, ((ji6) : Int).toNat * 2 + 1, none⟩ = false := hfr11 1
              clear hcl11 hcc11 hfr11 hM11
              replace p11 := eq_true p11
              replace q11 := eq_true q11
              obtain ⟨ce18, hcl18, hM18, hcc18, hfr18⟩ := Kd.R_elem HO446.out zRow ((ji6) : Int) (of_decide_eq_true (by first | (with_reducible assumption) | assumption)) (by have h_ : ((ji6) : Int) < ((y444.length : Int) : Int) := of_decide_eq_true (by first | (with_reducible assumption) | assumption); first | exact h_ | (have e_ := (Kd.R_reads' HO446.out).1; omega) | simpa using h_)
              obtain rfl := k30_openM hM18
              have HP18 := (Kd.R_seg HO446.out ((ji6) : Int) (of_decide_eq_true (by first | (with_reducible assumption) | assumption)) (by have h_ : ((ji6) : Int) < ((y444.length : Int) : Int) := of_decide_eq_true (by first | (with_reducible assumption) | assumption); first | exact h_ | (have e_ := (Kd.R_reads' HO446.out).1; omega) | simpa using h_) (seg := [.string (((rd_TRow y444 (ji6)).f1) ++ ((rd_TRow l1 0).f1))]) (j := 1) hcl18 hcc18 (show 2 ≤ 2 from by decide) (x' := (⟨(rd_TRow y444 (ji6)).f0, ((rd_TRow y444 (ji6)).f1) ++ ((rd_TRow l1 0).f1)⟩ : SRow)) (k30_mkM _ _ _ (⟨(rd_TRow y444 (ji6)).f0, ((rd_TRow y444 (ji6)).f1) ++ ((rd_TRow l1 0).f1)⟩ : SRow) ) (fun _ hk => hk)).1
              rw [← Ny449.out] at HP18
              have HQ18 := Aside0.mk HP18
              clear hcl18 hcc18 hfr18 hM18 HP18
              refine start_ (n := 15) (S := fun w' => w'.cell? ⟨go11, ((ji6)).toNat * 2, none⟩ = some (.int .i64 ((rd_TRow y444 (ji6)).f0)) ∧ w'.cell? ⟨go11, ((ji6)).toNat * 2 + 1, none⟩ = some (.string ((rd_TRow y444 (ji6)).f1)) ∧ w'.cell? ad448 = some (.int .i64 ((rd_TRow l1 0).f0)) ∧ w'.cell? ⟨ad448.block, ad448.off + 1, none⟩ = some (.string ((rd_TRow l1 0).f1))) (ds := [14]) #[false, false, false, false, false, false, false, false, false, false, false, false, false, false, false] (by kernel_rfl) rfl rfl ⟨hx447_0, hx447_1, ((HB.out.cell (World.block_lt_of_cell? w _ hw448_0)).trans hw448_0), ((HB.out.cell (World.block_lt_of_cell? w _ hw448_1)).trans hw448_1)⟩ (fun hHeld => ?_); refine with_tabW impl_catRows.tab2 impl_catRows.bits2 (fun HT_ HW_ => ?_)
              generalize w15.drew = w16 at HO446 HB GG11 HQ18 hf11_0 hf11_1 hx11_0 hx11_1 hx447_0 hx447_1 hx448_0 hx448_1 hHeld ⊢
              refine pure_ (i := 0) (N := some 11) (v := ?_) (a' := ?_) #[true, false, false, false, false, false, false, false, false, false, false, false, false, false, false] rfl rfl (any_of HT_.out (by kernel_rfl)) (fun _ _ _ h => h) (Or.inl ⟨by rfl, ?_⟩) ?_ ?_
              rotate_left
              · intro w'
                go_simp
                with_reducible rfl
              rotate_left
              · simp only [Act.put, List.setIfInBounds_toArray, List.set_cons_zero, List.set_cons_succ, i64_w, i32_w]
                rfl
              refine pure_ (i := 1) (N := some 12) (v := ?_) (a' := ?_) #[true, true, false, false, false, false, false, false, false, false, false, false, false, false, false] rfl rfl (any_of HT_.out (by kernel_rfl)) (fun _ _ _ h => h) (Or.inl ⟨by rfl, ?_⟩) ?_ ?_
              rotate_left
              · intro w'
                go_simp
                with_reducible rfl
              rotate_left
              · simp only [Act.put, List.setIfInBounds_toArray, List.set_cons_zero, List.set_cons_succ, i64_w, i32_w]
                rfl
              refine pure_ (i := 2) (N := some 13) (v := ?_) (a' := ?_) #[true, true, true, false, false, false, false, false, false, false, false, false, false, false, false] rfl rfl (any_of HT_.out (by kernel_rfl)) (fun _ _ _ h => h) (Or.inl ⟨by rfl, ?_⟩) ?_ ?_
              rotate_left
              · intro w'
                go_simp
                with_reducible rfl
              rotate_left
              · simp only [Act.put, List.setIfInBounds_toArray, List.set_cons_zero, List.set_cons_succ, i64_w, i32_w]
                rfl
              refine pure_ (i := 3) (N := some 14) (v := ?_) (a' := ?_) #[true, true, true, true, false, false, false, false, false, false, false, false, false, false, false] rfl rfl (any_of HT_.out (by kernel_rfl)) (fun _ _ _ h => h) (Or.inl ⟨by rfl, ?_⟩) ?_ ?_
              rotate_left
              · intro w'
                go_simp
                with_reducible rfl
              rotate_left
              · simp only [Act.put, List.setIfInBounds_toArray, List.set_cons_zero, List.set_cons_succ, i64_w, i32_w]
                rfl
              refine pure_ (i := 4) (N := some 15) (v := ?_) (a' := ?_) #[true, true, true, true, true, false, false, false, false, false, false, false, false, false, false] rfl rfl (any_of HT_.out (by kernel_rfl)) (fun _ _ _ h => h) (Or.inl ⟨by rfl, ?_⟩) ?_ ?_
              rotate_left
              · intro w'
                go_simp
                with_reducible rfl
              rotate_left
              · simp only [Act.put, List.setIfInBounds_toArray, List.set_cons_zero, List.set_cons_succ, i64_w, i32_w]
                rfl
              refine pure_ (i := 5) (N := some 16) (v := ?_) (a' := ?_) #[true, true, true, true, true, true, false, false, false, false, false, false, false, false, false] rfl rfl (any_of HT_.out (by kernel_rfl)) (fun _ _ _ h => h) (Or.inl ⟨by rfl, ?_⟩) ?_ ?_
              rotate_left
              · intro w'
                go_simp
                with_reducible rfl
              rotate_left
              · simp only [Act.put, List.setIfInBounds_toArray, List.set_cons_zero, List.set_cons_succ, i64_w, i32_w]
                rfl
              refine pure_ (i := 7) (N := some 18) (v := ?_) (a' := ?_) #[true, true, true, true, true, true, false, true, false, false, false, false, false, false, false] rfl rfl (any_of HT_.out (by kernel_rfl)) (fun _ _ _ h => h) (Or.inl ⟨by rfl, ?_⟩) ?_ ?_
              rotate_left
              · intro w'
                go_simp
                with_reducible rfl
              rotate_left
              · simp only [Act.put, List.setIfInBounds_toArray, List.set_cons_zero, List.set_cons_succ, i64_w, i32_w]
                rfl
              refine pure_ (i := 8) (N := some 19) (v := ?_) (a' := ?_) #[true, true, true, true, true, true, false, true, true, false, false, false, false, false, false] rfl rfl (any_of HT_.out (by kernel_rfl)) (fun _ _ _ h => h) (Or.inl ⟨by rfl, ?_⟩) ?_ ?_
              rotate_left
              · intro w'
                go_simp
                with_reducible rfl
              rotate_left
              · simp only [Act.put, List.setIfInBounds_toArray, List.set_cons_zero, List.set_cons_succ, i64_w, i32_w]
                rfl
              refine pure_ (i := 9) (N := some 20) (v := ?_) (a' := ?_) #[true, true, true, true, true, true, false, true, true, true, false, false, false, false, false] rfl rfl (any_of HT_.out (by kernel_rfl)) (fun _ _ _ h => h) (Or.inl ⟨by rfl, ?_⟩) ?_ ?_
              rotate_left
              · intro w'
                go_simp
                with_reducible rfl
              rotate_left
              · simp only [Act.put, List.setIfInBounds_toArray, List.set_cons_zero, List.set_cons_succ, i64_w, i32_w]
                rfl
              refine take_ (i := 6) (N := some 17) (v := ?_) (a' := ?_) #[true, true, true, true, true, true, true, true, true, true, false, false, false, false, false] rfl rfl (take_ofW HT_.out HW_.out (by kernel_rfl)) (fun _ _ _ h => h) (Or.inl ⟨by rfl, ?_⟩) hHeld ?_ ?_
              rotate_left
              · rintro w' ⟨s0, s1, s2, s3⟩
                go_simp
                with_reducible rfl
              rotate_left
              · simp only [Act.put, List.setIfInBounds_toArray, List.set_cons_zero, List.set_cons_succ, i64_w, i32_w]
                rfl
              refine take_ (i := 10) (N := some 21) (v := ?_) (a' := ?_) #[true, true, true, true, true, true, true, true, true, true, true, false, false, false, false] rfl rfl (take_ofW HT_.out HW_.out (by kernel_rfl)) (fun _ _ _ h => h) (Or.inl ⟨by rfl, ?_⟩) hHeld ?_ ?_
              rotate_left
              · rintro w' ⟨s0, s1, s2, s3⟩
                go_simp
                with_reducible rfl
              rotate_left
              · simp only [Act.put, List.setIfInBounds_toArray, List.set_cons_zero, List.set_cons_succ, i64_w, i32_w]
                rfl
              refine pure_ (i := 11) (N := some 22) (v := ?_) (a' := ?_) #[true, true, true, true, true, true, true, true, true, true, true, true, false, false, false] rfl rfl (any_of HT_.out (by kernel_rfl)) (fun _ _ _ h => h) (Or.inl ⟨by rfl, ?_⟩) ?_ ?_
              rotate_left
              · intro w'
                go_simp
                with_reducible rfl
              rotate_left
              · simp only [Act.put, List.setIfInBounds_toArray, List.set_cons_zero, List.set_cons_succ, i64_w, i32_w]
                rfl
              refine pure_ (i := 12) (N := some 23) (v := ?_) (a' := ?_) #[true, true, true, true, true, true, true, true, true, true, true, true, true, false, false] rfl rfl (any_of HT_.out (by kernel_rfl)) (fun _ _ _ h => h) (Or.inl ⟨by rfl, ?_⟩) ?_ ?_
              rotate_left
              · intro w'
                go_simp
                with_reducible rfl
              rotate_left
              · simp only [Act.put, List.setIfInBounds_toArray, List.set_cons_zero, List.set_cons_succ, i64_w, i32_w]
                rfl
              refine pure_ (i := 13) (N := some 24) (v := ?_) (a' := ?_) #[true, true, true, true, true, true, true, true, true, true, true, true, true, true, false] rfl rfl (any_of HT_.out (by kernel_rfl)) (fun _ _ _ h => h) (Or.inl ⟨by rfl, ?_⟩) ?_ ?_
              rotate_left
              · intro w'
                go_simp
                with_reducible rfl
              rotate_left
              · simp only [Act.put, List.setIfInBounds_toArray, List.set_cons_zero, List.set_cons_succ, i64_w, i32_w]
                rfl
              refine last_ (i := 14) (N := none) #[true, true, true, true, true, true, true, true, true, true, true, true, true, true, true] rfl rfl (one_of HT_.out (by kernel_rfl)) (by decide) (fun K hK => ?_)
              refine skip_ (w1 := ?_) (by rfl) rfl ?_ ?_
              rotate_left
              · go_simp
                rfl
              refine hK.out _ _ ?_
              clear hK K
              refine done_ (done_of HT_.out (by kernel_rfl)) ?_
              try go_wp2
              go_ret
              exact ⟨_, by first | rfl | (simp [errW_none, errW_some] <;> rfl) | (simp only [← hji6]; first | rfl | (simp [errW_none, errW_some] <;> rfl)) | (simp [*, errW_none, errW_some] <;> rfl), by (with_reducible repeat (first | apply Kd.R_alloc | apply Kd.R_drewN | apply Kd.R_drew)); exact HQ18.out, by repeat (first | (with_reducible first | exact HB.out | apply below_alloc | apply pw_below_drewN | apply below_drew1 | refine below_set ?_ GB11.out) | exact HB.out)⟩
            · rw [if_neg c10] at H
              exact absurd H (by simp)
          · rw [if_neg c9] at H
            exact absurd H (by simp)
        · rw [if_neg c8] at H
          exact absurd H (by simp)
      · rw [if_neg c7] at H
        exact absurd H (by simp)
    · rw [if_neg c5] at H
      exact absurd H (by simp)
  · rw [if_neg c4] at H
    exact absurd H (by simp)
end Go.Proofs.Ytdhdfmmefghijab.P
namespace Go.Proofs.Ytdhdfmmefghijab.P
open Go.RowKit Go.Proofs.YtdhdfmmefghijabW.PrintWords Go.Proofs.YtdhdfmmefghijabW.PrintLast Go.Proofs.YtdhdfmmefghijabW.PrintMore
attribute [local go_sem] max2_int min2_int max_two min_two max_three min_three max_four min_four
set_option linter.unusedVariables false
set_option linter.unusedSimpArgs false
def impl_CatLayouts.j0 : Nat → List (SRow) → List (SRow) → Bool → Option ((List (SRow)) × Bool)
  | 0, _, _, _ => none
  | k + 1, x0, x1, x14 => if x14 = true then (some (([] : List (SRow)), false)) else ((impl_catRows.f x0 x1).bind fun t452 => ((impl_LayoutValid.f k t452).bind fun t455 => (if t455 = true then (some (t452, true)) else (some (([] : List (SRow)), false)))))
def impl_CatLayouts.f (k : Nat) (l0 : List (SRow)) (l1 : List (SRow)) : Option ((List (SRow)) × Bool) := (impl_LayoutValid.f k l0).bind fun t450 => (if t450 = true then ((impl_LayoutValid.f k l1).bind fun t451 => (impl_CatLayouts.j0 k l0 l1 (!t451))) else (impl_CatLayouts.j0 k l0 l1 true))
set_option maxHeartbeats 8000000 in
set_option maxRecDepth 100000 in
theorem impl_CatLayouts.calls (k : Nat) (A0 : Option Addr) (c0 : Nat) (l0 : List (SRow)) (A1 : Option Addr) (c1 : Nat) (l1 : List (SRow)) (r1 : List (SRow)) (r2 : Bool) (w : World) (hr0 : Kd.C k30 w A0 l0.length l0) (hc0 : l0.length ≤ c0) (hr1 : Kd.C k30 w A1 l1.length l1) (hc1 : l1.length ≤ c1) (h : impl_CatLayouts.f k l0 l1 = some (r1, r2)) :
    Calls Try.prog 16 #[.slice A0 l0.length c0, .slice A1 l1.length c1] w fun e w' => ∃ v0_ : Value, e = .returned (.tuple #[v0_, .bool r2]) ∧ Kd.R k30 30 w' w.heap.size (fun _ => True) v0_ r1 ∧ Below w.heap.size w w' := by
  have HR0 := Aside0.mk hr0
  have HC0 := Aside0.mk hc0
  clear hr0 hc0
  have HR1 := Aside0.mk hr1
  have HC1 := Aside0.mk hc1
  clear hr1 hc1
  have HB := Aside0.mk (Below.refl w.heap.size w)
  have H : ((impl_LayoutValid.f k l0).bind fun t450 => (if t450 = true then ((impl_LayoutValid.f k l1).bind fun t451 => (impl_CatLayouts.j0 k l0 l1 (!t451))) else (impl_CatLayouts.j0 k l0 l1 true))) = some (r1, r2) := h
  clear h
  have HC3 := Aside0.mk H
  clear H
  go_enter Try.func16, Try.ntmps16
  go_upto_region 1 with (fail)
  go_cut [14] (fun v14 wc => ∃ (kq : Nat) (x14_2 : Bool), v14 = .bool x14_2 ∧ Aside0 (impl_CatLayouts.j0 kq l0 l1 x14_2 = some (r1, r2)) ∧ Aside0 (kq ≤ k) ∧ Aside0 (Below w.heap.size w wc))
  case first =>
    have H := HC3.out
    clear HC3
    replace H := Option.bind_eq_some_iff.mp H
    obtain ⟨t450, A40, H⟩ := H
    replace H : (if t450 = true then ((impl_LayoutValid.f k l1).bind fun t451 => (impl_CatLayouts.j0 k l0 l1 (!t451))) else (impl_CatLayouts.j0 k l0 l1 true)) = some (r1, r2) := H
    have A4 := Aside0.mk A40
    clear A40
    by_cases c5 : t450 = true
    · subst c5
      have H1 : ((impl_LayoutValid.f k l1).bind fun t451 => (impl_CatLayouts.j0 k l0 l1 (!t451))) = some (r1, r2) := by rw [if_pos rfl] at H; exact H
      clear H
      have H := H1
      clear H1
      replace H := Option.bind_eq_some_iff.mp H
      obtain ⟨t451, A60, H⟩ := H
      replace H : (impl_CatLayouts.j0 k l0 l1 (!t451)) = some (r1, r2) := H
      have A6 := Aside0.mk A60
      clear A60
      have H' := Aside0.mk H
      clear H
      go_wp2_with (first | ((with_reducible refine gate_callee (f := 19) rfl ?_); refine goesL_ (some 8) rfl rfl Try.func19 (by kernel_rfl) rfl #[.slice A0 l0.length c0] rfl (by (try simp only [List.map_toArray, List.map_cons, List.map_nil]); first | done | rfl | (simp only [List.length_drop, List.length_take]; rfl)) ?_; (with_reducible refine (impl_LayoutValid.calls k _ _ l0 true _ ?side1 ?side2 A4.out).mono ?_); (case side1 => exact gC (Kd.C_below HR0.out HB.out)); (case side2 => exact HC0.out); rintro e w7 ⟨rfl, hb⟩; refine ⟨_, rfl, ?_⟩; have n0_ := Aside0.mk (below_step (gB HB) hb); clear HB; have HB := n0_; clear n0_; (try clear hb); (try clear hb2); (try clear hk); (try clear hi)) | (go_at_call 19; (with_reducible refine (impl_LayoutValid.calls k _ _ l1 t451 _ ?side1 ?side2 A6.out).mono ?_); (case side1 => exact gC (Kd.C_below HR1.out HB.out)); (case side2 => exact HC1.out); rintro e w8 ⟨rfl, hb⟩; have n0_ := Aside0.mk (below_step (gB HB) hb); clear HB; have HB := n0_; clear n0_; (try clear hb); (try clear hb2); (try clear hk); (try clear hi)))
      go_meet
      case rel => exact ⟨_, (!t451), (by first | rfl | (simp; done) | (simp [*]; done)), H', ⟨by first | omega | exact Nat.le_refl _⟩, ⟨gB HB⟩⟩
    · replace c5 := Bool.eq_false_iff.mpr c5
      subst c5
      have H1 : (impl_CatLayouts.j0 k l0 l1 true) = some (r1, r2) := by rw [if_neg (show ¬ (false = true) by decide)] at H; exact H
      clear H
      have H := H1
      clear H1
      have H' := Aside0.mk H
      clear H
      go_wp2_with (first | ((with_reducible refine gate_callee (f := 19) rfl ?_); refine goesL_ (some 8) rfl rfl Try.func19 (by kernel_rfl) rfl #[.slice A0 l0.length c0] rfl (by (try simp only [List.map_toArray, List.map_cons, List.map_nil]); first | done | rfl | (simp only [List.length_drop, List.length_take]; rfl)) ?_; (with_reducible refine (impl_LayoutValid.calls k _ _ l0 false _ ?side1 ?side2 A4.out).mono ?_); (case side1 => exact gC (Kd.C_below HR0.out HB.out)); (case side2 => exact HC0.out); rintro e w9 ⟨rfl, hb⟩; refine ⟨_, rfl, ?_⟩; have n0_ := Aside0.mk (below_step (gB HB) hb); clear HB; have HB := n0_; clear n0_; (try clear hb); (try clear hb2); (try clear hk); (try clear hi)))
      go_meet
      case rel => exact ⟨_, (true), (by first | rfl | (simp; done) | (simp [*]; done)), H', ⟨by first | omega | exact Nat.le_refl _⟩, ⟨gB HB⟩⟩
  case rest =>
    clear HC3
    try clear c1
    try clear p2
    try clear c5
    obtain ⟨kq, x14_2, rfl, HA, HJ2, HB⟩ := hcut
    cases kq with
    | zero => exact absurd HA.out (by simp [impl_CatLayouts.j0])
    | succ kj2 =>
      have H := HA.out
      clear HA
      simp only [impl_CatLayouts.j0] at H
      by_cases c10 : x14_2 = true
      · subst c10
        have H1 : (some (([] : List (SRow)), false)) = some (r1, r2) := by rw [if_pos rfl] at H; exact H
        clear H
        have H := H1
        clear H1
        simp only [Option.some.injEq, Prod.mk.injEq] at H
        obtain ⟨rfl, rfl⟩ := H
        go_wp2
        go_ret2
        exact ⟨_, by first | rfl | (simp [errW_none, errW_some] <;> rfl) | (simp [*, errW_none, errW_some] <;> rfl), by first | exact Kd.R_nil _ _ _ _ _ | exact Kd.N_nil _ _ _ _ _ | exact Kd.V_nil _ _ _ _ _ | exact Kd.Q_nil _ _ _ _ _ | exact Kd.S_nil _ _ _ _ _, gB HB⟩
      · replace c10 := Bool.eq_false_iff.mpr c10
        subst c10
        have H1 : ((impl_catRows.f l0 l1).bind fun t452 => ((impl_LayoutValid.f kj2 t452).bind fun t455 => (if t455 = true then (some (t452, true)) else (some (([] : List (SRow)), false))))) = some (r1, r2) := by rw [if_neg (show ¬ (false = true) by decide)] at H; exact H
        clear H
        have H := H1
        clear H1
        replace H := Option.bind_eq_some_iff.mp H
        obtain ⟨t452, A110, H⟩ := H
        replace H : ((impl_LayoutValid.f kj2 t452).bind fun t455 => (if t455 = true then (some (t452, true)) else (some (([] : List (SRow)), false)))) = some (r1, r2) := H
        have A11 := Aside0.mk A110
        clear A110
        replace H := Option.bind_eq_some_iff.mp H
        obtain ⟨t455, A120, H⟩ := H
        replace H : (if t455 = true then (some (t452, true)) else (some (([] : List (SRow)), false))) = some (r1, r2) := H
        have A12 := Aside0.mk A120
        clear A120
        by_cases c13 : t455 = true
        · subst c13
          have H1 : (some (t452, true)) = some (r1, r2) := by rw [if_pos rfl] at H; exact H
          clear H
          have H := H1
          clear H1
          simp only [Option.some.injEq, Prod.mk.injEq] at H
          obtain ⟨rfl, rfl⟩ := H
          go_wp2_with (first | ((with_reducible refine gate_callee (f := 42) rfl ?_); refine goesL_ (some 17) rfl rfl Try.func42 (by kernel_rfl) rfl #[.slice A0 l0.length c0, .slice A1 l1.length c1] rfl (by (try simp only [List.map_toArray, List.map_cons, List.map_nil]); first | done | rfl | (simp only [List.length_drop, List.length_take]; rfl)) ?_; (with_reducible refine (impl_catRows.calls _ _ l0 _ _ l1 t452 _ ?side1 ?side2 ?side3 ?side4 A11.out).mono ?_); (case side1 => exact gC (Kd.C_below HR0.out HB.out)); (case side2 => exact HC0.out); (case side3 => exact gC (Kd.C_below HR1.out HB.out)); (case side4 => exact HC1.out); rintro e w14 ⟨v453, rfl, ho0, hb⟩; refine ⟨_, rfl, ?_⟩; have n0_ := Aside0.mk (Kd.R_lower ho0 (below_size (gB HB))); have n1_ := Aside0.mk (below_step (gB HB) hb); clear HB; have HO454 := n0_; have HB := n1_; clear n0_ n1_; (try clear hb); (try clear hb2); (try clear hk); (try clear hi); (try clear ho0); obtain ⟨Ao15, co15, eo15⟩ := Kd.R_slice HO454.out; subst eo15) | ((with_reducible refine gate_callee (f := 19) rfl ?_); refine goesL_ (some 19) rfl rfl Try.func19 (by kernel_rfl) rfl #[.slice Ao15 t452.length co15] rfl (by (try simp only [List.map_toArray, List.map_cons, List.map_nil]); first | done | rfl | (simp only [List.length_drop, List.length_take]; rfl)) ?_; (with_reducible refine (impl_LayoutValid.calls kj2 _ _ t452 true _ ?side1 ?side2 A12.out).mono ?_); (case side1 => exact gC ((Kd.R_reads' HO454.out).2.2)); (case side2 => exact (Kd.R_reads' HO454.out).2.1); rintro e w16 ⟨rfl, hb⟩; refine ⟨_, rfl, ?_⟩; have n0_ := Aside0.mk (Kd.R_below (gR HO454) hb); have n1_ := Aside0.mk (below_step (gB HB) hb); clear HO454; clear HB; have HO454 := n0_; have HB := n1_; clear n0_ n1_; (try clear hb); (try clear hb2); (try clear hk); (try clear hi)))
          go_ret2
          exact ⟨_, by first | rfl | (simp [errW_none, errW_some] <;> rfl) | (simp [*, errW_none, errW_some] <;> rfl), gR HO454, gB HB⟩
        · replace c13 := Bool.eq_false_iff.mpr c13
          subst c13
          have H1 : (some (([] : List (SRow)), false)) = some (r1, r2) := by rw [if_neg (show ¬ (false = true) by decide)] at H; exact H
          clear H
          have H := H1
          clear H1
          simp only [Option.some.injEq, Prod.mk.injEq] at H
          obtain ⟨rfl, rfl⟩ := H
          go_wp2_with (first | ((with_reducible refine gate_callee (f := 42) rfl ?_); refine goesL_ (some 17) rfl rfl Try.func42 (by kernel_rfl) rfl #[.slice A0 l0.length c0, .slice A1 l1.length c1] rfl (by (try simp only [List.map_toArray, List.map_cons, List.map_nil]); first | done | rfl | (simp only [List.length_drop, List.length_take]; rfl)) ?_; (with_reducible refine (impl_catRows.calls _ _ l0 _ _ l1 t452 _ ?side1 ?side2 ?side3 ?side4 A11.out).mono ?_); (case side1 => exact gC (Kd.C_below HR0.out HB.out)); (case side2 => exact HC0.out); (case side3 => exact gC (Kd.C_below HR1.out HB.out)); (case side4 => exact HC1.out); rintro e w17 ⟨v453, rfl, ho0, hb⟩; refine ⟨_, rfl, ?_⟩; have n0_ := Aside0.mk (Kd.R_lower ho0 (below_size (gB HB))); have n1_ := Aside0.mk (below_step (gB HB) hb); clear HB; have HO454 := n0_; have HB := n1_; clear n0_ n1_; (try clear hb); (try clear hb2); (try clear hk); (try clear hi); (try clear ho0); obtain ⟨Ao18, co18, eo18⟩ := Kd.R_slice HO454.out; subst eo18) | ((with_reducible refine gate_callee (f := 19) rfl ?_); refine goesL_ (some 19) rfl rfl Try.func19 (by kernel_rfl) rfl #[.slice Ao18 t452.length co18] rfl (by (try simp only [List.map_toArray, List.map_cons, List.map_nil]); first | done | rfl | (simp only [List.length_drop, List.length_take]; rfl)) ?_; (with_reducible refine (impl_LayoutValid.calls kj2 _ _ t452 false _ ?side1 ?side2 A12.out).mono ?_); (case side1 => exact gC ((Kd.R_reads' HO454.out).2.2)); (case side2 => exact (Kd.R_reads' HO454.out).2.1); rintro e w19 ⟨rfl, hb⟩; refine ⟨_, rfl, ?_⟩; have n0_ := Aside0.mk (Kd.R_below (gR HO454) hb); have n1_ := Aside0.mk (below_step (gB HB) hb); clear HO454; clear HB; have HO454 := n0_; have HB := n1_; clear n0_ n1_; (try clear hb); (try clear hb2); (try clear hk); (try clear hi)))
          go_ret2
          exact ⟨_, by first | rfl | (simp [errW_none, errW_some] <;> rfl) | (simp [*, errW_none, errW_some] <;> rfl), by first | exact Kd.R_nil _ _ _ _ _ | exact Kd.N_nil _ _ _ _ _ | exact Kd.V_nil _ _ _ _ _ | exact Kd.Q_nil _ _ _ _ _ | exact Kd.S_nil _ _ _ _ _, gB HB⟩
end Go.Proofs.Ytdhdfmmefghijab.P
namespace Go.Proofs.Ytdhdfmmefghijab.P
open Go.RowKit Go.Proofs.YtdhdfmmefghijabW.PrintWords Go.Proofs.YtdhdfmmefghijabW.PrintLast Go.Proofs.YtdhdfmmefghijabW.PrintMore
attribute [local go_sem] max2_int min2_int max_two min_two max_three min_three max_four min_four
set_option linter.unusedVariables false
set_option linter.unusedSimpArgs false
mutual
def spec_l2Text.l0 : Nat → ByteArray → Int → Option (Bool)
  | 0, _, _ => none
  | k + 1, x0, x3 => if x3 < (x0.size : Int) then (spec_l2Text.j1 k x0 x3 (decide (x3 < 2000))) else (spec_l2Text.j1 k x0 x3 false)
def spec_l2Text.j1 : Nat → ByteArray → Int → Bool → Option (Bool)
  | 0, _, _, _ => none
  | k + 1, x0, x3, x11 => if x11 = true then (if 0 ≤ x3 then (if x3 < (x0.size : Int) then (if (bt x0 x3) = 32 then (spec_l2Text.l0 k x0 (wrap64 (x3 + 1))) else (if x3 ≤ (wrap64 (x3 + 1)) then (if (wrap64 (x3 + 1)) ≤ (x0.size : Int) then ((spec_TextValid.f k (x0.extract (x3 : Int).toNat ((wrap64 (x3 + 1)) : Int).toNat)).bind fun t456 => (if t456 = true then (spec_l2Text.l0 k x0 (wrap64 (x3 + 1))) else (some false))) else (none)) else (none))) else (none)) else (none)) else (some (decide ((x0.size : Int) < 2000)))
end
def spec_l2Text.f (k : Nat) (a0 : ByteArray) : Option (Bool) := spec_l2Text.l0 k a0 0
set_option maxHeartbeats 8000000 in
set_option maxRecDepth 100000 in
theorem spec_l2Text.calls (k : Nat) (a0 : ByteArray) (r : Bool) (w : World) (h : spec_l2Text.f k a0 = some r) :
    Calls Try.prog 55 #[.string a0] w fun e w' => e = .returned (.bool r) ∧ Drawn0 w w' := by
  have H : (spec_l2Text.l0 k a0 0) = some r := h
  clear h
  have H' := Aside0.mk H
  clear H
  go_enter Try.func55, Try.ntmps55
  go_wp2
  go_loopg [3] k (fun kq v3 w' => ∃ (x3_1 : Int), v3 = .int .i64 x3_1 ∧ Aside0 (spec_l2Text.l0 kq a0 x3_1 = some r) ∧ Aside0 (kq ≤ k) ∧ Drawn0 w w')
  case atStart => exact ⟨(0), (by first | rfl | (simp; done) | (simp [*]; done)), H', ⟨Nat.le_refl _⟩, by repeat (first | exact Drawn0.refl _ | apply Drawn0.step)⟩
  case round =>
    clear H'
    obtain ⟨x3_1, rfl, HA, HK1, ⟨m1, rfl⟩⟩ := hrel
    cases gk with
    | zero => exact absurd HA.out (by simp [spec_l2Text.l0])
    | succ k1 =>
      have H := HA.out
      clear HA
      simp only [spec_l2Text.l0] at H
      have HC2 := Aside0.mk H
      clear H
      go_upto_region 2 with (fail)
      go_cut [11] (fun v11 wc => ∃ (kq : Nat) (x11_1 : Bool), v11 = .bool x11_1 ∧ Aside0 (spec_l2Text.j1 kq a0 x3_1 x11_1 = some r) ∧ Aside0 (kq ≤ k1) ∧ Drawn0 w wc)
      case first =>
        have H := HC2.out
        clear HC2
        by_cases c3 : x3_1 < (a0.size : Int)
        · rw [if_pos c3] at H
          have c3b0 : decide (x3_1 < (a0.size : Int)) = true := decide_eq_true c3
          clear c3
          (first | rw [c3b0] | (simp only [i64_w, i32_w]; rw [c3b0]) | skip)
          have H' := Aside0.mk H
          clear H
          go_wp2
          go_meet
          case rel => exact ⟨_, (decide (x3_1 < 2000)), (by first | rfl | (simp; done) | (simp [*]; done)), H', ⟨by have := HK1.out; first | omega | exact Nat.le_refl _⟩, by repeat (first | exact Drawn0.refl _ | apply Drawn0.step)⟩
        · rw [if_neg c3] at H
          have c3b0 : decide (x3_1 < (a0.size : Int)) = false := decide_eq_false c3
          clear c3
          (first | rw [c3b0] | (simp only [i64_w, i32_w]; rw [c3b0]) | skip)
          have H' := Aside0.mk H
          clear H
          go_wp2
          go_meet
          case rel => exact ⟨_, (false), (by first | rfl | (simp; done) | (simp [*]; done)), H', ⟨by have := HK1.out; first | omega | exact Nat.le_refl _⟩, by repeat (first | exact Drawn0.refl _ | apply Drawn0.step)⟩
      case rest =>
        clear HC2
        try clear p2
        try clear c3
        try clear c3b0
        obtain ⟨kq, x11_1, rfl, HA, HJ1, ⟨mc1, rfl⟩⟩ := hcut
        cases kq with
        | zero => exact absurd HA.out (by simp [spec_l2Text.j1])
        | succ kj1 =>
          have H := HA.out
          clear HA
          simp only [spec_l2Text.j1] at H
          by_cases c4 : x11_1 = true
          · subst c4
            have H1 : (if 0 ≤ x3_1 then (if x3_1 < (a0.size : Int) then (if (bt a0 x3_1) = 32 then (spec_l2Text.l0 kj1 a0 (wrap64 (x3_1 + 1))) else (if x3_1 ≤ (wrap64 (x3_1 + 1)) then (if (wrap64 (x3_1 + 1)) ≤ (a0.size : Int) then ((spec_TextValid.f kj1 (a0.extract (x3_1 : Int).toNat ((wrap64 (x3_1 + 1)) : Int).toNat)).bind fun t456 => (if t456 = true then (spec_l2Text.l0 kj1 a0 (wrap64 (x3_1 + 1))) else (some false))) else (none)) else (none))) else (none)) else (none)) = some r := by rw [if_pos rfl] at H; exact H
            clear H
            have H := H1
            clear H1
            by_cases c5 : 0 ≤ x3_1
            · rw [if_pos c5] at H
              have c5b0 : decide (0 ≤ x3_1) = true := decide_eq_true c5
              clear c5
              by_cases c6 : x3_1 < (a0.size : Int)
              · rw [if_pos c6] at H
                have c6b0 : decide (x3_1 < (a0.size : Int)) = true := decide_eq_true c6
                clear c6
                by_cases c8 : (bt a0 x3_1) = 32
                · rw [if_pos c8] at H
                  have c8b0 : ((bt a0 x3_1) == 32) = true := beq_iff_eq.mpr c8
                  have c8b1 : ((bt a0 x3_1) != 32) = false := bne_eq_false_iff_eq.mpr c8
                  clear c8
                  have H' := Aside0.mk H
                  clear H
                  have p7 : 0 ≤ (x3_1 : Int) := of_decide_eq_true (by first | (with_reducible assumption) | assumption)
                  have q7 : x3_1 < (a0.size : Int) := of_decide_eq_true (by first | (with_reducible assumption) | assumption)
                  have hx7 := bt_at a0 x3_1
                  replace p7 := eq_true p7
                  replace q7 := eq_true q7
                  go_wp2
                  go_roundg kj1
                  case measure => have := HK1.out; have := HJ1.out; omega
                  case rel => exact ⟨(wrap64 (x3_1 + 1)), (by first | rfl | (simp; done) | (simp [*]; done)), H', ⟨by have := HK1.out; have := HJ1.out; omega⟩, by repeat (first | exact Drawn0.refl _ | apply Drawn0.step)⟩
                · rw [if_neg c8] at H
                  have c8b0 : ((bt a0 x3_1) == 32) = false := beq_eq_false_iff_ne.mpr c8
                  have c8b1 : ((bt a0 x3_1) != 32) = true := bne_iff_ne.mpr c8
                  have c9b0 := eq_true (of_decide_eq_true (by first | (with_reducible assumption) | assumption) : 0 ≤ x3_1)
                  by_cases c10 : x3_1 ≤ (wrap64 (x3_1 + 1))
                  · rw [if_pos c10] at H
                    have c10b0 := eq_true c10
                    have c10b1 : decide (x3_1 ≤ (wrap64 (x3_1 + 1))) = true := decide_eq_true c10
                    by_cases c11 : (wrap64 (x3_1 + 1)) ≤ (a0.size : Int)
                    · rw [if_pos c11] at H
                      have c11b0 := eq_true c11
                      have c11b1 : decide ((wrap64 (x3_1 + 1)) ≤ (a0.size : Int)) = true := decide_eq_true c11
                      replace H := Option.bind_eq_some_iff.mp H
                      obtain ⟨t456, A120, H⟩ := H
                      replace H : (if t456 = true then (spec_l2Text.l0 kj1 a0 (wrap64 (x3_1 + 1))) else (some false)) = some r := H
                      have A12 := Aside0.mk A120
                      clear A120
                      by_cases c13 : t456 = true
                      · subst c13
                        have H1 : (spec_l2Text.l0 kj1 a0 (wrap64 (x3_1 + 1))) = some r := by rw [if_pos rfl] at H; exact H
                        clear H
                        have H := H1
                        clear H1
                        have H' := Aside0.mk H
                        clear H
                        have p7 : 0 ≤ (x3_1 : Int) := of_decide_eq_true (by first | (with_reducible assumption) | assumption)
                        have q7 : x3_1 < (a0.size : Int) := of_decide_eq_true (by first | (with_reducible assumption) | assumption)
                        have hx7 := bt_at a0 x3_1
                        replace p7 := eq_true p7
                        replace q7 := eq_true q7
                        go_wp2_with (first | (go_at_call 73; (with_reducible refine (spec_TextValid.calls kj1 (a0.extract (x3_1 : Int).toNat ((wrap64 (x3_1 + 1)) : Int).toNat) true _ A12.out).mono ?_); rintro e w' ⟨rfl, ⟨nd, rfl⟩⟩))
                        go_roundg kj1
                        case measure => have := HK1.out; have := HJ1.out; omega
                        case rel => exact ⟨(wrap64 (x3_1 + 1)), (by first | rfl | (simp; done) | (simp [*]; done)), H', ⟨by have := HK1.out; have := HJ1.out; omega⟩, by repeat (first | exact Drawn0.refl _ | apply Drawn0.step)⟩
                      · replace c13 := Bool.eq_false_iff.mpr c13
                        subst c13
                        have H1 : (some false) = some r := by rw [if_neg (show ¬ (false = true) by decide)] at H; exact H
                        clear H
                        have H := H1
                        clear H1
                        obtain rfl := Option.some.inj H
                        have p7 : 0 ≤ (x3_1 : Int) := of_decide_eq_true (by first | (with_reducible assumption) | assumption)
                        have q7 : x3_1 < (a0.size : Int) := of_decide_eq_true (by first | (with_reducible assumption) | assumption)
                        have hx7 := bt_at a0 x3_1
                        replace p7 := eq_true p7
                        replace q7 := eq_true q7
                        go_wp2_with (first | (go_at_call 73; (with_reducible refine (spec_TextValid.calls kj1 (a0.extract (x3_1 : Int).toNat ((wrap64 (x3_1 + 1)) : Int).toNat) false _ A12.out).mono ?_); rintro e w' ⟨rfl, ⟨nd, rfl⟩⟩))
                        go_ret
                        exact ⟨by first | rfl | (simp; done) | (simp [*]; done), by repeat (first | exact Drawn0.refl _ | apply Drawn0.step)⟩
                    · rw [if_neg c11] at H
                      exact absurd H (by simp)
                  · rw [if_neg c10] at H
                    exact absurd H (by simp)
              · rw [if_neg c6] at H
                exact absurd H (by simp)
            · rw [if_neg c5] at H
              exact absurd H (by simp)
          · replace c4 := Bool.eq_false_iff.mpr c4
            subst c4
            have H1 : (some (decide ((a0.size : Int) < 2000))) = some r := by rw [if_neg (show ¬ (false = true) by decide)] at H; exact H
            clear H
            have H := H1
            clear H1
            obtain rfl := Option.some.inj H
            go_wp2
            go_ret
            exact ⟨by first | rfl | (simp; done) | (simp [*]; done), by repeat (first | exact Drawn0.refl _ | apply Drawn0.step)⟩
end Go.Proofs.Ytdhdfmmefghijab.P
namespace Go.Proofs.Ytdhdfmmefghijab.P
open Go.RowKit Go.Proofs.YtdhdfmmefghijabW.PrintWords Go.Proofs.YtdhdfmmefghijabW.PrintLast Go.Proofs.YtdhdfmmefghijabW.PrintMore
attribute [local go_sem] max2_int min2_int max_two min_two max_three min_three max_four min_four
set_option linter.unusedVariables false
set_option linter.unusedSimpArgs false
mutual
def spec_LayoutValid.l0 : Nat → List (SRow) → Int → Option (Bool)
  | 0, _, _ => none
  | k + 1, x0, x3 => if x3 < (x0.length : Int) then (spec_LayoutValid.j1 k x0 x3 (decide (x3 ≤ 200))) else (spec_LayoutValid.j1 k x0 x3 false)
def spec_LayoutValid.j1 : Nat → List (SRow) → Int → Bool → Option (Bool)
  | 0, _, _, _ => none
  | k + 1, x0, x3, x11 => if x11 = true then (if 0 ≤ x3 then (if x3 < (x0.length : Int) then (if ((rd_TRow x0 x3).f0) < 0 then (spec_LayoutValid.j2 k x0 x3 true) else (if ((rd_TRow x0 x3).f0) > 400 then (spec_LayoutValid.j2 k x0 x3 true) else (if x3 = 0 then (if ((rd_TRow x0 x3).f0) = 0 then ((spec_l2Text.f k ((rd_TRow x0 x3).f1)).bind fun t461 => (spec_LayoutValid.j2 k x0 x3 (!t461))) else (spec_LayoutValid.j2 k x0 x3 true)) else ((spec_l2Text.f k ((rd_TRow x0 x3).f1)).bind fun t463 => (spec_LayoutValid.j2 k x0 x3 (!t463)))))) else (none)) else (none)) else (if (x0.length : Int) > 0 then (some (decide ((x0.length : Int) ≤ 200))) else (some false))
def spec_LayoutValid.j2 : Nat → List (SRow) → Int → Bool → Option (Bool)
  | 0, _, _, _ => none
  | k + 1, x0, x3, x48 => if x48 = true then (some false) else (spec_LayoutValid.l0 k x0 (wrap64 (x3 + 1)))
end
def spec_LayoutValid.f (k : Nat) (l0 : List (SRow)) : Option (Bool) := spec_LayoutValid.l0 k l0 0
set_option maxHeartbeats 8000000 in
set_option maxRecDepth 100000 in
theorem spec_LayoutValid.calls (k : Nat) (A0 : Option Addr) (c0 : Nat) (l0 : List (SRow)) (r : Bool) (w : World) (hr0 : Kd.C k30 w A0 l0.length l0) (hc0 : l0.length ≤ c0) (h : spec_LayoutValid.f k l0 = some r) :
    Calls Try.prog 29 #[.slice A0 l0.length c0] w fun e w' => e = .returned (.bool r) ∧ Drawn0 w w' := by
  have HR0 := Aside0.mk hr0
  have HC0 := Aside0.mk hc0
  clear hr0 hc0
  have H : (spec_LayoutValid.l0 k l0 0) = some r := h
  clear h
  have H' := Aside0.mk H
  clear H
  go_enter Try.func29, Try.ntmps29
  go_wp2
  go_loopg [3] k (fun kq v3 w' => ∃ (x3_1 : Int), v3 = .int .i64 x3_1 ∧ Aside0 (spec_LayoutValid.l0 kq l0 x3_1 = some r) ∧ Aside0 (kq ≤ k) ∧ Drawn0 w w')
  case atStart => exact ⟨(0), (by first | rfl | (simp; done) | (simp [*]; done)), H', ⟨Nat.le_refl _⟩, by repeat (first | exact Drawn0.refl _ | apply Drawn0.step)⟩
  case round =>
    clear H'
    obtain ⟨x3_1, rfl, HA, HK1, ⟨m1, rfl⟩⟩ := hrel
    cases gk with
    | zero => exact absurd HA.out (by simp [spec_LayoutValid.l0])
    | succ k1 =>
      have H := HA.out
      clear HA
      simp only [spec_LayoutValid.l0] at H
      have HC2 := Aside0.mk H
      clear H
      go_upto_region 2 with (fail)
      go_cut [11] (fun v11 wc => ∃ (kq : Nat) (x11_1 : Bool), v11 = .bool x11_1 ∧ Aside0 (spec_LayoutValid.j1 kq l0 x3_1 x11_1 = some r) ∧ Aside0 (kq ≤ k1) ∧ Drawn0 w wc)
      case first =>
        have H := HC2.out
        clear HC2
        by_cases c3 : x3_1 < (l0.length : Int)
        · rw [if_pos c3] at H
          have c3b0 : decide (x3_1 < (l0.length : Int)) = true := decide_eq_true c3
          clear c3
          (first | rw [c3b0] | (simp only [i64_w, i32_w]; rw [c3b0]) | skip)
          have H' := Aside0.mk H
          clear H
          go_wp2
          go_meet
          case rel => exact ⟨_, (decide (x3_1 ≤ 200)), (by first | rfl | (simp; done) | (simp [*]; done)), H', ⟨by have := HK1.out; first | omega | exact Nat.le_refl _⟩, by repeat (first | exact Drawn0.refl _ | apply Drawn0.step)⟩
        · rw [if_neg c3] at H
          have c3b0 : decide (x3_1 < (l0.length : Int)) = false := decide_eq_false c3
          clear c3
          (first | rw [c3b0] | (simp only [i64_w, i32_w]; rw [c3b0]) | skip)
          have H' := Aside0.mk H
          clear H
          go_wp2
          go_meet
          case rel => exact ⟨_, (false), (by first | rfl | (simp; done) | (simp [*]; done)), H', ⟨by have := HK1.out; first | omega | exact Nat.le_refl _⟩, by repeat (first | exact Drawn0.refl _ | apply Drawn0.step)⟩
      case rest =>
        clear HC2
        try clear c2
        try clear p2
        try clear c3
        try clear c3b0
        obtain ⟨kq, x11_1, rfl, HA, HJ1, ⟨mc1, rfl⟩⟩ := hcut
        cases kq with
        | zero => exact absurd HA.out (by simp [spec_LayoutValid.j1])
        | succ kj1 =>
          have H := HA.out
          clear HA
          simp only [spec_LayoutValid.j1] at H
          by_cases c4 : x11_1 = true
          · subst c4
            have H1 : (if 0 ≤ x3_1 then (if x3_1 < (l0.length : Int) then (if ((rd_TRow l0 x3_1).f0) < 0 then (spec_LayoutValid.j2 kj1 l0 x3_1 true) else (if ((rd_TRow l0 x3_1).f0) > 400 then (spec_LayoutValid.j2 kj1 l0 x3_1 true) else (if x3_1 = 0 then (if ((rd_TRow l0 x3_1).f0) = 0 then ((spec_l2Text.f kj1 ((rd_TRow l0 x3_1).f1)).bind fun t461 => (spec_LayoutValid.j2 kj1 l0 x3_1 (!t461))) else (spec_LayoutValid.j2 kj1 l0 x3_1 true)) else ((spec_l2Text.f kj1 ((rd_TRow l0 x3_1).f1)).bind fun t463 => (spec_LayoutValid.j2 kj1 l0 x3_1 (!t463)))))) else (none)) else (none)) = some r := by rw [if_pos rfl] at H; exact H
            clear H
            have H := H1
            clear H1
            have HC5 := Aside0.mk H
            clear H
            go_upto_region 4 with (fail)
            go_cut [48] (fun v48 wc => ∃ (kq : Nat) (x48_4 : Bool), v48 = .bool x48_4 ∧ Aside0 (spec_LayoutValid.j2 kq l0 x3_1 x48_4 = some r) ∧ Aside0 (kq ≤ kj1) ∧ Drawn0 w wc)
            case first =>
              have H := HC5.out
              clear HC5
              by_cases c6 : 0 ≤ x3_1
              · rw [if_pos c6] at H
                have c6b0 : decide (0 ≤ x3_1) = true := decide_eq_true c6
                clear c6
                (first | rw [c6b0] | (simp only [i64_w, i32_w]; rw [c6b0]) | skip)
                by_cases c7 : x3_1 < (l0.length : Int)
                · rw [if_pos c7] at H
                  have c7b0 : decide (x3_1 < (l0.length : Int)) = true := decide_eq_true c7
                  clear c7
                  by_cases c8 : ((rd_TRow l0 x3_1).f0) < 0
                  · rw [if_pos c8] at H
                    have c8b0 : decide (((rd_TRow l0 x3_1).f0) < 0) = true := decide_eq_true c8
                    clear c8
                    have H' := Aside0.mk H
                    clear H
                    have p457 : 0 ≤ (x3_1 : Int) := of_decide_eq_true (by first | (with_reducible assumption) | assumption)
                    have q457 : x3_1 < (l0.length : Int) := of_decide_eq_true (by first | (with_reducible assumption) | assumption)
                    obtain ⟨ad457, e457, hx457_0, hx457_1⟩ := at_TRow HR0.out x3_1 p457 q457
                    cases e457
                    replace p457 := eq_true p457
                    replace q457 := eq_true q457
                    go_wp2
                    go_meet
                    case rel => exact ⟨_, (true), (by first | rfl | (simp; done) | (simp [*]; done)), H', ⟨by have := HK1.out; have := HJ1.out; first | omega | exact Nat.le_refl _⟩, by repeat (first | exact Drawn0.refl _ | apply Drawn0.step)⟩
                  · rw [if_neg c8] at H
                    have c8b0 : decide (((rd_TRow l0 x3_1).f0) < 0) = false := decide_eq_false c8
                    clear c8
                    by_cases c9 : ((rd_TRow l0 x3_1).f0) > 400
                    · rw [if_pos c9] at H
                      have c9b0 : decide (400 < ((rd_TRow l0 x3_1).f0)) = true := decide_eq_true c9
                      clear c9
                      have H' := Aside0.mk H
                      clear H
                      have p457 : 0 ≤ (x3_1 : Int) := of_decide_eq_true (by first | (with_reducible assumption) | assumption)
                      have q457 : x3_1 < (l0.length : Int) := of_decide_eq_true (by first | (with_reducible assumption) | assumption)
                      obtain ⟨ad457, e457, hx457_0, hx457_1⟩ := at_TRow HR0.out x3_1 p457 q457
                      cases e457
                      replace p457 := eq_true p457
                      replace q457 := eq_true q457
                      have p458 : 0 ≤ (x3_1 : Int) := of_decide_eq_true (by first | (with_reducible assumption) | assumption)
                      have q458 : x3_1 < (l0.length : Int) := of_decide_eq_true (by first | (with_reducible assumption) | assumption)
                      obtain ⟨ad458, e458, hx458_0, hx458_1⟩ := at_TRow HR0.out x3_1 p458 q458
                      obtain rfl : ad457 = ad458 := (by injection e458)
                      replace p458 := eq_true p458
                      replace q458 := eq_true q458
                      go_wp2
                      go_meet
                      case rel => exact ⟨_, (true), (by first | rfl | (simp; done) | (simp [*]; done)), H', ⟨by have := HK1.out; have := HJ1.out; first | omega | exact Nat.le_refl _⟩, by repeat (first | exact Drawn0.refl _ | apply Drawn0.step)⟩
                    · rw [if_neg c9] at H
                      have c9b0 : decide (400 < ((rd_TRow l0 x3_1).f0)) = false := decide_eq_false c9
                      clear c9
                      by_cases c10 : x3_1 = 0
                      · rw [if_pos c10] at H
                        have c10b0 : (x3_1 == 0) = true := beq_iff_eq.mpr c10
                        have c10b1 : (x3_1 != 0) = false := bne_eq_false_iff_eq.mpr c10
                        clear c10
                        by_cases c11 : ((rd_TRow l0 x3_1).f0) = 0
                        · rw [if_pos c11] at H
                          have c11b0 : (((rd_TRow l0 x3_1).f0) == 0) = true := beq_iff_eq.mpr c11
                          have c11b1 : (((rd_TRow l0 x3_1).f0) != 0) = false := bne_eq_false_iff_eq.mpr c11
                          clear c11
                          replace H := Option.bind_eq_some_iff.mp H
                          obtain ⟨t461, A120, H⟩ := H
                          replace H : (spec_LayoutValid.j2 kj1 l0 x3_1 (!t461)) = some r := H
                          have A12 := Aside0.mk A120
                          clear A120
                          have H' := Aside0.mk H
                          clear H
                          have p457 : 0 ≤ (x3_1 : Int) := of_decide_eq_true (by first | (with_reducible assumption) | assumption)
                          have q457 : x3_1 < (l0.length : Int) := of_decide_eq_true (by first | (with_reducible assumption) | assumption)
                          obtain ⟨ad457, e457, hx457_0, hx457_1⟩ := at_TRow HR0.out x3_1 p457 q457
                          cases e457
                          replace p457 := eq_true p457
                          replace q457 := eq_true q457
                          have p458 : 0 ≤ (x3_1 : Int) := of_decide_eq_true (by first | (with_reducible assumption) | assumption)
                          have q458 : x3_1 < (l0.length : Int) := of_decide_eq_true (by first | (with_reducible assumption) | assumption)
                          obtain ⟨ad458, e458, hx458_0, hx458_1⟩ := at_TRow HR0.out x3_1 p458 q458
                          obtain rfl : ad457 = ad458 := (by injection e458)
                          replace p458 := eq_true p458
                          replace q458 := eq_true q458
                          have p459 : 0 ≤ (x3_1 : Int) := of_decide_eq_true (by first | (with_reducible assumption) | assumption)
                          have q459 : x3_1 < (l0.length : Int) := of_decide_eq_true (by first | (with_reducible assumption) | assumption)
                          obtain ⟨ad459, e459, hx459_0, hx459_1⟩ := at_TRow HR0.out x3_1 p459 q459
                          obtain rfl : ad457 = ad459 := (by injection e459)
                          replace p459 := eq_true p459
                          replace q459 := eq_true q459
                          have p460 : 0 ≤ (x3_1 : Int) := of_decide_eq_true (by first | (with_reducible assumption) | assumption)
                          have q460 : x3_1 < (l0.length : Int) := of_decide_eq_true (by first | (with_reducible assumption) | assumption)
                          obtain ⟨ad460, e460, hx460_0, hx460_1⟩ := at_TRow HR0.out x3_1 p460 q460
                          obtain rfl : ad457 = ad460 := (by injection e460)
                          replace p460 := eq_true p460
                          replace q460 := eq_true q460
                          go_wp2_with (first | (go_at_call 55; (with_reducible refine (spec_l2Text.calls kj1 ((rd_TRow l0 x3_1).f1) t461 _ A12.out).mono ?_); rintro e w' ⟨rfl, ⟨nd, rfl⟩⟩))
                          go_meet
                          case rel => exact ⟨_, (!t461), (by first | rfl | (simp; done) | (simp [*]; done)), H', ⟨by have := HK1.out; have := HJ1.out; first | omega | exact Nat.le_refl _⟩, by repeat (first | exact Drawn0.refl _ | apply Drawn0.step)⟩
                        · rw [if_neg c11] at H
                          have c11b0 : (((rd_TRow l0 x3_1).f0) == 0) = false := beq_eq_false_iff_ne.mpr c11
                          have c11b1 : (((rd_TRow l0 x3_1).f0) != 0) = true := bne_iff_ne.mpr c11
                          have H' := Aside0.mk H
                          clear H
                          have p457 : 0 ≤ (x3_1 : Int) := of_decide_eq_true (by first | (with_reducible assumption) | assumption)
                          have q457 : x3_1 < (l0.length : Int) := of_decide_eq_true (by first | (with_reducible assumption) | assumption)
                          obtain ⟨ad457, e457, hx457_0, hx457_1⟩ := at_TRow HR0.out x3_1 p457 q457
                          cases e457
                          replace p457 := eq_true p457
                          replace q457 := eq_true q457
                          have p458 : 0 ≤ (x3_1 : Int) := of_decide_eq_true (by first | (with_reducible assumption) | assumption)
                          have q458 : x3_1 < (l0.length : Int) := of_decide_eq_true (by first | (with_reducible assumption) | assumption)
                          obtain ⟨ad458, e458, hx458_0, hx458_1⟩ := at_TRow HR0.out x3_1 p458 q458
                          obtain rfl : ad457 = ad458 := (by injection e458)
                          replace p458 := eq_true p458
                          replace q458 := eq_true q458
                          have p459 : 0 ≤ (x3_1 : Int) := of_decide_eq_true (by first | (with_reducible assumption) | assumption)
                          have q459 : x3_1 < (l0.length : Int) := of_decide_eq_true (by first | (with_reducible assumption) | assumption)
                          obtain ⟨ad459, e459, hx459_0, hx459_1⟩ := at_TRow HR0.out x3_1 p459 q459
                          obtain rfl : ad457 = ad459 := (by injection e459)
                          replace p459 := eq_true p459
                          replace q459 := eq_true q459
                          go_wp2
                          go_meet
                          case rel => exact ⟨_, (true), (by first | rfl | (simp; done) | (simp [*]; done)), H', ⟨by have := HK1.out; have := HJ1.out; first | omega | exact Nat.le_refl _⟩, by repeat (first | exact Drawn0.refl _ | apply Drawn0.step)⟩
                      · rw [if_neg c10] at H
                        have c10b0 : (x3_1 == 0) = false := beq_eq_false_iff_ne.mpr c10
                        have c10b1 : (x3_1 != 0) = true := bne_iff_ne.mpr c10
                        replace H := Option.bind_eq_some_iff.mp H
                        obtain ⟨t463, A130, H⟩ := H
                        replace H : (spec_LayoutValid.j2 kj1 l0 x3_1 (!t463)) = some r := H
                        have A13 := Aside0.mk A130
                        clear A130
                        have H' := Aside0.mk H
                        clear H
                        have p457 : 0 ≤ (x3_1 : Int) := of_decide_eq_true (by first | (with_reducible assumption) | assumption)
                        have q457 : x3_1 < (l0.length : Int) := of_decide_eq_true (by first | (with_reducible assumption) | assumption)
                        obtain ⟨ad457, e457, hx457_0, hx457_1⟩ := at_TRow HR0.out x3_1 p457 q457
                        cases e457
                        replace p457 := eq_true p457
                        replace q457 := eq_true q457
                        have p458 : 0 ≤ (x3_1 : Int) := of_decide_eq_true (by first | (with_reducible assumption) | assumption)
                        have q458 : x3_1 < (l0.length : Int) := of_decide_eq_true (by first | (with_reducible assumption) | assumption)
                        obtain ⟨ad458, e458, hx458_0, hx458_1⟩ := at_TRow HR0.out x3_1 p458 q458
                        obtain rfl : ad457 = ad458 := (by injection e458)
                        replace p458 := eq_true p458
                        replace q458 := eq_true q458
                        have p462 : 0 ≤ (x3_1 : Int) := of_decide_eq_true (by first | (with_reducible assumption) | assumption)
                        have q462 : x3_1 < (l0.length : Int) := of_decide_eq_true (by first | (with_reducible assumption) | assumption)
                        obtain ⟨ad462, e462, hx462_0, hx462_1⟩ := at_TRow HR0.out x3_1 p462 q462
                        obtain rfl : ad457 = ad462 := (by injection e462)
                        replace p462 := eq_true p462
                        replace q462 := eq_true q462
                        go_wp2_with (first | (go_at_call 55; (with_reducible refine (spec_l2Text.calls kj1 ((rd_TRow l0 x3_1).f1) t463 _ A13.out).mono ?_); rintro e w' ⟨rfl, ⟨nd, rfl⟩⟩))
                        go_meet
                        case rel => exact ⟨_, (!t463), (by first | rfl | (simp; done) | (simp [*]; done)), H', ⟨by have := HK1.out; have := HJ1.out; first | omega | exact Nat.le_refl _⟩, by repeat (first | exact Drawn0.refl _ | apply Drawn0.step)⟩
                · rw [if_neg c7] at H
                  exact absurd H (by simp)
              · rw [if_neg c6] at H
                exact absurd H (by simp)
            case rest =>
              clear HC5
              try clear c1
              try clear c2
              try clear p2
              try clear c3
              try clear c3b0
              try clear c4
              try clear p4
              try clear q4
              try clear hx4
              try clear c6
              try clear c6b0
              try clear c7
              try clear c7b0
              try clear c8
              try clear c8b0
              try clear c9
              try clear c9b0
              try clear c10
              try clear c10b0
              try clear c10b1
              try clear c11
              try clear c11b0
              try clear c11b1
              try clear hx457_0
              try clear hx457_1
              try clear hx458_0
              try clear hx458_1
              try clear hx459_0
              try clear hx459_1
              try clear hx460_0
              try clear hx460_1
              try clear hx462_0
              try clear hx462_1
              try clear p2
              try clear p457
              try clear p458
              try clear p459
              try clear p460
              try clear p462
              try clear q457
              try clear q458
              try clear q459
              try clear q460
              try clear q462
              obtain ⟨kq, x48_4, rfl, HA, HJ4, ⟨mc4, rfl⟩⟩ := hcut
              cases kq with
              | zero => exact absurd HA.out (by simp [spec_LayoutValid.j2])
              | succ kj4 =>
                have H := HA.out
                clear HA
                simp only [spec_LayoutValid.j2] at H
                by_cases c14 : x48_4 = true
                · subst c14
                  have H1 : (some false) = some r := by rw [if_pos rfl] at H; exact H
                  clear H
                  have H := H1
                  clear H1
                  obtain rfl := Option.some.inj H
                  go_wp2
                  go_ret
                  exact ⟨by first | rfl | (simp; done) | (simp [*]; done), by repeat (first | exact Drawn0.refl _ | apply Drawn0.step)⟩
                · replace c14 := Bool.eq_false_iff.mpr c14
                  subst c14
                  have H1 : (spec_LayoutValid.l0 kj4 l0 (wrap64 (x3_1 + 1))) = some r := by rw [if_neg (show ¬ (false = true) by decide)] at H; exact H
                  clear H
                  have H := H1
                  clear H1
                  have H' := Aside0.mk H
                  clear H
                  go_wp2
                  go_roundg kj4
                  case measure => have := HK1.out; have := HJ1.out; have := HJ4.out; omega
                  case rel => exact ⟨(wrap64 (x3_1 + 1)), (by first | rfl | (simp; done) | (simp [*]; done)), H', ⟨by have := HK1.out; have := HJ1.out; have := HJ4.out; omega⟩, by repeat (first | exact Drawn0.refl _ | apply Drawn0.step)⟩
          · replace c4 := Bool.eq_false_iff.mpr c4
            subst c4
            have H1 : (if (l0.length : Int) > 0 then (some (decide ((l0.length : Int) ≤ 200))) else (some false)) = some r := by rw [if_neg (show ¬ (false = true) by decide)] at H; exact H
            clear H
            have H := H1
            clear H1
            by_cases c15 : (l0.length : Int) > 0
            · rw [if_pos c15] at H
              have c15b0 : decide (0 < (l0.length : Int)) = true := decide_eq_true c15
              have c15b1 : decide (0 < l0.length) = true := decide_eq_true (by omega)
              clear c15
              obtain rfl := Option.some.inj H
              go_wp2
              go_ret
              exact ⟨by first | rfl | (simp; done) | (simp [*]; done), by repeat (first | exact Drawn0.refl _ | apply Drawn0.step)⟩
            · rw [if_neg c15] at H
              have c15b0 : decide (0 < (l0.length : Int)) = false := decide_eq_false c15
              have c15b1 : decide (0 < l0.length) = false := decide_eq_false (by omega)
              clear c15
              obtain rfl := Option.some.inj H
              go_wp2
              go_ret
              exact ⟨by first | rfl | (simp; done) | (simp [*]; done), by repeat (first | exact Drawn0.refl _ | apply Drawn0.step)⟩
end Go.Proofs.Ytdhdfmmefghijab.P
namespace Go.Proofs.Ytdhdfmmefghijab.P
open Go.RowKit Go.Proofs.YtdhdfmmefghijabW.PrintWords Go.Proofs.YtdhdfmmefghijabW.PrintLast Go.Proofs.YtdhdfmmefghijabW.PrintMore
attribute [local go_sem] max2_int min2_int max_two min_two max_three min_three max_four min_four
set_option linter.unusedVariables false
set_option linter.unusedSimpArgs false
def spec_CatLayouts.j0 : Nat → List (SRow) → List (SRow) → Bool → Option ((List (SRow)) × Bool)
  | 0, _, _, _ => none
  | k + 1, x0, x1, x14 => if x14 = true then (some ((([] : List (SRow))), false)) else ((spec_l2Cat.f x0 x1).bind fun t469 => ((spec_LayoutValid.f k t469).bind fun t472 => (if t472 = true then (some (t469, true)) else (some ((([] : List (SRow))), false)))))
def spec_CatLayouts.f (k : Nat) (l0 : List (SRow)) (l1 : List (SRow)) : Option ((List (SRow)) × Bool) := (spec_LayoutValid.f k l0).bind fun t464 => (if t464 = true then ((spec_LayoutValid.f k l1).bind fun t465 => (spec_CatLayouts.j0 k l0 l1 (!t465))) else (spec_CatLayouts.j0 k l0 l1 true))
set_option maxHeartbeats 8000000 in
set_option maxRecDepth 100000 in
theorem spec_CatLayouts.calls (k : Nat) (A0 : Option Addr) (c0 : Nat) (l0 : List (SRow)) (A1 : Option Addr) (c1 : Nat) (l1 : List (SRow)) (r1 : List (SRow)) (r2 : Bool) (w : World) (hr0 : Kd.C k30 w A0 l0.length l0) (hc0 : l0.length ≤ c0) (hr1 : Kd.C k30 w A1 l1.length l1) (hc1 : l1.length ≤ c1) (h : spec_CatLayouts.f k l0 l1 = some (r1, r2)) :
    Calls Try.prog 17 #[.slice A0 l0.length c0, .slice A1 l1.length c1] w fun e w' => ∃ v0_ : Value, e = .returned (.tuple #[v0_, .bool r2]) ∧ Kd.R k30 30 w' w.heap.size (fun _ => True) v0_ r1 ∧ Below w.heap.size w w' := by
  have HR0 := Aside0.mk hr0
  have HC0 := Aside0.mk hc0
  clear hr0 hc0
  have HR1 := Aside0.mk hr1
  have HC1 := Aside0.mk hc1
  clear hr1 hc1
  have HB := Aside0.mk (Below.refl w.heap.size w)
  have H : ((spec_LayoutValid.f k l0).bind fun t464 => (if t464 = true then ((spec_LayoutValid.f k l1).bind fun t465 => (spec_CatLayouts.j0 k l0 l1 (!t465))) else (spec_CatLayouts.j0 k l0 l1 true))) = some (r1, r2) := h
  clear h
  have HC3 := Aside0.mk H
  clear H
  go_enter Try.func17, Try.ntmps17
  go_upto_region 1 with (fail)
  go_cut [14] (fun v14 wc => ∃ (kq : Nat) (x14_2 : Bool), v14 = .bool x14_2 ∧ Aside0 (spec_CatLayouts.j0 kq l0 l1 x14_2 = some (r1, r2)) ∧ Aside0 (kq ≤ k) ∧ Aside0 (Below w.heap.size w wc))
  case first =>
    have H := HC3.out
    clear HC3
    replace H := Option.bind_eq_some_iff.mp H
    obtain ⟨t464, A40, H⟩ := H
    replace H : (if t464 = true then ((spec_LayoutValid.f k l1).bind fun t465 => (spec_CatLayouts.j0 k l0 l1 (!t465))) else (spec_CatLayouts.j0 k l0 l1 true)) = some (r1, r2) := H
    have A4 := Aside0.mk A40
    clear A40
    by_cases c5 : t464 = true
    · subst c5
      have H1 : ((spec_LayoutValid.f k l1).bind fun t465 => (spec_CatLayouts.j0 k l0 l1 (!t465))) = some (r1, r2) := by rw [if_pos rfl] at H; exact H
      clear H
      have H := H1
      clear H1
      replace H := Option.bind_eq_some_iff.mp H
      obtain ⟨t465, A60, H⟩ := H
      replace H : (spec_CatLayouts.j0 k l0 l1 (!t465)) = some (r1, r2) := H
      have A6 := Aside0.mk A60
      clear A60
      have H' := Aside0.mk H
      clear H
      go_wp2_with (first | ((with_reducible refine gate_callee (f := 29) rfl ?_); refine goesL_ (some 8) rfl rfl Try.func29 (by kernel_rfl) rfl #[.slice A0 l0.length c0] rfl (by (try simp only [List.map_toArray, List.map_cons, List.map_nil]); first | done | rfl | (simp only [List.length_drop, List.length_take]; rfl)) ?_; (with_reducible refine (spec_LayoutValid.calls k _ _ l0 true _ ?side1 ?side2 A4.out).mono ?_); (case side1 => repeat (first | exact (Kd.C_below HR0.out HB.out) | (with_reducible refine Kd.C_alloc ?_ _) | (with_reducible refine Kd.C_drewN ?_ _) | (with_reducible refine Kd.C_drew ?_))); (case side2 => exact HC0.out); rintro e w' ⟨rfl, ⟨nd, rfl⟩⟩; refine ⟨_, rfl, ?_⟩) | (go_at_call 29; (with_reducible refine (spec_LayoutValid.calls k _ _ l1 t465 _ ?side1 ?side2 A6.out).mono ?_); (case side1 => repeat (first | exact (Kd.C_below HR1.out (by repeat (first | (with_reducible first | exact HB.out | apply below_alloc | apply pw_below_drewN | apply below_drew1) | exact HB.out))) | (with_reducible refine Kd.C_alloc ?_ _) | (with_reducible refine Kd.C_drewN ?_ _) | (with_reducible refine Kd.C_drew ?_))); (case side2 => exact HC1.out); rintro e w' ⟨rfl, ⟨nd, rfl⟩⟩))
      go_meet
      case rel => exact ⟨_, (!t465), (by first | rfl | (simp; done) | (simp [*]; done)), H', ⟨by first | omega | exact Nat.le_refl _⟩, ⟨by repeat (first | (with_reducible first | exact HB.out | apply below_alloc | apply pw_below_drewN | apply below_drew1) | exact HB.out)⟩⟩
    · replace c5 := Bool.eq_false_iff.mpr c5
      subst c5
      have H1 : (spec_CatLayouts.j0 k l0 l1 true) = some (r1, r2) := by rw [if_neg (show ¬ (false = true) by decide)] at H; exact H
      clear H
      have H := H1
      clear H1
      have H' := Aside0.mk H
      clear H
      go_wp2_with (first | ((with_reducible refine gate_callee (f := 29) rfl ?_); refine goesL_ (some 8) rfl rfl Try.func29 (by kernel_rfl) rfl #[.slice A0 l0.length c0] rfl (by (try simp only [List.map_toArray, List.map_cons, List.map_nil]); first | done | rfl | (simp only [List.length_drop, List.length_take]; rfl)) ?_; (with_reducible refine (spec_LayoutValid.calls k _ _ l0 false _ ?side1 ?side2 A4.out).mono ?_); (case side1 => repeat (first | exact (Kd.C_below HR0.out HB.out) | (with_reducible refine Kd.C_alloc ?_ _) | (with_reducible refine Kd.C_drewN ?_ _) | (with_reducible refine Kd.C_drew ?_))); (case side2 => exact HC0.out); rintro e w' ⟨rfl, ⟨nd, rfl⟩⟩; refine ⟨_, rfl, ?_⟩))
      go_meet
      case rel => exact ⟨_, (true), (by first | rfl | (simp; done) | (simp [*]; done)), H', ⟨by first | omega | exact Nat.le_refl _⟩, ⟨by repeat (first | (with_reducible first | exact HB.out | apply below_alloc | apply pw_below_drewN | apply below_drew1) | exact HB.out)⟩⟩
  case rest =>
    clear HC3
    try clear c1
    try clear c2
    try clear p2
    try clear c5
    obtain ⟨kq, x14_2, rfl, HA, HJ2, HB⟩ := hcut
    cases kq with
    | zero => exact absurd HA.out (by simp [spec_CatLayouts.j0])
    | succ kj2 =>
      have H := HA.out
      clear HA
      simp only [spec_CatLayouts.j0] at H
      by_cases c7 : x14_2 = true
      · subst c7
        have H1 : (some ((([] : List (SRow))), false)) = some (r1, r2) := by rw [if_pos rfl] at H; exact H
        clear H
        have H := H1
        clear H1
        obtain ⟨y466, hy466⟩ : ∃ y_ : List (SRow), y_ = (([] : List (SRow))) := ⟨_, rfl⟩
        replace H : (some (y466, false)) = some (r1, r2) := by first | (rw [hy466]; with_reducible exact H) | (have H2_ := (Option.bind_some _ _).symm.trans H; rw [hy466]; with_reducible exact H2_) | (have H2_ := (Option.bind_some _ _).symm.trans H; with_reducible exact H2_) | with_reducible exact H | (rw [hy466]; exact H) | exact H
        have Ny466 := Aside0.mk hy466
        clear hy466
        simp only [Option.some.injEq, Prod.mk.injEq] at H
        obtain ⟨rfl, rfl⟩ := H
        go_wp2_with (first | ((with_reducible refine gate_dst (N := 15) rfl ?_); refine Kd.R_lit k30 _ 30 ?hg (N := 15) ?hd (xs := ([] : List (SRow))) (inner := []) (ok := fun _ => True) (okp := fun _ => True) ?hr ?hp (fun _ hk => hk) trivial (Below.refl _ _) (Nat.le_refl _) (by simp) ?_; (case hd => rfl); (case hg => rfl); (case hr => first | (go_simp; done) | (go_simp; rfl)); (case hp => exact (Reps.none _ _)); intro v467 w8 ho9 hb hg_ hnew_; clear hg_ hnew_; (first | rw [← Ny466.out] at ho9 | (simp only [Int.reduceToNat] at ho9; rw [← Ny466.out] at ho9)); have n0_ := Aside0.mk (Kd.R_lower ho9 (below_size (by repeat (first | (with_reducible first | exact HB.out | apply below_alloc | apply pw_below_drewN | apply below_drew1) | exact HB.out)))); have n1_ := Aside0.mk (below_step (by repeat (first | (with_reducible first | exact HB.out | apply below_alloc | apply pw_below_drewN | apply below_drew1) | exact HB.out)) hb); clear HB; have HO468 := n0_; have HB := n1_; clear n0_ n1_; clear hb ho9))
        go_ret2
        exact ⟨_, by first | rfl | (simp [errW_none, errW_some] <;> rfl) | (simp [*, errW_none, errW_some] <;> rfl), by (with_reducible repeat (first | apply Kd.R_alloc | apply Kd.R_drewN | apply Kd.R_drew)); exact HO468.out, by repeat (first | (with_reducible first | exact HB.out | apply below_alloc | apply pw_below_drewN | apply below_drew1) | exact HB.out)⟩
      · replace c7 := Bool.eq_false_iff.mpr c7
        subst c7
        have H1 : ((spec_l2Cat.f l0 l1).bind fun t469 => ((spec_LayoutValid.f kj2 t469).bind fun t472 => (if t472 = true then (some (t469, true)) else (some ((([] : List (SRow))), false))))) = some (r1, r2) := by rw [if_neg (show ¬ (false = true) by decide)] at H; exact H
        clear H
        have H := H1
        clear H1
        replace H := Option.bind_eq_some_iff.mp H
        obtain ⟨t469, A100, H⟩ := H
        replace H : ((spec_LayoutValid.f kj2 t469).bind fun t472 => (if t472 = true then (some (t469, true)) else (some ((([] : List (SRow))), false)))) = some (r1, r2) := H
        have A10 := Aside0.mk A100
        clear A100
        replace H := Option.bind_eq_some_iff.mp H
        obtain ⟨t472, A110, H⟩ := H
        replace H : (if t472 = true then (some (t469, true)) else (some ((([] : List (SRow))), false))) = some (r1, r2) := H
        have A11 := Aside0.mk A110
        clear A110
        by_cases c12 : t472 = true
        · subst c12
          have H1 : (some (t469, true)) = some (r1, r2) := by rw [if_pos rfl] at H; exact H
          clear H
          have H := H1
          clear H1
          simp only [Option.some.injEq, Prod.mk.injEq] at H
          obtain ⟨rfl, rfl⟩ := H
          go_wp2_with (first | ((with_reducible refine gate_callee (f := 43) rfl ?_); refine goesL_ (some 18) rfl rfl Try.func43 (by kernel_rfl) rfl #[.slice A0 l0.length c0, .slice A1 l1.length c1] rfl (by (try simp only [List.map_toArray, List.map_cons, List.map_nil]); first | done | rfl | (simp only [List.length_drop, List.length_take]; rfl)) ?_; (with_reducible refine (spec_l2Cat.calls _ _ l0 _ _ l1 t469 _ ?side1 ?side2 ?side3 ?side4 A10.out).mono ?_); (case side1 => repeat (first | exact (Kd.C_below HR0.out HB.out) | (with_reducible refine Kd.C_alloc ?_ _) | (with_reducible refine Kd.C_drewN ?_ _) | (with_reducible refine Kd.C_drew ?_))); (case side2 => exact HC0.out); (case side3 => repeat (first | exact (Kd.C_below HR1.out HB.out) | (with_reducible refine Kd.C_alloc ?_ _) | (with_reducible refine Kd.C_drewN ?_ _) | (with_reducible refine Kd.C_drew ?_))); (case side4 => exact HC1.out); rintro e w13 ⟨v470, rfl, ho0, hb⟩; refine ⟨_, rfl, ?_⟩; have n0_ := Aside0.mk (Kd.R_lower ho0 (below_size (by repeat (first | (with_reducible first | exact HB.out | apply below_alloc | apply pw_below_drewN | apply below_drew1) | exact HB.out)))); have n1_ := Aside0.mk (below_step (by repeat (first | (with_reducible first | exact HB.out | apply below_alloc | apply pw_below_drewN | apply below_drew1) | exact HB.out)) hb); clear HB; have HO471 := n0_; have HB := n1_; clear n0_ n1_; (try clear hb); (try clear hb2); (try clear hk); (try clear hi); (try clear ho0); obtain ⟨Ao14, co14, eo14⟩ := Kd.R_slice HO471.out; subst eo14) | ((with_reducible refine gate_callee (f := 29) rfl ?_); refine goesL_ (some 20) rfl rfl Try.func29 (by kernel_rfl) rfl #[.slice Ao14 t469.length co14] rfl (by (try simp only [List.map_toArray, List.map_cons, List.map_nil]); first | done | rfl | (simp only [List.length_drop, List.length_take]; rfl)) ?_; (with_reducible refine (spec_LayoutValid.calls kj2 _ _ t469 true _ ?side1 ?side2 A11.out).mono ?_); (case side1 => repeat (first | exact (Kd.R_reads' HO471.out).2.2 | (with_reducible refine Kd.C_alloc ?_ _) | (with_reducible refine Kd.C_drewN ?_ _) | (with_reducible refine Kd.C_drew ?_))); (case side2 => exact (Kd.R_reads' HO471.out).2.1); rintro e w' ⟨rfl, ⟨nd, rfl⟩⟩; refine ⟨_, rfl, ?_⟩))
          go_ret2
          exact ⟨_, by first | rfl | (simp [errW_none, errW_some] <;> rfl) | (simp [*, errW_none, errW_some] <;> rfl), by (with_reducible repeat (first | apply Kd.R_alloc | apply Kd.R_drewN | apply Kd.R_drew)); exact HO471.out, by repeat (first | (with_reducible first | exact HB.out | apply below_alloc | apply pw_below_drewN | apply below_drew1) | exact HB.out)⟩
        · replace c12 := Bool.eq_false_iff.mpr c12
          subst c12
          have H1 : (some ((([] : List (SRow))), false)) = some (r1, r2) := by rw [if_neg (show ¬ (false = true) by decide)] at H; exact H
          clear H
          have H := H1
          clear H1
          obtain ⟨y473, hy473⟩ : ∃ y_ : List (SRow), y_ = (([] : List (SRow))) := ⟨_, rfl⟩
          replace H : (some (y473, false)) = some (r1, r2) := by first | (rw [hy473]; with_reducible exact H) | (have H2_ := (Option.bind_some _ _).symm.trans H; rw [hy473]; with_reducible exact H2_) | (have H2_ := (Option.bind_some _ _).symm.trans H; with_reducible exact H2_) | with_reducible exact H | (rw [hy473]; exact H) | exact H
          have Ny473 := Aside0.mk hy473
          clear hy473
          simp only [Option.some.injEq, Prod.mk.injEq] at H
          obtain ⟨rfl, rfl⟩ := H
          go_wp2_with (first | ((with_reducible refine gate_callee (f := 43) rfl ?_); refine goesL_ (some 18) rfl rfl Try.func43 (by kernel_rfl) rfl #[.slice A0 l0.length c0, .slice A1 l1.length c1] rfl (by (try simp only [List.map_toArray, List.map_cons, List.map_nil]); first | done | rfl | (simp only [List.length_drop, List.length_take]; rfl)) ?_; (with_reducible refine (spec_l2Cat.calls _ _ l0 _ _ l1 t469 _ ?side1 ?side2 ?side3 ?side4 A10.out).mono ?_); (case side1 => repeat (first | exact (Kd.C_below HR0.out HB.out) | (with_reducible refine Kd.C_alloc ?_ _) | (with_reducible refine Kd.C_drewN ?_ _) | (with_reducible refine Kd.C_drew ?_))); (case side2 => exact HC0.out); (case side3 => repeat (first | exact (Kd.C_below HR1.out HB.out) | (with_reducible refine Kd.C_alloc ?_ _) | (with_reducible refine Kd.C_drewN ?_ _) | (with_reducible refine Kd.C_drew ?_))); (case side4 => exact HC1.out); rintro e w15 ⟨v470, rfl, ho0, hb⟩; refine ⟨_, rfl, ?_⟩; have n0_ := Aside0.mk (Kd.R_lower ho0 (below_size (by repeat (first | (with_reducible first | exact HB.out | apply below_alloc | apply pw_below_drewN | apply below_drew1) | exact HB.out)))); have n1_ := Aside0.mk (below_step (by repeat (first | (with_reducible first | exact HB.out | apply below_alloc | apply pw_below_drewN | apply below_drew1) | exact HB.out)) hb); clear HB; have HO471 := n0_; have HB := n1_; clear n0_ n1_; (try clear hb); (try clear hb2); (try clear hk); (try clear hi); (try clear ho0); obtain ⟨Ao16, co16, eo16⟩ := Kd.R_slice HO471.out; subst eo16) | ((with_reducible refine gate_callee (f := 29) rfl ?_); refine goesL_ (some 20) rfl rfl Try.func29 (by kernel_rfl) rfl #[.slice Ao16 t469.length co16] rfl (by (try simp only [List.map_toArray, List.map_cons, List.map_nil]); first | done | rfl | (simp only [List.length_drop, List.length_take]; rfl)) ?_; (with_reducible refine (spec_LayoutValid.calls kj2 _ _ t469 false _ ?side1 ?side2 A11.out).mono ?_); (case side1 => repeat (first | exact (Kd.R_reads' HO471.out).2.2 | (with_reducible refine Kd.C_alloc ?_ _) | (with_reducible refine Kd.C_drewN ?_ _) | (with_reducible refine Kd.C_drew ?_))); (case side2 => exact (Kd.R_reads' HO471.out).2.1); rintro e w' ⟨rfl, ⟨nd, rfl⟩⟩; refine ⟨_, rfl, ?_⟩) | ((with_reducible refine gate_dst (N := 22) rfl ?_); refine Kd.R_lit k30 _ 30 ?hg (N := 22) ?hd (xs := ([] : List (SRow))) (inner := []) (ok := fun _ => True) (okp := fun _ => True) ?hr ?hp (fun _ hk => hk) trivial (Below.refl _ _) (Nat.le_refl _) (by simp) ?_; (case hd => rfl); (case hg => rfl); (case hr => first | (go_simp; done) | (go_simp; rfl)); (case hp => exact (Reps.none _ _)); intro v474 w17 ho18 hb hg_ hnew_; clear hg_ hnew_; (first | rw [← Ny473.out] at ho18 | (simp only [Int.reduceToNat] at ho18; rw [← Ny473.out] at ho18)); have n0_ := Aside0.mk (Kd.R_elder' (by (with_reducible repeat (first | apply Kd.R_alloc | apply Kd.R_drewN | apply Kd.R_drew)); exact HO471.out) (Kd.R_base ho18) hb); have n1_ := Aside0.mk (Kd.R_lower (Kd.R_new' ho18 (Kd.R_lt (by (with_reducible repeat (first | apply Kd.R_alloc | apply Kd.R_drewN | apply Kd.R_drew)); exact HO471.out))) (below_size (by repeat (first | (with_reducible first | exact HB.out | apply below_alloc | apply pw_below_drewN | apply below_drew1) | exact HB.out)))); have n2_ := Aside0.mk (below_step (by repeat (first | (with_reducible first | exact HB.out | apply below_alloc | apply pw_below_drewN | apply below_drew1) | exact HB.out)) hb); clear HO471; clear HB; have HO471 := n0_; have HO475 := n1_; have HB := n2_; clear n0_ n1_ n2_; clear hb ho18))
          go_ret2
          exact ⟨_, by first | rfl | (simp [errW_none, errW_some] <;> rfl) | (simp [*, errW_none, errW_some] <;> rfl), by (with_reducible repeat (first | apply Kd.R_alloc | apply Kd.R_drewN | apply Kd.R_drew)); exact Kd.R_mono HO475.out (fun _ hk => trivial), by repeat (first | (with_reducible first | exact HB.out | apply below_alloc | apply pw_below_drewN | apply below_drew1) | exact HB.out)⟩
end Go.Proofs.Ytdhdfmmefghijab.P
namespace Go.Proofs.Ytdhdfmmefghijab.P
open Go.RowKit Go.Proofs.YtdhdfmmefghijabW.PrintWords Go.Proofs.YtdhdfmmefghijabW.PrintLast Go.Proofs.YtdhdfmmefghijabW.PrintMore
attribute [local go_sem] max2_int min2_int max_two min_two max_three min_three max_four min_four
set_option linter.unusedVariables false
set_option linter.unusedSimpArgs false
theorem eqA30 (d : Nat) (w : World) (x0 y0 : Int) (x1 y1 : ByteArray) :
    (Op.equalIn (d + 2) 30 (.agg #[.int .i64 x0, .string x1]) (.agg #[.int .i64 y0, .string y1])).run Try.prog w = .ok (x0 == y0 && (x1.toList == y1.toList)) w := by
  refine eqA_of Try.underlying30 (by kernel_rfl) ?_
  refine eqf_cons (by rfl) (by go_simp; rfl) (by go_simp; rfl) (by go_simp) ?_
  exact eqf_last (by rfl) (by go_simp; rfl) (by go_simp; rfl) (by go_simp)
end Go.Proofs.Ytdhdfmmefghijab.P
namespace Go.Proofs.Ytdhdfmmefghijab.P
open Go.RowKit Go.Proofs.YtdhdfmmefghijabW.PrintWords Go.Proofs.YtdhdfmmefghijabW.PrintLast Go.Proofs.YtdhdfmmefghijabW.PrintMore
attribute [local go_sem] max2_int min2_int max_two min_two max_three min_three max_four min_four
set_option linter.unusedVariables false
set_option linter.unusedSimpArgs false
attribute [local go_sem high] eqA30
def slices_Equal_Llimpl_Row.l0 : Nat → List (SRow) → List (SRow) → Int → Int → Option (Bool)
  | 0, _, _, _, _ => none
  | k + 1, x0, x1, x12, x13 => if x13 < x12 then (if 0 ≤ x13 then (if x13 < (x0.length : Int) then (if x13 < (x1.length : Int) then (if (!(((rd_TRow x0 x13).f0) == ((rd_TRow x1 x13).f0)) || (!((((rd_TRow x0 x13).f1).toList) == (((rd_TRow x1 x13).f1).toList)))) = true then (some false) else (slices_Equal_Llimpl_Row.l0 k x0 x1 x12 (wrap64 (x13 + 1)))) else (none)) else (none)) else (none)) else (some true)
def slices_Equal_Llimpl_Row.f (k : Nat) (l0 : List (SRow)) (l1 : List (SRow)) : Option (Bool) := if (l0.length : Int) = (l1.length : Int) then (slices_Equal_Llimpl_Row.l0 k l0 l1 (l0.length : Int) 0) else (some false)
set_option maxHeartbeats 8000000 in
set_option maxRecDepth 100000 in
theorem slices_Equal_Llimpl_Row.calls (k : Nat) (A0 : Option Addr) (c0 : Nat) (l0 : List (SRow)) (A1 : Option Addr) (c1 : Nat) (l1 : List (SRow)) (r : Bool) (w : World) (hr0 : Kd.C k30 w A0 l0.length l0) (hc0 : l0.length ≤ c0) (hr1 : Kd.C k30 w A1 l1.length l1) (hc1 : l1.length ≤ c1) (h : slices_Equal_Llimpl_Row.f k l0 l1 = some r) :
    Calls Try.prog 44 #[.slice A0 l0.length c0, .slice A1 l1.length c1] w fun e w' => e = .returned (.bool r) ∧ Drawn0 w w' := by
  have hu30 := Try.underlying30
  have HR0 := Aside0.mk hr0
  have HC0 := Aside0.mk hc0
  clear hr0 hc0
  have HR1 := Aside0.mk hr1
  have HC1 := Aside0.mk hc1
  clear hr1 hc1
  have H : (if (l0.length : Int) = (l1.length : Int) then (slices_Equal_Llimpl_Row.l0 k l0 l1 (l0.length : Int) 0) else (some false)) = some r := h
  clear h
  by_cases c3 : (l0.length : Int) = (l1.length : Int)
  · rw [if_pos c3] at H
    have c3b0 : ((l0.length : Int) == (l1.length : Int)) = true := beq_iff_eq.mpr c3
    have c3b1 : ((l0.length : Int) != (l1.length : Int)) = false := bne_eq_false_iff_eq.mpr c3
    have c3b2 : (l0.length == l1.length) = true := by first | simpa using c3 | (simp at c3 ⊢; omega)
    clear c3
    have H' := Aside0.mk H
    clear H
    go_enter Try.func44, Try.ntmps44
    go_wp2
    repeat (go_quiet (fail); try go_wp2)
    go_loopg [13] k (fun kq v13 w' => ∃ (x13_1 : Int), v13 = .int .i64 x13_1 ∧ Aside0 (slices_Equal_Llimpl_Row.l0 kq l0 l1 (l0.length : Int) x13_1 = some r) ∧ Aside0 (kq ≤ k) ∧ Drawn0 w w')
    case atStart => exact ⟨(0), (by first | rfl | (simp; done) | (simp [*]; done)), H', ⟨Nat.le_refl _⟩, by repeat (first | exact Drawn0.refl _ | apply Drawn0.step)⟩
    case round =>
      clear H'
      try clear c1
      try clear p2
      try clear c3
      try clear c3b0
      try clear c3b1
      try clear c3b2
      obtain ⟨x13_1, rfl, HA, HK1, ⟨m1, rfl⟩⟩ := hrel
      cases gk with
      | zero => exact absurd HA.out (by simp [slices_Equal_Llimpl_Row.l0])
      | succ k1 =>
        have H := HA.out
        clear HA
        simp only [slices_Equal_Llimpl_Row.l0] at H
        by_cases c4 : x13_1 < (l0.length : Int)
        · rw [if_pos c4] at H
          have c4b0 : decide (x13_1 < (l0.length : Int)) = true := decide_eq_true c4
          clear c4
          by_cases c5 : 0 ≤ x13_1
          · rw [if_pos c5] at H
            have c5b0 : decide (0 ≤ x13_1) = true := decide_eq_true c5
            clear c5
            by_cases c6 : x13_1 < (l0.length : Int)
            · rw [if_pos c6] at H
              have c6b0 : decide (x13_1 < (l0.length : Int)) = true := decide_eq_true c6
              clear c6
              by_cases c7 : x13_1 < (l1.length : Int)
              · rw [if_pos c7] at H
                have c7b0 : decide (x13_1 < (l1.length : Int)) = true := decide_eq_true c7
                clear c7
                by_cases c8 : (!(((rd_TRow l0 x13_1).f0) == ((rd_TRow l1 x13_1).f0)) || (!((((rd_TRow l0 x13_1).f1).toList) == (((rd_TRow l1 x13_1).f1).toList)))) = true
                · rw [if_pos c8] at H
                  have c8b0 : (!(((rd_TRow l0 x13_1).f0) == ((rd_TRow l1 x13_1).f0)) || (!((((rd_TRow l0 x13_1).f1).toList) == (((rd_TRow l1 x13_1).f1).toList)))) = true := c8
                  clear c8
                  obtain rfl := Option.some.inj H
                  have p476 : 0 ≤ (x13_1 : Int) := of_decide_eq_true (by first | (with_reducible assumption) | assumption)
                  have q476 : x13_1 < (l0.length : Int) := of_decide_eq_true (by first | (with_reducible assumption) | assumption)
                  obtain ⟨ad476, e476, hx476_0, hx476_1⟩ := at_TRow HR0.out x13_1 p476 q476
                  cases e476
                  replace p476 := eq_true p476
                  replace q476 := eq_true q476
                  have p477 : 0 ≤ (x13_1 : Int) := of_decide_eq_true (by first | (with_reducible assumption) | assumption)
                  have q477 : x13_1 < (l1.length : Int) := of_decide_eq_true (by first | (with_reducible assumption) | assumption)
                  obtain ⟨ad477, e477, hx477_0, hx477_1⟩ := at_TRow HR1.out x13_1 p477 q477
                  cases e477
                  replace p477 := eq_true p477
                  replace q477 := eq_true q477
                  go_wp2
                  repeat (go_quiet (fail); try go_wp2)
                  go_ret
                  exact ⟨by first | rfl | (simp; done) | (simp [*]; done), by repeat (first | exact Drawn0.refl _ | apply Drawn0.step)⟩
                · rw [if_neg c8] at H
                  have c8b0 : (!(((rd_TRow l0 x13_1).f0) == ((rd_TRow l1 x13_1).f0)) || (!((((rd_TRow l0 x13_1).f1).toList) == (((rd_TRow l1 x13_1).f1).toList)))) = false := by simpa using c8
                  clear c8
                  have H' := Aside0.mk H
                  clear H
                  have p476 : 0 ≤ (x13_1 : Int) := of_decide_eq_true (by first | (with_reducible assumption) | assumption)
                  have q476 : x13_1 < (l0.length : Int) := of_decide_eq_true (by first | (with_reducible assumption) | assumption)
                  obtain ⟨ad476, e476, hx476_0, hx476_1⟩ := at_TRow HR0.out x13_1 p476 q476
                  cases e476
                  replace p476 := eq_true p476
                  replace q476 := eq_true q476
                  have p477 : 0 ≤ (x13_1 : Int) := of_decide_eq_true (by first | (with_reducible assumption) | assumption)
                  have q477 : x13_1 < (l1.length : Int) := of_decide_eq_true (by first | (with_reducible assumption) | assumption)
                  obtain ⟨ad477, e477, hx477_0, hx477_1⟩ := at_TRow HR1.out x13_1 p477 q477
                  cases e477
                  replace p477 := eq_true p477
                  replace q477 := eq_true q477
                  go_wp2
                  repeat (go_quiet (fail); try go_wp2)
                  go_roundg k1
                  case measure => have := HK1.out; omega
                  case rel => exact ⟨(wrap64 (x13_1 + 1)), (by first | rfl | (simp; done) | (simp [*]; done)), H', ⟨by have := HK1.out; omega⟩, by repeat (first | exact Drawn0.refl _ | apply Drawn0.step)⟩
              · rw [if_neg c7] at H
                exact absurd H (by simp)
            · rw [if_neg c6] at H
              exact absurd H (by simp)
          · rw [if_neg c5] at H
            exact absurd H (by simp)
        · rw [if_neg c4] at H
          have c4b0 : decide (x13_1 < (l0.length : Int)) = false := decide_eq_false c4
          clear c4
          obtain rfl := Option.some.inj H
          go_wp2
          repeat (go_quiet (fail); try go_wp2)
          go_ret
          exact ⟨by first | rfl | (simp; done) | (simp [*]; done), by repeat (first | exact Drawn0.refl _ | apply Drawn0.step)⟩
  · rw [if_neg c3] at H
    have c3b0 : ((l0.length : Int) == (l1.length : Int)) = false := beq_eq_false_iff_ne.mpr c3
    have c3b1 : ((l0.length : Int) != (l1.length : Int)) = true := bne_iff_ne.mpr c3
    have c3b2 : (l0.length == l1.length) = false := by first | simpa using c3 | (simp at c3 ⊢; omega)
    obtain rfl := Option.some.inj H
    go_enter Try.func44, Try.ntmps44
    go_wp2
    repeat (go_quiet (fail); try go_wp2)
    go_ret
    exact ⟨by first | rfl | (simp; done) | (simp [*]; done), by repeat (first | exact Drawn0.refl _ | apply Drawn0.step)⟩
end Go.Proofs.Ytdhdfmmefghijab.P
namespace Go.Proofs.Ytdhdfmmefghijab.P
open Go.RowKit Go.Proofs.YtdhdfmmefghijabW.PrintWords Go.Proofs.YtdhdfmmefghijabW.PrintLast Go.Proofs.YtdhdfmmefghijabW.PrintMore
attribute [local go_sem] max2_int min2_int max_two min_two max_three min_three max_four min_four
set_option linter.unusedVariables false
set_option linter.unusedSimpArgs false
def impl_LayoutSame.f (k : Nat) (l0 : List (SRow)) (l1 : List (SRow)) : Option (Bool) := (slices_Equal_Llimpl_Row.f k l0 l1).bind fun t478 => (some t478)
set_option maxHeartbeats 8000000 in
set_option maxRecDepth 100000 in
theorem impl_LayoutSame.calls (k : Nat) (A0 : Option Addr) (c0 : Nat) (l0 : List (SRow)) (A1 : Option Addr) (c1 : Nat) (l1 : List (SRow)) (r : Bool) (w : World) (hr0 : Kd.C k30 w A0 l0.length l0) (hc0 : l0.length ≤ c0) (hr1 : Kd.C k30 w A1 l1.length l1) (hc1 : l1.length ≤ c1) (h : impl_LayoutSame.f k l0 l1 = some r) :
    Calls Try.prog 18 #[.slice A0 l0.length c0, .slice A1 l1.length c1] w fun e w' => e = .returned (.bool r) ∧ Drawn0 w w' := by
  have HR0 := Aside0.mk hr0
  have HC0 := Aside0.mk hc0
  clear hr0 hc0
  have HR1 := Aside0.mk hr1
  have HC1 := Aside0.mk hc1
  clear hr1 hc1
  have H : ((slices_Equal_Llimpl_Row.f k l0 l1).bind fun t478 => (some t478)) = some r := h
  clear h
  replace H := Option.bind_eq_some_iff.mp H
  obtain ⟨t478, A30, H⟩ := H
  replace H : (some t478) = some r := H
  have A3 := Aside0.mk A30
  clear A30
  obtain rfl := Option.some.inj H
  go_enter Try.func18, Try.ntmps18
  go_wp2_with (first | ((with_reducible refine gate_callee (f := 44) rfl ?_); refine goesL_ (some 7) rfl rfl Try.func44 (by kernel_rfl) rfl #[.slice A0 l0.length c0, .slice A1 l1.length c1] rfl (by (try simp only [List.map_toArray, List.map_cons, List.map_nil]); first | done | rfl | (simp only [List.length_drop, List.length_take]; rfl)) ?_; (with_reducible refine (slices_Equal_Llimpl_Row.calls k _ _ l0 _ _ l1 t478 _ ?side1 ?side2 ?side3 ?side4 A3.out).mono ?_); (case side1 => repeat (first | exact HR0.out | (with_reducible refine Kd.C_alloc ?_ _) | (with_reducible refine Kd.C_drewN ?_ _) | (with_reducible refine Kd.C_drew ?_))); (case side2 => exact HC0.out); (case side3 => repeat (first | exact HR1.out | (with_reducible refine Kd.C_alloc ?_ _) | (with_reducible refine Kd.C_drewN ?_ _) | (with_reducible refine Kd.C_drew ?_))); (case side4 => exact HC1.out); rintro e w' ⟨rfl, ⟨nd, rfl⟩⟩; refine ⟨_, rfl, ?_⟩))
  go_ret
  exact ⟨by first | rfl | (simp; done) | (simp [*]; done), by repeat (first | exact Drawn0.refl _ | apply Drawn0.step)⟩
end Go.Proofs.Ytdhdfmmefghijab.P
namespace Go.Proofs.Ytdhdfmmefghijab.Pure
open Go.RowKit Go.Proofs.Ytdhdfmmefghijab.P Go.Proofs.YtdhdfmmefghijabW.PrintWords Go.Proofs.YtdhdfmmefghijabW.PrintLast Go.Proofs.YtdhdfmmefghijabW.PrintMore
set_option linter.unusedVariables false
set_option linter.unusedSimpArgs false
theorem w64 {i : Int} (h0 : -9223372036854775808 ≤ i) (h : i ≤ 9223372036854775807) : wrap64 i = i := by unfold wrap64; omega
theorem Ev.iff {α : Type} {c : Prop} [Decidable c] {f g : Nat → Option α} {r : α} (h1 : c → Ev f r) (h2 : ¬ c → Ev g r) : Ev (fun k => if c then f k else g k) r := by
  by_cases h : c
  · simp only [if_pos h]; exact h1 h
  · simp only [if_neg h]; exact h2 h
theorem SDoc.ind {P : SDoc → Prop} (h : ∀ o n t ks, (∀ k, k ∈ ks → P k) → P ⟨o, n, t, ks⟩) : ∀ d, P d
  | ⟨o, n, t, ks⟩ => h o n t ks (fun k hk => SDoc.ind h k)
termination_by d => SizeOf.sizeOf d
decreasing_by
  have := List.sizeOf_lt_of_mem hk
  simp
  omega
mutual
def dsz : SDoc → Nat
  | ⟨_, _, _, ks⟩ => 1 + dszL ks
def dszL : List SDoc → Nat
  | [] => 0
  | k :: ks => dsz k + dszL ks
end
theorem dszL_len : ∀ (a : List SDoc), a.length ≤ dszL a
  | [] => by simp [dszL]
  | ⟨_, _, _, ks⟩ :: a => by have := dszL_len a; simp [dszL, dsz]; omega
theorem dszL_mem : ∀ {a : List SDoc} {d : SDoc}, d ∈ a → dsz d ≤ dszL a
  | k :: a, d, h => by
    rcases List.mem_cons.1 h with rfl | h
    · simp [dszL]
    · have := dszL_mem h; simp [dszL]; omega
theorem rdD (a b : List SDoc) (d : SDoc) : rd_TDoc (a ++ d :: b) (a.length : Int) = d := by simp [rd_TDoc]
theorem SDoc_eta (d : SDoc) : (⟨d.f0, d.f1, d.f2, d.f3⟩ : SDoc) = d := by cases d; rfl
theorem dec_eq {p q : Prop} [Decidable p] [Decidable q] (h : p ↔ q) : decide p = decide q := by
  by_cases hq : q
  · rw [decide_eq_true hq, decide_eq_true (h.2 hq)]
  · rw [decide_eq_false hq, decide_eq_false (fun hp => hq (h.1 hp))]
end Go.Proofs.Ytdhdfmmefghijab.Pure
namespace Go.Proofs.Ytdhdfmmefghijab.Pure
open Go.RowKit Go.Proofs.Ytdhdfmmefghijab.P Go.Proofs.YtdhdfmmefghijabW.PrintWords Go.Proofs.YtdhdfmmefghijabW.PrintLast Go.Proofs.YtdhdfmmefghijabW.PrintMore
set_option linter.unusedVariables false
set_option linter.unusedSimpArgs false
end Go.Proofs.Ytdhdfmmefghijab.Pure
namespace Go.Proofs.Ytdhdfmmefghijab.Pure
open Go.RowKit Go.Proofs.Ytdhdfmmefghijab.P Go.Proofs.YtdhdfmmefghijabW.PrintWords Go.Proofs.YtdhdfmmefghijabW.PrintLast Go.Proofs.YtdhdfmmefghijabW.PrintMore
set_option linter.unusedVariables false
set_option linter.unusedSimpArgs false
theorem rdR (a b : List SRow) (d : SRow) : rd_TRow (a ++ d :: b) (a.length : Int) = d := by simp [rd_TRow]
def bsz : List SRow → Nat
  | [] => 0
  | r :: l => r.f1.size + bsz l
theorem bsz_mem : ∀ {l : List SRow} {r : SRow}, r ∈ l → r.f1.size ≤ bsz l
  | a :: l, r, h => by
    rcases List.mem_cons.1 h with rfl | h
    · simp [bsz]
    · have := bsz_mem h; simp [bsz]; omega
end Go.Proofs.Ytdhdfmmefghijab.Pure
namespace Go.Proofs.Ytdhdfmmefghijab.P
open Go.RowKit Go.Proofs.YtdhdfmmefghijabW.PrintWords Go.Proofs.YtdhdfmmefghijabW.PrintLast Go.Proofs.YtdhdfmmefghijabW.PrintMore
attribute [local go_sem] max2_int min2_int max_two min_two max_three min_three max_four min_four
set_option linter.unusedVariables false
set_option linter.unusedSimpArgs false
attribute [local go_sem high] eqA30
def spec_LayoutSame.l0 : Nat → List (SRow) → List (SRow) → Int → Option (Bool)
  | 0, _, _, _ => none
  | k + 1, x0, x1, x5 => if x5 < (x0.length : Int) then (if 0 ≤ x5 then (if x5 < (x1.length : Int) then (if (!(((rd_TRow x0 x5).f0) == ((rd_TRow x1 x5).f0)) || (!((((rd_TRow x0 x5).f1).toList) == (((rd_TRow x1 x5).f1).toList)))) = true then (some false) else (spec_LayoutSame.l0 k x0 x1 (wrap64 (x5 + 1)))) else (none)) else (none)) else (some true)
def spec_LayoutSame.f (k : Nat) (l0 : List (SRow)) (l1 : List (SRow)) : Option (Bool) := if (l0.length : Int) = (l1.length : Int) then (spec_LayoutSame.l0 k l0 l1 0) else (some false)
end Go.Proofs.Ytdhdfmmefghijab.P
namespace Go.Proofs.Ytdhdfmmefghijab.Pure
open Go.RowKit Go.Proofs.Ytdhdfmmefghijab.P Go.Proofs.YtdhdfmmefghijabW.PrintWords Go.Proofs.YtdhdfmmefghijabW.PrintLast Go.Proofs.YtdhdfmmefghijabW.PrintMore
set_option linter.unusedVariables false
set_option linter.unusedSimpArgs false
def rowEq (r s : SRow) : Bool := (r.f0 == s.f0) && (r.f1.toList == s.f1.toList)
def rsame : List SRow → List SRow → Bool
  | [], _ => true
  | _ :: _, [] => true
  | r :: a, s :: b => rowEq r s && rsame a b
def laySame (a b : List SRow) : Bool := decide (a.length = b.length) && rsame a b
theorem implLay_loop (suf : List SRow) : ∀ (pre pre' suf' : List SRow), pre.length = pre'.length → suf.length = suf'.length → pre.length + suf.length ≤ 4611686018427387904 →
    Ev (fun k => slices_Equal_Llimpl_Row.l0 k (pre ++ suf) (pre' ++ suf') ((pre ++ suf).length : Int) (pre.length : Int)) (rsame suf suf') := by
  induction suf with
  | nil =>
    intro pre pre' suf' hp hs hm
    refine Ev.step (fun k => by rw [slices_Equal_Llimpl_Row.l0]) ?_
    simp only [List.append_nil, Int.lt_irrefl, if_false, rsame]
    exact Ev.now _
  | cons y suf ih =>
    intro pre pre' suf' hp hs hm
    cases suf' with
    | nil => simp at hs
    | cons e suf' =>
      simp only [List.length_cons] at hm hs
      refine Ev.step (fun k => by rw [slices_Equal_Llimpl_Row.l0]) ?_
      have c1 : (pre.length : Int) < ((pre ++ y :: suf).length : Int) := by simp; omega
      have c2 : (0 : Int) ≤ (pre.length : Int) := by omega
      have c3 : (pre.length : Int) < ((pre' ++ e :: suf').length : Int) := by simp; omega
      have r' : rd_TRow (pre' ++ e :: suf') (pre.length : Int) = e := by rw [hp]; exact rdR pre' suf' e
      have e0 : (!(y.f0 == e.f0) || !(y.f1.toList == e.f1.toList)) = !rowEq y e := by rw [rowEq, Bool.not_and]
      simp only [if_pos c1, if_pos c2, if_pos c3, rdR, r', e0]
      rw [w64 (by omega) (by omega), rsame]
      have := ih (pre ++ [y]) (pre' ++ [e]) suf' (by simp; omega) (by omega) (by simp; omega)
      rw [List.append_assoc, List.append_assoc, show ((pre ++ [y]).length : Int) = (pre.length : Int) + 1 by simp] at this
      cases rowEq y e
      · exact Ev.now _
      · simpa using this
theorem implLay_ev (a b : List SRow) (h : a.length ≤ 4611686018427387904) : Ev (fun k => impl_LayoutSame.f k a b) (laySame a b) := by
  refine Ev.congr (fun k => by rw [impl_LayoutSame.f]) ?_
  refine Ev.bind (r := laySame a b) ?_ (Ev.now _)
  refine Ev.congr (fun k => by rw [slices_Equal_Llimpl_Row.f]) ?_
  refine Ev.iff (fun hc => ?_) (fun hc => ?_)
  · have hc : a.length = b.length := by omega
    have := implLay_loop a [] [] b rfl hc (by simpa using h)
    simpa [laySame, hc] using this
  · have hc : ¬ a.length = b.length := by omega
    rw [laySame, decide_eq_false hc]
    exact Ev.now _
end Go.Proofs.Ytdhdfmmefghijab.Pure
namespace Go.Proofs.Ytdhdfmmefghijab.Pure
open Go.RowKit Go.Proofs.Ytdhdfmmefghijab.P Go.Proofs.YtdhdfmmefghijabW.PrintWords Go.Proofs.YtdhdfmmefghijabW.PrintLast Go.Proofs.YtdhdfmmefghijabW.PrintMore
set_option linter.unusedVariables false
set_option linter.unusedSimpArgs false
theorem size_data (s : ByteArray) : s.size = s.data.toList.length := by rw [Array.length_toList]; rfl
theorem bt_mid {s : ByteArray} {pre suf : List UInt8} {b : UInt8} (h : s.data.toList = pre ++ b :: suf) : bt s (pre.length : Int) = (b.toNat : Int) := by
  have hl : pre.length < s.size := by
    have := congrArg List.length h
    rw [List.length_append, List.length_cons] at this
    rw [size_data]; omega
  unfold bt
  rw [dif_pos (by simpa using hl)]
  have : s[(pre.length : Int).toNat]'(by simpa using hl) = b := by
    show s.data[(pre.length : Int).toNat]'(by simpa using hl) = b
    rw [← Array.getElem_toList]
    simp [h]
  rw [this]
def signC (c : Int) : Bool := c == 44 || (c == 58 || (c == 61 || (c == 123 || (c == 125 || (c == 40 || (c == 41 || (c == 91 || c == 93)))))))
def letC (c : Int) : Bool := (decide (97 ≤ c) && decide (c ≤ 122)) || (decide (48 ≤ c) && decide (c ≤ 57))
def goodC (c : Int) : Bool := letC c || signC c
def goodB (b : UInt8) : Bool := goodC (b.toNat : Int)
def tv (s : ByteArray) : Bool := decide (1 ≤ s.size) && (decide (s.size ≤ 12) && s.data.toList.all goodB)
theorem specText_j3 {s : ByteArray} {i : Int} {l g R : Bool} (h : Ev (fun k => spec_TextValid.l0 k s (wrap64 (i + 1))) R) : Ev (fun k => spec_TextValid.j3 k s i l g) ((l || g) && R) := by
  refine Ev.step (fun k => by rw [spec_TextValid.j3]) ?_
  cases l <;> cases g <;> simp
  · exact Ev.now _
  · exact h
  · exact h
  · exact h
theorem specText_j2 {s : ByteArray} {i c : Int} {l R : Bool} (h : Ev (fun k => spec_TextValid.l0 k s (wrap64 (i + 1))) R) : Ev (fun k => spec_TextValid.j2 k s i c l) ((l || signC c) && R) := by
  refine Ev.step (fun k => by rw [spec_TextValid.j2]) ?_
  have h3 : ∀ g, Ev (fun k => spec_TextValid.j3 k s i l g) ((l || g) && R) := fun g => specText_j3 h
  repeat' refine Ev.iff (fun hc => ?_) (fun hc => ?_)
  · subst hc; exact h3 true
  · subst hc; exact h3 true
  · subst hc; exact h3 true
  · subst hc; exact h3 true
  · subst hc; exact h3 true
  · subst hc; exact h3 true
  · subst hc; exact h3 true
  · subst hc; exact h3 true
  · have e : signC c = (c == 93) := by rw [Bool.eq_iff_iff]; simp [signC]; omega
    rw [e]; exact h3 _
theorem specText_l0 {s : ByteArray} (hs : s.size ≤ 4611686018427387904) : ∀ (suf pre : List UInt8), s.data.toList = pre ++ suf → Ev (fun k => spec_TextValid.l0 k s (pre.length : Int)) (suf.all goodB) := by
  intro suf
  induction suf with
  | nil =>
    intro pre h
    refine Ev.step (fun k => by rw [spec_TextValid.l0]) ?_
    have c1 : ¬ ((pre.length : Int) < (s.size : Int)) := by rw [size_data, h]; simp
    simp only [if_neg c1]
    exact Ev.now _
  | cons b suf ih =>
    intro pre h
    have hl : pre.length < s.size := by rw [size_data, h]; simp
    refine Ev.step (fun k => by rw [spec_TextValid.l0]) ?_
    have c1 : (pre.length : Int) < (s.size : Int) := by omega
    have c2 : (0 : Int) ≤ (pre.length : Int) := by omega
    simp only [if_pos c1, if_pos c2, bt_mid h]
    have hn : Ev (fun k => spec_TextValid.l0 k s (wrap64 ((pre.length : Int) + 1))) (suf.all goodB) := by
      rw [w64 (by omega) (by omega)]
      have := ih (pre ++ [b]) (by rw [h]; simp)
      rw [show ((pre ++ [b]).length : Int) = (pre.length : Int) + 1 by simp] at this
      exact this
    have h2 : ∀ l, l = letC (b.toNat : Int) → Ev (fun k => spec_TextValid.j2 k s (pre.length : Int) (b.toNat : Int) l) ((b :: suf).all goodB) := by
      intro l hl
      rw [List.all_cons, goodB, goodC, ← hl]
      exact specText_j2 hn
    repeat' refine Ev.iff (fun hc => ?_) (fun hc => ?_)
    all_goals refine h2 _ ?_
    all_goals simp [letC, *]
    all_goals omega
theorem specText_ev (s : ByteArray) (hs : s.size ≤ 4611686018427387904) : Ev (fun k => spec_TextValid.f k s) (tv s) := by
  refine Ev.congr (fun k => by rw [spec_TextValid.f]) ?_
  have hl := specText_l0 hs s.data.toList [] rfl
  have h0 : ∀ b, Ev (fun k => spec_TextValid.j0 k s b) (!b && s.data.toList.all goodB) := by
    intro b
    refine Ev.step (fun k => by rw [spec_TextValid.j0]) ?_
    cases b
    · simpa using hl
    · exact Ev.now _
  refine Ev.iff (fun hc => ?_) (fun hc => ?_)
  · have := h0 true
    rwa [show (!true && s.data.toList.all goodB) = tv s from by simp [tv]; omega] at this
  · have := h0 (decide ((s.size : Int) > 12))
    rwa [show (!decide ((s.size : Int) > 12) && s.data.toList.all goodB) = tv s from by
      have e1 : decide (1 ≤ s.size) = true := by simp; omega
      by_cases h12 : s.size ≤ 12
      · have : ¬ ((s.size : Int) > 12) := by omega
        simp [tv, e1, h12, this]
      · have : (s.size : Int) > 12 := by omega
        simp [tv, h12, this]] at this
theorem sign_idx : ∀ n : Nat, n < 256 → (decide (Lib.indexByte [44, 58, 61, 123, 125, 40, 41, 91, 93] (UInt8.ofNat n) ≥ 0)) = signC (n : Int) := by decide +kernel
theorem implText_j1 {s : ByteArray} {i : Int} {g R : Bool} (h : Ev (fun k => impl_TextValid.l0 k s (wrap64 (i + 1))) R) : Ev (fun k => impl_TextValid.j1 k s i (!g)) (g && R) := by
  refine Ev.step (fun k => by rw [impl_TextValid.j1]) ?_
  cases g <;> simp
  · exact Ev.now _
  · exact h
theorem implText_l0 {s : ByteArray} (hs : s.size ≤ 4611686018427387904) : ∀ (suf pre : List UInt8), s.data.toList = pre ++ suf → Ev (fun k => impl_TextValid.l0 k s (pre.length : Int)) (suf.all goodB && (decide (1 ≤ s.size) && decide (s.size ≤ 12))) := by
  intro suf
  induction suf with
  | nil =>
    intro pre h
    refine Ev.step (fun k => by rw [impl_TextValid.l0]) ?_
    have c1 : ¬ ((pre.length : Int) < (s.size : Int)) := by rw [size_data, h]; simp
    simp only [if_neg c1]
    refine Ev.iff (fun hc => ?_) (fun hc => ?_)
    · rw [show (([] : List UInt8).all goodB && (decide (1 ≤ s.size) && decide (s.size ≤ 12))) = decide ((s.size : Int) ≤ 12) from by
        have : 1 ≤ s.size := by omega
        simp [this]; omega]
      exact Ev.now _
    · rw [show (([] : List UInt8).all goodB && (decide (1 ≤ s.size) && decide (s.size ≤ 12))) = false from by
        have : ¬ 1 ≤ s.size := by omega
        simp [this]]
      exact Ev.now _
  | cons b suf ih =>
    intro pre h
    have hl : pre.length < s.size := by rw [size_data, h]; simp
    refine Ev.step (fun k => by rw [impl_TextValid.l0]) ?_
    have c1 : (pre.length : Int) < (s.size : Int) := by omega
    have c2 : (0 : Int) ≤ (pre.length : Int) := by omega
    simp only [if_pos c1, if_pos c2, bt_mid h]
    have hn : Ev (fun k => impl_TextValid.l0 k s (wrap64 ((pre.length : Int) + 1))) (suf.all goodB && (decide (1 ≤ s.size) && decide (s.size ≤ 12))) := by
      rw [w64 (by omega) (by omega)]
      have := ih (pre ++ [b]) (by rw [h]; simp)
      rw [show ((pre ++ [b]).length : Int) = (pre.length : Int) + 1 by simp] at this
      exact this
    have h2 : ∀ g, g = goodC (b.toNat : Int) → Ev (fun k => impl_TextValid.j1 k s (pre.length : Int) (!g)) ((b :: suf).all goodB && (decide (1 ≤ s.size) && decide (s.size ≤ 12))) := by
      intro g hg
      rw [List.all_cons, goodB, ← hg, Bool.and_assoc]
      exact implText_j1 hn
    have hb : b.toNat < 256 := b.toNat_lt
    have hi : strings_IndexByte.f (⟨#[44, 58, 61, 123, 125, 40, 41, 91, 93]⟩ : ByteArray) (b.toNat : Int) = some (Lib.indexByte [44, 58, 61, 123, 125, 40, 41, 91, 93] (UInt8.ofNat b.toNat)) := by
      simp [strings_IndexByte.f]
    have hsg := sign_idx b.toNat hb
    simp only [hi, Option.bind_some, hsg]
    repeat' refine Ev.iff (fun hc => ?_) (fun hc => ?_)
    all_goals refine h2 _ ?_
    all_goals
      have e : letC (b.toNat : Int) = true ∨ letC (b.toNat : Int) = false := by cases letC (b.toNat : Int) <;> simp
      rcases e with e | e <;> simp [goodC, e] <;> (simp [letC] at e; omega)
theorem implText_ev (s : ByteArray) (hs : s.size ≤ 4611686018427387904) : Ev (fun k => impl_TextValid.f k s) (tv s) := by
  refine Ev.congr (fun k => by rw [impl_TextValid.f]) ?_
  have hl := implText_l0 hs s.data.toList [] rfl
  rwa [show (s.data.toList.all goodB && (decide (1 ≤ s.size) && decide (s.size ≤ 12))) = tv s from by
    simp only [tv]
    cases s.data.toList.all goodB <;> simp] at hl
end Go.Proofs.Ytdhdfmmefghijab.Pure
namespace Go.Proofs.Ytdhdfmmefghijab.Pure
open Go.RowKit Go.Proofs.Ytdhdfmmefghijab.P Go.Proofs.YtdhdfmmefghijabW.PrintWords Go.Proofs.YtdhdfmmefghijabW.PrintLast Go.Proofs.YtdhdfmmefghijabW.PrintMore
set_option linter.unusedVariables false
set_option linter.unusedSimpArgs false
def rowB (b : UInt8) : Bool := (b == 32) || goodB b
def rowT (s : ByteArray) : Bool := s.data.toList.all rowB && decide (s.size < 2000)
theorem bt_32 {s : ByteArray} {pre suf : List UInt8} {b : UInt8} (h : s.data.toList = pre ++ b :: suf) : (bt s (pre.length : Int) = 32) ↔ (b == 32) = true := by
  rw [bt_mid h, beq_iff_eq]
  constructor
  · intro h; exact UInt8.toNat_inj.1 (by show b.toNat = 32; omega)
  · intro h; rw [h]; rfl
theorem one_data {s : ByteArray} {pre suf : List UInt8} {b : UInt8} (h : s.data.toList = pre ++ b :: suf) : (s.extract pre.length (pre.length + 1)).data.toList = [b] := by
  rw [ByteArray.data_extract, Array.toList_extract, List.extract_eq_take_drop, h]
  simp
theorem tv_one {s : ByteArray} {pre suf : List UInt8} {b : UInt8} (h : s.data.toList = pre ++ b :: suf) : tv (s.extract pre.length (pre.length + 1)) = goodB b ∧ (s.extract pre.length (pre.length + 1)).size = 1 := by
  have e := one_data h
  have z : (s.extract pre.length (pre.length + 1)).size = 1 := by rw [size_data, e]; rfl
  refine ⟨?_, z⟩
  rw [tv, z, e]
  simp
theorem specL2_loop {s : ByteArray} (hs : s.size ≤ 4611686018427387904) : ∀ (suf pre : List UInt8), s.data.toList = pre ++ suf → pre.length ≤ 2000 → Ev (fun k => spec_l2Text.l0 k s (pre.length : Int)) (suf.all rowB && decide (s.size < 2000)) := by
  intro suf
  induction suf with
  | nil =>
    intro pre h hp
    refine Ev.step (fun k => by rw [spec_l2Text.l0]) ?_
    have c1 : ¬ ((pre.length : Int) < (s.size : Int)) := by rw [size_data, h]; simp
    simp only [if_neg c1]
    refine Ev.step (fun k => by rw [spec_l2Text.j1]) ?_
    simp only [Bool.false_eq_true, if_false]
    rw [show (([] : List UInt8).all rowB && decide (s.size < 2000)) = decide ((s.size : Int) < 2000) from by simp; omega]
    exact Ev.now _
  | cons b suf ih =>
    intro pre h hp
    have hl : pre.length < s.size := by rw [size_data, h]; simp
    refine Ev.step (fun k => by rw [spec_l2Text.l0]) ?_
    have c1 : (pre.length : Int) < (s.size : Int) := by omega
    have c2 : (0 : Int) ≤ (pre.length : Int) := by omega
    simp only [if_pos c1]
    refine Ev.step (fun k => by rw [spec_l2Text.j1]) ?_
    by_cases hq : pre.length < 2000
    · have hq' : decide ((pre.length : Int) < 2000) = true := by simp; omega
      simp only [hq', if_true, if_pos c1, if_pos c2]
      rw [w64 (by omega) (by omega)]
      have hn : Ev (fun k => spec_l2Text.l0 k s ((pre.length : Int) + 1)) (suf.all rowB && decide (s.size < 2000)) := by
        have := ih (pre ++ [b]) (by rw [h]; simp) (by simp; omega)
        rw [show ((pre ++ [b]).length : Int) = (pre.length : Int) + 1 by simp] at this
        exact this
      have hb := bt_32 h
      by_cases h32 : (b == 32) = true
      · simp only [if_pos (hb.2 h32)]
        simpa [rowB, h32] using hn
      · have c3 : (pre.length : Int) ≤ (pre.length : Int) + 1 := by omega
        have c4 : (pre.length : Int) + 1 ≤ (s.size : Int) := by omega
        simp only [if_neg (fun h => h32 (hb.1 h)), if_pos c3, if_pos c4]
        have e := tv_one h
        rw [show ((pre.length : Int) + 1 : Int).toNat = pre.length + 1 by omega, Int.toNat_natCast]
        refine Ev.bind (specText_ev _ (by omega)) ?_
        rw [e.1]
        have h32' : (b == 32) = false := by simpa using h32
        rw [List.all_cons, rowB, h32', Bool.false_or]
        cases goodB b
        · exact Ev.now _
        · simpa using hn
    · have hq' : decide ((pre.length : Int) < 2000) = false := by simp; omega
      simp only [hq', Bool.false_eq_true, if_false]
      rw [show ((b :: suf).all rowB && decide (s.size < 2000)) = decide ((s.size : Int) < 2000) from by
        have e1 : decide (s.size < 2000) = false := by simp; omega
        have e2 : decide ((s.size : Int) < 2000) = false := by simp; omega
        rw [e1, e2, Bool.and_false]]
      exact Ev.now _
theorem specL2_ev (s : ByteArray) (hs : s.size ≤ 4611686018427387904) : Ev (fun k => spec_l2Text.f k s) (rowT s) := by
  refine Ev.congr (fun k => by rw [spec_l2Text.f]) ?_
  exact specL2_loop hs s.data.toList [] rfl (by simp)
theorem implRB_loop {s : ByteArray} (hs : s.size ≤ 4611686018427387904) : ∀ (suf pre : List UInt8), s.data.toList = pre ++ suf → Ev (fun k => impl_rowBytes.l0 k s (pre.length : Int)) (suf.all rowB) := by
  intro suf
  induction suf with
  | nil =>
    intro pre h
    refine Ev.step (fun k => by rw [impl_rowBytes.l0]) ?_
    have c1 : ¬ ((pre.length : Int) < (s.size : Int)) := by rw [size_data, h]; simp
    simp only [if_neg c1]
    exact Ev.now _
  | cons b suf ih =>
    intro pre h
    have hl : pre.length < s.size := by rw [size_data, h]; simp
    refine Ev.step (fun k => by rw [impl_rowBytes.l0]) ?_
    have c1 : (pre.length : Int) < (s.size : Int) := by omega
    have c2 : (0 : Int) ≤ (pre.length : Int) := by omega
    simp only [if_pos c1, if_pos c2]
    rw [w64 (by omega) (by omega)]
    have hn : Ev (fun k => impl_rowBytes.l0 k s ((pre.length : Int) + 1)) (suf.all rowB) := by
      have := ih (pre ++ [b]) (by rw [h]; simp)
      rw [show ((pre ++ [b]).length : Int) = (pre.length : Int) + 1 by simp] at this
      exact this
    have hb := bt_32 h
    by_cases h32 : (b == 32) = true
    · simp only [if_pos (hb.2 h32)]
      simpa [rowB, h32] using hn
    · have c3 : (pre.length : Int) ≤ (pre.length : Int) + 1 := by omega
      have c4 : (pre.length : Int) + 1 ≤ (s.size : Int) := by omega
      simp only [if_neg (fun h => h32 (hb.1 h)), if_pos c3, if_pos c4]
      have e := tv_one h
      rw [show ((pre.length : Int) + 1 : Int).toNat = pre.length + 1 by omega, Int.toNat_natCast]
      refine Ev.bind (implText_ev _ (by omega)) ?_
      rw [e.1]
      have h32' : (b == 32) = false := by simpa using h32
      rw [List.all_cons, rowB, h32', Bool.false_or]
      cases goodB b
      · exact Ev.now _
      · simpa using hn
theorem implRB_ev (s : ByteArray) (hs : s.size ≤ 4611686018427387904) : Ev (fun k => impl_rowBytes.f k s) (s.data.toList.all rowB) := by
  refine Ev.congr (fun k => by rw [impl_rowBytes.f]) ?_
  exact implRB_loop hs s.data.toList [] rfl
def rowOk (r : SRow) : Bool := decide (0 ≤ r.f0) && (decide (r.f0 ≤ 400) && rowT r.f1)
def rowsOk : Nat → List SRow → Bool
  | _, [] => true
  | i, r :: l => ((i != 0 || r.f0 == 0) && rowOk r) && rowsOk (i + 1) l
def layV (l : List SRow) : Bool := rowsOk 0 l && (decide (0 < l.length) && decide (l.length ≤ 200))
theorem rowsOk_all : ∀ (l : List SRow) (i : Nat), rowsOk (i + 1) l = l.all rowOk
  | [], _ => rfl
  | r :: l, i => by rw [rowsOk, rowsOk_all l (i + 1)]; simp
theorem layV_ok {l : List SRow} (h : layV l = true) : 0 < l.length ∧ l.length ≤ 200 ∧ ∀ r ∈ l, rowOk r = true := by
  simp only [layV, Bool.and_eq_true, decide_eq_true_eq] at h
  refine ⟨h.2.1, h.2.2, ?_⟩
  cases l with
  | nil => intro r hr; cases hr
  | cons a l =>
    have h1 := h.1
    rw [rowsOk, rowsOk_all] at h1
    simp only [Bool.and_eq_true, List.all_eq_true] at h1
    intro r hr
    rcases List.mem_cons.1 hr with rfl | hr
    · exact h1.1.2
    · exact h1.2 r hr
theorem specLV_j2 {l : List SRow} {i : Int} {b R : Bool} (h : Ev (fun k => spec_LayoutValid.l0 k l (wrap64 (i + 1))) R) : Ev (fun k => spec_LayoutValid.j2 k l i (!b)) (b && R) := by
  refine Ev.step (fun k => by rw [spec_LayoutValid.j2]) ?_
  cases b
  · exact Ev.now _
  · simpa using h
theorem specLV_loop (suf : List SRow) : ∀ (pre : List SRow), (∀ y, y ∈ suf → y.f1.size ≤ 4611686018427387904) → pre.length ≤ 201 → pre.length + suf.length ≤ 4611686018427387904 →
    Ev (fun k => spec_LayoutValid.l0 k (pre ++ suf) (pre.length : Int)) (rowsOk pre.length suf && (decide (0 < (pre ++ suf).length) && decide ((pre ++ suf).length ≤ 200))) := by
  induction suf with
  | nil =>
    intro pre _ hp hm
    refine Ev.step (fun k => by rw [spec_LayoutValid.l0]) ?_
    simp only [List.append_nil, Int.lt_irrefl, if_false]
    refine Ev.step (fun k => by rw [spec_LayoutValid.j1]) ?_
    simp only [Bool.false_eq_true, if_false]
    refine Ev.iff (fun hc => ?_) (fun hc => ?_)
    · rw [show (rowsOk pre.length [] && (decide (0 < pre.length) && decide (pre.length ≤ 200))) = decide ((pre.length : Int) ≤ 200) from by
        have : 0 < pre.length := by omega
        simp [rowsOk, this]; omega]
      exact Ev.now _
    · rw [show (rowsOk pre.length [] && (decide (0 < pre.length) && decide (pre.length ≤ 200))) = false from by
        have : ¬ 0 < pre.length := by omega
        simp [this]]
      exact Ev.now _
  | cons y suf ih =>
    intro pre hy hp hm
    simp only [List.length_cons] at hm
    have hs := hy y List.mem_cons_self
    have c1 : (pre.length : Int) < ((pre ++ y :: suf).length : Int) := by simp; omega
    have c2 : (0 : Int) ≤ (pre.length : Int) := by omega
    refine Ev.step (fun k => by rw [spec_LayoutValid.l0]) ?_
    simp only [if_pos c1]
    refine Ev.step (fun k => by rw [spec_LayoutValid.j1]) ?_
    by_cases hq : pre.length ≤ 200
    · have hq' : decide ((pre.length : Int) ≤ 200) = true := by simp; omega
      simp only [hq', if_true, if_pos c1, if_pos c2, rdR]
      have hn : Ev (fun k => spec_LayoutValid.l0 k (pre ++ y :: suf) (wrap64 ((pre.length : Int) + 1))) (rowsOk (pre.length + 1) suf && (decide (0 < (pre ++ y :: suf).length) && decide ((pre ++ y :: suf).length ≤ 200))) := by
        rw [w64 (by omega) (by omega)]
        have := ih (pre ++ [y]) (fun z hz => hy z (List.mem_cons_of_mem _ hz)) (by simp; omega) (by simp; omega)
        rw [List.append_assoc, show ((pre ++ [y]).length : Int) = (pre.length : Int) + 1 by simp, show (pre ++ [y]).length = pre.length + 1 by simp] at this
        exact this
      have J := fun b => specLV_j2 (b := b) hn
      rw [rowsOk, Bool.and_assoc]
      refine Ev.iff (fun h0 => ?_) (fun h0 => ?_)
      · have e : rowOk y = false := by simp [rowOk]; omega
        have := J false
        simpa [e] using this
      refine Ev.iff (fun h1 => ?_) (fun h1 => ?_)
      · have e : rowOk y = false := by
          have : ¬ y.f0 ≤ 400 := by omega
          simp [rowOk, this]
        have := J false
        simpa [e] using this
      have e : rowOk y = rowT y.f1 := by
        have h0 : 0 ≤ y.f0 := by omega
        have h1 : y.f0 ≤ 400 := by omega
        simp [rowOk, h0, h1]
      rw [e]
      refine Ev.iff (fun h2 => ?_) (fun h2 => ?_)
      · refine Ev.iff (fun h3 => ?_) (fun h3 => ?_)
        · refine Ev.bind (specL2_ev _ hs) ?_
          have := J (rowT y.f1)
          simpa [h3] using this
        · have := J false
          have h2 : pre.length = 0 := by omega
          have h3 : (y.f0 == 0) = false := by simpa using h3
          simpa [h3, h2] using this
      · refine Ev.bind (specL2_ev _ hs) ?_
        have := J (rowT y.f1)
        have h2 : (pre.length != 0) = true := bne_iff_ne.2 (by omega)
        simpa [h2] using this
    · have hq' : decide ((pre.length : Int) ≤ 200) = false := by simp; omega
      simp only [hq', Bool.false_eq_true, if_false]
      have c3 : ((pre ++ y :: suf).length : Int) > 0 := by omega
      have c4 : decide ((pre ++ y :: suf).length ≤ 200) = false := by simp; omega
      have c5 : decide (((pre ++ y :: suf).length : Int) ≤ 200) = false := by simp; omega
      simp only [if_pos c3, c4, c5, Bool.and_false]
      exact Ev.now _
theorem specLV_ev (l : List SRow) (hl : l.length ≤ 4611686018427387904) (hs : ∀ y ∈ l, y.f1.size ≤ 4611686018427387904) : Ev (fun k => spec_LayoutValid.f k l) (layV l) := by
  refine Ev.congr (fun k => by rw [spec_LayoutValid.f]) ?_
  have := specLV_loop l [] hs (by simp) (by simpa using hl)
  simpa [layV] using this
theorem implLV_j2 {l : List SRow} {m i : Int} {b R : Bool} (h : Ev (fun k => impl_LayoutValid.l0 k l m (wrap64 (i + 1))) R) : Ev (fun k => impl_LayoutValid.j2 k l m i (!b)) (b && R) := by
  refine Ev.step (fun k => by rw [impl_LayoutValid.j2]) ?_
  cases b
  · exact Ev.now _
  · simpa using h
theorem implLV_loop (suf : List SRow) : ∀ (pre : List SRow), (∀ y, y ∈ suf → y.f1.size ≤ 4611686018427387904) → pre.length + suf.length ≤ 4611686018427387904 →
    Ev (fun k => impl_LayoutValid.l0 k (pre ++ suf) ((pre ++ suf).length : Int) (pre.length : Int)) (suf.all rowOk) := by
  induction suf with
  | nil =>
    intro pre _ hm
    refine Ev.step (fun k => by rw [impl_LayoutValid.l0]) ?_
    simp only [List.append_nil, Int.lt_irrefl, if_false]
    exact Ev.now _
  | cons y suf ih =>
    intro pre hy hm
    simp only [List.length_cons] at hm
    have hs := hy y List.mem_cons_self
    have c1 : (pre.length : Int) < ((pre ++ y :: suf).length : Int) := by simp; omega
    have c2 : (0 : Int) ≤ (pre.length : Int) := by omega
    refine Ev.step (fun k => by rw [impl_LayoutValid.l0]) ?_
    simp only [if_pos c1, if_pos c2, rdR]
    have hn : Ev (fun k => impl_LayoutValid.l0 k (pre ++ y :: suf) ((pre ++ y :: suf).length : Int) (wrap64 ((pre.length : Int) + 1))) (suf.all rowOk) := by
      rw [w64 (by omega) (by omega)]
      have := ih (pre ++ [y]) (fun z hz => hy z (List.mem_cons_of_mem _ hz)) (by simp; omega)
      rw [List.append_assoc, show ((pre ++ [y]).length : Int) = (pre.length : Int) + 1 by simp] at this
      exact this
    have J := fun b => implLV_j2 (b := b) hn
    rw [List.all_cons]
    refine Ev.iff (fun h0 => ?_) (fun h0 => ?_)
    · have e : rowOk y = false := by simp [rowOk]; omega
      have := J false
      simpa [e] using this
    refine Ev.iff (fun h1 => ?_) (fun h1 => ?_)
    · have e : rowOk y = false := by
        have : ¬ y.f0 ≤ 400 := by omega
        simp [rowOk, this]
      have := J false
      simpa [e] using this
    have e : rowOk y = rowT y.f1 := by
      have h0 : 0 ≤ y.f0 := by omega
      have h1 : y.f0 ≤ 400 := by omega
      simp [rowOk, h0, h1]
    rw [e]
    refine Ev.bind (implRB_ev _ hs) ?_
    have e2 : decide ((y.f1.size : Int) ≥ 2000) = !decide (y.f1.size < 2000) := by
      by_cases h : y.f1.size < 2000
      · have : ¬ (y.f1.size : Int) ≥ 2000 := by omega
        simp [h, this]
      · have : (y.f1.size : Int) ≥ 2000 := by omega
        simp [h, this]
    rw [e2]
    have J1 := J (rowT y.f1)
    have J0 := J false
    rw [rowT] at J1 ⊢
    generalize y.f1.data.toList.all rowB = A at J1 ⊢
    cases A
    · simpa using J0
    · simpa using J1
theorem implLV_ev (l : List SRow) (hl : l.length ≤ 4611686018427387904) (hs : ∀ y ∈ l, y.f1.size ≤ 4611686018427387904) : Ev (fun k => impl_LayoutValid.f k l) (layV l) := by
  refine Ev.congr (fun k => by rw [impl_LayoutValid.f]) ?_
  have F : Ev (fun k => impl_LayoutValid.j0 k l true) false := by
    refine Ev.step (fun k => by rw [impl_LayoutValid.j0]) ?_
    exact Ev.now _
  refine Ev.iff (fun h0 => ?_) (fun h0 => ?_)
  · have : ¬ 0 < l.length := by omega
    simpa [layV, this] using F
  refine Ev.iff (fun h1 => ?_) (fun h1 => ?_)
  · have : ¬ l.length ≤ 200 := by omega
    simpa [layV, this] using F
  have c : (0 : Int) < (l.length : Int) := by omega
  simp only [if_pos c]
  have h0' : 0 < l.length := by omega
  have h1' : l.length ≤ 200 := by omega
  cases l with
  | nil => simp at h0'
  | cons r l =>
    have e0 : rd_TRow (r :: l) 0 = r := by simp [rd_TRow]
    rw [e0]
    have L := implLV_loop (r :: l) [] hs (by simpa using hl)
    by_cases hr : r.f0 = 0
    · have e1 : (r.f0 != 0) = false := by simp [hr]
      rw [e1]
      refine Ev.step (fun k => by rw [impl_LayoutValid.j0]) ?_
      have e2 : layV (r :: l) = (r :: l).all rowOk := by
        simp only [layV, rowsOk, rowsOk_all, hr, h0', h1']
        simp
      rw [e2]
      simpa using L
    · have e1 : (r.f0 != 0) = true := by simp [hr]
      rw [e1]
      have e2 : layV (r :: l) = false := by
        simp [layV, rowsOk, hr]
      rw [e2]
      exact F
end Go.Proofs.Ytdhdfmmefghijab.Pure
namespace Go.Proofs.Ytdhdfmmefghijab.Pure
open Go.RowKit Go.Proofs.Ytdhdfmmefghijab.P Go.Proofs.YtdhdfmmefghijabW.PrintWords Go.Proofs.YtdhdfmmefghijabW.PrintLast Go.Proofs.YtdhdfmmefghijabW.PrintMore
set_option linter.unusedVariables false
set_option linter.unusedSimpArgs false
def catO : List SRow → List SRow → List SRow
  | [], b => b
  | [r], [] => [r]
  | [r], s :: t => ⟨r.f0, r.f1 ++ s.f1⟩ :: t
  | r :: r' :: a, b => r :: catO (r' :: a) b
theorem catO_eq (r s : SRow) (t : List SRow) : ∀ pre : List SRow, catO (pre ++ [r]) (s :: t) = pre ++ ⟨r.f0, r.f1 ++ s.f1⟩ :: t
  | [] => rfl
  | [a] => rfl
  | a :: a' :: pre => by
    have := catO_eq r s t (a' :: pre)
    simp only [List.cons_append] at this ⊢
    rw [catO, this]
theorem setL (a b : List SRow) (d z : SRow) : (a ++ d :: b).set (a.length : Int).toNat z = a ++ z :: b := by
  rw [Int.toNat_natCast, List.set_append_right _ _ (Nat.le_refl _), Nat.sub_self, List.set_cons_zero]
theorem specCat_eq (pre t : List SRow) (r s : SRow) (h1 : pre.length + t.length ≤ 1099511627776) (h2 : r.f1.size + s.f1.size ≤ 9223372036854775807) :
    spec_l2Cat.f (pre ++ [r]) (s :: t) = some (pre ++ ⟨r.f0, r.f1 ++ s.f1⟩ :: t) := by
  have hl : (pre ++ [r]).length = pre.length + 1 := by simp
  have e0 : wrap64 (((pre ++ [r]).length : Int) - 1) = (pre.length : Int) := by rw [hl, w64 (by omega) (by omega)]; omega
  have r0 : rd_TRow (pre ++ [r]) (pre.length : Int) = r := rdR pre [] r
  have r1 : rd_TRow (s :: t) 0 = s := by simp [rd_TRow]
  rw [spec_l2Cat.f]
  simp only [Option.bind_some, List.nil_append, List.length_nil, Nat.zero_add, if_pos (show (pre ++ [r]).length < 5864062014805 by omega), e0, if_pos (show (0 : Int) ≤ (pre.length : Int) by omega),
    if_pos (show (pre.length : Int) < ((pre ++ [r]).length : Int) by omega), if_pos (show (0 : Int) < ((s :: t).length : Int) by rw [List.length_cons]; omega), r0, r1, if_pos h2, setL, if_pos (show (1 : Int) ≤ ((s :: t).length : Int) by rw [List.length_cons]; omega), List.drop_one, List.tail_cons]
  rw [if_pos (by simp; omega)]
  simp
theorem implCat_eq (pre t : List SRow) (r s : SRow) (h1 : pre.length + t.length ≤ 1099511627776) (h2 : r.f1.size + s.f1.size ≤ 9223372036854775807) :
    impl_catRows.f (pre ++ [r]) (s :: t) = some (pre ++ ⟨r.f0, r.f1 ++ s.f1⟩ :: t) := by
  have hl : (pre ++ [r]).length = pre.length + 1 := by simp
  have e0 : wrap64 (((pre ++ [r]).length : Int) - 1) = (pre.length : Int) := by rw [hl, w64 (by omega) (by omega)]; omega
  have r0 : rd_TRow (pre ++ r :: t) (pre.length : Int) = r := rdR pre t r
  have r1 : rd_TRow (s :: t) 0 = s := by simp [rd_TRow]
  rw [impl_catRows.f, slices_Clone_Llimpl_Row.f, if_pos (show (pre ++ [r]).length < 5864062014805 by omega)]
  simp only [Option.bind_some, if_pos (show (1 : Int) ≤ ((s :: t).length : Int) by rw [List.length_cons]; omega), List.drop_one, List.tail_cons, if_pos (show (pre ++ [r]).length + t.length < 5864062014805 by omega), List.append_assoc, List.cons_append, List.nil_append]
  rw [show ((pre ++ [r]).length : Int) - 1 = (pre.length : Int) by omega, w64 (by omega) (by omega)]
  simp only [if_pos (show (0 : Int) ≤ (pre.length : Int) by omega), if_pos (show (pre.length : Int) < ((pre ++ r :: t).length : Int) by simp; omega), if_pos (show (0 : Int) < ((s :: t).length : Int) by rw [List.length_cons]; omega), r0, r1, if_pos h2, setL]
def catL (a b : List SRow) : List SRow × Bool := if (layV a && layV b) = true then (if layV (catO a b) = true then (catO a b, true) else ([], false)) else ([], false)
theorem cat_split {a b : List SRow} (ha : layV a = true) (hb : layV b = true) : ∃ pre r s t, a = pre ++ [r] ∧ b = s :: t ∧ catO a b = pre ++ ⟨r.f0, r.f1 ++ s.f1⟩ :: t ∧ pre.length ≤ 199 ∧ t.length ≤ 199 := by
  have h1 := layV_ok ha
  have h2 := layV_ok hb
  rcases List.eq_nil_or_concat a with rfl | ⟨pre, r, e⟩
  · simp at h1
  · cases b with
    | nil => simp at h2
    | cons s t =>
      rw [List.concat_eq_append] at e
      refine ⟨pre, r, s, t, e, rfl, by rw [e]; exact catO_eq r s t pre, ?_, ?_⟩
      · have := h1.2.1; rw [e] at this; simp at this; omega
      · have := h2.2.1; simp at this; omega
theorem catO_sizes {a b : List SRow} (ha : ∀ y ∈ a, y.f1.size ≤ 1048576) (hb : ∀ y ∈ b, y.f1.size ≤ 1048576) (hv : layV a = true) (hw : layV b = true) : (catO a b).length ≤ 400 ∧ ∀ y ∈ catO a b, y.f1.size ≤ 4611686018427387904 := by
  obtain ⟨pre, r, s, t, e1, e2, e3, h1, h2⟩ := cat_split hv hw
  rw [e3]
  refine ⟨by simp; omega, fun y hy => ?_⟩
  have hr := ha r (by rw [e1]; simp)
  have hs := hb s (by rw [e2]; simp)
  rcases List.mem_append.1 hy with h | h
  · have := ha y (by rw [e1]; simp [h]); omega
  · rcases List.mem_cons.1 h with rfl | h
    · show (r.f1 ++ s.f1).size ≤ _
      rw [ByteArray.size_append]; omega
    · have := hb y (by rw [e2]; simp [h]); omega
theorem specCatL_ev (a b : List SRow) (hla : a.length ≤ 1048576) (hlb : b.length ≤ 1048576) (ha : ∀ y ∈ a, y.f1.size ≤ 1048576) (hb : ∀ y ∈ b, y.f1.size ≤ 1048576) : Ev (fun k => spec_CatLayouts.f k a b) (catL a b) := by
  refine Ev.congr (fun k => by rw [spec_CatLayouts.f]) ?_
  refine Ev.bind (specLV_ev a (by omega) (fun y hy => by have := ha y hy; omega)) ?_
  have F : Ev (fun k => spec_CatLayouts.j0 k a b true) ([], false) := Ev.step (fun k => by rw [spec_CatLayouts.j0]) (by simp only [if_true]; exact Ev.now _)
  by_cases hv : layV a = true
  · simp only [if_pos hv]
    refine Ev.bind (specLV_ev b (by omega) (fun y hy => by have := hb y hy; omega)) ?_
    by_cases hw : layV b = true
    · obtain ⟨pre, r, s, t, e1, e2, e3, h1, h2⟩ := cat_split hv hw
      have hz := catO_sizes ha hb hv hw
      have hr := ha r (by rw [e1]; simp)
      have hs := hb s (by rw [e2]; simp)
      have e4 : spec_l2Cat.f a b = some (catO a b) := by rw [e3, e1, e2]; exact specCat_eq pre t r s (by omega) (by omega)
      refine Ev.step (fun k => by rw [spec_CatLayouts.j0]) ?_
      simp only [hw, Bool.not_true, Bool.false_eq_true, if_false, e4, Option.bind_some]
      refine Ev.bind (specLV_ev _ (by omega) hz.2) ?_
      rw [catL, hv, hw]
      simp only [Bool.and_self, if_true]
      by_cases ho : layV (catO a b) = true
      · simp only [if_pos ho]; exact Ev.now _
      · simp only [if_neg ho]; exact Ev.now _
    · have hw : layV b = false := by simpa using hw
      have e : catL a b = ([], false) := by simp [catL, hw]
      rw [e, hw]
      exact F
  · have hv : layV a = false := by simpa using hv
    have e : catL a b = ([], false) := by simp [catL, hv]
    rw [e, hv]
    exact F
theorem implCatL_ev (a b : List SRow) (hla : a.length ≤ 1048576) (hlb : b.length ≤ 1048576) (ha : ∀ y ∈ a, y.f1.size ≤ 1048576) (hb : ∀ y ∈ b, y.f1.size ≤ 1048576) : Ev (fun k => impl_CatLayouts.f k a b) (catL a b) := by
  refine Ev.congr (fun k => by rw [impl_CatLayouts.f]) ?_
  refine Ev.bind (implLV_ev a (by omega) (fun y hy => by have := ha y hy; omega)) ?_
  have F : Ev (fun k => impl_CatLayouts.j0 k a b true) ([], false) := Ev.step (fun k => by rw [impl_CatLayouts.j0]) (by simp only [if_true]; exact Ev.now _)
  by_cases hv : layV a = true
  · simp only [if_pos hv]
    refine Ev.bind (implLV_ev b (by omega) (fun y hy => by have := hb y hy; omega)) ?_
    by_cases hw : layV b = true
    · obtain ⟨pre, r, s, t, e1, e2, e3, h1, h2⟩ := cat_split hv hw
      have hz := catO_sizes ha hb hv hw
      have hr := ha r (by rw [e1]; simp)
      have hs := hb s (by rw [e2]; simp)
      have e4 : impl_catRows.f a b = some (catO a b) := by rw [e3, e1, e2]; exact implCat_eq pre t r s (by omega) (by omega)
      refine Ev.step (fun k => by rw [impl_CatLayouts.j0]) ?_
      simp only [hw, Bool.not_true, Bool.false_eq_true, if_false, e4, Option.bind_some]
      refine Ev.bind (implLV_ev _ (by omega) hz.2) ?_
      rw [catL, hv, hw]
      simp only [Bool.and_self, if_true]
      by_cases ho : layV (catO a b) = true
      · simp only [if_pos ho]; exact Ev.now _
      · simp only [if_neg ho]; exact Ev.now _
    · have hw : layV b = false := by simpa using hw
      have e : catL a b = ([], false) := by simp [catL, hw]
      rw [e, hw]
      exact F
  · have hv : layV a = false := by simpa using hv
    have e : catL a b = ([], false) := by simp [catL, hv]
    rw [e, hv]
    exact F
end Go.Proofs.Ytdhdfmmefghijab.Pure
