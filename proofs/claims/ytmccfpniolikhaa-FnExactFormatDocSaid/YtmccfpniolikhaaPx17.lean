/- CONTRACTS: each theorem here says that a Go function of the program, called over the translation under the theorem's own hypotheses, returns what the Lean function beside it computes. Written by the session's program xprint.py. -/
import Derived.Test.YtmccfpniolikhaaPx0
import Derived.Test.YtmccfpniolikhaaPx15
namespace Go.Proofs.Ytmccfpniolikhaa.P
open Go.RowKit Go.Proofs.YtmccfpniolikhaaW.PrintWords Go.Proofs.YtmccfpniolikhaaW.PrintLast Go.Proofs.YtmccfpniolikhaaW.PrintMore
attribute [local go_sem] max2_int min2_int max_two min_two max_three min_three max_four min_four   -- for this text's walks alone
set_option linter.unusedVariables false
set_option linter.unusedSimpArgs false

/-! ### impl_DocValid: function 56 -/
/- how many kids a node of a kind has -/
def docKids (o : Int) : Int := if o = 7 then 2 else if o = 6 then 1 else if o = 8 then 1 else 0
theorem docKids_cell {w : World} {ga : Nat} (h : w.heap[ga]? = some (.cells #[.int .i64 0, .int .i64 0, .int .i64 0, .int .i64 0, .int .i64 0, .int .i64 0, .int .i64 1, .int .i64 2, .int .i64 1] 122 (0, 0))) (o : Int) (h0 : 0 ≤ o) (h9 : o < 9) : w.cell? ⟨ga, o.toNat, none⟩ = some (.int .i64 (docKids o)) := by
  rw [blk_cell h]
  have : o = 0 ∨ o = 1 ∨ o = 2 ∨ o = 3 ∨ o = 4 ∨ o = 5 ∨ o = 6 ∨ o = 7 ∨ o = 8 := by omega
  rcases this with rfl | rfl | rfl | rfl | rfl | rfl | rfl | rfl | rfl <;> rfl
mutual
def impl_docOk.l0 : Nat → List (SDoc) → Int → Int → Int → Option (Bool × Int)
  | 0, _, _, _, _ => none
  | k + 1, ks, i, deep, left => if i < (ks.length : Int) then (if 0 ≤ i then ((impl_docOk.f k ((rd_TDoc ks i).f0) ((rd_TDoc ks i).f1) ((rd_TDoc ks i).f2) ((rd_TDoc ks i).f3) (wrap64 (deep - 1)) left).bind fun b => (if b.1 = true then (impl_docOk.l0 k ks (wrap64 (i + 1)) deep b.2) else (some (false, b.2)))) else (none)) else (some (true, left))
def impl_docOk.f : Nat → Int → Int → ByteArray → List (SDoc) → Int → Int → Option (Bool × Int)
  | 0, _, _, _, _, _, _ => none
  | k + 1, o, n, t, ks, deep, left => if deep = 0 ∨ (wrap64 (left - 1)) < 0 ∨ o < 1 ∨ 8 < o then (some (false, (wrap64 (left - 1)))) else (if ¬ ((ks.length : Int) = docKids o) ∨ n < 0 ∨ 9 < n ∨ (0 < n ∧ ¬ (o = 6)) then (some (false, (wrap64 (left - 1)))) else (if o = 2 then ((impl_TextValid.f k t).bind fun b => (if b = true then (impl_docOk.l0 k ks 0 deep (wrap64 (left - 1))) else (some (false, (wrap64 (left - 1)))))) else (if t.toList = [] then (impl_docOk.l0 k ks 0 deep (wrap64 (left - 1))) else (some (false, (wrap64 (left - 1)))))))
end
theorem impl_docOk.mono_l : ∀ k, (∀ y0 y1 y2 y3, LeO (impl_docOk.l0 k y0 y1 y2 y3) (impl_docOk.l0 (k + 1) y0 y1 y2 y3)) ∧ (∀ y0 y1 y2 y3 y4 y5, LeO (impl_docOk.f k y0 y1 y2 y3 y4 y5) (impl_docOk.f (k + 1) y0 y1 y2 y3 y4 y5))
  | 0 => ⟨fun _ _ _ _ r h => by simp [impl_docOk.l0] at h, fun _ _ _ _ _ _ r h => by simp [impl_docOk.f] at h⟩
  | k + 1 => by
    obtain ⟨ih0, ih1⟩ := impl_docOk.mono_l k
    refine ⟨?_, ?_⟩
    · intro y0 y1 y2 y3
      unfold impl_docOk.l0
      repeat' first
      | (with_reducible exact ih0 _ _ _ _)
      | (with_reducible exact ih1 _ _ _ _ _ _)
      | (with_reducible exact impl_TextValid.mono _ _)
      | (with_reducible exact LeO.refl _)
      | (with_reducible exact LeO.none _)
      | (with_reducible refine LeO.ite ?_ ?_)
      | (with_reducible refine LeO.bind ?_ (fun _ => ?_))
      | exact ih0 _ _ _ _
      | exact ih1 _ _ _ _ _ _
      | exact impl_TextValid.mono _ _
      | exact LeO.none _
      | refine LeO.ite ?_ ?_
      | refine LeO.bind ?_ (fun _ => ?_)
    · intro y0 y1 y2 y3 y4 y5
      unfold impl_docOk.f
      repeat' first
      | (with_reducible exact ih0 _ _ _ _)
      | (with_reducible exact ih1 _ _ _ _ _ _)
      | (with_reducible exact impl_TextValid.mono _ _)
      | (with_reducible exact LeO.refl _)
      | (with_reducible exact LeO.none _)
      | (with_reducible refine LeO.ite ?_ ?_)
      | (with_reducible refine LeO.bind ?_ (fun _ => ?_))
      | exact ih0 _ _ _ _
      | exact ih1 _ _ _ _ _ _
      | exact impl_TextValid.mono _ _
      | exact LeO.none _
      | refine LeO.ite ?_ ?_
      | refine LeO.bind ?_ (fun _ => ?_)
theorem impl_docOk.mono : ∀ a0 a1 a2 a3 a4 a5 k, LeO (impl_docOk.f k a0 a1 a2 a3 a4 a5) (impl_docOk.f (k + 1) a0 a1 a2 a3 a4 a5) := fun a0 a1 a2 a3 a4 a5 k => (impl_docOk.mono_l k).2 a0 a1 a2 a3 a4 a5
set_option maxHeartbeats 8000000 in
set_option maxRecDepth 100000 in
theorem impl_docOk.failA (o n : Int) (t : ByteArray) (A : Option Addr) (c : Nat) (ks : List (SDoc)) (deep left : Int) (w0 w : World) (g : Nat)
    (hr : Kd.C k29 w0 A ks.length ks) (hc : ks.length ≤ c) (hB : Below w0.heap.size w0 w) (hg : w0.heap.size ≤ g) (hb : w.heap[g]? = some (.cells #[.int .i64 left] 3 (0, 0)))
    (hA : (deep == 0) = true ∨ ((deep == 0) = false ∧ decide ((wrap64 (left - 1)) < 0) = true) ∨ ((deep == 0) = false ∧ decide ((wrap64 (left - 1)) < 0) = false ∧ decide (o < 1) = true) ∨ ((deep == 0) = false ∧ decide ((wrap64 (left - 1)) < 0) = false ∧ decide (o < 1) = false ∧ decide (8 < o) = true)) :
    Calls Try.prog 94 #[.agg #[.int .i64 o, .int .i64 n, .string t, .slice A ks.length c], .int .i64 deep, .pointer (some ⟨g, 0, none⟩)] w fun e w' => e = .returned (.bool false) ∧ Below w0.heap.size w0 w' ∧ w'.heap[g]? = some (.cells #[.int .i64 (wrap64 (left - 1))] 3 (0, 0)) := by
  rcases hA with h1 | ⟨h1, h2⟩ | ⟨h1, h2, h3⟩ | ⟨h1, h2, h3, h4⟩
  all_goals
    have hu29 := Try.underlying29
    have hu3 := Try.underlying3
    have HB := Aside0.mk hB
    have HG := Aside0.mk hg
    have BK := Aside0.mk hb
    clear hB hg hb
    go_enter Try.func94, Try.ntmps94
    go_wp2_with (first | ((with_reducible refine gate_dst (N := 3) rfl ?_); refine box_event ?hg (N := 3) ?hd (cs := #[.int .i64 o, .int .i64 n, .string t, .slice A ks.length c]) (t := 29) ?hr ?_; (case hd => rfl); (case hg => rfl); (case hr => first | (go_simp; done) | (go_simp; rfl)); intro gb hgb w2 hbox hb2; have n0_ := Aside0.mk (below_step HB.out hb2); have n1_ := Aside0.mk (blk_below BK.out hb2); have n2_ := Aside0.mk hbox; have NE := Aside0.mk (by rw [hgb]; exact Nat.ne_of_lt (blk_lt BK.out) : g ≠ gb); clear HB BK; have HB := n0_; have BK := n1_; have BD := n2_; clear n0_ n1_ n2_ hb2 hbox hgb; have hcg : w2.cell? ⟨g, 0, none⟩ = some (.int .i64 left) := (blk_cell BK.out 0).trans rfl; have hfg := blk_frozen BK.out 0) | ((with_reducible refine gate_store (t := 3) (p := 14) rfl ?_); refine store_event (t := 3) (p := 14) (v := ?vo_w13) (w1 := w2.setCell ⟨g, 0, none⟩ (.int .i64 (wrap64 (left - 1)))) ?hg ?ho ?hn ?hr ?_; (case ho => rfl); (case hg => rfl); (case hn => rfl); (case hr => first | (go_simp; done) | (go_simp; rfl)); intro w3 hw; have n0_ := Aside0.mk (by rw [hw]; exact below_set HB.out HG.out : Below w0.heap.size w0 w3); have n1_ : Aside0 (w3.heap[g]? = some (.cells #[.int .i64 (wrap64 (left - 1))] 3 (0, 0))) := Aside0.mk (by rw [hw]; exact blk_set BK.out 0 _); have n2_ : Aside0 (w3.heap[gb]? = some (.cells #[.int .i64 o, .int .i64 n, .string t, .slice A ks.length c] 29 (0, 0))) := Aside0.mk (by rw [hw]; exact blk_far BD.out NE.out.symm _); clear HB BK BD hcg hfg hw; have HB := n0_; have BK := n1_; have BD := n2_; clear n0_ n1_ n2_; have hcg : w3.cell? ⟨g, 0, none⟩ = some (.int .i64 (wrap64 (left - 1))) := (blk_cell BK.out 0).trans rfl; have hd0 : w3.cell? ⟨gb, 0, none⟩ = some (.int .i64 o) := (blk_cell BD.out 0).trans rfl; have hd1 : w3.cell? ⟨gb, 1, none⟩ = some (.int .i64 n) := (blk_cell BD.out 1).trans rfl; have hd2 : w3.cell? ⟨gb, 2, none⟩ = some (.string t) := (blk_cell BD.out 2).trans rfl; have hd3 : w3.cell? ⟨gb, 3, none⟩ = some (.slice A ks.length c) := (blk_cell BD.out 3).trans rfl))
    go_ret
    exact ⟨rfl, by repeat (first | (with_reducible first | exact HB.out | apply below_alloc | apply pw_below_drewN | apply below_drew1) | exact HB.out), by (with_reducible repeat (first | refine blk_drewN ?_ _ | refine blk_drew ?_ | refine blk_alloc ?_ _)); exact BK.out⟩
set_option maxHeartbeats 8000000 in
set_option maxRecDepth 100000 in
theorem impl_docOk.failB (o n : Int) (t : ByteArray) (A : Option Addr) (c : Nat) (ks : List (SDoc)) (deep left : Int) (w0 w : World) (g : Nat)
    (hr : Kd.C k29 w0 A ks.length ks) (hc : ks.length ≤ c) (hB : Below w0.heap.size w0 w) (hg : w0.heap.size ≤ g) (hb : w.heap[g]? = some (.cells #[.int .i64 left] 3 (0, 0)))
    (h1 : (deep == 0) = false) (h2 : decide ((wrap64 (left - 1)) < 0) = false) (h3 : decide (o < 1) = false) (h4 : decide (8 < o) = false)
    (hA : ((ks.length : Int) != docKids o) = true ∨ (((ks.length : Int) != docKids o) = false ∧ decide (n < 0) = true) ∨ (((ks.length : Int) != docKids o) = false ∧ decide (n < 0) = false ∧ decide (9 < n) = true) ∨ (((ks.length : Int) != docKids o) = false ∧ decide (n < 0) = false ∧ decide (9 < n) = false ∧ decide (0 < n) = true ∧ (o != 6) = true)) :
    Calls Try.prog 94 #[.agg #[.int .i64 o, .int .i64 n, .string t, .slice A ks.length c], .int .i64 deep, .pointer (some ⟨g, 0, none⟩)] w fun e w' => e = .returned (.bool false) ∧ Below w0.heap.size w0 w' ∧ w'.heap[g]? = some (.cells #[.int .i64 (wrap64 (left - 1))] 3 (0, 0)) := by
  have O0 := Aside0.mk (show 0 ≤ o by have := of_decide_eq_false h3; omega)
  have O9 := Aside0.mk (show o < 9 by have := of_decide_eq_false h4; omega)
  rcases hA with h5 | ⟨h5, h6⟩ | ⟨h5, h6, h7⟩ | ⟨h5, h6, h7, h8, h9⟩
  all_goals
    have hu29 := Try.underlying29
    have hu3 := Try.underlying3
    have HB := Aside0.mk hB
    have HG := Aside0.mk hg
    have BK := Aside0.mk hb
    clear hB hg hb
    go_enter Try.func94, Try.ntmps94
    go_wp2_with (first | ((with_reducible refine gate_dst (N := 3) rfl ?_); refine box_event ?hg (N := 3) ?hd (cs := #[.int .i64 o, .int .i64 n, .string t, .slice A ks.length c]) (t := 29) ?hr ?_; (case hd => rfl); (case hg => rfl); (case hr => first | (go_simp; done) | (go_simp; rfl)); intro gb hgb w2 hbox hb2; have n0_ := Aside0.mk (below_step HB.out hb2); have n1_ := Aside0.mk (blk_below BK.out hb2); have n2_ := Aside0.mk hbox; have NE := Aside0.mk (by rw [hgb]; exact Nat.ne_of_lt (blk_lt BK.out) : g ≠ gb); clear HB BK; have HB := n0_; have BK := n1_; have BD := n2_; clear n0_ n1_ n2_ hb2 hbox hgb; have hcg : w2.cell? ⟨g, 0, none⟩ = some (.int .i64 left) := (blk_cell BK.out 0).trans rfl; have hfg := blk_frozen BK.out 0) | ((with_reducible refine gate_store (t := 3) (p := 14) rfl ?_); refine store_event (t := 3) (p := 14) (v := ?vo_w13) (w1 := w2.setCell ⟨g, 0, none⟩ (.int .i64 (wrap64 (left - 1)))) ?hg ?ho ?hn ?hr ?_; (case ho => rfl); (case hg => rfl); (case hn => rfl); (case hr => first | (go_simp; done) | (go_simp; rfl)); intro w3 hw; have n0_ := Aside0.mk (by rw [hw]; exact below_set HB.out HG.out : Below w0.heap.size w0 w3); have n1_ : Aside0 (w3.heap[g]? = some (.cells #[.int .i64 (wrap64 (left - 1))] 3 (0, 0))) := Aside0.mk (by rw [hw]; exact blk_set BK.out 0 _); have n2_ : Aside0 (w3.heap[gb]? = some (.cells #[.int .i64 o, .int .i64 n, .string t, .slice A ks.length c] 29 (0, 0))) := Aside0.mk (by rw [hw]; exact blk_far BD.out NE.out.symm _); clear HB BK BD hcg hfg hw; have HB := n0_; have BK := n1_; have BD := n2_; clear n0_ n1_ n2_; have hcg : w3.cell? ⟨g, 0, none⟩ = some (.int .i64 (wrap64 (left - 1))) := (blk_cell BK.out 0).trans rfl; have hd0 : w3.cell? ⟨gb, 0, none⟩ = some (.int .i64 o) := (blk_cell BD.out 0).trans rfl; have hd1 : w3.cell? ⟨gb, 1, none⟩ = some (.int .i64 n) := (blk_cell BD.out 1).trans rfl; have hd2 : w3.cell? ⟨gb, 2, none⟩ = some (.string t) := (blk_cell BD.out 2).trans rfl; have hd3 : w3.cell? ⟨gb, 3, none⟩ = some (.slice A ks.length c) := (blk_cell BD.out 3).trans rfl))
    obtain ⟨w4, hw4⟩ : ∃ W : World, W = w3.alloc (.cells #[.int .i64 0, .int .i64 0, .int .i64 0, .int .i64 0, .int .i64 0, .int .i64 0, .int .i64 1, .int .i64 2, .int .i64 1] 122) := ⟨_, rfl⟩
    obtain ⟨ga, hga⟩ : ∃ ga : Nat, ga = w3.heap.size := ⟨_, rfl⟩
    rw [← hw4, ← hga]
    have BA := Aside0.mk (by rw [hw4, hga]; exact blk_new _ _ : w4.heap[ga]? = some (.cells #[.int .i64 0, .int .i64 0, .int .i64 0, .int .i64 0, .int .i64 0, .int .i64 0, .int .i64 1, .int .i64 2, .int .i64 1] 122 (0, 0)))
    have hb4 : Below w3.heap.size w3 w4 := by rw [hw4]; exact below_alloc (Below.refl _ _) _
    have n0_ := Aside0.mk (below_step HB.out hb4)
    have n1_ := Aside0.mk (blk_below BK.out hb4)
    have n2_ := Aside0.mk (blk_below BD.out hb4)
    clear HB BK BD hcg hd0 hd1 hd2 hd3 hb4 hw4 hga
    have HB := n0_
    have BK := n1_
    have BD := n2_
    clear n0_ n1_ n2_
    have hk : w4.cell? ⟨ga, o.toNat, none⟩ = some (.int .i64 (docKids o)) := docKids_cell BA.out o O0.out O9.out
    have hd0 : w4.cell? ⟨gb, 0, none⟩ = some (.int .i64 o) := (blk_cell BD.out 0).trans rfl; have hd1 : w4.cell? ⟨gb, 1, none⟩ = some (.int .i64 n) := (blk_cell BD.out 1).trans rfl; have hd2 : w4.cell? ⟨gb, 2, none⟩ = some (.string t) := (blk_cell BD.out 2).trans rfl; have hd3 : w4.cell? ⟨gb, 3, none⟩ = some (.slice A ks.length c) := (blk_cell BD.out 3).trans rfl
    have o0 := eq_true O0.out
    have o9 := eq_true O9.out
    go_quiet (fail)
    go_wp2
    go_ret
    exact ⟨rfl, by repeat (first | (with_reducible first | exact HB.out | apply below_alloc | apply pw_below_drewN | apply below_drew1) | exact HB.out), by (with_reducible repeat (first | refine blk_drewN ?_ _ | refine blk_drew ?_ | refine blk_alloc ?_ _)); exact BK.out⟩
set_option maxHeartbeats 8000000 in
set_option maxRecDepth 100000 in
theorem impl_docOk.failC (o n : Int) (t : ByteArray) (A : Option Addr) (c : Nat) (ks : List (SDoc)) (deep left : Int) (w0 w : World) (g : Nat)
    (hr : Kd.C k29 w0 A ks.length ks) (hc : ks.length ≤ c) (hB : Below w0.heap.size w0 w) (hg : w0.heap.size ≤ g) (hb : w.heap[g]? = some (.cells #[.int .i64 left] 3 (0, 0)))
    (h1 : (deep == 0) = false) (h2 : decide ((wrap64 (left - 1)) < 0) = false) (h3 : decide (o < 1) = false) (h4 : decide (8 < o) = false) (h5 : ((ks.length : Int) != docKids o) = false) (h6 : decide (n < 0) = false) (h7 : decide (9 < n) = false)
    (hA : (decide (0 < n) = false ∧ ((o == 2) = false ∧ (o != 2) = true) ∧ ((t.toList == ([] : List UInt8)) = false ∧ (t.toList != ([] : List UInt8)) = true ∧ t.toList.isEmpty = false)) ∨ (decide (0 < n) = true ∧ (o != 6) = false ∧ ((o == 2) = false ∧ (o != 2) = true) ∧ ((t.toList == ([] : List UInt8)) = false ∧ (t.toList != ([] : List UInt8)) = true ∧ t.toList.isEmpty = false))) :
    Calls Try.prog 94 #[.agg #[.int .i64 o, .int .i64 n, .string t, .slice A ks.length c], .int .i64 deep, .pointer (some ⟨g, 0, none⟩)] w fun e w' => e = .returned (.bool false) ∧ Below w0.heap.size w0 w' ∧ w'.heap[g]? = some (.cells #[.int .i64 (wrap64 (left - 1))] 3 (0, 0)) := by
  have O0 := Aside0.mk (show 0 ≤ o by have := of_decide_eq_false h3; omega)
  have O9 := Aside0.mk (show o < 9 by have := of_decide_eq_false h4; omega)
  rcases hA with ⟨h8, ⟨h10, h11⟩, h12, h13, h14⟩ | ⟨h8, h9, ⟨h10, h11⟩, h12, h13, h14⟩
  all_goals
    have hu29 := Try.underlying29
    have hu3 := Try.underlying3
    have HB := Aside0.mk hB
    have HG := Aside0.mk hg
    have BK := Aside0.mk hb
    clear hB hg hb
    go_enter Try.func94, Try.ntmps94
    go_wp2_with (first | ((with_reducible refine gate_dst (N := 3) rfl ?_); refine box_event ?hg (N := 3) ?hd (cs := #[.int .i64 o, .int .i64 n, .string t, .slice A ks.length c]) (t := 29) ?hr ?_; (case hd => rfl); (case hg => rfl); (case hr => first | (go_simp; done) | (go_simp; rfl)); intro gb hgb w2 hbox hb2; have n0_ := Aside0.mk (below_step HB.out hb2); have n1_ := Aside0.mk (blk_below BK.out hb2); have n2_ := Aside0.mk hbox; have NE := Aside0.mk (by rw [hgb]; exact Nat.ne_of_lt (blk_lt BK.out) : g ≠ gb); clear HB BK; have HB := n0_; have BK := n1_; have BD := n2_; clear n0_ n1_ n2_ hb2 hbox hgb; have hcg : w2.cell? ⟨g, 0, none⟩ = some (.int .i64 left) := (blk_cell BK.out 0).trans rfl; have hfg := blk_frozen BK.out 0) | ((with_reducible refine gate_store (t := 3) (p := 14) rfl ?_); refine store_event (t := 3) (p := 14) (v := ?vo_w13) (w1 := w2.setCell ⟨g, 0, none⟩ (.int .i64 (wrap64 (left - 1)))) ?hg ?ho ?hn ?hr ?_; (case ho => rfl); (case hg => rfl); (case hn => rfl); (case hr => first | (go_simp; done) | (go_simp; rfl)); intro w3 hw; have n0_ := Aside0.mk (by rw [hw]; exact below_set HB.out HG.out : Below w0.heap.size w0 w3); have n1_ : Aside0 (w3.heap[g]? = some (.cells #[.int .i64 (wrap64 (left - 1))] 3 (0, 0))) := Aside0.mk (by rw [hw]; exact blk_set BK.out 0 _); have n2_ : Aside0 (w3.heap[gb]? = some (.cells #[.int .i64 o, .int .i64 n, .string t, .slice A ks.length c] 29 (0, 0))) := Aside0.mk (by rw [hw]; exact blk_far BD.out NE.out.symm _); clear HB BK BD hcg hfg hw; have HB := n0_; have BK := n1_; have BD := n2_; clear n0_ n1_ n2_; have hcg : w3.cell? ⟨g, 0, none⟩ = some (.int .i64 (wrap64 (left - 1))) := (blk_cell BK.out 0).trans rfl; have hd0 : w3.cell? ⟨gb, 0, none⟩ = some (.int .i64 o) := (blk_cell BD.out 0).trans rfl; have hd1 : w3.cell? ⟨gb, 1, none⟩ = some (.int .i64 n) := (blk_cell BD.out 1).trans rfl; have hd2 : w3.cell? ⟨gb, 2, none⟩ = some (.string t) := (blk_cell BD.out 2).trans rfl; have hd3 : w3.cell? ⟨gb, 3, none⟩ = some (.slice A ks.length c) := (blk_cell BD.out 3).trans rfl))
    obtain ⟨w4, hw4⟩ : ∃ W : World, W = w3.alloc (.cells #[.int .i64 0, .int .i64 0, .int .i64 0, .int .i64 0, .int .i64 0, .int .i64 0, .int .i64 1, .int .i64 2, .int .i64 1] 122) := ⟨_, rfl⟩
    obtain ⟨ga, hga⟩ : ∃ ga : Nat, ga = w3.heap.size := ⟨_, rfl⟩
    rw [← hw4, ← hga]
    have BA := Aside0.mk (by rw [hw4, hga]; exact blk_new _ _ : w4.heap[ga]? = some (.cells #[.int .i64 0, .int .i64 0, .int .i64 0, .int .i64 0, .int .i64 0, .int .i64 0, .int .i64 1, .int .i64 2, .int .i64 1] 122 (0, 0)))
    have hb4 : Below w3.heap.size w3 w4 := by rw [hw4]; exact below_alloc (Below.refl _ _) _
    have n0_ := Aside0.mk (below_step HB.out hb4)
    have n1_ := Aside0.mk (blk_below BK.out hb4)
    have n2_ := Aside0.mk (blk_below BD.out hb4)
    clear HB BK BD hcg hd0 hd1 hd2 hd3 hb4 hw4 hga
    have HB := n0_
    have BK := n1_
    have BD := n2_
    clear n0_ n1_ n2_
    have hk : w4.cell? ⟨ga, o.toNat, none⟩ = some (.int .i64 (docKids o)) := docKids_cell BA.out o O0.out O9.out
    have hd0 : w4.cell? ⟨gb, 0, none⟩ = some (.int .i64 o) := (blk_cell BD.out 0).trans rfl; have hd1 : w4.cell? ⟨gb, 1, none⟩ = some (.int .i64 n) := (blk_cell BD.out 1).trans rfl; have hd2 : w4.cell? ⟨gb, 2, none⟩ = some (.string t) := (blk_cell BD.out 2).trans rfl; have hd3 : w4.cell? ⟨gb, 3, none⟩ = some (.slice A ks.length c) := (blk_cell BD.out 3).trans rfl
    have o0 := eq_true O0.out
    have o9 := eq_true O9.out
    go_quiet (fail)
    go_wp2
    go_ret
    exact ⟨rfl, by repeat (first | (with_reducible first | exact HB.out | apply below_alloc | apply pw_below_drewN | apply below_drew1) | exact HB.out), by (with_reducible repeat (first | refine blk_drewN ?_ _ | refine blk_drew ?_ | refine blk_alloc ?_ _)); exact BK.out⟩
set_option maxHeartbeats 8000000 in
set_option maxRecDepth 100000 in
theorem impl_docOk.failT (o n : Int) (t : ByteArray) (A : Option Addr) (c : Nat) (ks : List (SDoc)) (deep left : Int) (w0 w : World) (g : Nat)
    (hr : Kd.C k29 w0 A ks.length ks) (hc : ks.length ≤ c) (hB : Below w0.heap.size w0 w) (hg : w0.heap.size ≤ g) (hb : w.heap[g]? = some (.cells #[.int .i64 left] 3 (0, 0)))
    (h1 : (deep == 0) = false) (h2 : decide ((wrap64 (left - 1)) < 0) = false) (h3 : decide (o < 1) = false) (h4 : decide (8 < o) = false) (h5 : ((ks.length : Int) != docKids o) = false) (h6 : decide (n < 0) = false) (h7 : decide (9 < n) = false) (h8 : decide (0 < n) = false) (h10 : (o == 2) = true) (h11 : (o != 2) = false) (kt : Nat) (hT : impl_TextValid.f kt t = some false) :
    Calls Try.prog 94 #[.agg #[.int .i64 o, .int .i64 n, .string t, .slice A ks.length c], .int .i64 deep, .pointer (some ⟨g, 0, none⟩)] w fun e w' => e = .returned (.bool false) ∧ Below w0.heap.size w0 w' ∧ w'.heap[g]? = some (.cells #[.int .i64 (wrap64 (left - 1))] 3 (0, 0)) := by
  have O0 := Aside0.mk (show 0 ≤ o by have := of_decide_eq_false h3; omega)
  have O9 := Aside0.mk (show o < 9 by have := of_decide_eq_false h4; omega)
  have HT := Aside0.mk hT
  clear hT
  have hu29 := Try.underlying29
  have hu3 := Try.underlying3
  have HB := Aside0.mk hB
  have HG := Aside0.mk hg
  have BK := Aside0.mk hb
  clear hB hg hb
  go_enter Try.func94, Try.ntmps94
  go_wp2_with (first | ((with_reducible refine gate_dst (N := 3) rfl ?_); refine box_event ?hg (N := 3) ?hd (cs := #[.int .i64 o, .int .i64 n, .string t, .slice A ks.length c]) (t := 29) ?hr ?_; (case hd => rfl); (case hg => rfl); (case hr => first | (go_simp; done) | (go_simp; rfl)); intro gb hgb w2 hbox hb2; have n0_ := Aside0.mk (below_step HB.out hb2); have n1_ := Aside0.mk (blk_below BK.out hb2); have n2_ := Aside0.mk hbox; have NE := Aside0.mk (by rw [hgb]; exact Nat.ne_of_lt (blk_lt BK.out) : g ≠ gb); clear HB BK; have HB := n0_; have BK := n1_; have BD := n2_; clear n0_ n1_ n2_ hb2 hbox hgb; have hcg : w2.cell? ⟨g, 0, none⟩ = some (.int .i64 left) := (blk_cell BK.out 0).trans rfl; have hfg := blk_frozen BK.out 0) | ((with_reducible refine gate_store (t := 3) (p := 14) rfl ?_); refine store_event (t := 3) (p := 14) (v := ?vo_w13) (w1 := w2.setCell ⟨g, 0, none⟩ (.int .i64 (wrap64 (left - 1)))) ?hg ?ho ?hn ?hr ?_; (case ho => rfl); (case hg => rfl); (case hn => rfl); (case hr => first | (go_simp; done) | (go_simp; rfl)); intro w3 hw; have n0_ := Aside0.mk (by rw [hw]; exact below_set HB.out HG.out : Below w0.heap.size w0 w3); have n1_ : Aside0 (w3.heap[g]? = some (.cells #[.int .i64 (wrap64 (left - 1))] 3 (0, 0))) := Aside0.mk (by rw [hw]; exact blk_set BK.out 0 _); have n2_ : Aside0 (w3.heap[gb]? = some (.cells #[.int .i64 o, .int .i64 n, .string t, .slice A ks.length c] 29 (0, 0))) := Aside0.mk (by rw [hw]; exact blk_far BD.out NE.out.symm _); clear HB BK BD hcg hfg hw; have HB := n0_; have BK := n1_; have BD := n2_; clear n0_ n1_ n2_; have hcg : w3.cell? ⟨g, 0, none⟩ = some (.int .i64 (wrap64 (left - 1))) := (blk_cell BK.out 0).trans rfl; have hd0 : w3.cell? ⟨gb, 0, none⟩ = some (.int .i64 o) := (blk_cell BD.out 0).trans rfl; have hd1 : w3.cell? ⟨gb, 1, none⟩ = some (.int .i64 n) := (blk_cell BD.out 1).trans rfl; have hd2 : w3.cell? ⟨gb, 2, none⟩ = some (.string t) := (blk_cell BD.out 2).trans rfl; have hd3 : w3.cell? ⟨gb, 3, none⟩ = some (.slice A ks.length c) := (blk_cell BD.out 3).trans rfl))
  obtain ⟨w4, hw4⟩ : ∃ W : World, W = w3.alloc (.cells #[.int .i64 0, .int .i64 0, .int .i64 0, .int .i64 0, .int .i64 0, .int .i64 0, .int .i64 1, .int .i64 2, .int .i64 1] 122) := ⟨_, rfl⟩
  obtain ⟨ga, hga⟩ : ∃ ga : Nat, ga = w3.heap.size := ⟨_, rfl⟩
  rw [← hw4, ← hga]
  have BA := Aside0.mk (by rw [hw4, hga]; exact blk_new _ _ : w4.heap[ga]? = some (.cells #[.int .i64 0, .int .i64 0, .int .i64 0, .int .i64 0, .int .i64 0, .int .i64 0, .int .i64 1, .int .i64 2, .int .i64 1] 122 (0, 0)))
  have hb4 : Below w3.heap.size w3 w4 := by rw [hw4]; exact below_alloc (Below.refl _ _) _
  have n0_ := Aside0.mk (below_step HB.out hb4)
  have n1_ := Aside0.mk (blk_below BK.out hb4)
  have n2_ := Aside0.mk (blk_below BD.out hb4)
  clear HB BK BD hcg hd0 hd1 hd2 hd3 hb4 hw4 hga
  have HB := n0_
  have BK := n1_
  have BD := n2_
  clear n0_ n1_ n2_
  have hk : w4.cell? ⟨ga, o.toNat, none⟩ = some (.int .i64 (docKids o)) := docKids_cell BA.out o O0.out O9.out
  have hd0 : w4.cell? ⟨gb, 0, none⟩ = some (.int .i64 o) := (blk_cell BD.out 0).trans rfl; have hd1 : w4.cell? ⟨gb, 1, none⟩ = some (.int .i64 n) := (blk_cell BD.out 1).trans rfl; have hd2 : w4.cell? ⟨gb, 2, none⟩ = some (.string t) := (blk_cell BD.out 2).trans rfl; have hd3 : w4.cell? ⟨gb, 3, none⟩ = some (.slice A ks.length c) := (blk_cell BD.out 3).trans rfl
  have o0 := eq_true O0.out
  have o9 := eq_true O9.out
  go_quiet (fail)
  go_wp2_with (first | (go_at_call 126; (with_reducible refine (impl_TextValid.calls kt t false _ HT.out).mono ?_); rintro e w5 ⟨rfl, ⟨nd, rfl⟩⟩))
  go_ret
  exact ⟨rfl, by repeat (first | (with_reducible first | exact HB.out | apply below_alloc | apply pw_below_drewN | apply below_drew1) | exact HB.out), by (with_reducible repeat (first | refine blk_drewN ?_ _ | refine blk_drew ?_ | refine blk_alloc ?_ _)); exact BK.out⟩
set_option maxHeartbeats 8000000 in
set_option maxRecDepth 100000 in
theorem impl_docOk.loopT (o n : Int) (t : ByteArray) (A : Option Addr) (c : Nat) (ks : List (SDoc)) (deep left : Int) (w0 w : World) (g : Nat)
    (hr : Kd.C k29 w0 A ks.length ks) (hc : ks.length ≤ c) (hB : Below w0.heap.size w0 w) (hg : w0.heap.size ≤ g) (hb : w.heap[g]? = some (.cells #[.int .i64 left] 3 (0, 0)))
    (h1 : (deep == 0) = false) (h2 : decide ((wrap64 (left - 1)) < 0) = false) (h3 : decide (o < 1) = false) (h4 : decide (8 < o) = false) (h5 : ((ks.length : Int) != docKids o) = false) (h6 : decide (n < 0) = false) (h7 : decide (9 < n) = false) (h8 : decide (0 < n) = false) (h10 : (o == 2) = true) (h11 : (o != 2) = false) (kt : Nat) (hT : impl_TextValid.f kt t = some true)
    (k : Nat) (ih : ∀ m, m < k + 1 → ∀ (o n : Int) (t : ByteArray) (A : Option Addr) (c : Nat) (ks : List (SDoc)) (deep left : Int) (r1 : Bool) (r2 : Int) (w0 w : World) (g : Nat), Kd.C k29 w0 A ks.length ks → ks.length ≤ c → Below w0.heap.size w0 w → w0.heap.size ≤ g → w.heap[g]? = some (.cells #[.int .i64 left] 3 (0, 0)) → impl_docOk.f m o n t ks deep left = some (r1, r2) →
      Calls Try.prog 94 #[.agg #[.int .i64 o, .int .i64 n, .string t, .slice A ks.length c], .int .i64 deep, .pointer (some ⟨g, 0, none⟩)] w fun e w' => e = .returned (.bool r1) ∧ Below w0.heap.size w0 w' ∧ w'.heap[g]? = some (.cells #[.int .i64 r2] 3 (0, 0)))
    (r1 : Bool) (r2 : Int) (hL : impl_docOk.l0 k ks 0 deep (wrap64 (left - 1)) = some (r1, r2)) :
    Calls Try.prog 94 #[.agg #[.int .i64 o, .int .i64 n, .string t, .slice A ks.length c], .int .i64 deep, .pointer (some ⟨g, 0, none⟩)] w fun e w' => e = .returned (.bool r1) ∧ Below w0.heap.size w0 w' ∧ w'.heap[g]? = some (.cells #[.int .i64 r2] 3 (0, 0)) := by
  have O0 := Aside0.mk (show 0 ≤ o by have := of_decide_eq_false h3; omega)
  have O9 := Aside0.mk (show o < 9 by have := of_decide_eq_false h4; omega)
  have HT := Aside0.mk hT
  clear hT
  have H' := Aside0.mk hL
  clear hL
  have HR := Aside0.mk hr
  have HC := Aside0.mk hc
  clear hr hc
  have hu29 := Try.underlying29
  have hu3 := Try.underlying3
  have HB := Aside0.mk hB
  have HG := Aside0.mk hg
  have BK := Aside0.mk hb
  clear hB hg hb
  go_enter Try.func94, Try.ntmps94
  go_wp2_with (first | ((with_reducible refine gate_dst (N := 3) rfl ?_); refine box_event ?hg (N := 3) ?hd (cs := #[.int .i64 o, .int .i64 n, .string t, .slice A ks.length c]) (t := 29) ?hr ?_; (case hd => rfl); (case hg => rfl); (case hr => first | (go_simp; done) | (go_simp; rfl)); intro gb hgb w2 hbox hb2; have n0_ := Aside0.mk (below_step HB.out hb2); have n1_ := Aside0.mk (blk_below BK.out hb2); have n2_ := Aside0.mk hbox; have NE := Aside0.mk (by rw [hgb]; exact Nat.ne_of_lt (blk_lt BK.out) : g ≠ gb); clear HB BK; have HB := n0_; have BK := n1_; have BD := n2_; clear n0_ n1_ n2_ hb2 hbox hgb; have hcg : w2.cell? ⟨g, 0, none⟩ = some (.int .i64 left) := (blk_cell BK.out 0).trans rfl; have hfg := blk_frozen BK.out 0) | ((with_reducible refine gate_store (t := 3) (p := 14) rfl ?_); refine store_event (t := 3) (p := 14) (v := ?vo_w13) (w1 := w2.setCell ⟨g, 0, none⟩ (.int .i64 (wrap64 (left - 1)))) ?hg ?ho ?hn ?hr ?_; (case ho => rfl); (case hg => rfl); (case hn => rfl); (case hr => first | (go_simp; done) | (go_simp; rfl)); intro w3 hw; have n0_ := Aside0.mk (by rw [hw]; exact below_set HB.out HG.out : Below w0.heap.size w0 w3); have n1_ : Aside0 (w3.heap[g]? = some (.cells #[.int .i64 (wrap64 (left - 1))] 3 (0, 0))) := Aside0.mk (by rw [hw]; exact blk_set BK.out 0 _); have n2_ : Aside0 (w3.heap[gb]? = some (.cells #[.int .i64 o, .int .i64 n, .string t, .slice A ks.length c] 29 (0, 0))) := Aside0.mk (by rw [hw]; exact blk_far BD.out NE.out.symm _); clear HB BK BD hcg hfg hw; have HB := n0_; have BK := n1_; have BD := n2_; clear n0_ n1_ n2_; have hcg : w3.cell? ⟨g, 0, none⟩ = some (.int .i64 (wrap64 (left - 1))) := (blk_cell BK.out 0).trans rfl; have hd0 : w3.cell? ⟨gb, 0, none⟩ = some (.int .i64 o) := (blk_cell BD.out 0).trans rfl; have hd1 : w3.cell? ⟨gb, 1, none⟩ = some (.int .i64 n) := (blk_cell BD.out 1).trans rfl; have hd2 : w3.cell? ⟨gb, 2, none⟩ = some (.string t) := (blk_cell BD.out 2).trans rfl; have hd3 : w3.cell? ⟨gb, 3, none⟩ = some (.slice A ks.length c) := (blk_cell BD.out 3).trans rfl))
  obtain ⟨w4, hw4⟩ : ∃ W : World, W = w3.alloc (.cells #[.int .i64 0, .int .i64 0, .int .i64 0, .int .i64 0, .int .i64 0, .int .i64 0, .int .i64 1, .int .i64 2, .int .i64 1] 122) := ⟨_, rfl⟩
  obtain ⟨ga, hga⟩ : ∃ ga : Nat, ga = w3.heap.size := ⟨_, rfl⟩
  rw [← hw4, ← hga]
  have BA := Aside0.mk (by rw [hw4, hga]; exact blk_new _ _ : w4.heap[ga]? = some (.cells #[.int .i64 0, .int .i64 0, .int .i64 0, .int .i64 0, .int .i64 0, .int .i64 0, .int .i64 1, .int .i64 2, .int .i64 1] 122 (0, 0)))
  have hb4 : Below w3.heap.size w3 w4 := by rw [hw4]; exact below_alloc (Below.refl _ _) _
  have n0_ := Aside0.mk (below_step HB.out hb4)
  have n1_ := Aside0.mk (blk_below BK.out hb4)
  have n2_ := Aside0.mk (blk_below BD.out hb4)
  clear HB BK BD hcg hd0 hd1 hd2 hd3 hb4 hw4 hga
  have HB := n0_
  have BK := n1_
  have BD := n2_
  clear n0_ n1_ n2_
  have hk : w4.cell? ⟨ga, o.toNat, none⟩ = some (.int .i64 (docKids o)) := docKids_cell BA.out o O0.out O9.out
  have hd0 : w4.cell? ⟨gb, 0, none⟩ = some (.int .i64 o) := (blk_cell BD.out 0).trans rfl; have hd1 : w4.cell? ⟨gb, 1, none⟩ = some (.int .i64 n) := (blk_cell BD.out 1).trans rfl; have hd2 : w4.cell? ⟨gb, 2, none⟩ = some (.string t) := (blk_cell BD.out 2).trans rfl; have hd3 : w4.cell? ⟨gb, 3, none⟩ = some (.slice A ks.length c) := (blk_cell BD.out 3).trans rfl
  have o0 := eq_true O0.out
  have o9 := eq_true O9.out
  go_quiet (fail)
  go_wp2_with (first | (go_at_call 126; (with_reducible refine (impl_TextValid.calls kt t true _ HT.out).mono ?_); rintro e w5 ⟨rfl, ⟨nd, rfl⟩⟩))
  clear hk o0 o9 hd0 hd1 hd2 hd3
  go_loopg [84] k (fun kq v84 w' => ∃ (i lf : Int), v84 = .int .i64 i ∧ Aside0 (impl_docOk.l0 kq ks i deep lf = some (r1, r2)) ∧ Aside0 (kq ≤ k) ∧ Aside0 (w'.heap[g]? = some (.cells #[.int .i64 lf] 3 (0, 0))) ∧ Aside0 (Below w0.heap.size w0 w'))
  case atStart => exact ⟨0, (wrap64 (left - 1)), rfl, H', ⟨Nat.le_refl _⟩, ⟨by (with_reducible repeat (first | refine blk_drewN ?_ _ | refine blk_drew ?_ | refine blk_alloc ?_ _)); exact BK.out⟩, ⟨by repeat (first | (with_reducible first | exact HB.out | apply below_alloc | apply pw_below_drewN | apply below_drew1) | exact HB.out)⟩⟩
  case round =>
    clear H' BK HB
    obtain ⟨i, lf, rfl, HA, HK1, BK, HB⟩ := hrel
    cases gk with
    | zero => exact absurd HA.out (by simp [impl_docOk.l0])
    | succ k1 =>
      have H := HA.out
      clear HA
      simp only [impl_docOk.l0] at H
      by_cases c4 : i < (ks.length : Int)
      · rw [if_pos c4] at H
        have c4b0 : decide (i < (ks.length : Int)) = true := decide_eq_true c4
        by_cases c5 : 0 ≤ i
        · rw [if_pos c5] at H
          have c5b0 : decide (0 ≤ i) = true := decide_eq_true c5
          replace H := Option.bind_eq_some_iff.mp H
          obtain ⟨⟨b1, b2⟩, A70, H⟩ := H
          have A7 := Aside0.mk A70
          clear A70
          obtain ⟨ad, A3, c3, eA, hx0, hx1, hx2, hx3, hl3, hi3⟩ := at_TDoc HR.out i c5 c4
          cases eA
          replace hx0 := (HB.out.cell (World.block_lt_of_cell? w0 _ hx0)).trans hx0
          replace hx1 := (HB.out.cell (World.block_lt_of_cell? w0 _ hx1)).trans hx1
          replace hx2 := (HB.out.cell (World.block_lt_of_cell? w0 _ hx2)).trans hx2
          replace hx3 := (HB.out.cell (World.block_lt_of_cell? w0 _ hx3)).trans hx3
          have HR3 := Aside0.mk hi3
          have HC3 := Aside0.mk hl3
          clear hi3 hl3
          replace c4 := eq_true c4
          replace c5 := eq_true c5
          have H' := Aside0.mk H
          clear H
          have HS : Aside0 (∀ (x : Bool), b1 = x → Aside0 ((if x = true then (impl_docOk.l0 k1 ks (wrap64 (i + 1)) deep b2) else (some (false, b2))) = some (r1, r2))) := ⟨fun x hx => ⟨by rw [← hx]; exact H'.out⟩⟩
          clear H'
          cases b1
          all_goals
            go_wp2_with (first | ((with_reducible refine gate_dst (N := 9) rfl ?_); refine box_event ?hg (N := 9) ?hd (cs := #[.int .i64 0, .int .i64 0, .string (⟨#[]⟩ : ByteArray), .slice none 0 0]) (t := 29) ?hr ?_; (case hd => rfl); (case hg => rfl); (case hr => first | (go_simp; done) | (go_simp; rfl)); intro gx hgx w8 hbox hb8; have n0_ := Aside0.mk (below_step HB.out hb8); have n1_ := Aside0.mk (blk_below BK.out hb8); have n2_ := Aside0.mk hbox; have NX := Aside0.mk (by rw [hgx]; exact Nat.ne_of_lt (blk_lt BK.out) : g ≠ gx); have GX := Aside0.mk (by rw [hgx]; exact HB.out.size : w0.heap.size ≤ gx); clear HB BK; have HB := n0_; have BK := n1_; have BX := n2_; clear n0_ n1_ n2_ hb8 hbox hgx; have hy0 : w8.cell? ⟨gx, 0, none⟩ = some (.int .i64 0) := (blk_cell BX.out 0).trans rfl; have hy1 : w8.cell? ⟨gx, 1, none⟩ = some (.int .i64 0) := (blk_cell BX.out 1).trans rfl; have hy2 : w8.cell? ⟨gx, 2, none⟩ = some (.string ⟨#[]⟩) := (blk_cell BX.out 2).trans rfl; have hy3 : w8.cell? ⟨gx, 3, none⟩ = some (.slice none 0 0) := (blk_cell BX.out 3).trans rfl; have hf0 := blk_frozen BX.out 0; have hf1 := blk_frozen BX.out 1; have hf2 := blk_frozen BX.out 2; have hf3 := blk_frozen BX.out 3) | ((with_reducible refine gate_store (t := 29) (p := 9) rfl ?_); refine store_event (t := 29) (p := 9) (v := ?vo_w9) (w1 := ((((w8.setCell ⟨gx, 0, none⟩ (.int .i64 (rd_TDoc ks i).f0)).setCell ⟨gx, 1, none⟩ (.int .i64 (rd_TDoc ks i).f1)).setCell ⟨gx, 2, none⟩ (.string (rd_TDoc ks i).f2)).setCell ⟨gx, 3, none⟩ (.slice A3 (rd_TDoc ks i).f3.length c3))) ?hg ?ho ?hn ?hr ?_; (case ho => rfl); (case hg => rfl); (case hn => rfl); (case hr => first | (go_simp; done) | (go_simp; rfl)); intro w9 hw; have n0_ := Aside0.mk (by rw [hw]; exact below_set (below_set (below_set (below_set HB.out GX.out) GX.out) GX.out) GX.out : Below w0.heap.size w0 w9); have n1_ : Aside0 (w9.heap[g]? = some (.cells #[.int .i64 lf] 3 (0, 0))) := Aside0.mk (by rw [hw]; exact blk_far (blk_far (blk_far (blk_far BK.out NX.out _) NX.out _) NX.out _) NX.out _); have n2_ : Aside0 (w9.heap[gx]? = some (.cells #[.int .i64 (rd_TDoc ks i).f0, .int .i64 (rd_TDoc ks i).f1, .string (rd_TDoc ks i).f2, .slice A3 (rd_TDoc ks i).f3.length c3] 29 (0, 0))) := Aside0.mk (by rw [hw]; exact (blk_set (blk_set (blk_set (blk_set BX.out 0 _) 1 _) 2 _) 3 _).trans rfl); clear HB BK BX hy0 hy1 hy2 hy3 hf0 hf1 hf2 hf3 hw; have HB := n0_; have BK := n1_; have BX := n2_; clear n0_ n1_ n2_; have hy0 : w9.cell? ⟨gx, 0, none⟩ = some (.int .i64 (rd_TDoc ks i).f0) := (blk_cell BX.out 0).trans rfl; have hy1 : w9.cell? ⟨gx, 1, none⟩ = some (.int .i64 (rd_TDoc ks i).f1) := (blk_cell BX.out 1).trans rfl; have hy2 : w9.cell? ⟨gx, 2, none⟩ = some (.string (rd_TDoc ks i).f2) := (blk_cell BX.out 2).trans rfl; have hy3 : w9.cell? ⟨gx, 3, none⟩ = some (.slice A3 (rd_TDoc ks i).f3.length c3) := (blk_cell BX.out 3).trans rfl) | ((with_reducible refine gate_callee (f := 94) rfl ?_); refine goesL_ (some 92) rfl rfl Try.func94 (by kernel_rfl) rfl #[.agg #[.int .i64 (rd_TDoc ks i).f0, .int .i64 (rd_TDoc ks i).f1, .string (rd_TDoc ks i).f2, .slice A3 (rd_TDoc ks i).f3.length c3], .int .i64 (wrap64 (deep - 1)), .pointer (some ⟨g, 0, none⟩)] rfl (by (try simp only [List.map_toArray, List.map_cons, List.map_nil]); first | done | rfl) ?_; (with_reducible refine (ih k1 (by have := HK1.out; omega) (rd_TDoc ks i).f0 (rd_TDoc ks i).f1 (rd_TDoc ks i).f2 A3 c3 (rd_TDoc ks i).f3 (wrap64 (deep - 1)) lf _ b2 w0 _ g HR3.out HC3.out ?side1 HG.out ?side2 A7.out).mono ?_); (case side1 => exact (by repeat (first | (with_reducible first | exact HB.out | apply below_alloc | apply pw_below_drewN | apply below_drew1) | exact HB.out))); (case side2 => (with_reducible repeat (first | refine blk_drewN ?_ _ | refine blk_drew ?_ | refine blk_alloc ?_ _)); exact BK.out); rintro e w10 ⟨rfl, hb10, hk10⟩; refine ⟨_, rfl, ?_⟩; clear HB BK BX hy0 hy1 hy2 hy3; have HB := Aside0.mk hb10; have BK := Aside0.mk hk10; clear hb10 hk10))
          · obtain ⟨rfl, rfl⟩ : r1 = false ∧ r2 = b2 := by have h_ := (HS.out false rfl).out; simpa [eq_comm] using h_
            go_ret
            exact ⟨rfl, by repeat (first | (with_reducible first | exact HB.out | apply below_alloc | apply pw_below_drewN | apply below_drew1) | exact HB.out), by (with_reducible repeat (first | refine blk_drewN ?_ _ | refine blk_drew ?_ | refine blk_alloc ?_ _)); exact BK.out⟩
          · go_roundg k1
            case measure => have := HK1.out; omega
            case rel => exact ⟨(wrap64 (i + 1)), b2, (by first | rfl | (simp; done) | (simp [*]; done)), ⟨(HS.out true rfl).out⟩, ⟨by have := HK1.out; omega⟩, ⟨by (with_reducible repeat (first | refine blk_drewN ?_ _ | refine blk_drew ?_ | refine blk_alloc ?_ _)); exact BK.out⟩, ⟨by repeat (first | (with_reducible first | exact HB.out | apply below_alloc | apply pw_below_drewN | apply below_drew1) | exact HB.out)⟩⟩
        · rw [if_neg c5] at H
          exact absurd H (by simp)
      · rw [if_neg c4] at H
        have c4b0 : decide (i < (ks.length : Int)) = false := decide_eq_false c4
        clear c4
        simp only [Option.some.injEq, Prod.mk.injEq] at H
        obtain ⟨rfl, rfl⟩ := H
        go_wp2
        go_ret
        exact ⟨rfl, by repeat (first | (with_reducible first | exact HB.out | apply below_alloc | apply pw_below_drewN | apply below_drew1) | exact HB.out), by (with_reducible repeat (first | refine blk_drewN ?_ _ | refine blk_drew ?_ | refine blk_alloc ?_ _)); exact BK.out⟩
set_option maxHeartbeats 8000000 in
set_option maxRecDepth 100000 in
theorem impl_docOk.loopE (o n : Int) (t : ByteArray) (A : Option Addr) (c : Nat) (ks : List (SDoc)) (deep left : Int) (w0 w : World) (g : Nat)
    (hr : Kd.C k29 w0 A ks.length ks) (hc : ks.length ≤ c) (hB : Below w0.heap.size w0 w) (hg : w0.heap.size ≤ g) (hb : w.heap[g]? = some (.cells #[.int .i64 left] 3 (0, 0)))
    (h1 : (deep == 0) = false) (h2 : decide ((wrap64 (left - 1)) < 0) = false) (h3 : decide (o < 1) = false) (h4 : decide (8 < o) = false) (h5 : ((ks.length : Int) != docKids o) = false) (h6 : decide (n < 0) = false) (h7 : decide (9 < n) = false)
    (hA : (decide (0 < n) = false ∧ ((o == 2) = false ∧ (o != 2) = true) ∧ ((t.toList == ([] : List UInt8)) = true ∧ (t.toList != ([] : List UInt8)) = false ∧ t.toList.isEmpty = true)) ∨ (decide (0 < n) = true ∧ (o != 6) = false ∧ ((o == 2) = false ∧ (o != 2) = true) ∧ ((t.toList == ([] : List UInt8)) = true ∧ (t.toList != ([] : List UInt8)) = false ∧ t.toList.isEmpty = true)))
    (k : Nat) (ih : ∀ m, m < k + 1 → ∀ (o n : Int) (t : ByteArray) (A : Option Addr) (c : Nat) (ks : List (SDoc)) (deep left : Int) (r1 : Bool) (r2 : Int) (w0 w : World) (g : Nat), Kd.C k29 w0 A ks.length ks → ks.length ≤ c → Below w0.heap.size w0 w → w0.heap.size ≤ g → w.heap[g]? = some (.cells #[.int .i64 left] 3 (0, 0)) → impl_docOk.f m o n t ks deep left = some (r1, r2) →
      Calls Try.prog 94 #[.agg #[.int .i64 o, .int .i64 n, .string t, .slice A ks.length c], .int .i64 deep, .pointer (some ⟨g, 0, none⟩)] w fun e w' => e = .returned (.bool r1) ∧ Below w0.heap.size w0 w' ∧ w'.heap[g]? = some (.cells #[.int .i64 r2] 3 (0, 0)))
    (r1 : Bool) (r2 : Int) (hL : impl_docOk.l0 k ks 0 deep (wrap64 (left - 1)) = some (r1, r2)) :
    Calls Try.prog 94 #[.agg #[.int .i64 o, .int .i64 n, .string t, .slice A ks.length c], .int .i64 deep, .pointer (some ⟨g, 0, none⟩)] w fun e w' => e = .returned (.bool r1) ∧ Below w0.heap.size w0 w' ∧ w'.heap[g]? = some (.cells #[.int .i64 r2] 3 (0, 0)) := by
  have O0 := Aside0.mk (show 0 ≤ o by have := of_decide_eq_false h3; omega)
  have O9 := Aside0.mk (show o < 9 by have := of_decide_eq_false h4; omega)
  rcases hA with ⟨h8, ⟨h10, h11⟩, h12, h13, h14⟩ | ⟨h8, h9, ⟨h10, h11⟩, h12, h13, h14⟩
  all_goals
    have H' := Aside0.mk hL
    clear hL
    have HR := Aside0.mk hr
    have HC := Aside0.mk hc
    clear hr hc
    have hu29 := Try.underlying29
    have hu3 := Try.underlying3
    have HB := Aside0.mk hB
    have HG := Aside0.mk hg
    have BK := Aside0.mk hb
    clear hB hg hb
    go_enter Try.func94, Try.ntmps94
    go_wp2_with (first | ((with_reducible refine gate_dst (N := 3) rfl ?_); refine box_event ?hg (N := 3) ?hd (cs := #[.int .i64 o, .int .i64 n, .string t, .slice A ks.length c]) (t := 29) ?hr ?_; (case hd => rfl); (case hg => rfl); (case hr => first | (go_simp; done) | (go_simp; rfl)); intro gb hgb w2 hbox hb2; have n0_ := Aside0.mk (below_step HB.out hb2); have n1_ := Aside0.mk (blk_below BK.out hb2); have n2_ := Aside0.mk hbox; have NE := Aside0.mk (by rw [hgb]; exact Nat.ne_of_lt (blk_lt BK.out) : g ≠ gb); clear HB BK; have HB := n0_; have BK := n1_; have BD := n2_; clear n0_ n1_ n2_ hb2 hbox hgb; have hcg : w2.cell? ⟨g, 0, none⟩ = some (.int .i64 left) := (blk_cell BK.out 0).trans rfl; have hfg := blk_frozen BK.out 0) | ((with_reducible refine gate_store (t := 3) (p := 14) rfl ?_); refine store_event (t := 3) (p := 14) (v := ?vo_w13) (w1 := w2.setCell ⟨g, 0, none⟩ (.int .i64 (wrap64 (left - 1)))) ?hg ?ho ?hn ?hr ?_; (case ho => rfl); (case hg => rfl); (case hn => rfl); (case hr => first | (go_simp; done) | (go_simp; rfl)); intro w3 hw; have n0_ := Aside0.mk (by rw [hw]; exact below_set HB.out HG.out : Below w0.heap.size w0 w3); have n1_ : Aside0 (w3.heap[g]? = some (.cells #[.int .i64 (wrap64 (left - 1))] 3 (0, 0))) := Aside0.mk (by rw [hw]; exact blk_set BK.out 0 _); have n2_ : Aside0 (w3.heap[gb]? = some (.cells #[.int .i64 o, .int .i64 n, .string t, .slice A ks.length c] 29 (0, 0))) := Aside0.mk (by rw [hw]; exact blk_far BD.out NE.out.symm _); clear HB BK BD hcg hfg hw; have HB := n0_; have BK := n1_; have BD := n2_; clear n0_ n1_ n2_; have hcg : w3.cell? ⟨g, 0, none⟩ = some (.int .i64 (wrap64 (left - 1))) := (blk_cell BK.out 0).trans rfl; have hd0 : w3.cell? ⟨gb, 0, none⟩ = some (.int .i64 o) := (blk_cell BD.out 0).trans rfl; have hd1 : w3.cell? ⟨gb, 1, none⟩ = some (.int .i64 n) := (blk_cell BD.out 1).trans rfl; have hd2 : w3.cell? ⟨gb, 2, none⟩ = some (.string t) := (blk_cell BD.out 2).trans rfl; have hd3 : w3.cell? ⟨gb, 3, none⟩ = some (.slice A ks.length c) := (blk_cell BD.out 3).trans rfl))
    obtain ⟨w4, hw4⟩ : ∃ W : World, W = w3.alloc (.cells #[.int .i64 0, .int .i64 0, .int .i64 0, .int .i64 0, .int .i64 0, .int .i64 0, .int .i64 1, .int .i64 2, .int .i64 1] 122) := ⟨_, rfl⟩
    obtain ⟨ga, hga⟩ : ∃ ga : Nat, ga = w3.heap.size := ⟨_, rfl⟩
    rw [← hw4, ← hga]
    have BA := Aside0.mk (by rw [hw4, hga]; exact blk_new _ _ : w4.heap[ga]? = some (.cells #[.int .i64 0, .int .i64 0, .int .i64 0, .int .i64 0, .int .i64 0, .int .i64 0, .int .i64 1, .int .i64 2, .int .i64 1] 122 (0, 0)))
    have hb4 : Below w3.heap.size w3 w4 := by rw [hw4]; exact below_alloc (Below.refl _ _) _
    have n0_ := Aside0.mk (below_step HB.out hb4)
    have n1_ := Aside0.mk (blk_below BK.out hb4)
    have n2_ := Aside0.mk (blk_below BD.out hb4)
    clear HB BK BD hcg hd0 hd1 hd2 hd3 hb4 hw4 hga
    have HB := n0_
    have BK := n1_
    have BD := n2_
    clear n0_ n1_ n2_
    have hk : w4.cell? ⟨ga, o.toNat, none⟩ = some (.int .i64 (docKids o)) := docKids_cell BA.out o O0.out O9.out
    have hd0 : w4.cell? ⟨gb, 0, none⟩ = some (.int .i64 o) := (blk_cell BD.out 0).trans rfl; have hd1 : w4.cell? ⟨gb, 1, none⟩ = some (.int .i64 n) := (blk_cell BD.out 1).trans rfl; have hd2 : w4.cell? ⟨gb, 2, none⟩ = some (.string t) := (blk_cell BD.out 2).trans rfl; have hd3 : w4.cell? ⟨gb, 3, none⟩ = some (.slice A ks.length c) := (blk_cell BD.out 3).trans rfl
    have o0 := eq_true O0.out
    have o9 := eq_true O9.out
    go_quiet (fail)
    go_wp2
    clear hk o0 o9 hd0 hd1 hd2 hd3
    go_loopg [84] k (fun kq v84 w' => ∃ (i lf : Int), v84 = .int .i64 i ∧ Aside0 (impl_docOk.l0 kq ks i deep lf = some (r1, r2)) ∧ Aside0 (kq ≤ k) ∧ Aside0 (w'.heap[g]? = some (.cells #[.int .i64 lf] 3 (0, 0))) ∧ Aside0 (Below w0.heap.size w0 w'))
    case atStart => exact ⟨0, (wrap64 (left - 1)), rfl, H', ⟨Nat.le_refl _⟩, ⟨by (with_reducible repeat (first | refine blk_drewN ?_ _ | refine blk_drew ?_ | refine blk_alloc ?_ _)); exact BK.out⟩, ⟨by repeat (first | (with_reducible first | exact HB.out | apply below_alloc | apply pw_below_drewN | apply below_drew1) | exact HB.out)⟩⟩
    case round =>
      clear H' BK HB
      obtain ⟨i, lf, rfl, HA, HK1, BK, HB⟩ := hrel
      cases gk with
      | zero => exact absurd HA.out (by simp [impl_docOk.l0])
      | succ k1 =>
        have H := HA.out
        clear HA
        simp only [impl_docOk.l0] at H
        by_cases c4 : i < (ks.length : Int)
        · rw [if_pos c4] at H
          have c4b0 : decide (i < (ks.length : Int)) = true := decide_eq_true c4
          by_cases c5 : 0 ≤ i
          · rw [if_pos c5] at H
            have c5b0 : decide (0 ≤ i) = true := decide_eq_true c5
            replace H := Option.bind_eq_some_iff.mp H
            obtain ⟨⟨b1, b2⟩, A70, H⟩ := H
            have A7 := Aside0.mk A70
            clear A70
            obtain ⟨ad, A3, c3, eA, hx0, hx1, hx2, hx3, hl3, hi3⟩ := at_TDoc HR.out i c5 c4
            cases eA
            replace hx0 := (HB.out.cell (World.block_lt_of_cell? w0 _ hx0)).trans hx0
            replace hx1 := (HB.out.cell (World.block_lt_of_cell? w0 _ hx1)).trans hx1
            replace hx2 := (HB.out.cell (World.block_lt_of_cell? w0 _ hx2)).trans hx2
            replace hx3 := (HB.out.cell (World.block_lt_of_cell? w0 _ hx3)).trans hx3
            have HR3 := Aside0.mk hi3
            have HC3 := Aside0.mk hl3
            clear hi3 hl3
            replace c4 := eq_true c4
            replace c5 := eq_true c5
            have H' := Aside0.mk H
            clear H
            have HS : Aside0 (∀ (x : Bool), b1 = x → Aside0 ((if x = true then (impl_docOk.l0 k1 ks (wrap64 (i + 1)) deep b2) else (some (false, b2))) = some (r1, r2))) := ⟨fun x hx => ⟨by rw [← hx]; exact H'.out⟩⟩
            clear H'
            cases b1
            all_goals
              go_wp2_with (first | ((with_reducible refine gate_dst (N := 9) rfl ?_); refine box_event ?hg (N := 9) ?hd (cs := #[.int .i64 0, .int .i64 0, .string (⟨#[]⟩ : ByteArray), .slice none 0 0]) (t := 29) ?hr ?_; (case hd => rfl); (case hg => rfl); (case hr => first | (go_simp; done) | (go_simp; rfl)); intro gx hgx w8 hbox hb8; have n0_ := Aside0.mk (below_step HB.out hb8); have n1_ := Aside0.mk (blk_below BK.out hb8); have n2_ := Aside0.mk hbox; have NX := Aside0.mk (by rw [hgx]; exact Nat.ne_of_lt (blk_lt BK.out) : g ≠ gx); have GX := Aside0.mk (by rw [hgx]; exact HB.out.size : w0.heap.size ≤ gx); clear HB BK; have HB := n0_; have BK := n1_; have BX := n2_; clear n0_ n1_ n2_ hb8 hbox hgx; have hy0 : w8.cell? ⟨gx, 0, none⟩ = some (.int .i64 0) := (blk_cell BX.out 0).trans rfl; have hy1 : w8.cell? ⟨gx, 1, none⟩ = some (.int .i64 0) := (blk_cell BX.out 1).trans rfl; have hy2 : w8.cell? ⟨gx, 2, none⟩ = some (.string ⟨#[]⟩) := (blk_cell BX.out 2).trans rfl; have hy3 : w8.cell? ⟨gx, 3, none⟩ = some (.slice none 0 0) := (blk_cell BX.out 3).trans rfl; have hf0 := blk_frozen BX.out 0; have hf1 := blk_frozen BX.out 1; have hf2 := blk_frozen BX.out 2; have hf3 := blk_frozen BX.out 3) | ((with_reducible refine gate_store (t := 29) (p := 9) rfl ?_); refine store_event (t := 29) (p := 9) (v := ?vo_w9) (w1 := ((((w8.setCell ⟨gx, 0, none⟩ (.int .i64 (rd_TDoc ks i).f0)).setCell ⟨gx, 1, none⟩ (.int .i64 (rd_TDoc ks i).f1)).setCell ⟨gx, 2, none⟩ (.string (rd_TDoc ks i).f2)).setCell ⟨gx, 3, none⟩ (.slice A3 (rd_TDoc ks i).f3.length c3))) ?hg ?ho ?hn ?hr ?_; (case ho => rfl); (case hg => rfl); (case hn => rfl); (case hr => first | (go_simp; done) | (go_simp; rfl)); intro w9 hw; have n0_ := Aside0.mk (by rw [hw]; exact below_set (below_set (below_set (below_set HB.out GX.out) GX.out) GX.out) GX.out : Below w0.heap.size w0 w9); have n1_ : Aside0 (w9.heap[g]? = some (.cells #[.int .i64 lf] 3 (0, 0))) := Aside0.mk (by rw [hw]; exact blk_far (blk_far (blk_far (blk_far BK.out NX.out _) NX.out _) NX.out _) NX.out _); have n2_ : Aside0 (w9.heap[gx]? = some (.cells #[.int .i64 (rd_TDoc ks i).f0, .int .i64 (rd_TDoc ks i).f1, .string (rd_TDoc ks i).f2, .slice A3 (rd_TDoc ks i).f3.length c3] 29 (0, 0))) := Aside0.mk (by rw [hw]; exact (blk_set (blk_set (blk_set (blk_set BX.out 0 _) 1 _) 2 _) 3 _).trans rfl); clear HB BK BX hy0 hy1 hy2 hy3 hf0 hf1 hf2 hf3 hw; have HB := n0_; have BK := n1_; have BX := n2_; clear n0_ n1_ n2_; have hy0 : w9.cell? ⟨gx, 0, none⟩ = some (.int .i64 (rd_TDoc ks i).f0) := (blk_cell BX.out 0).trans rfl; have hy1 : w9.cell? ⟨gx, 1, none⟩ = some (.int .i64 (rd_TDoc ks i).f1) := (blk_cell BX.out 1).trans rfl; have hy2 : w9.cell? ⟨gx, 2, none⟩ = some (.string (rd_TDoc ks i).f2) := (blk_cell BX.out 2).trans rfl; have hy3 : w9.cell? ⟨gx, 3, none⟩ = some (.slice A3 (rd_TDoc ks i).f3.length c3) := (blk_cell BX.out 3).trans rfl) | ((with_reducible refine gate_callee (f := 94) rfl ?_); refine goesL_ (some 92) rfl rfl Try.func94 (by kernel_rfl) rfl #[.agg #[.int .i64 (rd_TDoc ks i).f0, .int .i64 (rd_TDoc ks i).f1, .string (rd_TDoc ks i).f2, .slice A3 (rd_TDoc ks i).f3.length c3], .int .i64 (wrap64 (deep - 1)), .pointer (some ⟨g, 0, none⟩)] rfl (by (try simp only [List.map_toArray, List.map_cons, List.map_nil]); first | done | rfl) ?_; (with_reducible refine (ih k1 (by have := HK1.out; omega) (rd_TDoc ks i).f0 (rd_TDoc ks i).f1 (rd_TDoc ks i).f2 A3 c3 (rd_TDoc ks i).f3 (wrap64 (deep - 1)) lf _ b2 w0 _ g HR3.out HC3.out ?side1 HG.out ?side2 A7.out).mono ?_); (case side1 => exact (by repeat (first | (with_reducible first | exact HB.out | apply below_alloc | apply pw_below_drewN | apply below_drew1) | exact HB.out))); (case side2 => (with_reducible repeat (first | refine blk_drewN ?_ _ | refine blk_drew ?_ | refine blk_alloc ?_ _)); exact BK.out); rintro e w10 ⟨rfl, hb10, hk10⟩; refine ⟨_, rfl, ?_⟩; clear HB BK BX hy0 hy1 hy2 hy3; have HB := Aside0.mk hb10; have BK := Aside0.mk hk10; clear hb10 hk10))
            · obtain ⟨rfl, rfl⟩ : r1 = false ∧ r2 = b2 := by have h_ := (HS.out false rfl).out; simpa [eq_comm] using h_
              go_ret
              exact ⟨rfl, by repeat (first | (with_reducible first | exact HB.out | apply below_alloc | apply pw_below_drewN | apply below_drew1) | exact HB.out), by (with_reducible repeat (first | refine blk_drewN ?_ _ | refine blk_drew ?_ | refine blk_alloc ?_ _)); exact BK.out⟩
            · go_roundg k1
              case measure => have := HK1.out; omega
              case rel => exact ⟨(wrap64 (i + 1)), b2, (by first | rfl | (simp; done) | (simp [*]; done)), ⟨(HS.out true rfl).out⟩, ⟨by have := HK1.out; omega⟩, ⟨by (with_reducible repeat (first | refine blk_drewN ?_ _ | refine blk_drew ?_ | refine blk_alloc ?_ _)); exact BK.out⟩, ⟨by repeat (first | (with_reducible first | exact HB.out | apply below_alloc | apply pw_below_drewN | apply below_drew1) | exact HB.out)⟩⟩
          · rw [if_neg c5] at H
            exact absurd H (by simp)
        · rw [if_neg c4] at H
          have c4b0 : decide (i < (ks.length : Int)) = false := decide_eq_false c4
          clear c4
          simp only [Option.some.injEq, Prod.mk.injEq] at H
          obtain ⟨rfl, rfl⟩ := H
          go_wp2
          go_ret
          exact ⟨rfl, by repeat (first | (with_reducible first | exact HB.out | apply below_alloc | apply pw_below_drewN | apply below_drew1) | exact HB.out), by (with_reducible repeat (first | refine blk_drewN ?_ _ | refine blk_drew ?_ | refine blk_alloc ?_ _)); exact BK.out⟩
theorem impl_docOk.calls (k : Nat) : ∀ (o n : Int) (t : ByteArray) (A : Option Addr) (c : Nat) (ks : List (SDoc)) (deep left : Int) (r1 : Bool) (r2 : Int) (w0 w : World) (g : Nat), Kd.C k29 w0 A ks.length ks → ks.length ≤ c → Below w0.heap.size w0 w → w0.heap.size ≤ g → w.heap[g]? = some (.cells #[.int .i64 left] 3 (0, 0)) → impl_docOk.f k o n t ks deep left = some (r1, r2) →
      Calls Try.prog 94 #[.agg #[.int .i64 o, .int .i64 n, .string t, .slice A ks.length c], .int .i64 deep, .pointer (some ⟨g, 0, none⟩)] w fun e w' => e = .returned (.bool r1) ∧ Below w0.heap.size w0 w' ∧ w'.heap[g]? = some (.cells #[.int .i64 r2] 3 (0, 0)) := by
  induction k using Nat.strongRecOn with
  | _ k ih =>
  intro o n t A c ks deep left r1 r2 w0 w g hr hc hB hg hb h
  cases k with
  | zero => exact absurd h (by simp [impl_docOk.f])
  | succ k =>
  simp only [impl_docOk.f] at h
  have be : ∀ x y : Int, x = y → (x == y) = true ∧ (x != y) = false := fun x y e => by simp [e]
  have bn : ∀ x y : Int, ¬ x = y → (x == y) = false ∧ (x != y) = true := fun x y e => by simp [e]
  by_cases a1 : deep = 0 ∨ (wrap64 (left - 1)) < 0 ∨ o < 1 ∨ 8 < o
  · rw [if_pos a1] at h
    simp only [Option.some.injEq, Prod.mk.injEq] at h
    obtain ⟨rfl, rfl⟩ := h
    refine impl_docOk.failA o n t A c ks deep left w0 w g hr hc hB hg hb ?_
    by_cases e1 : deep = 0
    · exact .inl (be _ _ e1).1
    · by_cases e2 : (wrap64 (left - 1)) < 0
      · exact .inr (.inl ⟨(bn _ _ e1).1, decide_eq_true e2⟩)
      · by_cases e3 : o < 1
        · exact .inr (.inr (.inl ⟨(bn _ _ e1).1, decide_eq_false e2, decide_eq_true e3⟩))
        · have e4 : 8 < o := by rcases a1 with a | a | a | a <;> first | exact absurd a e1 | exact absurd a e2 | exact absurd a e3 | exact a
          exact .inr (.inr (.inr ⟨(bn _ _ e1).1, decide_eq_false e2, decide_eq_false e3, decide_eq_true e4⟩))
  · rw [if_neg a1] at h
    have e1 : ¬ deep = 0 := fun e => a1 (.inl e)
    have e2 : ¬ (wrap64 (left - 1)) < 0 := fun e => a1 (.inr (.inl e))
    have e3 : ¬ o < 1 := fun e => a1 (.inr (.inr (.inl e)))
    have e4 : ¬ 8 < o := fun e => a1 (.inr (.inr (.inr e)))
    have h1 := (bn _ _ e1).1
    have h2 := decide_eq_false e2
    have h3 := decide_eq_false e3
    have h4 := decide_eq_false e4
    by_cases a2 : ¬ ((ks.length : Int) = docKids o) ∨ n < 0 ∨ 9 < n ∨ (0 < n ∧ ¬ (o = 6))
    · rw [if_pos a2] at h
      simp only [Option.some.injEq, Prod.mk.injEq] at h
      obtain ⟨rfl, rfl⟩ := h
      refine impl_docOk.failB o n t A c ks deep left w0 w g hr hc hB hg hb h1 h2 h3 h4 ?_
      by_cases e5 : (ks.length : Int) = docKids o
      · by_cases e6 : n < 0
        · exact .inr (.inl ⟨(be _ _ e5).2, decide_eq_true e6⟩)
        · by_cases e7 : 9 < n
          · exact .inr (.inr (.inl ⟨(be _ _ e5).2, decide_eq_false e6, decide_eq_true e7⟩))
          · have e8 : 0 < n ∧ ¬ (o = 6) := by rcases a2 with a | a | a | a <;> first | exact absurd e5 a | exact absurd a e6 | exact absurd a e7 | exact a
            exact .inr (.inr (.inr ⟨(be _ _ e5).2, decide_eq_false e6, decide_eq_false e7, decide_eq_true e8.1, (bn _ _ e8.2).2⟩))
      · exact .inl (bn _ _ e5).2
    · rw [if_neg a2] at h
      have h5 := (be _ _ (Decidable.not_not.1 (fun e => a2 (.inl e)) : (ks.length : Int) = docKids o)).2
      have h6 := decide_eq_false (fun e => a2 (.inr (.inl e)) : ¬ n < 0)
      have h7 := decide_eq_false (fun e => a2 (.inr (.inr (.inl e))) : ¬ 9 < n)
      have e8 : 0 < n → o = 6 := fun e => Decidable.not_not.1 (fun e' => a2 (.inr (.inr (.inr ⟨e, e'⟩))))
      by_cases e9 : o = 2
      · rw [if_pos e9] at h
        obtain ⟨b, hT, h⟩ := Option.bind_eq_some_iff.mp h
        have h8 : decide (0 < n) = false := decide_eq_false (fun e => by have := e8 e; omega)
        cases b with
        | false =>
          simp only [Bool.false_eq_true, if_false, Option.some.injEq, Prod.mk.injEq] at h
          obtain ⟨rfl, rfl⟩ := h
          exact impl_docOk.failT o n t A c ks deep left w0 w g hr hc hB hg hb h1 h2 h3 h4 h5 h6 h7 h8 (be _ _ e9).1 (be _ _ e9).2 k hT
        | true =>
          simp only [if_true] at h
          exact impl_docOk.loopT o n t A c ks deep left w0 w g hr hc hB hg hb h1 h2 h3 h4 h5 h6 h7 h8 (be _ _ e9).1 (be _ _ e9).2 k hT k ih r1 r2 h
      · rw [if_neg e9] at h
        have h10 := bn _ _ e9
        by_cases e10 : t.toList = []
        · rw [if_pos e10] at h
          refine impl_docOk.loopE o n t A c ks deep left w0 w g hr hc hB hg hb h1 h2 h3 h4 h5 h6 h7 ?_ k ih r1 r2 h
          have hte : (t.toList == ([] : List UInt8)) = true ∧ (t.toList != ([] : List UInt8)) = false ∧ t.toList.isEmpty = true := by simp [e10]
          by_cases e11 : 0 < n
          · exact .inr ⟨decide_eq_true e11, (be _ _ (e8 e11)).2, h10, hte⟩
          · exact .inl ⟨decide_eq_false e11, h10, hte⟩
        · rw [if_neg e10] at h
          simp only [Option.some.injEq, Prod.mk.injEq] at h
          obtain ⟨rfl, rfl⟩ := h
          refine impl_docOk.failC o n t A c ks deep left w0 w g hr hc hB hg hb h1 h2 h3 h4 h5 h6 h7 ?_
          have hte : (t.toList == ([] : List UInt8)) = false ∧ (t.toList != ([] : List UInt8)) = true ∧ t.toList.isEmpty = false := by simp [e10]
          by_cases e11 : 0 < n
          · exact .inr ⟨decide_eq_true e11, (be _ _ (e8 e11)).2, h10, hte⟩
          · exact .inl ⟨decide_eq_false e11, h10, hte⟩
def impl_DocValid.f (k : Nat) (a0_0 : Int) (a0_1 : Int) (a0_2 : ByteArray) (l0_3 : List (SDoc)) : Option (Bool) := (impl_docOk.f k a0_0 a0_1 a0_2 l0_3 40 80).bind fun b => (some b.1)
theorem impl_DocValid.mono : ∀ a0 a1 a2 a3 k, LeO (impl_DocValid.f k a0 a1 a2 a3) (impl_DocValid.f (k + 1) a0 a1 a2 a3) := fun a0 a1 a2 a3 k => LeO.bind (impl_docOk.mono a0 a1 a2 a3 40 80 k) (fun _ => LeO.refl _)
set_option maxHeartbeats 8000000 in
set_option maxRecDepth 100000 in
theorem impl_DocValid.calls (k : Nat) (a0_0 : Int) (a0_1 : Int) (a0_2 : ByteArray) (A0_3 : Option Addr) (c0_3 : Nat) (l0_3 : List (SDoc)) (r : Bool) (w : World) (hr0_3 : Kd.C k29 w A0_3 l0_3.length l0_3) (hc0_3 : l0_3.length ≤ c0_3) (h : impl_DocValid.f k a0_0 a0_1 a0_2 l0_3 = some r) :
    Calls Try.prog 56 #[.agg #[.int .i64 a0_0, .int .i64 a0_1, .string a0_2, .slice A0_3 l0_3.length c0_3]] w fun e w' => e = .returned (.bool r) ∧ Below w.heap.size w w' := by
  unfold impl_DocValid.f at h
  obtain ⟨⟨b1, b2⟩, hq, hr⟩ := Option.bind_eq_some_iff.mp h
  clear h
  obtain rfl : b1 = r := by simpa using hr
  clear hr
  have hu29 := Try.underlying29
  have hu3 := Try.underlying3
  have HR := Aside0.mk hr0_3
  have HC := Aside0.mk hc0_3
  have HF := Aside0.mk hq
  clear hr0_3 hc0_3 hq
  go_enter Try.func56, Try.ntmps56
  go_wp2_with (first | ((with_reducible refine gate_dst (N := 1) rfl ?_); refine box_event ?hg (N := 1) ?hd (cs := #[.int .i64 a0_0, .int .i64 a0_1, .string a0_2, .slice A0_3 l0_3.length c0_3]) (t := 29) ?hr ?_; (case hd => rfl); (case hg => rfl); (case hr => first | (go_simp; done) | (go_simp; rfl)); intro gb hgb w2 hbox hb2; have HB := Aside0.mk (below_step (Below.refl _ _) hb2); have BD := Aside0.mk hbox; clear hb2 hbox hgb; have hd0 : w2.cell? ⟨gb, 0, none⟩ = some (.int .i64 a0_0) := (blk_cell BD.out 0).trans rfl; have hd1 : w2.cell? ⟨gb, 1, none⟩ = some (.int .i64 a0_1) := (blk_cell BD.out 1).trans rfl; have hd2 : w2.cell? ⟨gb, 2, none⟩ = some (.string a0_2) := (blk_cell BD.out 2).trans rfl; have hd3 : w2.cell? ⟨gb, 3, none⟩ = some (.slice A0_3 l0_3.length c0_3) := (blk_cell BD.out 3).trans rfl) | ((with_reducible refine gate_dst (N := 3) rfl ?_); refine box_event ?hg (N := 3) ?hd (cs := #[.int .i64 0]) (t := 3) ?hr ?_; (case hd => rfl); (case hg => rfl); (case hr => first | (go_simp; done) | (go_simp; rfl)); intro g hg w3 hbox hb2; have n0_ := Aside0.mk (below_step HB.out hb2); have n1_ := Aside0.mk (blk_below BD.out hb2); have BK := Aside0.mk hbox; have NE := Aside0.mk (by rw [hg]; exact Nat.ne_of_lt (blk_lt BD.out) : gb ≠ g); have GE := Aside0.mk (by rw [hg]; exact HB.out.size : w.heap.size ≤ g); clear HB BD hd0 hd1 hd2 hd3; have HB := n0_; have BD := n1_; clear n0_ n1_ hb2 hbox hg; have hcg : w3.cell? ⟨g, 0, none⟩ = some (.int .i64 0) := (blk_cell BK.out 0).trans rfl; have hfg := blk_frozen BK.out 0) | ((with_reducible refine gate_store (t := 3) (p := 3) rfl ?_); refine store_event (t := 3) (p := 3) (v := ?vo_w13) (w1 := w3.setCell ⟨g, 0, none⟩ (.int .i64 80)) ?hg ?ho ?hn ?hr ?_; (case ho => rfl); (case hg => rfl); (case hn => rfl); (case hr => first | (go_simp; done) | (go_simp; rfl)); intro w4 hw; have n0_ := Aside0.mk (by rw [hw]; exact below_set HB.out GE.out : Below w.heap.size w w4); have n1_ : Aside0 (w4.heap[g]? = some (.cells #[.int .i64 80] 3 (0, 0))) := Aside0.mk (by rw [hw]; exact blk_set BK.out 0 _); have n2_ : Aside0 (w4.heap[gb]? = some (.cells #[.int .i64 a0_0, .int .i64 a0_1, .string a0_2, .slice A0_3 l0_3.length c0_3] 29 (0, 0))) := Aside0.mk (by rw [hw]; exact blk_far BD.out NE.out _); clear HB BK BD hcg hfg hw; have HB := n0_; have BK := n1_; have BD := n2_; clear n0_ n1_ n2_; have hd0 : w4.cell? ⟨gb, 0, none⟩ = some (.int .i64 a0_0) := (blk_cell BD.out 0).trans rfl; have hd1 : w4.cell? ⟨gb, 1, none⟩ = some (.int .i64 a0_1) := (blk_cell BD.out 1).trans rfl; have hd2 : w4.cell? ⟨gb, 2, none⟩ = some (.string a0_2) := (blk_cell BD.out 2).trans rfl; have hd3 : w4.cell? ⟨gb, 3, none⟩ = some (.slice A0_3 l0_3.length c0_3) := (blk_cell BD.out 3).trans rfl) | ((with_reducible refine gate_callee (f := 94) rfl ?_); refine goesL_ (some 5) rfl rfl Try.func94 (by kernel_rfl) rfl #[.agg #[.int .i64 a0_0, .int .i64 a0_1, .string a0_2, .slice A0_3 l0_3.length c0_3], .int .i64 40, .pointer (some ⟨g, 0, none⟩)] rfl (by (try simp only [List.map_toArray, List.map_cons, List.map_nil]); first | done | rfl) ?_; (with_reducible refine (impl_docOk.calls k a0_0 a0_1 a0_2 A0_3 c0_3 l0_3 40 80 _ b2 w _ g HR.out HC.out ?side1 GE.out ?side2 HF.out).mono ?_); (case side1 => exact (by repeat (first | (with_reducible first | exact HB.out | apply below_alloc | apply pw_below_drewN | apply below_drew1) | exact HB.out))); (case side2 => (with_reducible repeat (first | refine blk_drewN ?_ _ | refine blk_drew ?_ | refine blk_alloc ?_ _)); exact BK.out); rintro e w10 ⟨rfl, hb10, hk10⟩; refine ⟨_, rfl, ?_⟩; clear HB BK BD hd0 hd1 hd2 hd3; have HB := Aside0.mk hb10; clear hb10 hk10))
  go_ret
  exact ⟨rfl, by repeat (first | (with_reducible first | exact HB.out | apply below_alloc | apply pw_below_drewN | apply below_drew1) | exact HB.out)⟩

end Go.Proofs.Ytmccfpniolikhaa.P
