/- CONTRACTS and lemmas: each contract says that a Go function of the program, called over the translation under the theorem's own hypotheses, returns what the Lean function beside it computes. -/
import Derived.Test.YtdhdfmmefghijaaVFnParseSize6
namespace Go.Proofs.Ytdhdfmmefghijaa.P
open Go.RowKit Go.Proofs.YtdhdfmmefghijaaW.PrintWords Go.Proofs.YtdhdfmmefghijaaW.PrintLast Go.Proofs.YtdhdfmmefghijaaW.PrintMore
attribute [local go_sem] max2_int min2_int max_two min_two max_three min_three max_four min_four
set_option linter.unusedVariables false
set_option linter.unusedSimpArgs false
def spec_l1Text.f:Nat→Int→Int→ByteArray→List (SDoc)→Option (ByteArray)
 | 0,_,_,_,_=>none
 | k+1,a0_0,a0_1,a0_2,l0_3=>if a0_0=1 then (some (⟨#[126]⟩:ByteArray)) else (if a0_0=2 then (if 1+a0_2.size≤9223372036854775807 then (if ((⟨#[34]⟩:ByteArray)++a0_2).size+1≤9223372036854775807 then (some (((⟨#[34]⟩:ByteArray)++a0_2)++(⟨#[34]⟩:ByteArray))) else (none)) else (none)) else (if a0_0=3 then (some (⟨#[95]⟩:ByteArray)) else (if a0_0=4 then (some (⟨#[46]⟩:ByteArray)) else (if a0_0=5 then (some (⟨#[33]⟩:ByteArray)) else (if a0_0=6 then ((spec_l15Dec.f k a0_1).bind fun t846=>(if t846.size+1≤9223372036854775807 then (if 0 < (l0_3.length:Int) then ((spec_l1Text.f k ((rd_TDoc l0_3 0).f0) ((rd_TDoc l0_3 0).f1) ((rd_TDoc l0_3 0).f2) ((rd_TDoc l0_3 0).f3)).bind fun t848=>(if (t846++(⟨#[60]⟩:ByteArray)).size+t848.size≤9223372036854775807 then (if ((t846++(⟨#[60]⟩:ByteArray))++t848).size+1≤9223372036854775807 then (some (((t846++(⟨#[60]⟩:ByteArray))++t848)++(⟨#[62]⟩:ByteArray))) else (none)) else (none))) else (none)) else (none))) else (if a0_0=7 then (if 0 < (l0_3.length:Int) then ((spec_l1Text.f k ((rd_TDoc l0_3 0).f0) ((rd_TDoc l0_3 0).f1) ((rd_TDoc l0_3 0).f2) ((rd_TDoc l0_3 0).f3)).bind fun t850=>(if 1+t850.size≤9223372036854775807 then (if 1 < (l0_3.length:Int) then ((spec_l1Text.f k ((rd_TDoc l0_3 1).f0) ((rd_TDoc l0_3 1).f1) ((rd_TDoc l0_3 1).f2) ((rd_TDoc l0_3 1).f3)).bind fun t852=>(if ((⟨#[40]⟩:ByteArray)++t850).size+t852.size≤9223372036854775807 then (if (((⟨#[40]⟩:ByteArray)++t850)++t852).size+1≤9223372036854775807 then (some ((((⟨#[40]⟩:ByteArray)++t850)++t852)++(⟨#[41]⟩:ByteArray))) else (none)) else (none))) else (none)) else (none))) else (none)) else (if 0 < (l0_3.length:Int) then ((spec_l1Text.f k ((rd_TDoc l0_3 0).f0) ((rd_TDoc l0_3 0).f1) ((rd_TDoc l0_3 0).f2) ((rd_TDoc l0_3 0).f3)).bind fun t854=>(if 1+t854.size≤9223372036854775807 then (if ((⟨#[91]⟩:ByteArray)++t854).size+1≤9223372036854775807 then (some (((⟨#[91]⟩:ByteArray)++t854)++(⟨#[93]⟩:ByteArray))) else (none)) else (none))) else (none))))))))
def spec_l1Text.T13:Bool × List (List Nat × List Nat):=(true,[([],[]),([0],[0]),([1],[1]),([2],[2]),([],[]),([4],[4]),([5],[5]),([6],[6]),([7,2],[7]),([3,8],[3,8]),([9],[9]),([10,8,0,1,2,3,4,5,6,7,8,9,10],[10])])
def spec_l1Text.B13:List Nat:=[0,1,3,7,0,16,48,112,247,511,1023,2047]
theorem spec_l1Text.tab13:rtab .any (opsOf Try.f63 13)=spec_l1Text.T13:=by kernel_rfl
theorem spec_l1Text.bits13:waitsOk spec_l1Text.T13.2 spec_l1Text.B13=true:=by kernel_rfl
def spec_l1Text.T15:Bool × List (List Nat × List Nat):=(true,[([],[]),([0],[0]),([1],[1]),([2],[2]),([3],[3]),([4],[4]),([],[]),([6],[6]),([7],[7]),([8],[8]),([9,4],[9]),([5,10],[5,10]),([11],[11]),([12,10,0,1,2,3,4,5,6,7,8,9,10,11,12],[12])])
def spec_l1Text.B15:List Nat:=[0,1,3,7,15,31,0,64,192,448,991,2047,4095,8191]
theorem spec_l1Text.tab15:rtab .any (opsOf Try.f63 15)=spec_l1Text.T15:=by kernel_rfl
theorem spec_l1Text.bits15:waitsOk spec_l1Text.T15.2 spec_l1Text.B15=true:=by kernel_rfl
set_option maxHeartbeats 8000000 in
set_option maxRecDepth 100000 in
theorem spec_l1Text.calls (k:Nat):∀ (a0_0:Int) (a0_1:Int) (a0_2:ByteArray) (A0_3:Option Addr) (c0_3:Nat) (l0_3:List (SDoc)) (r:ByteArray) (w:World) (hr0_3:Kd.C k27 w A0_3 l0_3.length l0_3) (hc0_3:l0_3.length≤c0_3) (h:spec_l1Text.f k a0_0 a0_1 a0_2 l0_3=some r),
  Calls Try.prog 63 #[.agg #[.int .i64 a0_0,.int .i64 a0_1,.string a0_2,.slice A0_3 l0_3.length c0_3]] w fun e w'=>e=.returned (.string r)∧Below w.heap.size w w':=by
 induction k using Nat.strongRecOn with
 | _ k ih =>
 intro a0_0 a0_1 a0_2 A0_3 c0_3 l0_3 r w hr0_3 hc0_3 h
 cases k with
 | zero=>exact absurd h (by simp [spec_l1Text.f])
 | succ k =>
 simp only [spec_l1Text.f] at h
 have hu27:=Try.underlying27
 have HR0_3:=Aside0.mk hr0_3
 have HC0_3:=Aside0.mk hc0_3
 clear hr0_3 hc0_3
 have HB:=Aside0.mk (Below.refl w.heap.size w)
 have H:(if a0_0=1 then (some (⟨#[126]⟩:ByteArray)) else (if a0_0=2 then (if 1+a0_2.size≤9223372036854775807 then (if ((⟨#[34]⟩:ByteArray)++a0_2).size+1≤9223372036854775807 then (some (((⟨#[34]⟩:ByteArray)++a0_2)++(⟨#[34]⟩:ByteArray))) else (none)) else (none)) else (if a0_0=3 then (some (⟨#[95]⟩:ByteArray)) else (if a0_0=4 then (some (⟨#[46]⟩:ByteArray)) else (if a0_0=5 then (some (⟨#[33]⟩:ByteArray)) else (if a0_0=6 then ((spec_l15Dec.f k a0_1).bind fun t846=>(if t846.size+1≤9223372036854775807 then (if 0 < (l0_3.length:Int) then ((spec_l1Text.f k ((rd_TDoc l0_3 0).f0) ((rd_TDoc l0_3 0).f1) ((rd_TDoc l0_3 0).f2) ((rd_TDoc l0_3 0).f3)).bind fun t848=>(if (t846++(⟨#[60]⟩:ByteArray)).size+t848.size≤9223372036854775807 then (if ((t846++(⟨#[60]⟩:ByteArray))++t848).size+1≤9223372036854775807 then (some (((t846++(⟨#[60]⟩:ByteArray))++t848)++(⟨#[62]⟩:ByteArray))) else (none)) else (none))) else (none)) else (none))) else (if a0_0=7 then (if 0 < (l0_3.length:Int) then ((spec_l1Text.f k ((rd_TDoc l0_3 0).f0) ((rd_TDoc l0_3 0).f1) ((rd_TDoc l0_3 0).f2) ((rd_TDoc l0_3 0).f3)).bind fun t850=>(if 1+t850.size≤9223372036854775807 then (if 1 < (l0_3.length:Int) then ((spec_l1Text.f k ((rd_TDoc l0_3 1).f0) ((rd_TDoc l0_3 1).f1) ((rd_TDoc l0_3 1).f2) ((rd_TDoc l0_3 1).f3)).bind fun t852=>(if ((⟨#[40]⟩:ByteArray)++t850).size+t852.size≤9223372036854775807 then (if (((⟨#[40]⟩:ByteArray)++t850)++t852).size+1≤9223372036854775807 then (some ((((⟨#[40]⟩:ByteArray)++t850)++t852)++(⟨#[41]⟩:ByteArray))) else (none)) else (none))) else (none)) else (none))) else (none)) else (if 0 < (l0_3.length:Int) then ((spec_l1Text.f k ((rd_TDoc l0_3 0).f0) ((rd_TDoc l0_3 0).f1) ((rd_TDoc l0_3 0).f2) ((rd_TDoc l0_3 0).f3)).bind fun t854=>(if 1+t854.size≤9223372036854775807 then (if ((⟨#[91]⟩:ByteArray)++t854).size+1≤9223372036854775807 then (some (((⟨#[91]⟩:ByteArray)++t854)++(⟨#[93]⟩:ByteArray))) else (none)) else (none))) else (none)))))))))=some r:=h
 clear h
 by_cases c2:a0_0=1
 ·rw [if_pos c2] at H
  have c2b0:(a0_0 == 1)=true:=beq_iff_eq.mpr c2
  have c2b1:(a0_0 != 1)=false:=bne_eq_false_iff_eq.mpr c2
  clear c2
  obtain rfl:=Option.some.inj H
  go_enter Try.func63,Try.ntmps63
  go_wp2_with (first|((with_reducible refine gate_dst (N:=1) rfl ?_);refine box_event ?hg (N:=1) ?hd (cs:=#[.int .i64 a0_0,.int .i64 a0_1,.string a0_2,.slice A0_3 l0_3.length c0_3]) (t:=27) ?hr ?_;(case hd=>rfl);(case hg=>rfl);(case hr=>first|(go_simp;done)|(go_simp;rfl));intro gb845 hg w3 hbox hb;have n0_:=Aside0.mk (below_step (gB HB) hb);have n1_:=Aside0.mk (hbox);have n2_:=Aside0.mk ((by rw [hg];exact (below_size (gB HB)):w.heap.size≤gb845));have n3_:=Aside0.mk ((by rw [hg];exact (below_size (gB HB)):w.heap.size≤gb845));clear HB;have HB:=n0_;have BK845:=n1_;have GW845:=n2_;have GE845:=n3_;clear n0_ n1_ n2_ n3_;clear hb hbox hg;have hcz4_0:w3.cell? ⟨gb845,0,none⟩=some (.int .i64 a0_0):=(blk_cell BK845.out 0).trans rfl;have hcz4_1:w3.cell? ⟨gb845,1,none⟩=some (.int .i64 a0_1):=(blk_cell BK845.out 1).trans rfl;have hcz4_2:w3.cell? ⟨gb845,2,none⟩=some (.string a0_2):=(blk_cell BK845.out 2).trans rfl;have hcz4_3:w3.cell? ⟨gb845,3,none⟩=some (.slice A0_3 l0_3.length c0_3):=(blk_cell BK845.out 3).trans rfl;have hfz4_0:=blk_frozen BK845.out 0;have hfz4_1:=blk_frozen BK845.out 1;have hfz4_2:=blk_frozen BK845.out 2;have hfz4_3:=blk_frozen BK845.out 3))
  go_ret
  exact ⟨by first|rfl|(simp [errW_none,errW_some] <;> rfl)|(simp [*,errW_none,errW_some] <;> rfl),by repeat (first|exact gB HB|refine below_set ?_ GE845.out)⟩
 ·rw [if_neg c2] at H
  have c2b0:(a0_0 == 1)=false:=beq_eq_false_iff_ne.mpr c2
  have c2b1:(a0_0 != 1)=true:=bne_iff_ne.mpr c2
  by_cases c5:a0_0=2
  ·rw [if_pos c5] at H
   have c5b0:(a0_0 == 2)=true:=beq_iff_eq.mpr c5
   have c5b1:(a0_0 != 2)=false:=bne_eq_false_iff_eq.mpr c5
   clear c5
   by_cases c6:1+a0_2.size≤9223372036854775807
   ·rw [if_pos c6] at H
    have c6b0:=eq_true c6
    have c6b1:decide (1+a0_2.size≤9223372036854775807)=true:=decide_eq_true c6
    try have c6b2:(9223372036854775807 < 1+a0_2.size)=False:=eq_false (Nat.not_lt.2 c6)
    by_cases c7:((⟨#[34]⟩:ByteArray)++a0_2).size+1≤9223372036854775807
    ·rw [if_pos c7] at H
     have c7b0:=eq_true c7
     have c7b1:decide (((⟨#[34]⟩:ByteArray)++a0_2).size+1≤9223372036854775807)=true:=decide_eq_true c7
     try (have c7b4:=c7;(conv at c7b4=>(lhs;simp));have c7b5:=eq_false (Nat.not_lt.2 c7b4))
     try (have c7b6:=c7;(conv at c7b6=>(lhs;simp [go_sem]));have c7b7:=eq_false (Nat.not_lt.2 c7b6))
     try have c7b2:(9223372036854775807 < ((⟨#[34]⟩:ByteArray)++a0_2).size+1)=False:=eq_false (Nat.not_lt.2 c7)
     obtain rfl:=Option.some.inj H
     go_enter Try.func63,Try.ntmps63
     go_wp2_with (first|((with_reducible refine gate_dst (N:=1) rfl ?_);refine box_event ?hg (N:=1) ?hd (cs:=#[.int .i64 a0_0,.int .i64 a0_1,.string a0_2,.slice A0_3 l0_3.length c0_3]) (t:=27) ?hr ?_;(case hd=>rfl);(case hg=>rfl);(case hr=>first|(go_simp;done)|(go_simp;rfl));intro gb845 hg w8 hbox hb;have n0_:=Aside0.mk (below_step (gB HB) hb);have n1_:=Aside0.mk (hbox);have n2_:=Aside0.mk ((by rw [hg];exact (below_size (gB HB)):w.heap.size≤gb845));have n3_:=Aside0.mk ((by rw [hg];exact (below_size (gB HB)):w.heap.size≤gb845));clear HB;have HB:=n0_;have BK845:=n1_;have GW845:=n2_;have GE845:=n3_;clear n0_ n1_ n2_ n3_;clear hb hbox hg;have hcz9_0:w8.cell? ⟨gb845,0,none⟩=some (.int .i64 a0_0):=(blk_cell BK845.out 0).trans rfl;have hcz9_1:w8.cell? ⟨gb845,1,none⟩=some (.int .i64 a0_1):=(blk_cell BK845.out 1).trans rfl;have hcz9_2:w8.cell? ⟨gb845,2,none⟩=some (.string a0_2):=(blk_cell BK845.out 2).trans rfl;have hcz9_3:w8.cell? ⟨gb845,3,none⟩=some (.slice A0_3 l0_3.length c0_3):=(blk_cell BK845.out 3).trans rfl;have hfz9_0:=blk_frozen BK845.out 0;have hfz9_1:=blk_frozen BK845.out 1;have hfz9_2:=blk_frozen BK845.out 2;have hfz9_3:=blk_frozen BK845.out 3))
     go_ret
     exact ⟨by first|rfl|(simp [errW_none,errW_some] <;> rfl)|(simp [*,errW_none,errW_some] <;> rfl),by repeat (first|exact gB HB|refine below_set ?_ GE845.out)⟩
    ·rw [if_neg c7] at H
     exact absurd H (by simp)
   ·rw [if_neg c6] at H
    exact absurd H (by simp)
  ·rw [if_neg c5] at H
   have c5b0:(a0_0 == 2)=false:=beq_eq_false_iff_ne.mpr c5
   have c5b1:(a0_0 != 2)=true:=bne_iff_ne.mpr c5
   by_cases c10:a0_0=3
   ·rw [if_pos c10] at H
    have c10b0:(a0_0 == 3)=true:=beq_iff_eq.mpr c10
    have c10b1:(a0_0 != 3)=false:=bne_eq_false_iff_eq.mpr c10
    clear c10
    obtain rfl:=Option.some.inj H
    go_enter Try.func63,Try.ntmps63
    go_wp2_with (first|((with_reducible refine gate_dst (N:=1) rfl ?_);refine box_event ?hg (N:=1) ?hd (cs:=#[.int .i64 a0_0,.int .i64 a0_1,.string a0_2,.slice A0_3 l0_3.length c0_3]) (t:=27) ?hr ?_;(case hd=>rfl);(case hg=>rfl);(case hr=>first|(go_simp;done)|(go_simp;rfl));intro gb845 hg w11 hbox hb;have n0_:=Aside0.mk (below_step (gB HB) hb);have n1_:=Aside0.mk (hbox);have n2_:=Aside0.mk ((by rw [hg];exact (below_size (gB HB)):w.heap.size≤gb845));have n3_:=Aside0.mk ((by rw [hg];exact (below_size (gB HB)):w.heap.size≤gb845));clear HB;have HB:=n0_;have BK845:=n1_;have GW845:=n2_;have GE845:=n3_;clear n0_ n1_ n2_ n3_;clear hb hbox hg;have hcz12_0:w11.cell? ⟨gb845,0,none⟩=some (.int .i64 a0_0):=(blk_cell BK845.out 0).trans rfl;have hcz12_1:w11.cell? ⟨gb845,1,none⟩=some (.int .i64 a0_1):=(blk_cell BK845.out 1).trans rfl;have hcz12_2:w11.cell? ⟨gb845,2,none⟩=some (.string a0_2):=(blk_cell BK845.out 2).trans rfl;have hcz12_3:w11.cell? ⟨gb845,3,none⟩=some (.slice A0_3 l0_3.length c0_3):=(blk_cell BK845.out 3).trans rfl;have hfz12_0:=blk_frozen BK845.out 0;have hfz12_1:=blk_frozen BK845.out 1;have hfz12_2:=blk_frozen BK845.out 2;have hfz12_3:=blk_frozen BK845.out 3))
    go_ret
    exact ⟨by first|rfl|(simp [errW_none,errW_some] <;> rfl)|(simp [*,errW_none,errW_some] <;> rfl),by repeat (first|exact gB HB|refine below_set ?_ GE845.out)⟩
   ·rw [if_neg c10] at H
    have c10b0:(a0_0 == 3)=false:=beq_eq_false_iff_ne.mpr c10
    have c10b1:(a0_0 != 3)=true:=bne_iff_ne.mpr c10
    by_cases c13:a0_0=4
    ·rw [if_pos c13] at H
     have c13b0:(a0_0 == 4)=true:=beq_iff_eq.mpr c13
     have c13b1:(a0_0 != 4)=false:=bne_eq_false_iff_eq.mpr c13
     clear c13
     obtain rfl:=Option.some.inj H
     go_enter Try.func63,Try.ntmps63
     go_wp2_with (first|((with_reducible refine gate_dst (N:=1) rfl ?_);refine box_event ?hg (N:=1) ?hd (cs:=#[.int .i64 a0_0,.int .i64 a0_1,.string a0_2,.slice A0_3 l0_3.length c0_3]) (t:=27) ?hr ?_;(case hd=>rfl);(case hg=>rfl);(case hr=>first|(go_simp;done)|(go_simp;rfl));intro gb845 hg w14 hbox hb;have n0_:=Aside0.mk (below_step (gB HB) hb);have n1_:=Aside0.mk (hbox);have n2_:=Aside0.mk ((by rw [hg];exact (below_size (gB HB)):w.heap.size≤gb845));have n3_:=Aside0.mk ((by rw [hg];exact (below_size (gB HB)):w.heap.size≤gb845));clear HB;have HB:=n0_;have BK845:=n1_;have GW845:=n2_;have GE845:=n3_;clear n0_ n1_ n2_ n3_;clear hb hbox hg;have hcz15_0:w14.cell? ⟨gb845,0,none⟩=some (.int .i64 a0_0):=(blk_cell BK845.out 0).trans rfl;have hcz15_1:w14.cell? ⟨gb845,1,none⟩=some (.int .i64 a0_1):=(blk_cell BK845.out 1).trans rfl;have hcz15_2:w14.cell? ⟨gb845,2,none⟩=some (.string a0_2):=(blk_cell BK845.out 2).trans rfl;have hcz15_3:w14.cell? ⟨gb845,3,none⟩=some (.slice A0_3 l0_3.length c0_3):=(blk_cell BK845.out 3).trans rfl;have hfz15_0:=blk_frozen BK845.out 0;have hfz15_1:=blk_frozen BK845.out 1;have hfz15_2:=blk_frozen BK845.out 2;have hfz15_3:=blk_frozen BK845.out 3))
     go_ret
     exact ⟨by first|rfl|(simp [errW_none,errW_some] <;> rfl)|(simp [*,errW_none,errW_some] <;> rfl),by repeat (first|exact gB HB|refine below_set ?_ GE845.out)⟩
    ·rw [if_neg c13] at H
     have c13b0:(a0_0 == 4)=false:=beq_eq_false_iff_ne.mpr c13
     have c13b1:(a0_0 != 4)=true:=bne_iff_ne.mpr c13
     by_cases c16:a0_0=5
     ·rw [if_pos c16] at H
      have c16b0:(a0_0 == 5)=true:=beq_iff_eq.mpr c16
      have c16b1:(a0_0 != 5)=false:=bne_eq_false_iff_eq.mpr c16
      clear c16
      obtain rfl:=Option.some.inj H
      go_enter Try.func63,Try.ntmps63
      go_wp2_with (first|((with_reducible refine gate_dst (N:=1) rfl ?_);refine box_event ?hg (N:=1) ?hd (cs:=#[.int .i64 a0_0,.int .i64 a0_1,.string a0_2,.slice A0_3 l0_3.length c0_3]) (t:=27) ?hr ?_;(case hd=>rfl);(case hg=>rfl);(case hr=>first|(go_simp;done)|(go_simp;rfl));intro gb845 hg w17 hbox hb;have n0_:=Aside0.mk (below_step (gB HB) hb);have n1_:=Aside0.mk (hbox);have n2_:=Aside0.mk ((by rw [hg];exact (below_size (gB HB)):w.heap.size≤gb845));have n3_:=Aside0.mk ((by rw [hg];exact (below_size (gB HB)):w.heap.size≤gb845));clear HB;have HB:=n0_;have BK845:=n1_;have GW845:=n2_;have GE845:=n3_;clear n0_ n1_ n2_ n3_;clear hb hbox hg;have hcz18_0:w17.cell? ⟨gb845,0,none⟩=some (.int .i64 a0_0):=(blk_cell BK845.out 0).trans rfl;have hcz18_1:w17.cell? ⟨gb845,1,none⟩=some (.int .i64 a0_1):=(blk_cell BK845.out 1).trans rfl;have hcz18_2:w17.cell? ⟨gb845,2,none⟩=some (.string a0_2):=(blk_cell BK845.out 2).trans rfl;have hcz18_3:w17.cell? ⟨gb845,3,none⟩=some (.slice A0_3 l0_3.length c0_3):=(blk_cell BK845.out 3).trans rfl;have hfz18_0:=blk_frozen BK845.out 0;have hfz18_1:=blk_frozen BK845.out 1;have hfz18_2:=blk_frozen BK845.out 2;have hfz18_3:=blk_frozen BK845.out 3))
      go_ret
      exact ⟨by first|rfl|(simp [errW_none,errW_some] <;> rfl)|(simp [*,errW_none,errW_some] <;> rfl),by repeat (first|exact gB HB|refine below_set ?_ GE845.out)⟩
     ·rw [if_neg c16] at H
      have c16b0:(a0_0 == 5)=false:=beq_eq_false_iff_ne.mpr c16
      have c16b1:(a0_0 != 5)=true:=bne_iff_ne.mpr c16
      by_cases c19:a0_0=6
      ·rw [if_pos c19] at H
       have c19b0:(a0_0 == 6)=true:=beq_iff_eq.mpr c19
       have c19b1:(a0_0 != 6)=false:=bne_eq_false_iff_eq.mpr c19
       clear c19
       replace H:=Option.bind_eq_some_iff.mp H
       obtain ⟨t846,A200,H⟩:=H
       replace H:(if t846.size+1≤9223372036854775807 then (if 0 < (l0_3.length:Int) then ((spec_l1Text.f k ((rd_TDoc l0_3 0).f0) ((rd_TDoc l0_3 0).f1) ((rd_TDoc l0_3 0).f2) ((rd_TDoc l0_3 0).f3)).bind fun t848=>(if (t846++(⟨#[60]⟩:ByteArray)).size+t848.size≤9223372036854775807 then (if ((t846++(⟨#[60]⟩:ByteArray))++t848).size+1≤9223372036854775807 then (some (((t846++(⟨#[60]⟩:ByteArray))++t848)++(⟨#[62]⟩:ByteArray))) else (none)) else (none))) else (none)) else (none))=some r:=H
       have A20:=Aside0.mk A200
       clear A200
       by_cases c21:t846.size+1≤9223372036854775807
       ·rw [if_pos c21] at H
        have c21b0:=eq_true c21
        have c21b1:decide (t846.size+1≤9223372036854775807)=true:=decide_eq_true c21
        try have c21b2:(9223372036854775807 < t846.size+1)=False:=eq_false (Nat.not_lt.2 c21)
        by_cases c22:0 < (l0_3.length:Int)
        ·rw [if_pos c22] at H
         have c22b0:decide (0 < (l0_3.length:Int))=true:=decide_eq_true c22
         have c22b1:decide (0 < l0_3.length)=true:=decide_eq_true (by omega)
         clear c22
         replace H:=Option.bind_eq_some_iff.mp H
         obtain ⟨t848,A230,H⟩:=H
         replace H:(if (t846++(⟨#[60]⟩:ByteArray)).size+t848.size≤9223372036854775807 then (if ((t846++(⟨#[60]⟩:ByteArray))++t848).size+1≤9223372036854775807 then (some (((t846++(⟨#[60]⟩:ByteArray))++t848)++(⟨#[62]⟩:ByteArray))) else (none)) else (none))=some r:=H
         have A23:=Aside0.mk A230
         clear A230
         by_cases c24:(t846++(⟨#[60]⟩:ByteArray)).size+t848.size≤9223372036854775807
         ·rw [if_pos c24] at H
          have c24b0:=eq_true c24
          have c24b1:decide ((t846++(⟨#[60]⟩:ByteArray)).size+t848.size≤9223372036854775807)=true:=decide_eq_true c24
          try (have c24b4:=c24;(conv at c24b4=>(lhs;simp));have c24b5:=eq_false (Nat.not_lt.2 c24b4))
          try (have c24b6:=c24;(conv at c24b6=>(lhs;simp [go_sem]));have c24b7:=eq_false (Nat.not_lt.2 c24b6))
          try have c24b2:(9223372036854775807 < (t846++(⟨#[60]⟩:ByteArray)).size+t848.size)=False:=eq_false (Nat.not_lt.2 c24)
          by_cases c25:((t846++(⟨#[60]⟩:ByteArray))++t848).size+1≤9223372036854775807
          ·rw [if_pos c25] at H
           have c25b0:=eq_true c25
           have c25b1:decide (((t846++(⟨#[60]⟩:ByteArray))++t848).size+1≤9223372036854775807)=true:=decide_eq_true c25
           try (have c25b4:=c25;(conv at c25b4=>(lhs;simp));have c25b5:=eq_false (Nat.not_lt.2 c25b4))
           try (have c25b6:=c25;(conv at c25b6=>(lhs;simp [go_sem]));have c25b7:=eq_false (Nat.not_lt.2 c25b6))
           try have c25b2:(9223372036854775807 < ((t846++(⟨#[60]⟩:ByteArray))++t848).size+1)=False:=eq_false (Nat.not_lt.2 c25)
           obtain rfl:=Option.some.inj H
           go_enter Try.func63,Try.ntmps63
           try go_wp2_with (first|((with_reducible refine gate_dst (N:=1) rfl ?_);refine box_event ?hg (N:=1) ?hd (cs:=#[.int .i64 a0_0,.int .i64 a0_1,.string a0_2,.slice A0_3 l0_3.length c0_3]) (t:=27) ?hr ?_;(case hd=>rfl);(case hg=>rfl);(case hr=>first|(go_simp;done)|(go_simp;rfl));intro gb845 hg w26 hbox hb;have n0_:=Aside0.mk (below_step (gB HB) hb);have n1_:=Aside0.mk (hbox);have n2_:=Aside0.mk ((by rw [hg];exact (below_size (gB HB)):w.heap.size≤gb845));have n3_:=Aside0.mk ((by rw [hg];exact (below_size (gB HB)):w.heap.size≤gb845));clear HB;have HB:=n0_;have BK845:=n1_;have GW845:=n2_;have GE845:=n3_;clear n0_ n1_ n2_ n3_;clear hb hbox hg;have hcz27_0:w26.cell? ⟨gb845,0,none⟩=some (.int .i64 a0_0):=(blk_cell BK845.out 0).trans rfl;have hcz27_1:w26.cell? ⟨gb845,1,none⟩=some (.int .i64 a0_1):=(blk_cell BK845.out 1).trans rfl;have hcz27_2:w26.cell? ⟨gb845,2,none⟩=some (.string a0_2):=(blk_cell BK845.out 2).trans rfl;have hcz27_3:w26.cell? ⟨gb845,3,none⟩=some (.slice A0_3 l0_3.length c0_3):=(blk_cell BK845.out 3).trans rfl;have hfz27_0:=blk_frozen BK845.out 0;have hfz27_1:=blk_frozen BK845.out 1;have hfz27_2:=blk_frozen BK845.out 2;have hfz27_3:=blk_frozen BK845.out 3))
           have n0_:=Aside0.mk (blk_drew BK845.out)
           have n1_:=Aside0.mk (below_drew1 HB.out)
           clear BK845
           clear HB
           have BK845:=n0_
           have HB:=n1_
           clear n0_ n1_
           have p847:0≤(0:Int):=(by omega)
           have q847:0 < (l0_3.length:Int):=of_decide_eq_true (by first|(with_reducible assumption)|assumption)
           obtain ⟨ad847,A847_3,c847_3,e847,hx847_0,hx847_1,hx847_2,hx847_3,hl847_3,hi847_3⟩:=at_TDoc HR0_3.out 0 p847 q847
           have hw847_3:=hx847_3
           (try rw [show ((0:Int)).toNat=0 from rfl] at hw847_3)
           (try rw [show 0 * 4=0 from rfl] at hw847_3)
           (try rw [Addr.add_zero'] at hw847_3)
           have hw847_2:=hx847_2
           (try rw [show ((0:Int)).toNat=0 from rfl] at hw847_2)
           (try rw [show 0 * 4=0 from rfl] at hw847_2)
           (try rw [Addr.add_zero'] at hw847_2)
           have hw847_1:=hx847_1
           (try rw [show ((0:Int)).toNat=0 from rfl] at hw847_1)
           (try rw [show 0 * 4=0 from rfl] at hw847_1)
           (try rw [Addr.add_zero'] at hw847_1)
           have hw847_0:=hx847_0
           (try rw [show ((0:Int)).toNat=0 from rfl] at hw847_0)
           (try rw [show 0 * 4=0 from rfl] at hw847_0)
           (try rw [Addr.add_zero'] at hw847_0)
           cases e847
           have qi847:(0 < l0_3.length)=True:=eq_true (by omega)
           (try rw [show ((0:Int)).toNat=0 from rfl] at hx847_0)
           (try rw [show 0 * 4=0 from rfl] at hx847_0)
           (try rw [Addr.add_zero'] at hx847_0)
           (try rw [show ((0:Int)).toNat=0 from rfl] at hx847_1)
           (try rw [show 0 * 4=0 from rfl] at hx847_1)
           (try rw [Addr.add_zero'] at hx847_1)
           (try rw [show ((0:Int)).toNat=0 from rfl] at hx847_2)
           (try rw [show 0 * 4=0 from rfl] at hx847_2)
           (try rw [Addr.add_zero'] at hx847_2)
           (try rw [show ((0:Int)).toNat=0 from rfl] at hx847_3)
           (try rw [show 0 * 4=0 from rfl] at hx847_3)
           (try rw [Addr.add_zero'] at hx847_3)
           replace hx847_0:=(HB.out.cell (World.block_lt_of_cell? w _ hx847_0)).trans hx847_0
           replace hx847_1:=(HB.out.cell (World.block_lt_of_cell? w _ hx847_1)).trans hx847_1
           replace hx847_2:=(HB.out.cell (World.block_lt_of_cell? w _ hx847_2)).trans hx847_2
           replace hx847_3:=(HB.out.cell (World.block_lt_of_cell? w _ hx847_3)).trans hx847_3
           have HR847_3:=Aside0.mk hi847_3
           have HC847_3:=Aside0.mk hl847_3
           clear hi847_3 hl847_3
           replace p847:=eq_true p847
           replace q847:=eq_true q847
           refine start_ (n:=12) (S:=fun w'=>w'.cell? ⟨gb845,0,none⟩=some (.int .i64 a0_0)∧w'.cell? ⟨gb845,1,none⟩=some (.int .i64 a0_1)∧w'.cell? ⟨gb845,2,none⟩=some (.string a0_2)∧w'.cell? ⟨gb845,3,none⟩=some (.slice (some ad847) l0_3.length c0_3)∧w'.cell? ad847=some (.int .i64 ((rd_TDoc l0_3 0).f0))∧w'.cell? ⟨ad847.block,ad847.off+1,none⟩=some (.int .i64 ((rd_TDoc l0_3 0).f1))∧w'.cell? ⟨ad847.block,ad847.off+2,none⟩=some (.string ((rd_TDoc l0_3 0).f2))∧w'.cell? ⟨ad847.block,ad847.off+3,none⟩=some (.slice A847_3 ((rd_TDoc l0_3 0).f3).length c847_3)) (ds:=[]) #[false,false,false,false,false,false,false,false,false,false,false,false] (by kernel_rfl) rfl rfl ⟨(blk_cell BK845.out 0).trans rfl,(blk_cell BK845.out 1).trans rfl,(blk_cell BK845.out 2).trans rfl,(blk_cell BK845.out 3).trans rfl,((HB.out.cell (World.block_lt_of_cell? w _ hw847_0)).trans hw847_0),((HB.out.cell (World.block_lt_of_cell? w _ hw847_1)).trans hw847_1),((HB.out.cell (World.block_lt_of_cell? w _ hw847_2)).trans hw847_2),((HB.out.cell (World.block_lt_of_cell? w _ hw847_3)).trans hw847_3)⟩ (fun hHeld=>?_);refine with_tabW spec_l1Text.tab13 spec_l1Text.bits13 (fun HT_ HW_=>?_)
           generalize w26.drew=w28 at BK845 HB HR847_3 hx847_0 hx847_1 hx847_2 hx847_3 hHeld ⊢
           refine pure_ (i:=0) (N:=some 21) (v:=?_) (a':=?_) #[true,false,false,false,false,false,false,false,false,false,false,false] rfl rfl (any_of HT_.out (by kernel_rfl)) (fun _ _ _ h=>h) (Or.inl ⟨by rfl,?_⟩) ?_ ?_
           rotate_left
           ·intro w'
            go_simp
            with_reducible rfl
           rotate_left
           ·simp only [Act.put,List.setIfInBounds_toArray,List.set_cons_zero,List.set_cons_succ,i64_w,i32_w]
            rfl
           refine pure_ (i:=4) (N:=some 25) (v:=?_) (a':=?_) #[true,false,false,false,true,false,false,false,false,false,false,false] rfl rfl (any_of HT_.out (by kernel_rfl)) (fun _ _ _ h=>h) (Or.inl ⟨by rfl,?_⟩) ?_ ?_
           rotate_left
           ·intro w'
            go_simp
            with_reducible rfl
           rotate_left
           ·simp only [Act.put,List.setIfInBounds_toArray,List.set_cons_zero,List.set_cons_succ,i64_w,i32_w]
            rfl
           refine take_ (i:=1) (N:=some 22) (v:=?_) (a':=?_) #[true,true,false,false,true,false,false,false,false,false,false,false] rfl rfl (take_ofW HT_.out HW_.out (by kernel_rfl)) (fun _ _ _ h=>h) (Or.inl ⟨by rfl,?_⟩) hHeld ?_ ?_
           rotate_left
           ·rintro w' ⟨s0,s1,s2,s3,s4,s5,s6,s7⟩
            go_simp
            with_reducible rfl
           rotate_left
           ·simp only [Act.put,List.setIfInBounds_toArray,List.set_cons_zero,List.set_cons_succ,i64_w,i32_w]
            rfl
           refine take_ (i:=5) (N:=some 26) (v:=?_) (a':=?_) #[true,true,false,false,true,true,false,false,false,false,false,false] rfl rfl (take_ofW HT_.out HW_.out (by kernel_rfl)) (fun _ _ _ h=>h) (Or.inl ⟨by rfl,?_⟩) hHeld ?_ ?_
           rotate_left
           ·rintro w' ⟨s0,s1,s2,s3,s4,s5,s6,s7⟩
            go_simp
            with_reducible rfl
           rotate_left
           ·simp only [Act.put,List.setIfInBounds_toArray,List.set_cons_zero,List.set_cons_succ,i64_w,i32_w]
            rfl
           refine pure_ (i:=6) (N:=some 27) (v:=?_) (a':=?_) #[true,true,false,false,true,true,true,false,false,false,false,false] rfl rfl (any_of HT_.out (by kernel_rfl)) (fun _ _ _ h=>h) (Or.inl ⟨by rfl,?_⟩) ?_ ?_
           rotate_left
           ·intro w'
            go_simp
            with_reducible rfl
           rotate_left
           ·simp only [Act.put,List.setIfInBounds_toArray,List.set_cons_zero,List.set_cons_succ,i64_w,i32_w]
            rfl
           refine take_ (i:=7) (N:=some 28) (v:=?_) (a':=?_) #[true,true,false,false,true,true,true,true,false,false,false,false] rfl rfl (take_ofW HT_.out HW_.out (by kernel_rfl)) (fun _ _ _ h=>h) (Or.inl ⟨by rfl,?_⟩) hHeld ?_ ?_
           rotate_left
           ·rintro w' ⟨s0,s1,s2,s3,s4,s5,s6,s7⟩
            go_simp
            with_reducible rfl
           rotate_left
           ·simp only [Act.put,List.setIfInBounds_toArray,List.set_cons_zero,List.set_cons_succ,i64_w,i32_w]
            rfl
           refine one_ (i:=2) (N:=some 23) #[true,true,true,false,true,true,true,true,false,false,false,false] rfl rfl (one_of HT_.out (by kernel_rfl)) (by decide) (fun K hK=>?_)
           refine goes_ Try.func75 (by kernel_rfl) rfl #[.int .i64 a0_1] (by rfl) rfl rfl (by (try simp only [List.map_toArray,List.map_cons,List.map_nil]);first|done|rfl|(simp only [List.length_drop,List.length_take];rfl)) ?_
           with_reducible refine (spec_l15Dec.calls k a0_1 t846 _ A20.out).mono ?_
           rintro e w29 ⟨rfl,hb⟩
           refine ⟨_,rfl,?_⟩
           have n0_:=Aside0.mk (blk_below (g:=gb845) (o:=.cells #[.int .i64 a0_0,.int .i64 a0_1,.string a0_2,.slice (some ad847) l0_3.length c0_3] 27 (0,0)) (gK BK845) hb)
           have n1_:=Aside0.mk (below_step (by repeat (first|exact gB HB|refine below_set ?_ GE845.out)) hb)
           clear BK845
           clear HB
           have BK845:=n0_
           have HB:=n1_
           clear n0_ n1_
           (try clear hb)
           (try clear hb2)
           (try clear hk)
           (try clear hi)
           refine hK.out _ _ ⟨(blk_cell BK845.out 0).trans rfl,(blk_cell BK845.out 1).trans rfl,(blk_cell BK845.out 2).trans rfl,(blk_cell BK845.out 3).trans rfl,((HB.out.cell (World.block_lt_of_cell? w _ hw847_0)).trans hw847_0),((HB.out.cell (World.block_lt_of_cell? w _ hw847_1)).trans hw847_1),((HB.out.cell (World.block_lt_of_cell? w _ hw847_2)).trans hw847_2),((HB.out.cell (World.block_lt_of_cell? w _ hw847_3)).trans hw847_3)⟩ (fun hHeld=>?_)
           clear hK K
           refine norm_ (a':=?_) ?_ ?_
           rotate_left
           ·show Act.put _ (some 23) _=_
            simp only [Act.put,List.setIfInBounds_toArray,List.set_cons_zero,List.set_cons_succ,i64_w,i32_w]
            rfl
           refine pure_ (i:=3) (N:=some 24) (v:=?_) (a':=?_) #[true,true,true,true,true,true,true,true,false,false,false,false] rfl rfl (any_of HT_.out (by kernel_rfl)) (fun _ _ _ h=>h) (Or.inl ⟨by rfl,?_⟩) ?_ ?_
           rotate_left
           ·intro w'
            go_simp
            with_reducible rfl
           rotate_left
           ·simp only [Act.put,List.setIfInBounds_toArray,List.set_cons_zero,List.set_cons_succ,i64_w,i32_w]
            rfl
           refine one_ (i:=8) (N:=some 29) #[true,true,true,true,true,true,true,true,true,false,false,false] rfl rfl (one_of HT_.out (by kernel_rfl)) (by decide) (fun K hK=>?_)
           refine goes_ Try.func63 (by kernel_rfl) rfl #[.agg #[.int .i64 ((rd_TDoc l0_3 0).f0),.int .i64 ((rd_TDoc l0_3 0).f1),.string ((rd_TDoc l0_3 0).f2),.slice A847_3 ((rd_TDoc l0_3 0).f3).length c847_3]] (by rfl) rfl rfl (by (try simp only [List.map_toArray,List.map_cons,List.map_nil]);first|done|rfl|(simp only [List.length_drop,List.length_take];rfl)) ?_
           with_reducible refine (ih k (by omega) ((rd_TDoc l0_3 0).f0) ((rd_TDoc l0_3 0).f1) ((rd_TDoc l0_3 0).f2) _ _ ((rd_TDoc l0_3 0).f3) t848 _ ?side1 ?side2 A23.out).mono ?_
           (case side1=>exact gC (Kd.C_below HR847_3.out HB.out))
           (case side2=>exact HC847_3.out)
           rintro e w30 ⟨rfl,hb⟩
           refine ⟨_,rfl,?_⟩
           have n0_:=Aside0.mk (blk_below (g:=gb845) (o:=.cells #[.int .i64 a0_0,.int .i64 a0_1,.string a0_2,.slice (some ad847) l0_3.length c0_3] 27 (0,0)) (gK BK845) hb)
           have n1_:=Aside0.mk (below_step (by repeat (first|exact gB HB|refine below_set ?_ GE845.out)) hb)
           clear BK845
           clear HB
           have BK845:=n0_
           have HB:=n1_
           clear n0_ n1_
           (try clear hb)
           (try clear hb2)
           (try clear hk)
           (try clear hi)
           refine hK.out _ _ ⟨(blk_cell BK845.out 0).trans rfl,(blk_cell BK845.out 1).trans rfl,(blk_cell BK845.out 2).trans rfl,(blk_cell BK845.out 3).trans rfl,((HB.out.cell (World.block_lt_of_cell? w _ hw847_0)).trans hw847_0),((HB.out.cell (World.block_lt_of_cell? w _ hw847_1)).trans hw847_1),((HB.out.cell (World.block_lt_of_cell? w _ hw847_2)).trans hw847_2),((HB.out.cell (World.block_lt_of_cell? w _ hw847_3)).trans hw847_3)⟩ (fun hHeld=>?_)
           clear hK K
           refine norm_ (a':=?_) ?_ ?_
           rotate_left
           ·show Act.put _ (some 29) _=_
            simp only [Act.put,List.setIfInBounds_toArray,List.set_cons_zero,List.set_cons_succ,i64_w,i32_w]
            rfl
           refine pure_ (i:=9) (N:=some 30) (v:=?_) (a':=?_) #[true,true,true,true,true,true,true,true,true,true,false,false] rfl rfl (any_of HT_.out (by kernel_rfl)) (fun _ _ _ h=>h) (Or.inl ⟨by rfl,?_⟩) ?_ ?_
           rotate_left
           ·intro w'
            go_simp
            with_reducible rfl
           rotate_left
           ·simp only [Act.put,List.setIfInBounds_toArray,List.set_cons_zero,List.set_cons_succ,i64_w,i32_w]
            rfl
           refine pure_ (i:=10) (N:=some 31) (v:=?_) (a':=?_) #[true,true,true,true,true,true,true,true,true,true,true,false] rfl rfl (any_of HT_.out (by kernel_rfl)) (fun _ _ _ h=>h) (Or.inl ⟨by rfl,?_⟩) ?_ ?_
           rotate_left
           ·intro w'
            go_simp
            with_reducible rfl
           rotate_left
           ·simp only [Act.put,List.setIfInBounds_toArray,List.set_cons_zero,List.set_cons_succ,i64_w,i32_w]
            rfl
           refine pure_ (i:=11) (N:=some 2) (v:=?_) (a':=?_) #[true,true,true,true,true,true,true,true,true,true,true,true] rfl rfl (any_of HT_.out (by kernel_rfl)) (fun _ _ _ h=>h) (Or.inl ⟨by rfl,?_⟩) ?_ ?_
           rotate_left
           ·intro w'
            go_simp
            with_reducible rfl
           rotate_left
           ·simp only [Act.put,List.setIfInBounds_toArray,List.set_cons_zero,List.set_cons_succ,i64_w,i32_w]
            rfl
           refine done_ (done_of HT_.out (by kernel_rfl)) ?_
           try go_wp2
           go_ret
           exact ⟨by first|rfl|(simp [errW_none,errW_some] <;> rfl)|(simp [*,errW_none,errW_some] <;> rfl),by repeat (first|exact gB HB|refine below_set ?_ GE845.out)⟩
          ·rw [if_neg c25] at H
           exact absurd H (by simp)
         ·rw [if_neg c24] at H
          exact absurd H (by simp)
        ·rw [if_neg c22] at H
         exact absurd H (by simp)
       ·rw [if_neg c21] at H
        exact absurd H (by simp)
      ·rw [if_neg c19] at H
       have c19b0:(a0_0 == 6)=false:=beq_eq_false_iff_ne.mpr c19
       have c19b1:(a0_0 != 6)=true:=bne_iff_ne.mpr c19
       by_cases c31:a0_0=7
       ·rw [if_pos c31] at H
        have c31b0:(a0_0 == 7)=true:=beq_iff_eq.mpr c31
        have c31b1:(a0_0 != 7)=false:=bne_eq_false_iff_eq.mpr c31
        clear c31
        by_cases c32:0 < (l0_3.length:Int)
        ·rw [if_pos c32] at H
         have c32b0:decide (0 < (l0_3.length:Int))=true:=decide_eq_true c32
         have c32b1:decide (0 < l0_3.length)=true:=decide_eq_true (by omega)
         clear c32
         replace H:=Option.bind_eq_some_iff.mp H
         obtain ⟨t850,A330,H⟩:=H
         replace H:(if 1+t850.size≤9223372036854775807 then (if 1 < (l0_3.length:Int) then ((spec_l1Text.f k ((rd_TDoc l0_3 1).f0) ((rd_TDoc l0_3 1).f1) ((rd_TDoc l0_3 1).f2) ((rd_TDoc l0_3 1).f3)).bind fun t852=>(if ((⟨#[40]⟩:ByteArray)++t850).size+t852.size≤9223372036854775807 then (if (((⟨#[40]⟩:ByteArray)++t850)++t852).size+1≤9223372036854775807 then (some ((((⟨#[40]⟩:ByteArray)++t850)++t852)++(⟨#[41]⟩:ByteArray))) else (none)) else (none))) else (none)) else (none))=some r:=H
         have A33:=Aside0.mk A330
         clear A330
         by_cases c34:1+t850.size≤9223372036854775807
         ·rw [if_pos c34] at H
          have c34b0:=eq_true c34
          have c34b1:decide (1+t850.size≤9223372036854775807)=true:=decide_eq_true c34
          try have c34b2:(9223372036854775807 < 1+t850.size)=False:=eq_false (Nat.not_lt.2 c34)
          by_cases c35:1 < (l0_3.length:Int)
          ·rw [if_pos c35] at H
           have c35b0:decide (1 < (l0_3.length:Int))=true:=decide_eq_true c35
           have c35b1:decide (1 < l0_3.length)=true:=decide_eq_true (by omega)
           clear c35
           replace H:=Option.bind_eq_some_iff.mp H
           obtain ⟨t852,A360,H⟩:=H
           replace H:(if ((⟨#[40]⟩:ByteArray)++t850).size+t852.size≤9223372036854775807 then (if (((⟨#[40]⟩:ByteArray)++t850)++t852).size+1≤9223372036854775807 then (some ((((⟨#[40]⟩:ByteArray)++t850)++t852)++(⟨#[41]⟩:ByteArray))) else (none)) else (none))=some r:=H
           have A36:=Aside0.mk A360
           clear A360
           by_cases c37:((⟨#[40]⟩:ByteArray)++t850).size+t852.size≤9223372036854775807
           ·rw [if_pos c37] at H
            have c37b0:=eq_true c37
            have c37b1:decide (((⟨#[40]⟩:ByteArray)++t850).size+t852.size≤9223372036854775807)=true:=decide_eq_true c37
            try (have c37b4:=c37;(conv at c37b4=>(lhs;simp));have c37b5:=eq_false (Nat.not_lt.2 c37b4))
            try (have c37b6:=c37;(conv at c37b6=>(lhs;simp [go_sem]));have c37b7:=eq_false (Nat.not_lt.2 c37b6))
            try have c37b2:(9223372036854775807 < ((⟨#[40]⟩:ByteArray)++t850).size+t852.size)=False:=eq_false (Nat.not_lt.2 c37)
            by_cases c38:(((⟨#[40]⟩:ByteArray)++t850)++t852).size+1≤9223372036854775807
            ·rw [if_pos c38] at H
             have c38b0:=eq_true c38
             have c38b1:decide ((((⟨#[40]⟩:ByteArray)++t850)++t852).size+1≤9223372036854775807)=true:=decide_eq_true c38
             try (have c38b4:=c38;(conv at c38b4=>(lhs;simp));have c38b5:=eq_false (Nat.not_lt.2 c38b4))
             try (have c38b6:=c38;(conv at c38b6=>(lhs;simp [go_sem]));have c38b7:=eq_false (Nat.not_lt.2 c38b6))
             try have c38b2:(9223372036854775807 < (((⟨#[40]⟩:ByteArray)++t850)++t852).size+1)=False:=eq_false (Nat.not_lt.2 c38)
             obtain rfl:=Option.some.inj H
             go_enter Try.func63,Try.ntmps63
             try go_wp2_with (first|((with_reducible refine gate_dst (N:=1) rfl ?_);refine box_event ?hg (N:=1) ?hd (cs:=#[.int .i64 a0_0,.int .i64 a0_1,.string a0_2,.slice A0_3 l0_3.length c0_3]) (t:=27) ?hr ?_;(case hd=>rfl);(case hg=>rfl);(case hr=>first|(go_simp;done)|(go_simp;rfl));intro gb845 hg w39 hbox hb;have n0_:=Aside0.mk (below_step (gB HB) hb);have n1_:=Aside0.mk (hbox);have n2_:=Aside0.mk ((by rw [hg];exact (below_size (gB HB)):w.heap.size≤gb845));have n3_:=Aside0.mk ((by rw [hg];exact (below_size (gB HB)):w.heap.size≤gb845));clear HB;have HB:=n0_;have BK845:=n1_;have GW845:=n2_;have GE845:=n3_;clear n0_ n1_ n2_ n3_;clear hb hbox hg;have hcz40_0:w39.cell? ⟨gb845,0,none⟩=some (.int .i64 a0_0):=(blk_cell BK845.out 0).trans rfl;have hcz40_1:w39.cell? ⟨gb845,1,none⟩=some (.int .i64 a0_1):=(blk_cell BK845.out 1).trans rfl;have hcz40_2:w39.cell? ⟨gb845,2,none⟩=some (.string a0_2):=(blk_cell BK845.out 2).trans rfl;have hcz40_3:w39.cell? ⟨gb845,3,none⟩=some (.slice A0_3 l0_3.length c0_3):=(blk_cell BK845.out 3).trans rfl;have hfz40_0:=blk_frozen BK845.out 0;have hfz40_1:=blk_frozen BK845.out 1;have hfz40_2:=blk_frozen BK845.out 2;have hfz40_3:=blk_frozen BK845.out 3))
             have n0_:=Aside0.mk (blk_drew BK845.out)
             have n1_:=Aside0.mk (below_drew1 HB.out)
             clear BK845
             clear HB
             have BK845:=n0_
             have HB:=n1_
             clear n0_ n1_
             have p849:0≤(0:Int):=(by omega)
             have q849:0 < (l0_3.length:Int):=of_decide_eq_true (by first|(with_reducible assumption)|assumption)
             (try clear hx847_0);(try clear hx847_1);(try clear hx847_2);(try clear hx847_3)
             obtain ⟨ad849,A849_3,c849_3,e849,hx849_0,hx849_1,hx849_2,hx849_3,hl849_3,hi849_3⟩:=at_TDoc HR0_3.out 0 p849 q849
             (try (have ea_:=Option.some.inj (hx849_3.symm.trans hw847_3);injection ea_ with ea_ en_ ec_;subst ea_;subst ec_;clear en_))
             have hw849_3:=hx849_3
             (try rw [show ((0:Int)).toNat=0 from rfl] at hw849_3)
             (try rw [show 0 * 4=0 from rfl] at hw849_3)
             (try rw [Addr.add_zero'] at hw849_3)
             have hw849_2:=hx849_2
             (try rw [show ((0:Int)).toNat=0 from rfl] at hw849_2)
             (try rw [show 0 * 4=0 from rfl] at hw849_2)
             (try rw [Addr.add_zero'] at hw849_2)
             have hw849_1:=hx849_1
             (try rw [show ((0:Int)).toNat=0 from rfl] at hw849_1)
             (try rw [show 0 * 4=0 from rfl] at hw849_1)
             (try rw [Addr.add_zero'] at hw849_1)
             have hw849_0:=hx849_0
             (try rw [show ((0:Int)).toNat=0 from rfl] at hw849_0)
             (try rw [show 0 * 4=0 from rfl] at hw849_0)
             (try rw [Addr.add_zero'] at hw849_0)
             cases e849
             have qi849:(0 < l0_3.length)=True:=eq_true (by omega)
             (try rw [show ((0:Int)).toNat=0 from rfl] at hx849_0)
             (try rw [show 0 * 4=0 from rfl] at hx849_0)
             (try rw [Addr.add_zero'] at hx849_0)
             (try rw [show ((0:Int)).toNat=0 from rfl] at hx849_1)
             (try rw [show 0 * 4=0 from rfl] at hx849_1)
             (try rw [Addr.add_zero'] at hx849_1)
             (try rw [show ((0:Int)).toNat=0 from rfl] at hx849_2)
             (try rw [show 0 * 4=0 from rfl] at hx849_2)
             (try rw [Addr.add_zero'] at hx849_2)
             (try rw [show ((0:Int)).toNat=0 from rfl] at hx849_3)
             (try rw [show 0 * 4=0 from rfl] at hx849_3)
             (try rw [Addr.add_zero'] at hx849_3)
             replace hx849_0:=(HB.out.cell (World.block_lt_of_cell? w _ hx849_0)).trans hx849_0
             replace hx849_1:=(HB.out.cell (World.block_lt_of_cell? w _ hx849_1)).trans hx849_1
             replace hx849_2:=(HB.out.cell (World.block_lt_of_cell? w _ hx849_2)).trans hx849_2
             replace hx849_3:=(HB.out.cell (World.block_lt_of_cell? w _ hx849_3)).trans hx849_3
             have HR849_3:=Aside0.mk hi849_3
             have HC849_3:=Aside0.mk hl849_3
             clear hi849_3 hl849_3
             replace p849:=eq_true p849
             replace q849:=eq_true q849
             have p851:0≤(1:Int):=(by omega)
             have q851:1 < (l0_3.length:Int):=of_decide_eq_true (by first|(with_reducible assumption)|assumption)
             obtain ⟨ad851,A851_3,c851_3,e851,hx851_0,hx851_1,hx851_2,hx851_3,hl851_3,hi851_3⟩:=at_TDoc HR0_3.out 1 p851 q851
             have hw851_3:=hx851_3
             (try rw [show ((1:Int)).toNat=1 from rfl] at hw851_3)
             (try rw [show 1 * 4=4 from rfl] at hw851_3)
             (try simp only [Nat.reduceMul,Nat.reduceEqDiff,Go.Addr.add,↓reduceIte] at hw851_3)
             have hw851_2:=hx851_2
             (try rw [show ((1:Int)).toNat=1 from rfl] at hw851_2)
             (try rw [show 1 * 4=4 from rfl] at hw851_2)
             (try simp only [Nat.reduceMul,Nat.reduceEqDiff,Go.Addr.add,↓reduceIte] at hw851_2)
             have hw851_1:=hx851_1
             (try rw [show ((1:Int)).toNat=1 from rfl] at hw851_1)
             (try rw [show 1 * 4=4 from rfl] at hw851_1)
             (try simp only [Nat.reduceMul,Nat.reduceEqDiff,Go.Addr.add,↓reduceIte] at hw851_1)
             have hw851_0:=hx851_0
             (try rw [show ((1:Int)).toNat=1 from rfl] at hw851_0)
             (try rw [show 1 * 4=4 from rfl] at hw851_0)
             (try simp only [Nat.reduceMul,Nat.reduceEqDiff,Go.Addr.add,↓reduceIte] at hw851_0)
             obtain rfl:ad849=ad851:=(by injection e851)
             (try simp only [show (1:Int).toNat=1 from rfl,Nat.reduceMul,Nat.reduceEqDiff,Go.Addr.add,↓reduceIte] at hx851_0)
             (try simp only [show (1:Int).toNat=1 from rfl,Nat.reduceMul,Nat.reduceEqDiff,Go.Addr.add,↓reduceIte] at hx851_1)
             (try simp only [show (1:Int).toNat=1 from rfl,Nat.reduceMul,Nat.reduceEqDiff,Go.Addr.add,↓reduceIte] at hx851_2)
             (try simp only [show (1:Int).toNat=1 from rfl,Nat.reduceMul,Nat.reduceEqDiff,Go.Addr.add,↓reduceIte] at hx851_3)
             have qi851:(1 < l0_3.length)=True:=eq_true (by omega)
             (try rw [show ((1:Int)).toNat=1 from rfl] at hx851_0)
             (try rw [show 1 * 4=4 from rfl] at hx851_0)
             (try rw [show ((1:Int)).toNat=1 from rfl] at hx851_1)
             (try rw [show 1 * 4=4 from rfl] at hx851_1)
             (try rw [show ((1:Int)).toNat=1 from rfl] at hx851_2)
             (try rw [show 1 * 4=4 from rfl] at hx851_2)
             (try rw [show ((1:Int)).toNat=1 from rfl] at hx851_3)
             (try rw [show 1 * 4=4 from rfl] at hx851_3)
             replace hx851_0:=(HB.out.cell (World.block_lt_of_cell? w _ hx851_0)).trans hx851_0
             replace hx851_1:=(HB.out.cell (World.block_lt_of_cell? w _ hx851_1)).trans hx851_1
             replace hx851_2:=(HB.out.cell (World.block_lt_of_cell? w _ hx851_2)).trans hx851_2
             replace hx851_3:=(HB.out.cell (World.block_lt_of_cell? w _ hx851_3)).trans hx851_3
             have HR851_3:=Aside0.mk hi851_3
             have HC851_3:=Aside0.mk hl851_3
             clear hi851_3 hl851_3
             replace p851:=eq_true p851
             replace q851:=eq_true q851
             refine start_ (n:=14) (S:=fun w'=>w'.cell? ⟨gb845,0,none⟩=some (.int .i64 a0_0)∧w'.cell? ⟨gb845,1,none⟩=some (.int .i64 a0_1)∧w'.cell? ⟨gb845,2,none⟩=some (.string a0_2)∧w'.cell? ⟨gb845,3,none⟩=some (.slice (some ad849) l0_3.length c0_3)∧w'.cell? ad849=some (.int .i64 ((rd_TDoc l0_3 0).f0))∧w'.cell? ⟨ad849.block,ad849.off+1,none⟩=some (.int .i64 ((rd_TDoc l0_3 0).f1))∧w'.cell? ⟨ad849.block,ad849.off+2,none⟩=some (.string ((rd_TDoc l0_3 0).f2))∧w'.cell? ⟨ad849.block,ad849.off+3,none⟩=some (.slice A849_3 ((rd_TDoc l0_3 0).f3).length c849_3)∧w'.cell? ⟨ad849.block,ad849.off+4,none⟩=some (.int .i64 ((rd_TDoc l0_3 1).f0))∧w'.cell? ⟨ad849.block,ad849.off+4+1,none⟩=some (.int .i64 ((rd_TDoc l0_3 1).f1))∧w'.cell? ⟨ad849.block,ad849.off+4+2,none⟩=some (.string ((rd_TDoc l0_3 1).f2))∧w'.cell? ⟨ad849.block,ad849.off+4+3,none⟩=some (.slice A851_3 ((rd_TDoc l0_3 1).f3).length c851_3)) (ds:=[]) #[false,false,false,false,false,false,false,false,false,false,false,false,false,false] (by kernel_rfl) rfl rfl ⟨(blk_cell BK845.out 0).trans rfl,(blk_cell BK845.out 1).trans rfl,(blk_cell BK845.out 2).trans rfl,(blk_cell BK845.out 3).trans rfl,((HB.out.cell (World.block_lt_of_cell? w _ hw849_0)).trans hw849_0),((HB.out.cell (World.block_lt_of_cell? w _ hw849_1)).trans hw849_1),((HB.out.cell (World.block_lt_of_cell? w _ hw849_2)).trans hw849_2),((HB.out.cell (World.block_lt_of_cell? w _ hw849_3)).trans hw849_3),((HB.out.cell (World.block_lt_of_cell? w _ hw851_0)).trans hw851_0),((HB.out.cell (World.block_lt_of_cell? w _ hw851_1)).trans hw851_1),((HB.out.cell (World.block_lt_of_cell? w _ hw851_2)).trans hw851_2),((HB.out.cell (World.block_lt_of_cell? w _ hw851_3)).trans hw851_3)⟩ (fun hHeld=>?_);refine with_tabW spec_l1Text.tab15 spec_l1Text.bits15 (fun HT_ HW_=>?_)
             generalize w39.drew=w41 at BK845 HB HR849_3 HR851_3 hx849_0 hx849_1 hx849_2 hx849_3 hx851_0 hx851_1 hx851_2 hx851_3 hHeld ⊢
             refine pure_ (i:=0) (N:=some 34) (v:=?_) (a':=?_) #[true,false,false,false,false,false,false,false,false,false,false,false,false,false] rfl rfl (any_of HT_.out (by kernel_rfl)) (fun _ _ _ h=>h) (Or.inl ⟨by rfl,?_⟩) ?_ ?_
             rotate_left
             ·intro w'
              go_simp
              with_reducible rfl
             rotate_left
             ·simp only [Act.put,List.setIfInBounds_toArray,List.set_cons_zero,List.set_cons_succ,i64_w,i32_w]
              rfl
             refine pure_ (i:=6) (N:=some 40) (v:=?_) (a':=?_) #[true,false,false,false,false,false,true,false,false,false,false,false,false,false] rfl rfl (any_of HT_.out (by kernel_rfl)) (fun _ _ _ h=>h) (Or.inl ⟨by rfl,?_⟩) ?_ ?_
             rotate_left
             ·intro w'
              go_simp
              with_reducible rfl
             rotate_left
             ·simp only [Act.put,List.setIfInBounds_toArray,List.set_cons_zero,List.set_cons_succ,i64_w,i32_w]
              rfl
             refine take_ (i:=1) (N:=some 35) (v:=?_) (a':=?_) #[true,true,false,false,false,false,true,false,false,false,false,false,false,false] rfl rfl (take_ofW HT_.out HW_.out (by kernel_rfl)) (fun _ _ _ h=>h) (Or.inl ⟨by rfl,?_⟩) hHeld ?_ ?_
             rotate_left
             ·rintro w' ⟨s0,s1,s2,s3,s4,s5,s6,s7,s8,s9,s10,s11⟩
              go_simp
              with_reducible rfl
             rotate_left
             ·simp only [Act.put,List.setIfInBounds_toArray,List.set_cons_zero,List.set_cons_succ,i64_w,i32_w]
              rfl
             refine pure_ (i:=2) (N:=some 36) (v:=?_) (a':=?_) #[true,true,true,false,false,false,true,false,false,false,false,false,false,false] rfl rfl (any_of HT_.out (by kernel_rfl)) (fun _ _ _ h=>h) (Or.inl ⟨by rfl,?_⟩) ?_ ?_
             rotate_left
             ·intro w'
              go_simp
              with_reducible rfl
             rotate_left
             ·simp only [Act.put,List.setIfInBounds_toArray,List.set_cons_zero,List.set_cons_succ,i64_w,i32_w]
              rfl
             refine take_ (i:=3) (N:=some 37) (v:=?_) (a':=?_) #[true,true,true,true,false,false,true,false,false,false,false,false,false,false] rfl rfl (take_ofW HT_.out HW_.out (by kernel_rfl)) (fun _ _ _ h=>h) (Or.inl ⟨by rfl,?_⟩) hHeld ?_ ?_
             rotate_left
             ·rintro w' ⟨s0,s1,s2,s3,s4,s5,s6,s7,s8,s9,s10,s11⟩
              go_simp
              with_reducible rfl
             rotate_left
             ·simp only [Act.put,List.setIfInBounds_toArray,List.set_cons_zero,List.set_cons_succ,i64_w,i32_w]
              rfl
             refine take_ (i:=7) (N:=some 41) (v:=?_) (a':=?_) #[true,true,true,true,false,false,true,true,false,false,false,false,false,false] rfl rfl (take_ofW HT_.out HW_.out (by kernel_rfl)) (fun _ _ _ h=>h) (Or.inl ⟨by rfl,?_⟩) hHeld ?_ ?_
             rotate_left
             ·rintro w' ⟨s0,s1,s2,s3,s4,s5,s6,s7,s8,s9,s10,s11⟩
              go_simp
              with_reducible rfl
             rotate_left
             ·simp only [Act.put,List.setIfInBounds_toArray,List.set_cons_zero,List.set_cons_succ,i64_w,i32_w]
              rfl
             refine pure_ (i:=8) (N:=some 42) (v:=?_) (a':=?_) #[true,true,true,true,false,false,true,true,true,false,false,false,false,false] rfl rfl (any_of HT_.out (by kernel_rfl)) (fun _ _ _ h=>h) (Or.inl ⟨by rfl,?_⟩) ?_ ?_
             rotate_left
             ·intro w'
              go_simp
              with_reducible rfl
             rotate_left
             ·simp only [Act.put,List.setIfInBounds_toArray,List.set_cons_zero,List.set_cons_succ,i64_w,i32_w]
              rfl
             refine take_ (i:=9) (N:=some 43) (v:=?_) (a':=?_) #[true,true,true,true,false,false,true,true,true,true,false,false,false,false] rfl rfl (take_ofW HT_.out HW_.out (by kernel_rfl)) (fun _ _ _ h=>h) (Or.inl ⟨by rfl,?_⟩) hHeld ?_ ?_
             rotate_left
             ·rintro w' ⟨s0,s1,s2,s3,s4,s5,s6,s7,s8,s9,s10,s11⟩
              go_simp
              with_reducible rfl
             rotate_left
             ·simp only [Act.put,List.setIfInBounds_toArray,List.set_cons_zero,List.set_cons_succ,i64_w,i32_w]
              rfl
             refine one_ (i:=4) (N:=some 38) #[true,true,true,true,true,false,true,true,true,true,false,false,false,false] rfl rfl (one_of HT_.out (by kernel_rfl)) (by decide) (fun K hK=>?_)
             refine goes_ Try.func63 (by kernel_rfl) rfl #[.agg #[.int .i64 ((rd_TDoc l0_3 0).f0),.int .i64 ((rd_TDoc l0_3 0).f1),.string ((rd_TDoc l0_3 0).f2),.slice A849_3 ((rd_TDoc l0_3 0).f3).length c849_3]] (by rfl) rfl rfl (by (try simp only [List.map_toArray,List.map_cons,List.map_nil]);first|done|rfl|(simp only [List.length_drop,List.length_take];rfl)) ?_
             with_reducible refine (ih k (by omega) ((rd_TDoc l0_3 0).f0) ((rd_TDoc l0_3 0).f1) ((rd_TDoc l0_3 0).f2) _ _ ((rd_TDoc l0_3 0).f3) t850 _ ?side1 ?side2 A33.out).mono ?_
             (case side1=>exact gC (Kd.C_below HR849_3.out HB.out))
             (case side2=>exact HC849_3.out)
             rintro e w42 ⟨rfl,hb⟩
             refine ⟨_,rfl,?_⟩
             have n0_:=Aside0.mk (blk_below (g:=gb845) (o:=.cells #[.int .i64 a0_0,.int .i64 a0_1,.string a0_2,.slice (some ad849) l0_3.length c0_3] 27 (0,0)) (gK BK845) hb)
             have n1_:=Aside0.mk (below_step (by repeat (first|exact gB HB|refine below_set ?_ GE845.out)) hb)
             clear BK845
             clear HB
             have BK845:=n0_
             have HB:=n1_
             clear n0_ n1_
             (try clear hb)
             (try clear hb2)
             (try clear hk)
             (try clear hi)
             refine hK.out _ _ ⟨(blk_cell BK845.out 0).trans rfl,(blk_cell BK845.out 1).trans rfl,(blk_cell BK845.out 2).trans rfl,(blk_cell BK845.out 3).trans rfl,((HB.out.cell (World.block_lt_of_cell? w _ hw849_0)).trans hw849_0),((HB.out.cell (World.block_lt_of_cell? w _ hw849_1)).trans hw849_1),((HB.out.cell (World.block_lt_of_cell? w _ hw849_2)).trans hw849_2),((HB.out.cell (World.block_lt_of_cell? w _ hw849_3)).trans hw849_3),((HB.out.cell (World.block_lt_of_cell? w _ hw851_0)).trans hw851_0),((HB.out.cell (World.block_lt_of_cell? w _ hw851_1)).trans hw851_1),((HB.out.cell (World.block_lt_of_cell? w _ hw851_2)).trans hw851_2),((HB.out.cell (World.block_lt_of_cell? w _ hw851_3)).trans hw851_3)⟩ (fun hHeld=>?_)
             clear hK K
             refine norm_ (a':=?_) ?_ ?_
             rotate_left
             ·show Act.put _ (some 38) _=_
              simp only [Act.put,List.setIfInBounds_toArray,List.set_cons_zero,List.set_cons_succ,i64_w,i32_w]
              rfl
             refine pure_ (i:=5) (N:=some 39) (v:=?_) (a':=?_) #[true,true,true,true,true,true,true,true,true,true,false,false,false,false] rfl rfl (any_of HT_.out (by kernel_rfl)) (fun _ _ _ h=>h) (Or.inl ⟨by rfl,?_⟩) ?_ ?_
             rotate_left
             ·intro w'
              go_simp
              with_reducible rfl
             rotate_left
             ·simp only [Act.put,List.setIfInBounds_toArray,List.set_cons_zero,List.set_cons_succ,i64_w,i32_w]
              rfl
             refine one_ (i:=10) (N:=some 44) #[true,true,true,true,true,true,true,true,true,true,true,false,false,false] rfl rfl (one_of HT_.out (by kernel_rfl)) (by decide) (fun K hK=>?_)
             refine goes_ Try.func63 (by kernel_rfl) rfl #[.agg #[.int .i64 ((rd_TDoc l0_3 1).f0),.int .i64 ((rd_TDoc l0_3 1).f1),.string ((rd_TDoc l0_3 1).f2),.slice A851_3 ((rd_TDoc l0_3 1).f3).length c851_3]] (by rfl) rfl rfl (by (try simp only [List.map_toArray,List.map_cons,List.map_nil]);first|done|rfl|(simp only [List.length_drop,List.length_take];rfl)) ?_
             with_reducible refine (ih k (by omega) ((rd_TDoc l0_3 1).f0) ((rd_TDoc l0_3 1).f1) ((rd_TDoc l0_3 1).f2) _ _ ((rd_TDoc l0_3 1).f3) t852 _ ?side1 ?side2 A36.out).mono ?_
             (case side1=>exact gC (Kd.C_below HR851_3.out HB.out))
             (case side2=>exact HC851_3.out)
             rintro e w43 ⟨rfl,hb⟩
             refine ⟨_,rfl,?_⟩
             have n0_:=Aside0.mk (blk_below (g:=gb845) (o:=.cells #[.int .i64 a0_0,.int .i64 a0_1,.string a0_2,.slice (some ad849) l0_3.length c0_3] 27 (0,0)) (gK BK845) hb)
             have n1_:=Aside0.mk (below_step (by repeat (first|exact gB HB|refine below_set ?_ GE845.out)) hb)
             clear BK845
             clear HB
             have BK845:=n0_
             have HB:=n1_
             clear n0_ n1_
             (try clear hb)
             (try clear hb2)
             (try clear hk)
             (try clear hi)
             refine hK.out _ _ ⟨(blk_cell BK845.out 0).trans rfl,(blk_cell BK845.out 1).trans rfl,(blk_cell BK845.out 2).trans rfl,(blk_cell BK845.out 3).trans rfl,((HB.out.cell (World.block_lt_of_cell? w _ hw849_0)).trans hw849_0),((HB.out.cell (World.block_lt_of_cell? w _ hw849_1)).trans hw849_1),((HB.out.cell (World.block_lt_of_cell? w _ hw849_2)).trans hw849_2),((HB.out.cell (World.block_lt_of_cell? w _ hw849_3)).trans hw849_3),((HB.out.cell (World.block_lt_of_cell? w _ hw851_0)).trans hw851_0),((HB.out.cell (World.block_lt_of_cell? w _ hw851_1)).trans hw851_1),((HB.out.cell (World.block_lt_of_cell? w _ hw851_2)).trans hw851_2),((HB.out.cell (World.block_lt_of_cell? w _ hw851_3)).trans hw851_3)⟩ (fun hHeld=>?_)
             clear hK K
             refine norm_ (a':=?_) ?_ ?_
             rotate_left
             ·show Act.put _ (some 44) _=_
              simp only [Act.put,List.setIfInBounds_toArray,List.set_cons_zero,List.set_cons_succ,i64_w,i32_w]
              rfl
             refine pure_ (i:=11) (N:=some 45) (v:=?_) (a':=?_) #[true,true,true,true,true,true,true,true,true,true,true,true,false,false] rfl rfl (any_of HT_.out (by kernel_rfl)) (fun _ _ _ h=>h) (Or.inl ⟨by rfl,?_⟩) ?_ ?_
             rotate_left
             ·intro w'
              go_simp
              with_reducible rfl
             rotate_left
             ·simp only [Act.put,List.setIfInBounds_toArray,List.set_cons_zero,List.set_cons_succ,i64_w,i32_w]
              rfl
             refine pure_ (i:=12) (N:=some 46) (v:=?_) (a':=?_) #[true,true,true,true,true,true,true,true,true,true,true,true,true,false] rfl rfl (any_of HT_.out (by kernel_rfl)) (fun _ _ _ h=>h) (Or.inl ⟨by rfl,?_⟩) ?_ ?_
             rotate_left
             ·intro w'
              go_simp
              with_reducible rfl
             rotate_left
             ·simp only [Act.put,List.setIfInBounds_toArray,List.set_cons_zero,List.set_cons_succ,i64_w,i32_w]
              rfl
             refine pure_ (i:=13) (N:=some 2) (v:=?_) (a':=?_) #[true,true,true,true,true,true,true,true,true,true,true,true,true,true] rfl rfl (any_of HT_.out (by kernel_rfl)) (fun _ _ _ h=>h) (Or.inl ⟨by rfl,?_⟩) ?_ ?_
             rotate_left
             ·intro w'
              go_simp
              with_reducible rfl
             rotate_left
             ·simp only [Act.put,List.setIfInBounds_toArray,List.set_cons_zero,List.set_cons_succ,i64_w,i32_w]
              rfl
             refine done_ (done_of HT_.out (by kernel_rfl)) ?_
             try go_wp2
             go_ret
             exact ⟨by first|rfl|(simp [errW_none,errW_some] <;> rfl)|(simp [*,errW_none,errW_some] <;> rfl),by repeat (first|exact gB HB|refine below_set ?_ GE845.out)⟩
            ·rw [if_neg c38] at H
             exact absurd H (by simp)
           ·rw [if_neg c37] at H
            exact absurd H (by simp)
          ·rw [if_neg c35] at H
           exact absurd H (by simp)
         ·rw [if_neg c34] at H
          exact absurd H (by simp)
        ·rw [if_neg c32] at H
         exact absurd H (by simp)
       ·rw [if_neg c31] at H
        have c31b0:(a0_0 == 7)=false:=beq_eq_false_iff_ne.mpr c31
        have c31b1:(a0_0 != 7)=true:=bne_iff_ne.mpr c31
        by_cases c44:0 < (l0_3.length:Int)
        ·rw [if_pos c44] at H
         have c44b0:decide (0 < (l0_3.length:Int))=true:=decide_eq_true c44
         have c44b1:decide (0 < l0_3.length)=true:=decide_eq_true (by omega)
         clear c44
         replace H:=Option.bind_eq_some_iff.mp H
         obtain ⟨t854,A450,H⟩:=H
         replace H:(if 1+t854.size≤9223372036854775807 then (if ((⟨#[91]⟩:ByteArray)++t854).size+1≤9223372036854775807 then (some (((⟨#[91]⟩:ByteArray)++t854)++(⟨#[93]⟩:ByteArray))) else (none)) else (none))=some r:=H
         have A45:=Aside0.mk A450
         clear A450
         by_cases c46:1+t854.size≤9223372036854775807
         ·rw [if_pos c46] at H
          have c46b0:=eq_true c46
          have c46b1:decide (1+t854.size≤9223372036854775807)=true:=decide_eq_true c46
          try have c46b2:(9223372036854775807 < 1+t854.size)=False:=eq_false (Nat.not_lt.2 c46)
          by_cases c47:((⟨#[91]⟩:ByteArray)++t854).size+1≤9223372036854775807
          ·rw [if_pos c47] at H
           have c47b0:=eq_true c47
           have c47b1:decide (((⟨#[91]⟩:ByteArray)++t854).size+1≤9223372036854775807)=true:=decide_eq_true c47
           try (have c47b4:=c47;(conv at c47b4=>(lhs;simp));have c47b5:=eq_false (Nat.not_lt.2 c47b4))
           try (have c47b6:=c47;(conv at c47b6=>(lhs;simp [go_sem]));have c47b7:=eq_false (Nat.not_lt.2 c47b6))
           try have c47b2:(9223372036854775807 < ((⟨#[91]⟩:ByteArray)++t854).size+1)=False:=eq_false (Nat.not_lt.2 c47)
           obtain rfl:=Option.some.inj H
           go_enter Try.func63,Try.ntmps63
           go_wp2_with (first|((with_reducible refine gate_dst (N:=1) rfl ?_);refine box_event ?hg (N:=1) ?hd (cs:=#[.int .i64 a0_0,.int .i64 a0_1,.string a0_2,.slice A0_3 l0_3.length c0_3]) (t:=27) ?hr ?_;(case hd=>rfl);(case hg=>rfl);(case hr=>first|(go_simp;done)|(go_simp;rfl));intro gb845 hg w48 hbox hb;have n0_:=Aside0.mk (below_step (gB HB) hb);have n1_:=Aside0.mk (hbox);have n2_:=Aside0.mk ((by rw [hg];exact (below_size (gB HB)):w.heap.size≤gb845));have n3_:=Aside0.mk ((by rw [hg];exact (below_size (gB HB)):w.heap.size≤gb845));clear HB;have HB:=n0_;have BK845:=n1_;have GW845:=n2_;have GE845:=n3_;clear n0_ n1_ n2_ n3_;clear hb hbox hg;have hcz49_0:w48.cell? ⟨gb845,0,none⟩=some (.int .i64 a0_0):=(blk_cell BK845.out 0).trans rfl;have hcz49_1:w48.cell? ⟨gb845,1,none⟩=some (.int .i64 a0_1):=(blk_cell BK845.out 1).trans rfl;have hcz49_2:w48.cell? ⟨gb845,2,none⟩=some (.string a0_2):=(blk_cell BK845.out 2).trans rfl;have hcz49_3:w48.cell? ⟨gb845,3,none⟩=some (.slice A0_3 l0_3.length c0_3):=(blk_cell BK845.out 3).trans rfl;have hfz49_0:=blk_frozen BK845.out 0;have hfz49_1:=blk_frozen BK845.out 1;have hfz49_2:=blk_frozen BK845.out 2;have hfz49_3:=blk_frozen BK845.out 3;have p853:0≤(0:Int):=(by omega);have q853:0 < (l0_3.length:Int):=of_decide_eq_true (by first|(with_reducible assumption)|assumption);obtain ⟨ad853,A853_3,c853_3,e853,hx853_0,hx853_1,hx853_2,hx853_3,hl853_3,hi853_3⟩:=at_TDoc HR0_3.out 0 p853 q853;cases e853;have qi853:(0 < l0_3.length)=True:=eq_true (by omega);(try rw [show ((0:Int)).toNat=0 from rfl] at hx853_0);(try rw [show 0 * 4=0 from rfl] at hx853_0);(try rw [Addr.add_zero'] at hx853_0);(try rw [show ((0:Int)).toNat=0 from rfl] at hx853_1);(try rw [show 0 * 4=0 from rfl] at hx853_1);(try rw [Addr.add_zero'] at hx853_1);(try rw [show ((0:Int)).toNat=0 from rfl] at hx853_2);(try rw [show 0 * 4=0 from rfl] at hx853_2);(try rw [Addr.add_zero'] at hx853_2);(try rw [show ((0:Int)).toNat=0 from rfl] at hx853_3);(try rw [show 0 * 4=0 from rfl] at hx853_3);(try rw [Addr.add_zero'] at hx853_3);replace hx853_0:=(HB.out.cell (World.block_lt_of_cell? w _ hx853_0)).trans hx853_0;replace hx853_1:=(HB.out.cell (World.block_lt_of_cell? w _ hx853_1)).trans hx853_1;replace hx853_2:=(HB.out.cell (World.block_lt_of_cell? w _ hx853_2)).trans hx853_2;replace hx853_3:=(HB.out.cell (World.block_lt_of_cell? w _ hx853_3)).trans hx853_3;have HR853_3:=Aside0.mk hi853_3;have HC853_3:=Aside0.mk hl853_3;clear hi853_3 hl853_3;replace p853:=eq_true p853;replace q853:=eq_true q853)|((with_reducible refine gate_callee (f:=63) rfl ?_);refine goesL_ (some 51) rfl rfl Try.func63 (by kernel_rfl) rfl #[.agg #[.int .i64 ((rd_TDoc l0_3 0).f0),.int .i64 ((rd_TDoc l0_3 0).f1),.string ((rd_TDoc l0_3 0).f2),.slice A853_3 ((rd_TDoc l0_3 0).f3).length c853_3]] rfl (by (try simp only [List.map_toArray,List.map_cons,List.map_nil]);first|done|rfl|(simp only [List.length_drop,List.length_take];rfl)) ?_;(with_reducible refine (ih k (by omega) ((rd_TDoc l0_3 0).f0) ((rd_TDoc l0_3 0).f1) ((rd_TDoc l0_3 0).f2) _ _ ((rd_TDoc l0_3 0).f3) t854 _ ?side1 ?side2 A45.out).mono ?_);(case side1=>exact gC (Kd.C_below HR853_3.out HB.out));(case side2=>exact HC853_3.out);rintro e w50 ⟨rfl,hb⟩;refine ⟨_,rfl,?_⟩;have n0_:=Aside0.mk (blk_below (g:=gb845) (o:=.cells #[.int .i64 a0_0,.int .i64 a0_1,.string a0_2,.slice (some ad853) l0_3.length c0_3] 27 (0,0)) (gK BK845) hb);have n1_:=Aside0.mk (below_step (by repeat (first|exact gB HB|refine below_set ?_ GE845.out)) hb);clear BK845;clear HB;have BK845:=n0_;have HB:=n1_;clear n0_ n1_;(try clear hb);(try clear hb2);(try clear hk);(try clear hi)))
           go_ret
           exact ⟨by first|rfl|(simp [errW_none,errW_some] <;> rfl)|(simp [*,errW_none,errW_some] <;> rfl),by repeat (first|exact gB HB|refine below_set ?_ GE845.out)⟩
          ·rw [if_neg c47] at H
           exact absurd H (by simp)
         ·rw [if_neg c46] at H
          exact absurd H (by simp)
        ·rw [if_neg c44] at H
         exact absurd H (by simp)
end Go.Proofs.Ytdhdfmmefghijaa.P
namespace Go.Proofs.Ytdhdfmmefghijaa.P
open Go.RowKit Go.Proofs.YtdhdfmmefghijaaW.PrintWords Go.Proofs.YtdhdfmmefghijaaW.PrintLast Go.Proofs.YtdhdfmmefghijaaW.PrintMore
attribute [local go_sem] max2_int min2_int max_two min_two max_three min_three max_four min_four
set_option linter.unusedVariables false
set_option linter.unusedSimpArgs false
def spec_DrawParseDoc.f (k:Nat) (l0:List Int):Option (ByteArray):=(spec_l15Open.f l0).bind fun bt870=>((spec_l1Draw.f k bt870.1 bt870.2).bind fun bt873=>((spec_l1Text.f k bt873.1 bt873.2.1 bt873.2.2.1 bt873.2.2.2.1).bind fun t880=>((spec_l1Bend.f k bt870.1 bt873.2.2.2.2 t880 (([(⟨#[]⟩:ByteArray),(⟨#[40]⟩:ByteArray),(⟨#[41]⟩:ByteArray),(⟨#[91]⟩:ByteArray),(⟨#[95]⟩:ByteArray),(⟨#[46]⟩:ByteArray),(⟨#[34]⟩:ByteArray),(⟨#[126]⟩:ByteArray),(⟨#[50,60]⟩:ByteArray),(⟨#[97]⟩:ByteArray)]:List ByteArray))).bind fun bt884=>(some bt884.1))))
set_option maxHeartbeats 8000000 in
set_option maxRecDepth 100000 in
theorem spec_DrawParseDoc.calls (k:Nat) (A0:Option Addr) (c0:Nat) (l0:List Int) (r:ByteArray) (w:World) (hr0:Kd.C (Kd.int .u8) w A0 l0.length l0) (hc0:l0.length≤c0) (h:spec_DrawParseDoc.f k l0=some r) :
  Calls Try.prog 42 #[.slice A0 l0.length c0] w fun e w'=>e=.returned (.string r)∧Below w.heap.size w w':=by
 have HR0:=Aside0.mk hr0
 have HC0:=Aside0.mk hc0
 clear hr0 hc0
 have HB:=Aside0.mk (Below.refl w.heap.size w)
 have H:((spec_l15Open.f l0).bind fun bt870=>((spec_l1Draw.f k bt870.1 bt870.2).bind fun bt873=>((spec_l1Text.f k bt873.1 bt873.2.1 bt873.2.2.1 bt873.2.2.2.1).bind fun t880=>((spec_l1Bend.f k bt870.1 bt873.2.2.2.2 t880 (([(⟨#[]⟩:ByteArray),(⟨#[40]⟩:ByteArray),(⟨#[41]⟩:ByteArray),(⟨#[91]⟩:ByteArray),(⟨#[95]⟩:ByteArray),(⟨#[46]⟩:ByteArray),(⟨#[34]⟩:ByteArray),(⟨#[126]⟩:ByteArray),(⟨#[50,60]⟩:ByteArray),(⟨#[97]⟩:ByteArray)]:List ByteArray))).bind fun bt884=>(some bt884.1)))))=some r:=h
 clear h
 replace H:=Option.bind_eq_some_iff.mp H
 obtain ⟨⟨t870,t871⟩,A20,H⟩:=H
 replace H:((spec_l1Draw.f k t870 t871).bind fun bt873=>((spec_l1Text.f k bt873.1 bt873.2.1 bt873.2.2.1 bt873.2.2.2.1).bind fun t880=>((spec_l1Bend.f k t870 bt873.2.2.2.2 t880 (([(⟨#[]⟩:ByteArray),(⟨#[40]⟩:ByteArray),(⟨#[41]⟩:ByteArray),(⟨#[91]⟩:ByteArray),(⟨#[95]⟩:ByteArray),(⟨#[46]⟩:ByteArray),(⟨#[34]⟩:ByteArray),(⟨#[126]⟩:ByteArray),(⟨#[50,60]⟩:ByteArray),(⟨#[97]⟩:ByteArray)]:List ByteArray))).bind fun bt884=>(some bt884.1))))=some r:=H
 have A2:=Aside0.mk A20
 clear A20
 replace H:=Option.bind_eq_some_iff.mp H
 obtain ⟨⟨t873,t874,t875,t876,t879⟩,A30,H⟩:=H
 replace H:((spec_l1Text.f k t873 t874 t875 t876).bind fun t880=>((spec_l1Bend.f k t870 t879 t880 (([(⟨#[]⟩:ByteArray),(⟨#[40]⟩:ByteArray),(⟨#[41]⟩:ByteArray),(⟨#[91]⟩:ByteArray),(⟨#[95]⟩:ByteArray),(⟨#[46]⟩:ByteArray),(⟨#[34]⟩:ByteArray),(⟨#[126]⟩:ByteArray),(⟨#[50,60]⟩:ByteArray),(⟨#[97]⟩:ByteArray)]:List ByteArray))).bind fun bt884=>(some bt884.1)))=some r:=H
 have A3:=Aside0.mk A30
 clear A30
 replace H:=Option.bind_eq_some_iff.mp H
 obtain ⟨t880,A40,H⟩:=H
 replace H:((spec_l1Bend.f k t870 t879 t880 (([(⟨#[]⟩:ByteArray),(⟨#[40]⟩:ByteArray),(⟨#[41]⟩:ByteArray),(⟨#[91]⟩:ByteArray),(⟨#[95]⟩:ByteArray),(⟨#[46]⟩:ByteArray),(⟨#[34]⟩:ByteArray),(⟨#[126]⟩:ByteArray),(⟨#[50,60]⟩:ByteArray),(⟨#[97]⟩:ByteArray)]:List ByteArray))).bind fun bt884=>(some bt884.1))=some r:=H
 have A4:=Aside0.mk A40
 clear A40
 obtain ⟨y881,hy881⟩:∃ y_:List ByteArray,y_=(([(⟨#[]⟩:ByteArray),(⟨#[40]⟩:ByteArray),(⟨#[41]⟩:ByteArray),(⟨#[91]⟩:ByteArray),(⟨#[95]⟩:ByteArray),(⟨#[46]⟩:ByteArray),(⟨#[34]⟩:ByteArray),(⟨#[126]⟩:ByteArray),(⟨#[50,60]⟩:ByteArray),(⟨#[97]⟩:ByteArray)]:List ByteArray)):=⟨_,rfl⟩
 replace H:((spec_l1Bend.f k t870 t879 t880 y881).bind fun bt884=>(some bt884.1))=some r:=by first|(rw [hy881];with_reducible exact H)|(have H2_:=(Option.bind_some _ _).symm.trans H;rw [hy881];with_reducible exact H2_)|(have H2_:=(Option.bind_some _ _).symm.trans H;with_reducible exact H2_)|with_reducible exact H|(rw [hy881];exact H)|exact H
 have Ny881:=Aside0.mk hy881
 clear hy881
 replace H:=Option.bind_eq_some_iff.mp H
 obtain ⟨⟨t884,t885⟩,A50,H⟩:=H
 replace H:(some t884)=some r:=H
 have A5:=Aside0.mk A50
 clear A50
 obtain rfl:=Option.some.inj H
 go_enter Try.func42,Try.ntmps42
 go_wp2_with (first|((with_reducible refine gate_callee (f:=44) rfl ?_);refine goesL_ (some 5) rfl rfl Try.func44 (by kernel_rfl) rfl #[.slice A0 l0.length c0] rfl (by (try simp only [List.map_toArray,List.map_cons,List.map_nil]);first|done|rfl|(simp only [List.length_drop,List.length_take];rfl)) ?_;(with_reducible refine (spec_l15Open.calls _ _ l0 t870 t871 w _ ?side1 ?side2 ?side3 A2.out).mono ?_);(case side1=>exact gB HB);(case side2=>exact HR0.out);(case side3=>exact HC0.out);rintro e w6 ⟨g872,rfl,hi,hb,hb2⟩;refine ⟨_,rfl,?_⟩;have n0_:=Aside0.mk (hb);have n1_:=Aside0.mk (hi);clear HB;have HB:=n0_;have HI872:=n1_;clear n0_ n1_;(try clear hb);(try clear hb2);(try clear hk);(try clear hi))|((with_reducible refine gate_callee (f:=51) rfl ?_);refine goesL_ (some 8) rfl rfl Try.func51 (by kernel_rfl) rfl #[.pointer (some ⟨g872,0,none⟩)] rfl (by (try simp only [List.map_toArray,List.map_cons,List.map_nil]);first|done|rfl|(simp only [List.length_drop,List.length_take];rfl)) ?_;(with_reducible refine (spec_l1Draw.calls k g872 t870 t871 t873 t874 t875 t876 t879 w _ ?side1 ?side2 A3.out).mono ?_);(case side1=>repeat (first|(with_reducible first|exact HI872.out|apply IsS66.alloc|apply IsS66.drewN|apply IsS66.drew|apply IsS66.set_1)|exact HI872.out));(case side2=>repeat (first|exact gB HB|refine below_set ?_ (IsS66.ge HI872.out)));rintro e w7 ⟨v877,rfl,ho0,hi,hb,hk⟩;refine ⟨_,rfl,?_⟩;have n0_:=Aside0.mk (Kd.N_lower (Kd.N_mono (ok':=fun k_=>k_ ≠ g872) ho0 (fun k_ hk_=>(IsS66.fresh (by repeat (first|(with_reducible first|exact HI872.out|apply IsS66.alloc|apply IsS66.drewN|apply IsS66.drew|apply IsS66.set_1)|exact HI872.out)) k_ hk_))) (below_size (by repeat (first|exact gB HB|refine below_set ?_ (IsS66.ge HI872.out)))));have n1_:=Aside0.mk (hb);have n2_:=Aside0.mk (hi);clear HB;clear HI872;have HO878:=n0_;have HB:=n1_;have HI872:=n2_;clear n0_ n1_ n2_;(try clear hb);(try clear hb2);(try clear hk);(try clear hi);(try clear ho0);obtain ⟨Ao8,co8,eo8⟩:=Kd.N_slice HO878.out;subst eo8)|((with_reducible refine gate_callee (f:=63) rfl ?_);refine goesL_ (some 9) rfl rfl Try.func63 (by kernel_rfl) rfl #[.agg #[.int .i64 t873,.int .i64 t874,.string t875,.slice Ao8 t876.length co8]] rfl (by (try simp only [List.map_toArray,List.map_cons,List.map_nil]);first|done|rfl|(simp only [List.length_drop,List.length_take];rfl)) ?_;(with_reducible refine (spec_l1Text.calls k t873 t874 t875 _ _ t876 t880 _ ?side1 ?side2 A4.out).mono ?_);(case side1=>exact gC ((Kd.N_reads' HO878.out).2.2));(case side2=>exact (Kd.N_reads' HO878.out).2.1);rintro e w9 ⟨rfl,hb⟩;refine ⟨_,rfl,?_⟩;have n0_:=Aside0.mk (Kd.N_below (gN HO878) hb);have n1_:=Aside0.mk (IsS66.below (by repeat (first|(with_reducible first|exact HI872.out|apply IsS66.alloc|apply IsS66.drewN|apply IsS66.drew|apply IsS66.set_1)|exact HI872.out)) hb);have n2_:=Aside0.mk (below_step (by repeat (first|exact gB HB|refine below_set ?_ (IsS66.ge HI872.out))) hb);clear HO878;clear HI872;clear HB;have HO878:=n0_;have HI872:=n1_;have HB:=n2_;clear n0_ n1_ n2_;(try clear hb);(try clear hb2);(try clear hk);(try clear hi))|((with_reducible refine gate_dst (N:=10) rfl ?_);refine Kd.R_lit Kd.string _ 9 ?hg (N:=10) ?hd (xs:=([(⟨#[]⟩:ByteArray),(⟨#[40]⟩:ByteArray),(⟨#[41]⟩:ByteArray),(⟨#[91]⟩:ByteArray),(⟨#[95]⟩:ByteArray),(⟨#[46]⟩:ByteArray),(⟨#[34]⟩:ByteArray),(⟨#[126]⟩:ByteArray),(⟨#[50,60]⟩:ByteArray),(⟨#[97]⟩:ByteArray)]:List ByteArray)) (inner:=[.string (⟨#[]⟩:ByteArray),.string (⟨#[40]⟩:ByteArray),.string (⟨#[41]⟩:ByteArray),.string (⟨#[91]⟩:ByteArray),.string (⟨#[95]⟩:ByteArray),.string (⟨#[46]⟩:ByteArray),.string (⟨#[34]⟩:ByteArray),.string (⟨#[126]⟩:ByteArray),.string (⟨#[50,60]⟩:ByteArray),.string (⟨#[97]⟩:ByteArray)]) (ok:=fun _=>True) (okp:=fun _=>True) ?hr ?hp (fun _ hk=>hk) trivial (Below.refl _ _) (Nat.le_refl _) (by simp) ?_;(case hd=>rfl);(case hg=>rfl);(case hr=>first|(go_simp;done)|(go_simp;rfl));(case hp=>exact (Reps.one (show Kd.M Kd.string _ _ _ (⟨#[]⟩:ByteArray) [.string (⟨#[]⟩:ByteArray)] from rfl) (Reps.one (show Kd.M Kd.string _ _ _ (⟨#[40]⟩:ByteArray) [.string (⟨#[40]⟩:ByteArray)] from rfl) (Reps.one (show Kd.M Kd.string _ _ _ (⟨#[41]⟩:ByteArray) [.string (⟨#[41]⟩:ByteArray)] from rfl) (Reps.one (show Kd.M Kd.string _ _ _ (⟨#[91]⟩:ByteArray) [.string (⟨#[91]⟩:ByteArray)] from rfl) (Reps.one (show Kd.M Kd.string _ _ _ (⟨#[95]⟩:ByteArray) [.string (⟨#[95]⟩:ByteArray)] from rfl) (Reps.one (show Kd.M Kd.string _ _ _ (⟨#[46]⟩:ByteArray) [.string (⟨#[46]⟩:ByteArray)] from rfl) (Reps.one (show Kd.M Kd.string _ _ _ (⟨#[34]⟩:ByteArray) [.string (⟨#[34]⟩:ByteArray)] from rfl) (Reps.one (show Kd.M Kd.string _ _ _ (⟨#[126]⟩:ByteArray) [.string (⟨#[126]⟩:ByteArray)] from rfl) (Reps.one (show Kd.M Kd.string _ _ _ (⟨#[50,60]⟩:ByteArray) [.string (⟨#[50,60]⟩:ByteArray)] from rfl) (Reps.one (show Kd.M Kd.string _ _ _ (⟨#[97]⟩:ByteArray) [.string (⟨#[97]⟩:ByteArray)] from rfl) (Reps.none _ _))))))))))));intro v882 w10 ho11 hb hg_ hnew_;clear hg_ hnew_;(first|rw [← Ny881.out] at ho11|(simp only [Int.reduceToNat] at ho11;rw [← Ny881.out] at ho11));have n0_:=Aside0.mk (Kd.N_elder' (gN HO878) (Kd.R_base ho11) hb);have n1_:=Aside0.mk (Kd.R_lower ho11 (below_size (by repeat (first|exact gB HB|refine below_set ?_ (IsS66.ge HI872.out)))));have n2_:=Aside0.mk (IsS66.below (by repeat (first|(with_reducible first|exact HI872.out|apply IsS66.alloc|apply IsS66.drewN|apply IsS66.drew|apply IsS66.set_1)|exact HI872.out)) hb);have n3_:=Aside0.mk (below_step (by repeat (first|exact gB HB|refine below_set ?_ (IsS66.ge HI872.out))) hb);clear HO878;clear HI872;clear HB;have HO878:=n0_;have HO883:=n1_;have HI872:=n2_;have HB:=n3_;clear n0_ n1_ n2_ n3_;clear hb ho11;obtain ⟨Ao12,co12,eo12⟩:=Kd.R_slice HO883.out;subst eo12)|((with_reducible refine gate_callee (f:=45) rfl ?_);refine goesL_ (some 11) rfl rfl Try.func45 (by kernel_rfl) rfl #[.pointer (some ⟨g872,0,none⟩),.string t880,.slice Ao12 y881.length co12] rfl (by (try simp only [List.map_toArray,List.map_cons,List.map_nil]);first|done|rfl|(simp only [List.length_drop,List.length_take];rfl)) ?_;(with_reducible refine (spec_l1Bend.calls k g872 t870 t879 t880 _ _ y881 t884 t885 w _ ?side1 ?side2 ?side3 ?side4 ?side5 A5.out).mono ?_);(case side1=>repeat (first|(with_reducible first|exact HI872.out|apply IsS66.alloc|apply IsS66.drewN|apply IsS66.drew|apply IsS66.set_1)|exact HI872.out));(case side2=>repeat (first|exact gB HB|refine below_set ?_ (IsS66.ge HI872.out)));(case side3=>exact gC ((Kd.R_reads' HO883.out).2.2));(case side4=>exact (Kd.R_reads' HO883.out).2.1);(case side5=>exact far_slice (IsS66.own_ne HI872.out HO883.out (by decide)));rintro e w13 ⟨rfl,hi,hb,hk⟩;refine ⟨_,rfl,?_⟩;have n0_:=Aside0.mk (Kd.N_mono (Kd.N_keep (Kd.N_mono (ok:=fun k_=>(k_ ≠ g872∧some k_ ≠ (.slice Ao12 y881.length co12:Value).ownBlock)) (gN HO878) (fun k_ hk_=>(⟨hk_,hk_.1⟩:_∧k_ ≠ g872))) hk (fun _ h=>h.2)) (fun _ h=>h.1));have n1_:=Aside0.mk (Kd.R_mono (Kd.R_keep (IsS66.apart (show IsS66 w _ g872 t870 t879 from by repeat (first|(with_reducible first|exact HI872.out|apply IsS66.alloc|apply IsS66.drewN|apply IsS66.drew|apply IsS66.set_1)|exact HI872.out)) (gR HO883) (by decide)) hk (fun _ h=>h.2)) (fun _ h=>h.1));have n2_:=Aside0.mk (hb);have n3_:=Aside0.mk (hi);clear HO878;clear HO883;clear HB;clear HI872;have HO878:=n0_;have HO883:=n1_;have HB:=n2_;have HI872:=n3_;clear n0_ n1_ n2_ n3_;(try clear hb);(try clear hb2);(try clear hk);(try clear hi)))
 go_ret
 exact ⟨by first|rfl|(simp [errW_none,errW_some] <;> rfl)|(simp [*,errW_none,errW_some] <;> rfl),by repeat (first|exact gB HB|refine below_set ?_ (IsS66.ge HI872.out))⟩
end Go.Proofs.Ytdhdfmmefghijaa.P
namespace Go.Proofs.Ytdhdfmmefghijaa.P
open Go.RowKit Go.Proofs.YtdhdfmmefghijaaW.PrintWords Go.Proofs.YtdhdfmmefghijaaW.PrintLast Go.Proofs.YtdhdfmmefghijaaW.PrintMore
attribute [local go_sem] max2_int min2_int max_two min_two max_three min_three max_four min_four
set_option linter.unusedVariables false
set_option linter.unusedSimpArgs false
def laws_FnParseSize.j0:Nat→ByteArray→Bool→Bool→Bool→Int→Int→ByteArray→List (SDoc)→Int→Int→ByteArray→List (SDoc)→Option (Bool)
 | 0,_,_,_,_,_,_,_,_,_,_,_,_=>none
 | k+1,x3,x5,x7,x39,x895000,x895001,x895002,x895003,x903000,x903001,x903002,x903003=>if x39=true then ((impl_DocSame.f k x895000 x895001 x895002 x895003 x903000 x903001 x903002 x903003).bind fun t904=>(if t904=true then (some (x5 == x7)) else (none))) else (if x3.size+1≤9223372036854775807 then ((impl_ParseDoc.f k (x3++(⟨#[126]⟩:ByteArray))).bind fun bt905=>(if 0≤(wrap64 ((x3.size:Int) - 1)) then (if (wrap64 ((x3.size:Int) - 1))≤(x3.size:Int) then ((impl_ParseDoc.f k (x3.extract 0 ((wrap64 ((x3.size:Int) - 1)):Int).toNat)).bind fun bt913=>((impl_DocValid.f k x895000 x895001 x895002 x895003).bind fun t921=>(if t921=true then (if bt905.2.2.2.2=true then (none) else (some (!bt913.2.2.2.2))) else (none)))) else (none)) else (none))) else (none))
def laws_FnParseSize.f (k:Nat) (l0:List Int):Option (Bool):=if (l0.length:Int) > 1048576 then (some true) else ((spec_DrawParseDoc.f k l0).bind fun t886=>((impl_ParseDoc.f k t886).bind fun bt887=>((spec_ParseDoc.f k t886).bind fun bt895=>((impl_DocSame.f k bt887.1 bt887.2.1 bt887.2.2.1 bt887.2.2.2.1 bt895.1 bt895.2.1 bt895.2.2.1 bt895.2.2.2.1).bind fun t903=>(if t903=true then (if (bt887.2.2.2.2 != bt895.2.2.2.2)=true then (laws_FnParseSize.j0 k t886 bt887.2.2.2.2 bt895.2.2.2.2 true bt887.1 bt887.2.1 bt887.2.2.1 bt887.2.2.2.1 bt895.1 bt895.2.1 bt895.2.2.1 bt895.2.2.2.1) else (laws_FnParseSize.j0 k t886 bt887.2.2.2.2 bt895.2.2.2.2 (!bt887.2.2.2.2) bt887.1 bt887.2.1 bt887.2.2.1 bt887.2.2.2.1 bt895.1 bt895.2.1 bt895.2.2.1 bt895.2.2.2.1)) else (laws_FnParseSize.j0 k t886 bt887.2.2.2.2 bt895.2.2.2.2 true bt887.1 bt887.2.1 bt887.2.2.1 bt887.2.2.2.1 bt895.1 bt895.2.1 bt895.2.2.1 bt895.2.2.2.1))))))
set_option maxHeartbeats 8000000 in
set_option maxRecDepth 100000 in
theorem laws_FnParseSize.calls (k:Nat) (A0:Option Addr) (c0:Nat) (l0:List Int) (r:Bool) (w:World) (hr0:Kd.C (Kd.int .u8) w A0 l0.length l0) (hc0:l0.length≤c0) (h:laws_FnParseSize.f k l0=some r) :
  Calls Try.prog 13 #[.slice A0 l0.length c0] w fun e w'=>e=.returned (.bool r)∧Below w.heap.size w w':=by
 have hu27:=Try.underlying27
 have HR0:=Aside0.mk hr0
 have HC0:=Aside0.mk hc0
 clear hr0 hc0
 have HB:=Aside0.mk (Below.refl w.heap.size w)
 have H:(if (l0.length:Int) > 1048576 then (some true) else ((spec_DrawParseDoc.f k l0).bind fun t886=>((impl_ParseDoc.f k t886).bind fun bt887=>((spec_ParseDoc.f k t886).bind fun bt895=>((impl_DocSame.f k bt887.1 bt887.2.1 bt887.2.2.1 bt887.2.2.2.1 bt895.1 bt895.2.1 bt895.2.2.1 bt895.2.2.2.1).bind fun t903=>(if t903=true then (if (bt887.2.2.2.2 != bt895.2.2.2.2)=true then (laws_FnParseSize.j0 k t886 bt887.2.2.2.2 bt895.2.2.2.2 true bt887.1 bt887.2.1 bt887.2.2.1 bt887.2.2.2.1 bt895.1 bt895.2.1 bt895.2.2.1 bt895.2.2.2.1) else (laws_FnParseSize.j0 k t886 bt887.2.2.2.2 bt895.2.2.2.2 (!bt887.2.2.2.2) bt887.1 bt887.2.1 bt887.2.2.1 bt887.2.2.2.1 bt895.1 bt895.2.1 bt895.2.2.1 bt895.2.2.2.1)) else (laws_FnParseSize.j0 k t886 bt887.2.2.2.2 bt895.2.2.2.2 true bt887.1 bt887.2.1 bt887.2.2.1 bt887.2.2.2.1 bt895.1 bt895.2.1 bt895.2.2.1 bt895.2.2.2.1)))))))=some r:=h
 clear h
 by_cases c2:(l0.length:Int) > 1048576
 ·rw [if_pos c2] at H
  have c2b0:decide (1048576 < (l0.length:Int))=true:=decide_eq_true c2
  have c2b1:decide (1048576 < l0.length)=true:=decide_eq_true (by omega)
  clear c2
  obtain rfl:=Option.some.inj H
  go_enter Try.func13,Try.ntmps13
  go_wp2
  go_ret
  exact ⟨by first|rfl|(simp [errW_none,errW_some] <;> rfl)|(simp [*,errW_none,errW_some] <;> rfl),gB HB⟩
 ·rw [if_neg c2] at H
  have c2b0:decide (1048576 < (l0.length:Int))=false:=decide_eq_false c2
  have c2b1:decide (1048576 < l0.length)=false:=decide_eq_false (by omega)
  clear c2
  replace H:=Option.bind_eq_some_iff.mp H
  obtain ⟨t886,A30,H⟩:=H
  replace H:((impl_ParseDoc.f k t886).bind fun bt887=>((spec_ParseDoc.f k t886).bind fun bt895=>((impl_DocSame.f k bt887.1 bt887.2.1 bt887.2.2.1 bt887.2.2.2.1 bt895.1 bt895.2.1 bt895.2.2.1 bt895.2.2.2.1).bind fun t903=>(if t903=true then (if (bt887.2.2.2.2 != bt895.2.2.2.2)=true then (laws_FnParseSize.j0 k t886 bt887.2.2.2.2 bt895.2.2.2.2 true bt887.1 bt887.2.1 bt887.2.2.1 bt887.2.2.2.1 bt895.1 bt895.2.1 bt895.2.2.1 bt895.2.2.2.1) else (laws_FnParseSize.j0 k t886 bt887.2.2.2.2 bt895.2.2.2.2 (!bt887.2.2.2.2) bt887.1 bt887.2.1 bt887.2.2.1 bt887.2.2.2.1 bt895.1 bt895.2.1 bt895.2.2.1 bt895.2.2.2.1)) else (laws_FnParseSize.j0 k t886 bt887.2.2.2.2 bt895.2.2.2.2 true bt887.1 bt887.2.1 bt887.2.2.1 bt887.2.2.2.1 bt895.1 bt895.2.1 bt895.2.2.1 bt895.2.2.2.1)))))=some r:=H
  have A3:=Aside0.mk A30
  clear A30
  replace H:=Option.bind_eq_some_iff.mp H
  obtain ⟨⟨t887,t888,t889,t890,t893⟩,A40,H⟩:=H
  replace H:((spec_ParseDoc.f k t886).bind fun bt895=>((impl_DocSame.f k t887 t888 t889 t890 bt895.1 bt895.2.1 bt895.2.2.1 bt895.2.2.2.1).bind fun t903=>(if t903=true then (if (t893 != bt895.2.2.2.2)=true then (laws_FnParseSize.j0 k t886 t893 bt895.2.2.2.2 true t887 t888 t889 t890 bt895.1 bt895.2.1 bt895.2.2.1 bt895.2.2.2.1) else (laws_FnParseSize.j0 k t886 t893 bt895.2.2.2.2 (!t893) t887 t888 t889 t890 bt895.1 bt895.2.1 bt895.2.2.1 bt895.2.2.2.1)) else (laws_FnParseSize.j0 k t886 t893 bt895.2.2.2.2 true t887 t888 t889 t890 bt895.1 bt895.2.1 bt895.2.2.1 bt895.2.2.2.1))))=some r:=H
  have A4:=Aside0.mk A40
  clear A40
  replace H:=Option.bind_eq_some_iff.mp H
  obtain ⟨⟨t895,t896,t897,t898,t901⟩,A50,H⟩:=H
  replace H:((impl_DocSame.f k t887 t888 t889 t890 t895 t896 t897 t898).bind fun t903=>(if t903=true then (if (t893 != t901)=true then (laws_FnParseSize.j0 k t886 t893 t901 true t887 t888 t889 t890 t895 t896 t897 t898) else (laws_FnParseSize.j0 k t886 t893 t901 (!t893) t887 t888 t889 t890 t895 t896 t897 t898)) else (laws_FnParseSize.j0 k t886 t893 t901 true t887 t888 t889 t890 t895 t896 t897 t898)))=some r:=H
  have A5:=Aside0.mk A50
  clear A50
  have HC6:=Aside0.mk H
  clear H
  go_enter Try.func13,Try.ntmps13
  go_upto_region 6 with (first|((with_reducible refine gate_callee (f:=42) rfl ?_);refine goesL_ (some 16) rfl rfl Try.func42 (by kernel_rfl) rfl #[.slice A0 l0.length c0] rfl (by (try simp only [List.map_toArray,List.map_cons,List.map_nil]);first|done|rfl|(simp only [List.length_drop,List.length_take];rfl)) ?_;(with_reducible refine (spec_DrawParseDoc.calls k _ _ l0 t886 _ ?side1 ?side2 A3.out).mono ?_);(case side1=>repeat (first|exact HR0.out|(with_reducible refine Kd.C_alloc ?_ _)|(with_reducible refine Kd.C_drewN ?_ _)|(with_reducible refine Kd.C_drew ?_)));(case side2=>exact HC0.out);rintro e w7 ⟨rfl,hb⟩;refine ⟨_,rfl,?_⟩;have n0_:=Aside0.mk (below_step (gB HB) hb);clear HB;have HB:=n0_;clear n0_;(try clear hb);(try clear hb2);(try clear hk);(try clear hi))|((with_reducible refine gate_callee (f:=17) rfl ?_);refine goesL_ (some 19) rfl rfl Try.func17 (by kernel_rfl) rfl #[.string t886] rfl (by (try simp only [List.map_toArray,List.map_cons,List.map_nil]);first|done|rfl|(simp only [List.length_drop,List.length_take];rfl)) ?_;(with_reducible refine (impl_ParseDoc.calls k t886 t887 t888 t889 t890 t893 _ A4.out).mono ?_);rintro e w8 ⟨v891,rfl,ho0,hb⟩;refine ⟨_,rfl,?_⟩;have n0_:=Aside0.mk (Kd.R_lower ho0 (below_size (gB HB)));have n1_:=Aside0.mk (below_step (gB HB) hb);clear HB;have HO892:=n0_;have HB:=n1_;clear n0_ n1_;(try clear hb);(try clear hb2);(try clear hk);(try clear hi);(try clear ho0))|((with_reducible refine gate_dst (N:=4) rfl ?_);refine box_event ?hg (N:=4) ?hd (cs:=#[.int .i64 0,.int .i64 0,.string (⟨#[]⟩:ByteArray),.slice none 0 0]) (t:=27) ?hr ?_;(case hd=>rfl);(case hg=>rfl);(case hr=>first|(go_simp;done)|(go_simp;rfl));intro gb894 hg w9 hbox hb;have n0_:=Aside0.mk (Kd.R_below (Kd.R_elderB (gR HO892) gb894 (Nat.le_of_eq hg.symm)) hb);have n1_:=Aside0.mk (below_step (gB HB) hb);have n2_:=Aside0.mk (hbox);have n3_:=Aside0.mk ((by rw [hg];exact (below_size (gB HB)):w.heap.size≤gb894));have n4_:=Aside0.mk ((by rw [hg];exact (below_size (gB HB)):w.heap.size≤gb894));clear HO892;clear HB;have HO892:=n0_;have HB:=n1_;have BK894:=n2_;have GW894:=n3_;have GE894:=n4_;clear n0_ n1_ n2_ n3_ n4_;clear hb hbox hg;have hcz10_0:w9.cell? ⟨gb894,0,none⟩=some (.int .i64 0):=(blk_cell BK894.out 0).trans rfl;have hcz10_1:w9.cell? ⟨gb894,1,none⟩=some (.int .i64 0):=(blk_cell BK894.out 1).trans rfl;have hcz10_2:w9.cell? ⟨gb894,2,none⟩=some (.string (⟨#[]⟩:ByteArray)):=(blk_cell BK894.out 2).trans rfl;have hcz10_3:w9.cell? ⟨gb894,3,none⟩=some (.slice none 0 0):=(blk_cell BK894.out 3).trans rfl;have hfz10_0:=blk_frozen BK894.out 0;have hfz10_1:=blk_frozen BK894.out 1;have hfz10_2:=blk_frozen BK894.out 2;have hfz10_3:=blk_frozen BK894.out 3;obtain ⟨Ao11,co11,eo11⟩:=Kd.R_slice HO892.out;subst eo11)|((with_reducible refine gate_callee (f:=43) rfl ?_);refine goesL_ (some 24) rfl rfl Try.func43 (by kernel_rfl) rfl #[.string t886] rfl (by (try simp only [List.map_toArray,List.map_cons,List.map_nil]);first|done|rfl|(simp only [List.length_drop,List.length_take];rfl)) ?_;(with_reducible refine (spec_ParseDoc.calls k t886 t895 t896 t897 t898 t901 _ A5.out).mono ?_);rintro e w12 ⟨v899,rfl,ho0,hb⟩;refine ⟨_,rfl,?_⟩;have n0_:=Aside0.mk (Kd.R_elder' (by (with_reducible repeat (first|apply Kd.R_alloc|apply Kd.R_drewN|apply Kd.R_drew));exact (Kd.R_mono (Kd.R_far (p:=⟨gb894,3,none⟩) (Kd.R_far (p:=⟨gb894,2,none⟩) (Kd.R_far (p:=⟨gb894,1,none⟩) (Kd.R_far (p:=⟨gb894,0,none⟩) (Kd.R_mono HO892.out (fun k_ hk=>(⟨hk,hk.2⟩:_∧k_ ≠ gb894))) (fun _ hk=>hk.2) (.int .i64 t887)) (fun _ hk=>hk.2) (.int .i64 t888)) (fun _ hk=>hk.2) (.string t889)) (fun _ hk=>hk.2) (.slice Ao11 t890.length co11)) (fun _ h_=>h_.1))) (Kd.R_base ho0) hb);have n1_:=Aside0.mk (Kd.R_lower (Kd.R_newB (Kd.R_new' ho0 (Kd.R_lt (by (with_reducible repeat (first|apply Kd.R_alloc|apply Kd.R_drewN|apply Kd.R_drew));exact (Kd.R_mono (Kd.R_far (p:=⟨gb894,3,none⟩) (Kd.R_far (p:=⟨gb894,2,none⟩) (Kd.R_far (p:=⟨gb894,1,none⟩) (Kd.R_far (p:=⟨gb894,0,none⟩) (Kd.R_mono HO892.out (fun k_ hk=>(⟨hk,hk.2⟩:_∧k_ ≠ gb894))) (fun _ hk=>hk.2) (.int .i64 t887)) (fun _ hk=>hk.2) (.int .i64 t888)) (fun _ hk=>hk.2) (.string t889)) (fun _ hk=>hk.2) (.slice Ao11 t890.length co11)) (fun _ h_=>h_.1))))) (g:=gb894) (o:=.cells #[.int .i64 t887,.int .i64 t888,.string t889,.slice Ao11 t890.length co11] 27 (0,0)) (by (with_reducible repeat (first|refine blk_drewN ?_ _|refine blk_drew ?_|refine blk_alloc ?_ _));refine blk_put (cs:=#[.int .i64 t887,.int .i64 t888,.string t889,.slice none 0 0]) ?_ 3 _ rfl;(with_reducible repeat (first|refine blk_drewN ?_ _|refine blk_drew ?_|refine blk_alloc ?_ _));refine blk_put (cs:=#[.int .i64 t887,.int .i64 t888,.string (⟨#[]⟩:ByteArray),.slice none 0 0]) ?_ 2 _ rfl;(with_reducible repeat (first|refine blk_drewN ?_ _|refine blk_drew ?_|refine blk_alloc ?_ _));refine blk_put (cs:=#[.int .i64 t887,.int .i64 0,.string (⟨#[]⟩:ByteArray),.slice none 0 0]) ?_ 1 _ rfl;(with_reducible repeat (first|refine blk_drewN ?_ _|refine blk_drew ?_|refine blk_alloc ?_ _));refine blk_put (cs:=#[.int .i64 0,.int .i64 0,.string (⟨#[]⟩:ByteArray),.slice none 0 0]) ?_ 0 _ rfl;(with_reducible repeat (first|refine blk_drewN ?_ _|refine blk_drew ?_|refine blk_alloc ?_ _));exact BK894.out)) (below_size (by repeat (first|exact gB HB|refine below_set ?_ GE894.out))));have n2_:=Aside0.mk (blk_below (g:=gb894) (o:=.cells #[.int .i64 t887,.int .i64 t888,.string t889,.slice Ao11 t890.length co11] 27 (0,0)) (by (with_reducible repeat (first|refine blk_drewN ?_ _|refine blk_drew ?_|refine blk_alloc ?_ _));refine blk_put (cs:=#[.int .i64 t887,.int .i64 t888,.string t889,.slice none 0 0]) ?_ 3 _ rfl;(with_reducible repeat (first|refine blk_drewN ?_ _|refine blk_drew ?_|refine blk_alloc ?_ _));refine blk_put (cs:=#[.int .i64 t887,.int .i64 t888,.string (⟨#[]⟩:ByteArray),.slice none 0 0]) ?_ 2 _ rfl;(with_reducible repeat (first|refine blk_drewN ?_ _|refine blk_drew ?_|refine blk_alloc ?_ _));refine blk_put (cs:=#[.int .i64 t887,.int .i64 0,.string (⟨#[]⟩:ByteArray),.slice none 0 0]) ?_ 1 _ rfl;(with_reducible repeat (first|refine blk_drewN ?_ _|refine blk_drew ?_|refine blk_alloc ?_ _));refine blk_put (cs:=#[.int .i64 0,.int .i64 0,.string (⟨#[]⟩:ByteArray),.slice none 0 0]) ?_ 0 _ rfl;(with_reducible repeat (first|refine blk_drewN ?_ _|refine blk_drew ?_|refine blk_alloc ?_ _));exact BK894.out) hb);have n3_:=Aside0.mk (below_step (by repeat (first|exact gB HB|refine below_set ?_ GE894.out)) hb);clear HO892;clear BK894;clear HB;have HO892:=n0_;have HO900:=n1_;have BK894:=n2_;have HB:=n3_;clear n0_ n1_ n2_ n3_;(try clear hb);(try clear hb2);(try clear hk);(try clear hi);(try clear ho0))|((with_reducible refine gate_dst (N:=6) rfl ?_);refine box_event ?hg (N:=6) ?hd (cs:=#[.int .i64 0,.int .i64 0,.string (⟨#[]⟩:ByteArray),.slice none 0 0]) (t:=27) ?hr ?_;(case hd=>rfl);(case hg=>rfl);(case hr=>first|(go_simp;done)|(go_simp;rfl));intro gb902 hg w13 hbox hb;have n0_:=Aside0.mk (Kd.R_below (Kd.R_elderB (gR HO892) gb902 (Nat.le_of_eq hg.symm)) hb);have n1_:=Aside0.mk (Kd.R_below (Kd.R_elderB (gR HO900) gb902 (Nat.le_of_eq hg.symm)) hb);have n2_:=Aside0.mk (blk_below (g:=gb894) (o:=.cells #[.int .i64 t887,.int .i64 t888,.string t889,.slice Ao11 t890.length co11] 27 (0,0)) (gK BK894) hb);have n3_:=Aside0.mk (below_step (by repeat (first|exact gB HB|refine below_set ?_ GE894.out)) hb);have n4_:=Aside0.mk (hbox);have n5_:=Aside0.mk ((by rw [hg];exact (below_size (by repeat (first|exact gB HB|refine below_set ?_ GE894.out))):w.heap.size≤gb902));have n6_:=Aside0.mk ((by rw [hg];exact (below_size (by repeat (first|exact gB HB|refine below_set ?_ GE894.out))):w.heap.size≤gb902));have n7_:=Aside0.mk ((by rw [hg];exact Nat.ne_of_lt (blk_lt (g:=gb894) (o:=.cells #[.int .i64 t887,.int .i64 t888,.string t889,.slice Ao11 t890.length co11] 27 (0,0)) (gK BK894)):gb894 ≠ gb902));have n8_:=Aside0.mk ((by rw [hg];exact Nat.ne_of_gt (blk_lt (g:=gb894) (o:=.cells #[.int .i64 t887,.int .i64 t888,.string t889,.slice Ao11 t890.length co11] 27 (0,0)) (gK BK894)):gb902 ≠ gb894));clear HO892;clear HO900;clear BK894;clear HB;have HO892:=n0_;have HO900:=n1_;have BK894:=n2_;have HB:=n3_;have BK902:=n4_;have GW902:=n5_;have GE902:=n6_;have NB894_902:=n7_;have NB902_894:=n8_;clear n0_ n1_ n2_ n3_ n4_ n5_ n6_ n7_ n8_;clear hb hbox hg;have hnb14:=NB902_894.out;have hnc14:=NB894_902.out;have hcz15_0:w13.cell? ⟨gb902,0,none⟩=some (.int .i64 0):=(blk_cell BK902.out 0).trans rfl;have hcz15_1:w13.cell? ⟨gb902,1,none⟩=some (.int .i64 0):=(blk_cell BK902.out 1).trans rfl;have hcz15_2:w13.cell? ⟨gb902,2,none⟩=some (.string (⟨#[]⟩:ByteArray)):=(blk_cell BK902.out 2).trans rfl;have hcz15_3:w13.cell? ⟨gb902,3,none⟩=some (.slice none 0 0):=(blk_cell BK902.out 3).trans rfl;have hfz15_0:=blk_frozen BK902.out 0;have hfz15_1:=blk_frozen BK902.out 1;have hfz15_2:=blk_frozen BK902.out 2;have hfz15_3:=blk_frozen BK902.out 3;obtain ⟨Ao16,co16,eo16⟩:=Kd.R_slice HO900.out;subst eo16))
  (try simp only [Act.put,List.setIfInBounds_toArray,List.set_cons_zero,List.set_cons_succ])
  go_cut [39] (fun v39 wc=>∃ (kq:Nat) (x39_5:Bool),v39=.bool x39_5∧Aside0 (laws_FnParseSize.j0 kq t886 t893 t901 x39_5 t887 t888 t889 t890 t895 t896 t897 t898=some r)∧Aside0 (kq≤k)∧Aside0 (Kd.R k27 27 wc w.heap.size (fun k_=>some k_ ≠ ((.slice Ao16 t898.length co16):Value).ownBlock∧k_ ≠ gb894∧k_ ≠ gb902) (.slice Ao11 t890.length co11) t890)∧Aside0 (Kd.R k27 27 wc w.heap.size (fun k_=>some k_ ≠ ((.slice Ao11 t890.length co11):Value).ownBlock∧k_ ≠ gb894∧k_ ≠ gb902) (.slice Ao16 t898.length co16) t898)∧Aside0 (wc.heap[gb894]?=some (.cells #[.int .i64 t887,.int .i64 t888,.string t889,(.slice Ao11 t890.length co11)] 27 (0,0)))∧Aside0 (wc.heap[gb902]?=some (.cells #[.int .i64 t895,.int .i64 t896,.string t897,(.slice Ao16 t898.length co16)] 27 (0,0)))∧Aside0 (Below w.heap.size w wc))
  case first =>
   have H:=HC6.out
   clear HC6
   replace H:=Option.bind_eq_some_iff.mp H
   obtain ⟨t903,A170,H⟩:=H
   replace H:(if t903=true then (if (t893 != t901)=true then (laws_FnParseSize.j0 k t886 t893 t901 true t887 t888 t889 t890 t895 t896 t897 t898) else (laws_FnParseSize.j0 k t886 t893 t901 (!t893) t887 t888 t889 t890 t895 t896 t897 t898)) else (laws_FnParseSize.j0 k t886 t893 t901 true t887 t888 t889 t890 t895 t896 t897 t898))=some r:=H
   have A17:=Aside0.mk A170
   clear A170
   by_cases c18:t903=true
   ·subst c18
    have H1:(if (t893 != t901)=true then (laws_FnParseSize.j0 k t886 t893 t901 true t887 t888 t889 t890 t895 t896 t897 t898) else (laws_FnParseSize.j0 k t886 t893 t901 (!t893) t887 t888 t889 t890 t895 t896 t897 t898))=some r:=by rw [if_pos rfl] at H;exact H
    clear H
    have H:=H1
    clear H1
    by_cases c19:(t893 != t901)=true
    ·rw [if_pos c19] at H
     have c19b0:(t893 != t901)=true:=c19
     (try (have c19b1:decide (t893=t901)=false:=by simpa using c19))
     (try (have c19b2:(t893 == t901)=false:=by simpa using c19))
     (try (have c19b3:¬ (t893=t901):=by simpa using c19))
     clear c19
     (first|rw [c19b0]|(simp only [i64_w,i32_w];rw [c19b0])|skip)
     have H':=Aside0.mk H
     clear H
     have hnb20:=NB894_902.out
     have hnc20:=NB902_894.out
     have hcz21_0:w13.cell? ⟨gb894,0,none⟩=some (.int .i64 t887):=(blk_cell BK894.out 0).trans rfl
     have hcz21_1:w13.cell? ⟨gb894,1,none⟩=some (.int .i64 t888):=(blk_cell BK894.out 1).trans rfl
     have hcz21_2:w13.cell? ⟨gb894,2,none⟩=some (.string t889):=(blk_cell BK894.out 2).trans rfl
     have hcz21_3:w13.cell? ⟨gb894,3,none⟩=some (.slice Ao11 t890.length co11):=(blk_cell BK894.out 3).trans rfl
     have hfz21_0:=blk_frozen BK894.out 0
     have hfz21_1:=blk_frozen BK894.out 1
     have hfz21_2:=blk_frozen BK894.out 2
     have hfz21_3:=blk_frozen BK894.out 3
     have hcz22_0:w13.cell? ⟨gb902,0,none⟩=some (.int .i64 0):=(blk_cell BK902.out 0).trans rfl
     have hcz22_1:w13.cell? ⟨gb902,1,none⟩=some (.int .i64 0):=(blk_cell BK902.out 1).trans rfl
     have hcz22_2:w13.cell? ⟨gb902,2,none⟩=some (.string (⟨#[]⟩:ByteArray)):=(blk_cell BK902.out 2).trans rfl
     have hcz22_3:w13.cell? ⟨gb902,3,none⟩=some (.slice none 0 0):=(blk_cell BK902.out 3).trans rfl
     have hfz22_0:=blk_frozen BK902.out 0
     have hfz22_1:=blk_frozen BK902.out 1
     have hfz22_2:=blk_frozen BK902.out 2
     have hfz22_3:=blk_frozen BK902.out 3
     go_wp2_with (first|((with_reducible refine gate_callee (f:=34) rfl ?_);refine goesL_ (some 29) rfl rfl Try.func34 (by kernel_rfl) rfl #[.agg #[.int .i64 t887,.int .i64 t888,.string t889,.slice Ao11 t890.length co11],.agg #[.int .i64 t895,.int .i64 t896,.string t897,.slice Ao16 t898.length co16]] rfl (by (try simp only [List.map_toArray,List.map_cons,List.map_nil]);first|done|rfl|(simp only [List.length_drop,List.length_take];rfl)) ?_;(with_reducible refine (impl_DocSame.calls k t887 t888 t889 _ _ t890 t895 t896 t897 _ _ t898 true _ ?side1 ?side2 ?side3 ?side4 A17.out).mono ?_);(case side1=>exact (Kd.R_reads' (e:=27) (base:=w.heap.size) (n:=t890.length) (c:=co11) (by (with_reducible repeat (first|apply Kd.R_alloc|apply Kd.R_drewN|apply Kd.R_drew));exact (Kd.R_mono (Kd.R_far (p:=⟨gb902,3,none⟩) (Kd.R_far (p:=⟨gb902,2,none⟩) (Kd.R_far (p:=⟨gb902,1,none⟩) (Kd.R_far (p:=⟨gb902,0,none⟩) (Kd.R_mono HO892.out (fun k_ hk=>(⟨hk,hk.2⟩:_∧k_ ≠ gb902))) (fun _ hk=>hk.2) (.int .i64 t895)) (fun _ hk=>hk.2) (.int .i64 t896)) (fun _ hk=>hk.2) (.string t897)) (fun _ hk=>hk.2) (.slice Ao16 t898.length co16)) (fun _ h_=>h_.1)))).2.2);(case side2=>exact (Kd.R_reads' HO892.out).2.1);(case side3=>exact (Kd.R_reads' (e:=27) (base:=w.heap.size) (n:=t898.length) (c:=co16) (by (with_reducible repeat (first|apply Kd.R_alloc|apply Kd.R_drewN|apply Kd.R_drew));exact (Kd.R_mono (Kd.R_far (p:=⟨gb902,3,none⟩) (Kd.R_far (p:=⟨gb902,2,none⟩) (Kd.R_far (p:=⟨gb902,1,none⟩) (Kd.R_far (p:=⟨gb902,0,none⟩) (Kd.R_mono HO900.out (fun k_ hk=>(⟨hk,hk.2⟩:_∧k_ ≠ gb902))) (fun _ hk=>hk.2) (.int .i64 t895)) (fun _ hk=>hk.2) (.int .i64 t896)) (fun _ hk=>hk.2) (.string t897)) (fun _ hk=>hk.2) (.slice Ao16 t898.length co16)) (fun _ h_=>h_.1)))).2.2);(case side4=>exact (Kd.R_reads' HO900.out).2.1);rintro e w23 ⟨rfl,hb⟩;refine ⟨_,rfl,?_⟩;have n0_:=Aside0.mk (Kd.R_below (by (with_reducible repeat (first|apply Kd.R_alloc|apply Kd.R_drewN|apply Kd.R_drew));exact (Kd.R_mono (Kd.R_far (p:=⟨gb902,3,none⟩) (Kd.R_far (p:=⟨gb902,2,none⟩) (Kd.R_far (p:=⟨gb902,1,none⟩) (Kd.R_far (p:=⟨gb902,0,none⟩) (Kd.R_mono HO892.out (fun k_ hk=>(⟨hk,hk.2⟩:_∧k_ ≠ gb902))) (fun _ hk=>hk.2) (.int .i64 t895)) (fun _ hk=>hk.2) (.int .i64 t896)) (fun _ hk=>hk.2) (.string t897)) (fun _ hk=>hk.2) (.slice Ao16 t898.length co16)) (fun _ h_=>h_.1))) hb);have n1_:=Aside0.mk (Kd.R_below (by (with_reducible repeat (first|apply Kd.R_alloc|apply Kd.R_drewN|apply Kd.R_drew));exact (Kd.R_mono (Kd.R_far (p:=⟨gb902,3,none⟩) (Kd.R_far (p:=⟨gb902,2,none⟩) (Kd.R_far (p:=⟨gb902,1,none⟩) (Kd.R_far (p:=⟨gb902,0,none⟩) (Kd.R_mono HO900.out (fun k_ hk=>(⟨hk,hk.2⟩:_∧k_ ≠ gb902))) (fun _ hk=>hk.2) (.int .i64 t895)) (fun _ hk=>hk.2) (.int .i64 t896)) (fun _ hk=>hk.2) (.string t897)) (fun _ hk=>hk.2) (.slice Ao16 t898.length co16)) (fun _ h_=>h_.1))) hb);have n2_:=Aside0.mk (blk_below (g:=gb894) (o:=.cells #[.int .i64 t887,.int .i64 t888,.string t889,.slice Ao11 t890.length co11] 27 (0,0)) (by (with_reducible repeat (first|refine blk_drewN ?_ _|refine blk_drew ?_|refine blk_alloc ?_ _));refine blk_far ?_ NB894_902.out _;(with_reducible repeat (first|refine blk_drewN ?_ _|refine blk_drew ?_|refine blk_alloc ?_ _));refine blk_far ?_ NB894_902.out _;(with_reducible repeat (first|refine blk_drewN ?_ _|refine blk_drew ?_|refine blk_alloc ?_ _));refine blk_far ?_ NB894_902.out _;(with_reducible repeat (first|refine blk_drewN ?_ _|refine blk_drew ?_|refine blk_alloc ?_ _));refine blk_far ?_ NB894_902.out _;(with_reducible repeat (first|refine blk_drewN ?_ _|refine blk_drew ?_|refine blk_alloc ?_ _));exact BK894.out) hb);have n3_:=Aside0.mk (blk_below (g:=gb902) (o:=.cells #[.int .i64 t895,.int .i64 t896,.string t897,.slice Ao16 t898.length co16] 27 (0,0)) (by (with_reducible repeat (first|refine blk_drewN ?_ _|refine blk_drew ?_|refine blk_alloc ?_ _));refine blk_put (cs:=#[.int .i64 t895,.int .i64 t896,.string t897,.slice none 0 0]) ?_ 3 _ rfl;(with_reducible repeat (first|refine blk_drewN ?_ _|refine blk_drew ?_|refine blk_alloc ?_ _));refine blk_put (cs:=#[.int .i64 t895,.int .i64 t896,.string (⟨#[]⟩:ByteArray),.slice none 0 0]) ?_ 2 _ rfl;(with_reducible repeat (first|refine blk_drewN ?_ _|refine blk_drew ?_|refine blk_alloc ?_ _));refine blk_put (cs:=#[.int .i64 t895,.int .i64 0,.string (⟨#[]⟩:ByteArray),.slice none 0 0]) ?_ 1 _ rfl;(with_reducible repeat (first|refine blk_drewN ?_ _|refine blk_drew ?_|refine blk_alloc ?_ _));refine blk_put (cs:=#[.int .i64 0,.int .i64 0,.string (⟨#[]⟩:ByteArray),.slice none 0 0]) ?_ 0 _ rfl;(with_reducible repeat (first|refine blk_drewN ?_ _|refine blk_drew ?_|refine blk_alloc ?_ _));exact BK902.out) hb);have n4_:=Aside0.mk (below_step (by repeat (first|exact gB HB|refine below_set ?_ GE894.out|refine below_set ?_ GE902.out)) hb);clear HO892;clear HO900;clear BK894;clear BK902;clear HB;have HO892:=n0_;have HO900:=n1_;have BK894:=n2_;have BK902:=n3_;have HB:=n4_;clear n0_ n1_ n2_ n3_ n4_;(try clear hb);(try clear hb2);(try clear hk);(try clear hi)))
     go_meet
     case rel=>exact ⟨_,(true),(by first|rfl|(simp;done)|(simp [*];done)),H',⟨by first|omega|exact Nat.le_refl _⟩,⟨by (with_reducible repeat (first|apply Kd.R_alloc|apply Kd.R_drewN|apply Kd.R_drew));exact Kd.R_mono HO892.out (fun _ hk=>⟨hk.1.2,⟨hk.1.1.2,hk.2⟩⟩)⟩,⟨by (with_reducible repeat (first|apply Kd.R_alloc|apply Kd.R_drewN|apply Kd.R_drew));exact Kd.R_mono HO900.out (fun _ hk=>⟨hk.1.1.2,⟨hk.1.2,hk.2⟩⟩)⟩,⟨gK BK894⟩,⟨gK BK902⟩,⟨by repeat (first|exact gB HB|refine below_set ?_ GE894.out|refine below_set ?_ GE902.out)⟩⟩
    ·rw [if_neg c19] at H
     have c19b0:(t893 != t901)=false:=by simpa using c19
     (try (have c19b1:decide (t893=t901)=true:=by simpa using c19))
     (try (have c19b2:(t893 == t901)=true:=by simpa using c19))
     clear c19
     (first|rw [c19b0]|(simp only [i64_w,i32_w];rw [c19b0])|skip)
     have H':=Aside0.mk H
     clear H
     have hnb24:=NB894_902.out
     have hnc24:=NB902_894.out
     have hcz25_0:w13.cell? ⟨gb894,0,none⟩=some (.int .i64 t887):=(blk_cell BK894.out 0).trans rfl
     have hcz25_1:w13.cell? ⟨gb894,1,none⟩=some (.int .i64 t888):=(blk_cell BK894.out 1).trans rfl
     have hcz25_2:w13.cell? ⟨gb894,2,none⟩=some (.string t889):=(blk_cell BK894.out 2).trans rfl
     have hcz25_3:w13.cell? ⟨gb894,3,none⟩=some (.slice Ao11 t890.length co11):=(blk_cell BK894.out 3).trans rfl
     have hfz25_0:=blk_frozen BK894.out 0
     have hfz25_1:=blk_frozen BK894.out 1
     have hfz25_2:=blk_frozen BK894.out 2
     have hfz25_3:=blk_frozen BK894.out 3
     have hcz26_0:w13.cell? ⟨gb902,0,none⟩=some (.int .i64 0):=(blk_cell BK902.out 0).trans rfl
     have hcz26_1:w13.cell? ⟨gb902,1,none⟩=some (.int .i64 0):=(blk_cell BK902.out 1).trans rfl
     have hcz26_2:w13.cell? ⟨gb902,2,none⟩=some (.string (⟨#[]⟩:ByteArray)):=(blk_cell BK902.out 2).trans rfl
     have hcz26_3:w13.cell? ⟨gb902,3,none⟩=some (.slice none 0 0):=(blk_cell BK902.out 3).trans rfl
     have hfz26_0:=blk_frozen BK902.out 0
     have hfz26_1:=blk_frozen BK902.out 1
     have hfz26_2:=blk_frozen BK902.out 2
     have hfz26_3:=blk_frozen BK902.out 3
     go_wp2_with (first|((with_reducible refine gate_callee (f:=34) rfl ?_);refine goesL_ (some 29) rfl rfl Try.func34 (by kernel_rfl) rfl #[.agg #[.int .i64 t887,.int .i64 t888,.string t889,.slice Ao11 t890.length co11],.agg #[.int .i64 t895,.int .i64 t896,.string t897,.slice Ao16 t898.length co16]] rfl (by (try simp only [List.map_toArray,List.map_cons,List.map_nil]);first|done|rfl|(simp only [List.length_drop,List.length_take];rfl)) ?_;(with_reducible refine (impl_DocSame.calls k t887 t888 t889 _ _ t890 t895 t896 t897 _ _ t898 true _ ?side1 ?side2 ?side3 ?side4 A17.out).mono ?_);(case side1=>exact (Kd.R_reads' (e:=27) (base:=w.heap.size) (n:=t890.length) (c:=co11) (by (with_reducible repeat (first|apply Kd.R_alloc|apply Kd.R_drewN|apply Kd.R_drew));exact (Kd.R_mono (Kd.R_far (p:=⟨gb902,3,none⟩) (Kd.R_far (p:=⟨gb902,2,none⟩) (Kd.R_far (p:=⟨gb902,1,none⟩) (Kd.R_far (p:=⟨gb902,0,none⟩) (Kd.R_mono HO892.out (fun k_ hk=>(⟨hk,hk.2⟩:_∧k_ ≠ gb902))) (fun _ hk=>hk.2) (.int .i64 t895)) (fun _ hk=>hk.2) (.int .i64 t896)) (fun _ hk=>hk.2) (.string t897)) (fun _ hk=>hk.2) (.slice Ao16 t898.length co16)) (fun _ h_=>h_.1)))).2.2);(case side2=>exact (Kd.R_reads' HO892.out).2.1);(case side3=>exact (Kd.R_reads' (e:=27) (base:=w.heap.size) (n:=t898.length) (c:=co16) (by (with_reducible repeat (first|apply Kd.R_alloc|apply Kd.R_drewN|apply Kd.R_drew));exact (Kd.R_mono (Kd.R_far (p:=⟨gb902,3,none⟩) (Kd.R_far (p:=⟨gb902,2,none⟩) (Kd.R_far (p:=⟨gb902,1,none⟩) (Kd.R_far (p:=⟨gb902,0,none⟩) (Kd.R_mono HO900.out (fun k_ hk=>(⟨hk,hk.2⟩:_∧k_ ≠ gb902))) (fun _ hk=>hk.2) (.int .i64 t895)) (fun _ hk=>hk.2) (.int .i64 t896)) (fun _ hk=>hk.2) (.string t897)) (fun _ hk=>hk.2) (.slice Ao16 t898.length co16)) (fun _ h_=>h_.1)))).2.2);(case side4=>exact (Kd.R_reads' HO900.out).2.1);rintro e w27 ⟨rfl,hb⟩;refine ⟨_,rfl,?_⟩;have n0_:=Aside0.mk (Kd.R_below (by (with_reducible repeat (first|apply Kd.R_alloc|apply Kd.R_drewN|apply Kd.R_drew));exact (Kd.R_mono (Kd.R_far (p:=⟨gb902,3,none⟩) (Kd.R_far (p:=⟨gb902,2,none⟩) (Kd.R_far (p:=⟨gb902,1,none⟩) (Kd.R_far (p:=⟨gb902,0,none⟩) (Kd.R_mono HO892.out (fun k_ hk=>(⟨hk,hk.2⟩:_∧k_ ≠ gb902))) (fun _ hk=>hk.2) (.int .i64 t895)) (fun _ hk=>hk.2) (.int .i64 t896)) (fun _ hk=>hk.2) (.string t897)) (fun _ hk=>hk.2) (.slice Ao16 t898.length co16)) (fun _ h_=>h_.1))) hb);have n1_:=Aside0.mk (Kd.R_below (by (with_reducible repeat (first|apply Kd.R_alloc|apply Kd.R_drewN|apply Kd.R_drew));exact (Kd.R_mono (Kd.R_far (p:=⟨gb902,3,none⟩) (Kd.R_far (p:=⟨gb902,2,none⟩) (Kd.R_far (p:=⟨gb902,1,none⟩) (Kd.R_far (p:=⟨gb902,0,none⟩) (Kd.R_mono HO900.out (fun k_ hk=>(⟨hk,hk.2⟩:_∧k_ ≠ gb902))) (fun _ hk=>hk.2) (.int .i64 t895)) (fun _ hk=>hk.2) (.int .i64 t896)) (fun _ hk=>hk.2) (.string t897)) (fun _ hk=>hk.2) (.slice Ao16 t898.length co16)) (fun _ h_=>h_.1))) hb);have n2_:=Aside0.mk (blk_below (g:=gb894) (o:=.cells #[.int .i64 t887,.int .i64 t888,.string t889,.slice Ao11 t890.length co11] 27 (0,0)) (by (with_reducible repeat (first|refine blk_drewN ?_ _|refine blk_drew ?_|refine blk_alloc ?_ _));refine blk_far ?_ NB894_902.out _;(with_reducible repeat (first|refine blk_drewN ?_ _|refine blk_drew ?_|refine blk_alloc ?_ _));refine blk_far ?_ NB894_902.out _;(with_reducible repeat (first|refine blk_drewN ?_ _|refine blk_drew ?_|refine blk_alloc ?_ _));refine blk_far ?_ NB894_902.out _;(with_reducible repeat (first|refine blk_drewN ?_ _|refine blk_drew ?_|refine blk_alloc ?_ _));refine blk_far ?_ NB894_902.out _;(with_reducible repeat (first|refine blk_drewN ?_ _|refine blk_drew ?_|refine blk_alloc ?_ _));exact BK894.out) hb);have n3_:=Aside0.mk (blk_below (g:=gb902) (o:=.cells #[.int .i64 t895,.int .i64 t896,.string t897,.slice Ao16 t898.length co16] 27 (0,0)) (by (with_reducible repeat (first|refine blk_drewN ?_ _|refine blk_drew ?_|refine blk_alloc ?_ _));refine blk_put (cs:=#[.int .i64 t895,.int .i64 t896,.string t897,.slice none 0 0]) ?_ 3 _ rfl;(with_reducible repeat (first|refine blk_drewN ?_ _|refine blk_drew ?_|refine blk_alloc ?_ _));refine blk_put (cs:=#[.int .i64 t895,.int .i64 t896,.string (⟨#[]⟩:ByteArray),.slice none 0 0]) ?_ 2 _ rfl;(with_reducible repeat (first|refine blk_drewN ?_ _|refine blk_drew ?_|refine blk_alloc ?_ _));refine blk_put (cs:=#[.int .i64 t895,.int .i64 0,.string (⟨#[]⟩:ByteArray),.slice none 0 0]) ?_ 1 _ rfl;(with_reducible repeat (first|refine blk_drewN ?_ _|refine blk_drew ?_|refine blk_alloc ?_ _));refine blk_put (cs:=#[.int .i64 0,.int .i64 0,.string (⟨#[]⟩:ByteArray),.slice none 0 0]) ?_ 0 _ rfl;(with_reducible repeat (first|refine blk_drewN ?_ _|refine blk_drew ?_|refine blk_alloc ?_ _));exact BK902.out) hb);have n4_:=Aside0.mk (below_step (by repeat (first|exact gB HB|refine below_set ?_ GE894.out|refine below_set ?_ GE902.out)) hb);clear HO892;clear HO900;clear BK894;clear BK902;clear HB;have HO892:=n0_;have HO900:=n1_;have BK894:=n2_;have BK902:=n3_;have HB:=n4_;clear n0_ n1_ n2_ n3_ n4_;(try clear hb);(try clear hb2);(try clear hk);(try clear hi)))
     go_meet
     case rel=>exact ⟨_,(!t893),(by first|rfl|(simp;done)|(simp [*];done)),H',⟨by first|omega|exact Nat.le_refl _⟩,⟨by (with_reducible repeat (first|apply Kd.R_alloc|apply Kd.R_drewN|apply Kd.R_drew));exact Kd.R_mono HO892.out (fun _ hk=>⟨hk.1.2,⟨hk.1.1.2,hk.2⟩⟩)⟩,⟨by (with_reducible repeat (first|apply Kd.R_alloc|apply Kd.R_drewN|apply Kd.R_drew));exact Kd.R_mono HO900.out (fun _ hk=>⟨hk.1.1.2,⟨hk.1.2,hk.2⟩⟩)⟩,⟨gK BK894⟩,⟨gK BK902⟩,⟨by repeat (first|exact gB HB|refine below_set ?_ GE894.out|refine below_set ?_ GE902.out)⟩⟩
   ·replace c18:=Bool.eq_false_iff.mpr c18
    subst c18
    have H1:(laws_FnParseSize.j0 k t886 t893 t901 true t887 t888 t889 t890 t895 t896 t897 t898)=some r:=by rw [if_neg (show ¬ (false=true) by decide)] at H;exact H
    clear H
    have H:=H1
    clear H1
    have H':=Aside0.mk H
    clear H
    have hnb28:=NB894_902.out
    have hnc28:=NB902_894.out
    have hcz29_0:w13.cell? ⟨gb894,0,none⟩=some (.int .i64 t887):=(blk_cell BK894.out 0).trans rfl
    have hcz29_1:w13.cell? ⟨gb894,1,none⟩=some (.int .i64 t888):=(blk_cell BK894.out 1).trans rfl
    have hcz29_2:w13.cell? ⟨gb894,2,none⟩=some (.string t889):=(blk_cell BK894.out 2).trans rfl
    have hcz29_3:w13.cell? ⟨gb894,3,none⟩=some (.slice Ao11 t890.length co11):=(blk_cell BK894.out 3).trans rfl
    have hfz29_0:=blk_frozen BK894.out 0
    have hfz29_1:=blk_frozen BK894.out 1
    have hfz29_2:=blk_frozen BK894.out 2
    have hfz29_3:=blk_frozen BK894.out 3
    have hcz30_0:w13.cell? ⟨gb902,0,none⟩=some (.int .i64 0):=(blk_cell BK902.out 0).trans rfl
    have hcz30_1:w13.cell? ⟨gb902,1,none⟩=some (.int .i64 0):=(blk_cell BK902.out 1).trans rfl
    have hcz30_2:w13.cell? ⟨gb902,2,none⟩=some (.string (⟨#[]⟩:ByteArray)):=(blk_cell BK902.out 2).trans rfl
    have hcz30_3:w13.cell? ⟨gb902,3,none⟩=some (.slice none 0 0):=(blk_cell BK902.out 3).trans rfl
    have hfz30_0:=blk_frozen BK902.out 0
    have hfz30_1:=blk_frozen BK902.out 1
    have hfz30_2:=blk_frozen BK902.out 2
    have hfz30_3:=blk_frozen BK902.out 3
    go_wp2_with (first|((with_reducible refine gate_callee (f:=34) rfl ?_);refine goesL_ (some 29) rfl rfl Try.func34 (by kernel_rfl) rfl #[.agg #[.int .i64 t887,.int .i64 t888,.string t889,.slice Ao11 t890.length co11],.agg #[.int .i64 t895,.int .i64 t896,.string t897,.slice Ao16 t898.length co16]] rfl (by (try simp only [List.map_toArray,List.map_cons,List.map_nil]);first|done|rfl|(simp only [List.length_drop,List.length_take];rfl)) ?_;(with_reducible refine (impl_DocSame.calls k t887 t888 t889 _ _ t890 t895 t896 t897 _ _ t898 false _ ?side1 ?side2 ?side3 ?side4 A17.out).mono ?_);(case side1=>exact (Kd.R_reads' (e:=27) (base:=w.heap.size) (n:=t890.length) (c:=co11) (by (with_reducible repeat (first|apply Kd.R_alloc|apply Kd.R_drewN|apply Kd.R_drew));exact (Kd.R_mono (Kd.R_far (p:=⟨gb902,3,none⟩) (Kd.R_far (p:=⟨gb902,2,none⟩) (Kd.R_far (p:=⟨gb902,1,none⟩) (Kd.R_far (p:=⟨gb902,0,none⟩) (Kd.R_mono HO892.out (fun k_ hk=>(⟨hk,hk.2⟩:_∧k_ ≠ gb902))) (fun _ hk=>hk.2) (.int .i64 t895)) (fun _ hk=>hk.2) (.int .i64 t896)) (fun _ hk=>hk.2) (.string t897)) (fun _ hk=>hk.2) (.slice Ao16 t898.length co16)) (fun _ h_=>h_.1)))).2.2);(case side2=>exact (Kd.R_reads' HO892.out).2.1);(case side3=>exact (Kd.R_reads' (e:=27) (base:=w.heap.size) (n:=t898.length) (c:=co16) (by (with_reducible repeat (first|apply Kd.R_alloc|apply Kd.R_drewN|apply Kd.R_drew));exact (Kd.R_mono (Kd.R_far (p:=⟨gb902,3,none⟩) (Kd.R_far (p:=⟨gb902,2,none⟩) (Kd.R_far (p:=⟨gb902,1,none⟩) (Kd.R_far (p:=⟨gb902,0,none⟩) (Kd.R_mono HO900.out (fun k_ hk=>(⟨hk,hk.2⟩:_∧k_ ≠ gb902))) (fun _ hk=>hk.2) (.int .i64 t895)) (fun _ hk=>hk.2) (.int .i64 t896)) (fun _ hk=>hk.2) (.string t897)) (fun _ hk=>hk.2) (.slice Ao16 t898.length co16)) (fun _ h_=>h_.1)))).2.2);(case side4=>exact (Kd.R_reads' HO900.out).2.1);rintro e w31 ⟨rfl,hb⟩;refine ⟨_,rfl,?_⟩;have n0_:=Aside0.mk (Kd.R_below (by (with_reducible repeat (first|apply Kd.R_alloc|apply Kd.R_drewN|apply Kd.R_drew));exact (Kd.R_mono (Kd.R_far (p:=⟨gb902,3,none⟩) (Kd.R_far (p:=⟨gb902,2,none⟩) (Kd.R_far (p:=⟨gb902,1,none⟩) (Kd.R_far (p:=⟨gb902,0,none⟩) (Kd.R_mono HO892.out (fun k_ hk=>(⟨hk,hk.2⟩:_∧k_ ≠ gb902))) (fun _ hk=>hk.2) (.int .i64 t895)) (fun _ hk=>hk.2) (.int .i64 t896)) (fun _ hk=>hk.2) (.string t897)) (fun _ hk=>hk.2) (.slice Ao16 t898.length co16)) (fun _ h_=>h_.1))) hb);have n1_:=Aside0.mk (Kd.R_below (by (with_reducible repeat (first|apply Kd.R_alloc|apply Kd.R_drewN|apply Kd.R_drew));exact (Kd.R_mono (Kd.R_far (p:=⟨gb902,3,none⟩) (Kd.R_far (p:=⟨gb902,2,none⟩) (Kd.R_far (p:=⟨gb902,1,none⟩) (Kd.R_far (p:=⟨gb902,0,none⟩) (Kd.R_mono HO900.out (fun k_ hk=>(⟨hk,hk.2⟩:_∧k_ ≠ gb902))) (fun _ hk=>hk.2) (.int .i64 t895)) (fun _ hk=>hk.2) (.int .i64 t896)) (fun _ hk=>hk.2) (.string t897)) (fun _ hk=>hk.2) (.slice Ao16 t898.length co16)) (fun _ h_=>h_.1))) hb);have n2_:=Aside0.mk (blk_below (g:=gb894) (o:=.cells #[.int .i64 t887,.int .i64 t888,.string t889,.slice Ao11 t890.length co11] 27 (0,0)) (by (with_reducible repeat (first|refine blk_drewN ?_ _|refine blk_drew ?_|refine blk_alloc ?_ _));refine blk_far ?_ NB894_902.out _;(with_reducible repeat (first|refine blk_drewN ?_ _|refine blk_drew ?_|refine blk_alloc ?_ _));refine blk_far ?_ NB894_902.out _;(with_reducible repeat (first|refine blk_drewN ?_ _|refine blk_drew ?_|refine blk_alloc ?_ _));refine blk_far ?_ NB894_902.out _;(with_reducible repeat (first|refine blk_drewN ?_ _|refine blk_drew ?_|refine blk_alloc ?_ _));refine blk_far ?_ NB894_902.out _;(with_reducible repeat (first|refine blk_drewN ?_ _|refine blk_drew ?_|refine blk_alloc ?_ _));exact BK894.out) hb);have n3_:=Aside0.mk (blk_below (g:=gb902) (o:=.cells #[.int .i64 t895,.int .i64 t896,.string t897,.slice Ao16 t898.length co16] 27 (0,0)) (by (with_reducible repeat (first|refine blk_drewN ?_ _|refine blk_drew ?_|refine blk_alloc ?_ _));refine blk_put (cs:=#[.int .i64 t895,.int .i64 t896,.string t897,.slice none 0 0]) ?_ 3 _ rfl;(with_reducible repeat (first|refine blk_drewN ?_ _|refine blk_drew ?_|refine blk_alloc ?_ _));refine blk_put (cs:=#[.int .i64 t895,.int .i64 t896,.string (⟨#[]⟩:ByteArray),.slice none 0 0]) ?_ 2 _ rfl;(with_reducible repeat (first|refine blk_drewN ?_ _|refine blk_drew ?_|refine blk_alloc ?_ _));refine blk_put (cs:=#[.int .i64 t895,.int .i64 0,.string (⟨#[]⟩:ByteArray),.slice none 0 0]) ?_ 1 _ rfl;(with_reducible repeat (first|refine blk_drewN ?_ _|refine blk_drew ?_|refine blk_alloc ?_ _));refine blk_put (cs:=#[.int .i64 0,.int .i64 0,.string (⟨#[]⟩:ByteArray),.slice none 0 0]) ?_ 0 _ rfl;(with_reducible repeat (first|refine blk_drewN ?_ _|refine blk_drew ?_|refine blk_alloc ?_ _));exact BK902.out) hb);have n4_:=Aside0.mk (below_step (by repeat (first|exact gB HB|refine below_set ?_ GE894.out|refine below_set ?_ GE902.out)) hb);clear HO892;clear HO900;clear BK894;clear BK902;clear HB;have HO892:=n0_;have HO900:=n1_;have BK894:=n2_;have BK902:=n3_;have HB:=n4_;clear n0_ n1_ n2_ n3_ n4_;(try clear hb);(try clear hb2);(try clear hk);(try clear hi)))
    go_meet
    case rel=>exact ⟨_,(true),(by first|rfl|(simp;done)|(simp [*];done)),H',⟨by first|omega|exact Nat.le_refl _⟩,⟨by (with_reducible repeat (first|apply Kd.R_alloc|apply Kd.R_drewN|apply Kd.R_drew));exact Kd.R_mono HO892.out (fun _ hk=>⟨hk.1.2,⟨hk.1.1.2,hk.2⟩⟩)⟩,⟨by (with_reducible repeat (first|apply Kd.R_alloc|apply Kd.R_drewN|apply Kd.R_drew));exact Kd.R_mono HO900.out (fun _ hk=>⟨hk.1.1.2,⟨hk.1.2,hk.2⟩⟩)⟩,⟨gK BK894⟩,⟨gK BK902⟩,⟨by repeat (first|exact gB HB|refine below_set ?_ GE894.out|refine below_set ?_ GE902.out)⟩⟩
  case rest =>
   clear HC6
   try clear c1 c2 c2b0 c2b1 p2 c3 c4 c13 c14 c17 c18 c19 c19b0 c19b1 c19b2 c20 c24 c28 hcz10_0 hcz10_1 hcz10_2 hcz10_3 hcz15_0 hcz15_1 hcz15_2 hcz15_3 hcz21_0 hcz21_1 hcz21_2 hcz21_3 hcz22_0 hcz22_1 hcz22_2 hcz22_3 hcz25_0 hcz25_1 hcz25_2 hcz25_3 hcz26_0 hcz26_1 hcz26_2 hcz26_3 hcz29_0 hcz29_1 hcz29_2 hcz29_3 hcz30_0 hcz30_1 hcz30_2 hcz30_3 hfz10_0 hfz10_1 hfz10_2 hfz10_3 hfz15_0 hfz15_1 hfz15_2 hfz15_3 hfz21_0 hfz21_1 hfz21_2 hfz21_3 hfz22_0 hfz22_1 hfz22_2 hfz22_3 hfz25_0 hfz25_1 hfz25_2 hfz25_3 hfz26_0 hfz26_1 hfz26_2 hfz26_3 hfz29_0 hfz29_1 hfz29_2 hfz29_3 hfz30_0 hfz30_1 hfz30_2 hfz30_3
   obtain ⟨kq,x39_5,rfl,HA,HJ5,HO_895003,HO_903003,BK894,BK902,HB⟩:=hcut
   cases kq with
   | zero=>exact absurd HA.out (by simp [laws_FnParseSize.j0])
   | succ kj5 =>
    have H:=HA.out
    clear HA
    simp only [laws_FnParseSize.j0] at H
    by_cases c32:x39_5=true
    ·subst c32
     have H1:((impl_DocSame.f kj5 t887 t888 t889 t890 t895 t896 t897 t898).bind fun t904=>(if t904=true then (some (t893 == t901)) else (none)))=some r:=by rw [if_pos rfl] at H;exact H
     clear H
     have H:=H1
     clear H1
     replace H:=Option.bind_eq_some_iff.mp H
     obtain ⟨t904,A330,H⟩:=H
     replace H:(if t904=true then (some (t893 == t901)) else (none))=some r:=H
     have A33:=Aside0.mk A330
     clear A330
     by_cases c34:t904=true
     ·subst c34
      have H1:(some (t893 == t901))=some r:=by rw [if_pos rfl] at H;exact H
      clear H
      have H:=H1
      clear H1
      obtain rfl:=Option.some.inj H
      have hnb35:=NB894_902.out
      have hnc35:=NB902_894.out
      have hcz36_0:wc.cell? ⟨gb894,0,none⟩=some (.int .i64 t887):=(blk_cell BK894.out 0).trans rfl
      have hcz36_1:wc.cell? ⟨gb894,1,none⟩=some (.int .i64 t888):=(blk_cell BK894.out 1).trans rfl
      have hcz36_2:wc.cell? ⟨gb894,2,none⟩=some (.string t889):=(blk_cell BK894.out 2).trans rfl
      have hcz36_3:wc.cell? ⟨gb894,3,none⟩=some (.slice Ao11 t890.length co11):=(blk_cell BK894.out 3).trans rfl
      have hfz36_0:=blk_frozen BK894.out 0
      have hfz36_1:=blk_frozen BK894.out 1
      have hfz36_2:=blk_frozen BK894.out 2
      have hfz36_3:=blk_frozen BK894.out 3
      have hcz37_0:wc.cell? ⟨gb902,0,none⟩=some (.int .i64 t895):=(blk_cell BK902.out 0).trans rfl
      have hcz37_1:wc.cell? ⟨gb902,1,none⟩=some (.int .i64 t896):=(blk_cell BK902.out 1).trans rfl
      have hcz37_2:wc.cell? ⟨gb902,2,none⟩=some (.string t897):=(blk_cell BK902.out 2).trans rfl
      have hcz37_3:wc.cell? ⟨gb902,3,none⟩=some (.slice Ao16 t898.length co16):=(blk_cell BK902.out 3).trans rfl
      have hfz37_0:=blk_frozen BK902.out 0
      have hfz37_1:=blk_frozen BK902.out 1
      have hfz37_2:=blk_frozen BK902.out 2
      have hfz37_3:=blk_frozen BK902.out 3
      go_wp2_with (first|((with_reducible refine gate_callee (f:=34) rfl ?_);refine goesL_ (some 42) rfl rfl Try.func34 (by kernel_rfl) rfl #[.agg #[.int .i64 t887,.int .i64 t888,.string t889,.slice Ao11 t890.length co11],.agg #[.int .i64 t895,.int .i64 t896,.string t897,.slice Ao16 t898.length co16]] rfl (by (try simp only [List.map_toArray,List.map_cons,List.map_nil]);first|done|rfl|(simp only [List.length_drop,List.length_take];rfl)) ?_;(with_reducible refine (impl_DocSame.calls kj5 t887 t888 t889 _ _ t890 t895 t896 t897 _ _ t898 true _ ?side1 ?side2 ?side3 ?side4 A33.out).mono ?_);(case side1=>exact gC ((Kd.R_reads' HO_895003.out).2.2));(case side2=>exact (Kd.R_reads' HO_895003.out).2.1);(case side3=>exact gC ((Kd.R_reads' HO_903003.out).2.2));(case side4=>exact (Kd.R_reads' HO_903003.out).2.1);rintro e w38 ⟨rfl,hb⟩;refine ⟨_,rfl,?_⟩;have n0_:=Aside0.mk (Kd.R_below (gR HO_895003) hb);have n1_:=Aside0.mk (Kd.R_below (gR HO_903003) hb);have n2_:=Aside0.mk (blk_below (g:=gb894) (o:=.cells #[.int .i64 t887,.int .i64 t888,.string t889,.slice Ao11 t890.length co11] 27 (0,0)) (gK BK894) hb);have n3_:=Aside0.mk (blk_below (g:=gb902) (o:=.cells #[.int .i64 t895,.int .i64 t896,.string t897,.slice Ao16 t898.length co16] 27 (0,0)) (gK BK902) hb);have n4_:=Aside0.mk (below_step (by repeat (first|exact gB HB|refine below_set ?_ GE894.out|refine below_set ?_ GE902.out)) hb);clear HO_895003;clear HO_903003;clear BK894;clear BK902;clear HB;have HO_895003:=n0_;have HO_903003:=n1_;have BK894:=n2_;have BK902:=n3_;have HB:=n4_;clear n0_ n1_ n2_ n3_ n4_;(try clear hb);(try clear hb2);(try clear hk);(try clear hi)))
      go_ret
      exact ⟨by first|rfl|(simp [errW_none,errW_some] <;> rfl)|(simp [*,errW_none,errW_some] <;> rfl),by repeat (first|exact gB HB|refine below_set ?_ GE894.out|refine below_set ?_ GE902.out)⟩
     ·replace c34:=Bool.eq_false_iff.mpr c34
      subst c34
      have H1:(none)=some r:=by rw [if_neg (show ¬ (false=true) by decide)] at H;exact H
      clear H
      have H:=H1
      clear H1
      exact absurd H (by simp)
    ·replace c32:=Bool.eq_false_iff.mpr c32
     subst c32
     have H1:(if t886.size+1≤9223372036854775807 then ((impl_ParseDoc.f kj5 (t886++(⟨#[126]⟩:ByteArray))).bind fun bt905=>(if 0≤(wrap64 ((t886.size:Int) - 1)) then (if (wrap64 ((t886.size:Int) - 1))≤(t886.size:Int) then ((impl_ParseDoc.f kj5 (t886.extract 0 ((wrap64 ((t886.size:Int) - 1)):Int).toNat)).bind fun bt913=>((impl_DocValid.f kj5 t887 t888 t889 t890).bind fun t921=>(if t921=true then (if bt905.2.2.2.2=true then (none) else (some (!bt913.2.2.2.2))) else (none)))) else (none)) else (none))) else (none))=some r:=by rw [if_neg (show ¬ (false=true) by decide)] at H;exact H
     clear H
     have H:=H1
     clear H1
     by_cases c39:t886.size+1≤9223372036854775807
     ·rw [if_pos c39] at H
      have c39b0:=eq_true c39
      have c39b1:decide (t886.size+1≤9223372036854775807)=true:=decide_eq_true c39
      try have c39b2:(9223372036854775807 < t886.size+1)=False:=eq_false (Nat.not_lt.2 c39)
      replace H:=Option.bind_eq_some_iff.mp H
      obtain ⟨⟨t905,t906,t907,t908,t911⟩,A400,H⟩:=H
      replace H:(if 0≤(wrap64 ((t886.size:Int) - 1)) then (if (wrap64 ((t886.size:Int) - 1))≤(t886.size:Int) then ((impl_ParseDoc.f kj5 (t886.extract 0 ((wrap64 ((t886.size:Int) - 1)):Int).toNat)).bind fun bt913=>((impl_DocValid.f kj5 t887 t888 t889 t890).bind fun t921=>(if t921=true then (if t911=true then (none) else (some (!bt913.2.2.2.2))) else (none)))) else (none)) else (none))=some r:=H
      have A40:=Aside0.mk A400
      clear A400
      obtain ⟨ji41,hji41⟩:∃ j_:Int,(wrap64 ((t886.size:Int) - 1))=j_:=⟨_,rfl⟩
      replace H:(if 0≤(ji41) then (if (ji41)≤(t886.size:Int) then ((impl_ParseDoc.f kj5 (t886.extract 0 ((ji41):Int).toNat)).bind fun bt913=>((impl_DocValid.f kj5 t887 t888 t889 t890).bind fun t921=>(if t921=true then (if t911=true then (none) else (some (!bt913.2.2.2.2))) else (none)))) else (none)) else (none))=some r:=by first|(rw [hji41] at H;exact H)|(simp only [hji41] at H ⊢;exact H)
      (try rw [hji41] at A40)
      have hji41w:(IntKind.i64.wrap ((t886.size:Int) - 1))=ji41:=(i64_w _).trans hji41
      by_cases c42:0≤(ji41)
      ·rw [if_pos c42] at H
       have c42b0:=eq_true c42
       have c42b1:decide (0≤(ji41))=true:=decide_eq_true c42
       clear c42
       by_cases c43:(ji41)≤(t886.size:Int)
       ·rw [if_pos c43] at H
        have c43b0:=eq_true c43
        have c43b1:decide ((ji41)≤(t886.size:Int))=true:=decide_eq_true c43
        clear c43
        replace H:=Option.bind_eq_some_iff.mp H
        obtain ⟨⟨t913,t914,t915,t916,t919⟩,A440,H⟩:=H
        replace H:((impl_DocValid.f kj5 t887 t888 t889 t890).bind fun t921=>(if t921=true then (if t911=true then (none) else (some (!t919))) else (none)))=some r:=H
        have A44:=Aside0.mk A440
        clear A440
        replace H:=Option.bind_eq_some_iff.mp H
        obtain ⟨t921,A450,H⟩:=H
        replace H:(if t921=true then (if t911=true then (none) else (some (!t919))) else (none))=some r:=H
        have A45:=Aside0.mk A450
        clear A450
        by_cases c46:t921=true
        ·subst c46
         have H1:(if t911=true then (none) else (some (!t919)))=some r:=by rw [if_pos rfl] at H;exact H
         clear H
         have H:=H1
         clear H1
         by_cases c47:t911=true
         ·subst c47
          have H1:(none)=some r:=by rw [if_pos rfl] at H;exact H
          clear H
          have H:=H1
          clear H1
          exact absurd H (by simp)
         ·replace c47:=Bool.eq_false_iff.mpr c47
          subst c47
          have H1:(some (!t919))=some r:=by rw [if_neg (show ¬ (false=true) by decide)] at H;exact H
          clear H
          have H:=H1
          clear H1
          obtain rfl:=Option.some.inj H
          go_wp2_with (first|((with_reducible refine gate_callee (f:=17) rfl ?_);refine goesL_ (some 51) rfl rfl Try.func17 (by kernel_rfl) rfl #[.string (t886++(⟨#[126]⟩:ByteArray))] rfl (by (try simp only [List.map_toArray,List.map_cons,List.map_nil]);first|done|rfl|(simp only [List.length_drop,List.length_take];rfl)) ?_;(with_reducible refine (impl_ParseDoc.calls kj5 (t886++(⟨#[126]⟩:ByteArray)) t905 t906 t907 t908 false _ A40.out).mono ?_);rintro e w48 ⟨v909,rfl,ho0,hb⟩;refine ⟨_,rfl,?_⟩;have n0_:=Aside0.mk (Kd.R_elder' (gR HO_895003) (Kd.R_base ho0) hb);have n1_:=Aside0.mk (Kd.R_elder' (gR HO_903003) (Kd.R_base ho0) hb);have n2_:=Aside0.mk (Kd.R_lower (Kd.R_newB (Kd.R_newB (Kd.R_new' (Kd.R_new' ho0 (Kd.R_lt (gR HO_895003))) (Kd.R_lt (gR HO_903003))) (g:=gb894) (o:=.cells #[.int .i64 t887,.int .i64 t888,.string t889,.slice Ao11 t890.length co11] 27 (0,0)) (gK BK894)) (g:=gb902) (o:=.cells #[.int .i64 t895,.int .i64 t896,.string t897,.slice Ao16 t898.length co16] 27 (0,0)) (gK BK902)) (below_size (by repeat (first|exact gB HB|refine below_set ?_ GE894.out|refine below_set ?_ GE902.out))));have n3_:=Aside0.mk (blk_below (g:=gb894) (o:=.cells #[.int .i64 t887,.int .i64 t888,.string t889,.slice Ao11 t890.length co11] 27 (0,0)) (gK BK894) hb);have n4_:=Aside0.mk (blk_below (g:=gb902) (o:=.cells #[.int .i64 t895,.int .i64 t896,.string t897,.slice Ao16 t898.length co16] 27 (0,0)) (gK BK902) hb);have n5_:=Aside0.mk (below_step (by repeat (first|exact gB HB|refine below_set ?_ GE894.out|refine below_set ?_ GE902.out)) hb);clear HO_895003;clear HO_903003;clear BK894;clear BK902;clear HB;have HO_895003:=n0_;have HO_903003:=n1_;have HO910:=n2_;have BK894:=n3_;have BK902:=n4_;have HB:=n5_;clear n0_ n1_ n2_ n3_ n4_ n5_;(try clear hb);(try clear hb2);(try clear hk);(try clear hi);(try clear ho0))|((with_reducible refine gate_dst (N:=8) rfl ?_);refine box_event ?hg (N:=8) ?hd (cs:=#[.int .i64 0,.int .i64 0,.string (⟨#[]⟩:ByteArray),.slice none 0 0]) (t:=27) ?hr ?_;(case hd=>rfl);(case hg=>rfl);(case hr=>first|(go_simp;done)|(go_simp;rfl));intro gb912 hg w49 hbox hb;have n0_:=Aside0.mk (Kd.R_below (Kd.R_elderB (gR HO_895003) gb912 (Nat.le_of_eq hg.symm)) hb);have n1_:=Aside0.mk (Kd.R_below (Kd.R_elderB (gR HO_903003) gb912 (Nat.le_of_eq hg.symm)) hb);have n2_:=Aside0.mk (Kd.R_below (Kd.R_elderB (gR HO910) gb912 (Nat.le_of_eq hg.symm)) hb);have n3_:=Aside0.mk (blk_below (g:=gb894) (o:=.cells #[.int .i64 t887,.int .i64 t888,.string t889,.slice Ao11 t890.length co11] 27 (0,0)) (gK BK894) hb);have n4_:=Aside0.mk (blk_below (g:=gb902) (o:=.cells #[.int .i64 t895,.int .i64 t896,.string t897,.slice Ao16 t898.length co16] 27 (0,0)) (gK BK902) hb);have n5_:=Aside0.mk (below_step (by repeat (first|exact gB HB|refine below_set ?_ GE894.out|refine below_set ?_ GE902.out)) hb);have n6_:=Aside0.mk (hbox);have n7_:=Aside0.mk ((by rw [hg];exact (below_size (by repeat (first|exact gB HB|refine below_set ?_ GE894.out|refine below_set ?_ GE902.out))):w.heap.size≤gb912));have n8_:=Aside0.mk ((by rw [hg];exact (below_size (by repeat (first|exact gB HB|refine below_set ?_ GE894.out|refine below_set ?_ GE902.out))):w.heap.size≤gb912));have n9_:=Aside0.mk ((by rw [hg];exact Nat.ne_of_lt (blk_lt (g:=gb894) (o:=.cells #[.int .i64 t887,.int .i64 t888,.string t889,.slice Ao11 t890.length co11] 27 (0,0)) (gK BK894)):gb894 ≠ gb912));have n10_:=Aside0.mk ((by rw [hg];exact Nat.ne_of_gt (blk_lt (g:=gb894) (o:=.cells #[.int .i64 t887,.int .i64 t888,.string t889,.slice Ao11 t890.length co11] 27 (0,0)) (gK BK894)):gb912 ≠ gb894));have n11_:=Aside0.mk ((by rw [hg];exact Nat.ne_of_lt (blk_lt (g:=gb902) (o:=.cells #[.int .i64 t895,.int .i64 t896,.string t897,.slice Ao16 t898.length co16] 27 (0,0)) (gK BK902)):gb902 ≠ gb912));have n12_:=Aside0.mk ((by rw [hg];exact Nat.ne_of_gt (blk_lt (g:=gb902) (o:=.cells #[.int .i64 t895,.int .i64 t896,.string t897,.slice Ao16 t898.length co16] 27 (0,0)) (gK BK902)):gb912 ≠ gb902));clear HO_895003;clear HO_903003;clear HO910;clear BK894;clear BK902;clear HB;have HO_895003:=n0_;have HO_903003:=n1_;have HO910:=n2_;have BK894:=n3_;have BK902:=n4_;have HB:=n5_;have BK912:=n6_;have GW912:=n7_;have GE912:=n8_;have NB894_912:=n9_;have NB912_894:=n10_;have NB902_912:=n11_;have NB912_902:=n12_;clear n0_ n1_ n2_ n3_ n4_ n5_ n6_ n7_ n8_ n9_ n10_ n11_ n12_;clear hb hbox hg;have hnb50:=NB912_894.out;have hnc50:=NB894_912.out;have hnb51:=NB912_902.out;have hnc51:=NB902_912.out;have hcz52_0:w49.cell? ⟨gb912,0,none⟩=some (.int .i64 0):=(blk_cell BK912.out 0).trans rfl;have hcz52_1:w49.cell? ⟨gb912,1,none⟩=some (.int .i64 0):=(blk_cell BK912.out 1).trans rfl;have hcz52_2:w49.cell? ⟨gb912,2,none⟩=some (.string (⟨#[]⟩:ByteArray)):=(blk_cell BK912.out 2).trans rfl;have hcz52_3:w49.cell? ⟨gb912,3,none⟩=some (.slice none 0 0):=(blk_cell BK912.out 3).trans rfl;have hfz52_0:=blk_frozen BK912.out 0;have hfz52_1:=blk_frozen BK912.out 1;have hfz52_2:=blk_frozen BK912.out 2;have hfz52_3:=blk_frozen BK912.out 3;obtain ⟨Ao53,co53,eo53⟩:=Kd.R_slice HO910.out;subst eo53)|((with_reducible refine gate_callee (f:=17) rfl ?_);refine goesL_ (some 60) rfl rfl Try.func17 (by kernel_rfl) rfl #[.string (t886.extract 0 ((ji41):Int).toNat)] rfl (by (try simp only [List.map_toArray,List.map_cons,List.map_nil]);first|done|(simp only [hji41];rfl)|rfl|(simp only [List.length_drop,List.length_take];rfl)) ?_;(with_reducible refine (impl_ParseDoc.calls kj5 (t886.extract 0 ((ji41):Int).toNat) t913 t914 t915 t916 t919 _ A44.out).mono ?_);rintro e w54 ⟨v917,rfl,ho0,hb⟩;refine ⟨_,rfl,?_⟩;have n0_:=Aside0.mk (Kd.R_elder' (by (with_reducible repeat (first|apply Kd.R_alloc|apply Kd.R_drewN|apply Kd.R_drew));exact (Kd.R_mono (Kd.R_far (p:=⟨gb912,3,none⟩) (Kd.R_far (p:=⟨gb912,2,none⟩) (Kd.R_far (p:=⟨gb912,1,none⟩) (Kd.R_far (p:=⟨gb912,0,none⟩) (Kd.R_mono HO_895003.out (fun k_ hk=>(⟨hk,hk.2⟩:_∧k_ ≠ gb912))) (fun _ hk=>hk.2) (.int .i64 t905)) (fun _ hk=>hk.2) (.int .i64 t906)) (fun _ hk=>hk.2) (.string t907)) (fun _ hk=>hk.2) (.slice Ao53 t908.length co53)) (fun _ h_=>h_.1))) (Kd.R_base ho0) hb);have n1_:=Aside0.mk (Kd.R_elder' (by (with_reducible repeat (first|apply Kd.R_alloc|apply Kd.R_drewN|apply Kd.R_drew));exact (Kd.R_mono (Kd.R_far (p:=⟨gb912,3,none⟩) (Kd.R_far (p:=⟨gb912,2,none⟩) (Kd.R_far (p:=⟨gb912,1,none⟩) (Kd.R_far (p:=⟨gb912,0,none⟩) (Kd.R_mono HO_903003.out (fun k_ hk=>(⟨hk,hk.2⟩:_∧k_ ≠ gb912))) (fun _ hk=>hk.2) (.int .i64 t905)) (fun _ hk=>hk.2) (.int .i64 t906)) (fun _ hk=>hk.2) (.string t907)) (fun _ hk=>hk.2) (.slice Ao53 t908.length co53)) (fun _ h_=>h_.1))) (Kd.R_base ho0) hb);have n2_:=Aside0.mk (Kd.R_elder' (by (with_reducible repeat (first|apply Kd.R_alloc|apply Kd.R_drewN|apply Kd.R_drew));exact (Kd.R_mono (Kd.R_far (p:=⟨gb912,3,none⟩) (Kd.R_far (p:=⟨gb912,2,none⟩) (Kd.R_far (p:=⟨gb912,1,none⟩) (Kd.R_far (p:=⟨gb912,0,none⟩) (Kd.R_mono HO910.out (fun k_ hk=>(⟨hk,hk.2⟩:_∧k_ ≠ gb912))) (fun _ hk=>hk.2) (.int .i64 t905)) (fun _ hk=>hk.2) (.int .i64 t906)) (fun _ hk=>hk.2) (.string t907)) (fun _ hk=>hk.2) (.slice Ao53 t908.length co53)) (fun _ h_=>h_.1))) (Kd.R_base ho0) hb);have n3_:=Aside0.mk (Kd.R_lower (Kd.R_newB (Kd.R_newB (Kd.R_newB (Kd.R_new' (Kd.R_new' (Kd.R_new' ho0 (Kd.R_lt (by (with_reducible repeat (first|apply Kd.R_alloc|apply Kd.R_drewN|apply Kd.R_drew));exact (Kd.R_mono (Kd.R_far (p:=⟨gb912,3,none⟩) (Kd.R_far (p:=⟨gb912,2,none⟩) (Kd.R_far (p:=⟨gb912,1,none⟩) (Kd.R_far (p:=⟨gb912,0,none⟩) (Kd.R_mono HO_895003.out (fun k_ hk=>(⟨hk,hk.2⟩:_∧k_ ≠ gb912))) (fun _ hk=>hk.2) (.int .i64 t905)) (fun _ hk=>hk.2) (.int .i64 t906)) (fun _ hk=>hk.2) (.string t907)) (fun _ hk=>hk.2) (.slice Ao53 t908.length co53)) (fun _ h_=>h_.1))))) (Kd.R_lt (by (with_reducible repeat (first|apply Kd.R_alloc|apply Kd.R_drewN|apply Kd.R_drew));exact (Kd.R_mono (Kd.R_far (p:=⟨gb912,3,none⟩) (Kd.R_far (p:=⟨gb912,2,none⟩) (Kd.R_far (p:=⟨gb912,1,none⟩) (Kd.R_far (p:=⟨gb912,0,none⟩) (Kd.R_mono HO_903003.out (fun k_ hk=>(⟨hk,hk.2⟩:_∧k_ ≠ gb912))) (fun _ hk=>hk.2) (.int .i64 t905)) (fun _ hk=>hk.2) (.int .i64 t906)) (fun _ hk=>hk.2) (.string t907)) (fun _ hk=>hk.2) (.slice Ao53 t908.length co53)) (fun _ h_=>h_.1))))) (Kd.R_lt (by (with_reducible repeat (first|apply Kd.R_alloc|apply Kd.R_drewN|apply Kd.R_drew));exact (Kd.R_mono (Kd.R_far (p:=⟨gb912,3,none⟩) (Kd.R_far (p:=⟨gb912,2,none⟩) (Kd.R_far (p:=⟨gb912,1,none⟩) (Kd.R_far (p:=⟨gb912,0,none⟩) (Kd.R_mono HO910.out (fun k_ hk=>(⟨hk,hk.2⟩:_∧k_ ≠ gb912))) (fun _ hk=>hk.2) (.int .i64 t905)) (fun _ hk=>hk.2) (.int .i64 t906)) (fun _ hk=>hk.2) (.string t907)) (fun _ hk=>hk.2) (.slice Ao53 t908.length co53)) (fun _ h_=>h_.1))))) (g:=gb894) (o:=.cells #[.int .i64 t887,.int .i64 t888,.string t889,.slice Ao11 t890.length co11] 27 (0,0)) (by (with_reducible repeat (first|refine blk_drewN ?_ _|refine blk_drew ?_|refine blk_alloc ?_ _));refine blk_far ?_ NB894_912.out _;(with_reducible repeat (first|refine blk_drewN ?_ _|refine blk_drew ?_|refine blk_alloc ?_ _));refine blk_far ?_ NB894_912.out _;(with_reducible repeat (first|refine blk_drewN ?_ _|refine blk_drew ?_|refine blk_alloc ?_ _));refine blk_far ?_ NB894_912.out _;(with_reducible repeat (first|refine blk_drewN ?_ _|refine blk_drew ?_|refine blk_alloc ?_ _));refine blk_far ?_ NB894_912.out _;(with_reducible repeat (first|refine blk_drewN ?_ _|refine blk_drew ?_|refine blk_alloc ?_ _));exact BK894.out)) (g:=gb902) (o:=.cells #[.int .i64 t895,.int .i64 t896,.string t897,.slice Ao16 t898.length co16] 27 (0,0)) (by (with_reducible repeat (first|refine blk_drewN ?_ _|refine blk_drew ?_|refine blk_alloc ?_ _));refine blk_far ?_ NB902_912.out _;(with_reducible repeat (first|refine blk_drewN ?_ _|refine blk_drew ?_|refine blk_alloc ?_ _));refine blk_far ?_ NB902_912.out _;(with_reducible repeat (first|refine blk_drewN ?_ _|refine blk_drew ?_|refine blk_alloc ?_ _));refine blk_far ?_ NB902_912.out _;(with_reducible repeat (first|refine blk_drewN ?_ _|refine blk_drew ?_|refine blk_alloc ?_ _));refine blk_far ?_ NB902_912.out _;(with_reducible repeat (first|refine blk_drewN ?_ _|refine blk_drew ?_|refine blk_alloc ?_ _));exact BK902.out)) (g:=gb912) (o:=.cells #[.int .i64 t905,.int .i64 t906,.string t907,.slice Ao53 t908.length co53] 27 (0,0)) (by (with_reducible repeat (first|refine blk_drewN ?_ _|refine blk_drew ?_|refine blk_alloc ?_ _));refine blk_put (cs:=#[.int .i64 t905,.int .i64 t906,.string t907,.slice none 0 0]) ?_ 3 _ rfl;(with_reducible repeat (first|refine blk_drewN ?_ _|refine blk_drew ?_|refine blk_alloc ?_ _));refine blk_put (cs:=#[.int .i64 t905,.int .i64 t906,.string (⟨#[]⟩:ByteArray),.slice none 0 0]) ?_ 2 _ rfl;(with_reducible repeat (first|refine blk_drewN ?_ _|refine blk_drew ?_|refine blk_alloc ?_ _));refine blk_put (cs:=#[.int .i64 t905,.int .i64 0,.string (⟨#[]⟩:ByteArray),.slice none 0 0]) ?_ 1 _ rfl;(with_reducible repeat (first|refine blk_drewN ?_ _|refine blk_drew ?_|refine blk_alloc ?_ _));refine blk_put (cs:=#[.int .i64 0,.int .i64 0,.string (⟨#[]⟩:ByteArray),.slice none 0 0]) ?_ 0 _ rfl;(with_reducible repeat (first|refine blk_drewN ?_ _|refine blk_drew ?_|refine blk_alloc ?_ _));exact BK912.out)) (below_size (by repeat (first|exact gB HB|refine below_set ?_ GE894.out|refine below_set ?_ GE902.out|refine below_set ?_ GE912.out))));have n4_:=Aside0.mk (blk_below (g:=gb894) (o:=.cells #[.int .i64 t887,.int .i64 t888,.string t889,.slice Ao11 t890.length co11] 27 (0,0)) (by (with_reducible repeat (first|refine blk_drewN ?_ _|refine blk_drew ?_|refine blk_alloc ?_ _));refine blk_far ?_ NB894_912.out _;(with_reducible repeat (first|refine blk_drewN ?_ _|refine blk_drew ?_|refine blk_alloc ?_ _));refine blk_far ?_ NB894_912.out _;(with_reducible repeat (first|refine blk_drewN ?_ _|refine blk_drew ?_|refine blk_alloc ?_ _));refine blk_far ?_ NB894_912.out _;(with_reducible repeat (first|refine blk_drewN ?_ _|refine blk_drew ?_|refine blk_alloc ?_ _));refine blk_far ?_ NB894_912.out _;(with_reducible repeat (first|refine blk_drewN ?_ _|refine blk_drew ?_|refine blk_alloc ?_ _));exact BK894.out) hb);have n5_:=Aside0.mk (blk_below (g:=gb902) (o:=.cells #[.int .i64 t895,.int .i64 t896,.string t897,.slice Ao16 t898.length co16] 27 (0,0)) (by (with_reducible repeat (first|refine blk_drewN ?_ _|refine blk_drew ?_|refine blk_alloc ?_ _));refine blk_far ?_ NB902_912.out _;(with_reducible repeat (first|refine blk_drewN ?_ _|refine blk_drew ?_|refine blk_alloc ?_ _));refine blk_far ?_ NB902_912.out _;(with_reducible repeat (first|refine blk_drewN ?_ _|refine blk_drew ?_|refine blk_alloc ?_ _));refine blk_far ?_ NB902_912.out _;(with_reducible repeat (first|refine blk_drewN ?_ _|refine blk_drew ?_|refine blk_alloc ?_ _));refine blk_far ?_ NB902_912.out _;(with_reducible repeat (first|refine blk_drewN ?_ _|refine blk_drew ?_|refine blk_alloc ?_ _));exact BK902.out) hb);have n6_:=Aside0.mk (blk_below (g:=gb912) (o:=.cells #[.int .i64 t905,.int .i64 t906,.string t907,.slice Ao53 t908.length co53] 27 (0,0)) (by (with_reducible repeat (first|refine blk_drewN ?_ _|refine blk_drew ?_|refine blk_alloc ?_ _));refine blk_put (cs:=#[.int .i64 t905,.int .i64 t906,.string t907,.slice none 0 0]) ?_ 3 _ rfl;(with_reducible repeat (first|refine blk_drewN ?_ _|refine blk_drew ?_|refine blk_alloc ?_ _));refine blk_put (cs:=#[.int .i64 t905,.int .i64 t906,.string (⟨#[]⟩:ByteArray),.slice none 0 0]) ?_ 2 _ rfl;(with_reducible repeat (first|refine blk_drewN ?_ _|refine blk_drew ?_|refine blk_alloc ?_ _));refine blk_put (cs:=#[.int .i64 t905,.int .i64 0,.string (⟨#[]⟩:ByteArray),.slice none 0 0]) ?_ 1 _ rfl;(with_reducible repeat (first|refine blk_drewN ?_ _|refine blk_drew ?_|refine blk_alloc ?_ _));refine blk_put (cs:=#[.int .i64 0,.int .i64 0,.string (⟨#[]⟩:ByteArray),.slice none 0 0]) ?_ 0 _ rfl;(with_reducible repeat (first|refine blk_drewN ?_ _|refine blk_drew ?_|refine blk_alloc ?_ _));exact BK912.out) hb);have n7_:=Aside0.mk (below_step (by repeat (first|exact gB HB|refine below_set ?_ GE894.out|refine below_set ?_ GE902.out|refine below_set ?_ GE912.out)) hb);clear HO_895003;clear HO_903003;clear HO910;clear BK894;clear BK902;clear BK912;clear HB;have HO_895003:=n0_;have HO_903003:=n1_;have HO910:=n2_;have HO918:=n3_;have BK894:=n4_;have BK902:=n5_;have BK912:=n6_;have HB:=n7_;clear n0_ n1_ n2_ n3_ n4_ n5_ n6_ n7_;(try clear hb);(try clear hb2);(try clear hk);(try clear hi);(try clear ho0))|((with_reducible refine gate_dst (N:=10) rfl ?_);refine box_event ?hg (N:=10) ?hd (cs:=#[.int .i64 0,.int .i64 0,.string (⟨#[]⟩:ByteArray),.slice none 0 0]) (t:=27) ?hr ?_;(case hd=>rfl);(case hg=>rfl);(case hr=>first|(go_simp;done)|(go_simp;rfl));intro gb920 hg w55 hbox hb;have n0_:=Aside0.mk (Kd.R_below (Kd.R_elderB (gR HO_895003) gb920 (Nat.le_of_eq hg.symm)) hb);have n1_:=Aside0.mk (Kd.R_below (Kd.R_elderB (gR HO_903003) gb920 (Nat.le_of_eq hg.symm)) hb);have n2_:=Aside0.mk (Kd.R_below (Kd.R_elderB (gR HO910) gb920 (Nat.le_of_eq hg.symm)) hb);have n3_:=Aside0.mk (Kd.R_below (Kd.R_elderB (gR HO918) gb920 (Nat.le_of_eq hg.symm)) hb);have n4_:=Aside0.mk (blk_below (g:=gb894) (o:=.cells #[.int .i64 t887,.int .i64 t888,.string t889,.slice Ao11 t890.length co11] 27 (0,0)) (gK BK894) hb);have n5_:=Aside0.mk (blk_below (g:=gb902) (o:=.cells #[.int .i64 t895,.int .i64 t896,.string t897,.slice Ao16 t898.length co16] 27 (0,0)) (gK BK902) hb);have n6_:=Aside0.mk (blk_below (g:=gb912) (o:=.cells #[.int .i64 t905,.int .i64 t906,.string t907,.slice Ao53 t908.length co53] 27 (0,0)) (gK BK912) hb);have n7_:=Aside0.mk (below_step (by repeat (first|exact gB HB|refine below_set ?_ GE894.out|refine below_set ?_ GE902.out|refine below_set ?_ GE912.out)) hb);have n8_:=Aside0.mk (hbox);have n9_:=Aside0.mk ((by rw [hg];exact (below_size (by repeat (first|exact gB HB|refine below_set ?_ GE894.out|refine below_set ?_ GE902.out|refine below_set ?_ GE912.out))):w.heap.size≤gb920));have n10_:=Aside0.mk ((by rw [hg];exact (below_size (by repeat (first|exact gB HB|refine below_set ?_ GE894.out|refine below_set ?_ GE902.out|refine below_set ?_ GE912.out))):w.heap.size≤gb920));have n11_:=Aside0.mk ((by rw [hg];exact Nat.ne_of_lt (blk_lt (g:=gb894) (o:=.cells #[.int .i64 t887,.int .i64 t888,.string t889,.slice Ao11 t890.length co11] 27 (0,0)) (gK BK894)):gb894 ≠ gb920));have n12_:=Aside0.mk ((by rw [hg];exact Nat.ne_of_gt (blk_lt (g:=gb894) (o:=.cells #[.int .i64 t887,.int .i64 t888,.string t889,.slice Ao11 t890.length co11] 27 (0,0)) (gK BK894)):gb920 ≠ gb894));have n13_:=Aside0.mk ((by rw [hg];exact Nat.ne_of_lt (blk_lt (g:=gb902) (o:=.cells #[.int .i64 t895,.int .i64 t896,.string t897,.slice Ao16 t898.length co16] 27 (0,0)) (gK BK902)):gb902 ≠ gb920));have n14_:=Aside0.mk ((by rw [hg];exact Nat.ne_of_gt (blk_lt (g:=gb902) (o:=.cells #[.int .i64 t895,.int .i64 t896,.string t897,.slice Ao16 t898.length co16] 27 (0,0)) (gK BK902)):gb920 ≠ gb902));have n15_:=Aside0.mk ((by rw [hg];exact Nat.ne_of_lt (blk_lt (g:=gb912) (o:=.cells #[.int .i64 t905,.int .i64 t906,.string t907,.slice Ao53 t908.length co53] 27 (0,0)) (gK BK912)):gb912 ≠ gb920));have n16_:=Aside0.mk ((by rw [hg];exact Nat.ne_of_gt (blk_lt (g:=gb912) (o:=.cells #[.int .i64 t905,.int .i64 t906,.string t907,.slice Ao53 t908.length co53] 27 (0,0)) (gK BK912)):gb920 ≠ gb912));clear HO_895003;clear HO_903003;clear HO910;clear HO918;clear BK894;clear BK902;clear BK912;clear HB;have HO_895003:=n0_;have HO_903003:=n1_;have HO910:=n2_;have HO918:=n3_;have BK894:=n4_;have BK902:=n5_;have BK912:=n6_;have HB:=n7_;have BK920:=n8_;have GW920:=n9_;have GE920:=n10_;have NB894_920:=n11_;have NB920_894:=n12_;have NB902_920:=n13_;have NB920_902:=n14_;have NB912_920:=n15_;have NB920_912:=n16_;clear n0_ n1_ n2_ n3_ n4_ n5_ n6_ n7_ n8_ n9_ n10_ n11_ n12_ n13_ n14_ n15_ n16_;clear hb hbox hg;have hnb56:=NB920_894.out;have hnc56:=NB894_920.out;have hnb57:=NB920_902.out;have hnc57:=NB902_920.out;have hnb58:=NB920_912.out;have hnc58:=NB912_920.out;have hcz59_0:w55.cell? ⟨gb920,0,none⟩=some (.int .i64 0):=(blk_cell BK920.out 0).trans rfl;have hcz59_1:w55.cell? ⟨gb920,1,none⟩=some (.int .i64 0):=(blk_cell BK920.out 1).trans rfl;have hcz59_2:w55.cell? ⟨gb920,2,none⟩=some (.string (⟨#[]⟩:ByteArray)):=(blk_cell BK920.out 2).trans rfl;have hcz59_3:w55.cell? ⟨gb920,3,none⟩=some (.slice none 0 0):=(blk_cell BK920.out 3).trans rfl;have hfz59_0:=blk_frozen BK920.out 0;have hfz59_1:=blk_frozen BK920.out 1;have hfz59_2:=blk_frozen BK920.out 2;have hfz59_3:=blk_frozen BK920.out 3;obtain ⟨Ao60,co60,eo60⟩:=Kd.R_slice HO918.out;subst eo60;have hnb61:=NB894_902.out;have hnc61:=NB902_894.out;have hcz62_0:w55.cell? ⟨gb894,0,none⟩=some (.int .i64 t887):=(blk_cell BK894.out 0).trans rfl;have hcz62_1:w55.cell? ⟨gb894,1,none⟩=some (.int .i64 t888):=(blk_cell BK894.out 1).trans rfl;have hcz62_2:w55.cell? ⟨gb894,2,none⟩=some (.string t889):=(blk_cell BK894.out 2).trans rfl;have hcz62_3:w55.cell? ⟨gb894,3,none⟩=some (.slice Ao11 t890.length co11):=(blk_cell BK894.out 3).trans rfl;have hfz62_0:=blk_frozen BK894.out 0;have hfz62_1:=blk_frozen BK894.out 1;have hfz62_2:=blk_frozen BK894.out 2;have hfz62_3:=blk_frozen BK894.out 3)|((with_reducible refine gate_callee (f:=24) rfl ?_);refine goesL_ (some 64) rfl rfl Try.func24 (by kernel_rfl) rfl #[.agg #[.int .i64 t887,.int .i64 t888,.string t889,.slice Ao11 t890.length co11]] rfl (by (try simp only [List.map_toArray,List.map_cons,List.map_nil]);first|done|rfl|(simp only [List.length_drop,List.length_take];rfl)) ?_;(with_reducible refine (impl_DocValid.calls kj5 t887 t888 t889 _ _ t890 true _ ?side1 ?side2 A45.out).mono ?_);(case side1=>exact (Kd.R_reads' (e:=27) (base:=w.heap.size) (n:=t890.length) (c:=co11) (by (with_reducible repeat (first|apply Kd.R_alloc|apply Kd.R_drewN|apply Kd.R_drew));exact (Kd.R_mono (Kd.R_far (p:=⟨gb920,3,none⟩) (Kd.R_far (p:=⟨gb920,2,none⟩) (Kd.R_far (p:=⟨gb920,1,none⟩) (Kd.R_far (p:=⟨gb920,0,none⟩) (Kd.R_mono HO_895003.out (fun k_ hk=>(⟨hk,hk.2⟩:_∧k_ ≠ gb920))) (fun _ hk=>hk.2) (.int .i64 t913)) (fun _ hk=>hk.2) (.int .i64 t914)) (fun _ hk=>hk.2) (.string t915)) (fun _ hk=>hk.2) (.slice Ao60 t916.length co60)) (fun _ h_=>h_.1)))).2.2);(case side2=>exact (Kd.R_reads' HO_895003.out).2.1);rintro e w63 ⟨rfl,hb⟩;refine ⟨_,rfl,?_⟩;have n0_:=Aside0.mk (Kd.R_below (by (with_reducible repeat (first|apply Kd.R_alloc|apply Kd.R_drewN|apply Kd.R_drew));exact (Kd.R_mono (Kd.R_far (p:=⟨gb920,3,none⟩) (Kd.R_far (p:=⟨gb920,2,none⟩) (Kd.R_far (p:=⟨gb920,1,none⟩) (Kd.R_far (p:=⟨gb920,0,none⟩) (Kd.R_mono HO_895003.out (fun k_ hk=>(⟨hk,hk.2⟩:_∧k_ ≠ gb920))) (fun _ hk=>hk.2) (.int .i64 t913)) (fun _ hk=>hk.2) (.int .i64 t914)) (fun _ hk=>hk.2) (.string t915)) (fun _ hk=>hk.2) (.slice Ao60 t916.length co60)) (fun _ h_=>h_.1))) hb);have n1_:=Aside0.mk (Kd.R_below (by (with_reducible repeat (first|apply Kd.R_alloc|apply Kd.R_drewN|apply Kd.R_drew));exact (Kd.R_mono (Kd.R_far (p:=⟨gb920,3,none⟩) (Kd.R_far (p:=⟨gb920,2,none⟩) (Kd.R_far (p:=⟨gb920,1,none⟩) (Kd.R_far (p:=⟨gb920,0,none⟩) (Kd.R_mono HO_903003.out (fun k_ hk=>(⟨hk,hk.2⟩:_∧k_ ≠ gb920))) (fun _ hk=>hk.2) (.int .i64 t913)) (fun _ hk=>hk.2) (.int .i64 t914)) (fun _ hk=>hk.2) (.string t915)) (fun _ hk=>hk.2) (.slice Ao60 t916.length co60)) (fun _ h_=>h_.1))) hb);have n2_:=Aside0.mk (Kd.R_below (by (with_reducible repeat (first|apply Kd.R_alloc|apply Kd.R_drewN|apply Kd.R_drew));exact (Kd.R_mono (Kd.R_far (p:=⟨gb920,3,none⟩) (Kd.R_far (p:=⟨gb920,2,none⟩) (Kd.R_far (p:=⟨gb920,1,none⟩) (Kd.R_far (p:=⟨gb920,0,none⟩) (Kd.R_mono HO910.out (fun k_ hk=>(⟨hk,hk.2⟩:_∧k_ ≠ gb920))) (fun _ hk=>hk.2) (.int .i64 t913)) (fun _ hk=>hk.2) (.int .i64 t914)) (fun _ hk=>hk.2) (.string t915)) (fun _ hk=>hk.2) (.slice Ao60 t916.length co60)) (fun _ h_=>h_.1))) hb);have n3_:=Aside0.mk (Kd.R_below (by (with_reducible repeat (first|apply Kd.R_alloc|apply Kd.R_drewN|apply Kd.R_drew));exact (Kd.R_mono (Kd.R_far (p:=⟨gb920,3,none⟩) (Kd.R_far (p:=⟨gb920,2,none⟩) (Kd.R_far (p:=⟨gb920,1,none⟩) (Kd.R_far (p:=⟨gb920,0,none⟩) (Kd.R_mono HO918.out (fun k_ hk=>(⟨hk,hk.2⟩:_∧k_ ≠ gb920))) (fun _ hk=>hk.2) (.int .i64 t913)) (fun _ hk=>hk.2) (.int .i64 t914)) (fun _ hk=>hk.2) (.string t915)) (fun _ hk=>hk.2) (.slice Ao60 t916.length co60)) (fun _ h_=>h_.1))) hb);have n4_:=Aside0.mk (blk_below (g:=gb894) (o:=.cells #[.int .i64 t887,.int .i64 t888,.string t889,.slice Ao11 t890.length co11] 27 (0,0)) (by (with_reducible repeat (first|refine blk_drewN ?_ _|refine blk_drew ?_|refine blk_alloc ?_ _));refine blk_far ?_ NB894_920.out _;(with_reducible repeat (first|refine blk_drewN ?_ _|refine blk_drew ?_|refine blk_alloc ?_ _));refine blk_far ?_ NB894_920.out _;(with_reducible repeat (first|refine blk_drewN ?_ _|refine blk_drew ?_|refine blk_alloc ?_ _));refine blk_far ?_ NB894_920.out _;(with_reducible repeat (first|refine blk_drewN ?_ _|refine blk_drew ?_|refine blk_alloc ?_ _));refine blk_far ?_ NB894_920.out _;(with_reducible repeat (first|refine blk_drewN ?_ _|refine blk_drew ?_|refine blk_alloc ?_ _));exact BK894.out) hb);have n5_:=Aside0.mk (blk_below (g:=gb902) (o:=.cells #[.int .i64 t895,.int .i64 t896,.string t897,.slice Ao16 t898.length co16] 27 (0,0)) (by (with_reducible repeat (first|refine blk_drewN ?_ _|refine blk_drew ?_|refine blk_alloc ?_ _));refine blk_far ?_ NB902_920.out _;(with_reducible repeat (first|refine blk_drewN ?_ _|refine blk_drew ?_|refine blk_alloc ?_ _));refine blk_far ?_ NB902_920.out _;(with_reducible repeat (first|refine blk_drewN ?_ _|refine blk_drew ?_|refine blk_alloc ?_ _));refine blk_far ?_ NB902_920.out _;(with_reducible repeat (first|refine blk_drewN ?_ _|refine blk_drew ?_|refine blk_alloc ?_ _));refine blk_far ?_ NB902_920.out _;(with_reducible repeat (first|refine blk_drewN ?_ _|refine blk_drew ?_|refine blk_alloc ?_ _));exact BK902.out) hb);have n6_:=Aside0.mk (blk_below (g:=gb912) (o:=.cells #[.int .i64 t905,.int .i64 t906,.string t907,.slice Ao53 t908.length co53] 27 (0,0)) (by (with_reducible repeat (first|refine blk_drewN ?_ _|refine blk_drew ?_|refine blk_alloc ?_ _));refine blk_far ?_ NB912_920.out _;(with_reducible repeat (first|refine blk_drewN ?_ _|refine blk_drew ?_|refine blk_alloc ?_ _));refine blk_far ?_ NB912_920.out _;(with_reducible repeat (first|refine blk_drewN ?_ _|refine blk_drew ?_|refine blk_alloc ?_ _));refine blk_far ?_ NB912_920.out _;(with_reducible repeat (first|refine blk_drewN ?_ _|refine blk_drew ?_|refine blk_alloc ?_ _));refine blk_far ?_ NB912_920.out _;(with_reducible repeat (first|refine blk_drewN ?_ _|refine blk_drew ?_|refine blk_alloc ?_ _));exact BK912.out) hb);have n7_:=Aside0.mk (blk_below (g:=gb920) (o:=.cells #[.int .i64 t913,.int .i64 t914,.string t915,.slice Ao60 t916.length co60] 27 (0,0)) (by (with_reducible repeat (first|refine blk_drewN ?_ _|refine blk_drew ?_|refine blk_alloc ?_ _));refine blk_put (cs:=#[.int .i64 t913,.int .i64 t914,.string t915,.slice none 0 0]) ?_ 3 _ rfl;(with_reducible repeat (first|refine blk_drewN ?_ _|refine blk_drew ?_|refine blk_alloc ?_ _));refine blk_put (cs:=#[.int .i64 t913,.int .i64 t914,.string (⟨#[]⟩:ByteArray),.slice none 0 0]) ?_ 2 _ rfl;(with_reducible repeat (first|refine blk_drewN ?_ _|refine blk_drew ?_|refine blk_alloc ?_ _));refine blk_put (cs:=#[.int .i64 t913,.int .i64 0,.string (⟨#[]⟩:ByteArray),.slice none 0 0]) ?_ 1 _ rfl;(with_reducible repeat (first|refine blk_drewN ?_ _|refine blk_drew ?_|refine blk_alloc ?_ _));refine blk_put (cs:=#[.int .i64 0,.int .i64 0,.string (⟨#[]⟩:ByteArray),.slice none 0 0]) ?_ 0 _ rfl;(with_reducible repeat (first|refine blk_drewN ?_ _|refine blk_drew ?_|refine blk_alloc ?_ _));exact BK920.out) hb);have n8_:=Aside0.mk (below_step (by repeat (first|exact gB HB|refine below_set ?_ GE894.out|refine below_set ?_ GE902.out|refine below_set ?_ GE912.out|refine below_set ?_ GE920.out)) hb);clear HO_895003;clear HO_903003;clear HO910;clear HO918;clear BK894;clear BK902;clear BK912;clear BK920;clear HB;have HO_895003:=n0_;have HO_903003:=n1_;have HO910:=n2_;have HO918:=n3_;have BK894:=n4_;have BK902:=n5_;have BK912:=n6_;have BK920:=n7_;have HB:=n8_;clear n0_ n1_ n2_ n3_ n4_ n5_ n6_ n7_ n8_;(try clear hb);(try clear hb2);(try clear hk);(try clear hi)))
          go_ret
          exact ⟨by first|rfl|(simp [errW_none,errW_some] <;> rfl)|(simp only [← hji41];first|rfl|(simp [errW_none,errW_some] <;> rfl))|(simp [*,errW_none,errW_some] <;> rfl),by repeat (first|exact gB HB|refine below_set ?_ GE894.out|refine below_set ?_ GE902.out|refine below_set ?_ GE912.out|refine below_set ?_ GE920.out)⟩
        ·replace c46:=Bool.eq_false_iff.mpr c46
         subst c46
         have H1:(none)=some r:=by rw [if_neg (show ¬ (false=true) by decide)] at H;exact H
         clear H
         have H:=H1
         clear H1
         exact absurd H (by simp)
       ·rw [if_neg c43] at H
        exact absurd H (by simp)
      ·rw [if_neg c42] at H
       exact absurd H (by simp)
     ·rw [if_neg c39] at H
      exact absurd H (by simp)
def laws_FnParseSize.Pure:Prop:=∀ (l0:List Int),l0.length≤maxLen→l0.length * 1≤140737488351232→(∀ x ∈ l0,(Lit.int .u8 x).wf=true)→∃ k,laws_FnParseSize.f k l0=some true
theorem laws_FnParseSize.walk (P:laws_FnParseSize.Pure) (a0:Option Addr) (len0 cap0:Nat) (z0:List Int) (w:World) (w0:(a0=none∧len0=0∧cap0=0∧z0=[]) ∨ ∃ x,a0=some x∧len0≤cap0∧cap0≤maxLen∧z0.length=cap0∧(∀ i,i < z0.length→w.cell? (x.add i)=some (.int .u8 (z0.getD i 0)))∧∀ n ∈ z0,(Lit.int .u8 n).wf=true) (y0:len0 * 1≤140737488351232) :
  Calls Try.prog 13 #[.slice a0 len0 cap0] w fun e w'=>e=.returned (.bool true)∧Below w.heap.size w w':=by
 obtain ⟨l0,rfl,hr0,hm0,hw0,hc0⟩:=ReadsInt.ofRowC w0
 obtain ⟨k,h⟩:=P l0 hm0 y0 hw0
 refine (laws_FnParseSize.calls k _ _ l0 true w (Kd.C_of_reads (d:=(0:Int)) (h1:=fun _=>rfl) hr0) hc0 h).mono ?_
 rintro e w' ⟨rfl,hd⟩
 exact ⟨rfl,hd⟩
end Go.Proofs.Ytdhdfmmefghijaa.P
namespace Go.Proofs.Ytdhdfmmefghijaa.Pure
open Go.RowKit Go.Proofs.Ytdhdfmmefghijaa.P Go.Proofs.YtdhdfmmefghijaaW.PrintWords Go.Proofs.YtdhdfmmefghijaaW.PrintLast Go.Proofs.YtdhdfmmefghijaaW.PrintMore
set_option linter.unusedVariables false
set_option linter.unusedSimpArgs false
theorem w64 {i : Int} (h0 : -9223372036854775808 ≤ i) (h : i ≤ 9223372036854775807) : wrap64 i = i := by unfold wrap64; omega
theorem Ev.iff {α : Type} {c : Prop} [Decidable c] {f g : Nat → Option α} {r : α} (h1 : c → Ev f r) (h2 : ¬ c → Ev g r) : Ev (fun k => if c then f k else g k) r := by
  by_cases h : c
  · simp only [if_pos h]; exact h1 h
  · simp only [if_neg h]; exact h2 h
theorem SDoc.ind {P : SDoc → Prop} (h : ∀ o n t ks, (∀ k, k ∈ ks → P k) → P ⟨o, n, t, ks⟩) : ∀ d, P d
  | ⟨o, n, t, ks⟩ => h o n t ks (fun k hk => SDoc.ind h k)
termination_by d => SizeOf.sizeOf d
decreasing_by
  have := List.sizeOf_lt_of_mem hk
  simp
  omega
mutual
def dsz : SDoc → Nat
  | ⟨_, _, _, ks⟩ => 1 + dszL ks
def dszL : List SDoc → Nat
  | [] => 0
  | k :: ks => dsz k + dszL ks
end
theorem dszL_len : ∀ (a : List SDoc), a.length ≤ dszL a
  | [] => by simp [dszL]
  | ⟨_, _, _, ks⟩ :: a => by have := dszL_len a; simp [dszL, dsz]; omega
theorem dszL_mem : ∀ {a : List SDoc} {d : SDoc}, d ∈ a → dsz d ≤ dszL a
  | k :: a, d, h => by
    rcases List.mem_cons.1 h with rfl | h
    · simp [dszL]
    · have := dszL_mem h; simp [dszL]; omega
theorem dsz_pos (d : SDoc) : 1 ≤ dsz d := by obtain ⟨_, _, _, ks⟩ := d; simp [dsz]
theorem rdD (a b : List SDoc) (d : SDoc) : rd_TDoc (a ++ d :: b) (a.length : Int) = d := by simp [rd_TDoc]
theorem SDoc_eta (d : SDoc) : (⟨d.f0, d.f1, d.f2, d.f3⟩ : SDoc) = d := by cases d; rfl
theorem dec_eq {p q : Prop} [Decidable p] [Decidable q] (h : p ↔ q) : decide p = decide q := by
  by_cases hq : q
  · rw [decide_eq_true hq, decide_eq_true (h.2 hq)]
  · rw [decide_eq_false hq, decide_eq_false (fun hp => hq (h.1 hp))]
end Go.Proofs.Ytdhdfmmefghijaa.Pure
namespace Go.Proofs.Ytdhdfmmefghijaa.Pure
open Go.RowKit Go.Proofs.Ytdhdfmmefghijaa.P Go.Proofs.YtdhdfmmefghijaaW.PrintWords Go.Proofs.YtdhdfmmefghijaaW.PrintLast Go.Proofs.YtdhdfmmefghijaaW.PrintMore
set_option linter.unusedVariables false
set_option linter.unusedSimpArgs false
theorem big_or {l : List Int} {f : Nat → Option Bool} (h : Ev f true) : Ev (fun k => if (l.length : Int) > 1048576 then (some true) else f k) true := Ev.iff (fun _ => Ev.now _) (fun _ => h)
end Go.Proofs.Ytdhdfmmefghijaa.Pure
namespace Go.Proofs.Ytdhdfmmefghijaa.Pure
open Go.RowKit Go.Proofs.Ytdhdfmmefghijaa.P Go.Proofs.YtdhdfmmefghijaaW.PrintWords Go.Proofs.YtdhdfmmefghijaaW.PrintLast Go.Proofs.YtdhdfmmefghijaaW.PrintMore
set_option linter.unusedVariables false
set_option linter.unusedSimpArgs false
def Code (b : List Int) : Prop := b.length ≤ 2000 ∧ ∀ x ∈ b, 0 ≤ x ∧ x < 256
theorem open_ev (l : List Int) (hl : l.length ≤ maxLen) (h : ∀ x ∈ l, (Lit.int .u8 x).wf = true) : ∃ b, Code b ∧ spec_l15Open.f l = some (b, 0) := by
  have hx : ∀ x ∈ l, 0 ≤ x ∧ x < 256 := by
    intro x hx
    have := h x hx
    have e1 : IntKind.u8.min = 0 := rfl
    have e2 : IntKind.u8.max = 255 := rfl
    simp [Lit.wf, e1, e2] at this
    omega
  rw [spec_l15Open.f]
  by_cases c : (l.length : Int) > 2000
  · rw [if_pos c, if_pos (by omega)]
    exact ⟨l.take 2000, ⟨by rw [List.length_take]; omega, fun x hx' => hx x (List.mem_of_mem_take hx')⟩, rfl⟩
  · rw [if_neg c]
    exact ⟨l, ⟨by omega, hx⟩, rfl⟩
theorem rd_in {b : List Int} (hb : Code b) (i : Int) : 0 ≤ rd b i ∧ rd b i < 256 := by
  unfold rd
  rw [List.getD_eq_getElem?_getD]
  cases h : b[i.toNat]? with
  | none => simp
  | some x =>
    have := hb.2 x (List.mem_of_getElem? h)
    simpa using this
theorem xor_nonneg (x y : Int) (hx0 : 0 ≤ x) (hx : x < 4611686018427387904) (hy0 : 0 ≤ y) (hy : y < 4611686018427387904) : 0 ≤ Go.bits .xor .i64 x y := by
  obtain ⟨n, rfl⟩ := Int.eq_ofNat_of_zero_le hx0
  obtain ⟨m, rfl⟩ := Int.eq_ofNat_of_zero_le hy0
  have hn : n < 2 ^ 62 := by omega
  have hm : m < 2 ^ 62 := by omega
  have hxm : n ^^^ m < 2 ^ 62 := Nat.xor_lt_two_pow hn hm
  have e1 : (BitVec.ofInt 64 (n : Int)).toNat = n := by
    rw [BitVec.ofInt_natCast, BitVec.toNat_ofNat]
    exact Nat.mod_eq_of_lt (by omega)
  have e2 : (BitVec.ofInt 64 (m : Int)).toNat = m := by
    rw [BitVec.ofInt_natCast, BitVec.toNat_ofNat]
    exact Nat.mod_eq_of_lt (by omega)
  have e : Go.bits .xor .i64 (n : Int) (m : Int) = IntKind.i64.wrap ((n ^^^ m : Nat) : Int) := by
    show IntKind.i64.wrap ((BitVec.ofInt 64 (n : Int) ^^^ BitVec.ofInt 64 (m : Int)).toNat : Int) = _
    rw [BitVec.toNat_xor, e1, e2]
  rw [e]
  have w : IntKind.i64.wrap ((n ^^^ m : Nat) : Int) = ((n ^^^ m : Nat) : Int) := by
    simp [IntKind.wrap, IntKind.bits, IntKind.signed]
    omega
  rw [w]
  omega
theorem tm_in (x : Int) {n : Int} (h0 : 0 ≤ x) (hn : 0 < n) : 0 ≤ Int.tmod x n ∧ Int.tmod x n < n := ⟨Int.tmod_nonneg n h0, Int.tmod_lt_of_pos x hn⟩
theorem pick_ev {b : List Int} (hb : Code b) (p n : Int) (hp0 : 0 ≤ p) (hp : p ≤ 1000000000) : ∃ r, Ev (fun k => spec_l15Rd_pick.f k b p n) (r, p + 1) ∧ 0 ≤ r ∧ (1 ≤ n → r < n) := by
  have w1 : wrap64 (p + 1) = p + 1 := w64 (by omega) (by omega)
  have w2 : wrap64 (p + 1 - 1) = p := by rw [w64 (by omega) (by omega)]; omega
  have hl := hb.1
  have J0 : Ev (fun k => spec_l15Rd_pick.j0 k n true b (p + 1)) (0, p + 1) := by
    refine Ev.step (fun k => by rw [spec_l15Rd_pick.j0]) ?_
    simp only [if_true]
    exact Ev.now _
  by_cases c1 : n < 1
  · refine ⟨0, Ev.congr (fun k => by rw [spec_l15Rd_pick.f, if_pos c1, w1]) J0, Int.le_refl _, fun h => by omega⟩
  by_cases c2 : (b.length : Int) = 0
  · refine ⟨0, Ev.congr (fun k => by rw [spec_l15Rd_pick.f, if_neg c1, w1, show (((b.length : Int)) == 0) = true by simpa using c2]) J0, Int.le_refl _, fun h => by omega⟩
  have hn0 : n ≠ 0 := by omega
  have start : ∀ R, Ev (fun k => spec_l15Rd_pick.j0 k n false b (p + 1)) R → Ev (fun k => spec_l15Rd_pick.f k b p n) R := by
    intro R h
    exact Ev.congr (fun k => by rw [spec_l15Rd_pick.f, if_neg c1, w1, show (((b.length : Int)) == 0) = false by simpa using c2]) h
  by_cases c3 : p < (b.length : Int)
  · have hr := rd_in hb p
    have w3 : wrap64 (rd b p) = rd b p := w64 (by omega) (by omega)
    have ht := tm_in (rd b p) (n := n) hr.1 (by omega)
    refine ⟨Int.tmod (rd b p) n, start _ (Ev.step (fun k => by rw [spec_l15Rd_pick.j0]) ?_), ht.1, fun _ => ht.2⟩
    simp only [Bool.false_eq_true, if_false, w2, if_pos c3, if_pos hp0, if_neg hn0, w3]
    exact Ev.now _
  · have hlp : 0 < (b.length : Int) := by omega
    have t1 := tm_in p hp0 hlp
    have w3 : wrap64 (p * 7) = p * 7 := w64 (by omega) (by omega)
    have w4 : wrap64 (p * 7 + 3) = p * 7 + 3 := w64 (by omega) (by omega)
    have t2 := tm_in (p * 7 + 3) (by omega) hlp
    have r1 := rd_in hb (Int.tmod p (b.length : Int))
    have r2 := rd_in hb (Int.tmod (p * 7 + 3) (b.length : Int))
    have d0 : 0 ≤ Int.tdiv p (b.length : Int) := Int.tdiv_nonneg hp0 (by omega)
    have d1 : Int.tdiv p (b.length : Int) ≤ p := by
      obtain ⟨m, rfl⟩ := Int.eq_ofNat_of_zero_le hp0
      have : Int.tdiv (m : Int) (b.length : Int) = ((m / b.length : Nat) : Int) := rfl
      rw [this]
      exact Int.ofNat_le.2 (Nat.div_le_self _ _)
    generalize hA : rd b (Int.tmod p (b.length : Int)) = A at r1
    generalize hB : rd b (Int.tmod (p * 7 + 3) (b.length : Int)) = B at r2
    generalize hD : Int.tdiv p (b.length : Int) = D at d0 d1
    have e1 : wrap64 (wrap64 A * 131) = A * 131 := by rw [w64 (i := A) (by omega) (by omega), w64 (by omega) (by omega)]
    have e2 : wrap64 (wrap64 B * 1117) = B * 1117 := by rw [w64 (i := B) (by omega) (by omega), w64 (by omega) (by omega)]
    have e3 : wrap64 (p * 29) = p * 29 := w64 (by omega) (by omega)
    have e4 : wrap64 (wrap64 D * 53) = D * 53 := by rw [w64 (i := D) (by omega) (by omega), w64 (by omega) (by omega)]
    have e5 : wrap64 (A * 131 + B * 1117) = A * 131 + B * 1117 := w64 (by omega) (by omega)
    have e6 : wrap64 (A * 131 + B * 1117 + p * 29) = A * 131 + B * 1117 + p * 29 := w64 (by omega) (by omega)
    have e7 : wrap64 (A * 131 + B * 1117 + p * 29 + D * 53) = A * 131 + B * 1117 + p * 29 + D * 53 := w64 (by omega) (by omega)
    generalize hX : A * 131 + B * 1117 + p * 29 + D * 53 = X at e7
    have hX0 : 0 ≤ X := by omega
    have hX1 : X ≤ 1000000000000 := by omega
    have q0 : 0 ≤ Int.tdiv X 64 := Int.tdiv_nonneg hX0 (by omega)
    have q1 : Int.tdiv X 64 ≤ X := by
      obtain ⟨m, rfl⟩ := Int.eq_ofNat_of_zero_le hX0
      have : Int.tdiv (m : Int) 64 = ((m / 64 : Nat) : Int) := rfl
      rw [this]
      exact Int.ofNat_le.2 (Nat.div_le_self _ _)
    have e8 : wrap64 (Int.tdiv X 64) = Int.tdiv X 64 := w64 (by omega) (by omega)
    have hx := xor_nonneg X (Int.tdiv X 64) hX0 (by omega) q0 (by omega)
    have ht := tm_in (Go.bits .xor .i64 X (Int.tdiv X 64)) (n := n) hx (by omega)
    refine ⟨Int.tmod (Go.bits .xor .i64 X (Int.tdiv X 64)) n, start _ (Ev.step (fun k => by rw [spec_l15Rd_pick.j0]) ?_), ht.1, fun _ => ht.2⟩
    simp only [Bool.false_eq_true, if_false, w2, if_neg c3, if_neg c2, w3, w4, if_pos t1.1, if_pos t1.2, if_pos t2.1, if_pos t2.2, if_neg hn0, hA, hB, hD, e1, e2, e3, e4, e5, e6, e7, hX, e8]
    exact Ev.now _
theorem of_ev {b : List Int} (hb : Code b) (p : Int) (l : List ByteArray) (hl : 0 < l.length) (hp0 : 0 ≤ p) (hp : p ≤ 1000000000) : ∃ s, s ∈ l ∧ Ev (fun k => spec_l15Rd_of.f k b p l) (s, p + 1) := by
  obtain ⟨r, h, h0, h1⟩ := pick_ev hb p (l.length : Int) hp0 hp
  have h1 := h1 (by omega)
  have hr : r.toNat < l.length := by omega
  refine ⟨rdOf ByteArray.empty l r, ?_, Ev.congr (fun k => by rw [spec_l15Rd_of.f]) (Ev.bind h ?_)⟩
  · unfold rdOf
    rw [List.getD_eq_getElem?_getD, List.getElem?_eq_getElem hr]
    exact List.getElem_mem hr
  · simp only [if_pos h0, if_pos h1]
    exact Ev.now _
theorem num_ev {b : List Int} (hb : Code b) (p : Int) (l : List Int) (hl : 0 < l.length) (hp0 : 0 ≤ p) (hp : p ≤ 1000000000) : ∃ s, s ∈ l ∧ Ev (fun k => spec_l15Rd_num.f k b p l) (s, p + 1) := by
  obtain ⟨r, h, h0, h1⟩ := pick_ev hb p (l.length : Int) hp0 hp
  have h1 := h1 (by omega)
  have hr : r.toNat < l.length := by omega
  refine ⟨rd l r, ?_, Ev.congr (fun k => by rw [spec_l15Rd_num.f]) (Ev.bind h ?_)⟩
  · unfold rd
    rw [List.getD_eq_getElem?_getD, List.getElem?_eq_getElem hr]
    exact List.getElem_mem hr
  · simp only [if_pos h0, if_pos h1]
    exact Ev.now _
end Go.Proofs.Ytdhdfmmefghijaa.Pure
namespace Go.Proofs.Ytdhdfmmefghijaa.Pure
open Go.RowKit Go.Proofs.Ytdhdfmmefghijaa.P Go.Proofs.YtdhdfmmefghijaaW.PrintWords Go.Proofs.YtdhdfmmefghijaaW.PrintLast Go.Proofs.YtdhdfmmefghijaaW.PrintMore
set_option linter.unusedVariables false
set_option linter.unusedSimpArgs false
theorem bend_ev {b : List Int} (hb : Code b) (s : ByteArray) (hs : s.size ≤ 1000000) (l : List ByteArray) (hl : 0 < l.length) (hl2 : ∀ x ∈ l, x.size ≤ 20) (p : Int) (hp0 : 0 ≤ p) (hp : p ≤ 800000000) : ∃ (s' : ByteArray) (q : Int), Ev (fun k => spec_l1Bend.f k b p s l) (s', q) ∧ s'.size ≤ s.size + 20 := by
  have J0 : ∀ p', Ev (fun k => spec_l1Bend.j0 k s l true b p') (s, p') := by
    intro p'
    refine Ev.step (fun k => by rw [spec_l1Bend.j0]) ?_
    simp only [if_true]
    exact Ev.now _
  by_cases c0 : (s.size : Int) = 0
  · exact ⟨s, p, Ev.congr (fun k => by rw [spec_l1Bend.f, if_pos c0]) (J0 p), by omega⟩
  obtain ⟨r, g1, _, _⟩ := pick_ev hb p 2 hp0 (by omega)
  by_cases cr : r = 0
  · refine ⟨s, p + 1, Ev.congr (fun k => by rw [spec_l1Bend.f, if_neg c0]) (Ev.bind g1 ?_), by omega⟩
    rw [show (r == 0) = true by simpa using cr]
    exact J0 _
  obtain ⟨i, g2, hi0, hi⟩ := pick_ev hb (p + 1) (s.size : Int) (by omega) (by omega)
  have hi := hi (by omega)
  obtain ⟨x, hx, g3⟩ := of_ev hb (p + 1 + 1) l hl (by omega) (by omega)
  have hx2 := hl2 x hx
  obtain ⟨j, g4, hj0, hj⟩ := pick_ev hb (p + 1 + 1 + 1) 2 (by omega) (by omega)
  have hj := hj (by omega)
  have w1 : wrap64 (i + j) = i + j := w64 (by omega) (by omega)
  have z1 : (s.extract 0 i.toNat).size = i.toNat := by rw [ByteArray.size_extract]; omega
  have z2 : (s.extract (i + j).toNat s.size).size = s.size - (i + j).toNat := by rw [ByteArray.size_extract]; omega
  have z3 : (s.extract 0 i.toNat ++ x).size = i.toNat + x.size := by rw [ByteArray.size_append, z1]
  refine ⟨(s.extract 0 i.toNat ++ x) ++ s.extract (i + j).toNat s.size, p + 1 + 1 + 1 + 1, Ev.congr (fun k => by rw [spec_l1Bend.f, if_neg c0]) (Ev.bind g1 ?_), by rw [ByteArray.size_append, z3, z2]; omega⟩
  rw [show (r == 0) = false by simpa using cr]
  refine Ev.step (fun k => by rw [spec_l1Bend.j0]) ?_
  simp only [Bool.false_eq_true, if_false]
  refine Ev.bind g2 ?_
  simp only [if_pos hi0, if_pos (show i ≤ (s.size : Int) by omega)]
  refine Ev.bind g3 ?_
  simp only [z1, if_pos (show i.toNat + x.size ≤ 9223372036854775807 by omega)]
  refine Ev.bind g4 ?_
  simp only [w1, if_pos (show 0 ≤ i + j by omega), if_pos (show i + j ≤ (s.size : Int) by omega), z3, z2, if_pos (show i.toNat + x.size + (s.size - (i + j).toNat) ≤ 9223372036854775807 by omega)]
  exact Ev.now _
end Go.Proofs.Ytdhdfmmefghijaa.Pure
namespace Go.Proofs.Ytdhdfmmefghijaa.Pure
open Go.RowKit Go.Proofs.Ytdhdfmmefghijaa.P Go.Proofs.YtdhdfmmefghijaaW.PrintWords Go.Proofs.YtdhdfmmefghijaaW.PrintLast Go.Proofs.YtdhdfmmefghijaaW.PrintMore
set_option linter.unusedVariables false
set_option linter.unusedSimpArgs false
theorem size_data (s : ByteArray) : s.size = s.data.toList.length := by rw [Array.length_toList]; rfl
theorem bt_mid {s : ByteArray} {pre suf : List UInt8} {b : UInt8} (h : s.data.toList = pre ++ b :: suf) : bt s (pre.length : Int) = (b.toNat : Int) := by
  have hl : pre.length < s.size := by
    have := congrArg List.length h
    rw [List.length_append, List.length_cons] at this
    rw [size_data]; omega
  unfold bt
  rw [dif_pos (by simpa using hl)]
  have : s[(pre.length : Int).toNat]'(by simpa using hl) = b := by
    show s.data[(pre.length : Int).toNat]'(by simpa using hl) = b
    rw [← Array.getElem_toList]
    simp [h]
  rw [this]
def signC (c : Int) : Bool := c == 44 || (c == 58 || (c == 61 || (c == 123 || (c == 125 || (c == 40 || (c == 41 || (c == 91 || c == 93)))))))
def letC (c : Int) : Bool := (decide (97 ≤ c) && decide (c ≤ 122)) || (decide (48 ≤ c) && decide (c ≤ 57))
def goodC (c : Int) : Bool := letC c || signC c
def goodB (b : UInt8) : Bool := goodC (b.toNat : Int)
def tv (s : ByteArray) : Bool := decide (1 ≤ s.size) && (decide (s.size ≤ 12) && s.data.toList.all goodB)
theorem specText_j3 {s : ByteArray} {i : Int} {l g R : Bool} (h : Ev (fun k => spec_TextValid.l0 k s (wrap64 (i + 1))) R) : Ev (fun k => spec_TextValid.j3 k s i l g) ((l || g) && R) := by
  refine Ev.step (fun k => by rw [spec_TextValid.j3]) ?_
  cases l <;> cases g <;> simp
  · exact Ev.now _
  · exact h
  · exact h
  · exact h
theorem specText_j2 {s : ByteArray} {i c : Int} {l R : Bool} (h : Ev (fun k => spec_TextValid.l0 k s (wrap64 (i + 1))) R) : Ev (fun k => spec_TextValid.j2 k s i c l) ((l || signC c) && R) := by
  refine Ev.step (fun k => by rw [spec_TextValid.j2]) ?_
  have h3 : ∀ g, Ev (fun k => spec_TextValid.j3 k s i l g) ((l || g) && R) := fun g => specText_j3 h
  repeat' refine Ev.iff (fun hc => ?_) (fun hc => ?_)
  · subst hc; exact h3 true
  · subst hc; exact h3 true
  · subst hc; exact h3 true
  · subst hc; exact h3 true
  · subst hc; exact h3 true
  · subst hc; exact h3 true
  · subst hc; exact h3 true
  · subst hc; exact h3 true
  · have e : signC c = (c == 93) := by rw [Bool.eq_iff_iff]; simp [signC]; omega
    rw [e]; exact h3 _
theorem specText_l0 {s : ByteArray} (hs : s.size ≤ 4611686018427387904) : ∀ (suf pre : List UInt8), s.data.toList = pre ++ suf → Ev (fun k => spec_TextValid.l0 k s (pre.length : Int)) (suf.all goodB) := by
  intro suf
  induction suf with
  | nil =>
    intro pre h
    refine Ev.step (fun k => by rw [spec_TextValid.l0]) ?_
    have c1 : ¬ ((pre.length : Int) < (s.size : Int)) := by rw [size_data, h]; simp
    simp only [if_neg c1]
    exact Ev.now _
  | cons b suf ih =>
    intro pre h
    have hl : pre.length < s.size := by rw [size_data, h]; simp
    refine Ev.step (fun k => by rw [spec_TextValid.l0]) ?_
    have c1 : (pre.length : Int) < (s.size : Int) := by omega
    have c2 : (0 : Int) ≤ (pre.length : Int) := by omega
    simp only [if_pos c1, if_pos c2, bt_mid h]
    have hn : Ev (fun k => spec_TextValid.l0 k s (wrap64 ((pre.length : Int) + 1))) (suf.all goodB) := by
      rw [w64 (by omega) (by omega)]
      have := ih (pre ++ [b]) (by rw [h]; simp)
      rw [show ((pre ++ [b]).length : Int) = (pre.length : Int) + 1 by simp] at this
      exact this
    have h2 : ∀ l, l = letC (b.toNat : Int) → Ev (fun k => spec_TextValid.j2 k s (pre.length : Int) (b.toNat : Int) l) ((b :: suf).all goodB) := by
      intro l hl
      rw [List.all_cons, goodB, goodC, ← hl]
      exact specText_j2 hn
    repeat' refine Ev.iff (fun hc => ?_) (fun hc => ?_)
    all_goals refine h2 _ ?_
    all_goals simp [letC, *]
    all_goals omega
theorem specText_ev (s : ByteArray) (hs : s.size ≤ 4611686018427387904) : Ev (fun k => spec_TextValid.f k s) (tv s) := by
  refine Ev.congr (fun k => by rw [spec_TextValid.f]) ?_
  have hl := specText_l0 hs s.data.toList [] rfl
  have h0 : ∀ b, Ev (fun k => spec_TextValid.j0 k s b) (!b && s.data.toList.all goodB) := by
    intro b
    refine Ev.step (fun k => by rw [spec_TextValid.j0]) ?_
    cases b
    · simpa using hl
    · exact Ev.now _
  refine Ev.iff (fun hc => ?_) (fun hc => ?_)
  · have := h0 true
    rwa [show (!true && s.data.toList.all goodB) = tv s from by simp [tv]; omega] at this
  · have := h0 (decide ((s.size : Int) > 12))
    rwa [show (!decide ((s.size : Int) > 12) && s.data.toList.all goodB) = tv s from by
      have e1 : decide (1 ≤ s.size) = true := by simp; omega
      by_cases h12 : s.size ≤ 12
      · have : ¬ ((s.size : Int) > 12) := by omega
        simp [tv, e1, h12, this]
      · have : (s.size : Int) > 12 := by omega
        simp [tv, h12, this]] at this
theorem sign_idx : ∀ n : Nat, n < 256 → (decide (Lib.indexByte [44, 58, 61, 123, 125, 40, 41, 91, 93] (UInt8.ofNat n) ≥ 0)) = signC (n : Int) := by decide +kernel
theorem implText_j1 {s : ByteArray} {i : Int} {g R : Bool} (h : Ev (fun k => impl_TextValid.l0 k s (wrap64 (i + 1))) R) : Ev (fun k => impl_TextValid.j1 k s i (!g)) (g && R) := by
  refine Ev.step (fun k => by rw [impl_TextValid.j1]) ?_
  cases g <;> simp
  · exact Ev.now _
  · exact h
theorem implText_l0 {s : ByteArray} (hs : s.size ≤ 4611686018427387904) : ∀ (suf pre : List UInt8), s.data.toList = pre ++ suf → Ev (fun k => impl_TextValid.l0 k s (pre.length : Int)) (suf.all goodB && (decide (1 ≤ s.size) && decide (s.size ≤ 12))) := by
  intro suf
  induction suf with
  | nil =>
    intro pre h
    refine Ev.step (fun k => by rw [impl_TextValid.l0]) ?_
    have c1 : ¬ ((pre.length : Int) < (s.size : Int)) := by rw [size_data, h]; simp
    simp only [if_neg c1]
    refine Ev.iff (fun hc => ?_) (fun hc => ?_)
    · rw [show (([] : List UInt8).all goodB && (decide (1 ≤ s.size) && decide (s.size ≤ 12))) = decide ((s.size : Int) ≤ 12) from by
        have : 1 ≤ s.size := by omega
        simp [this]; omega]
      exact Ev.now _
    · rw [show (([] : List UInt8).all goodB && (decide (1 ≤ s.size) && decide (s.size ≤ 12))) = false from by
        have : ¬ 1 ≤ s.size := by omega
        simp [this]]
      exact Ev.now _
  | cons b suf ih =>
    intro pre h
    have hl : pre.length < s.size := by rw [size_data, h]; simp
    refine Ev.step (fun k => by rw [impl_TextValid.l0]) ?_
    have c1 : (pre.length : Int) < (s.size : Int) := by omega
    have c2 : (0 : Int) ≤ (pre.length : Int) := by omega
    simp only [if_pos c1, if_pos c2, bt_mid h]
    have hn : Ev (fun k => impl_TextValid.l0 k s (wrap64 ((pre.length : Int) + 1))) (suf.all goodB && (decide (1 ≤ s.size) && decide (s.size ≤ 12))) := by
      rw [w64 (by omega) (by omega)]
      have := ih (pre ++ [b]) (by rw [h]; simp)
      rw [show ((pre ++ [b]).length : Int) = (pre.length : Int) + 1 by simp] at this
      exact this
    have h2 : ∀ g, g = goodC (b.toNat : Int) → Ev (fun k => impl_TextValid.j1 k s (pre.length : Int) (!g)) ((b :: suf).all goodB && (decide (1 ≤ s.size) && decide (s.size ≤ 12))) := by
      intro g hg
      rw [List.all_cons, goodB, ← hg, Bool.and_assoc]
      exact implText_j1 hn
    have hb : b.toNat < 256 := b.toNat_lt
    have hi : strings_IndexByte.f (⟨#[44, 58, 61, 123, 125, 40, 41, 91, 93]⟩ : ByteArray) (b.toNat : Int) = some (Lib.indexByte [44, 58, 61, 123, 125, 40, 41, 91, 93] (UInt8.ofNat b.toNat)) := by
      simp [strings_IndexByte.f]
    have hsg := sign_idx b.toNat hb
    simp only [hi, Option.bind_some, hsg]
    repeat' refine Ev.iff (fun hc => ?_) (fun hc => ?_)
    all_goals refine h2 _ ?_
    all_goals
      have e : letC (b.toNat : Int) = true ∨ letC (b.toNat : Int) = false := by cases letC (b.toNat : Int) <;> simp
      rcases e with e | e <;> simp [goodC, e] <;> (simp [letC] at e; omega)
theorem implText_ev (s : ByteArray) (hs : s.size ≤ 4611686018427387904) : Ev (fun k => impl_TextValid.f k s) (tv s) := by
  refine Ev.congr (fun k => by rw [impl_TextValid.f]) ?_
  have hl := implText_l0 hs s.data.toList [] rfl
  rwa [show (s.data.toList.all goodB && (decide (1 ≤ s.size) && decide (s.size ≤ 12))) = tv s from by
    simp only [tv]
    cases s.data.toList.all goodB <;> simp] at hl
end Go.Proofs.Ytdhdfmmefghijaa.Pure
namespace Go.Proofs.Ytdhdfmmefghijaa.Pure
open Go.RowKit Go.Proofs.Ytdhdfmmefghijaa.P Go.Proofs.YtdhdfmmefghijaaW.PrintWords Go.Proofs.YtdhdfmmefghijaaW.PrintLast Go.Proofs.YtdhdfmmefghijaaW.PrintMore
set_option linter.unusedVariables false
set_option linter.unusedSimpArgs false
mutual
/-- nodes and bytes of texts -/
def msz : SDoc → Nat
  | ⟨_, _, t, ks⟩ => 1 + t.size + mszL ks
def mszL : List SDoc → Nat
  | [] => 0
  | k :: ks => msz k + mszL ks
end
theorem mszL_len : ∀ (a : List SDoc), a.length ≤ mszL a
  | [] => by simp [mszL]
  | ⟨_, _, _, ks⟩ :: a => by have := mszL_len a; simp [mszL, msz]; omega
theorem mszL_mem : ∀ {a : List SDoc} {d : SDoc}, d ∈ a → msz d ≤ mszL a
  | k :: a, d, h => by
    rcases List.mem_cons.1 h with rfl | h
    · simp [mszL]
    · have := mszL_mem h; simp [mszL]; omega
theorem dsz_msz : ∀ d : SDoc, dsz d ≤ msz d := by
  intro d
  induction d using SDoc.ind with
  | h o n t ks ih =>
    have key : ∀ l : List SDoc, (∀ k, k ∈ l → dsz k ≤ msz k) → dszL l ≤ mszL l := by
      intro l
      induction l with
      | nil => intro _; simp [dszL, mszL]
      | cons y l ihl =>
        intro hl
        have h1 := hl y List.mem_cons_self
        have h2 := ihl (fun k hk => hl k (List.mem_cons_of_mem _ hk))
        simp only [dszL, mszL]
        omega
    have := key ks ih
    simp only [dsz, msz]
    omega
theorem specCount_loop (o n : Int) (t : ByteArray) (suf : List SDoc) : ∀ (pre : List SDoc) (acc : Int),
    (∀ y, y ∈ suf → Ev (fun k => spec_l1Count.f k y.f0 y.f1 y.f2 y.f3) (dsz y : Int)) → 0 ≤ acc → acc + dszL suf ≤ 9223372036854775807 → pre.length + suf.length ≤ 4611686018427387904 →
    Ev (fun k => spec_l1Count.l0 k acc (pre.length : Int) o n t (pre ++ suf)) (acc + dszL suf) := by
  induction suf with
  | nil =>
    intro pre acc _ h0 hs hm
    refine Ev.step (fun k => by rw [spec_l1Count.l0]) ?_
    simp only [List.append_nil, Int.lt_irrefl, if_false, dszL, Int.natCast_zero, Int.add_zero]
    exact Ev.now _
  | cons y suf ih =>
    intro pre acc hy h0 hs hm
    simp only [List.length_cons, dszL] at hm hs
    refine Ev.step (fun k => by rw [spec_l1Count.l0]) ?_
    have c1 : (pre.length : Int) < ((pre ++ y :: suf).length : Int) := by simp; omega
    have c2 : (0 : Int) ≤ (pre.length : Int) := by omega
    simp only [if_pos c1, if_pos c2, rdD]
    refine Ev.bind (hy y List.mem_cons_self) ?_
    rw [w64 (i := acc + dsz y) (by omega) (by omega), w64 (by omega) (by omega)]
    have := ih (pre ++ [y]) (acc + dsz y) (fun z hz => hy z (List.mem_cons_of_mem _ hz)) (by omega) (by omega) (by simp; omega)
    rw [List.append_assoc, show ((pre ++ [y]).length : Int) = (pre.length : Int) + 1 by simp] at this
    rw [show acc + (dszL (y :: suf) : Int) = acc + dsz y + dszL suf by simp [dszL]; omega]
    exact this
theorem specCount_ev : ∀ (d : SDoc), dsz d ≤ 4611686018427387904 → Ev (fun k => spec_l1Count.f k d.f0 d.f1 d.f2 d.f3) (dsz d : Int) := by
  intro d
  induction d using SDoc.ind with
  | h o n t ks ih =>
    intro hd
    simp only [dsz] at hd
    refine Ev.step (fun k => by rw [spec_l1Count.f]) ?_
    have := specCount_loop o n t ks [] 1 (fun y hy => ih y hy (by have := dszL_mem hy; omega)) (by omega) (by omega) (by have := dszL_len ks; simp; omega)
    rw [show ((dsz ⟨o, n, t, ks⟩ : Nat) : Int) = 1 + (dszL ks : Int) by simp [dsz]]
    simpa using this
end Go.Proofs.Ytdhdfmmefghijaa.Pure
namespace Go.Proofs.Ytdhdfmmefghijaa.Pure
open Go.RowKit Go.Proofs.Ytdhdfmmefghijaa.P Go.Proofs.YtdhdfmmefghijaaW.PrintWords Go.Proofs.YtdhdfmmefghijaaW.PrintLast Go.Proofs.YtdhdfmmefghijaaW.PrintMore
set_option linter.unusedVariables false
set_option linter.unusedSimpArgs false
theorem toList_data (bs : ByteArray) : bs.toList = bs.data.toList := by
  have key : ∀ (n i : Nat) (r : List UInt8), bs.size - i = n → ByteArray.toList.loop bs i r = r.reverse ++ bs.data.toList.drop i := by
    intro n
    induction n with
    | zero =>
      intro i r h
      rw [ByteArray.toList.loop]
      have : ¬ i < bs.size := by omega
      simp [this]
      omega
    | succ n ih =>
      intro i r h
      rw [ByteArray.toList.loop]
      have hi : i < bs.size := by omega
      simp only [hi, if_true]
      rw [ih (i+1) _ (by omega)]
      have h2 : i < bs.data.toList.length := by rw [Array.length_toList]; exact hi
      rw [List.drop_eq_getElem_cons h2]
      have h3 : i < bs.data.size := hi
      have : bs.get! i = bs.data.toList[i] := by
        simp [ByteArray.get!, Array.getElem!_eq_getD, Array.getD, hi]
      simp [this]
  unfold ByteArray.toList
  rw [key bs.size 0 [] (by omega)]
  simp
theorem toList_inj {a b : ByteArray} : a.toList = b.toList ↔ a = b := by
  rw [toList_data, toList_data]
  constructor
  · intro h
    obtain ⟨⟨a⟩⟩ := a
    obtain ⟨⟨b⟩⟩ := b
    simp at h
    subst h
    rfl
  · rintro rfl; rfl
theorem toList_nil {a : ByteArray} : a.toList = [] ↔ a.size = 0 := by
  rw [toList_data, size_data, List.length_eq_zero_iff]
def nodeOk (o n : Int) (t : ByteArray) (len : Nat) : Bool :=
  decide (1 ≤ o) && (decide (o ≤ 8) && (decide ((len : Int) = docKids o) && (decide (0 ≤ n) && (decide (n ≤ 9) && (decide (n = 0 ∨ o = 6) && (if o = 2 then tv t else decide (t.size = 0)))))))
mutual
def wf : SDoc → Nat → Bool
  | ⟨o, n, t, ks⟩, deep => decide (deep ≠ 0) && (nodeOk o n t ks.length && wfL ks (deep - 1))
def wfL : List SDoc → Nat → Bool
  | [], _ => true
  | k :: ks, deep => wf k deep && wfL ks deep
end
def docV (d : SDoc) : Bool := wf d 40 && decide (dsz d ≤ 80)
theorem wfL_all : ∀ (ks : List SDoc) (deep : Nat), wfL ks deep = ks.all fun k => wf k deep
  | [], _ => rfl
  | k :: ks, deep => by rw [wfL, wfL_all ks deep, List.all_cons]
theorem dszL_cons (y : SDoc) (l : List SDoc) : dszL (y :: l) = dsz y + dszL l := rfl
theorem dsz_mk (o n : Int) (t : ByteArray) (ks : List SDoc) : dsz ⟨o, n, t, ks⟩ = 1 + dszL ks := rfl
theorem wfL_cons (y : SDoc) (l : List SDoc) (deep : Nat) : wfL (y :: l) deep = true ↔ wf y deep = true ∧ wfL l deep = true := by rw [wfL, Bool.and_eq_true]
theorem wf_mk (o n : Int) (t : ByteArray) (ks : List SDoc) (deep : Nat) : wf ⟨o, n, t, ks⟩ deep = true ↔ deep ≠ 0 ∧ nodeOk o n t ks.length = true ∧ wfL ks (deep - 1) = true := by rw [wf, Bool.and_eq_true, Bool.and_eq_true, decide_eq_true_eq]
theorem nodeOk_iff (o n : Int) (t : ByteArray) (len : Nat) : nodeOk o n t len = true ↔ 1 ≤ o ∧ o ≤ 8 ∧ (len : Int) = docKids o ∧ 0 ≤ n ∧ n ≤ 9 ∧ (n = 0 ∨ o = 6) ∧ (if o = 2 then tv t else decide (t.size = 0)) = true := by
  simp only [nodeOk, Bool.and_eq_true, decide_eq_true_eq]
theorem docV_iff (d : SDoc) : docV d = true ↔ wf d 40 = true ∧ dsz d ≤ 80 := by rw [docV, Bool.and_eq_true, decide_eq_true_eq]
theorem implOk_loop (deep : Nat) (hdp : deep ≤ 40) (suf : List SDoc) : ∀ (pre : List SDoc) (left : Int),
    (∀ y, y ∈ suf → ∀ left : Int, 0 ≤ left → left ≤ 80 → ∃ b l', Ev (fun k => impl_docOk.f k y.f0 y.f1 y.f2 y.f3 (wrap64 ((deep : Int) - 1)) left) (b, l') ∧ (b = true ↔ wf y (deep - 1) = true ∧ (dsz y : Int) ≤ left) ∧ (b = true → l' = left - dsz y)) →
    0 ≤ left → left ≤ 80 → pre.length + suf.length ≤ 4611686018427387904 →
    ∃ b l', Ev (fun k => impl_docOk.l0 k (pre ++ suf) (pre.length : Int) (deep : Int) left) (b, l') ∧ (b = true ↔ wfL suf (deep - 1) = true ∧ (dszL suf : Int) ≤ left) ∧ (b = true → l' = left - dszL suf) := by
  induction suf with
  | nil =>
    intro pre left _ h0 h1 hm
    refine ⟨true, left, ?_, by simp [wfL, dszL, h0], fun _ => by simp [dszL]⟩
    refine Ev.step (fun k => by rw [impl_docOk.l0]) ?_
    simp only [List.append_nil, Int.lt_irrefl, if_false]
    exact Ev.now _
  | cons y suf ih =>
    intro pre left hy h0 h1 hm
    simp only [List.length_cons] at hm
    obtain ⟨b, l1, he, hb, hl⟩ := hy y List.mem_cons_self left h0 h1
    have c1 : (pre.length : Int) < ((pre ++ y :: suf).length : Int) := by simp; omega
    have c2 : (0 : Int) ≤ (pre.length : Int) := by omega
    have hp := dsz_pos y
    rw [dszL_cons, wfL_cons]
    cases b with
    | false =>
      have hnb : ¬ (wf y (deep - 1) = true ∧ (dsz y : Int) ≤ left) := fun h => by have := hb.2 h; cases this
      refine ⟨false, l1, ?_, ?_, fun h => by cases h⟩
      · refine Ev.step (fun k => by rw [impl_docOk.l0]) ?_
        simp only [if_pos c1, if_pos c2, rdD]
        refine Ev.bind he ?_
        simp only [Bool.false_eq_true, if_false]
        exact Ev.now _
      · refine ⟨fun h => (by cases h), fun h => absurd ⟨h.1.1, ?_⟩ hnb⟩
        have := h.2
        omega
    | true =>
      obtain ⟨hw, hle⟩ := hb.1 rfl
      obtain rfl := hl rfl
      obtain ⟨b2, l2, he2, hb2, hl2⟩ := ih (pre ++ [y]) (left - dsz y) (fun z hz => hy z (List.mem_cons_of_mem _ hz)) (by omega) (by omega) (by simp; omega)
      refine ⟨b2, l2, ?_, ?_, fun h => ?_⟩
      · refine Ev.step (fun k => by rw [impl_docOk.l0]) ?_
        simp only [if_pos c1, if_pos c2, rdD]
        refine Ev.bind he ?_
        simp only [if_true]
        rw [w64 (by omega) (by omega)]
        rw [List.append_assoc, show ((pre ++ [y]).length : Int) = (pre.length : Int) + 1 by simp] at he2
        exact he2
      · rw [hb2]
        constructor
        · intro h; exact ⟨⟨hw, h.1⟩, by have := h.2; omega⟩
        · intro h; exact ⟨h.1.2, by have := h.2; omega⟩
      · have := hl2 h
        omega
theorem implOk_ev : ∀ (d : SDoc), msz d ≤ 1099511627776 → ∀ (deep : Nat), deep ≤ 40 → ∀ (left : Int), 0 ≤ left → left ≤ 80 →
    ∃ b l', Ev (fun k => impl_docOk.f k d.f0 d.f1 d.f2 d.f3 (deep : Int) left) (b, l') ∧ (b = true ↔ wf d deep = true ∧ (dsz d : Int) ≤ left) ∧ (b = true → l' = left - dsz d) := by
  intro d
  induction d using SDoc.ind with
  | h o n t ks ih =>
    intro hd deep hdp left h0 h1
    simp only [msz] at hd
    have hkl := mszL_len ks
    have hwl : wrap64 (left - 1) = left - 1 := w64 (by omega) (by omega)
    rw [wf_mk, dsz_mk, nodeOk_iff]
    by_cases a1 : (deep : Int) = 0 ∨ wrap64 (left - 1) < 0 ∨ o < 1 ∨ 8 < o
    · refine ⟨false, wrap64 (left - 1), ?_, ⟨fun h => (by cases h), fun h => ?_⟩, fun h => by cases h⟩
      · refine Ev.step (fun k => by rw [impl_docOk.f]) ?_
        simp only [if_pos a1]
        exact Ev.now _
      · exfalso
        rw [hwl] at a1
        obtain ⟨⟨h1, ⟨h2, h3, _⟩, _⟩, h4⟩ := h
        omega
    · have hd0 : deep ≠ 0 := fun e => a1 (.inl (by omega))
      have hl0 : ¬ (left - 1 < 0) := fun e => a1 (.inr (.inl (by omega)))
      have ho1 : ¬ o < 1 := fun e => a1 (.inr (.inr (.inl e)))
      have ho8 : ¬ 8 < o := fun e => a1 (.inr (.inr (.inr e)))
      by_cases a2 : ¬ ((ks.length : Int) = docKids o) ∨ n < 0 ∨ 9 < n ∨ (0 < n ∧ ¬ (o = 6))
      · refine ⟨false, wrap64 (left - 1), ?_, ⟨fun h => (by cases h), fun h => ?_⟩, fun h => by cases h⟩
        · refine Ev.step (fun k => by rw [impl_docOk.f]) ?_
          simp only [if_neg a1, if_pos a2]
          exact Ev.now _
        · exfalso
          obtain ⟨⟨_, ⟨_, _, h3, h4, h5, h6, _⟩, _⟩, _⟩ := h
          rcases a2 with a | a | a | a
          · exact a h3
          · omega
          · omega
          · rcases h6 with h6 | h6
            · omega
            · exact a.2 h6
      · have b3 : (ks.length : Int) = docKids o := Decidable.not_not.1 (fun e => a2 (.inl e))
        have b4 : ¬ n < 0 := fun e => a2 (.inr (.inl e))
        have b5 : ¬ 9 < n := fun e => a2 (.inr (.inr (.inl e)))
        have b6 : n = 0 ∨ o = 6 := by
          by_cases hn : 0 < n
          · exact .inr (Decidable.not_not.1 (fun e => a2 (.inr (.inr (.inr ⟨hn, e⟩)))))
          · exact .inl (by omega)
        -- the loop
        obtain ⟨b, l2, he2, hb2, hl2⟩ := implOk_loop deep hdp ks [] (left - 1) (fun y hy left' h0' h1' => by
            have hym := mszL_mem hy
            obtain ⟨b', l', h, h', h''⟩ := ih y hy (by omega) (deep - 1) (by omega) left' h0' h1'
            refine ⟨b', l', ?_, h', h''⟩
            rw [w64 (by omega) (by omega), show ((deep : Int) - 1) = ((deep - 1 : Nat) : Int) by omega]
            exact h) (by omega) (by omega) (by simp; omega)
        have hloop : Ev (fun k => impl_docOk.l0 k ks 0 (deep : Int) (wrap64 (left - 1))) (b, l2) := by rw [hwl]; simpa using he2
        have good : ∀ x : Prop, x → ((b = true ↔ (deep ≠ 0 ∧ (1 ≤ o ∧ o ≤ 8 ∧ (ks.length : Int) = docKids o ∧ 0 ≤ n ∧ n ≤ 9 ∧ (n = 0 ∨ o = 6) ∧ x) ∧ wfL ks (deep - 1) = true) ∧ ((1 + dszL ks : Nat) : Int) ≤ left) ∧ (b = true → l2 = left - ((1 + dszL ks : Nat) : Int))) := by
          intro x hx
          refine ⟨?_, fun h => by have := hl2 h; omega⟩
          rw [hb2]
          constructor
          · intro h; exact ⟨⟨hd0, ⟨by omega, by omega, b3, by omega, by omega, b6, hx⟩, h.1⟩, by have := h.2; omega⟩
          · intro h; exact ⟨h.1.2.2, by have := h.2; omega⟩
        have bad : ∀ x : Prop, ¬ x → (((false : Bool) = true ↔ (deep ≠ 0 ∧ (1 ≤ o ∧ o ≤ 8 ∧ (ks.length : Int) = docKids o ∧ 0 ≤ n ∧ n ≤ 9 ∧ (n = 0 ∨ o = 6) ∧ x) ∧ wfL ks (deep - 1) = true) ∧ ((1 + dszL ks : Nat) : Int) ≤ left) ∧ ((false : Bool) = true → wrap64 (left - 1) = left - ((1 + dszL ks : Nat) : Int))) := by
          intro x hx
          exact ⟨⟨fun h => (by cases h), fun h => absurd h.1.2.1.2.2.2.2.2.2 hx⟩, fun h => by cases h⟩
        by_cases e9 : o = 2
        · have hT := implText_ev t (by omega)
          rw [if_pos e9]
          cases htv : tv t with
          | false =>
            refine ⟨false, wrap64 (left - 1), ?_, bad _ (by simp)⟩
            refine Ev.step (fun k => by rw [impl_docOk.f]) ?_
            simp only [if_neg a1, if_neg a2, if_pos e9]
            refine Ev.bind hT ?_
            simp only [htv, Bool.false_eq_true, if_false]
            exact Ev.now _
          | true =>
            refine ⟨b, l2, ?_, good _ rfl⟩
            refine Ev.step (fun k => by rw [impl_docOk.f]) ?_
            simp only [if_neg a1, if_neg a2, if_pos e9]
            refine Ev.bind hT ?_
            simp only [htv, if_true]
            exact hloop
        · rw [if_neg e9, decide_eq_true_eq]
          by_cases e10 : t.toList = []
          · have hz := toList_nil.1 e10
            refine ⟨b, l2, ?_, good _ hz⟩
            refine Ev.step (fun k => by rw [impl_docOk.f]) ?_
            simp only [if_neg a1, if_neg a2, if_neg e9, if_pos e10]
            exact hloop
          · have hz : ¬ t.size = 0 := fun e => e10 (toList_nil.2 e)
            refine ⟨false, wrap64 (left - 1), ?_, bad _ hz⟩
            refine Ev.step (fun k => by rw [impl_docOk.f]) ?_
            simp only [if_neg a1, if_neg a2, if_neg e9, if_neg e10]
            exact Ev.now _
theorem implValid_ev (d : SDoc) (hd : msz d ≤ 1099511627776) : Ev (fun k => impl_DocValid.f k d.f0 d.f1 d.f2 d.f3) (docV d) := by
  obtain ⟨b, l', h, hb, _⟩ := implOk_ev d hd 40 (by omega) 80 (by omega) (by omega)
  refine Ev.congr (fun k => by rw [impl_DocValid.f]) ?_
  refine Ev.bind (h : Ev (fun k => impl_docOk.f k d.f0 d.f1 d.f2 d.f3 40 80) _) ?_
  rw [show docV d = b from by
    rw [Bool.eq_iff_iff, hb, docV_iff]
    constructor
    · intro h; exact ⟨h.1, by have := h.2; omega⟩
    · intro h; exact ⟨h.1, by have := h.2; omega⟩]
  exact Ev.now _
theorem specKids_ev (o : Int) : Ev (fun k => spec_l1Kids.f k o) (if o < 1 ∨ 8 < o then -1 else docKids o) := by
  have j1 : ∀ b, Ev (fun k => spec_l1Kids.j1 k o b) (if b = true then 1 else if o = 7 then 2 else -1) := by
    intro b
    refine Ev.step (fun k => by rw [spec_l1Kids.j1]) ?_
    cases b
    · simp only [Bool.false_eq_true, if_false]
      by_cases h : o = 7
      · simp only [if_pos h]; exact Ev.now _
      · simp only [if_neg h]; exact Ev.now _
    · exact Ev.now _
  have j0 : ∀ b, Ev (fun k => spec_l1Kids.j0 k o b) (if b = true then 0 else if o = 6 ∨ o = 8 then 1 else if o = 7 then 2 else -1) := by
    intro b
    refine Ev.step (fun k => by rw [spec_l1Kids.j0]) ?_
    cases b
    · simp only [Bool.false_eq_true, if_false]
      by_cases h : o = 6
      · simp only [if_pos h]
        have := j1 (o == 6)
        rw [h] at this ⊢
        simpa using this
      · simp only [if_neg h]
        have := j1 (o == 8)
        by_cases h8 : o = 8
        · rw [h8] at this ⊢
          simpa using this
        · rw [show (o == 8) = false by simpa using h8] at this ⊢
          simpa [h, h8] using this
    · exact Ev.now _
  refine Ev.congr (fun k => by rw [spec_l1Kids.f]) ?_
  have fin : ∀ x b, (o = x → b = true) → (b = true → 1 ≤ o ∧ o ≤ 5) → (b = false → ¬ (1 ≤ o ∧ o ≤ 5)) → Ev (fun k => spec_l1Kids.j0 k o b) (if o < 1 ∨ 8 < o then -1 else docKids o) := by
    intro x b _ h1 h2
    have := j0 b
    cases b
    · have := h2 rfl
      rename_i this'
      rw [show (if o < 1 ∨ 8 < o then -1 else docKids o) = (if (false : Bool) = true then 0 else if o = 6 ∨ o = 8 then 1 else if o = 7 then 2 else -1) from by
        by_cases q : o < 1 ∨ 8 < o
        · have : ¬ (o = 6 ∨ o = 8) := by omega
          have : ¬ o = 7 := by omega
          simp [*]
        · have : o = 6 ∨ o = 7 ∨ o = 8 := by omega
          rcases this with rfl | rfl | rfl <;> simp [docKids]]
      exact this'
    · have := h1 rfl
      rename_i this'
      rw [show (if o < 1 ∨ 8 < o then -1 else docKids o) = 0 from by
        have q : ¬ (o < 1 ∨ 8 < o) := by omega
        rw [if_neg q]
        have : o = 1 ∨ o = 2 ∨ o = 3 ∨ o = 4 ∨ o = 5 := by omega
        rcases this with rfl | rfl | rfl | rfl | rfl <;> rfl]
      exact this'
  repeat' refine Ev.iff (fun hc => ?_) (fun hc => ?_)
  · subst hc; exact fin 1 _ (fun _ => rfl) (fun _ => by omega) (fun h => by cases h)
  · subst hc; exact fin 2 _ (fun _ => rfl) (fun _ => by omega) (fun h => by cases h)
  · subst hc; exact fin 3 _ (fun _ => rfl) (fun _ => by omega) (fun h => by cases h)
  · subst hc; exact fin 4 _ (fun _ => rfl) (fun _ => by omega) (fun h => by cases h)
  · refine fin 5 _ (fun h => by simp [h]) (fun h => by have : o = 5 := by simpa using h
                                                       omega) (fun h => by have : ¬ o = 5 := by simpa using h
                                                                           omega)
theorem specIs_loop (o n : Int) (t : ByteArray) (deep : Nat) (suf : List SDoc) : ∀ (pre : List SDoc),
    (∀ y, y ∈ suf → Ev (fun k => spec_l1Is.f k y.f0 y.f1 y.f2 y.f3 (wrap64 ((deep : Int) - 1))) (wf y (deep - 1))) → pre.length + suf.length ≤ 4611686018427387904 →
    Ev (fun k => spec_l1Is.l0 k (deep : Int) (pre.length : Int) o n t (pre ++ suf)) (wfL suf (deep - 1)) := by
  induction suf with
  | nil =>
    intro pre _ hm
    refine Ev.step (fun k => by rw [spec_l1Is.l0]) ?_
    simp only [List.append_nil, Int.lt_irrefl, if_false]
    exact Ev.now _
  | cons y suf ih =>
    intro pre hy hm
    simp only [List.length_cons] at hm
    have c1 : (pre.length : Int) < ((pre ++ y :: suf).length : Int) := by simp; omega
    have c2 : (0 : Int) ≤ (pre.length : Int) := by omega
    refine Ev.step (fun k => by rw [spec_l1Is.l0]) ?_
    simp only [if_pos c1, if_pos c2, rdD]
    refine Ev.bind (hy y List.mem_cons_self) ?_
    cases hw : wf y (deep - 1) with
    | false =>
      simp only [Bool.false_eq_true, if_false]
      rw [show wfL (y :: suf) (deep - 1) = false from by rw [wfL, hw, Bool.false_and]]
      exact Ev.now _
    | true =>
      simp only [if_true]
      rw [w64 (by omega) (by omega), show wfL (y :: suf) (deep - 1) = wfL suf (deep - 1) from by rw [wfL, hw, Bool.true_and]]
      have := ih (pre ++ [y]) (fun z hz => hy z (List.mem_cons_of_mem _ hz)) (by simp; omega)
      rw [List.append_assoc, show ((pre ++ [y]).length : Int) = (pre.length : Int) + 1 by simp] at this
      exact this
theorem specIs_ev : ∀ (d : SDoc), msz d ≤ 1099511627776 → ∀ (deep : Nat), deep ≤ 40 → Ev (fun k => spec_l1Is.f k d.f0 d.f1 d.f2 d.f3 (deep : Int)) (wf d deep) := by
  intro d
  induction d using SDoc.ind with
  | h o n t ks ih =>
    intro hd deep hdp
    simp only [msz] at hd
    have hkl := mszL_len ks
    have hloop : deep ≠ 0 → Ev (fun k => spec_l1Is.l0 k (deep : Int) 0 o n t ks) (wfL ks (deep - 1)) := fun h0 => by
      have := specIs_loop o n t deep ks [] (fun y hy => by
        have hym := mszL_mem hy
        rw [w64 (by omega) (by omega), show ((deep : Int) - 1) = ((deep - 1 : Nat) : Int) by omega]
        exact ih y hy (by omega) (deep - 1) (by omega)) (by simp; omega)
      simpa using this
    -- the tests, from the last one on
    have j2 : deep ≠ 0 → ∀ b, Ev (fun k => spec_l1Is.j2 k (deep : Int) b o n t ks) (!b && wfL ks (deep - 1)) := fun h0 b => by
      refine Ev.step (fun k => by rw [spec_l1Is.j2]) ?_
      cases b
      · simpa using hloop h0
      · exact Ev.now _
    have j1 : deep ≠ 0 → ∀ b, Ev (fun k => spec_l1Is.j1 k (deep : Int) b o n t ks) (!b && (decide ((o = 6 ∧ 0 ≤ n ∧ n ≤ 9) ∨ (o ≠ 6 ∧ n = 0)) && wfL ks (deep - 1))) := fun h0 b => by
      refine Ev.step (fun k => by rw [spec_l1Is.j1]) ?_
      cases b
      · simp only [Bool.false_eq_true, if_false, Bool.not_false, Bool.true_and]
        have fin : ∀ b, (b = true ↔ ¬ ((o = 6 ∧ 0 ≤ n ∧ n ≤ 9) ∨ (o ≠ 6 ∧ n = 0))) → Ev (fun k => spec_l1Is.j2 k (deep : Int) b o n t ks) (decide ((o = 6 ∧ 0 ≤ n ∧ n ≤ 9) ∨ (o ≠ 6 ∧ n = 0)) && wfL ks (deep - 1)) := fun b hb => by
          have := j2 h0 b
          rwa [show (!b) = decide ((o = 6 ∧ 0 ≤ n ∧ n ≤ 9) ∨ (o ≠ 6 ∧ n = 0)) from by
            rw [Bool.eq_iff_iff, decide_eq_true_eq]
            cases b
            · have : (o = 6 ∧ 0 ≤ n ∧ n ≤ 9) ∨ (o ≠ 6 ∧ n = 0) := Decidable.not_not.1 (fun h => by have := hb.2 h; cases this)
              simpa using this
            · have := hb.1 rfl
              simpa using this] at this
        repeat' refine Ev.iff (fun hc => ?_) (fun hc => ?_)
        · exact fin true ⟨fun _ => by omega, fun _ => rfl⟩
        · exact fin true ⟨fun _ => by omega, fun _ => rfl⟩
        · exact fin false ⟨fun h => (by cases h), fun h => absurd (by omega) h⟩
        · refine fin (n != 0) ⟨fun h => ?_, fun h => ?_⟩
          · have : ¬ n = 0 := by simpa using h
            omega
          · have : ¬ n = 0 := by omega
            simpa using this
      · exact Ev.now _
    have j0 : deep ≠ 0 → ∀ b, Ev (fun k => spec_l1Is.j0 k (deep : Int) b o n t ks) (!b && ((if o = 2 then tv t else decide (t.size = 0)) && (decide ((o = 6 ∧ 0 ≤ n ∧ n ≤ 9) ∨ (o ≠ 6 ∧ n = 0)) && wfL ks (deep - 1)))) := fun h0 b => by
      refine Ev.step (fun k => by rw [spec_l1Is.j0]) ?_
      cases b
      · simp only [Bool.false_eq_true, if_false, Bool.not_false, Bool.true_and]
        by_cases h2 : o = 2
        · simp only [if_pos h2]
          refine Ev.bind (specText_ev t (by omega)) ?_
          cases tv t
          · simp only [Bool.false_eq_true, if_false]
            exact j1 h0 true
          · simp only [if_true]
            exact j1 h0 false
        · simp only [if_neg h2]
          have := j1 h0 (t.toList != ([] : List UInt8))
          rwa [show (!(t.toList != ([] : List UInt8))) = decide (t.size = 0) from by
            rw [Bool.eq_iff_iff, decide_eq_true_eq, ← toList_nil]; simp] at this
      · exact Ev.now _
    refine Ev.step (fun k => by rw [spec_l1Is.f]) ?_
    by_cases h0 : deep = 0
    · subst h0
      simp only [Int.natCast_zero, if_true]
      rw [show wf ⟨o, n, t, ks⟩ 0 = false from by rw [wf]; simp]
      refine Ev.step (fun k => by rw [spec_l1Is.j0]) ?_
      exact Ev.now _
    · have c0 : ¬ (deep : Int) = 0 := by omega
      simp only [if_neg c0]
      refine Ev.bind (specKids_ev o) ?_
      have := j0 h0 ((ks.length : Int) != (if o < 1 ∨ 8 < o then -1 else docKids o))
      rwa [show (!((ks.length : Int) != (if o < 1 ∨ 8 < o then -1 else docKids o)) && ((if o = 2 then tv t else decide (t.size = 0)) && (decide ((o = 6 ∧ 0 ≤ n ∧ n ≤ 9) ∨ (o ≠ 6 ∧ n = 0)) && wfL ks (deep - 1)))) = wf ⟨o, n, t, ks⟩ deep from by
        rw [Bool.eq_iff_iff, wf_mk, nodeOk_iff]
        simp only [Bool.and_eq_true, decide_eq_true_eq, Bool.not_eq_true', bne_eq_false_iff_eq]
        generalize (if o = 2 then tv t else decide (t.size = 0)) = tt
        constructor
        · rintro ⟨h1, h2, h3, h4⟩
          by_cases q : o < 1 ∨ 8 < o
          · rw [if_pos q] at h1; omega
          · rw [if_neg q] at h1
            exact ⟨h0, ⟨by omega, by omega, h1, by omega, by omega, by omega, h2⟩, h4⟩
        · rintro ⟨_, ⟨h1, h2, h3, h4, h5, h6, h7⟩, h8⟩
          have q : ¬ (o < 1 ∨ 8 < o) := by omega
          rw [if_neg q]
          exact ⟨h3, h7, by omega, h8⟩] at this
theorem specValid_ev (d : SDoc) (hd : msz d ≤ 1099511627776) : Ev (fun k => spec_DocValid.f k d.f0 d.f1 d.f2 d.f3) (docV d) := by
  refine Ev.congr (fun k => by rw [spec_DocValid.f]) ?_
  refine Ev.bind (specIs_ev d hd 40 (by omega)) ?_
  cases hw : wf d 40 with
  | false =>
    simp only [Bool.false_eq_true, if_false]
    rw [show docV d = false from by rw [docV, hw, Bool.false_and]]
    exact Ev.now _
  | true =>
    simp only [if_true]
    have := dsz_msz d
    refine Ev.bind (specCount_ev d (by omega)) ?_
    rw [show docV d = decide ((dsz d : Int) ≤ 80) from by rw [docV, hw, Bool.true_and]; exact dec_eq (by omega)]
    exact Ev.now _
end Go.Proofs.Ytdhdfmmefghijaa.Pure
namespace Go.Proofs.Ytdhdfmmefghijaa.Pure
open Go.RowKit Go.Proofs.Ytdhdfmmefghijaa.P Go.Proofs.YtdhdfmmefghijaaW.PrintWords Go.Proofs.YtdhdfmmefghijaaW.PrintLast Go.Proofs.YtdhdfmmefghijaaW.PrintMore
set_option linter.unusedVariables false
set_option linter.unusedSimpArgs false
def ba (l : List UInt8) : ByteArray := ⟨l.toArray⟩
theorem ba_size (l : List UInt8) : (ba l).size = l.length := by simp [ba, ByteArray.size]
theorem ba_data (l : List UInt8) : (ba l).data.toList = l := by simp [ba]
theorem ba_toList (l : List UInt8) : (ba l).toList = l := by rw [toList_data, ba_data]
theorem ba_of (s : ByteArray) : ba s.data.toList = s := by
  obtain ⟨⟨l⟩⟩ := s
  rfl
theorem ba_bt (c : UInt8) (s : List UInt8) : bt (ba (c :: s)) 0 = (c.toNat : Int) := bt_mid (s := ba (c :: s)) (pre := []) (suf := s) (ba_data _)
theorem ba_extract (l : List UInt8) (i j : Nat) : (ba l).extract i j = ba ((l.drop i).take (j - i)) := by
  apply ByteArray.ext
  apply Array.ext'
  simp [ba, List.take_drop]
theorem ba_tail (l : List UInt8) (i : Nat) : (ba l).extract i (ba l).size = ba (l.drop i) := by
  rw [ba_extract, ba_size, List.take_of_length_le (by simp)]
def pW : List UInt8 → Option (List UInt8 × List UInt8)
  | [] => none
  | c :: s => if (c.toNat : Int) = 34 then some ([], s) else (pW s).map fun q => (c :: q.1, q.2)
def pK (f : List UInt8 → Option (SDoc × List UInt8)) : Nat → Int → List UInt8 → Option (List SDoc × List UInt8)
  | 0, _, [] => none
  | 0, e, c :: r => if (c.toNat : Int) = e then some ([], r) else none
  | m + 1, e, s => (f s).bind fun q => (pK f m e q.2).map fun p => (q.1 :: p.1, p.2)
def hd60 : List UInt8 → Bool
  | [] => false
  | c :: _ => (c.toNat : Int) == 60
def pN (f : List UInt8 → Option (SDoc × List UInt8)) : List UInt8 → Option (SDoc × List UInt8)
  | [] => none
  | c :: s =>
    if (c.toNat : Int) = 126 then some (⟨1, 0, ba [], []⟩, s) else if (c.toNat : Int) = 95 then some (⟨3, 0, ba [], []⟩, s)
    else if (c.toNat : Int) = 46 then some (⟨4, 0, ba [], []⟩, s) else if (c.toNat : Int) = 33 then some (⟨5, 0, ba [], []⟩, s)
    else if (c.toNat : Int) = 34 then (pW s).map fun q => (⟨2, 0, ba q.1, []⟩, q.2)
    else if (c.toNat : Int) = 40 then (pK f 2 41 s).map fun q => (⟨7, 0, ba [], q.1⟩, q.2)
    else if (c.toNat : Int) = 91 then (pK f 1 93 s).map fun q => (⟨8, 0, ba [], q.1⟩, q.2)
    else if 48 ≤ (c.toNat : Int) ∧ (c.toNat : Int) ≤ 57 ∧ hd60 s = true then (pK f 1 62 s.tail).map fun q => (⟨6, (c.toNat : Int) - 48, ba [], q.1⟩, q.2)
    else none
def pD : Nat → List UInt8 → Option (SDoc × List UInt8)
  | 0 => fun _ => none
  | n + 1 => pN (pD n)
theorem pW_is : ∀ {s a r : List UInt8}, pW s = some (a, r) → ∃ c : UInt8, (c.toNat : Int) = 34 ∧ s = a ++ c :: r
  | c :: s, a, r, h => by
    rw [pW] at h
    by_cases e : (c.toNat : Int) = 34
    · rw [if_pos e] at h
      obtain ⟨rfl, rfl⟩ := Prod.mk.inj (Option.some.inj h)
      exact ⟨c, e, rfl⟩
    · rw [if_neg e] at h
      obtain ⟨⟨a', r'⟩, h1, h2⟩ := Option.map_eq_some_iff.1 h
      obtain ⟨rfl, rfl⟩ := Prod.mk.inj h2
      obtain ⟨c', hc, hs⟩ := pW_is h1
      exact ⟨c', hc, by rw [hs]; rfl⟩
def Good (f : List UInt8 → Option (SDoc × List UInt8)) : Prop := ∀ s d r, f s = some (d, r) → msz d + r.length ≤ s.length ∧ ∃ u, s = u ++ r
theorem pK_good {f} (hf : Good f) : ∀ (m : Nat) (e : Int) (s : List UInt8) (ks : List SDoc) (r : List UInt8), pK f m e s = some (ks, r) → ks.length = m ∧ mszL ks + 1 + r.length ≤ s.length ∧ ∃ u, s = u ++ r
  | 0, e, [], ks, r, h => by simp [pK] at h
  | 0, e, c :: s, ks, r, h => by
    rw [pK] at h
    by_cases e' : (c.toNat : Int) = e
    · rw [if_pos e'] at h
      obtain ⟨rfl, rfl⟩ := Prod.mk.inj (Option.some.inj h)
      exact ⟨rfl, by simp [mszL]; omega, [c], rfl⟩
    · rw [if_neg e'] at h; cases h
  | m + 1, e, s, ks, r, h => by
    rw [pK] at h
    obtain ⟨⟨d, r1⟩, h1, h⟩ := Option.bind_eq_some_iff.1 h
    obtain ⟨⟨l, r2⟩, h2, h⟩ := Option.map_eq_some_iff.1 h
    obtain ⟨rfl, rfl⟩ := Prod.mk.inj h
    obtain ⟨g1, u1, e1⟩ := hf _ _ _ h1
    obtain ⟨g2, g3, u2, e2⟩ := pK_good hf m e _ _ _ h2
    simp only at g3 e2
    refine ⟨by simp [g2], ?_, u1 ++ u2, by rw [e1, e2, List.append_assoc]⟩
    simp only [mszL]
    have : r1.length = u2.length + r2.length := by rw [e2, List.length_append]
    omega
theorem pN_good {f} (hf : Good f) : Good (pN f) := by
  intro s d r h
  match s, h with
  | c :: s, h =>
    rw [pN] at h
    by_cases c1 : (c.toNat : Int) = 126
    · rw [if_pos c1] at h; obtain ⟨rfl, rfl⟩ := Prod.mk.inj (Option.some.inj h)
      exact ⟨by simp [msz, mszL, ba_size]; omega, [c], rfl⟩
    rw [if_neg c1] at h
    by_cases c2 : (c.toNat : Int) = 95
    · rw [if_pos c2] at h; obtain ⟨rfl, rfl⟩ := Prod.mk.inj (Option.some.inj h)
      exact ⟨by simp [msz, mszL, ba_size]; omega, [c], rfl⟩
    rw [if_neg c2] at h
    by_cases c3 : (c.toNat : Int) = 46
    · rw [if_pos c3] at h; obtain ⟨rfl, rfl⟩ := Prod.mk.inj (Option.some.inj h)
      exact ⟨by simp [msz, mszL, ba_size]; omega, [c], rfl⟩
    rw [if_neg c3] at h
    by_cases c4 : (c.toNat : Int) = 33
    · rw [if_pos c4] at h; obtain ⟨rfl, rfl⟩ := Prod.mk.inj (Option.some.inj h)
      exact ⟨by simp [msz, mszL, ba_size]; omega, [c], rfl⟩
    rw [if_neg c4] at h
    by_cases c5 : (c.toNat : Int) = 34
    · rw [if_pos c5] at h
      obtain ⟨⟨a, r'⟩, h1, h2⟩ := Option.map_eq_some_iff.1 h
      obtain ⟨rfl, rfl⟩ := Prod.mk.inj h2
      obtain ⟨q, _, rfl⟩ := pW_is h1
      exact ⟨by simp [msz, mszL, ba_size]; omega, c :: a ++ [q], by simp⟩
    rw [if_neg c5] at h
    by_cases c6 : (c.toNat : Int) = 40
    · rw [if_pos c6] at h
      obtain ⟨⟨a, r'⟩, h1, h2⟩ := Option.map_eq_some_iff.1 h
      obtain ⟨rfl, rfl⟩ := Prod.mk.inj h2
      obtain ⟨_, g, u, rfl⟩ := pK_good hf _ _ _ _ _ h1
      exact ⟨by simp [msz, ba_size] at g ⊢; omega, c :: u, by simp⟩
    rw [if_neg c6] at h
    by_cases c7 : (c.toNat : Int) = 91
    · rw [if_pos c7] at h
      obtain ⟨⟨a, r'⟩, h1, h2⟩ := Option.map_eq_some_iff.1 h
      obtain ⟨rfl, rfl⟩ := Prod.mk.inj h2
      obtain ⟨_, g, u, rfl⟩ := pK_good hf _ _ _ _ _ h1
      exact ⟨by simp [msz, ba_size] at g ⊢; omega, c :: u, by simp⟩
    rw [if_neg c7] at h
    by_cases c8 : 48 ≤ (c.toNat : Int) ∧ (c.toNat : Int) ≤ 57 ∧ hd60 s = true
    · rw [if_pos c8] at h
      obtain ⟨⟨a, r'⟩, h1, h2⟩ := Option.map_eq_some_iff.1 h
      obtain ⟨rfl, rfl⟩ := Prod.mk.inj h2
      obtain ⟨_, g, u, e⟩ := pK_good hf _ _ _ _ _ h1
      match s, c8, e, g with
      | [], c8, _, _ => simp [hd60] at c8
      | q :: s, _, e, g =>
        simp only [List.tail_cons] at e g
        subst e
        exact ⟨by simp [msz, ba_size] at g ⊢; omega, c :: q :: u, by simp⟩
    · rw [if_neg c8] at h; cases h
theorem pD_good : ∀ n, Good (pD n)
  | 0 => fun s d r h => by simp [pD] at h
  | n + 1 => pN_good (pD_good n)
def endAt (N : Nat) {α : Type} : Option (α × List UInt8) → Int
  | some q => (N : Int) - (q.2.length : Int)
  | none => -1
def parseR (L : List UInt8) : Option SDoc := match pD 40 L with
  | some (d, []) => if docV d = true then some d else none
  | _ => none
def docR : Option SDoc → Int × Int × ByteArray × List SDoc × Bool
  | some d => (d.f0, d.f1, d.f2, d.f3, true)
  | none => (0, 0, ⟨#[]⟩, [], false)
end Go.Proofs.Ytdhdfmmefghijaa.Pure
namespace Go.Proofs.Ytdhdfmmefghijaa.Pure
open Go.RowKit Go.Proofs.Ytdhdfmmefghijaa.P Go.Proofs.YtdhdfmmefghijaaW.PrintWords Go.Proofs.YtdhdfmmefghijaaW.PrintLast Go.Proofs.YtdhdfmmefghijaaW.PrintMore
set_option linter.unusedVariables false
set_option linter.unusedSimpArgs false
theorem bt_at {L pre suf : List UInt8} {c : UInt8} (h : L = pre ++ c :: suf) : bt (ba L) (pre.length : Int) = (c.toNat : Int) := bt_mid (s := ba L) (by rw [ba_data]; exact h)
def wordR (N : Nat) (mid : List UInt8) : Option (List UInt8 × List UInt8) → Int × Int × ByteArray × List SDoc × Int
  | some q => (2, 0, ba (mid ++ q.1), [], (N : Int) - (q.2.length : Int))
  | none => (0, 0, ⟨#[]⟩, [], -1)
theorem specWord_loop {L pre : List UInt8} {c0 : UInt8} (hL : L.length ≤ 1099511627776) : ∀ (suf mid : List UInt8), L = pre ++ c0 :: (mid ++ suf) →
    Ev (fun k => spec_l1Word.l0 k (ba L) (pre.length : Int) ((pre.length + 1 + mid.length : Nat) : Int)) (wordR L.length mid (pW suf)) := by
  intro suf
  induction suf with
  | nil =>
    intro mid h
    have hl : L.length = pre.length + 1 + mid.length := by rw [h]; simp; omega
    refine Ev.step (fun k => by rw [spec_l1Word.l0]) ?_
    simp only [ba_size, if_neg (show ¬ (((pre.length + 1 + mid.length : Nat) : Int) < (L.length : Int)) by omega)]
    refine Ev.step (fun k => by rw [spec_l1Word.j1]) ?_
    simp only [ba_size, if_pos (show ((pre.length + 1 + mid.length : Nat) : Int) ≥ (L.length : Int) by omega)]
    exact Ev.now _
  | cons c suf ih =>
    intro mid h
    have hl : L.length = pre.length + 1 + mid.length + 1 + suf.length := by rw [h]; simp; omega
    have hb : bt (ba L) ((pre.length + 1 + mid.length : Nat) : Int) = (c.toNat : Int) := by
      have := bt_at (L := L) (pre := pre ++ c0 :: mid) (suf := suf) (c := c) (by rw [h]; simp)
      rw [show ((pre.length + 1 + mid.length : Nat) : Int) = (((pre ++ c0 :: mid).length : Nat) : Int) by simp; omega]
      exact this
    refine Ev.step (fun k => by rw [spec_l1Word.l0]) ?_
    simp only [ba_size, if_pos (show ((pre.length + 1 + mid.length : Nat) : Int) < (L.length : Int) by omega), if_pos (show (0 : Int) ≤ ((pre.length + 1 + mid.length : Nat) : Int) by omega), hb]
    rw [pW]
    by_cases e : (c.toNat : Int) = 34
    · simp only [if_pos e]
      refine Ev.step (fun k => by rw [spec_l1Word.j1]) ?_
      have w1 : wrap64 ((pre.length : Int) + 1) = ((pre.length + 1 : Nat) : Int) := by rw [w64 (by omega) (by omega)]; omega
      have w2 : wrap64 (((pre.length + 1 + mid.length : Nat) : Int) + 1) = (L.length : Int) - (suf.length : Int) := by rw [w64 (by omega) (by omega)]; omega
      have hx : (ba L).extract (((pre.length + 1 : Nat) : Int).toNat) (((pre.length + 1 + mid.length : Nat) : Int).toNat) = ba mid := by
        rw [ba_extract, Int.toNat_natCast, Int.toNat_natCast, h, show pre ++ c0 :: (mid ++ c :: suf) = (pre ++ [c0]) ++ (mid ++ c :: suf) by simp, List.drop_left' (by simp), List.take_left' (by omega)]
      simp only [ba_size, if_neg (show ¬ (((pre.length + 1 + mid.length : Nat) : Int) ≥ (L.length : Int)) by omega), w1, w2, if_pos (show (0 : Int) ≤ ((pre.length + 1 : Nat) : Int) by omega),
        if_pos (show ((pre.length + 1 : Nat) : Int) ≤ ((pre.length + 1 + mid.length : Nat) : Int) by omega), if_pos (show ((pre.length + 1 + mid.length : Nat) : Int) ≤ (L.length : Int) by omega), hx]
      simp only [wordR, List.append_nil]
      exact Ev.now _
    · simp only [if_neg e]
      have w1 : wrap64 (((pre.length + 1 + mid.length : Nat) : Int) + 1) = ((pre.length + 1 + (mid ++ [c]).length : Nat) : Int) := by rw [w64 (by omega) (by omega)]; simp; omega
      rw [w1]
      have := ih (mid ++ [c]) (by rw [h]; simp)
      have e2 : wordR L.length (mid ++ [c]) (pW suf) = wordR L.length mid ((pW suf).map fun q => (c :: q.1, q.2)) := by
        cases pW suf <;> simp [wordR]
      rw [← e2]
      exact this
def RdS (L : List UInt8) (n : Nat) : Prop := ∀ pre suf : List UInt8, L = pre ++ suf → ∃ d : SDoc, Ev (fun k => spec_l1Read.f k (ba L) (pre.length : Int) (n : Int)) (d.f0, d.f1, d.f2, d.f3, endAt L.length (pD n suf)) ∧ ∀ d' r, pD n suf = some (d', r) → d' = d
theorem specInner_loop {L : List UInt8} (hL : L.length ≤ 1099511627776) {n : Nat} (hn : n + 1 ≤ 40) (IH : RdS L n) (e : Int) (x2 : Nat) (hx2 : x2 ≤ 2) : ∀ (m : Nat), m ≤ x2 → ∀ (pre suf : List UInt8) (out : List SDoc), L = pre ++ suf → out.length + m = x2 →
    ∃ l : List SDoc, Ev (fun k => spec_l1Inner.l0 k (ba L) (pre.length : Int) (x2 : Int) e ((n + 1 : Nat) : Int) out (out.length : Int)) (l, endAt L.length (pK (pD n) m e suf)) ∧ ∀ ks r, pK (pD n) m e suf = some (ks, r) → l = out ++ ks := by
  intro m
  induction m with
  | zero =>
    intro _ pre suf out h ho
    refine ⟨out, Ev.step (fun k => by rw [spec_l1Inner.l0]) ?_, ?_⟩
    · simp only [if_neg (show ¬ ((out.length : Int) < (x2 : Int)) by omega), ba_size]
      match suf, h with
      | [], h =>
        have hl : L.length = pre.length := by rw [h]; simp
        simp only [if_pos (show (pre.length : Int) ≥ (L.length : Int) by omega)]
        exact Ev.now _
      | c :: suf, h =>
        have hl : L.length = pre.length + 1 + suf.length := by rw [h]; simp; omega
        simp only [if_neg (show ¬ ((pre.length : Int) ≥ (L.length : Int)) by omega), if_pos (show (0 : Int) ≤ (pre.length : Int) by omega), if_pos (show (pre.length : Int) < (L.length : Int) by omega), bt_at h, pK]
        by_cases c1 : (c.toNat : Int) = e
        · simp only [if_pos c1]
          rw [w64 (by omega) (by omega), show endAt L.length (some (([] : List SDoc), suf)) = (pre.length : Int) + 1 by simp [endAt]; omega]
          exact Ev.now _
        · simp only [if_neg c1]
          exact Ev.now _
    · intro ks r hk
      match suf, hk with
      | [], hk => simp [pK] at hk
      | c :: suf, hk =>
        rw [pK] at hk
        by_cases c1 : (c.toNat : Int) = e
        · rw [if_pos c1] at hk
          obtain ⟨rfl, rfl⟩ := Prod.mk.inj (Option.some.inj hk)
          simp
        · rw [if_neg c1] at hk; cases hk
  | succ m ih =>
    intro hm pre suf out h ho
    obtain ⟨d, hd, hd'⟩ := IH pre suf h
    have w1 : wrap64 (((n + 1 : Nat) : Int) - 1) = (n : Int) := by rw [w64 (by omega) (by omega)]; omega
    have c1 : (out.length : Int) < (x2 : Int) := by omega
    cases hp : pD n suf with
    | none =>
      rw [hp] at hd
      refine ⟨out, Ev.step (fun k => by rw [spec_l1Inner.l0]) ?_, ?_⟩
      · simp only [if_pos c1, w1]
        refine Ev.bind hd ?_
        simp only [endAt, show ((-1 : Int) < 0) = True by simp, if_true]
        rw [pK, hp]
        exact Ev.now _
      · intro ks r hk
        rw [pK, hp] at hk
        cases hk
    | some q =>
      obtain ⟨d1, r1⟩ := q
      obtain rfl := hd' d1 r1 hp
      obtain ⟨_, u, rfl⟩ := pD_good n _ _ _ hp
      have hl : L.length = pre.length + u.length + r1.length := by rw [h]; simp; omega
      obtain ⟨l, hl1, hl2⟩ := ih (by omega) (pre ++ u) r1 (out ++ [d1]) (by rw [h]; simp) (by simp; omega)
      rw [hp] at hd
      have e1 : endAt L.length (some (d1, r1)) = (((pre ++ u).length : Nat) : Int) := by simp [endAt]; omega
      rw [e1] at hd
      refine ⟨l, Ev.step (fun k => by rw [spec_l1Inner.l0]) ?_, ?_⟩
      · simp only [if_pos c1, w1]
        refine Ev.bind hd ?_
        simp only [if_neg (show ¬ ((((pre ++ u).length : Nat) : Int) < 0) by omega), if_pos (show out.length < 2513169434916 by omega), SDoc_eta]
        rw [w64 (by omega) (by omega), show (out.length : Int) + 1 = ((out ++ [d1]).length : Int) by simp]
        rw [pK, hp]
        have e2 : endAt L.length (((some (d1, r1)).bind fun q => (pK (pD n) m e q.2).map fun p => (q.1 :: p.1, p.2)) : Option (List SDoc × List UInt8)) = endAt L.length (pK (pD n) m e r1) := by
          simp only [Option.bind_some]
          cases pK (pD n) m e r1 <;> rfl
        rw [e2]
        exact hl1
      · intro ks r hk
        rw [pK, hp] at hk
        simp only [Option.bind_some] at hk
        obtain ⟨⟨l2, r2⟩, h1, h2⟩ := Option.map_eq_some_iff.1 hk
        obtain ⟨rfl, rfl⟩ := Prod.mk.inj h2
        rw [hl2 l2 r2 h1]
        simp
theorem specRead_ev {L : List UInt8} (hL : L.length ≤ 1099511627776) : ∀ n : Nat, n ≤ 40 → RdS L n := by
  intro n
  induction n with
  | zero =>
    intro _ pre suf h
    refine ⟨⟨0, 0, ⟨#[]⟩, []⟩, Ev.step (fun k => by rw [spec_l1Read.f]) ?_, fun d' r hp => by simp [pD] at hp⟩
    have J : Ev (fun k => spec_l1Read.j0 k (ba L) (pre.length : Int) ((0 : Nat) : Int) true) (0, 0, (⟨#[]⟩ : ByteArray), ([] : List SDoc), -1) := by
      refine Ev.step (fun k => by rw [spec_l1Read.j0]) ?_
      simp only [if_true]
      exact Ev.now _
    exact Ev.iff (fun _ => J) (fun _ => J)
  | succ n ih =>
    intro hn pre suf h
    have IH := ih (by omega)
    match suf, h with
    | [], h =>
      have hl : L.length = pre.length := by rw [h]; simp
      refine ⟨⟨0, 0, ⟨#[]⟩, []⟩, Ev.step (fun k => by rw [spec_l1Read.f]) ?_, fun d' r hp => by simp [pD, pN] at hp⟩
      simp only [ba_size, if_pos (show (pre.length : Int) ≥ (L.length : Int) by omega)]
      refine Ev.step (fun k => by rw [spec_l1Read.j0]) ?_
      simp only [if_true]
      exact Ev.now _
    | c :: suf, h =>
      have hl : L.length = pre.length + 1 + suf.length := by rw [h]; simp; omega
      have h' : L = (pre ++ [c]) ++ suf := by rw [h]; simp
      have w1 : wrap64 ((pre.length : Int) + 1) = (((pre ++ [c]).length : Nat) : Int) := by rw [w64 (by omega) (by omega)]; simp
      have start : ∀ R, Ev (fun k => spec_l1Read.j0 k (ba L) (pre.length : Int) ((n + 1 : Nat) : Int) false) R → Ev (fun k => spec_l1Read.f k (ba L) (pre.length : Int) ((n + 1 : Nat) : Int)) R := by
        intro R hR
        refine Ev.step (fun k => by rw [spec_l1Read.f]) ?_
        simp only [ba_size, if_neg (show ¬ ((pre.length : Int) ≥ (L.length : Int)) by omega)]
        rw [show (((n + 1 : Nat) : Int) == 0) = false by simp; omega]
        exact hR
      have inner : ∀ (pre' suf' : List UInt8) (m : Nat) (e : Int), L = pre' ++ suf' → m ≤ 2 → ∃ l : List SDoc, Ev (fun k => spec_l1Inner.f k (ba L) (pre'.length : Int) (m : Int) e ((n + 1 : Nat) : Int)) (l, endAt L.length (pK (pD n) m e suf')) ∧ ∀ ks r, pK (pD n) m e suf' = some (ks, r) → l = ks := by
        intro pre' suf' m e hp hm
        obtain ⟨l, h1, h2⟩ := specInner_loop hL (by omega) IH e m hm m (Nat.le_refl _) pre' suf' [] hp (by simp)
        exact ⟨l, Ev.step (fun k => by rw [spec_l1Inner.f]; rfl) h1, fun ks r hk => by rw [h2 ks r hk]; rfl⟩
      have leafs : ∀ o : Int, pD (n + 1) (c :: suf) = some (⟨o, 0, ba [], []⟩, suf) → Ev (fun k => spec_l1Read.j0 k (ba L) (pre.length : Int) ((n + 1 : Nat) : Int) false) (o, 0, (⟨#[]⟩ : ByteArray), ([] : List SDoc), (((pre ++ [c]).length : Nat) : Int)) →
          ∃ d : SDoc, Ev (fun k => spec_l1Read.f k (ba L) (pre.length : Int) ((n + 1 : Nat) : Int)) (d.f0, d.f1, d.f2, d.f3, endAt L.length (pD (n + 1) (c :: suf))) ∧ ∀ d' r, pD (n + 1) (c :: suf) = some (d', r) → d' = d := by
        intro o hp hR
        refine ⟨⟨o, 0, ba [], []⟩, start _ ?_, fun d' r hd => by rw [hp] at hd; exact (Prod.mk.inj (Option.some.inj hd)).1.symm⟩
        rw [hp, show endAt L.length (some ((⟨o, 0, ba [], []⟩ : SDoc), suf)) = (((pre ++ [c]).length : Nat) : Int) by simp [endAt]; omega]
        exact hR
      have J : ∀ R, (Ev (fun k => if (c.toNat : Int) = 126 then (some ((1 : Int), (0 : Int), (⟨#[]⟩ : ByteArray), ([] : List SDoc), (((pre ++ [c]).length : Nat) : Int))) else (if (c.toNat : Int) = 95 then (some (3, 0, (⟨#[]⟩ : ByteArray), ([] : List SDoc), (((pre ++ [c]).length : Nat) : Int))) else (if (c.toNat : Int) = 46 then (some (4, 0, (⟨#[]⟩ : ByteArray), ([] : List SDoc), (((pre ++ [c]).length : Nat) : Int))) else (if (c.toNat : Int) = 33 then (some (5, 0, (⟨#[]⟩ : ByteArray), ([] : List SDoc), (((pre ++ [c]).length : Nat) : Int))) else (if (c.toNat : Int) = 34 then ((spec_l1Word.f k (ba L) (pre.length : Int)).bind fun b => (some (b.1, b.2.1, b.2.2.1, b.2.2.2.1, b.2.2.2.2))) else (if (c.toNat : Int) = 40 then ((spec_l1Inner.f k (ba L) (((pre ++ [c]).length : Nat) : Int) 2 41 ((n + 1 : Nat) : Int)).bind fun b => (some (7, 0, (⟨#[]⟩ : ByteArray), b.1, b.2))) else (if (c.toNat : Int) = 91 then ((spec_l1Inner.f k (ba L) (((pre ++ [c]).length : Nat) : Int) 1 93 ((n + 1 : Nat) : Int)).bind fun b => (some (8, 0, (⟨#[]⟩ : ByteArray), b.1, b.2))) else (if (c.toNat : Int) ≥ 48 then (if (c.toNat : Int) ≤ 57 then (if (((pre ++ [c]).length : Nat) : Int) < (L.length : Int) then (if 0 ≤ (((pre ++ [c]).length : Nat) : Int) then (spec_l1Read.j1 k (ba L) (pre.length : Int) ((n + 1 : Nat) : Int) ((bt (ba L) (((pre ++ [c]).length : Nat) : Int)) == 60)) else (none)) else (spec_l1Read.j1 k (ba L) (pre.length : Int) ((n + 1 : Nat) : Int) false)) else (spec_l1Read.j1 k (ba L) (pre.length : Int) ((n + 1 : Nat) : Int) false)) else (spec_l1Read.j1 k (ba L) (pre.length : Int) ((n + 1 : Nat) : Int) false))))))))) R) →
          Ev (fun k => spec_l1Read.j0 k (ba L) (pre.length : Int) ((n + 1 : Nat) : Int) false) R := by
        intro R hR
        refine Ev.step (fun k => by rw [spec_l1Read.j0]) ?_
        simp only [Bool.false_eq_true, if_false, if_pos (show (0 : Int) ≤ (pre.length : Int) by omega), ba_size, if_pos (show (pre.length : Int) < (L.length : Int) by omega), bt_at h, w1]
        exact hR
      by_cases c1 : (c.toNat : Int) = 126
      · refine leafs 1 (by rw [pD, pN, if_pos c1]) (J _ ?_)
        simp only [if_pos c1]; exact Ev.now _
      by_cases c2 : (c.toNat : Int) = 95
      · refine leafs 3 (by rw [pD, pN, if_neg c1, if_pos c2]) (J _ ?_)
        simp only [if_neg c1, if_pos c2]; exact Ev.now _
      by_cases c3 : (c.toNat : Int) = 46
      · refine leafs 4 (by rw [pD, pN, if_neg c1, if_neg c2, if_pos c3]) (J _ ?_)
        simp only [if_neg c1, if_neg c2, if_pos c3]; exact Ev.now _
      by_cases c4 : (c.toNat : Int) = 33
      · refine leafs 5 (by rw [pD, pN, if_neg c1, if_neg c2, if_neg c3, if_pos c4]) (J _ ?_)
        simp only [if_neg c1, if_neg c2, if_neg c3, if_pos c4]; exact Ev.now _
      by_cases c5 : (c.toNat : Int) = 34
      · have hp : pD (n + 1) (c :: suf) = (pW suf).map fun q => (⟨2, 0, ba q.1, []⟩, q.2) := by rw [pD, pN, if_neg c1, if_neg c2, if_neg c3, if_neg c4, if_pos c5]
        have hw := specWord_loop (L := L) (pre := pre) (c0 := c) hL suf [] h
        have hw' : Ev (fun k => spec_l1Word.f k (ba L) (pre.length : Int)) (wordR L.length [] (pW suf)) := by
          refine Ev.congr (fun k => by rw [spec_l1Word.f]) ?_
          rw [w64 (by omega) (by omega), show (pre.length : Int) + 1 = ((pre.length + 1 + ([] : List UInt8).length : Nat) : Int) by simp]
          exact hw
        rw [hp]
        cases hq : pW suf with
        | none =>
          rw [hq] at hw'
          refine ⟨⟨0, 0, ⟨#[]⟩, []⟩, start _ (J _ ?_), fun d' r hd => by cases hd⟩
          simp only [if_neg c1, if_neg c2, if_neg c3, if_neg c4, if_pos c5]
          exact Ev.bind hw' (Ev.now _)
        | some q =>
          rw [hq] at hw'
          refine ⟨⟨2, 0, ba q.1, []⟩, start _ (J _ ?_), fun d' r hd => (Prod.mk.inj (Option.some.inj hd)).1.symm⟩
          simp only [if_neg c1, if_neg c2, if_neg c3, if_neg c4, if_pos c5]
          exact Ev.bind hw' (Ev.now _)
      by_cases c6 : (c.toNat : Int) = 40
      · have hp : pD (n + 1) (c :: suf) = (pK (pD n) 2 41 suf).map fun q => (⟨7, 0, ba [], q.1⟩, q.2) := by rw [pD, pN, if_neg c1, if_neg c2, if_neg c3, if_neg c4, if_neg c5, if_pos c6]
        obtain ⟨l, h1, h2⟩ := inner (pre ++ [c]) suf 2 41 h' (by omega)
        refine ⟨⟨7, 0, ba [], l⟩, start _ (J _ ?_), fun d' r hd => ?_⟩
        · simp only [if_neg c1, if_neg c2, if_neg c3, if_neg c4, if_neg c5, if_pos c6]
          refine Ev.bind h1 ?_
          rw [hp, show endAt L.length ((pK (pD n) 2 41 suf).map fun q => ((⟨7, 0, ba [], q.1⟩ : SDoc), q.2)) = endAt L.length (pK (pD n) 2 41 suf) by cases pK (pD n) 2 41 suf <;> rfl]
          exact Ev.now _
        · rw [hp] at hd
          obtain ⟨⟨ks, r'⟩, e1, e2⟩ := Option.map_eq_some_iff.1 hd
          obtain ⟨rfl, rfl⟩ := Prod.mk.inj e2
          rw [h2 ks r' e1]
      by_cases c7 : (c.toNat : Int) = 91
      · have hp : pD (n + 1) (c :: suf) = (pK (pD n) 1 93 suf).map fun q => (⟨8, 0, ba [], q.1⟩, q.2) := by rw [pD, pN, if_neg c1, if_neg c2, if_neg c3, if_neg c4, if_neg c5, if_neg c6, if_pos c7]
        obtain ⟨l, h1, h2⟩ := inner (pre ++ [c]) suf 1 93 h' (by omega)
        refine ⟨⟨8, 0, ba [], l⟩, start _ (J _ ?_), fun d' r hd => ?_⟩
        · simp only [if_neg c1, if_neg c2, if_neg c3, if_neg c4, if_neg c5, if_neg c6, if_pos c7]
          refine Ev.bind h1 ?_
          rw [hp, show endAt L.length ((pK (pD n) 1 93 suf).map fun q => ((⟨8, 0, ba [], q.1⟩ : SDoc), q.2)) = endAt L.length (pK (pD n) 1 93 suf) by cases pK (pD n) 1 93 suf <;> rfl]
          exact Ev.now _
        · rw [hp] at hd
          obtain ⟨⟨ks, r'⟩, e1, e2⟩ := Option.map_eq_some_iff.1 hd
          obtain ⟨rfl, rfl⟩ := Prod.mk.inj e2
          rw [h2 ks r' e1]
      have bad : (¬ (48 ≤ (c.toNat : Int) ∧ (c.toNat : Int) ≤ 57 ∧ hd60 suf = true)) → Ev (fun k => spec_l1Read.j1 k (ba L) (pre.length : Int) ((n + 1 : Nat) : Int) false) ((0 : Int), (0 : Int), (⟨#[]⟩ : ByteArray), ([] : List SDoc), (-1 : Int)) := by
        intro _
        refine Ev.step (fun k => by rw [spec_l1Read.j1]) ?_
        simp only [Bool.false_eq_true, if_false]
        exact Ev.now _
      by_cases c8 : 48 ≤ (c.toNat : Int) ∧ (c.toNat : Int) ≤ 57 ∧ hd60 suf = true
      · have hp : pD (n + 1) (c :: suf) = (pK (pD n) 1 62 suf.tail).map fun q => (⟨6, (c.toNat : Int) - 48, ba [], q.1⟩, q.2) := by rw [pD, pN, if_neg c1, if_neg c2, if_neg c3, if_neg c4, if_neg c5, if_neg c6, if_neg c7, if_pos c8]
        obtain ⟨c80, c81, c82⟩ := c8
        match suf, h, h', c82, hp, hl with
        | [], _, _, c82, _, _ => simp [hd60] at c82
        | q :: suf, h, h', c82, hp, hl =>
          have hq : (q.toNat : Int) = 60 := by simpa [hd60] using c82
          simp only [List.length_cons] at hl
          obtain ⟨l, h1, h2⟩ := inner (pre ++ [c] ++ [q]) suf 1 62 (by rw [h]; simp) (by omega)
          have w2 : wrap64 ((pre.length : Int) + 2) = (((pre ++ [c] ++ [q]).length : Nat) : Int) := by rw [w64 (by omega) (by omega)]; simp
          refine ⟨⟨6, (c.toNat : Int) - 48, ba [], l⟩, start _ (J _ ?_), fun d' r hd => ?_⟩
          · simp only [if_neg c1, if_neg c2, if_neg c3, if_neg c4, if_neg c5, if_neg c6, if_neg c7, if_pos (show (c.toNat : Int) ≥ 48 from c80), if_pos c81]
            rw [bt_at (L := L) (pre := pre ++ [c]) (suf := suf) (c := q) h']
            simp only [if_pos (show (((pre ++ [c]).length : Nat) : Int) < (L.length : Int) by simp; omega), if_pos (show (0 : Int) ≤ (((pre ++ [c]).length : Nat) : Int) by omega), hq, beq_self_eq_true]
            refine Ev.step (fun k => by rw [spec_l1Read.j1]) ?_
            simp only [if_true, w2]
            refine Ev.bind h1 ?_
            simp only [ba_size, if_pos (show (0 : Int) ≤ (pre.length : Int) by omega), if_pos (show (pre.length : Int) < (L.length : Int) by omega), bt_at h]
            rw [show ((c.toNat : Int) - 48) % 256 = (c.toNat : Int) - 48 by omega, hp]
            simp only [List.tail_cons]
            rw [show endAt L.length ((pK (pD n) 1 62 suf).map fun p => ((⟨6, (c.toNat : Int) - 48, ba [], p.1⟩ : SDoc), p.2)) = endAt L.length (pK (pD n) 1 62 suf) by cases pK (pD n) 1 62 suf <;> rfl]
            exact Ev.now _
          · rw [hp] at hd
            simp only [List.tail_cons] at hd
            obtain ⟨⟨ks, r'⟩, e1, e2⟩ := Option.map_eq_some_iff.1 hd
            obtain ⟨rfl, rfl⟩ := Prod.mk.inj e2
            rw [h2 ks r' e1]
      · have hp : pD (n + 1) (c :: suf) = none := by rw [pD, pN, if_neg c1, if_neg c2, if_neg c3, if_neg c4, if_neg c5, if_neg c6, if_neg c7, if_neg c8]
        rw [hp]
        refine ⟨⟨0, 0, ⟨#[]⟩, []⟩, start _ (J _ ?_), fun d' r hd => by cases hd⟩
        simp only [if_neg c1, if_neg c2, if_neg c3, if_neg c4, if_neg c5, if_neg c6, if_neg c7]
        refine Ev.iff (fun c80 => Ev.iff (fun c81 => ?_) (fun _ => bad c8)) (fun _ => bad c8)
        match suf, h, h', c8 with
        | [], h, _, c8 =>
          simp only [List.length_append, List.length_cons, List.length_nil] at hl
          simp only [if_neg (show ¬ ((((pre ++ [c]).length : Nat) : Int) < (L.length : Int)) by simp; omega)]
          exact bad c8
        | q :: suf, h, h', c8 =>
          have hq : ((q.toNat : Int) == 60) = false := by
            cases hb : ((q.toNat : Int) == 60) with
            | false => rfl
            | true => exact absurd ⟨c80, c81, by simpa [hd60] using hb⟩ c8
          simp only [List.length_cons] at hl
          simp only [if_pos (show (((pre ++ [c]).length : Nat) : Int) < (L.length : Int) by simp; omega), if_pos (show (0 : Int) ≤ (((pre ++ [c]).length : Nat) : Int) by omega), bt_at (L := L) (pre := pre ++ [c]) (suf := suf) (c := q) h', hq]
          exact bad c8
theorem specParse_ev (s : ByteArray) (hs : s.size ≤ 1099511627776) : Ev (fun k => spec_ParseDoc.f k s) (docR (parseR s.data.toList)) := by
  have hs' : s.data.toList.length ≤ 1099511627776 := by rw [← size_data]; exact hs
  obtain ⟨d, h1, h2⟩ := specRead_ev hs' 40 (Nat.le_refl _) [] s.data.toList rfl
  rw [ba_of] at h1
  have h1 : Ev (fun k => spec_l1Read.f k s 0 40) (d.f0, d.f1, d.f2, d.f3, endAt s.data.toList.length (pD 40 s.data.toList)) := h1
  refine Ev.congr (fun k => by rw [spec_ParseDoc.f]) (Ev.bind h1 ?_)
  rw [size_data]
  unfold parseR
  cases hp : pD 40 s.data.toList with
  | none =>
    simp only [endAt, if_neg (show ¬ ((-1 : Int) = (s.data.toList.length : Int)) by omega)]
    exact Ev.now _
  | some q =>
    obtain ⟨d', r⟩ := q
    obtain rfl := h2 d' r hp
    obtain ⟨hm, u, hu⟩ := pD_good 40 _ _ _ hp
    match r, hp, hm, hu with
    | [], hp, hm, hu =>
      simp only [endAt, List.length_nil, if_pos (show ((s.data.toList.length : Int) - ((0 : Nat) : Int) = (s.data.toList.length : Int)) by omega)]
      refine Ev.bind (specValid_ev d' (by omega)) ?_
      by_cases hv : docV d' = true
      · simp only [if_pos hv, docR]; exact Ev.now _
      · simp only [if_neg hv, docR]; exact Ev.now _
    | c :: r, hp, hm, hu =>
      simp only [endAt, List.length_cons, if_neg (show ¬ ((s.data.toList.length : Int) - ((r.length + 1 : Nat) : Int) = (s.data.toList.length : Int)) by omega)]
      exact Ev.now _
end Go.Proofs.Ytdhdfmmefghijaa.Pure
namespace Go.Proofs.Ytdhdfmmefghijaa.P
open Go.RowKit Go.Proofs.YtdhdfmmefghijaaW.PrintWords Go.Proofs.YtdhdfmmefghijaaW.PrintLast Go.Proofs.YtdhdfmmefghijaaW.PrintMore
attribute [local go_sem] max2_int min2_int max_two min_two max_three min_three max_four min_four
set_option linter.unusedVariables false
set_option linter.unusedSimpArgs false
mutual
def spec_CountOps.j0:Nat→Int→Int→Int→Int→ByteArray→List (SDoc)→Option (Int)
 | 0,_,_,_,_,_,_=>none
 | k+1,x1,x5,x542000,x542001,x542002,x542003=>spec_CountOps.l0 k x1 x5 0 x542000 x542001 x542002 x542003
def spec_CountOps.l0:Nat→Int→Int→Int→Int→Int→ByteArray→List (SDoc)→Option (Int)
 | 0,_,_,_,_,_,_,_=>none
 | k+1,x1,x5,x6,x542000,x542001,x542002,x542003=>if x6 < (x542003.length:Int) then (if 0≤x6 then ((spec_CountOps.f k ((rd_TDoc x542003 x6).f0) ((rd_TDoc x542003 x6).f1) ((rd_TDoc x542003 x6).f2) ((rd_TDoc x542003 x6).f3) x1).bind fun t543=>(spec_CountOps.l0 k x1 (wrap64 (x5+t543)) (wrap64 (x6+1)) x542000 x542001 x542002 x542003)) else (none)) else (some x5)
def spec_CountOps.f:Nat→Int→Int→ByteArray→List (SDoc)→Int→Option (Int)
 | 0,_,_,_,_,_=>none
 | k+1,a0_0,a0_1,a0_2,l0_3,a1=>if a0_0=a1 then (spec_CountOps.j0 k a1 1 a0_0 a0_1 a0_2 l0_3) else (spec_CountOps.j0 k a1 0 a0_0 a0_1 a0_2 l0_3)
end
end Go.Proofs.Ytdhdfmmefghijaa.P
namespace Go.Proofs.Ytdhdfmmefghijaa.P
open Go.RowKit Go.Proofs.YtdhdfmmefghijaaW.PrintWords Go.Proofs.YtdhdfmmefghijaaW.PrintLast Go.Proofs.YtdhdfmmefghijaaW.PrintMore
attribute [local go_sem] max2_int min2_int max_two min_two max_three min_three max_four min_four
set_option linter.unusedVariables false
set_option linter.unusedSimpArgs false
mutual
def impl_CountOps.j0:Nat→Int→Int→Int→Int→ByteArray→List (SDoc)→Option (Int)
 | 0,_,_,_,_,_,_=>none
 | k+1,x1,x5,x510000,x510001,x510002,x510003=>impl_CountOps.l0 k x1 x5 x510003 (x510003.length:Int) 0
def impl_CountOps.l0:Nat→Int→Int→List (SDoc)→Int→Int→Option (Int)
 | 0,_,_,_,_,_=>none
 | k+1,x1,x5,x13,x14,x15=>if x15 < x14 then (if 0≤x15 then (if x15 < (x13.length:Int) then ((impl_CountOps.f k ((rd_TDoc x13 x15).f0) ((rd_TDoc x13 x15).f1) ((rd_TDoc x13 x15).f2) ((rd_TDoc x13 x15).f3) x1).bind fun t512=>(impl_CountOps.l0 k x1 (wrap64 (x5+t512)) x13 x14 (wrap64 (x15+1)))) else (none)) else (none)) else (some x5)
def impl_CountOps.f:Nat→Int→Int→ByteArray→List (SDoc)→Int→Option (Int)
 | 0,_,_,_,_,_=>none
 | k+1,a0_0,a0_1,a0_2,l0_3,a1=>if a0_0=a1 then (impl_CountOps.j0 k a1 1 a0_0 a0_1 a0_2 l0_3) else (impl_CountOps.j0 k a1 0 a0_0 a0_1 a0_2 l0_3)
end
end Go.Proofs.Ytdhdfmmefghijaa.P
namespace Go.Proofs.Ytdhdfmmefghijaa.Pure
open Go.RowKit Go.Proofs.Ytdhdfmmefghijaa.P Go.Proofs.YtdhdfmmefghijaaW.PrintWords Go.Proofs.YtdhdfmmefghijaaW.PrintLast Go.Proofs.YtdhdfmmefghijaaW.PrintMore
set_option linter.unusedVariables false
set_option linter.unusedSimpArgs false
end Go.Proofs.Ytdhdfmmefghijaa.Pure
namespace Go.Proofs.Ytdhdfmmefghijaa.P
open Go.RowKit Go.Proofs.YtdhdfmmefghijaaW.PrintWords Go.Proofs.YtdhdfmmefghijaaW.PrintLast Go.Proofs.YtdhdfmmefghijaaW.PrintMore
attribute [local go_sem] max2_int min2_int max_two min_two max_three min_three max_four min_four
set_option linter.unusedVariables false
set_option linter.unusedSimpArgs false
def spec_CanFlatten.f (k:Nat) (a0_0:Int) (a0_1:Int) (a0_2:ByteArray) (l0_3:List (SDoc)):Option (Bool):=(spec_DocValid.f k a0_0 a0_1 a0_2 l0_3).bind fun t545=>(if t545=true then ((spec_CountOps.f k a0_0 a0_1 a0_2 l0_3 5).bind fun t546=>(some (t546 == 0))) else (some false))
end Go.Proofs.Ytdhdfmmefghijaa.P
namespace Go.Proofs.Ytdhdfmmefghijaa.P
open Go.RowKit Go.Proofs.YtdhdfmmefghijaaW.PrintWords Go.Proofs.YtdhdfmmefghijaaW.PrintLast Go.Proofs.YtdhdfmmefghijaaW.PrintMore
attribute [local go_sem] max2_int min2_int max_two min_two max_three min_three max_four min_four
set_option linter.unusedVariables false
set_option linter.unusedSimpArgs false
def impl_CanFlatten.f (k:Nat) (a0_0:Int) (a0_1:Int) (a0_2:ByteArray) (l0_3:List (SDoc)):Option (Bool):=(impl_DocValid.f k a0_0 a0_1 a0_2 l0_3).bind fun t514=>(if t514=true then ((impl_CountOps.f k a0_0 a0_1 a0_2 l0_3 5).bind fun t515=>(some (t515 == 0))) else (some false))
end Go.Proofs.Ytdhdfmmefghijaa.P
namespace Go.Proofs.Ytdhdfmmefghijaa.Pure
open Go.RowKit Go.Proofs.Ytdhdfmmefghijaa.P Go.Proofs.YtdhdfmmefghijaaW.PrintWords Go.Proofs.YtdhdfmmefghijaaW.PrintLast Go.Proofs.YtdhdfmmefghijaaW.PrintMore
set_option linter.unusedVariables false
set_option linter.unusedSimpArgs false
theorem docV_wf {d : SDoc} (h : docV d = true) : wf d 40 = true := (docV_iff d).1 h |>.1
theorem wf_kids {o n : Int} {t : ByteArray} {ks : List SDoc} {deep : Nat} (h : wf ⟨o, n, t, ks⟩ deep = true) : ∀ y, y ∈ ks → wf y (deep - 1) = true := by
  have h3 := ((wf_mk o n t ks deep).1 h).2.2
  rw [wfL_all, List.all_eq_true] at h3
  exact h3
theorem wf_node {o n : Int} {t : ByteArray} {ks : List SDoc} {deep : Nat} (h : wf ⟨o, n, t, ks⟩ deep = true) : 1 ≤ o ∧ o ≤ 8 ∧ (ks.length : Int) = docKids o ∧ 0 ≤ n ∧ n ≤ 9 ∧ (n = 0 ∨ o = 6) ∧ (o = 2 → tv t = true) ∧ (o ≠ 2 → t = ⟨#[]⟩) := by
  have h2 := (nodeOk_iff o n t ks.length).1 ((wf_mk o n t ks deep).1 h).2.1
  obtain ⟨a, b, c, d, e, f, g⟩ := h2
  refine ⟨a, b, c, d, e, f, fun h => by rwa [if_pos h] at g, fun h => ?_⟩
  rw [if_neg h, decide_eq_true_eq, size_data, List.length_eq_zero_iff] at g
  obtain ⟨⟨l⟩⟩ := t
  simp at g
  subst g
  rfl
end Go.Proofs.Ytdhdfmmefghijaa.Pure
namespace Go.Proofs.Ytdhdfmmefghijaa.P
open Go.RowKit Go.Proofs.YtdhdfmmefghijaaW.PrintWords Go.Proofs.YtdhdfmmefghijaaW.PrintLast Go.Proofs.YtdhdfmmefghijaaW.PrintMore
attribute [local go_sem] max2_int min2_int max_two min_two max_three min_three max_four min_four
set_option linter.unusedVariables false
set_option linter.unusedSimpArgs false
mutual
def spec_l1Copy.l0:Nat→Int→Int→Int→ByteArray→List (SDoc)→Int→Int→ByteArray→List (SDoc)→Option (Int × Int × ByteArray × (List (SDoc)))
 | 0,_,_,_,_,_,_,_,_,_=>none
 | k+1,x4,x216000,x216001,x216002,x216003,x218000,x218001,x218002,x218003=>if x4 < (x216003.length:Int) then (if 0≤x4 then ((spec_l1Copy.f k ((rd_TDoc x216003 x4).f0) ((rd_TDoc x216003 x4).f1) ((rd_TDoc x216003 x4).f2) ((rd_TDoc x216003 x4).f3)).bind fun bt219=>(if x218003.length < 2513169434916 then (spec_l1Copy.l0 k (wrap64 (x4+1)) x216000 x216001 x216002 x216003 x218000 x218001 x218002 (x218003++[(⟨bt219.1,bt219.2.1,bt219.2.2.1,bt219.2.2.2⟩:SDoc)])) else (none))) else (none)) else (some (x218000,x218001,x218002,x218003))
def spec_l1Copy.f:Nat→Int→Int→ByteArray→List (SDoc)→Option (Int × Int × ByteArray × (List (SDoc)))
 | 0,_,_,_,_=>none
 | k+1,a0_0,a0_1,a0_2,l0_3=>spec_l1Copy.l0 k 0 a0_0 a0_1 a0_2 l0_3 a0_0 a0_1 a0_2 ([]:List (SDoc))
end
def spec_l1Copy.T5:Bool × List (List Nat × List Nat):=(true,[([],[]),([0],[0]),([],[]),([2],[2]),([],[]),([3,4],[3,4]),([5],[5]),([6],[6]),([7],[7]),([1,8,7],[1,8]),([0,1,2,3,4,5,6,7,8,9],[]),([10,9,9,0,1,2,3,4,5,6,7,8,9],[9,10])])
def spec_l1Copy.B5:List Nat:=[0,1,0,4,0,28,60,124,252,511,1023,2047]
theorem spec_l1Copy.tab5:rtab .any (opsOf Try.f59 5)=spec_l1Copy.T5:=by kernel_rfl
theorem spec_l1Copy.bits5:waitsOk spec_l1Copy.T5.2 spec_l1Copy.B5=true:=by kernel_rfl
end Go.Proofs.Ytdhdfmmefghijaa.P
namespace Go.Proofs.Ytdhdfmmefghijaa.P
open Go.RowKit Go.Proofs.YtdhdfmmefghijaaW.PrintWords Go.Proofs.YtdhdfmmefghijaaW.PrintLast Go.Proofs.YtdhdfmmefghijaaW.PrintMore
attribute [local go_sem] max2_int min2_int max_two min_two max_three min_three max_four min_four
set_option linter.unusedVariables false
set_option linter.unusedSimpArgs false
mutual
def impl_copyDoc.l0:Nat→List (SDoc)→Int→Int→Int→Int→ByteArray→List (SDoc)→Option (Int × Int × ByteArray × (List (SDoc)))
 | 0,_,_,_,_,_,_,_=>none
 | k+1,x9,x10,x11,x677000,x677001,x677002,x677003=>if x11 < x10 then (if 0≤x11 then (if x11 < (x9.length:Int) then ((impl_copyDoc.f k ((rd_TDoc x9 x11).f0) ((rd_TDoc x9 x11).f1) ((rd_TDoc x9 x11).f2) ((rd_TDoc x9 x11).f3)).bind fun bt680=>(if x677003.length < 2513169434916 then (impl_copyDoc.l0 k x9 x10 (wrap64 (x11+1)) x677000 x677001 x677002 (x677003++[(⟨bt680.1,bt680.2.1,bt680.2.2.1,bt680.2.2.2⟩:SDoc)])) else (none))) else (none)) else (none)) else (some (x677000,x677001,x677002,x677003))
def impl_copyDoc.f:Nat→Int→Int→ByteArray→List (SDoc)→Option (Int × Int × ByteArray × (List (SDoc)))
 | 0,_,_,_,_=>none
 | k+1,a0_0,a0_1,a0_2,l0_3=>impl_copyDoc.l0 k l0_3 (l0_3.length:Int) 0 a0_0 a0_1 a0_2 ([]:List (SDoc))
end
def impl_copyDoc.T6:Bool × List (List Nat × List Nat):=(true,[([],[]),([0],[0]),([],[]),([2],[2]),([3],[3]),([1,4,3],[1,4]),([0,1,2,3,4,5],[]),([6,5,5,0,1,2,3,4,5],[5,6])])
def impl_copyDoc.B6:List Nat:=[0,1,0,4,12,31,63,127]
theorem impl_copyDoc.tab6:rtab .any (opsOf Try.f74 6)=impl_copyDoc.T6:=by kernel_rfl
theorem impl_copyDoc.bits6:waitsOk impl_copyDoc.T6.2 impl_copyDoc.B6=true:=by kernel_rfl
end Go.Proofs.Ytdhdfmmefghijaa.P
namespace Go.Proofs.Ytdhdfmmefghijaa.Pure
open Go.RowKit Go.Proofs.Ytdhdfmmefghijaa.P Go.Proofs.YtdhdfmmefghijaaW.PrintWords Go.Proofs.YtdhdfmmefghijaaW.PrintLast Go.Proofs.YtdhdfmmefghijaaW.PrintMore
set_option linter.unusedVariables false
set_option linter.unusedSimpArgs false
end Go.Proofs.Ytdhdfmmefghijaa.Pure
namespace Go.Proofs.Ytdhdfmmefghijaa.Pure
open Go.RowKit Go.Proofs.Ytdhdfmmefghijaa.P Go.Proofs.YtdhdfmmefghijaaW.PrintWords Go.Proofs.YtdhdfmmefghijaaW.PrintLast Go.Proofs.YtdhdfmmefghijaaW.PrintMore
set_option linter.unusedVariables false
set_option linter.unusedSimpArgs false
theorem word2_ev {b : List Int} (hb : Code b) (p : Int) (hp0 : 0 ≤ p) (hp : p ≤ 1000000000) : ∃ s, tv s = true ∧ Ev (fun k => spec_l1Word2.f k b p) (s, p + 1) := by
  obtain ⟨s, hs, h⟩ := of_ev hb p [(⟨#[97]⟩ : ByteArray), (⟨#[98, 98]⟩ : ByteArray), (⟨#[99, 99, 99]⟩ : ByteArray), (⟨#[100, 100, 100, 100]⟩ : ByteArray), (⟨#[102, 40]⟩ : ByteArray), (⟨#[41]⟩ : ByteArray), (⟨#[44]⟩ : ByteArray), (⟨#[120, 61, 49]⟩ : ByteArray), (⟨#[97, 98, 99, 100, 101, 102, 103, 104]⟩ : ByteArray), (⟨#[101]⟩ : ByteArray)] (by simp) hp0 hp
  refine ⟨s, ?_, Ev.congr (fun k => by rw [spec_l1Word2.f]) (Ev.bind h (Ev.now _))⟩
  have : ∀ s ∈ [(⟨#[97]⟩ : ByteArray), (⟨#[98, 98]⟩ : ByteArray), (⟨#[99, 99, 99]⟩ : ByteArray), (⟨#[100, 100, 100, 100]⟩ : ByteArray), (⟨#[102, 40]⟩ : ByteArray), (⟨#[41]⟩ : ByteArray), (⟨#[44]⟩ : ByteArray), (⟨#[120, 61, 49]⟩ : ByteArray), (⟨#[97, 98, 99, 100, 101, 102, 103, 104]⟩ : ByteArray), (⟨#[101]⟩ : ByteArray)], tv s = true := by decide +kernel
  exact this s hs
theorem tv_size {s : ByteArray} (h : tv s = true) : 1 ≤ s.size ∧ s.size ≤ 12 := by
  simp only [tv, Bool.and_eq_true, decide_eq_true_eq] at h
  exact ⟨h.1, h.2.1⟩
theorem wf_mono : ∀ (d : SDoc) (m m' : Nat), m ≤ m' → wf d m = true → wf d m' = true := by
  intro d
  induction d using SDoc.ind with
  | h o n t ks ih =>
    intro m m' hm h
    rw [wf_mk] at h ⊢
    refine ⟨by omega, h.2.1, ?_⟩
    rw [wfL_all, List.all_eq_true] at h ⊢
    exact fun y hy => ih y hy (m - 1) (m' - 1) (by omega) (h.2.2 y hy)
theorem wf_msz : ∀ (d : SDoc) (m : Nat), wf d m = true → msz d ≤ 13 * dsz d := by
  intro d
  induction d using SDoc.ind with
  | h o n t ks ih =>
    intro m h
    obtain ⟨_, _, _, _, _, _, h2, h3⟩ := wf_node h
    have hk := wf_kids h
    have key : ∀ l : List SDoc, (∀ y, y ∈ l → msz y ≤ 13 * dsz y) → mszL l ≤ 13 * dszL l := by
      intro l
      induction l with
      | nil => intro _; simp [mszL, dszL]
      | cons y l ihl =>
        intro hl
        have h1 := hl y List.mem_cons_self
        have h2 := ihl (fun z hz => hl z (List.mem_cons_of_mem _ hz))
        simp only [mszL, dszL]
        omega
    have := key ks (fun y hy => ih y hy (m - 1) (hk y hy))
    have ht : t.size ≤ 12 := by
      by_cases c : o = 2
      · exact (tv_size (h2 c)).2
      · rw [h3 c]; show 0 ≤ 12; omega
    simp only [msz, dsz]
    omega
theorem wf_of {o n : Int} {t : ByteArray} {ks : List SDoc} {m : Nat} (h1 : 1 ≤ o) (h8 : o ≤ 8) (hk : (ks.length : Int) = docKids o) (hn0 : 0 ≤ n) (hn9 : n ≤ 9) (hn : n = 0 ∨ o = 6) (ht : o = 2 → tv t = true) (ht' : o ≠ 2 → t = ⟨#[]⟩) (hks : ∀ y, y ∈ ks → wf y m = true) : wf ⟨o, n, t, ks⟩ (m + 1) = true := by
  rw [wf_mk]
  refine ⟨by omega, (nodeOk_iff _ _ _ _).2 ⟨h1, h8, hk, hn0, hn9, hn, ?_⟩, ?_⟩
  · by_cases c : o = 2
    · rw [if_pos c]; exact ht c
    · rw [if_neg c, ht' c]; rfl
  · rw [wfL_all, List.all_eq_true]
    exact hks
theorem three_pos (n : Nat) : 1 ≤ 3 ^ n := by
  induction n with
  | zero => exact Nat.le_refl 1
  | succ n ih => rw [Nat.pow_succ]; omega
theorem dr_leaf (o : Int) (h : o = 1 ∨ o = 3 ∨ o = 4 ∨ o = 5) (m : Nat) : wf ⟨o, 0, ⟨#[]⟩, []⟩ (m + 1) = true := wf_of (by omega) (by omega) (by rcases h with rfl | rfl | rfl | rfl <;> rfl) (by omega) (by omega) (.inl rfl) (by omega) (fun _ => rfl) (fun y hy => by cases hy)
theorem some0_ev {b : List Int} (hb : Code b) (p : Int) (hp0 : 0 ≤ p) (hp : p ≤ 900000000) : ∃ (d : SDoc) (q : Int), Ev (fun k => spec_l1Some.f k b p 0) (d.f0, d.f1, d.f2, d.f3, q) ∧ wf d 1 = true ∧ dsz d = 1 ∧ p ≤ q ∧ q ≤ p + 2 := by
  obtain ⟨r, h1, hr0, hr⟩ := pick_ev hb p 8 hp0 (by omega)
  obtain ⟨s, hs, h2⟩ := word2_ev hb (p + 1) (by omega) (by omega)
  have J : ∀ R, Ev (fun k => (spec_l15Rd_pick.f k b p 8).bind fun bt237 => (if bt237.1 = 0 then (some ((1 : Int), (0 : Int), (⟨#[]⟩ : ByteArray), ([] : List SDoc), bt237.2)) else (if bt237.1 = 1 then (spec_l1Some.j0 k bt237.1 (bt237.1 == 1) b bt237.2) else (spec_l1Some.j0 k bt237.1 (bt237.1 == 2) b bt237.2)))) R → Ev (fun k => spec_l1Some.f k b p 0) R := by
    intro R h
    refine Ev.step (fun k => by rw [spec_l1Some.f]) ?_
    simp only [if_true]
    exact h
  by_cases c0 : r = 0
  · refine ⟨⟨1, 0, ⟨#[]⟩, []⟩, p + 1, J _ (Ev.bind h1 ?_), dr_leaf 1 (by omega) 0, rfl, by omega, by omega⟩
    simp only [if_pos c0]
    exact Ev.now _
  have J2 : ∀ (R : Int × Int × ByteArray × List SDoc × Int) (w : Bool), w = (decide (r = 1) || decide (r = 2)) → Ev (fun k => spec_l1Some.j0 k r w b (p + 1)) R → Ev (fun k => spec_l1Some.f k b p 0) R := by
    intro R w hw h
    refine J _ (Ev.bind h1 ?_)
    simp only [if_neg c0]
    refine Ev.iff (fun c => ?_) (fun c => ?_)
    · rw [show (r == 1) = w by rw [hw]; simp [c]]
      exact h
    · rw [show (r == 2) = w by rw [hw, decide_eq_false (show ¬ r = 1 from c), Bool.false_or]; rfl]
      exact h
  by_cases c1 : r = 1 ∨ r = 2
  · refine ⟨⟨3, 0, ⟨#[]⟩, []⟩, p + 1, J2 _ true (by rcases c1 with rfl | rfl <;> rfl) (Ev.step (fun k => by rw [spec_l1Some.j0]) ?_), dr_leaf 3 (by omega) 0, rfl, by omega, by omega⟩
    simp only [if_true]
    exact Ev.now _
  have hw : false = (decide (r = 1) || decide (r = 2)) := by
    rw [decide_eq_false (fun e => c1 (.inl e)), decide_eq_false (fun e => c1 (.inr e))]; rfl
  by_cases c3 : r = 3
  · refine ⟨⟨4, 0, ⟨#[]⟩, []⟩, p + 1, J2 _ false hw (Ev.step (fun k => by rw [spec_l1Some.j0]) ?_), dr_leaf 4 (by omega) 0, rfl, by omega, by omega⟩
    simp only [Bool.false_eq_true, if_false, if_pos c3]
    exact Ev.now _
  · refine ⟨⟨2, 0, s, []⟩, p + 1 + 1, J2 _ false hw (Ev.step (fun k => by rw [spec_l1Some.j0]) ?_), ?_, rfl, by omega, by omega⟩
    · simp only [Bool.false_eq_true, if_false, if_neg c3]
      exact Ev.bind h2 (Ev.now _)
    · exact wf_of (by omega) (by omega) rfl (by omega) (by omega) (.inl rfl) (fun _ => hs) (fun h => absurd rfl h) (fun y hy => by cases hy)
theorem some_ev {b : List Int} (hb : Code b) : ∀ (n : Nat), n ≤ 5 → ∀ (p : Int), 0 ≤ p → p + 12 * 3 ^ n ≤ 800000000 → ∃ (d : SDoc) (q : Int), Ev (fun k => spec_l1Some.f k b p (n : Int)) (d.f0, d.f1, d.f2, d.f3, q) ∧ wf d (n + 3) = true ∧ dsz d ≤ 5 * 3 ^ n - 4 ∧ p ≤ q ∧ q ≤ p + 12 * 3 ^ n := by
  intro n
  induction n with
  | zero =>
    intro _ p hp0 hp
    obtain ⟨d, q, h, h1, h2, h3, h4⟩ := some0_ev hb p hp0 (by omega)
    exact ⟨d, q, h, wf_mono d 1 3 (by omega) h1, by omega, h3, by omega⟩
  | succ n ih =>
    intro hn p hp0 hp
    have ih := ih (by omega)
    have h3 := three_pos n
    have h3b : 3 ^ n ≤ 3 ^ 5 := Nat.pow_le_pow_right (by omega) (by omega)
    have h3c : (3 : Nat) ^ 5 = 243 := rfl
    have e3 : 3 ^ (n + 1) = 3 * 3 ^ n := by rw [Nat.pow_succ]; omega
    have e3i : ((3 : Int) ^ (n + 1)) = 3 * ((3 ^ n : Nat) : Int) := by rw [Int.pow_succ]; simp; omega
    have e3j : ((3 : Int) ^ n) = ((3 ^ n : Nat) : Int) := by simp
    rw [e3i] at hp ⊢
    rw [e3j] at ih
    rw [e3]
    generalize 3 ^ n = T at *
    obtain ⟨r, g1, hr0, hr⟩ := pick_ev hb p 12 hp0 (by omega)
    have hr := hr (by omega)
    have w1 : wrap64 (((n + 1 : Nat) : Int) - 1) = (n : Int) := by rw [w64 (by omega) (by omega)]; omega
    have J : ∀ R, Ev (fun k => (spec_l15Rd_pick.f k b p 12).bind fun bt241 => (if bt241.1 = 0 then ((spec_l1Some.f k b bt241.2 0).bind fun bt243 => (some (bt243.1, bt243.2.1, bt243.2.2.1, bt243.2.2.2.1, bt243.2.2.2.2))) else (if bt241.1 = 1 then (spec_l1Some.j1 k ((n + 1 : Nat) : Int) bt241.1 (bt241.1 == 1) b bt241.2) else (spec_l1Some.j1 k ((n + 1 : Nat) : Int) bt241.1 (bt241.1 == 2) b bt241.2)))) R → Ev (fun k => spec_l1Some.f k b p ((n + 1 : Nat) : Int)) R := by
      intro R h
      refine Ev.step (fun k => by rw [spec_l1Some.f]) ?_
      simp only [if_neg (show ¬ ((n + 1 : Nat) : Int) = 0 by omega)]
      exact h
    by_cases c0 : r = 0
    · obtain ⟨d, q, h, h1, h2, h4, h5⟩ := some0_ev hb (p + 1) (by omega) (by omega)
      refine ⟨d, q, J _ (Ev.bind g1 ?_), wf_mono d 1 _ (by omega) h1, by omega, by omega, by omega⟩
      simp only [if_pos c0]
      exact Ev.bind h (Ev.now _)
    have J2 : ∀ (R : Int × Int × ByteArray × List SDoc × Int) (w : Bool), w = (decide (r = 1) || decide (r = 2)) → Ev (fun k => spec_l1Some.j1 k ((n + 1 : Nat) : Int) r w b (p + 1)) R → Ev (fun k => spec_l1Some.f k b p ((n + 1 : Nat) : Int)) R := by
      intro R w hw h
      refine J _ (Ev.bind g1 ?_)
      simp only [if_neg c0]
      refine Ev.iff (fun c => ?_) (fun c => ?_)
      · rw [show (r == 1) = w by rw [hw]; simp [c]]
        exact h
      · rw [show (r == 2) = w by rw [hw, decide_eq_false (show ¬ r = 1 from c), Bool.false_or]; rfl]
        exact h
    by_cases c1 : r = 1 ∨ r = 2
    · obtain ⟨m, hm, g2⟩ := num_ev hb (p + 1) [2, 1, 4, 0, 9] (by simp) (by omega) (by omega)
      have hm9 : 0 ≤ m ∧ m ≤ 9 := by
        simp only [List.mem_cons, List.not_mem_nil, or_false] at hm
        omega
      obtain ⟨d, q, h, h1, h2, h4, h5⟩ := ih (p + 1 + 1) (by omega) (by omega)
      refine ⟨⟨6, m, ⟨#[]⟩, [d]⟩, q, J2 _ true (by rcases c1 with rfl | rfl <;> rfl) (Ev.step (fun k => by rw [spec_l1Some.j1]) ?_), ?_, ?_, by omega, by omega⟩
      · simp only [if_true, w1]
        refine Ev.bind g2 (Ev.bind h ?_)
        simp only [SDoc_eta]
        exact Ev.now _
      · exact wf_of (by omega) (by omega) rfl hm9.1 hm9.2 (.inr rfl) (by omega) (fun _ => rfl) (fun y hy => by rw [List.mem_singleton.1 hy]; exact h1)
      · simp only [dsz, dszL]; omega
    have hw : false = (decide (r = 1) || decide (r = 2)) := by
      rw [decide_eq_false (fun e => c1 (.inl e)), decide_eq_false (fun e => c1 (.inr e))]; rfl
    have J3 : ∀ (R : Int × Int × ByteArray × List SDoc × Int) (w : Bool), w = (decide (r = 3) || (decide (r = 4) || decide (r = 5))) → Ev (fun k => spec_l1Some.j2 k ((n + 1 : Nat) : Int) r w b (p + 1)) R → Ev (fun k => spec_l1Some.f k b p ((n + 1 : Nat) : Int)) R := by
      intro R w hw' h
      refine J2 _ false hw (Ev.step (fun k => by rw [spec_l1Some.j1]) ?_)
      simp only [Bool.false_eq_true, if_false]
      refine Ev.iff (fun c => ?_) (fun c => Ev.iff (fun c' => ?_) (fun c' => ?_))
      · rw [show (r == 3) = w by rw [hw']; simp [c]]
        exact h
      · rw [show (r == 4) = w by rw [hw', decide_eq_false (show ¬ r = 3 from c), Bool.false_or, decide_eq_true (show r = 4 from c'), show (r == 4) = true by rw [show r = 4 from c']; rfl]; rfl]
        exact h
      · rw [show (r == 5) = w by rw [hw', decide_eq_false (show ¬ r = 3 from c), Bool.false_or, decide_eq_false (show ¬ r = 4 from c'), Bool.false_or]; rfl]
        exact h
    by_cases c3 : r = 3 ∨ r = 4 ∨ r = 5
    · obtain ⟨d, q, h, h1, h2, h4, h5⟩ := ih (p + 1) (by omega) (by omega)
      refine ⟨⟨8, 0, ⟨#[]⟩, [d]⟩, q, J3 _ true (by rcases c3 with rfl | rfl | rfl <;> rfl) (Ev.step (fun k => by rw [spec_l1Some.j2]) ?_), ?_, ?_, by omega, by omega⟩
      · simp only [if_true, w1]
        refine Ev.bind h ?_
        simp only [SDoc_eta]
        exact Ev.now _
      · exact wf_of (by omega) (by omega) rfl (by omega) (by omega) (.inl rfl) (by omega) (fun _ => rfl) (fun y hy => by rw [List.mem_singleton.1 hy]; exact h1)
      · simp only [dsz, dszL]; omega
    have hw3 : false = (decide (r = 3) || (decide (r = 4) || decide (r = 5))) := by
      rw [decide_eq_false (fun e => c3 (.inl e)), decide_eq_false (fun e => c3 (.inr (.inl e))), decide_eq_false (fun e => c3 (.inr (.inr e)))]; rfl
    have cat : ∀ (x y : SDoc) (m : Nat), wf x m = true → wf y m = true → wf ⟨7, 0, ⟨#[]⟩, [x, y]⟩ (m + 1) = true := by
      intro x y m hx hy
      refine wf_of (by omega) (by omega) rfl (by omega) (by omega) (.inl rfl) (by omega) (fun _ => rfl) (fun z hz => ?_)
      simp only [List.mem_cons, List.not_mem_nil, or_false] at hz
      rcases hz with rfl | rfl
      · exact hx
      · exact hy
    by_cases c6 : r = 6
    · obtain ⟨s, g2, hs0, hs⟩ := pick_ev hb (p + 1) 3 (by omega) (by omega)
      obtain ⟨d, q, h, h1, h2, h4, h5⟩ := ih (p + 1 + 1) (by omega) (by omega)
      obtain ⟨d0, q0, i, i1, i2, i4, i5⟩ := some0_ev hb q (by omega) (by omega)
      have hd0 := wf_mono d0 1 (n + 1) (by omega) i1
      have fin : ∀ o : Int, (o = 5 ∨ o = 3) → wf ⟨7, 0, ⟨#[]⟩, [d, ⟨7, 0, ⟨#[]⟩, [⟨o, 0, ⟨#[]⟩, []⟩, d0]⟩]⟩ (n + 1 + 3) = true ∧ dsz ⟨7, 0, ⟨#[]⟩, [d, ⟨7, 0, ⟨#[]⟩, [⟨o, 0, ⟨#[]⟩, []⟩, d0]⟩]⟩ ≤ 5 * (3 * T) - 4 := by
        intro o ho
        refine ⟨cat _ _ (n + 3) h1 (wf_mono _ (n + 1 + 1) _ (by omega) (cat _ _ (n + 1) (dr_leaf o (by omega) n) hd0)), ?_⟩
        simp only [dsz, dszL]
        omega
      by_cases cs : s = 0
      · refine ⟨⟨7, 0, ⟨#[]⟩, [d, ⟨7, 0, ⟨#[]⟩, [⟨5, 0, ⟨#[]⟩, []⟩, d0]⟩]⟩, q0, J3 _ false hw3 (Ev.step (fun k => by rw [spec_l1Some.j2]) ?_), (fin 5 (.inl rfl)).1, (fin 5 (.inl rfl)).2, by omega, by omega⟩
        simp only [Bool.false_eq_true, if_false, if_pos c6, w1]
        refine Ev.bind g2 ?_
        simp only [if_pos cs]
        refine Ev.bind h (Ev.bind i ?_)
        simp only [spec_l1Cat.f, Option.bind_some, SDoc_eta]
        exact Ev.now _
      · refine ⟨⟨7, 0, ⟨#[]⟩, [d, ⟨7, 0, ⟨#[]⟩, [⟨3, 0, ⟨#[]⟩, []⟩, d0]⟩]⟩, q0, J3 _ false hw3 (Ev.step (fun k => by rw [spec_l1Some.j2]) ?_), (fin 3 (.inr rfl)).1, (fin 3 (.inr rfl)).2, by omega, by omega⟩
        simp only [Bool.false_eq_true, if_false, if_pos c6, w1]
        refine Ev.bind g2 ?_
        simp only [if_neg cs]
        refine Ev.bind h (Ev.bind i ?_)
        simp only [spec_l1Cat.f, Option.bind_some, SDoc_eta]
        exact Ev.now _
    · obtain ⟨d, q, h, h1, h2, h4, h5⟩ := ih (p + 1) (by omega) (by omega)
      obtain ⟨d', q', i, i1, i2, i4, i5⟩ := ih q (by omega) (by omega)
      refine ⟨⟨7, 0, ⟨#[]⟩, [d, d']⟩, q', J3 _ false hw3 (Ev.step (fun k => by rw [spec_l1Some.j2]) ?_), cat _ _ (n + 3) h1 i1, ?_, by omega, by omega⟩
      · simp only [Bool.false_eq_true, if_false, if_neg c6, w1]
        refine Ev.bind h (Ev.bind i ?_)
        simp only [spec_l1Cat.f, Option.bind_some, SDoc_eta]
        exact Ev.now _
      · simp only [dsz, dszL]; omega
def VDoc (d : SDoc) : Prop := docV d = true ∧ msz d ≤ 1040
theorem vdoc_of {d : SDoc} (h : docV d = true) : VDoc d := by
  obtain ⟨h1, h2⟩ := (docV_iff d).1 h
  have := wf_msz d 40 h1
  exact ⟨h, by omega⟩
theorem draw_loop {b : List Int} (hb : Code b) (L : List ByteArray) (hL0 : 0 < L.length) (hL : ∀ s ∈ L, s.size ≤ 1000) : ∀ (m : Nat) (i : Nat), i + m = 3 → ∀ p : Int, 0 ≤ p → p ≤ 100000000 + 10000 * i →
    ∃ (d : SDoc) (q : Int), Ev (fun k => spec_l1Draw.l0 k L (i : Int) b p) (d.f0, d.f1, d.f2, d.f3, q) ∧ VDoc d ∧ p ≤ q ∧ q ≤ p + 5000 * (m + 1) := by
  intro m
  induction m with
  | zero =>
    intro i hi p hp0 hp
    obtain ⟨d, q, h, h1, h2, h3, h4⟩ := some_ev hb 2 (by omega) p hp0 (by omega)
    refine ⟨d, q, Ev.step (fun k => by rw [spec_l1Draw.l0]) ?_, vdoc_of ((docV_iff d).2 ⟨wf_mono d 5 40 (by omega) h1, by omega⟩), h3, by omega⟩
    simp only [if_neg (show ¬ (i : Int) < 3 by omega)]
    exact Ev.bind h (Ev.now _)
  | succ m ih =>
    intro i hi p hp0 hp
    have c : (i : Int) < 3 := by omega
    have w1 : wrap64 ((i : Int) + 1) = ((i + 1 : Nat) : Int) := by rw [w64 (by omega) (by omega)]; omega
    obtain ⟨r, g1, hr0, hr⟩ := pick_ev hb p 3 hp0 (by omega)
    have J1 : ∀ p' : Int, p + 1 ≤ p' → p' ≤ p + 2 → ∃ (d : SDoc) (q : Int), Ev (fun k => spec_l1Draw.j1 k L (i : Int) b p') (d.f0, d.f1, d.f2, d.f3, q) ∧ VDoc d ∧ p ≤ q ∧ q ≤ p + 5000 * (m + 1 + 1) := by
      intro p' h1 h2
      obtain ⟨n, hn, g2⟩ := num_ev hb p' [4, 3, 5, 2] (by simp) (by omega) (by omega)
      simp only [List.mem_cons, List.not_mem_nil, or_false] at hn
      obtain ⟨n', hn', rfl⟩ : ∃ n' : Nat, n' ≤ 5 ∧ n = (n' : Int) := ⟨n.toNat, by omega, by omega⟩
      obtain ⟨d, q, h, k1, k2, k3, k4⟩ := some_ev hb n' hn' (p' + 1) (by omega) (by
        have h3b : 3 ^ n' ≤ 3 ^ 5 := Nat.pow_le_pow_right (by omega) hn'
        have h3c : (3 : Nat) ^ 5 = 243 := rfl
        have e3j : ((3 : Int) ^ n') = ((3 ^ n' : Nat) : Int) := by simp
        rw [e3j]
        omega)
      have h3b : 3 ^ n' ≤ 3 ^ 5 := Nat.pow_le_pow_right (by omega) hn'
      have h3c : (3 : Nat) ^ 5 = 243 := rfl
      have e3j : ((3 : Int) ^ n') = ((3 ^ n' : Nat) : Int) := by simp
      rw [e3j] at k4
      generalize 3 ^ n' = T at *
      have km := wf_msz d _ k1
      obtain ⟨d2, q2, h2', v2, m2, m3⟩ := ih (i + 1) (by omega) q (by omega) (by omega)
      by_cases cv : docV d = true
      · by_cases c4 : (dsz d : Int) ≤ 40
        · refine ⟨d, q, Ev.step (fun k => by rw [spec_l1Draw.j1]) (Ev.bind g2 (Ev.bind h (Ev.bind (specValid_ev d (by omega)) ?_))), vdoc_of cv, by omega, by omega⟩
          simp only [if_pos cv]
          refine Ev.bind (specCount_ev d (by omega)) ?_
          simp only [if_pos c4]
          exact Ev.now _
        · refine ⟨d2, q2, Ev.step (fun k => by rw [spec_l1Draw.j1]) (Ev.bind g2 (Ev.bind h (Ev.bind (specValid_ev d (by omega)) ?_))), v2, by omega, by omega⟩
          simp only [if_pos cv]
          refine Ev.bind (specCount_ev d (by omega)) ?_
          simp only [if_neg c4, w1]
          exact h2'
      · refine ⟨d2, q2, Ev.step (fun k => by rw [spec_l1Draw.j1]) (Ev.bind g2 (Ev.bind h (Ev.bind (specValid_ev d (by omega)) ?_))), v2, by omega, by omega⟩
        simp only [if_neg cv, w1]
        exact h2'
    by_cases c0 : r = 0
    · obtain ⟨j, g2, hj0, hj⟩ := pick_ev hb (p + 1) (L.length : Int) (by omega) (by omega)
      have hj := hj (by omega)
      have hjl : j.toNat < L.length := by omega
      have hsz : (rdOf ByteArray.empty L j).size ≤ 1000 := by
        unfold rdOf
        rw [List.getD_eq_getElem?_getD, List.getElem?_eq_getElem hjl]
        exact hL _ (List.getElem_mem hjl)
      have hp := specParse_ev (rdOf ByteArray.empty L j) (by omega)
      cases hd : parseR (rdOf ByteArray.empty L j).data.toList with
      | none =>
        rw [hd] at hp
        obtain ⟨d, q, h1, h2, h3, h4⟩ := J1 (p + 1 + 1) (by omega) (by omega)
        refine ⟨d, q, Ev.step (fun k => by rw [spec_l1Draw.l0]) ?_, h2, h3, h4⟩
        simp only [if_pos c]
        refine Ev.bind g1 ?_
        simp only [if_pos c0]
        refine Ev.bind g2 ?_
        simp only [if_pos hj0, if_pos hj]
        refine Ev.bind hp ?_
        simp only [docR, Bool.false_eq_true, if_false]
        exact h1
      | some d =>
        rw [hd] at hp
        have hv : docV d = true := by
          unfold parseR at hd
          split at hd
          · split at hd
            · rename_i hv
              obtain rfl := Option.some.inj hd
              exact hv
            · cases hd
          · cases hd
        refine ⟨d, p + 1 + 1, Ev.step (fun k => by rw [spec_l1Draw.l0]) ?_, vdoc_of hv, by omega, by omega⟩
        simp only [if_pos c]
        refine Ev.bind g1 ?_
        simp only [if_pos c0]
        refine Ev.bind g2 ?_
        simp only [if_pos hj0, if_pos hj]
        refine Ev.bind hp ?_
        simp only [docR, if_true]
        exact Ev.now _
    · obtain ⟨d, q, h1, h2, h3, h4⟩ := J1 (p + 1) (by omega) (by omega)
      refine ⟨d, q, Ev.step (fun k => by rw [spec_l1Draw.l0]) ?_, h2, h3, h4⟩
      simp only [if_pos c]
      refine Ev.bind g1 ?_
      simp only [if_neg c0]
      exact h1
theorem draw_ev {b : List Int} (hb : Code b) (p : Int) (hp0 : 0 ≤ p) (hp : p ≤ 100000000) : ∃ (d : SDoc) (q : Int), Ev (fun k => spec_l1Draw.f k b p) (d.f0, d.f1, d.f2, d.f3, q) ∧ VDoc d ∧ p ≤ q ∧ q ≤ p + 20000 := by
  have key : ∀ L : List ByteArray, 0 < L.length → (∀ s ∈ L, s.size ≤ 1000) → ∃ (d : SDoc) (q : Int), Ev (fun k => spec_l1Draw.l0 k L 0 b p) (d.f0, d.f1, d.f2, d.f3, q) ∧ VDoc d ∧ p ≤ q ∧ q ≤ p + 20000 := by
    intro L h1 h2
    obtain ⟨d, q, h, v, m1, m2⟩ := draw_loop hb L h1 h2 3 0 (by omega) p hp0 (by omega)
    exact ⟨d, q, h, v, m1, by omega⟩
  have : ∀ L : List ByteArray, (0 < L.length ∧ ∀ s ∈ L, s.size ≤ 1000) → (∀ k, spec_l1Draw.f k b p = spec_l1Draw.l0 k L 0 b p) → ∃ (d : SDoc) (q : Int), Ev (fun k => spec_l1Draw.f k b p) (d.f0, d.f1, d.f2, d.f3, q) ∧ VDoc d ∧ p ≤ q ∧ q ≤ p + 20000 := by
    intro L hL hf
    obtain ⟨d, q, h, v⟩ := key L hL.1 hL.2
    exact ⟨d, q, Ev.congr hf h, v⟩
  refine this _ ?_ (fun k => rfl)
  decide +kernel
end Go.Proofs.Ytdhdfmmefghijaa.Pure
namespace Go.Proofs.Ytdhdfmmefghijaa.P
open Go.RowKit Go.Proofs.YtdhdfmmefghijaaW.PrintWords Go.Proofs.YtdhdfmmefghijaaW.PrintLast Go.Proofs.YtdhdfmmefghijaaW.PrintMore
attribute [local go_sem] max2_int min2_int max_two min_two max_three min_three max_four min_four
set_option linter.unusedVariables false
set_option linter.unusedSimpArgs false
def spec_FormatDoc.f (k:Nat) (a0_0:Int) (a0_1:Int) (a0_2:ByteArray) (l0_3:List (SDoc)):Option (ByteArray):=(spec_DocValid.f k a0_0 a0_1 a0_2 l0_3).bind fun t856=>(if t856=true then ((spec_l1Text.f k a0_0 a0_1 a0_2 l0_3).bind fun t857=>(some t857)) else (some (⟨#[]⟩:ByteArray)))
end Go.Proofs.Ytdhdfmmefghijaa.P
namespace Go.Proofs.Ytdhdfmmefghijaa.P
open Go.RowKit Go.Proofs.YtdhdfmmefghijaaW.PrintWords Go.Proofs.YtdhdfmmefghijaaW.PrintLast Go.Proofs.YtdhdfmmefghijaaW.PrintMore
attribute [local go_sem] max2_int min2_int max_two min_two max_three min_three max_four min_four
set_option linter.unusedVariables false
set_option linter.unusedSimpArgs false
def impl_formatDoc.f:Nat→Int→Int→ByteArray→List (SDoc)→Option (ByteArray)
 | 0,_,_,_,_=>none
 | k+1,a0_0,a0_1,a0_2,l0_3=>if a0_0=1 then (some (⟨#[126]⟩:ByteArray)) else (if a0_0=2 then (if 1+a0_2.size≤9223372036854775807 then (if ((⟨#[34]⟩:ByteArray)++a0_2).size+1≤9223372036854775807 then (some (((⟨#[34]⟩:ByteArray)++a0_2)++(⟨#[34]⟩:ByteArray))) else (none)) else (none)) else (if a0_0=3 then (some (⟨#[95]⟩:ByteArray)) else (if a0_0=4 then (some (⟨#[46]⟩:ByteArray)) else (if a0_0=5 then (some (⟨#[33]⟩:ByteArray)) else (if a0_0=6 then ((some (([(wrap64 (48+a0_1)) % 256]:List Int):List Int)).bind fun y607=>(if (strOfNums y607).size+1≤9223372036854775807 then (if 0 < (l0_3.length:Int) then ((impl_formatDoc.f k ((rd_TDoc l0_3 0).f0) ((rd_TDoc l0_3 0).f1) ((rd_TDoc l0_3 0).f2) ((rd_TDoc l0_3 0).f3)).bind fun t611=>(if ((strOfNums y607)++(⟨#[60]⟩:ByteArray)).size+t611.size≤9223372036854775807 then (if (((strOfNums y607)++(⟨#[60]⟩:ByteArray))++t611).size+1≤9223372036854775807 then (some ((((strOfNums y607)++(⟨#[60]⟩:ByteArray))++t611)++(⟨#[62]⟩:ByteArray))) else (none)) else (none))) else (none)) else (none))) else (if a0_0=7 then (if 0 < (l0_3.length:Int) then ((impl_formatDoc.f k ((rd_TDoc l0_3 0).f0) ((rd_TDoc l0_3 0).f1) ((rd_TDoc l0_3 0).f2) ((rd_TDoc l0_3 0).f3)).bind fun t613=>(if 1+t613.size≤9223372036854775807 then (if 1 < (l0_3.length:Int) then ((impl_formatDoc.f k ((rd_TDoc l0_3 1).f0) ((rd_TDoc l0_3 1).f1) ((rd_TDoc l0_3 1).f2) ((rd_TDoc l0_3 1).f3)).bind fun t615=>(if ((⟨#[40]⟩:ByteArray)++t613).size+t615.size≤9223372036854775807 then (if (((⟨#[40]⟩:ByteArray)++t613)++t615).size+1≤9223372036854775807 then (some ((((⟨#[40]⟩:ByteArray)++t613)++t615)++(⟨#[41]⟩:ByteArray))) else (none)) else (none))) else (none)) else (none))) else (none)) else (if 0 < (l0_3.length:Int) then ((impl_formatDoc.f k ((rd_TDoc l0_3 0).f0) ((rd_TDoc l0_3 0).f1) ((rd_TDoc l0_3 0).f2) ((rd_TDoc l0_3 0).f3)).bind fun t617=>(if 1+t617.size≤9223372036854775807 then (if ((⟨#[91]⟩:ByteArray)++t617).size+1≤9223372036854775807 then (some (((⟨#[91]⟩:ByteArray)++t617)++(⟨#[93]⟩:ByteArray))) else (none)) else (none))) else (none))))))))
def impl_formatDoc.T13:Bool × List (List Nat × List Nat):=(true,[([],[]),([0],[0]),([1],[1]),([2],[2]),([3],[3]),([4],[4]),([5],[5]),([],[]),([7],[7]),([8],[8]),([9],[9]),([10],[10]),([6,11],[6,11]),([12],[12]),([13,11,0,1,2,3,4,5,6,7,8,9,10,11,12,13],[13])])
def impl_formatDoc.B13:List Nat:=[0,1,3,7,15,31,63,0,128,384,896,1920,4095,8191,16383]
theorem impl_formatDoc.tab13:rtab .any (opsOf Try.f60 13)=impl_formatDoc.T13:=by kernel_rfl
theorem impl_formatDoc.bits13:waitsOk impl_formatDoc.T13.2 impl_formatDoc.B13=true:=by kernel_rfl
def impl_formatDoc.T15:Bool × List (List Nat × List Nat):=(true,[([],[]),([0],[0]),([1],[1]),([2],[2]),([3],[3]),([4],[4]),([],[]),([6],[6]),([7],[7]),([8],[8]),([9,4],[9]),([5,10],[5,10]),([11],[11]),([12,10,0,1,2,3,4,5,6,7,8,9,10,11,12],[12])])
def impl_formatDoc.B15:List Nat:=[0,1,3,7,15,31,0,64,192,448,991,2047,4095,8191]
theorem impl_formatDoc.tab15:rtab .any (opsOf Try.f60 15)=impl_formatDoc.T15:=by kernel_rfl
theorem impl_formatDoc.bits15:waitsOk impl_formatDoc.T15.2 impl_formatDoc.B15=true:=by kernel_rfl
end Go.Proofs.Ytdhdfmmefghijaa.P
namespace Go.Proofs.Ytdhdfmmefghijaa.P
open Go.RowKit Go.Proofs.YtdhdfmmefghijaaW.PrintWords Go.Proofs.YtdhdfmmefghijaaW.PrintLast Go.Proofs.YtdhdfmmefghijaaW.PrintMore
attribute [local go_sem] max2_int min2_int max_two min_two max_three min_three max_four min_four
set_option linter.unusedVariables false
set_option linter.unusedSimpArgs false
def impl_FormatDoc.f (k:Nat) (a0_0:Int) (a0_1:Int) (a0_2:ByteArray) (l0_3:List (SDoc)):Option (ByteArray):=(impl_DocValid.f k a0_0 a0_1 a0_2 l0_3).bind fun t619=>(if t619=true then ((impl_formatDoc.f k a0_0 a0_1 a0_2 l0_3).bind fun t620=>(some t620)) else (some (⟨#[]⟩:ByteArray)))
end Go.Proofs.Ytdhdfmmefghijaa.P
namespace Go.Proofs.Ytdhdfmmefghijaa.Pure
open Go.RowKit Go.Proofs.Ytdhdfmmefghijaa.P Go.Proofs.YtdhdfmmefghijaaW.PrintWords Go.Proofs.YtdhdfmmefghijaaW.PrintLast Go.Proofs.YtdhdfmmefghijaaW.PrintMore
set_option linter.unusedVariables false
set_option linter.unusedSimpArgs false
theorem dec1 (n : Int) (h0 : 0 ≤ n) (h1 : n ≤ 9) : Ev (fun k => spec_l15Dec.f k n) (strOfNums [wrap64 (48 + n) % 256]) := by
  refine Ev.step (fun k => by rw [spec_l15Dec.f]) ?_
  simp only [if_neg (show ¬ n < -9223372036854775807 by omega), if_neg (show ¬ n < 0 by omega)]
  refine Ev.step (fun k => by rw [spec_l15Dec.l0]) ?_
  have hz : (strOfNums [wrap64 (48 + n) % 256]).size + (⟨#[]⟩ : ByteArray).size ≤ 9223372036854775807 := by
    rw [show (strOfNums [wrap64 (48 + n) % 256]).size = 1 from rfl]
    show 1 + 0 ≤ _
    omega
  simp only [if_neg (show ¬ n > 9 by omega), Option.bind_some, if_pos hz]
  rw [show strOfNums [wrap64 (48 + n) % 256] ++ (⟨#[]⟩ : ByteArray) = strOfNums [wrap64 (48 + n) % 256] from by apply ByteArray.ext; apply Array.ext'; simp]
  exact Ev.now _
theorem rd0 (y : SDoc) (l : List SDoc) : rd_TDoc (y :: l) 0 = y := by simp [rd_TDoc]
theorem rd1 (x y : SDoc) (l : List SDoc) : rd_TDoc (x :: y :: l) 1 = y := by simp [rd_TDoc]
theorem kids1 {ks : List SDoc} (h : (ks.length : Int) = 1) : ∃ y, ks = [y] := by
  match ks, h with
  | [y], _ => exact ⟨y, rfl⟩
  | [], h => simp at h
  | _ :: _ :: _, h => simp only [List.length_cons] at h; omega
theorem kids2 {ks : List SDoc} (h : (ks.length : Int) = 2) : ∃ x y, ks = [x, y] := by
  match ks, h with
  | [x, y], _ => exact ⟨x, y, rfl⟩
  | [], h => simp at h
  | [_], h => simp at h
  | _ :: _ :: _ :: _, h => simp only [List.length_cons] at h; omega
def fmtN (o n : Int) (t : ByteArray) (ss : List ByteArray) : ByteArray :=
  if o = 1 then ⟨#[126]⟩ else if o = 2 then ((⟨#[34]⟩ : ByteArray) ++ t) ++ (⟨#[34]⟩ : ByteArray) else if o = 3 then ⟨#[95]⟩ else if o = 4 then ⟨#[46]⟩ else if o = 5 then ⟨#[33]⟩
  else if o = 6 then ((strOfNums [wrap64 (48 + n) % 256] ++ (⟨#[60]⟩ : ByteArray)) ++ ss.getD 0 ⟨#[]⟩) ++ (⟨#[62]⟩ : ByteArray) else if o = 7 then (((⟨#[40]⟩ : ByteArray) ++ ss.getD 0 ⟨#[]⟩) ++ ss.getD 1 ⟨#[]⟩) ++ (⟨#[41]⟩ : ByteArray)
  else ((⟨#[91]⟩ : ByteArray) ++ ss.getD 0 ⟨#[]⟩) ++ (⟨#[93]⟩ : ByteArray)
mutual
def fmtB : SDoc → ByteArray
  | ⟨o, n, t, ks⟩ => fmtN o n t (fmtL ks)
def fmtL : List SDoc → List ByteArray
  | [] => []
  | k :: ks => fmtB k :: fmtL ks
end
theorem fmt_ev : ∀ (d : SDoc) (deep : Nat), wf d deep = true → msz d ≤ 1099511627776 → ∃ s : ByteArray, s = fmtB d ∧ s.size ≤ 4 * msz d ∧ Ev (fun k => spec_l1Text.f k d.f0 d.f1 d.f2 d.f3) s ∧ Ev (fun k => impl_formatDoc.f k d.f0 d.f1 d.f2 d.f3) s := by
  intro d
  induction d using SDoc.ind with
  | h o n t ks ih =>
    intro deep hw hd
    obtain ⟨ho1, ho8, hk, hn0, hn9, _, _, ht⟩ := wf_node hw
    have hks := wf_kids hw
    simp only [msz] at hd
    have key : ∀ s : ByteArray, (o = 1 → s = ⟨#[126]⟩) → (o = 3 → s = ⟨#[95]⟩) → (o = 4 → s = ⟨#[46]⟩) → (o = 5 → s = ⟨#[33]⟩) → (o = 1 ∨ o = 3 ∨ o = 4 ∨ o = 5) →
        Ev (fun k => spec_l1Text.f k o n t ks) s ∧ Ev (fun k => impl_formatDoc.f k o n t ks) s := by
      intro s h1 h3 h4 h5 h
      constructor
      · refine Ev.step (fun k => by rw [spec_l1Text.f]) ?_
        rcases h with h | h | h | h <;> subst h <;> simp [h1, h3, h4, h5] <;> exact Ev.now _
      · refine Ev.step (fun k => by rw [impl_formatDoc.f]) ?_
        rcases h with h | h | h | h <;> subst h <;> simp [h1, h3, h4, h5] <;> exact Ev.now _
    have hcase : o = 1 ∨ o = 2 ∨ o = 3 ∨ o = 4 ∨ o = 5 ∨ o = 6 ∨ o = 7 ∨ o = 8 := by omega
    rcases hcase with h | h | h | h | h | h | h | h
    · refine ⟨⟨#[126]⟩, by subst h; rfl, by show 1 ≤ _; simp only [msz]; omega, key _ (fun _ => rfl) (by omega) (by omega) (by omega) (by omega)⟩
    · subst h
      have e1 : 1 + t.size ≤ 9223372036854775807 := by omega
      have e2 : ((⟨#[34]⟩ : ByteArray) ++ t).size + 1 ≤ 9223372036854775807 := by rw [ByteArray.size_append]; show 1 + t.size + 1 ≤ _; omega
      refine ⟨((⟨#[34]⟩ : ByteArray) ++ t) ++ (⟨#[34]⟩ : ByteArray), rfl, ?_, ?_, ?_⟩
      · rw [ByteArray.size_append, ByteArray.size_append]
        show 1 + t.size + 1 ≤ _
        simp only [msz]; omega
      · refine Ev.step (fun k => by rw [spec_l1Text.f]) ?_
        simp only [if_neg (show ¬ (2 : Int) = 1 by omega), if_true, if_pos e1, if_pos e2]
        exact Ev.now _
      · refine Ev.step (fun k => by rw [impl_formatDoc.f]) ?_
        simp only [if_neg (show ¬ (2 : Int) = 1 by omega), if_true, if_pos e1, if_pos e2]
        exact Ev.now _
    · refine ⟨⟨#[95]⟩, by subst h; rfl, by show 1 ≤ _; simp only [msz]; omega, key _ (by omega) (fun _ => rfl) (by omega) (by omega) (by omega)⟩
    · refine ⟨⟨#[46]⟩, by subst h; rfl, by show 1 ≤ _; simp only [msz]; omega, key _ (by omega) (by omega) (fun _ => rfl) (by omega) (by omega)⟩
    · refine ⟨⟨#[33]⟩, by subst h; rfl, by show 1 ≤ _; simp only [msz]; omega, key _ (by omega) (by omega) (by omega) (fun _ => rfl) (by omega)⟩
    · subst h
      obtain ⟨y, rfl⟩ := kids1 (hk.trans rfl)
      simp only [mszL] at hd
      obtain ⟨s, hse, hs, h1, h2⟩ := ih y List.mem_cons_self _ (hks y List.mem_cons_self) (by omega)
      have z : (strOfNums [wrap64 (48 + n) % 256]).size = 1 := rfl
      have e1 : (strOfNums [wrap64 (48 + n) % 256]).size + 1 ≤ 9223372036854775807 := by rw [z]; omega
      have z2 : (strOfNums [wrap64 (48 + n) % 256] ++ (⟨#[60]⟩ : ByteArray)).size = 2 := by rw [ByteArray.size_append, z]; rfl
      have e2 : (strOfNums [wrap64 (48 + n) % 256] ++ (⟨#[60]⟩ : ByteArray)).size + s.size ≤ 9223372036854775807 := by rw [z2]; omega
      have e3 : ((strOfNums [wrap64 (48 + n) % 256] ++ (⟨#[60]⟩ : ByteArray)) ++ s).size + 1 ≤ 9223372036854775807 := by rw [ByteArray.size_append, z2]; omega
      refine ⟨((strOfNums [wrap64 (48 + n) % 256] ++ (⟨#[60]⟩ : ByteArray)) ++ s) ++ (⟨#[62]⟩ : ByteArray), by rw [hse]; rfl, ?_, ?_, ?_⟩
      · rw [ByteArray.size_append, ByteArray.size_append, z2]
        show 2 + s.size + 1 ≤ _
        simp only [msz, mszL]; omega
      · refine Ev.step (fun k => by rw [spec_l1Text.f]) ?_
        simp only [if_neg (show ¬ (6 : Int) = 1 by omega), if_neg (show ¬ (6 : Int) = 2 by omega), if_neg (show ¬ (6 : Int) = 3 by omega), if_neg (show ¬ (6 : Int) = 4 by omega), if_neg (show ¬ (6 : Int) = 5 by omega), if_true]
        refine Ev.bind (dec1 n hn0 hn9) ?_
        simp only [if_pos e1, if_pos (show (0 : Int) < (([y] : List SDoc).length : Int) by simp), rd0]
        refine Ev.bind h1 ?_
        simp only [if_pos e2, if_pos e3]
        exact Ev.now _
      · refine Ev.step (fun k => by rw [impl_formatDoc.f]) ?_
        simp only [if_neg (show ¬ (6 : Int) = 1 by omega), if_neg (show ¬ (6 : Int) = 2 by omega), if_neg (show ¬ (6 : Int) = 3 by omega), if_neg (show ¬ (6 : Int) = 4 by omega), if_neg (show ¬ (6 : Int) = 5 by omega), if_true, Option.bind_some,
          if_pos e1, if_pos (show (0 : Int) < (([y] : List SDoc).length : Int) by simp), rd0]
        refine Ev.bind h2 ?_
        simp only [if_pos e2, if_pos e3]
        exact Ev.now _
    · subst h
      obtain ⟨x, y, rfl⟩ := kids2 (hk.trans rfl)
      simp only [mszL] at hd
      have hx : x ∈ [x, y] := List.mem_cons_self
      have hy : y ∈ [x, y] := List.mem_cons_of_mem _ List.mem_cons_self
      obtain ⟨s, hse, hs, h1, h2⟩ := ih x hx _ (hks x hx) (by omega)
      obtain ⟨u, hue, hu, g1, g2⟩ := ih y hy _ (hks y hy) (by omega)
      have e1 : 1 + s.size ≤ 9223372036854775807 := by omega
      have z2 : ((⟨#[40]⟩ : ByteArray) ++ s).size = 1 + s.size := by rw [ByteArray.size_append]; rfl
      have e2 : ((⟨#[40]⟩ : ByteArray) ++ s).size + u.size ≤ 9223372036854775807 := by rw [z2]; omega
      have e3 : (((⟨#[40]⟩ : ByteArray) ++ s) ++ u).size + 1 ≤ 9223372036854775807 := by rw [ByteArray.size_append, z2]; omega
      refine ⟨(((⟨#[40]⟩ : ByteArray) ++ s) ++ u) ++ (⟨#[41]⟩ : ByteArray), by rw [hse, hue]; rfl, ?_, ?_, ?_⟩
      · rw [ByteArray.size_append, ByteArray.size_append, z2]
        show 1 + s.size + u.size + 1 ≤ _
        simp only [msz, mszL]; omega
      · refine Ev.step (fun k => by rw [spec_l1Text.f]) ?_
        simp only [if_neg (show ¬ (7 : Int) = 1 by omega), if_neg (show ¬ (7 : Int) = 2 by omega), if_neg (show ¬ (7 : Int) = 3 by omega), if_neg (show ¬ (7 : Int) = 4 by omega), if_neg (show ¬ (7 : Int) = 5 by omega), if_neg (show ¬ (7 : Int) = 6 by omega), if_true,
          if_pos (show (0 : Int) < (([x, y] : List SDoc).length : Int) by simp), if_pos (show (1 : Int) < (([x, y] : List SDoc).length : Int) by simp), rd0, rd1]
        refine Ev.bind h1 ?_
        simp only [if_pos e1]
        refine Ev.bind g1 ?_
        simp only [if_pos e2, if_pos e3]
        exact Ev.now _
      · refine Ev.step (fun k => by rw [impl_formatDoc.f]) ?_
        simp only [if_neg (show ¬ (7 : Int) = 1 by omega), if_neg (show ¬ (7 : Int) = 2 by omega), if_neg (show ¬ (7 : Int) = 3 by omega), if_neg (show ¬ (7 : Int) = 4 by omega), if_neg (show ¬ (7 : Int) = 5 by omega), if_neg (show ¬ (7 : Int) = 6 by omega), if_true,
          if_pos (show (0 : Int) < (([x, y] : List SDoc).length : Int) by simp), if_pos (show (1 : Int) < (([x, y] : List SDoc).length : Int) by simp), rd0, rd1]
        refine Ev.bind h2 ?_
        simp only [if_pos e1]
        refine Ev.bind g2 ?_
        simp only [if_pos e2, if_pos e3]
        exact Ev.now _
    · subst h
      obtain ⟨y, rfl⟩ := kids1 (hk.trans rfl)
      simp only [mszL] at hd
      obtain ⟨s, hse, hs, h1, h2⟩ := ih y List.mem_cons_self _ (hks y List.mem_cons_self) (by omega)
      have e1 : 1 + s.size ≤ 9223372036854775807 := by omega
      have z2 : ((⟨#[91]⟩ : ByteArray) ++ s).size = 1 + s.size := by rw [ByteArray.size_append]; rfl
      have e3 : ((⟨#[91]⟩ : ByteArray) ++ s).size + 1 ≤ 9223372036854775807 := by rw [z2]; omega
      refine ⟨((⟨#[91]⟩ : ByteArray) ++ s) ++ (⟨#[93]⟩ : ByteArray), by rw [hse]; rfl, ?_, ?_, ?_⟩
      · rw [ByteArray.size_append, z2]
        show 1 + s.size + 1 ≤ _
        simp only [msz, mszL]; omega
      · refine Ev.step (fun k => by rw [spec_l1Text.f]) ?_
        simp only [if_neg (show ¬ (8 : Int) = 1 by omega), if_neg (show ¬ (8 : Int) = 2 by omega), if_neg (show ¬ (8 : Int) = 3 by omega), if_neg (show ¬ (8 : Int) = 4 by omega), if_neg (show ¬ (8 : Int) = 5 by omega), if_neg (show ¬ (8 : Int) = 6 by omega), if_neg (show ¬ (8 : Int) = 7 by omega),
          if_pos (show (0 : Int) < (([y] : List SDoc).length : Int) by simp), rd0]
        refine Ev.bind h1 ?_
        simp only [if_pos e1, if_pos e3]
        exact Ev.now _
      · refine Ev.step (fun k => by rw [impl_formatDoc.f]) ?_
        simp only [if_neg (show ¬ (8 : Int) = 1 by omega), if_neg (show ¬ (8 : Int) = 2 by omega), if_neg (show ¬ (8 : Int) = 3 by omega), if_neg (show ¬ (8 : Int) = 4 by omega), if_neg (show ¬ (8 : Int) = 5 by omega), if_neg (show ¬ (8 : Int) = 6 by omega), if_neg (show ¬ (8 : Int) = 7 by omega),
          if_pos (show (0 : Int) < (([y] : List SDoc).length : Int) by simp), rd0]
        refine Ev.bind h2 ?_
        simp only [if_pos e1, if_pos e3]
        exact Ev.now _
end Go.Proofs.Ytdhdfmmefghijaa.Pure
namespace Go.Proofs.Ytdhdfmmefghijaa.P
open Go.RowKit Go.Proofs.YtdhdfmmefghijaaW.PrintWords Go.Proofs.YtdhdfmmefghijaaW.PrintLast Go.Proofs.YtdhdfmmefghijaaW.PrintMore
attribute [local go_sem] max2_int min2_int max_two min_two max_three min_three max_four min_four
set_option linter.unusedVariables false
set_option linter.unusedSimpArgs false
def spec_DrawTextValid.f (k:Nat) (l0:List Int):Option (ByteArray):=(spec_l15Open.f l0).bind fun bt123=>((spec_l1Word2.f k bt123.1 bt123.2).bind fun bt126=>((spec_l1Bend.f k bt123.1 bt126.2 bt126.1 (([(⟨#[]⟩:ByteArray),(⟨#[65]⟩:ByteArray),(⟨#[97,98,99,100,101,102,103,104,105,106,107,108]⟩:ByteArray),(⟨#[32]⟩:ByteArray),(⟨#[55]⟩:ByteArray),(⟨#[195,169]⟩:ByteArray)]:List ByteArray))).bind fun bt131=>(some bt131.1)))
end Go.Proofs.Ytdhdfmmefghijaa.P
namespace Go.Proofs.Ytdhdfmmefghijaa.Pure
open Go.RowKit Go.Proofs.Ytdhdfmmefghijaa.P Go.Proofs.YtdhdfmmefghijaaW.PrintWords Go.Proofs.YtdhdfmmefghijaaW.PrintLast Go.Proofs.YtdhdfmmefghijaaW.PrintMore
set_option linter.unusedVariables false
set_option linter.unusedSimpArgs false
theorem drawParse_ev (l : List Int) (hl : l.length ≤ maxLen) (h : ∀ x ∈ l, (Lit.int .u8 x).wf = true) : ∃ s : ByteArray, Ev (fun k => spec_DrawParseDoc.f k l) s ∧ s.size ≤ 5000 := by
  obtain ⟨b, hb, e⟩ := open_ev l hl h
  obtain ⟨d, q, h1, h2, h3, h4⟩ := draw_ev hb 0 (by omega) (by omega)
  have hm := h2.2
  obtain ⟨s, _, hz, g, _⟩ := fmt_ev d 40 (docV_wf h2.1) (by omega)
  obtain ⟨s', q', g', hz'⟩ := bend_ev hb s (by omega) [(⟨#[]⟩ : ByteArray), (⟨#[40]⟩ : ByteArray), (⟨#[41]⟩ : ByteArray), (⟨#[91]⟩ : ByteArray), (⟨#[95]⟩ : ByteArray), (⟨#[46]⟩ : ByteArray), (⟨#[34]⟩ : ByteArray), (⟨#[126]⟩ : ByteArray), (⟨#[50, 60]⟩ : ByteArray), (⟨#[97]⟩ : ByteArray)] (by simp) (by decide +kernel) q (by omega) (by omega)
  refine ⟨s', Ev.congr (fun k => by rw [spec_DrawParseDoc.f, e]) ?_, by omega⟩
  simp only [Option.bind_some]
  exact Ev.bind h1 (Ev.bind g (Ev.bind g' (Ev.now _)))
end Go.Proofs.Ytdhdfmmefghijaa.Pure
