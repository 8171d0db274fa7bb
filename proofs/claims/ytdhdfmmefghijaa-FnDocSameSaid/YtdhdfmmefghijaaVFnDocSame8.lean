/- CONTRACTS and lemmas: each contract says that a Go function of the program, called over the translation under the theorem's own hypotheses, returns what the Lean function beside it computes. -/
import Derived.Test.YtdhdfmmefghijaaVFnDocSame7
namespace Go.Proofs.Ytdhdfmmefghijaa.P
open Go.RowKit Go.Proofs.YtdhdfmmefghijaaW.PrintWords Go.Proofs.YtdhdfmmefghijaaW.PrintLast Go.Proofs.YtdhdfmmefghijaaW.PrintMore
attribute [local go_sem] max2_int min2_int max_two min_two max_three min_three max_four min_four
set_option linter.unusedVariables false
set_option linter.unusedSimpArgs false
mutual
def spec_DocSame.j0:Nat→Bool→Int→Int→ByteArray→List (SDoc)→Int→Int→ByteArray→List (SDoc)→Option (Bool)
 | 0,_,_,_,_,_,_,_,_,_=>none
 | k+1,x33,x602000,x602001,x602002,x602003,x603000,x603001,x603002,x603003=>if x33=true then (some false) else (spec_DocSame.l0 k 0 x602000 x602001 x602002 x602003 x603000 x603001 x603002 x603003)
def spec_DocSame.l0:Nat→Int→Int→Int→ByteArray→List (SDoc)→Int→Int→ByteArray→List (SDoc)→Option (Bool)
 | 0,_,_,_,_,_,_,_,_,_=>none
 | k+1,x5,x602000,x602001,x602002,x602003,x603000,x603001,x603002,x603003=>if x5 < (x602003.length:Int) then (if 0≤x5 then (if x5 < (x603003.length:Int) then ((spec_DocSame.f k ((rd_TDoc x602003 x5).f0) ((rd_TDoc x602003 x5).f1) ((rd_TDoc x602003 x5).f2) ((rd_TDoc x602003 x5).f3) ((rd_TDoc x603003 x5).f0) ((rd_TDoc x603003 x5).f1) ((rd_TDoc x603003 x5).f2) ((rd_TDoc x603003 x5).f3)).bind fun t605=>(if t605=true then (spec_DocSame.l0 k (wrap64 (x5+1)) x602000 x602001 x602002 x602003 x603000 x603001 x603002 x603003) else (some false))) else (none)) else (none)) else (some true)
def spec_DocSame.f:Nat→Int→Int→ByteArray→List (SDoc)→Int→Int→ByteArray→List (SDoc)→Option (Bool)
 | 0,_,_,_,_,_,_,_,_=>none
 | k+1,a0_0,a0_1,a0_2,l0_3,a1_0,a1_1,a1_2,l1_3=>if a0_0=a1_0 then (if a0_1=a1_1 then (if a0_2.toList=a1_2.toList then (spec_DocSame.j0 k ((l0_3.length:Int) != (l1_3.length:Int)) a0_0 a0_1 a0_2 l0_3 a1_0 a1_1 a1_2 l1_3) else (spec_DocSame.j0 k true a0_0 a0_1 a0_2 l0_3 a1_0 a1_1 a1_2 l1_3)) else (spec_DocSame.j0 k true a0_0 a0_1 a0_2 l0_3 a1_0 a1_1 a1_2 l1_3)) else (spec_DocSame.j0 k true a0_0 a0_1 a0_2 l0_3 a1_0 a1_1 a1_2 l1_3)
end
def spec_DocSame.T6:Bool × List (List Nat × List Nat):=(true,[([],[]),([0],[0]),([],[]),([1,2],[1,2]),([3],[3]),([],[]),([5],[5]),([],[]),([6,7],[6,7]),([8],[8]),([4,9],[4,9]),([10],[10])])
def spec_DocSame.B6:List Nat:=[0,1,0,7,15,0,32,0,224,480,1023,2047]
theorem spec_DocSame.tab6:rtab .any (opsOf Try.f35 6)=spec_DocSame.T6:=by kernel_rfl
theorem spec_DocSame.bits6:waitsOk spec_DocSame.T6.2 spec_DocSame.B6=true:=by kernel_rfl
set_option maxHeartbeats 8000000 in
set_option maxRecDepth 100000 in
theorem spec_DocSame.calls (k:Nat):∀ (a0_0:Int) (a0_1:Int) (a0_2:ByteArray) (A0_3:Option Addr) (c0_3:Nat) (l0_3:List (SDoc)) (a1_0:Int) (a1_1:Int) (a1_2:ByteArray) (A1_3:Option Addr) (c1_3:Nat) (l1_3:List (SDoc)) (r:Bool) (w:World) (hr0_3:Kd.C k27 w A0_3 l0_3.length l0_3) (hc0_3:l0_3.length≤c0_3) (hr1_3:Kd.C k27 w A1_3 l1_3.length l1_3) (hc1_3:l1_3.length≤c1_3) (h:spec_DocSame.f k a0_0 a0_1 a0_2 l0_3 a1_0 a1_1 a1_2 l1_3=some r),
  Calls Try.prog 35 #[.agg #[.int .i64 a0_0,.int .i64 a0_1,.string a0_2,.slice A0_3 l0_3.length c0_3],.agg #[.int .i64 a1_0,.int .i64 a1_1,.string a1_2,.slice A1_3 l1_3.length c1_3]] w fun e w'=>e=.returned (.bool r)∧Below w.heap.size w w':=by
 induction k using Nat.strongRecOn with
 | _ k ih =>
 intro a0_0 a0_1 a0_2 A0_3 c0_3 l0_3 a1_0 a1_1 a1_2 A1_3 c1_3 l1_3 r w hr0_3 hc0_3 hr1_3 hc1_3 h
 cases k with
 | zero=>exact absurd h (by simp [spec_DocSame.f])
 | succ k =>
 simp only [spec_DocSame.f] at h
 have hu27:=Try.underlying27
 have HR0_3:=Aside0.mk hr0_3
 have HC0_3:=Aside0.mk hc0_3
 clear hr0_3 hc0_3
 have HR1_3:=Aside0.mk hr1_3
 have HC1_3:=Aside0.mk hc1_3
 clear hr1_3 hc1_3
 have HB:=Aside0.mk (Below.refl w.heap.size w)
 have H:(if a0_0=a1_0 then (if a0_1=a1_1 then (if a0_2.toList=a1_2.toList then (spec_DocSame.j0 k ((l0_3.length:Int) != (l1_3.length:Int)) a0_0 a0_1 a0_2 l0_3 a1_0 a1_1 a1_2 l1_3) else (spec_DocSame.j0 k true a0_0 a0_1 a0_2 l0_3 a1_0 a1_1 a1_2 l1_3)) else (spec_DocSame.j0 k true a0_0 a0_1 a0_2 l0_3 a1_0 a1_1 a1_2 l1_3)) else (spec_DocSame.j0 k true a0_0 a0_1 a0_2 l0_3 a1_0 a1_1 a1_2 l1_3))=some r:=h
 clear h
 have HC3:=Aside0.mk H
 clear H
 go_enter Try.func35,Try.ntmps35
 go_upto_region 1 with (first|((with_reducible refine gate_dst (N:=2) rfl ?_);(try (refine gate_guard (by rfl) ?_;dsimp only));refine box_event ?hg (N:=2) ?hd (cs:=#[.int .i64 a0_0,.int .i64 a0_1,.string a0_2,.slice A0_3 l0_3.length c0_3]) (t:=27) ?hr ?_;(case hd=>rfl);(case hg=>rfl);(case hr=>first|(go_simp;done)|(go_simp;rfl));intro gb601 hg w4 hbox hb;have n0_:=Aside0.mk (below_step (gB HB) hb);have n1_:=Aside0.mk (hbox);have n2_:=Aside0.mk ((by rw [hg];exact (below_size (gB HB)):w.heap.size≤gb601));have n3_:=Aside0.mk ((by rw [hg];exact (below_size (gB HB)):w.heap.size≤gb601));clear HB;have HB:=n0_;have BK601:=n1_;have GW601:=n2_;have GE601:=n3_;clear n0_ n1_ n2_ n3_;clear hb hbox hg)|((with_reducible refine gate_dst (N:=3) rfl ?_);(try (refine gate_guard (by rfl) ?_;dsimp only));refine box_event ?hg (N:=3) ?hd (cs:=#[.int .i64 a1_0,.int .i64 a1_1,.string a1_2,.slice A1_3 l1_3.length c1_3]) (t:=27) ?hr ?_;(case hd=>rfl);(case hg=>rfl);(case hr=>first|(go_simp;done)|(go_simp;rfl));intro gb602 hg w5 hbox hb;have n0_:=Aside0.mk (blk_below (g:=gb601) (o:=.cells #[.int .i64 a0_0,.int .i64 a0_1,.string a0_2,.slice A0_3 l0_3.length c0_3] 27 (0,0)) (gK BK601) hb);have n1_:=Aside0.mk (below_step (by repeat (first|exact gB HB|refine below_set ?_ GE601.out)) hb);have n2_:=Aside0.mk (hbox);have n3_:=Aside0.mk ((by rw [hg];exact (below_size (by repeat (first|exact gB HB|refine below_set ?_ GE601.out))):w.heap.size≤gb602));have n4_:=Aside0.mk ((by rw [hg];exact (below_size (by repeat (first|exact gB HB|refine below_set ?_ GE601.out))):w.heap.size≤gb602));have n5_:=Aside0.mk ((by rw [hg];exact Nat.ne_of_lt (blk_lt (g:=gb601) (o:=.cells #[.int .i64 a0_0,.int .i64 a0_1,.string a0_2,.slice A0_3 l0_3.length c0_3] 27 (0,0)) (gK BK601)):gb601 ≠ gb602));have n6_:=Aside0.mk ((by rw [hg];exact Nat.ne_of_gt (blk_lt (g:=gb601) (o:=.cells #[.int .i64 a0_0,.int .i64 a0_1,.string a0_2,.slice A0_3 l0_3.length c0_3] 27 (0,0)) (gK BK601)):gb602 ≠ gb601));clear BK601;clear HB;have BK601:=n0_;have HB:=n1_;have BK602:=n2_;have GW602:=n3_;have GE602:=n4_;have NB601_602:=n5_;have NB602_601:=n6_;clear n0_ n1_ n2_ n3_ n4_ n5_ n6_;clear hb hbox hg))
 (try simp only [Act.put,List.setIfInBounds_toArray,List.set_cons_zero,List.set_cons_succ])
 go_cut [33] (fun v33 wc=>∃ (kq:Nat) (x33_2:Bool),v33=.bool x33_2∧Aside0 (spec_DocSame.j0 kq x33_2 a0_0 a0_1 a0_2 l0_3 a1_0 a1_1 a1_2 l1_3=some r)∧Aside0 (kq≤k)∧Aside0 (wc.heap[gb601]?=some (.cells #[.int .i64 a0_0,.int .i64 a0_1,.string a0_2,(.slice A0_3 l0_3.length c0_3)] 27 (0,0)))∧Aside0 (wc.heap[gb602]?=some (.cells #[.int .i64 a1_0,.int .i64 a1_1,.string a1_2,(.slice A1_3 l1_3.length c1_3)] 27 (0,0)))∧Aside0 (Below w.heap.size w wc))
 case first =>
  have H:=HC3.out
  clear HC3
  by_cases c6:a0_0=a1_0
  ·rw [if_pos c6] at H
   have c6b0:(a0_0 == a1_0)=true:=beq_iff_eq.mpr c6
   have c6b1:(a0_0 != a1_0)=false:=bne_eq_false_iff_eq.mpr c6
   clear c6
   (first|rw [c6b0]|(simp only [i64_w,i32_w];rw [c6b0])|skip)
   by_cases c7:a0_1=a1_1
   ·rw [if_pos c7] at H
    have c7b0:(a0_1 == a1_1)=true:=beq_iff_eq.mpr c7
    have c7b1:(a0_1 != a1_1)=false:=bne_eq_false_iff_eq.mpr c7
    clear c7
    by_cases c8:a0_2.toList=a1_2.toList
    ·rw [if_pos c8] at H
     have c8b0:(a0_2.toList == a1_2.toList)=true:=beq_iff_eq.mpr c8
     have c8b1:(a0_2.toList != a1_2.toList)=false:=bne_eq_false_iff_eq.mpr c8
     clear c8
     have H':=Aside0.mk H
     clear H
     have hnb9:=NB601_602.out
     have hnc9:=NB602_601.out
     have hcz10_0:w5.cell? ⟨gb601,0,none⟩=some (.int .i64 a0_0):=(blk_cell BK601.out 0).trans rfl
     have hcz10_1:w5.cell? ⟨gb601,1,none⟩=some (.int .i64 a0_1):=(blk_cell BK601.out 1).trans rfl
     have hcz10_2:w5.cell? ⟨gb601,2,none⟩=some (.string a0_2):=(blk_cell BK601.out 2).trans rfl
     have hcz10_3:w5.cell? ⟨gb601,3,none⟩=some (.slice A0_3 l0_3.length c0_3):=(blk_cell BK601.out 3).trans rfl
     have hfz10_0:=blk_frozen BK601.out 0
     have hfz10_1:=blk_frozen BK601.out 1
     have hfz10_2:=blk_frozen BK601.out 2
     have hfz10_3:=blk_frozen BK601.out 3
     have hcz11_0:w5.cell? ⟨gb602,0,none⟩=some (.int .i64 a1_0):=(blk_cell BK602.out 0).trans rfl
     have hcz11_1:w5.cell? ⟨gb602,1,none⟩=some (.int .i64 a1_1):=(blk_cell BK602.out 1).trans rfl
     have hcz11_2:w5.cell? ⟨gb602,2,none⟩=some (.string a1_2):=(blk_cell BK602.out 2).trans rfl
     have hcz11_3:w5.cell? ⟨gb602,3,none⟩=some (.slice A1_3 l1_3.length c1_3):=(blk_cell BK602.out 3).trans rfl
     have hfz11_0:=blk_frozen BK602.out 0
     have hfz11_1:=blk_frozen BK602.out 1
     have hfz11_2:=blk_frozen BK602.out 2
     have hfz11_3:=blk_frozen BK602.out 3
     go_wp2
     go_meet
     case rel=>exact ⟨_,(((l0_3.length:Int) != (l1_3.length:Int))),(by first|rfl|(simp;done)|(simp [*];done)),H',⟨by first|omega|exact Nat.le_refl _⟩,⟨gK BK601⟩,⟨gK BK602⟩,⟨by repeat (first|exact gB HB|refine below_set ?_ GE601.out|refine below_set ?_ GE602.out)⟩⟩
    ·rw [if_neg c8] at H
     have c8b0:(a0_2.toList == a1_2.toList)=false:=beq_eq_false_iff_ne.mpr c8
     have c8b1:(a0_2.toList != a1_2.toList)=true:=bne_iff_ne.mpr c8
     have H':=Aside0.mk H
     clear H
     have hnb12:=NB601_602.out
     have hnc12:=NB602_601.out
     have hcz13_0:w5.cell? ⟨gb601,0,none⟩=some (.int .i64 a0_0):=(blk_cell BK601.out 0).trans rfl
     have hcz13_1:w5.cell? ⟨gb601,1,none⟩=some (.int .i64 a0_1):=(blk_cell BK601.out 1).trans rfl
     have hcz13_2:w5.cell? ⟨gb601,2,none⟩=some (.string a0_2):=(blk_cell BK601.out 2).trans rfl
     have hcz13_3:w5.cell? ⟨gb601,3,none⟩=some (.slice A0_3 l0_3.length c0_3):=(blk_cell BK601.out 3).trans rfl
     have hfz13_0:=blk_frozen BK601.out 0
     have hfz13_1:=blk_frozen BK601.out 1
     have hfz13_2:=blk_frozen BK601.out 2
     have hfz13_3:=blk_frozen BK601.out 3
     have hcz14_0:w5.cell? ⟨gb602,0,none⟩=some (.int .i64 a1_0):=(blk_cell BK602.out 0).trans rfl
     have hcz14_1:w5.cell? ⟨gb602,1,none⟩=some (.int .i64 a1_1):=(blk_cell BK602.out 1).trans rfl
     have hcz14_2:w5.cell? ⟨gb602,2,none⟩=some (.string a1_2):=(blk_cell BK602.out 2).trans rfl
     have hcz14_3:w5.cell? ⟨gb602,3,none⟩=some (.slice A1_3 l1_3.length c1_3):=(blk_cell BK602.out 3).trans rfl
     have hfz14_0:=blk_frozen BK602.out 0
     have hfz14_1:=blk_frozen BK602.out 1
     have hfz14_2:=blk_frozen BK602.out 2
     have hfz14_3:=blk_frozen BK602.out 3
     go_wp2
     go_meet
     case rel=>exact ⟨_,(true),(by first|rfl|(simp;done)|(simp [*];done)),H',⟨by first|omega|exact Nat.le_refl _⟩,⟨gK BK601⟩,⟨gK BK602⟩,⟨by repeat (first|exact gB HB|refine below_set ?_ GE601.out|refine below_set ?_ GE602.out)⟩⟩
   ·rw [if_neg c7] at H
    have c7b0:(a0_1 == a1_1)=false:=beq_eq_false_iff_ne.mpr c7
    have c7b1:(a0_1 != a1_1)=true:=bne_iff_ne.mpr c7
    have H':=Aside0.mk H
    clear H
    have hnb15:=NB601_602.out
    have hnc15:=NB602_601.out
    have hcz16_0:w5.cell? ⟨gb601,0,none⟩=some (.int .i64 a0_0):=(blk_cell BK601.out 0).trans rfl
    have hcz16_1:w5.cell? ⟨gb601,1,none⟩=some (.int .i64 a0_1):=(blk_cell BK601.out 1).trans rfl
    have hcz16_2:w5.cell? ⟨gb601,2,none⟩=some (.string a0_2):=(blk_cell BK601.out 2).trans rfl
    have hcz16_3:w5.cell? ⟨gb601,3,none⟩=some (.slice A0_3 l0_3.length c0_3):=(blk_cell BK601.out 3).trans rfl
    have hfz16_0:=blk_frozen BK601.out 0
    have hfz16_1:=blk_frozen BK601.out 1
    have hfz16_2:=blk_frozen BK601.out 2
    have hfz16_3:=blk_frozen BK601.out 3
    have hcz17_0:w5.cell? ⟨gb602,0,none⟩=some (.int .i64 a1_0):=(blk_cell BK602.out 0).trans rfl
    have hcz17_1:w5.cell? ⟨gb602,1,none⟩=some (.int .i64 a1_1):=(blk_cell BK602.out 1).trans rfl
    have hcz17_2:w5.cell? ⟨gb602,2,none⟩=some (.string a1_2):=(blk_cell BK602.out 2).trans rfl
    have hcz17_3:w5.cell? ⟨gb602,3,none⟩=some (.slice A1_3 l1_3.length c1_3):=(blk_cell BK602.out 3).trans rfl
    have hfz17_0:=blk_frozen BK602.out 0
    have hfz17_1:=blk_frozen BK602.out 1
    have hfz17_2:=blk_frozen BK602.out 2
    have hfz17_3:=blk_frozen BK602.out 3
    go_wp2
    go_meet
    case rel=>exact ⟨_,(true),(by first|rfl|(simp;done)|(simp [*];done)),H',⟨by first|omega|exact Nat.le_refl _⟩,⟨gK BK601⟩,⟨gK BK602⟩,⟨by repeat (first|exact gB HB|refine below_set ?_ GE601.out|refine below_set ?_ GE602.out)⟩⟩
  ·rw [if_neg c6] at H
   have c6b0:(a0_0 == a1_0)=false:=beq_eq_false_iff_ne.mpr c6
   have c6b1:(a0_0 != a1_0)=true:=bne_iff_ne.mpr c6
   (first|rw [c6b0]|(simp only [i64_w,i32_w];rw [c6b0])|skip)
   have H':=Aside0.mk H
   clear H
   have hnb18:=NB601_602.out
   have hnc18:=NB602_601.out
   have hcz19_0:w5.cell? ⟨gb601,0,none⟩=some (.int .i64 a0_0):=(blk_cell BK601.out 0).trans rfl
   have hcz19_1:w5.cell? ⟨gb601,1,none⟩=some (.int .i64 a0_1):=(blk_cell BK601.out 1).trans rfl
   have hcz19_2:w5.cell? ⟨gb601,2,none⟩=some (.string a0_2):=(blk_cell BK601.out 2).trans rfl
   have hcz19_3:w5.cell? ⟨gb601,3,none⟩=some (.slice A0_3 l0_3.length c0_3):=(blk_cell BK601.out 3).trans rfl
   have hfz19_0:=blk_frozen BK601.out 0
   have hfz19_1:=blk_frozen BK601.out 1
   have hfz19_2:=blk_frozen BK601.out 2
   have hfz19_3:=blk_frozen BK601.out 3
   have hcz20_0:w5.cell? ⟨gb602,0,none⟩=some (.int .i64 a1_0):=(blk_cell BK602.out 0).trans rfl
   have hcz20_1:w5.cell? ⟨gb602,1,none⟩=some (.int .i64 a1_1):=(blk_cell BK602.out 1).trans rfl
   have hcz20_2:w5.cell? ⟨gb602,2,none⟩=some (.string a1_2):=(blk_cell BK602.out 2).trans rfl
   have hcz20_3:w5.cell? ⟨gb602,3,none⟩=some (.slice A1_3 l1_3.length c1_3):=(blk_cell BK602.out 3).trans rfl
   have hfz20_0:=blk_frozen BK602.out 0
   have hfz20_1:=blk_frozen BK602.out 1
   have hfz20_2:=blk_frozen BK602.out 2
   have hfz20_3:=blk_frozen BK602.out 3
   go_wp2
   go_meet
   case rel=>exact ⟨_,(true),(by first|rfl|(simp;done)|(simp [*];done)),H',⟨by first|omega|exact Nat.le_refl _⟩,⟨gK BK601⟩,⟨gK BK602⟩,⟨by repeat (first|exact gB HB|refine below_set ?_ GE601.out|refine below_set ?_ GE602.out)⟩⟩
 case rest =>
  clear HC3
  try clear c1 p2 c3 c6 c6b0 c6b1 c7 c7b0 c7b1 c8 c8b0 c8b1 c9 c12 c15 c18 hcz10_0 hcz10_1 hcz10_2 hcz10_3 hcz11_0 hcz11_1 hcz11_2 hcz11_3 hcz13_0 hcz13_1 hcz13_2 hcz13_3 hcz14_0 hcz14_1 hcz14_2 hcz14_3 hcz16_0 hcz16_1 hcz16_2 hcz16_3 hcz17_0 hcz17_1 hcz17_2 hcz17_3 hcz19_0 hcz19_1 hcz19_2 hcz19_3 hcz20_0 hcz20_1 hcz20_2 hcz20_3 hfz10_0 hfz10_1 hfz10_2 hfz10_3 hfz11_0 hfz11_1 hfz11_2 hfz11_3 hfz13_0 hfz13_1 hfz13_2 hfz13_3 hfz14_0 hfz14_1 hfz14_2 hfz14_3 hfz16_0 hfz16_1 hfz16_2 hfz16_3 hfz17_0 hfz17_1 hfz17_2 hfz17_3 hfz19_0 hfz19_1 hfz19_2 hfz19_3 hfz20_0 hfz20_1 hfz20_2 hfz20_3
  obtain ⟨kq,x33_2,rfl,HA,HJ2,BK601,BK602,HB⟩:=hcut
  cases kq with
  | zero=>exact absurd HA.out (by simp [spec_DocSame.j0])
  | succ kj2 =>
   have H:=HA.out
   clear HA
   simp only [spec_DocSame.j0] at H
   by_cases c21:x33_2=true
   ·subst c21
    have H1:(some false)=some r:=by rw [if_pos rfl] at H;exact H
    clear H
    have H:=H1
    clear H1
    obtain rfl:=Option.some.inj H
    go_wp2
    go_ret
    exact ⟨by first|rfl|(simp [errW_none,errW_some] <;> rfl)|(simp [*,errW_none,errW_some] <;> rfl),by repeat (first|exact gB HB|refine below_set ?_ GE601.out|refine below_set ?_ GE602.out)⟩
   ·replace c21:=Bool.eq_false_iff.mpr c21
    subst c21
    have H1:(spec_DocSame.l0 kj2 0 a0_0 a0_1 a0_2 l0_3 a1_0 a1_1 a1_2 l1_3)=some r:=by rw [if_neg (show ¬ (false=true) by decide)] at H;exact H
    clear H
    have H:=H1
    clear H1
    have H':=Aside0.mk H
    clear H
    go_wp2
    go_loopg [5] kj2 (fun kq v5 w'=>∃ (x5_2:Int),v5=.int .i64 x5_2∧Aside0 (spec_DocSame.l0 kq x5_2 a0_0 a0_1 a0_2 l0_3 a1_0 a1_1 a1_2 l1_3=some r)∧Aside0 (kq≤kj2)∧Aside0 (w'.heap[gb601]?=some (.cells #[.int .i64 a0_0,.int .i64 a0_1,.string a0_2,(.slice A0_3 l0_3.length c0_3)] 27 (0,0)))∧Aside0 (w'.heap[gb602]?=some (.cells #[.int .i64 a1_0,.int .i64 a1_1,.string a1_2,(.slice A1_3 l1_3.length c1_3)] 27 (0,0)))∧Aside0 (Below w.heap.size w w'))
    case atStart=>exact ⟨(0),(by first|rfl|(simp;done)|(simp [*];done)),H',⟨Nat.le_refl _⟩,⟨gK BK601⟩,⟨gK BK602⟩,⟨by repeat (first|exact gB HB|refine below_set ?_ GE601.out|refine below_set ?_ GE602.out)⟩⟩
    case round =>
     clear H'
     try clear c1 c2 p2 c3 c6 c6b0 c6b1 c7 c7b0 c7b1 c8 c8b0 c8b1 c9 c12 c15 c18 c21 hcz10_0 hcz10_1 hcz10_2 hcz10_3 hcz11_0 hcz11_1 hcz11_2 hcz11_3 hcz13_0 hcz13_1 hcz13_2 hcz13_3 hcz14_0 hcz14_1 hcz14_2 hcz14_3 hcz16_0 hcz16_1 hcz16_2 hcz16_3 hcz17_0 hcz17_1 hcz17_2 hcz17_3 hcz19_0 hcz19_1 hcz19_2 hcz19_3 hcz20_0 hcz20_1 hcz20_2 hcz20_3 hfz10_0 hfz10_1 hfz10_2 hfz10_3 hfz11_0 hfz11_1 hfz11_2 hfz11_3 hfz13_0 hfz13_1 hfz13_2 hfz13_3 hfz14_0 hfz14_1 hfz14_2 hfz14_3 hfz16_0 hfz16_1 hfz16_2 hfz16_3 hfz17_0 hfz17_1 hfz17_2 hfz17_3 hfz19_0 hfz19_1 hfz19_2 hfz19_3 hfz20_0 hfz20_1 hfz20_2 hfz20_3 p2
     (try clear BK601);(try clear BK602);(try clear HB)
     obtain ⟨x5_2,rfl,HA,HK2,BK601,BK602,HB⟩:=hrel
     cases gk with
     | zero=>exact absurd HA.out (by simp [spec_DocSame.l0])
     | succ k2 =>
      have H:=HA.out
      clear HA
      simp only [spec_DocSame.l0] at H
      by_cases c22:x5_2 < (l0_3.length:Int)
      ·rw [if_pos c22] at H
       have c22b0:decide (x5_2 < (l0_3.length:Int))=true:=decide_eq_true c22
       clear c22
       by_cases c23:0≤x5_2
       ·rw [if_pos c23] at H
        have c23b0:decide (0≤x5_2)=true:=decide_eq_true c23
        clear c23
        by_cases c24:x5_2 < (l1_3.length:Int)
        ·rw [if_pos c24] at H
         have c24b0:decide (x5_2 < (l1_3.length:Int))=true:=decide_eq_true c24
         clear c24
         replace H:=Option.bind_eq_some_iff.mp H
         obtain ⟨t605,A250,H⟩:=H
         replace H:(if t605=true then (spec_DocSame.l0 k2 (wrap64 (x5_2+1)) a0_0 a0_1 a0_2 l0_3 a1_0 a1_1 a1_2 l1_3) else (some false))=some r:=H
         have A25:=Aside0.mk A250
         clear A250
         by_cases c26:t605=true
         ·subst c26
          have H1:(spec_DocSame.l0 k2 (wrap64 (x5_2+1)) a0_0 a0_1 a0_2 l0_3 a1_0 a1_1 a1_2 l1_3)=some r:=by rw [if_pos rfl] at H;exact H
          clear H
          have H:=H1
          clear H1
          have H':=Aside0.mk H
          clear H
          have hnb27:=NB601_602.out
          have hnc27:=NB602_601.out
          have hcz28_0:wr.cell? ⟨gb601,0,none⟩=some (.int .i64 a0_0):=(blk_cell BK601.out 0).trans rfl
          have hcz28_1:wr.cell? ⟨gb601,1,none⟩=some (.int .i64 a0_1):=(blk_cell BK601.out 1).trans rfl
          have hcz28_2:wr.cell? ⟨gb601,2,none⟩=some (.string a0_2):=(blk_cell BK601.out 2).trans rfl
          have hcz28_3:wr.cell? ⟨gb601,3,none⟩=some (.slice A0_3 l0_3.length c0_3):=(blk_cell BK601.out 3).trans rfl
          have hfz28_0:=blk_frozen BK601.out 0
          have hfz28_1:=blk_frozen BK601.out 1
          have hfz28_2:=blk_frozen BK601.out 2
          have hfz28_3:=blk_frozen BK601.out 3
          try go_wp2
          have n0_:=Aside0.mk (blk_drew BK601.out)
          have n1_:=Aside0.mk (blk_drew BK602.out)
          have n2_:=Aside0.mk (below_drew1 HB.out)
          clear BK601
          clear BK602
          clear HB
          have BK601:=n0_
          have BK602:=n1_
          have HB:=n2_
          clear n0_ n1_ n2_
          have p603:0≤(x5_2:Int):=of_decide_eq_true (by first|(with_reducible assumption)|assumption)
          have q603:x5_2 < (l0_3.length:Int):=of_decide_eq_true (by first|(with_reducible assumption)|assumption)
          obtain ⟨ad603,A603_3,c603_3,e603,hx603_0,hx603_1,hx603_2,hx603_3,hl603_3,hi603_3⟩:=at_TDoc HR0_3.out x5_2 p603 q603
          have hw603_3:=hx603_3
          have hw603_2:=hx603_2
          have hw603_1:=hx603_1
          have hw603_0:=hx603_0
          cases e603
          replace hx603_0:=(HB.out.cell (World.block_lt_of_cell? w _ hx603_0)).trans hx603_0
          replace hx603_1:=(HB.out.cell (World.block_lt_of_cell? w _ hx603_1)).trans hx603_1
          replace hx603_2:=(HB.out.cell (World.block_lt_of_cell? w _ hx603_2)).trans hx603_2
          replace hx603_3:=(HB.out.cell (World.block_lt_of_cell? w _ hx603_3)).trans hx603_3
          have HR603_3:=Aside0.mk hi603_3
          have HC603_3:=Aside0.mk hl603_3
          clear hi603_3 hl603_3
          replace p603:=eq_true p603
          replace q603:=eq_true q603
          have p604:0≤(x5_2:Int):=of_decide_eq_true (by first|(with_reducible assumption)|assumption)
          have q604:x5_2 < (l1_3.length:Int):=of_decide_eq_true (by first|(with_reducible assumption)|assumption)
          obtain ⟨ad604,A604_3,c604_3,e604,hx604_0,hx604_1,hx604_2,hx604_3,hl604_3,hi604_3⟩:=at_TDoc HR1_3.out x5_2 p604 q604
          have hw604_3:=hx604_3
          have hw604_2:=hx604_2
          have hw604_1:=hx604_1
          have hw604_0:=hx604_0
          cases e604
          replace hx604_0:=(HB.out.cell (World.block_lt_of_cell? w _ hx604_0)).trans hx604_0
          replace hx604_1:=(HB.out.cell (World.block_lt_of_cell? w _ hx604_1)).trans hx604_1
          replace hx604_2:=(HB.out.cell (World.block_lt_of_cell? w _ hx604_2)).trans hx604_2
          replace hx604_3:=(HB.out.cell (World.block_lt_of_cell? w _ hx604_3)).trans hx604_3
          have HR604_3:=Aside0.mk hi604_3
          have HC604_3:=Aside0.mk hl604_3
          clear hi604_3 hl604_3
          replace p604:=eq_true p604
          replace q604:=eq_true q604
          refine start_ (n:=12) (S:=fun w'=>w'.cell? ⟨gb601,0,none⟩=some (.int .i64 a0_0)∧w'.cell? ⟨gb601,1,none⟩=some (.int .i64 a0_1)∧w'.cell? ⟨gb601,2,none⟩=some (.string a0_2)∧w'.cell? ⟨gb601,3,none⟩=some (.slice (some ad603) l0_3.length c0_3)∧w'.cell? ⟨gb602,0,none⟩=some (.int .i64 a1_0)∧w'.cell? ⟨gb602,1,none⟩=some (.int .i64 a1_1)∧w'.cell? ⟨gb602,2,none⟩=some (.string a1_2)∧w'.cell? ⟨gb602,3,none⟩=some (.slice (some ad604) l1_3.length c1_3)∧w'.cell? (ad603.add ((x5_2).toNat * 4))=some (.int .i64 ((rd_TDoc l0_3 x5_2).f0))∧w'.cell? ⟨(ad603.add ((x5_2).toNat * 4)).block,(ad603.add ((x5_2).toNat * 4)).off+1,none⟩=some (.int .i64 ((rd_TDoc l0_3 x5_2).f1))∧w'.cell? ⟨(ad603.add ((x5_2).toNat * 4)).block,(ad603.add ((x5_2).toNat * 4)).off+2,none⟩=some (.string ((rd_TDoc l0_3 x5_2).f2))∧w'.cell? ⟨(ad603.add ((x5_2).toNat * 4)).block,(ad603.add ((x5_2).toNat * 4)).off+3,none⟩=some (.slice A603_3 ((rd_TDoc l0_3 x5_2).f3).length c603_3)∧w'.cell? (ad604.add ((x5_2).toNat * 4))=some (.int .i64 ((rd_TDoc l1_3 x5_2).f0))∧w'.cell? ⟨(ad604.add ((x5_2).toNat * 4)).block,(ad604.add ((x5_2).toNat * 4)).off+1,none⟩=some (.int .i64 ((rd_TDoc l1_3 x5_2).f1))∧w'.cell? ⟨(ad604.add ((x5_2).toNat * 4)).block,(ad604.add ((x5_2).toNat * 4)).off+2,none⟩=some (.string ((rd_TDoc l1_3 x5_2).f2))∧w'.cell? ⟨(ad604.add ((x5_2).toNat * 4)).block,(ad604.add ((x5_2).toNat * 4)).off+3,none⟩=some (.slice A604_3 ((rd_TDoc l1_3 x5_2).f3).length c604_3)) (ds:=[]) #[false,false,false,false,false,false,false,false,false,false,false,false] (by kernel_rfl) rfl rfl ⟨(blk_cell BK601.out 0).trans rfl,(blk_cell BK601.out 1).trans rfl,(blk_cell BK601.out 2).trans rfl,(blk_cell BK601.out 3).trans rfl,(blk_cell BK602.out 0).trans rfl,(blk_cell BK602.out 1).trans rfl,(blk_cell BK602.out 2).trans rfl,(blk_cell BK602.out 3).trans rfl,((HB.out.cell (World.block_lt_of_cell? w _ hw603_0)).trans hw603_0),((HB.out.cell (World.block_lt_of_cell? w _ hw603_1)).trans hw603_1),((HB.out.cell (World.block_lt_of_cell? w _ hw603_2)).trans hw603_2),((HB.out.cell (World.block_lt_of_cell? w _ hw603_3)).trans hw603_3),((HB.out.cell (World.block_lt_of_cell? w _ hw604_0)).trans hw604_0),((HB.out.cell (World.block_lt_of_cell? w _ hw604_1)).trans hw604_1),((HB.out.cell (World.block_lt_of_cell? w _ hw604_2)).trans hw604_2),((HB.out.cell (World.block_lt_of_cell? w _ hw604_3)).trans hw604_3)⟩ (fun hHeld=>?_);refine with_tabW spec_DocSame.tab6 spec_DocSame.bits6 (fun HT_ HW_=>?_)
          generalize wr.drew=w29 at BK601 BK602 HB HR603_3 HR604_3 hx603_0 hx603_1 hx603_2 hx603_3 hx604_0 hx604_1 hx604_2 hx604_3 hHeld ⊢
          refine pure_ (i:=0) (N:=some 41) (v:=?_) (a':=?_) #[true,false,false,false,false,false,false,false,false,false,false,false] rfl rfl (any_of HT_.out (by kernel_rfl)) (fun _ _ _ h=>h) (Or.inl ⟨by rfl,?_⟩) ?_ ?_
          rotate_left
          ·intro w'
           go_simp
           with_reducible rfl
          rotate_left
          ·simp only [Act.put,List.setIfInBounds_toArray,List.set_cons_zero,List.set_cons_succ,i64_w,i32_w]
           rfl
          refine pure_ (i:=2) (N:=some 43) (v:=?_) (a':=?_) #[true,false,true,false,false,false,false,false,false,false,false,false] rfl rfl (any_of HT_.out (by kernel_rfl)) (fun _ _ _ h=>h) (Or.inl ⟨by rfl,?_⟩) ?_ ?_
          rotate_left
          ·intro w'
           go_simp
           with_reducible rfl
          rotate_left
          ·simp only [Act.put,List.setIfInBounds_toArray,List.set_cons_zero,List.set_cons_succ,i64_w,i32_w]
           rfl
          refine pure_ (i:=5) (N:=some 46) (v:=?_) (a':=?_) #[true,false,true,false,false,true,false,false,false,false,false,false] rfl rfl (any_of HT_.out (by kernel_rfl)) (fun _ _ _ h=>h) (Or.inl ⟨by rfl,?_⟩) ?_ ?_
          rotate_left
          ·intro w'
           go_simp
           with_reducible rfl
          rotate_left
          ·simp only [Act.put,List.setIfInBounds_toArray,List.set_cons_zero,List.set_cons_succ,i64_w,i32_w]
           rfl
          refine pure_ (i:=7) (N:=some 48) (v:=?_) (a':=?_) #[true,false,true,false,false,true,false,true,false,false,false,false] rfl rfl (any_of HT_.out (by kernel_rfl)) (fun _ _ _ h=>h) (Or.inl ⟨by rfl,?_⟩) ?_ ?_
          rotate_left
          ·intro w'
           go_simp
           with_reducible rfl
          rotate_left
          ·simp only [Act.put,List.setIfInBounds_toArray,List.set_cons_zero,List.set_cons_succ,i64_w,i32_w]
           rfl
          refine take_ (i:=1) (N:=some 42) (v:=?_) (a':=?_) #[true,true,true,false,false,true,false,true,false,false,false,false] rfl rfl (take_ofW HT_.out HW_.out (by kernel_rfl)) (fun _ _ _ h=>h) (Or.inl ⟨by rfl,?_⟩) hHeld ?_ ?_
          rotate_left
          ·rintro w' ⟨s0,s1,s2,s3,s4,s5,s6,s7,s8,s9,s10,s11,s12,s13,s14,s15⟩
           go_simp
           with_reducible rfl
          rotate_left
          ·simp only [Act.put,List.setIfInBounds_toArray,List.set_cons_zero,List.set_cons_succ,i64_w,i32_w]
           rfl
          refine pure_ (i:=3) (N:=some 44) (v:=?_) (a':=?_) #[true,true,true,true,false,true,false,true,false,false,false,false] rfl rfl (any_of HT_.out (by kernel_rfl)) (fun _ _ _ h=>h) (Or.inl ⟨by rfl,?_⟩) ?_ ?_
          rotate_left
          ·intro w'
           go_simp
           with_reducible rfl
          rotate_left
          ·simp only [Act.put,List.setIfInBounds_toArray,List.set_cons_zero,List.set_cons_succ,i64_w,i32_w]
           rfl
          refine take_ (i:=4) (N:=some 45) (v:=?_) (a':=?_) #[true,true,true,true,true,true,false,true,false,false,false,false] rfl rfl (take_ofW HT_.out HW_.out (by kernel_rfl)) (fun _ _ _ h=>h) (Or.inl ⟨by rfl,?_⟩) hHeld ?_ ?_
          rotate_left
          ·rintro w' ⟨s0,s1,s2,s3,s4,s5,s6,s7,s8,s9,s10,s11,s12,s13,s14,s15⟩
           go_simp
           with_reducible rfl
          rotate_left
          ·simp only [Act.put,List.setIfInBounds_toArray,List.set_cons_zero,List.set_cons_succ,i64_w,i32_w]
           rfl
          refine take_ (i:=6) (N:=some 47) (v:=?_) (a':=?_) #[true,true,true,true,true,true,true,true,false,false,false,false] rfl rfl (take_ofW HT_.out HW_.out (by kernel_rfl)) (fun _ _ _ h=>h) (Or.inl ⟨by rfl,?_⟩) hHeld ?_ ?_
          rotate_left
          ·rintro w' ⟨s0,s1,s2,s3,s4,s5,s6,s7,s8,s9,s10,s11,s12,s13,s14,s15⟩
           go_simp
           with_reducible rfl
          rotate_left
          ·simp only [Act.put,List.setIfInBounds_toArray,List.set_cons_zero,List.set_cons_succ,i64_w,i32_w]
           rfl
          refine pure_ (i:=8) (N:=some 49) (v:=?_) (a':=?_) #[true,true,true,true,true,true,true,true,true,false,false,false] rfl rfl (any_of HT_.out (by kernel_rfl)) (fun _ _ _ h=>h) (Or.inl ⟨by rfl,?_⟩) ?_ ?_
          rotate_left
          ·intro w'
           go_simp
           with_reducible rfl
          rotate_left
          ·simp only [Act.put,List.setIfInBounds_toArray,List.set_cons_zero,List.set_cons_succ,i64_w,i32_w]
           rfl
          refine take_ (i:=9) (N:=some 50) (v:=?_) (a':=?_) #[true,true,true,true,true,true,true,true,true,true,false,false] rfl rfl (take_ofW HT_.out HW_.out (by kernel_rfl)) (fun _ _ _ h=>h) (Or.inl ⟨by rfl,?_⟩) hHeld ?_ ?_
          rotate_left
          ·rintro w' ⟨s0,s1,s2,s3,s4,s5,s6,s7,s8,s9,s10,s11,s12,s13,s14,s15⟩
           go_simp
           with_reducible rfl
          rotate_left
          ·simp only [Act.put,List.setIfInBounds_toArray,List.set_cons_zero,List.set_cons_succ,i64_w,i32_w]
           rfl
          refine one_ (i:=10) (N:=some 51) #[true,true,true,true,true,true,true,true,true,true,true,false] rfl rfl (one_of HT_.out (by kernel_rfl)) (by decide) (fun K hK=>?_)
          refine goes_ Try.func35 (by kernel_rfl) rfl #[.agg #[.int .i64 ((rd_TDoc l0_3 x5_2).f0),.int .i64 ((rd_TDoc l0_3 x5_2).f1),.string ((rd_TDoc l0_3 x5_2).f2),.slice A603_3 ((rd_TDoc l0_3 x5_2).f3).length c603_3],.agg #[.int .i64 ((rd_TDoc l1_3 x5_2).f0),.int .i64 ((rd_TDoc l1_3 x5_2).f1),.string ((rd_TDoc l1_3 x5_2).f2),.slice A604_3 ((rd_TDoc l1_3 x5_2).f3).length c604_3]] (by rfl) rfl rfl (by (try simp only [List.map_toArray,List.map_cons,List.map_nil]);first|done|rfl|(simp only [List.length_drop,List.length_take];rfl)) ?_
          with_reducible refine (ih k2 (by have:=HJ2.out;have:=HK2.out;omega) ((rd_TDoc l0_3 x5_2).f0) ((rd_TDoc l0_3 x5_2).f1) ((rd_TDoc l0_3 x5_2).f2) _ _ ((rd_TDoc l0_3 x5_2).f3) ((rd_TDoc l1_3 x5_2).f0) ((rd_TDoc l1_3 x5_2).f1) ((rd_TDoc l1_3 x5_2).f2) _ _ ((rd_TDoc l1_3 x5_2).f3) true _ ?side1 ?side2 ?side3 ?side4 A25.out).mono ?_
          (case side1=>exact gC (Kd.C_below HR603_3.out HB.out))
          (case side2=>exact HC603_3.out)
          (case side3=>exact gC (Kd.C_below HR604_3.out HB.out))
          (case side4=>exact HC604_3.out)
          rintro e w30 ⟨rfl,hb⟩
          refine ⟨_,rfl,?_⟩
          have n0_:=Aside0.mk (blk_below (g:=gb601) (o:=.cells #[.int .i64 a0_0,.int .i64 a0_1,.string a0_2,.slice (some ad603) l0_3.length c0_3] 27 (0,0)) (gK BK601) hb)
          have n1_:=Aside0.mk (blk_below (g:=gb602) (o:=.cells #[.int .i64 a1_0,.int .i64 a1_1,.string a1_2,.slice (some ad604) l1_3.length c1_3] 27 (0,0)) (gK BK602) hb)
          have n2_:=Aside0.mk (below_step (by repeat (first|exact gB HB|refine below_set ?_ GE601.out|refine below_set ?_ GE602.out)) hb)
          clear BK601
          clear BK602
          clear HB
          have BK601:=n0_
          have BK602:=n1_
          have HB:=n2_
          clear n0_ n1_ n2_
          (try clear hb)
          (try clear hb2)
          (try clear hk)
          (try clear hi)
          refine hK.out _ _ ⟨(blk_cell BK601.out 0).trans rfl,(blk_cell BK601.out 1).trans rfl,(blk_cell BK601.out 2).trans rfl,(blk_cell BK601.out 3).trans rfl,(blk_cell BK602.out 0).trans rfl,(blk_cell BK602.out 1).trans rfl,(blk_cell BK602.out 2).trans rfl,(blk_cell BK602.out 3).trans rfl,((HB.out.cell (World.block_lt_of_cell? w _ hw603_0)).trans hw603_0),((HB.out.cell (World.block_lt_of_cell? w _ hw603_1)).trans hw603_1),((HB.out.cell (World.block_lt_of_cell? w _ hw603_2)).trans hw603_2),((HB.out.cell (World.block_lt_of_cell? w _ hw603_3)).trans hw603_3),((HB.out.cell (World.block_lt_of_cell? w _ hw604_0)).trans hw604_0),((HB.out.cell (World.block_lt_of_cell? w _ hw604_1)).trans hw604_1),((HB.out.cell (World.block_lt_of_cell? w _ hw604_2)).trans hw604_2),((HB.out.cell (World.block_lt_of_cell? w _ hw604_3)).trans hw604_3)⟩ (fun hHeld=>?_)
          clear hK K
          refine norm_ (a':=?_) ?_ ?_
          rotate_left
          ·show Act.put _ (some 51) _=_
           simp only [Act.put,List.setIfInBounds_toArray,List.set_cons_zero,List.set_cons_succ,i64_w,i32_w]
           rfl
          refine pure_ (i:=11) (N:=some 52) (v:=?_) (a':=?_) #[true,true,true,true,true,true,true,true,true,true,true,true] rfl rfl (any_of HT_.out (by kernel_rfl)) (fun _ _ _ h=>h) (Or.inl ⟨by rfl,?_⟩) ?_ ?_
          rotate_left
          ·intro w'
           go_simp
           with_reducible rfl
          rotate_left
          ·simp only [Act.put,List.setIfInBounds_toArray,List.set_cons_zero,List.set_cons_succ,i64_w,i32_w]
           rfl
          refine done_ (done_of HT_.out (by kernel_rfl)) ?_
          try go_wp2
          go_roundg k2
          case measure=>have:=HJ2.out;have:=HK2.out;omega
          case rel=>exact ⟨(wrap64 (x5_2+1)),(by first|rfl|(simp;done)|(simp [*];done)),H',⟨by have:=HJ2.out;have:=HK2.out;omega⟩,⟨gK BK601⟩,⟨gK BK602⟩,⟨by repeat (first|exact gB HB|refine below_set ?_ GE601.out|refine below_set ?_ GE602.out)⟩⟩
         ·replace c26:=Bool.eq_false_iff.mpr c26
          subst c26
          have H1:(some false)=some r:=by rw [if_neg (show ¬ (false=true) by decide)] at H;exact H
          clear H
          have H:=H1
          clear H1
          obtain rfl:=Option.some.inj H
          have hnb31:=NB601_602.out
          have hnc31:=NB602_601.out
          have hcz32_0:wr.cell? ⟨gb601,0,none⟩=some (.int .i64 a0_0):=(blk_cell BK601.out 0).trans rfl
          have hcz32_1:wr.cell? ⟨gb601,1,none⟩=some (.int .i64 a0_1):=(blk_cell BK601.out 1).trans rfl
          have hcz32_2:wr.cell? ⟨gb601,2,none⟩=some (.string a0_2):=(blk_cell BK601.out 2).trans rfl
          have hcz32_3:wr.cell? ⟨gb601,3,none⟩=some (.slice A0_3 l0_3.length c0_3):=(blk_cell BK601.out 3).trans rfl
          have hfz32_0:=blk_frozen BK601.out 0
          have hfz32_1:=blk_frozen BK601.out 1
          have hfz32_2:=blk_frozen BK601.out 2
          have hfz32_3:=blk_frozen BK601.out 3
          try go_wp2
          have n0_:=Aside0.mk (blk_drew BK601.out)
          have n1_:=Aside0.mk (blk_drew BK602.out)
          have n2_:=Aside0.mk (below_drew1 HB.out)
          clear BK601
          clear BK602
          clear HB
          have BK601:=n0_
          have BK602:=n1_
          have HB:=n2_
          clear n0_ n1_ n2_
          have p603:0≤(x5_2:Int):=of_decide_eq_true (by first|(with_reducible assumption)|assumption)
          have q603:x5_2 < (l0_3.length:Int):=of_decide_eq_true (by first|(with_reducible assumption)|assumption)
          (try clear hx603_0);(try clear hx603_1);(try clear hx603_2);(try clear hx603_3)
          obtain ⟨ad603,A603_3,c603_3,e603,hx603_0,hx603_1,hx603_2,hx603_3,hl603_3,hi603_3⟩:=at_TDoc HR0_3.out x5_2 p603 q603
          (try (have ea_:=Option.some.inj (hx603_3.symm.trans hw603_3);injection ea_ with ea_ en_ ec_;subst ea_;subst ec_;clear en_))
          have hw603_3:=hx603_3
          have hw603_2:=hx603_2
          have hw603_1:=hx603_1
          have hw603_0:=hx603_0
          cases e603
          replace hx603_0:=(HB.out.cell (World.block_lt_of_cell? w _ hx603_0)).trans hx603_0
          replace hx603_1:=(HB.out.cell (World.block_lt_of_cell? w _ hx603_1)).trans hx603_1
          replace hx603_2:=(HB.out.cell (World.block_lt_of_cell? w _ hx603_2)).trans hx603_2
          replace hx603_3:=(HB.out.cell (World.block_lt_of_cell? w _ hx603_3)).trans hx603_3
          have HR603_3:=Aside0.mk hi603_3
          have HC603_3:=Aside0.mk hl603_3
          clear hi603_3 hl603_3
          replace p603:=eq_true p603
          replace q603:=eq_true q603
          have p604:0≤(x5_2:Int):=of_decide_eq_true (by first|(with_reducible assumption)|assumption)
          have q604:x5_2 < (l1_3.length:Int):=of_decide_eq_true (by first|(with_reducible assumption)|assumption)
          (try clear hx604_0);(try clear hx604_1);(try clear hx604_2);(try clear hx604_3)
          obtain ⟨ad604,A604_3,c604_3,e604,hx604_0,hx604_1,hx604_2,hx604_3,hl604_3,hi604_3⟩:=at_TDoc HR1_3.out x5_2 p604 q604
          (try (have ea_:=Option.some.inj (hx604_3.symm.trans hw604_3);injection ea_ with ea_ en_ ec_;subst ea_;subst ec_;clear en_))
          have hw604_3:=hx604_3
          have hw604_2:=hx604_2
          have hw604_1:=hx604_1
          have hw604_0:=hx604_0
          cases e604
          replace hx604_0:=(HB.out.cell (World.block_lt_of_cell? w _ hx604_0)).trans hx604_0
          replace hx604_1:=(HB.out.cell (World.block_lt_of_cell? w _ hx604_1)).trans hx604_1
          replace hx604_2:=(HB.out.cell (World.block_lt_of_cell? w _ hx604_2)).trans hx604_2
          replace hx604_3:=(HB.out.cell (World.block_lt_of_cell? w _ hx604_3)).trans hx604_3
          have HR604_3:=Aside0.mk hi604_3
          have HC604_3:=Aside0.mk hl604_3
          clear hi604_3 hl604_3
          replace p604:=eq_true p604
          replace q604:=eq_true q604
          refine start_ (n:=12) (S:=fun w'=>w'.cell? ⟨gb601,0,none⟩=some (.int .i64 a0_0)∧w'.cell? ⟨gb601,1,none⟩=some (.int .i64 a0_1)∧w'.cell? ⟨gb601,2,none⟩=some (.string a0_2)∧w'.cell? ⟨gb601,3,none⟩=some (.slice (some ad603) l0_3.length c0_3)∧w'.cell? ⟨gb602,0,none⟩=some (.int .i64 a1_0)∧w'.cell? ⟨gb602,1,none⟩=some (.int .i64 a1_1)∧w'.cell? ⟨gb602,2,none⟩=some (.string a1_2)∧w'.cell? ⟨gb602,3,none⟩=some (.slice (some ad604) l1_3.length c1_3)∧w'.cell? (ad603.add ((x5_2).toNat * 4))=some (.int .i64 ((rd_TDoc l0_3 x5_2).f0))∧w'.cell? ⟨(ad603.add ((x5_2).toNat * 4)).block,(ad603.add ((x5_2).toNat * 4)).off+1,none⟩=some (.int .i64 ((rd_TDoc l0_3 x5_2).f1))∧w'.cell? ⟨(ad603.add ((x5_2).toNat * 4)).block,(ad603.add ((x5_2).toNat * 4)).off+2,none⟩=some (.string ((rd_TDoc l0_3 x5_2).f2))∧w'.cell? ⟨(ad603.add ((x5_2).toNat * 4)).block,(ad603.add ((x5_2).toNat * 4)).off+3,none⟩=some (.slice A603_3 ((rd_TDoc l0_3 x5_2).f3).length c603_3)∧w'.cell? (ad604.add ((x5_2).toNat * 4))=some (.int .i64 ((rd_TDoc l1_3 x5_2).f0))∧w'.cell? ⟨(ad604.add ((x5_2).toNat * 4)).block,(ad604.add ((x5_2).toNat * 4)).off+1,none⟩=some (.int .i64 ((rd_TDoc l1_3 x5_2).f1))∧w'.cell? ⟨(ad604.add ((x5_2).toNat * 4)).block,(ad604.add ((x5_2).toNat * 4)).off+2,none⟩=some (.string ((rd_TDoc l1_3 x5_2).f2))∧w'.cell? ⟨(ad604.add ((x5_2).toNat * 4)).block,(ad604.add ((x5_2).toNat * 4)).off+3,none⟩=some (.slice A604_3 ((rd_TDoc l1_3 x5_2).f3).length c604_3)) (ds:=[]) #[false,false,false,false,false,false,false,false,false,false,false,false] (by kernel_rfl) rfl rfl ⟨(blk_cell BK601.out 0).trans rfl,(blk_cell BK601.out 1).trans rfl,(blk_cell BK601.out 2).trans rfl,(blk_cell BK601.out 3).trans rfl,(blk_cell BK602.out 0).trans rfl,(blk_cell BK602.out 1).trans rfl,(blk_cell BK602.out 2).trans rfl,(blk_cell BK602.out 3).trans rfl,((HB.out.cell (World.block_lt_of_cell? w _ hw603_0)).trans hw603_0),((HB.out.cell (World.block_lt_of_cell? w _ hw603_1)).trans hw603_1),((HB.out.cell (World.block_lt_of_cell? w _ hw603_2)).trans hw603_2),((HB.out.cell (World.block_lt_of_cell? w _ hw603_3)).trans hw603_3),((HB.out.cell (World.block_lt_of_cell? w _ hw604_0)).trans hw604_0),((HB.out.cell (World.block_lt_of_cell? w _ hw604_1)).trans hw604_1),((HB.out.cell (World.block_lt_of_cell? w _ hw604_2)).trans hw604_2),((HB.out.cell (World.block_lt_of_cell? w _ hw604_3)).trans hw604_3)⟩ (fun hHeld=>?_);refine with_tabW spec_DocSame.tab6 spec_DocSame.bits6 (fun HT_ HW_=>?_)
          generalize wr.drew=w33 at BK601 BK602 HB HR603_3 HR604_3 hx603_0 hx603_1 hx603_2 hx603_3 hx604_0 hx604_1 hx604_2 hx604_3 hHeld ⊢
          refine pure_ (i:=0) (N:=some 41) (v:=?_) (a':=?_) #[true,false,false,false,false,false,false,false,false,false,false,false] rfl rfl (any_of HT_.out (by kernel_rfl)) (fun _ _ _ h=>h) (Or.inl ⟨by rfl,?_⟩) ?_ ?_
          rotate_left
          ·intro w'
           go_simp
           with_reducible rfl
          rotate_left
          ·simp only [Act.put,List.setIfInBounds_toArray,List.set_cons_zero,List.set_cons_succ,i64_w,i32_w]
           rfl
          refine pure_ (i:=2) (N:=some 43) (v:=?_) (a':=?_) #[true,false,true,false,false,false,false,false,false,false,false,false] rfl rfl (any_of HT_.out (by kernel_rfl)) (fun _ _ _ h=>h) (Or.inl ⟨by rfl,?_⟩) ?_ ?_
          rotate_left
          ·intro w'
           go_simp
           with_reducible rfl
          rotate_left
          ·simp only [Act.put,List.setIfInBounds_toArray,List.set_cons_zero,List.set_cons_succ,i64_w,i32_w]
           rfl
          refine pure_ (i:=5) (N:=some 46) (v:=?_) (a':=?_) #[true,false,true,false,false,true,false,false,false,false,false,false] rfl rfl (any_of HT_.out (by kernel_rfl)) (fun _ _ _ h=>h) (Or.inl ⟨by rfl,?_⟩) ?_ ?_
          rotate_left
          ·intro w'
           go_simp
           with_reducible rfl
          rotate_left
          ·simp only [Act.put,List.setIfInBounds_toArray,List.set_cons_zero,List.set_cons_succ,i64_w,i32_w]
           rfl
          refine pure_ (i:=7) (N:=some 48) (v:=?_) (a':=?_) #[true,false,true,false,false,true,false,true,false,false,false,false] rfl rfl (any_of HT_.out (by kernel_rfl)) (fun _ _ _ h=>h) (Or.inl ⟨by rfl,?_⟩) ?_ ?_
          rotate_left
          ·intro w'
           go_simp
           with_reducible rfl
          rotate_left
          ·simp only [Act.put,List.setIfInBounds_toArray,List.set_cons_zero,List.set_cons_succ,i64_w,i32_w]
           rfl
          refine take_ (i:=1) (N:=some 42) (v:=?_) (a':=?_) #[true,true,true,false,false,true,false,true,false,false,false,false] rfl rfl (take_ofW HT_.out HW_.out (by kernel_rfl)) (fun _ _ _ h=>h) (Or.inl ⟨by rfl,?_⟩) hHeld ?_ ?_
          rotate_left
          ·rintro w' ⟨s0,s1,s2,s3,s4,s5,s6,s7,s8,s9,s10,s11,s12,s13,s14,s15⟩
           go_simp
           with_reducible rfl
          rotate_left
          ·simp only [Act.put,List.setIfInBounds_toArray,List.set_cons_zero,List.set_cons_succ,i64_w,i32_w]
           rfl
          refine pure_ (i:=3) (N:=some 44) (v:=?_) (a':=?_) #[true,true,true,true,false,true,false,true,false,false,false,false] rfl rfl (any_of HT_.out (by kernel_rfl)) (fun _ _ _ h=>h) (Or.inl ⟨by rfl,?_⟩) ?_ ?_
          rotate_left
          ·intro w'
           go_simp
           with_reducible rfl
          rotate_left
          ·simp only [Act.put,List.setIfInBounds_toArray,List.set_cons_zero,List.set_cons_succ,i64_w,i32_w]
           rfl
          refine take_ (i:=4) (N:=some 45) (v:=?_) (a':=?_) #[true,true,true,true,true,true,false,true,false,false,false,false] rfl rfl (take_ofW HT_.out HW_.out (by kernel_rfl)) (fun _ _ _ h=>h) (Or.inl ⟨by rfl,?_⟩) hHeld ?_ ?_
          rotate_left
          ·rintro w' ⟨s0,s1,s2,s3,s4,s5,s6,s7,s8,s9,s10,s11,s12,s13,s14,s15⟩
           go_simp
           with_reducible rfl
          rotate_left
          ·simp only [Act.put,List.setIfInBounds_toArray,List.set_cons_zero,List.set_cons_succ,i64_w,i32_w]
           rfl
          refine take_ (i:=6) (N:=some 47) (v:=?_) (a':=?_) #[true,true,true,true,true,true,true,true,false,false,false,false] rfl rfl (take_ofW HT_.out HW_.out (by kernel_rfl)) (fun _ _ _ h=>h) (Or.inl ⟨by rfl,?_⟩) hHeld ?_ ?_
          rotate_left
          ·rintro w' ⟨s0,s1,s2,s3,s4,s5,s6,s7,s8,s9,s10,s11,s12,s13,s14,s15⟩
           go_simp
           with_reducible rfl
          rotate_left
          ·simp only [Act.put,List.setIfInBounds_toArray,List.set_cons_zero,List.set_cons_succ,i64_w,i32_w]
           rfl
          refine pure_ (i:=8) (N:=some 49) (v:=?_) (a':=?_) #[true,true,true,true,true,true,true,true,true,false,false,false] rfl rfl (any_of HT_.out (by kernel_rfl)) (fun _ _ _ h=>h) (Or.inl ⟨by rfl,?_⟩) ?_ ?_
          rotate_left
          ·intro w'
           go_simp
           with_reducible rfl
          rotate_left
          ·simp only [Act.put,List.setIfInBounds_toArray,List.set_cons_zero,List.set_cons_succ,i64_w,i32_w]
           rfl
          refine take_ (i:=9) (N:=some 50) (v:=?_) (a':=?_) #[true,true,true,true,true,true,true,true,true,true,false,false] rfl rfl (take_ofW HT_.out HW_.out (by kernel_rfl)) (fun _ _ _ h=>h) (Or.inl ⟨by rfl,?_⟩) hHeld ?_ ?_
          rotate_left
          ·rintro w' ⟨s0,s1,s2,s3,s4,s5,s6,s7,s8,s9,s10,s11,s12,s13,s14,s15⟩
           go_simp
           with_reducible rfl
          rotate_left
          ·simp only [Act.put,List.setIfInBounds_toArray,List.set_cons_zero,List.set_cons_succ,i64_w,i32_w]
           rfl
          refine one_ (i:=10) (N:=some 51) #[true,true,true,true,true,true,true,true,true,true,true,false] rfl rfl (one_of HT_.out (by kernel_rfl)) (by decide) (fun K hK=>?_)
          refine goes_ Try.func35 (by kernel_rfl) rfl #[.agg #[.int .i64 ((rd_TDoc l0_3 x5_2).f0),.int .i64 ((rd_TDoc l0_3 x5_2).f1),.string ((rd_TDoc l0_3 x5_2).f2),.slice A603_3 ((rd_TDoc l0_3 x5_2).f3).length c603_3],.agg #[.int .i64 ((rd_TDoc l1_3 x5_2).f0),.int .i64 ((rd_TDoc l1_3 x5_2).f1),.string ((rd_TDoc l1_3 x5_2).f2),.slice A604_3 ((rd_TDoc l1_3 x5_2).f3).length c604_3]] (by rfl) rfl rfl (by (try simp only [List.map_toArray,List.map_cons,List.map_nil]);first|done|rfl|(simp only [List.length_drop,List.length_take];rfl)) ?_
          with_reducible refine (ih k2 (by have:=HJ2.out;have:=HK2.out;omega) ((rd_TDoc l0_3 x5_2).f0) ((rd_TDoc l0_3 x5_2).f1) ((rd_TDoc l0_3 x5_2).f2) _ _ ((rd_TDoc l0_3 x5_2).f3) ((rd_TDoc l1_3 x5_2).f0) ((rd_TDoc l1_3 x5_2).f1) ((rd_TDoc l1_3 x5_2).f2) _ _ ((rd_TDoc l1_3 x5_2).f3) false _ ?side1 ?side2 ?side3 ?side4 A25.out).mono ?_
          (case side1=>exact gC (Kd.C_below HR603_3.out HB.out))
          (case side2=>exact HC603_3.out)
          (case side3=>exact gC (Kd.C_below HR604_3.out HB.out))
          (case side4=>exact HC604_3.out)
          rintro e w34 ⟨rfl,hb⟩
          refine ⟨_,rfl,?_⟩
          have n0_:=Aside0.mk (blk_below (g:=gb601) (o:=.cells #[.int .i64 a0_0,.int .i64 a0_1,.string a0_2,.slice (some ad603) l0_3.length c0_3] 27 (0,0)) (gK BK601) hb)
          have n1_:=Aside0.mk (blk_below (g:=gb602) (o:=.cells #[.int .i64 a1_0,.int .i64 a1_1,.string a1_2,.slice (some ad604) l1_3.length c1_3] 27 (0,0)) (gK BK602) hb)
          have n2_:=Aside0.mk (below_step (by repeat (first|exact gB HB|refine below_set ?_ GE601.out|refine below_set ?_ GE602.out)) hb)
          clear BK601
          clear BK602
          clear HB
          have BK601:=n0_
          have BK602:=n1_
          have HB:=n2_
          clear n0_ n1_ n2_
          (try clear hb)
          (try clear hb2)
          (try clear hk)
          (try clear hi)
          refine hK.out _ _ ⟨(blk_cell BK601.out 0).trans rfl,(blk_cell BK601.out 1).trans rfl,(blk_cell BK601.out 2).trans rfl,(blk_cell BK601.out 3).trans rfl,(blk_cell BK602.out 0).trans rfl,(blk_cell BK602.out 1).trans rfl,(blk_cell BK602.out 2).trans rfl,(blk_cell BK602.out 3).trans rfl,((HB.out.cell (World.block_lt_of_cell? w _ hw603_0)).trans hw603_0),((HB.out.cell (World.block_lt_of_cell? w _ hw603_1)).trans hw603_1),((HB.out.cell (World.block_lt_of_cell? w _ hw603_2)).trans hw603_2),((HB.out.cell (World.block_lt_of_cell? w _ hw603_3)).trans hw603_3),((HB.out.cell (World.block_lt_of_cell? w _ hw604_0)).trans hw604_0),((HB.out.cell (World.block_lt_of_cell? w _ hw604_1)).trans hw604_1),((HB.out.cell (World.block_lt_of_cell? w _ hw604_2)).trans hw604_2),((HB.out.cell (World.block_lt_of_cell? w _ hw604_3)).trans hw604_3)⟩ (fun hHeld=>?_)
          clear hK K
          refine norm_ (a':=?_) ?_ ?_
          rotate_left
          ·show Act.put _ (some 51) _=_
           simp only [Act.put,List.setIfInBounds_toArray,List.set_cons_zero,List.set_cons_succ,i64_w,i32_w]
           rfl
          refine pure_ (i:=11) (N:=some 52) (v:=?_) (a':=?_) #[true,true,true,true,true,true,true,true,true,true,true,true] rfl rfl (any_of HT_.out (by kernel_rfl)) (fun _ _ _ h=>h) (Or.inl ⟨by rfl,?_⟩) ?_ ?_
          rotate_left
          ·intro w'
           go_simp
           with_reducible rfl
          rotate_left
          ·simp only [Act.put,List.setIfInBounds_toArray,List.set_cons_zero,List.set_cons_succ,i64_w,i32_w]
           rfl
          refine done_ (done_of HT_.out (by kernel_rfl)) ?_
          try go_wp2
          go_ret
          exact ⟨by first|rfl|(simp [errW_none,errW_some] <;> rfl)|(simp [*,errW_none,errW_some] <;> rfl),by repeat (first|exact gB HB|refine below_set ?_ GE601.out|refine below_set ?_ GE602.out)⟩
        ·rw [if_neg c24] at H
         exact absurd H (by simp)
       ·rw [if_neg c23] at H
        exact absurd H (by simp)
      ·rw [if_neg c22] at H
       have c22b0:decide (x5_2 < (l0_3.length:Int))=false:=decide_eq_false c22
       clear c22
       obtain rfl:=Option.some.inj H
       have hnb35:=NB601_602.out
       have hnc35:=NB602_601.out
       have hcz36_0:wr.cell? ⟨gb601,0,none⟩=some (.int .i64 a0_0):=(blk_cell BK601.out 0).trans rfl
       have hcz36_1:wr.cell? ⟨gb601,1,none⟩=some (.int .i64 a0_1):=(blk_cell BK601.out 1).trans rfl
       have hcz36_2:wr.cell? ⟨gb601,2,none⟩=some (.string a0_2):=(blk_cell BK601.out 2).trans rfl
       have hcz36_3:wr.cell? ⟨gb601,3,none⟩=some (.slice A0_3 l0_3.length c0_3):=(blk_cell BK601.out 3).trans rfl
       have hfz36_0:=blk_frozen BK601.out 0
       have hfz36_1:=blk_frozen BK601.out 1
       have hfz36_2:=blk_frozen BK601.out 2
       have hfz36_3:=blk_frozen BK601.out 3
       go_wp2
       go_ret
       exact ⟨by first|rfl|(simp [errW_none,errW_some] <;> rfl)|(simp [*,errW_none,errW_some] <;> rfl),by repeat (first|exact gB HB|refine below_set ?_ GE601.out|refine below_set ?_ GE602.out)⟩
end Go.Proofs.Ytdhdfmmefghijaa.P
namespace Go.Proofs.Ytdhdfmmefghijaa.P
open Go.RowKit Go.Proofs.YtdhdfmmefghijaaW.PrintWords Go.Proofs.YtdhdfmmefghijaaW.PrintLast Go.Proofs.YtdhdfmmefghijaaW.PrintMore
attribute [local go_sem] max2_int min2_int max_two min_two max_three min_three max_four min_four
set_option linter.unusedVariables false
set_option linter.unusedSimpArgs false
def impl_formatDoc.f:Nat→Int→Int→ByteArray→List (SDoc)→Option (ByteArray)
 | 0,_,_,_,_=>none
 | k+1,a0_0,a0_1,a0_2,l0_3=>if a0_0=1 then (some (⟨#[126]⟩:ByteArray)) else (if a0_0=2 then (if 1+a0_2.size≤9223372036854775807 then (if ((⟨#[34]⟩:ByteArray)++a0_2).size+1≤9223372036854775807 then (some (((⟨#[34]⟩:ByteArray)++a0_2)++(⟨#[34]⟩:ByteArray))) else (none)) else (none)) else (if a0_0=3 then (some (⟨#[95]⟩:ByteArray)) else (if a0_0=4 then (some (⟨#[46]⟩:ByteArray)) else (if a0_0=5 then (some (⟨#[33]⟩:ByteArray)) else (if a0_0=6 then ((some (([(wrap64 (48+a0_1)) % 256]:List Int):List Int)).bind fun y607=>(if (strOfNums y607).size+1≤9223372036854775807 then (if 0 < (l0_3.length:Int) then ((impl_formatDoc.f k ((rd_TDoc l0_3 0).f0) ((rd_TDoc l0_3 0).f1) ((rd_TDoc l0_3 0).f2) ((rd_TDoc l0_3 0).f3)).bind fun t611=>(if ((strOfNums y607)++(⟨#[60]⟩:ByteArray)).size+t611.size≤9223372036854775807 then (if (((strOfNums y607)++(⟨#[60]⟩:ByteArray))++t611).size+1≤9223372036854775807 then (some ((((strOfNums y607)++(⟨#[60]⟩:ByteArray))++t611)++(⟨#[62]⟩:ByteArray))) else (none)) else (none))) else (none)) else (none))) else (if a0_0=7 then (if 0 < (l0_3.length:Int) then ((impl_formatDoc.f k ((rd_TDoc l0_3 0).f0) ((rd_TDoc l0_3 0).f1) ((rd_TDoc l0_3 0).f2) ((rd_TDoc l0_3 0).f3)).bind fun t613=>(if 1+t613.size≤9223372036854775807 then (if 1 < (l0_3.length:Int) then ((impl_formatDoc.f k ((rd_TDoc l0_3 1).f0) ((rd_TDoc l0_3 1).f1) ((rd_TDoc l0_3 1).f2) ((rd_TDoc l0_3 1).f3)).bind fun t615=>(if ((⟨#[40]⟩:ByteArray)++t613).size+t615.size≤9223372036854775807 then (if (((⟨#[40]⟩:ByteArray)++t613)++t615).size+1≤9223372036854775807 then (some ((((⟨#[40]⟩:ByteArray)++t613)++t615)++(⟨#[41]⟩:ByteArray))) else (none)) else (none))) else (none)) else (none))) else (none)) else (if 0 < (l0_3.length:Int) then ((impl_formatDoc.f k ((rd_TDoc l0_3 0).f0) ((rd_TDoc l0_3 0).f1) ((rd_TDoc l0_3 0).f2) ((rd_TDoc l0_3 0).f3)).bind fun t617=>(if 1+t617.size≤9223372036854775807 then (if ((⟨#[91]⟩:ByteArray)++t617).size+1≤9223372036854775807 then (some (((⟨#[91]⟩:ByteArray)++t617)++(⟨#[93]⟩:ByteArray))) else (none)) else (none))) else (none))))))))
def impl_formatDoc.T13:Bool × List (List Nat × List Nat):=(true,[([],[]),([0],[0]),([1],[1]),([2],[2]),([3],[3]),([4],[4]),([5],[5]),([],[]),([7],[7]),([8],[8]),([9],[9]),([10],[10]),([6,11],[6,11]),([12],[12]),([13,11,0,1,2,3,4,5,6,7,8,9,10,11,12,13],[13])])
def impl_formatDoc.B13:List Nat:=[0,1,3,7,15,31,63,0,128,384,896,1920,4095,8191,16383]
theorem impl_formatDoc.tab13:rtab .any (opsOf Try.f60 13)=impl_formatDoc.T13:=by kernel_rfl
theorem impl_formatDoc.bits13:waitsOk impl_formatDoc.T13.2 impl_formatDoc.B13=true:=by kernel_rfl
def impl_formatDoc.T15:Bool × List (List Nat × List Nat):=(true,[([],[]),([0],[0]),([1],[1]),([2],[2]),([3],[3]),([4],[4]),([],[]),([6],[6]),([7],[7]),([8],[8]),([9,4],[9]),([5,10],[5,10]),([11],[11]),([12,10,0,1,2,3,4,5,6,7,8,9,10,11,12],[12])])
def impl_formatDoc.B15:List Nat:=[0,1,3,7,15,31,0,64,192,448,991,2047,4095,8191]
theorem impl_formatDoc.tab15:rtab .any (opsOf Try.f60 15)=impl_formatDoc.T15:=by kernel_rfl
theorem impl_formatDoc.bits15:waitsOk impl_formatDoc.T15.2 impl_formatDoc.B15=true:=by kernel_rfl
set_option maxHeartbeats 8000000 in
set_option maxRecDepth 100000 in
theorem impl_formatDoc.calls (k:Nat):∀ (a0_0:Int) (a0_1:Int) (a0_2:ByteArray) (A0_3:Option Addr) (c0_3:Nat) (l0_3:List (SDoc)) (r:ByteArray) (w:World) (hr0_3:Kd.C k27 w A0_3 l0_3.length l0_3) (hc0_3:l0_3.length≤c0_3) (h:impl_formatDoc.f k a0_0 a0_1 a0_2 l0_3=some r),
  Calls Try.prog 60 #[.agg #[.int .i64 a0_0,.int .i64 a0_1,.string a0_2,.slice A0_3 l0_3.length c0_3]] w fun e w'=>e=.returned (.string r)∧Below w.heap.size w w':=by
 induction k using Nat.strongRecOn with
 | _ k ih =>
 intro a0_0 a0_1 a0_2 A0_3 c0_3 l0_3 r w hr0_3 hc0_3 h
 cases k with
 | zero=>exact absurd h (by simp [impl_formatDoc.f])
 | succ k =>
 simp only [impl_formatDoc.f] at h
 have hu27:=Try.underlying27
 have HR0_3:=Aside0.mk hr0_3
 have HC0_3:=Aside0.mk hc0_3
 clear hr0_3 hc0_3
 have HB:=Aside0.mk (Below.refl w.heap.size w)
 have H:(if a0_0=1 then (some (⟨#[126]⟩:ByteArray)) else (if a0_0=2 then (if 1+a0_2.size≤9223372036854775807 then (if ((⟨#[34]⟩:ByteArray)++a0_2).size+1≤9223372036854775807 then (some (((⟨#[34]⟩:ByteArray)++a0_2)++(⟨#[34]⟩:ByteArray))) else (none)) else (none)) else (if a0_0=3 then (some (⟨#[95]⟩:ByteArray)) else (if a0_0=4 then (some (⟨#[46]⟩:ByteArray)) else (if a0_0=5 then (some (⟨#[33]⟩:ByteArray)) else (if a0_0=6 then ((some (([(wrap64 (48+a0_1)) % 256]:List Int):List Int)).bind fun y607=>(if (strOfNums y607).size+1≤9223372036854775807 then (if 0 < (l0_3.length:Int) then ((impl_formatDoc.f k ((rd_TDoc l0_3 0).f0) ((rd_TDoc l0_3 0).f1) ((rd_TDoc l0_3 0).f2) ((rd_TDoc l0_3 0).f3)).bind fun t611=>(if ((strOfNums y607)++(⟨#[60]⟩:ByteArray)).size+t611.size≤9223372036854775807 then (if (((strOfNums y607)++(⟨#[60]⟩:ByteArray))++t611).size+1≤9223372036854775807 then (some ((((strOfNums y607)++(⟨#[60]⟩:ByteArray))++t611)++(⟨#[62]⟩:ByteArray))) else (none)) else (none))) else (none)) else (none))) else (if a0_0=7 then (if 0 < (l0_3.length:Int) then ((impl_formatDoc.f k ((rd_TDoc l0_3 0).f0) ((rd_TDoc l0_3 0).f1) ((rd_TDoc l0_3 0).f2) ((rd_TDoc l0_3 0).f3)).bind fun t613=>(if 1+t613.size≤9223372036854775807 then (if 1 < (l0_3.length:Int) then ((impl_formatDoc.f k ((rd_TDoc l0_3 1).f0) ((rd_TDoc l0_3 1).f1) ((rd_TDoc l0_3 1).f2) ((rd_TDoc l0_3 1).f3)).bind fun t615=>(if ((⟨#[40]⟩:ByteArray)++t613).size+t615.size≤9223372036854775807 then (if (((⟨#[40]⟩:ByteArray)++t613)++t615).size+1≤9223372036854775807 then (some ((((⟨#[40]⟩:ByteArray)++t613)++t615)++(⟨#[41]⟩:ByteArray))) else (none)) else (none))) else (none)) else (none))) else (none)) else (if 0 < (l0_3.length:Int) then ((impl_formatDoc.f k ((rd_TDoc l0_3 0).f0) ((rd_TDoc l0_3 0).f1) ((rd_TDoc l0_3 0).f2) ((rd_TDoc l0_3 0).f3)).bind fun t617=>(if 1+t617.size≤9223372036854775807 then (if ((⟨#[91]⟩:ByteArray)++t617).size+1≤9223372036854775807 then (some (((⟨#[91]⟩:ByteArray)++t617)++(⟨#[93]⟩:ByteArray))) else (none)) else (none))) else (none)))))))))=some r:=h
 clear h
 by_cases c2:a0_0=1
 ·rw [if_pos c2] at H
  have c2b0:(a0_0 == 1)=true:=beq_iff_eq.mpr c2
  have c2b1:(a0_0 != 1)=false:=bne_eq_false_iff_eq.mpr c2
  clear c2
  obtain rfl:=Option.some.inj H
  go_enter Try.func60,Try.ntmps60
  go_wp2_with (first|((with_reducible refine gate_dst (N:=1) rfl ?_);refine box_event ?hg (N:=1) ?hd (cs:=#[.int .i64 a0_0,.int .i64 a0_1,.string a0_2,.slice A0_3 l0_3.length c0_3]) (t:=27) ?hr ?_;(case hd=>rfl);(case hg=>rfl);(case hr=>first|(go_simp;done)|(go_simp;rfl));intro gb606 hg w3 hbox hb;have n0_:=Aside0.mk (below_step (gB HB) hb);have n1_:=Aside0.mk (hbox);have n2_:=Aside0.mk ((by rw [hg];exact (below_size (gB HB)):w.heap.size≤gb606));have n3_:=Aside0.mk ((by rw [hg];exact (below_size (gB HB)):w.heap.size≤gb606));clear HB;have HB:=n0_;have BK606:=n1_;have GW606:=n2_;have GE606:=n3_;clear n0_ n1_ n2_ n3_;clear hb hbox hg;have hcz4_0:w3.cell? ⟨gb606,0,none⟩=some (.int .i64 a0_0):=(blk_cell BK606.out 0).trans rfl;have hcz4_1:w3.cell? ⟨gb606,1,none⟩=some (.int .i64 a0_1):=(blk_cell BK606.out 1).trans rfl;have hcz4_2:w3.cell? ⟨gb606,2,none⟩=some (.string a0_2):=(blk_cell BK606.out 2).trans rfl;have hcz4_3:w3.cell? ⟨gb606,3,none⟩=some (.slice A0_3 l0_3.length c0_3):=(blk_cell BK606.out 3).trans rfl;have hfz4_0:=blk_frozen BK606.out 0;have hfz4_1:=blk_frozen BK606.out 1;have hfz4_2:=blk_frozen BK606.out 2;have hfz4_3:=blk_frozen BK606.out 3))
  go_ret
  exact ⟨by first|rfl|(simp [errW_none,errW_some] <;> rfl)|(simp [*,errW_none,errW_some] <;> rfl),by repeat (first|exact gB HB|refine below_set ?_ GE606.out)⟩
 ·rw [if_neg c2] at H
  have c2b0:(a0_0 == 1)=false:=beq_eq_false_iff_ne.mpr c2
  have c2b1:(a0_0 != 1)=true:=bne_iff_ne.mpr c2
  by_cases c5:a0_0=2
  ·rw [if_pos c5] at H
   have c5b0:(a0_0 == 2)=true:=beq_iff_eq.mpr c5
   have c5b1:(a0_0 != 2)=false:=bne_eq_false_iff_eq.mpr c5
   clear c5
   by_cases c6:1+a0_2.size≤9223372036854775807
   ·rw [if_pos c6] at H
    have c6b0:=eq_true c6
    have c6b1:decide (1+a0_2.size≤9223372036854775807)=true:=decide_eq_true c6
    try have c6b2:(9223372036854775807 < 1+a0_2.size)=False:=eq_false (Nat.not_lt.2 c6)
    by_cases c7:((⟨#[34]⟩:ByteArray)++a0_2).size+1≤9223372036854775807
    ·rw [if_pos c7] at H
     have c7b0:=eq_true c7
     have c7b1:decide (((⟨#[34]⟩:ByteArray)++a0_2).size+1≤9223372036854775807)=true:=decide_eq_true c7
     try (have c7b4:=c7;(conv at c7b4=>(lhs;simp));have c7b5:=eq_false (Nat.not_lt.2 c7b4))
     try (have c7b6:=c7;(conv at c7b6=>(lhs;simp [go_sem]));have c7b7:=eq_false (Nat.not_lt.2 c7b6))
     try have c7b2:(9223372036854775807 < ((⟨#[34]⟩:ByteArray)++a0_2).size+1)=False:=eq_false (Nat.not_lt.2 c7)
     obtain rfl:=Option.some.inj H
     go_enter Try.func60,Try.ntmps60
     go_wp2_with (first|((with_reducible refine gate_dst (N:=1) rfl ?_);refine box_event ?hg (N:=1) ?hd (cs:=#[.int .i64 a0_0,.int .i64 a0_1,.string a0_2,.slice A0_3 l0_3.length c0_3]) (t:=27) ?hr ?_;(case hd=>rfl);(case hg=>rfl);(case hr=>first|(go_simp;done)|(go_simp;rfl));intro gb606 hg w8 hbox hb;have n0_:=Aside0.mk (below_step (gB HB) hb);have n1_:=Aside0.mk (hbox);have n2_:=Aside0.mk ((by rw [hg];exact (below_size (gB HB)):w.heap.size≤gb606));have n3_:=Aside0.mk ((by rw [hg];exact (below_size (gB HB)):w.heap.size≤gb606));clear HB;have HB:=n0_;have BK606:=n1_;have GW606:=n2_;have GE606:=n3_;clear n0_ n1_ n2_ n3_;clear hb hbox hg;have hcz9_0:w8.cell? ⟨gb606,0,none⟩=some (.int .i64 a0_0):=(blk_cell BK606.out 0).trans rfl;have hcz9_1:w8.cell? ⟨gb606,1,none⟩=some (.int .i64 a0_1):=(blk_cell BK606.out 1).trans rfl;have hcz9_2:w8.cell? ⟨gb606,2,none⟩=some (.string a0_2):=(blk_cell BK606.out 2).trans rfl;have hcz9_3:w8.cell? ⟨gb606,3,none⟩=some (.slice A0_3 l0_3.length c0_3):=(blk_cell BK606.out 3).trans rfl;have hfz9_0:=blk_frozen BK606.out 0;have hfz9_1:=blk_frozen BK606.out 1;have hfz9_2:=blk_frozen BK606.out 2;have hfz9_3:=blk_frozen BK606.out 3))
     go_ret
     exact ⟨by first|rfl|(simp [errW_none,errW_some] <;> rfl)|(simp [*,errW_none,errW_some] <;> rfl),by repeat (first|exact gB HB|refine below_set ?_ GE606.out)⟩
    ·rw [if_neg c7] at H
     exact absurd H (by simp)
   ·rw [if_neg c6] at H
    exact absurd H (by simp)
  ·rw [if_neg c5] at H
   have c5b0:(a0_0 == 2)=false:=beq_eq_false_iff_ne.mpr c5
   have c5b1:(a0_0 != 2)=true:=bne_iff_ne.mpr c5
   by_cases c10:a0_0=3
   ·rw [if_pos c10] at H
    have c10b0:(a0_0 == 3)=true:=beq_iff_eq.mpr c10
    have c10b1:(a0_0 != 3)=false:=bne_eq_false_iff_eq.mpr c10
    clear c10
    obtain rfl:=Option.some.inj H
    go_enter Try.func60,Try.ntmps60
    go_wp2_with (first|((with_reducible refine gate_dst (N:=1) rfl ?_);refine box_event ?hg (N:=1) ?hd (cs:=#[.int .i64 a0_0,.int .i64 a0_1,.string a0_2,.slice A0_3 l0_3.length c0_3]) (t:=27) ?hr ?_;(case hd=>rfl);(case hg=>rfl);(case hr=>first|(go_simp;done)|(go_simp;rfl));intro gb606 hg w11 hbox hb;have n0_:=Aside0.mk (below_step (gB HB) hb);have n1_:=Aside0.mk (hbox);have n2_:=Aside0.mk ((by rw [hg];exact (below_size (gB HB)):w.heap.size≤gb606));have n3_:=Aside0.mk ((by rw [hg];exact (below_size (gB HB)):w.heap.size≤gb606));clear HB;have HB:=n0_;have BK606:=n1_;have GW606:=n2_;have GE606:=n3_;clear n0_ n1_ n2_ n3_;clear hb hbox hg;have hcz12_0:w11.cell? ⟨gb606,0,none⟩=some (.int .i64 a0_0):=(blk_cell BK606.out 0).trans rfl;have hcz12_1:w11.cell? ⟨gb606,1,none⟩=some (.int .i64 a0_1):=(blk_cell BK606.out 1).trans rfl;have hcz12_2:w11.cell? ⟨gb606,2,none⟩=some (.string a0_2):=(blk_cell BK606.out 2).trans rfl;have hcz12_3:w11.cell? ⟨gb606,3,none⟩=some (.slice A0_3 l0_3.length c0_3):=(blk_cell BK606.out 3).trans rfl;have hfz12_0:=blk_frozen BK606.out 0;have hfz12_1:=blk_frozen BK606.out 1;have hfz12_2:=blk_frozen BK606.out 2;have hfz12_3:=blk_frozen BK606.out 3))
    go_ret
    exact ⟨by first|rfl|(simp [errW_none,errW_some] <;> rfl)|(simp [*,errW_none,errW_some] <;> rfl),by repeat (first|exact gB HB|refine below_set ?_ GE606.out)⟩
   ·rw [if_neg c10] at H
    have c10b0:(a0_0 == 3)=false:=beq_eq_false_iff_ne.mpr c10
    have c10b1:(a0_0 != 3)=true:=bne_iff_ne.mpr c10
    by_cases c13:a0_0=4
    ·rw [if_pos c13] at H
     have c13b0:(a0_0 == 4)=true:=beq_iff_eq.mpr c13
     have c13b1:(a0_0 != 4)=false:=bne_eq_false_iff_eq.mpr c13
     clear c13
     obtain rfl:=Option.some.inj H
     go_enter Try.func60,Try.ntmps60
     go_wp2_with (first|((with_reducible refine gate_dst (N:=1) rfl ?_);refine box_event ?hg (N:=1) ?hd (cs:=#[.int .i64 a0_0,.int .i64 a0_1,.string a0_2,.slice A0_3 l0_3.length c0_3]) (t:=27) ?hr ?_;(case hd=>rfl);(case hg=>rfl);(case hr=>first|(go_simp;done)|(go_simp;rfl));intro gb606 hg w14 hbox hb;have n0_:=Aside0.mk (below_step (gB HB) hb);have n1_:=Aside0.mk (hbox);have n2_:=Aside0.mk ((by rw [hg];exact (below_size (gB HB)):w.heap.size≤gb606));have n3_:=Aside0.mk ((by rw [hg];exact (below_size (gB HB)):w.heap.size≤gb606));clear HB;have HB:=n0_;have BK606:=n1_;have GW606:=n2_;have GE606:=n3_;clear n0_ n1_ n2_ n3_;clear hb hbox hg;have hcz15_0:w14.cell? ⟨gb606,0,none⟩=some (.int .i64 a0_0):=(blk_cell BK606.out 0).trans rfl;have hcz15_1:w14.cell? ⟨gb606,1,none⟩=some (.int .i64 a0_1):=(blk_cell BK606.out 1).trans rfl;have hcz15_2:w14.cell? ⟨gb606,2,none⟩=some (.string a0_2):=(blk_cell BK606.out 2).trans rfl;have hcz15_3:w14.cell? ⟨gb606,3,none⟩=some (.slice A0_3 l0_3.length c0_3):=(blk_cell BK606.out 3).trans rfl;have hfz15_0:=blk_frozen BK606.out 0;have hfz15_1:=blk_frozen BK606.out 1;have hfz15_2:=blk_frozen BK606.out 2;have hfz15_3:=blk_frozen BK606.out 3))
     go_ret
     exact ⟨by first|rfl|(simp [errW_none,errW_some] <;> rfl)|(simp [*,errW_none,errW_some] <;> rfl),by repeat (first|exact gB HB|refine below_set ?_ GE606.out)⟩
    ·rw [if_neg c13] at H
     have c13b0:(a0_0 == 4)=false:=beq_eq_false_iff_ne.mpr c13
     have c13b1:(a0_0 != 4)=true:=bne_iff_ne.mpr c13
     by_cases c16:a0_0=5
     ·rw [if_pos c16] at H
      have c16b0:(a0_0 == 5)=true:=beq_iff_eq.mpr c16
      have c16b1:(a0_0 != 5)=false:=bne_eq_false_iff_eq.mpr c16
      clear c16
      obtain rfl:=Option.some.inj H
      go_enter Try.func60,Try.ntmps60
      go_wp2_with (first|((with_reducible refine gate_dst (N:=1) rfl ?_);refine box_event ?hg (N:=1) ?hd (cs:=#[.int .i64 a0_0,.int .i64 a0_1,.string a0_2,.slice A0_3 l0_3.length c0_3]) (t:=27) ?hr ?_;(case hd=>rfl);(case hg=>rfl);(case hr=>first|(go_simp;done)|(go_simp;rfl));intro gb606 hg w17 hbox hb;have n0_:=Aside0.mk (below_step (gB HB) hb);have n1_:=Aside0.mk (hbox);have n2_:=Aside0.mk ((by rw [hg];exact (below_size (gB HB)):w.heap.size≤gb606));have n3_:=Aside0.mk ((by rw [hg];exact (below_size (gB HB)):w.heap.size≤gb606));clear HB;have HB:=n0_;have BK606:=n1_;have GW606:=n2_;have GE606:=n3_;clear n0_ n1_ n2_ n3_;clear hb hbox hg;have hcz18_0:w17.cell? ⟨gb606,0,none⟩=some (.int .i64 a0_0):=(blk_cell BK606.out 0).trans rfl;have hcz18_1:w17.cell? ⟨gb606,1,none⟩=some (.int .i64 a0_1):=(blk_cell BK606.out 1).trans rfl;have hcz18_2:w17.cell? ⟨gb606,2,none⟩=some (.string a0_2):=(blk_cell BK606.out 2).trans rfl;have hcz18_3:w17.cell? ⟨gb606,3,none⟩=some (.slice A0_3 l0_3.length c0_3):=(blk_cell BK606.out 3).trans rfl;have hfz18_0:=blk_frozen BK606.out 0;have hfz18_1:=blk_frozen BK606.out 1;have hfz18_2:=blk_frozen BK606.out 2;have hfz18_3:=blk_frozen BK606.out 3))
      go_ret
      exact ⟨by first|rfl|(simp [errW_none,errW_some] <;> rfl)|(simp [*,errW_none,errW_some] <;> rfl),by repeat (first|exact gB HB|refine below_set ?_ GE606.out)⟩
     ·rw [if_neg c16] at H
      have c16b0:(a0_0 == 5)=false:=beq_eq_false_iff_ne.mpr c16
      have c16b1:(a0_0 != 5)=true:=bne_iff_ne.mpr c16
      by_cases c19:a0_0=6
      ·rw [if_pos c19] at H
       have c19b0:(a0_0 == 6)=true:=beq_iff_eq.mpr c19
       have c19b1:(a0_0 != 6)=false:=bne_eq_false_iff_eq.mpr c19
       clear c19
       obtain ⟨y607,hy607⟩:∃ y_:List Int,y_=(([(wrap64 (48+a0_1)) % 256]:List Int)):=⟨_,rfl⟩
       replace H:(if (strOfNums y607).size+1≤9223372036854775807 then (if 0 < (l0_3.length:Int) then ((impl_formatDoc.f k ((rd_TDoc l0_3 0).f0) ((rd_TDoc l0_3 0).f1) ((rd_TDoc l0_3 0).f2) ((rd_TDoc l0_3 0).f3)).bind fun t611=>(if ((strOfNums y607)++(⟨#[60]⟩:ByteArray)).size+t611.size≤9223372036854775807 then (if (((strOfNums y607)++(⟨#[60]⟩:ByteArray))++t611).size+1≤9223372036854775807 then (some ((((strOfNums y607)++(⟨#[60]⟩:ByteArray))++t611)++(⟨#[62]⟩:ByteArray))) else (none)) else (none))) else (none)) else (none))=some r:=by first|(rw [hy607];with_reducible exact H)|(have H2_:=(Option.bind_some _ _).symm.trans H;rw [hy607];with_reducible exact H2_)|(have H2_:=(Option.bind_some _ _).symm.trans H;with_reducible exact H2_)|with_reducible exact H|(rw [hy607];exact H)|exact H
       have Ny607:=Aside0.mk hy607
       clear hy607
       by_cases c20:(strOfNums y607).size+1≤9223372036854775807
       ·rw [if_pos c20] at H
        have c20b0:=eq_true c20
        have c20b1:decide ((strOfNums y607).size+1≤9223372036854775807)=true:=decide_eq_true c20
        try have c20b2:(9223372036854775807 < (strOfNums y607).size+1)=False:=eq_false (Nat.not_lt.2 c20)
        by_cases c21:0 < (l0_3.length:Int)
        ·rw [if_pos c21] at H
         have c21b0:decide (0 < (l0_3.length:Int))=true:=decide_eq_true c21
         have c21b1:decide (0 < l0_3.length)=true:=decide_eq_true (by omega)
         clear c21
         replace H:=Option.bind_eq_some_iff.mp H
         obtain ⟨t611,A220,H⟩:=H
         replace H:(if ((strOfNums y607)++(⟨#[60]⟩:ByteArray)).size+t611.size≤9223372036854775807 then (if (((strOfNums y607)++(⟨#[60]⟩:ByteArray))++t611).size+1≤9223372036854775807 then (some ((((strOfNums y607)++(⟨#[60]⟩:ByteArray))++t611)++(⟨#[62]⟩:ByteArray))) else (none)) else (none))=some r:=H
         have A22:=Aside0.mk A220
         clear A220
         by_cases c23:((strOfNums y607)++(⟨#[60]⟩:ByteArray)).size+t611.size≤9223372036854775807
         ·rw [if_pos c23] at H
          have c23b0:=eq_true c23
          have c23b1:decide (((strOfNums y607)++(⟨#[60]⟩:ByteArray)).size+t611.size≤9223372036854775807)=true:=decide_eq_true c23
          try (have c23b4:=c23;(conv at c23b4=>(lhs;simp));have c23b5:=eq_false (Nat.not_lt.2 c23b4))
          try (have c23b6:=c23;(conv at c23b6=>(lhs;simp [go_sem]));have c23b7:=eq_false (Nat.not_lt.2 c23b6))
          try have c23b2:(9223372036854775807 < ((strOfNums y607)++(⟨#[60]⟩:ByteArray)).size+t611.size)=False:=eq_false (Nat.not_lt.2 c23)
          by_cases c24:(((strOfNums y607)++(⟨#[60]⟩:ByteArray))++t611).size+1≤9223372036854775807
          ·rw [if_pos c24] at H
           have c24b0:=eq_true c24
           have c24b1:decide ((((strOfNums y607)++(⟨#[60]⟩:ByteArray))++t611).size+1≤9223372036854775807)=true:=decide_eq_true c24
           try (have c24b4:=c24;(conv at c24b4=>(lhs;simp));have c24b5:=eq_false (Nat.not_lt.2 c24b4))
           try (have c24b6:=c24;(conv at c24b6=>(lhs;simp [go_sem]));have c24b7:=eq_false (Nat.not_lt.2 c24b6))
           try have c24b2:(9223372036854775807 < (((strOfNums y607)++(⟨#[60]⟩:ByteArray))++t611).size+1)=False:=eq_false (Nat.not_lt.2 c24)
           obtain rfl:=Option.some.inj H
           go_enter Try.func60,Try.ntmps60
           try go_wp2_with (first|((with_reducible refine gate_dst (N:=1) rfl ?_);refine box_event ?hg (N:=1) ?hd (cs:=#[.int .i64 a0_0,.int .i64 a0_1,.string a0_2,.slice A0_3 l0_3.length c0_3]) (t:=27) ?hr ?_;(case hd=>rfl);(case hg=>rfl);(case hr=>first|(go_simp;done)|(go_simp;rfl));intro gb606 hg w25 hbox hb;have n0_:=Aside0.mk (below_step (gB HB) hb);have n1_:=Aside0.mk (hbox);have n2_:=Aside0.mk ((by rw [hg];exact (below_size (gB HB)):w.heap.size≤gb606));have n3_:=Aside0.mk ((by rw [hg];exact (below_size (gB HB)):w.heap.size≤gb606));clear HB;have HB:=n0_;have BK606:=n1_;have GW606:=n2_;have GE606:=n3_;clear n0_ n1_ n2_ n3_;clear hb hbox hg;have hcz26_0:w25.cell? ⟨gb606,0,none⟩=some (.int .i64 a0_0):=(blk_cell BK606.out 0).trans rfl;have hcz26_1:w25.cell? ⟨gb606,1,none⟩=some (.int .i64 a0_1):=(blk_cell BK606.out 1).trans rfl;have hcz26_2:w25.cell? ⟨gb606,2,none⟩=some (.string a0_2):=(blk_cell BK606.out 2).trans rfl;have hcz26_3:w25.cell? ⟨gb606,3,none⟩=some (.slice A0_3 l0_3.length c0_3):=(blk_cell BK606.out 3).trans rfl;have hfz26_0:=blk_frozen BK606.out 0;have hfz26_1:=blk_frozen BK606.out 1;have hfz26_2:=blk_frozen BK606.out 2;have hfz26_3:=blk_frozen BK606.out 3))
           have n0_:=Aside0.mk (blk_drew BK606.out)
           have n1_:=Aside0.mk (below_drew1 HB.out)
           clear BK606
           clear HB
           have BK606:=n0_
           have HB:=n1_
           clear n0_ n1_
           have p610:0≤(0:Int):=(by omega)
           have q610:0 < (l0_3.length:Int):=of_decide_eq_true (by first|(with_reducible assumption)|assumption)
           obtain ⟨ad610,A610_3,c610_3,e610,hx610_0,hx610_1,hx610_2,hx610_3,hl610_3,hi610_3⟩:=at_TDoc HR0_3.out 0 p610 q610
           have hw610_3:=hx610_3
           (try rw [show ((0:Int)).toNat=0 from rfl] at hw610_3)
           (try rw [show 0 * 4=0 from rfl] at hw610_3)
           (try rw [Addr.add_zero'] at hw610_3)
           have hw610_2:=hx610_2
           (try rw [show ((0:Int)).toNat=0 from rfl] at hw610_2)
           (try rw [show 0 * 4=0 from rfl] at hw610_2)
           (try rw [Addr.add_zero'] at hw610_2)
           have hw610_1:=hx610_1
           (try rw [show ((0:Int)).toNat=0 from rfl] at hw610_1)
           (try rw [show 0 * 4=0 from rfl] at hw610_1)
           (try rw [Addr.add_zero'] at hw610_1)
           have hw610_0:=hx610_0
           (try rw [show ((0:Int)).toNat=0 from rfl] at hw610_0)
           (try rw [show 0 * 4=0 from rfl] at hw610_0)
           (try rw [Addr.add_zero'] at hw610_0)
           cases e610
           have qi610:(0 < l0_3.length)=True:=eq_true (by omega)
           (try rw [show ((0:Int)).toNat=0 from rfl] at hx610_0)
           (try rw [show 0 * 4=0 from rfl] at hx610_0)
           (try rw [Addr.add_zero'] at hx610_0)
           (try rw [show ((0:Int)).toNat=0 from rfl] at hx610_1)
           (try rw [show 0 * 4=0 from rfl] at hx610_1)
           (try rw [Addr.add_zero'] at hx610_1)
           (try rw [show ((0:Int)).toNat=0 from rfl] at hx610_2)
           (try rw [show 0 * 4=0 from rfl] at hx610_2)
           (try rw [Addr.add_zero'] at hx610_2)
           (try rw [show ((0:Int)).toNat=0 from rfl] at hx610_3)
           (try rw [show 0 * 4=0 from rfl] at hx610_3)
           (try rw [Addr.add_zero'] at hx610_3)
           replace hx610_0:=(HB.out.cell (World.block_lt_of_cell? w _ hx610_0)).trans hx610_0
           replace hx610_1:=(HB.out.cell (World.block_lt_of_cell? w _ hx610_1)).trans hx610_1
           replace hx610_2:=(HB.out.cell (World.block_lt_of_cell? w _ hx610_2)).trans hx610_2
           replace hx610_3:=(HB.out.cell (World.block_lt_of_cell? w _ hx610_3)).trans hx610_3
           have HR610_3:=Aside0.mk hi610_3
           have HC610_3:=Aside0.mk hl610_3
           clear hi610_3 hl610_3
           replace p610:=eq_true p610
           replace q610:=eq_true q610
           refine start_ (n:=15) (S:=fun w'=>w'.cell? ⟨gb606,0,none⟩=some (.int .i64 a0_0)∧w'.cell? ⟨gb606,1,none⟩=some (.int .i64 a0_1)∧w'.cell? ⟨gb606,2,none⟩=some (.string a0_2)∧w'.cell? ⟨gb606,3,none⟩=some (.slice (some ad610) l0_3.length c0_3)∧w'.cell? ad610=some (.int .i64 ((rd_TDoc l0_3 0).f0))∧w'.cell? ⟨ad610.block,ad610.off+1,none⟩=some (.int .i64 ((rd_TDoc l0_3 0).f1))∧w'.cell? ⟨ad610.block,ad610.off+2,none⟩=some (.string ((rd_TDoc l0_3 0).f2))∧w'.cell? ⟨ad610.block,ad610.off+3,none⟩=some (.slice A610_3 ((rd_TDoc l0_3 0).f3).length c610_3)) (ds:=[]) #[false,false,false,false,false,false,false,false,false,false,false,false,false,false,false] (by kernel_rfl) rfl rfl ⟨(blk_cell BK606.out 0).trans rfl,(blk_cell BK606.out 1).trans rfl,(blk_cell BK606.out 2).trans rfl,(blk_cell BK606.out 3).trans rfl,((HB.out.cell (World.block_lt_of_cell? w _ hw610_0)).trans hw610_0),((HB.out.cell (World.block_lt_of_cell? w _ hw610_1)).trans hw610_1),((HB.out.cell (World.block_lt_of_cell? w _ hw610_2)).trans hw610_2),((HB.out.cell (World.block_lt_of_cell? w _ hw610_3)).trans hw610_3)⟩ (fun hHeld=>?_);refine with_tabW impl_formatDoc.tab13 impl_formatDoc.bits13 (fun HT_ HW_=>?_)
           generalize w25.drew=w27 at BK606 HB HR610_3 hx610_0 hx610_1 hx610_2 hx610_3 hHeld ⊢
           refine pure_ (i:=0) (N:=some 21) (v:=?_) (a':=?_) #[true,false,false,false,false,false,false,false,false,false,false,false,false,false,false] rfl rfl (any_of HT_.out (by kernel_rfl)) (fun _ _ _ h=>h) (Or.inl ⟨by rfl,?_⟩) ?_ ?_
           rotate_left
           ·intro w'
            go_simp
            with_reducible rfl
           rotate_left
           ·simp only [Act.put,List.setIfInBounds_toArray,List.set_cons_zero,List.set_cons_succ,i64_w,i32_w]
            rfl
           refine pure_ (i:=7) (N:=some 28) (v:=?_) (a':=?_) #[true,false,false,false,false,false,false,true,false,false,false,false,false,false,false] rfl rfl (any_of HT_.out (by kernel_rfl)) (fun _ _ _ h=>h) (Or.inl ⟨by rfl,?_⟩) ?_ ?_
           rotate_left
           ·intro w'
            go_simp
            with_reducible rfl
           rotate_left
           ·simp only [Act.put,List.setIfInBounds_toArray,List.set_cons_zero,List.set_cons_succ,i64_w,i32_w]
            rfl
           refine take_ (i:=1) (N:=some 22) (v:=?_) (a':=?_) #[true,true,false,false,false,false,false,true,false,false,false,false,false,false,false] rfl rfl (take_ofW HT_.out HW_.out (by kernel_rfl)) (fun _ _ _ h=>h) (Or.inl ⟨by rfl,?_⟩) hHeld ?_ ?_
           rotate_left
           ·rintro w' ⟨s0,s1,s2,s3,s4,s5,s6,s7⟩
            go_simp
            with_reducible rfl
           rotate_left
           ·simp only [Act.put,List.setIfInBounds_toArray,List.set_cons_zero,List.set_cons_succ,i64_w,i32_w]
            rfl
           refine pure_ (i:=2) (N:=some 23) (v:=?_) (a':=?_) #[true,true,true,false,false,false,false,true,false,false,false,false,false,false,false] rfl rfl (any_of HT_.out (by kernel_rfl)) (fun _ _ _ h=>h) (Or.inl ⟨by rfl,?_⟩) ?_ ?_
           rotate_left
           ·intro w'
            go_simp
            with_reducible rfl
           rotate_left
           ·simp only [Act.put,List.setIfInBounds_toArray,List.set_cons_zero,List.set_cons_succ,i64_w,i32_w]
            rfl
           refine pure_ (i:=3) (N:=some 24) (v:=?_) (a':=?_) #[true,true,true,true,false,false,false,true,false,false,false,false,false,false,false] rfl rfl (any_of HT_.out (by kernel_rfl)) (fun _ _ _ h=>h) (Or.inl ⟨by rfl,?_⟩) ?_ ?_
           rotate_left
           ·intro w'
            go_simp
            with_reducible rfl
           rotate_left
           ·simp only [Act.put,List.setIfInBounds_toArray,List.set_cons_zero,List.set_cons_succ,i64_w,i32_w]
            rfl
           refine take_ (i:=8) (N:=some 29) (v:=?_) (a':=?_) #[true,true,true,true,false,false,false,true,true,false,false,false,false,false,false] rfl rfl (take_ofW HT_.out HW_.out (by kernel_rfl)) (fun _ _ _ h=>h) (Or.inl ⟨by rfl,?_⟩) hHeld ?_ ?_
           rotate_left
           ·rintro w' ⟨s0,s1,s2,s3,s4,s5,s6,s7⟩
            go_simp
            with_reducible rfl
           rotate_left
           ·simp only [Act.put,List.setIfInBounds_toArray,List.set_cons_zero,List.set_cons_succ,i64_w,i32_w]
            rfl
           refine pure_ (i:=9) (N:=some 30) (v:=?_) (a':=?_) #[true,true,true,true,false,false,false,true,true,true,false,false,false,false,false] rfl rfl (any_of HT_.out (by kernel_rfl)) (fun _ _ _ h=>h) (Or.inl ⟨by rfl,?_⟩) ?_ ?_
           rotate_left
           ·intro w'
            go_simp
            with_reducible rfl
           rotate_left
           ·simp only [Act.put,List.setIfInBounds_toArray,List.set_cons_zero,List.set_cons_succ,i64_w,i32_w]
            rfl
           refine take_ (i:=10) (N:=some 31) (v:=?_) (a':=?_) #[true,true,true,true,false,false,false,true,true,true,true,false,false,false,false] rfl rfl (take_ofW HT_.out HW_.out (by kernel_rfl)) (fun _ _ _ h=>h) (Or.inl ⟨by rfl,?_⟩) hHeld ?_ ?_
           rotate_left
           ·rintro w' ⟨s0,s1,s2,s3,s4,s5,s6,s7⟩
            go_simp
            with_reducible rfl
           rotate_left
           ·simp only [Act.put,List.setIfInBounds_toArray,List.set_cons_zero,List.set_cons_succ,i64_w,i32_w]
            rfl
           refine join_ (σ:=Value) 3 #[true,true,true,true,true,true,true,true,true,true,true,true,false,false,false] (fun s_=>[(25,s_),(26,.string (strOfNums y607)),(32,.string t611),(27,.string ((strOfNums y607)++(⟨#[60]⟩:ByteArray)))]) (fun s_ w'=>(w'.cell? ⟨gb606,0,none⟩=some (.int .i64 a0_0)∧w'.cell? ⟨gb606,1,none⟩=some (.int .i64 a0_1)∧w'.cell? ⟨gb606,2,none⟩=some (.string a0_2)∧w'.cell? ⟨gb606,3,none⟩=some (.slice (some ad610) l0_3.length c0_3)∧w'.cell? ad610=some (.int .i64 ((rd_TDoc l0_3 0).f0))∧w'.cell? ⟨ad610.block,ad610.off+1,none⟩=some (.int .i64 ((rd_TDoc l0_3 0).f1))∧w'.cell? ⟨ad610.block,ad610.off+2,none⟩=some (.string ((rd_TDoc l0_3 0).f2))∧w'.cell? ⟨ad610.block,ad610.off+3,none⟩=some (.slice A610_3 ((rd_TDoc l0_3 0).f3).length c610_3))∧(Kd.R (Kd.int .u8) 5 w' w.heap.size (fun _=>True) s_ y607)∧(w'.heap[gb606]?=some (.cells #[.int .i64 a0_0,.int .i64 a0_1,.string a0_2,.slice (some ad610) l0_3.length c0_3] 27 (0,0)))∧(Below w.heap.size w w')) ?_ ?_
           rotate_left
           ·intro hCont
            refine two_ (i:=4) (j:=11) (Ni:=some 25) (Nj:=some 32) #[true,true,true,true,true,false,false,true,true,true,true,false,false,false,false] #[true,true,true,true,false,false,false,true,true,true,true,true,false,false,false] rfl rfl rfl rfl (two_of HT_.out (by kernel_rfl)) (by decide) (by decide) (fun K hK=>?_) (fun K hK=>?_)
            ·skip
             refine Kd.R_lit_step (Kd.int .u8) _ 5 ?hg (N:=25) ?hd (xs:=([(wrap64 (48+a0_1)) % 256]:List Int)) (inner:=[.int .u8 ((wrap64 (48+a0_1)) % 256)]) (ok:=fun _=>True) (okp:=fun _=>True) ?hr ?hp (fun _ hk=>hk) trivial (Below.refl _ _) (Nat.le_refl _) (by simp) ?_;(case hd=>rfl);(case hg=>rfl);(case hr=>first|(go_simp;done)|(go_simp;rfl));(case hp=>exact (Reps.one (show Kd.M (Kd.int .u8) _ _ _ ((wrap64 (48+a0_1)) % 256) [.int .u8 ((wrap64 (48+a0_1)) % 256)] from rfl) (Reps.none _ _)))
             intro v608 w28 ho29 hb hg_ hnew_
             clear hg_ hnew_
             (first|rw [← Ny607.out] at ho29|(simp only [Int.reduceToNat] at ho29;rw [← Ny607.out] at ho29))
             have n0_:=Aside0.mk (Kd.R_lower ho29 (below_size (by repeat (first|exact gB HB|refine below_set ?_ GE606.out))))
             have n1_:=Aside0.mk (blk_below (g:=gb606) (o:=.cells #[.int .i64 a0_0,.int .i64 a0_1,.string a0_2,.slice (some ad610) l0_3.length c0_3] 27 (0,0)) (gK BK606) hb)
             have n2_:=Aside0.mk (below_step (by repeat (first|exact gB HB|refine below_set ?_ GE606.out)) hb)
             clear BK606
             clear HB
             have HO609:=n0_
             have BK606:=n1_
             have HB:=n2_
             clear n0_ n1_ n2_
             clear hb ho29
             refine hK.out _ _ ⟨(blk_cell BK606.out 0).trans rfl,(blk_cell BK606.out 1).trans rfl,(blk_cell BK606.out 2).trans rfl,(blk_cell BK606.out 3).trans rfl,((HB.out.cell (World.block_lt_of_cell? w _ hw610_0)).trans hw610_0),((HB.out.cell (World.block_lt_of_cell? w _ hw610_1)).trans hw610_1),((HB.out.cell (World.block_lt_of_cell? w _ hw610_2)).trans hw610_2),((HB.out.cell (World.block_lt_of_cell? w _ hw610_3)).trans hw610_3)⟩ (fun hHeld=>?_)
             clear hK K
             refine norm_ (a':=?_) ?_ ?_
             rotate_left
             ·show Act.put _ (some 25) _=_
              simp only [Act.put,List.setIfInBounds_toArray,List.set_cons_zero,List.set_cons_succ,i64_w,i32_w]
              rfl
             refine two_ (i:=5) (j:=11) (Ni:=some 26) (Nj:=some 32) #[true,true,true,true,true,true,false,true,true,true,true,false,false,false,false] #[true,true,true,true,true,false,false,true,true,true,true,true,false,false,false] rfl rfl rfl rfl (two_of HT_.out (by kernel_rfl)) (by decide) (by decide) (fun K hK=>?_) (fun K hK=>?_)
             ·skip
              have hcv30:=own_string (P:=Try.prog) Try.underlying22 Try.underlying5 Try.underlying9 (Kd.own_of_R HO609.out)
              refine value_ (w1:=?_) (v:=?_) (by rfl) rfl ?_ ?_
              rotate_left 2
              ·go_simp
               constructor
               ·rfl
               ·rfl
              clear hcv30
              refine hK.out _ _ ⟨(blk_cell BK606.out 0).trans rfl,(blk_cell BK606.out 1).trans rfl,(blk_cell BK606.out 2).trans rfl,(blk_cell BK606.out 3).trans rfl,((HB.out.cell (World.block_lt_of_cell? w _ hw610_0)).trans hw610_0),((HB.out.cell (World.block_lt_of_cell? w _ hw610_1)).trans hw610_1),((HB.out.cell (World.block_lt_of_cell? w _ hw610_2)).trans hw610_2),((HB.out.cell (World.block_lt_of_cell? w _ hw610_3)).trans hw610_3)⟩ (fun hHeld=>?_)
              clear hK K
              refine norm_ (a':=?_) ?_ ?_
              rotate_left
              ·show Act.put _ (some 26) _=_
               simp only [Act.put,List.setIfInBounds_toArray,List.set_cons_zero,List.set_cons_succ,i64_w,i32_w]
               rfl
              refine pure_ (i:=6) (N:=some 27) (v:=?_) (a':=?_) #[true,true,true,true,true,true,true,true,true,true,true,false,false,false,false] rfl rfl (any_of HT_.out (by kernel_rfl)) (fun _ _ _ h=>h) (Or.inl ⟨by rfl,?_⟩) ?_ ?_
              rotate_left
              ·intro w'
               go_simp
               with_reducible rfl
              rotate_left
              ·simp only [Act.put,List.setIfInBounds_toArray,List.set_cons_zero,List.set_cons_succ,i64_w,i32_w]
               rfl
              refine one_ (i:=11) (N:=some 32) #[true,true,true,true,true,true,true,true,true,true,true,true,false,false,false] rfl rfl (one_of HT_.out (by kernel_rfl)) (by decide) (fun K hK=>?_)
              refine goes_ Try.func60 (by kernel_rfl) rfl #[.agg #[.int .i64 ((rd_TDoc l0_3 0).f0),.int .i64 ((rd_TDoc l0_3 0).f1),.string ((rd_TDoc l0_3 0).f2),.slice A610_3 ((rd_TDoc l0_3 0).f3).length c610_3]] (by rfl) rfl rfl (by (try simp only [List.map_toArray,List.map_cons,List.map_nil]);first|done|rfl|(simp only [List.length_drop,List.length_take];rfl)) ?_
              with_reducible refine (ih k (by omega) ((rd_TDoc l0_3 0).f0) ((rd_TDoc l0_3 0).f1) ((rd_TDoc l0_3 0).f2) _ _ ((rd_TDoc l0_3 0).f3) t611 _ ?side1 ?side2 A22.out).mono ?_
              (case side1=>exact gC (Kd.C_below HR610_3.out HB.out))
              (case side2=>exact HC610_3.out)
              rintro e w31 ⟨rfl,hb⟩
              refine ⟨_,rfl,?_⟩
              have n0_:=Aside0.mk (Kd.R_below (gR HO609) hb)
              have n1_:=Aside0.mk (blk_below (g:=gb606) (o:=.cells #[.int .i64 a0_0,.int .i64 a0_1,.string a0_2,.slice (some ad610) l0_3.length c0_3] 27 (0,0)) (gK BK606) hb)
              have n2_:=Aside0.mk (below_step (by repeat (first|exact gB HB|refine below_set ?_ GE606.out)) hb)
              clear HO609
              clear BK606
              clear HB
              have HO609:=n0_
              have BK606:=n1_
              have HB:=n2_
              clear n0_ n1_ n2_
              (try clear hb)
              (try clear hb2)
              (try clear hk)
              (try clear hi)
              refine hK.out _ _ ⟨(blk_cell BK606.out 0).trans rfl,(blk_cell BK606.out 1).trans rfl,(blk_cell BK606.out 2).trans rfl,(blk_cell BK606.out 3).trans rfl,((HB.out.cell (World.block_lt_of_cell? w _ hw610_0)).trans hw610_0),((HB.out.cell (World.block_lt_of_cell? w _ hw610_1)).trans hw610_1),((HB.out.cell (World.block_lt_of_cell? w _ hw610_2)).trans hw610_2),((HB.out.cell (World.block_lt_of_cell? w _ hw610_3)).trans hw610_3)⟩ (fun hHeld=>?_)
              clear hK K
              refine norm_ (a':=?_) ?_ ?_
              rotate_left
              ·show Act.put _ (some 32) _=_
               simp only [Act.put,List.setIfInBounds_toArray,List.set_cons_zero,List.set_cons_succ,i64_w,i32_w]
               rfl
              exact norm_ (by simp only [putAll,Act.put,List.setIfInBounds_toArray,List.set_cons_zero,List.set_cons_succ]) (hCont (v608) _ ⟨hHeld,(gR HO609),(gK BK606),(by repeat (first|exact gB HB|refine below_set ?_ GE606.out))⟩)
             ·skip
              refine goes_ Try.func60 (by kernel_rfl) rfl #[.agg #[.int .i64 ((rd_TDoc l0_3 0).f0),.int .i64 ((rd_TDoc l0_3 0).f1),.string ((rd_TDoc l0_3 0).f2),.slice A610_3 ((rd_TDoc l0_3 0).f3).length c610_3]] (by rfl) rfl rfl (by (try simp only [List.map_toArray,List.map_cons,List.map_nil]);first|done|rfl|(simp only [List.length_drop,List.length_take];rfl)) ?_
              with_reducible refine (ih k (by omega) ((rd_TDoc l0_3 0).f0) ((rd_TDoc l0_3 0).f1) ((rd_TDoc l0_3 0).f2) _ _ ((rd_TDoc l0_3 0).f3) t611 _ ?side1 ?side2 A22.out).mono ?_
              (case side1=>exact gC (Kd.C_below HR610_3.out HB.out))
              (case side2=>exact HC610_3.out)
              rintro e w30 ⟨rfl,hb⟩
              refine ⟨_,rfl,?_⟩
              have n0_:=Aside0.mk (Kd.R_below (gR HO609) hb)
              have n1_:=Aside0.mk (blk_below (g:=gb606) (o:=.cells #[.int .i64 a0_0,.int .i64 a0_1,.string a0_2,.slice (some ad610) l0_3.length c0_3] 27 (0,0)) (gK BK606) hb)
              have n2_:=Aside0.mk (below_step (by repeat (first|exact gB HB|refine below_set ?_ GE606.out)) hb)
              clear HO609
              clear BK606
              clear HB
              have HO609:=n0_
              have BK606:=n1_
              have HB:=n2_
              clear n0_ n1_ n2_
              (try clear hb)
              (try clear hb2)
              (try clear hk)
              (try clear hi)
              refine hK.out _ _ ⟨(blk_cell BK606.out 0).trans rfl,(blk_cell BK606.out 1).trans rfl,(blk_cell BK606.out 2).trans rfl,(blk_cell BK606.out 3).trans rfl,((HB.out.cell (World.block_lt_of_cell? w _ hw610_0)).trans hw610_0),((HB.out.cell (World.block_lt_of_cell? w _ hw610_1)).trans hw610_1),((HB.out.cell (World.block_lt_of_cell? w _ hw610_2)).trans hw610_2),((HB.out.cell (World.block_lt_of_cell? w _ hw610_3)).trans hw610_3)⟩ (fun hHeld=>?_)
              clear hK K
              refine norm_ (a':=?_) ?_ ?_
              rotate_left
              ·show Act.put _ (some 32) _=_
               simp only [Act.put,List.setIfInBounds_toArray,List.set_cons_zero,List.set_cons_succ,i64_w,i32_w]
               rfl
              refine one_ (i:=5) (N:=some 26) #[true,true,true,true,true,true,false,true,true,true,true,true,false,false,false] rfl rfl (one_of HT_.out (by kernel_rfl)) (by decide) (fun K hK=>?_)
              have hcv31:=own_string (P:=Try.prog) Try.underlying22 Try.underlying5 Try.underlying9 (Kd.own_of_R HO609.out)
              refine value_ (w1:=?_) (v:=?_) (by rfl) rfl ?_ ?_
              rotate_left 2
              ·go_simp
               constructor
               ·rfl
               ·rfl
              clear hcv31
              refine hK.out _ _ ⟨(blk_cell BK606.out 0).trans rfl,(blk_cell BK606.out 1).trans rfl,(blk_cell BK606.out 2).trans rfl,(blk_cell BK606.out 3).trans rfl,((HB.out.cell (World.block_lt_of_cell? w _ hw610_0)).trans hw610_0),((HB.out.cell (World.block_lt_of_cell? w _ hw610_1)).trans hw610_1),((HB.out.cell (World.block_lt_of_cell? w _ hw610_2)).trans hw610_2),((HB.out.cell (World.block_lt_of_cell? w _ hw610_3)).trans hw610_3)⟩ (fun hHeld=>?_)
              clear hK K
              refine norm_ (a':=?_) ?_ ?_
              rotate_left
              ·show Act.put _ (some 26) _=_
               simp only [Act.put,List.setIfInBounds_toArray,List.set_cons_zero,List.set_cons_succ,i64_w,i32_w]
               rfl
              refine pure_ (i:=6) (N:=some 27) (v:=?_) (a':=?_) #[true,true,true,true,true,true,true,true,true,true,true,true,false,false,false] rfl rfl (any_of HT_.out (by kernel_rfl)) (fun _ _ _ h=>h) (Or.inl ⟨by rfl,?_⟩) ?_ ?_
              rotate_left
              ·intro w'
               go_simp
               with_reducible rfl
              rotate_left
              ·simp only [Act.put,List.setIfInBounds_toArray,List.set_cons_zero,List.set_cons_succ,i64_w,i32_w]
               rfl
              exact norm_ (by simp only [putAll,Act.put,List.setIfInBounds_toArray,List.set_cons_zero,List.set_cons_succ]) (hCont (v608) _ ⟨hHeld,(gR HO609),(gK BK606),(by repeat (first|exact gB HB|refine below_set ?_ GE606.out))⟩)
            ·skip
             refine goes_ Try.func60 (by kernel_rfl) rfl #[.agg #[.int .i64 ((rd_TDoc l0_3 0).f0),.int .i64 ((rd_TDoc l0_3 0).f1),.string ((rd_TDoc l0_3 0).f2),.slice A610_3 ((rd_TDoc l0_3 0).f3).length c610_3]] (by rfl) rfl rfl (by (try simp only [List.map_toArray,List.map_cons,List.map_nil]);first|done|rfl|(simp only [List.length_drop,List.length_take];rfl)) ?_
             with_reducible refine (ih k (by omega) ((rd_TDoc l0_3 0).f0) ((rd_TDoc l0_3 0).f1) ((rd_TDoc l0_3 0).f2) _ _ ((rd_TDoc l0_3 0).f3) t611 _ ?side1 ?side2 A22.out).mono ?_
             (case side1=>exact gC (Kd.C_below HR610_3.out HB.out))
             (case side2=>exact HC610_3.out)
             rintro e w28 ⟨rfl,hb⟩
             refine ⟨_,rfl,?_⟩
             have n0_:=Aside0.mk (blk_below (g:=gb606) (o:=.cells #[.int .i64 a0_0,.int .i64 a0_1,.string a0_2,.slice (some ad610) l0_3.length c0_3] 27 (0,0)) (gK BK606) hb)
             have n1_:=Aside0.mk (below_step (by repeat (first|exact gB HB|refine below_set ?_ GE606.out)) hb)
             clear BK606
             clear HB
             have BK606:=n0_
             have HB:=n1_
             clear n0_ n1_
             (try clear hb)
             (try clear hb2)
             (try clear hk)
             (try clear hi)
             refine hK.out _ _ ⟨(blk_cell BK606.out 0).trans rfl,(blk_cell BK606.out 1).trans rfl,(blk_cell BK606.out 2).trans rfl,(blk_cell BK606.out 3).trans rfl,((HB.out.cell (World.block_lt_of_cell? w _ hw610_0)).trans hw610_0),((HB.out.cell (World.block_lt_of_cell? w _ hw610_1)).trans hw610_1),((HB.out.cell (World.block_lt_of_cell? w _ hw610_2)).trans hw610_2),((HB.out.cell (World.block_lt_of_cell? w _ hw610_3)).trans hw610_3)⟩ (fun hHeld=>?_)
             clear hK K
             refine norm_ (a':=?_) ?_ ?_
             rotate_left
             ·show Act.put _ (some 32) _=_
              simp only [Act.put,List.setIfInBounds_toArray,List.set_cons_zero,List.set_cons_succ,i64_w,i32_w]
              rfl
             refine one_ (i:=4) (N:=some 25) #[true,true,true,true,true,false,false,true,true,true,true,true,false,false,false] rfl rfl (one_of HT_.out (by kernel_rfl)) (by decide) (fun K hK=>?_)
             refine Kd.R_lit_step (Kd.int .u8) _ 5 ?hg (N:=25) ?hd (xs:=([(wrap64 (48+a0_1)) % 256]:List Int)) (inner:=[.int .u8 ((wrap64 (48+a0_1)) % 256)]) (ok:=fun _=>True) (okp:=fun _=>True) ?hr ?hp (fun _ hk=>hk) trivial (Below.refl _ _) (Nat.le_refl _) (by simp) ?_;(case hd=>rfl);(case hg=>rfl);(case hr=>first|(go_simp;done)|(go_simp;rfl));(case hp=>exact (Reps.one (show Kd.M (Kd.int .u8) _ _ _ ((wrap64 (48+a0_1)) % 256) [.int .u8 ((wrap64 (48+a0_1)) % 256)] from rfl) (Reps.none _ _)))
             intro v608 w29 ho30 hb hg_ hnew_
             clear hg_ hnew_
             (first|rw [← Ny607.out] at ho30|(simp only [Int.reduceToNat] at ho30;rw [← Ny607.out] at ho30))
             have n0_:=Aside0.mk (Kd.R_lower ho30 (below_size (by repeat (first|exact gB HB|refine below_set ?_ GE606.out))))
             have n1_:=Aside0.mk (blk_below (g:=gb606) (o:=.cells #[.int .i64 a0_0,.int .i64 a0_1,.string a0_2,.slice (some ad610) l0_3.length c0_3] 27 (0,0)) (gK BK606) hb)
             have n2_:=Aside0.mk (below_step (by repeat (first|exact gB HB|refine below_set ?_ GE606.out)) hb)
             clear BK606
             clear HB
             have HO609:=n0_
             have BK606:=n1_
             have HB:=n2_
             clear n0_ n1_ n2_
             clear hb ho30
             refine hK.out _ _ ⟨(blk_cell BK606.out 0).trans rfl,(blk_cell BK606.out 1).trans rfl,(blk_cell BK606.out 2).trans rfl,(blk_cell BK606.out 3).trans rfl,((HB.out.cell (World.block_lt_of_cell? w _ hw610_0)).trans hw610_0),((HB.out.cell (World.block_lt_of_cell? w _ hw610_1)).trans hw610_1),((HB.out.cell (World.block_lt_of_cell? w _ hw610_2)).trans hw610_2),((HB.out.cell (World.block_lt_of_cell? w _ hw610_3)).trans hw610_3)⟩ (fun hHeld=>?_)
             clear hK K
             refine norm_ (a':=?_) ?_ ?_
             rotate_left
             ·show Act.put _ (some 25) _=_
              simp only [Act.put,List.setIfInBounds_toArray,List.set_cons_zero,List.set_cons_succ,i64_w,i32_w]
              rfl
             refine one_ (i:=5) (N:=some 26) #[true,true,true,true,true,true,false,true,true,true,true,true,false,false,false] rfl rfl (one_of HT_.out (by kernel_rfl)) (by decide) (fun K hK=>?_)
             have hcv31:=own_string (P:=Try.prog) Try.underlying22 Try.underlying5 Try.underlying9 (Kd.own_of_R HO609.out)
             refine value_ (w1:=?_) (v:=?_) (by rfl) rfl ?_ ?_
             rotate_left 2
             ·go_simp
              constructor
              ·rfl
              ·rfl
             clear hcv31
             refine hK.out _ _ ⟨(blk_cell BK606.out 0).trans rfl,(blk_cell BK606.out 1).trans rfl,(blk_cell BK606.out 2).trans rfl,(blk_cell BK606.out 3).trans rfl,((HB.out.cell (World.block_lt_of_cell? w _ hw610_0)).trans hw610_0),((HB.out.cell (World.block_lt_of_cell? w _ hw610_1)).trans hw610_1),((HB.out.cell (World.block_lt_of_cell? w _ hw610_2)).trans hw610_2),((HB.out.cell (World.block_lt_of_cell? w _ hw610_3)).trans hw610_3)⟩ (fun hHeld=>?_)
             clear hK K
             refine norm_ (a':=?_) ?_ ?_
             rotate_left
             ·show Act.put _ (some 26) _=_
              simp only [Act.put,List.setIfInBounds_toArray,List.set_cons_zero,List.set_cons_succ,i64_w,i32_w]
              rfl
             refine pure_ (i:=6) (N:=some 27) (v:=?_) (a':=?_) #[true,true,true,true,true,true,true,true,true,true,true,true,false,false,false] rfl rfl (any_of HT_.out (by kernel_rfl)) (fun _ _ _ h=>h) (Or.inl ⟨by rfl,?_⟩) ?_ ?_
             rotate_left
             ·intro w'
              go_simp
              with_reducible rfl
             rotate_left
             ·simp only [Act.put,List.setIfInBounds_toArray,List.set_cons_zero,List.set_cons_succ,i64_w,i32_w]
              rfl
             exact norm_ (by simp only [putAll,Act.put,List.setIfInBounds_toArray,List.set_cons_zero,List.set_cons_succ]) (hCont (v608) _ ⟨hHeld,(gR HO609),(gK BK606),(by repeat (first|exact gB HB|refine below_set ?_ GE606.out))⟩)
           rintro v608 w32 ⟨hS_,h0_,h1_,h2_⟩
           have n0_:Aside0 (Kd.R (Kd.int .u8) 5 w32 w.heap.size (fun _=>True) v608 y607):=⟨h0_⟩
           have n1_:Aside0 (w32.heap[gb606]?=some (.cells #[.int .i64 a0_0,.int .i64 a0_1,.string a0_2,.slice (some ad610) l0_3.length c0_3] 27 (0,0))):=⟨h1_⟩
           have n2_:Aside0 (Below w.heap.size w w32):=⟨h2_⟩
           clear BK606
           clear HB
           clear h0_ h1_ h2_
           have HO609:=n0_
           have BK606:=n1_
           have HB:=n2_
           clear n0_ n1_ n2_
           have hHeld:w32.cell? ⟨gb606,0,none⟩=some (.int .i64 a0_0)∧w32.cell? ⟨gb606,1,none⟩=some (.int .i64 a0_1)∧w32.cell? ⟨gb606,2,none⟩=some (.string a0_2)∧w32.cell? ⟨gb606,3,none⟩=some (.slice (some ad610) l0_3.length c0_3)∧w32.cell? ad610=some (.int .i64 ((rd_TDoc l0_3 0).f0))∧w32.cell? ⟨ad610.block,ad610.off+1,none⟩=some (.int .i64 ((rd_TDoc l0_3 0).f1))∧w32.cell? ⟨ad610.block,ad610.off+2,none⟩=some (.string ((rd_TDoc l0_3 0).f2))∧w32.cell? ⟨ad610.block,ad610.off+3,none⟩=some (.slice A610_3 ((rd_TDoc l0_3 0).f3).length c610_3):=hS_
           refine norm_ (a':=?_) ?_ ?_
           rotate_left
           ·simp only [putAll,Act.put,List.setIfInBounds_toArray,List.set_cons_zero,List.set_cons_succ]
            rfl
           refine pure_ (i:=12) (N:=some 33) (v:=?_) (a':=?_) #[true,true,true,true,true,true,true,true,true,true,true,true,true,false,false] rfl rfl (any_of HT_.out (by kernel_rfl)) (fun _ _ _ h=>h) (Or.inl ⟨by rfl,?_⟩) ?_ ?_
           rotate_left
           ·intro w'
            go_simp
            with_reducible rfl
           rotate_left
           ·simp only [Act.put,List.setIfInBounds_toArray,List.set_cons_zero,List.set_cons_succ,i64_w,i32_w]
            rfl
           refine pure_ (i:=13) (N:=some 34) (v:=?_) (a':=?_) #[true,true,true,true,true,true,true,true,true,true,true,true,true,true,false] rfl rfl (any_of HT_.out (by kernel_rfl)) (fun _ _ _ h=>h) (Or.inl ⟨by rfl,?_⟩) ?_ ?_
           rotate_left
           ·intro w'
            go_simp
            with_reducible rfl
           rotate_left
           ·simp only [Act.put,List.setIfInBounds_toArray,List.set_cons_zero,List.set_cons_succ,i64_w,i32_w]
            rfl
           refine pure_ (i:=14) (N:=some 2) (v:=?_) (a':=?_) #[true,true,true,true,true,true,true,true,true,true,true,true,true,true,true] rfl rfl (any_of HT_.out (by kernel_rfl)) (fun _ _ _ h=>h) (Or.inl ⟨by rfl,?_⟩) ?_ ?_
           rotate_left
           ·intro w'
            go_simp
            with_reducible rfl
           rotate_left
           ·simp only [Act.put,List.setIfInBounds_toArray,List.set_cons_zero,List.set_cons_succ,i64_w,i32_w]
            rfl
           refine done_ (done_of HT_.out (by kernel_rfl)) ?_
           try go_wp2
           go_ret
           exact ⟨by first|rfl|(simp [errW_none,errW_some] <;> rfl)|(simp [*,errW_none,errW_some] <;> rfl),by repeat (first|exact gB HB|refine below_set ?_ GE606.out)⟩
          ·rw [if_neg c24] at H
           exact absurd H (by simp)
         ·rw [if_neg c23] at H
          exact absurd H (by simp)
        ·rw [if_neg c21] at H
         exact absurd H (by simp)
       ·rw [if_neg c20] at H
        exact absurd H (by simp)
      ·rw [if_neg c19] at H
       have c19b0:(a0_0 == 6)=false:=beq_eq_false_iff_ne.mpr c19
       have c19b1:(a0_0 != 6)=true:=bne_iff_ne.mpr c19
       by_cases c33:a0_0=7
       ·rw [if_pos c33] at H
        have c33b0:(a0_0 == 7)=true:=beq_iff_eq.mpr c33
        have c33b1:(a0_0 != 7)=false:=bne_eq_false_iff_eq.mpr c33
        clear c33
        by_cases c34:0 < (l0_3.length:Int)
        ·rw [if_pos c34] at H
         have c34b0:decide (0 < (l0_3.length:Int))=true:=decide_eq_true c34
         have c34b1:decide (0 < l0_3.length)=true:=decide_eq_true (by omega)
         clear c34
         replace H:=Option.bind_eq_some_iff.mp H
         obtain ⟨t613,A350,H⟩:=H
         replace H:(if 1+t613.size≤9223372036854775807 then (if 1 < (l0_3.length:Int) then ((impl_formatDoc.f k ((rd_TDoc l0_3 1).f0) ((rd_TDoc l0_3 1).f1) ((rd_TDoc l0_3 1).f2) ((rd_TDoc l0_3 1).f3)).bind fun t615=>(if ((⟨#[40]⟩:ByteArray)++t613).size+t615.size≤9223372036854775807 then (if (((⟨#[40]⟩:ByteArray)++t613)++t615).size+1≤9223372036854775807 then (some ((((⟨#[40]⟩:ByteArray)++t613)++t615)++(⟨#[41]⟩:ByteArray))) else (none)) else (none))) else (none)) else (none))=some r:=H
         have A35:=Aside0.mk A350
         clear A350
         by_cases c36:1+t613.size≤9223372036854775807
         ·rw [if_pos c36] at H
          have c36b0:=eq_true c36
          have c36b1:decide (1+t613.size≤9223372036854775807)=true:=decide_eq_true c36
          try have c36b2:(9223372036854775807 < 1+t613.size)=False:=eq_false (Nat.not_lt.2 c36)
          by_cases c37:1 < (l0_3.length:Int)
          ·rw [if_pos c37] at H
           have c37b0:decide (1 < (l0_3.length:Int))=true:=decide_eq_true c37
           have c37b1:decide (1 < l0_3.length)=true:=decide_eq_true (by omega)
           clear c37
           replace H:=Option.bind_eq_some_iff.mp H
           obtain ⟨t615,A380,H⟩:=H
           replace H:(if ((⟨#[40]⟩:ByteArray)++t613).size+t615.size≤9223372036854775807 then (if (((⟨#[40]⟩:ByteArray)++t613)++t615).size+1≤9223372036854775807 then (some ((((⟨#[40]⟩:ByteArray)++t613)++t615)++(⟨#[41]⟩:ByteArray))) else (none)) else (none))=some r:=H
           have A38:=Aside0.mk A380
           clear A380
           by_cases c39:((⟨#[40]⟩:ByteArray)++t613).size+t615.size≤9223372036854775807
           ·rw [if_pos c39] at H
            have c39b0:=eq_true c39
            have c39b1:decide (((⟨#[40]⟩:ByteArray)++t613).size+t615.size≤9223372036854775807)=true:=decide_eq_true c39
            try (have c39b4:=c39;(conv at c39b4=>(lhs;simp));have c39b5:=eq_false (Nat.not_lt.2 c39b4))
            try (have c39b6:=c39;(conv at c39b6=>(lhs;simp [go_sem]));have c39b7:=eq_false (Nat.not_lt.2 c39b6))
            try have c39b2:(9223372036854775807 < ((⟨#[40]⟩:ByteArray)++t613).size+t615.size)=False:=eq_false (Nat.not_lt.2 c39)
            by_cases c40:(((⟨#[40]⟩:ByteArray)++t613)++t615).size+1≤9223372036854775807
            ·rw [if_pos c40] at H
             have c40b0:=eq_true c40
             have c40b1:decide ((((⟨#[40]⟩:ByteArray)++t613)++t615).size+1≤9223372036854775807)=true:=decide_eq_true c40
             try (have c40b4:=c40;(conv at c40b4=>(lhs;simp));have c40b5:=eq_false (Nat.not_lt.2 c40b4))
             try (have c40b6:=c40;(conv at c40b6=>(lhs;simp [go_sem]));have c40b7:=eq_false (Nat.not_lt.2 c40b6))
             try have c40b2:(9223372036854775807 < (((⟨#[40]⟩:ByteArray)++t613)++t615).size+1)=False:=eq_false (Nat.not_lt.2 c40)
             obtain rfl:=Option.some.inj H
             go_enter Try.func60,Try.ntmps60
             try go_wp2_with (first|((with_reducible refine gate_dst (N:=1) rfl ?_);refine box_event ?hg (N:=1) ?hd (cs:=#[.int .i64 a0_0,.int .i64 a0_1,.string a0_2,.slice A0_3 l0_3.length c0_3]) (t:=27) ?hr ?_;(case hd=>rfl);(case hg=>rfl);(case hr=>first|(go_simp;done)|(go_simp;rfl));intro gb606 hg w41 hbox hb;have n0_:=Aside0.mk (below_step (gB HB) hb);have n1_:=Aside0.mk (hbox);have n2_:=Aside0.mk ((by rw [hg];exact (below_size (gB HB)):w.heap.size≤gb606));have n3_:=Aside0.mk ((by rw [hg];exact (below_size (gB HB)):w.heap.size≤gb606));clear HB;have HB:=n0_;have BK606:=n1_;have GW606:=n2_;have GE606:=n3_;clear n0_ n1_ n2_ n3_;clear hb hbox hg;have hcz42_0:w41.cell? ⟨gb606,0,none⟩=some (.int .i64 a0_0):=(blk_cell BK606.out 0).trans rfl;have hcz42_1:w41.cell? ⟨gb606,1,none⟩=some (.int .i64 a0_1):=(blk_cell BK606.out 1).trans rfl;have hcz42_2:w41.cell? ⟨gb606,2,none⟩=some (.string a0_2):=(blk_cell BK606.out 2).trans rfl;have hcz42_3:w41.cell? ⟨gb606,3,none⟩=some (.slice A0_3 l0_3.length c0_3):=(blk_cell BK606.out 3).trans rfl;have hfz42_0:=blk_frozen BK606.out 0;have hfz42_1:=blk_frozen BK606.out 1;have hfz42_2:=blk_frozen BK606.out 2;have hfz42_3:=blk_frozen BK606.out 3))
             have n0_:=Aside0.mk (blk_drew BK606.out)
             have n1_:=Aside0.mk (below_drew1 HB.out)
             clear BK606
             clear HB
             have BK606:=n0_
             have HB:=n1_
             clear n0_ n1_
             have p612:0≤(0:Int):=(by omega)
             have q612:0 < (l0_3.length:Int):=of_decide_eq_true (by first|(with_reducible assumption)|assumption)
             (try clear hx610_0);(try clear hx610_1);(try clear hx610_2);(try clear hx610_3)
             obtain ⟨ad612,A612_3,c612_3,e612,hx612_0,hx612_1,hx612_2,hx612_3,hl612_3,hi612_3⟩:=at_TDoc HR0_3.out 0 p612 q612
             (try (have ea_:=Option.some.inj (hx612_3.symm.trans hw610_3);injection ea_ with ea_ en_ ec_;subst ea_;subst ec_;clear en_))
             have hw612_3:=hx612_3
             (try rw [show ((0:Int)).toNat=0 from rfl] at hw612_3)
             (try rw [show 0 * 4=0 from rfl] at hw612_3)
             (try rw [Addr.add_zero'] at hw612_3)
             have hw612_2:=hx612_2
             (try rw [show ((0:Int)).toNat=0 from rfl] at hw612_2)
             (try rw [show 0 * 4=0 from rfl] at hw612_2)
             (try rw [Addr.add_zero'] at hw612_2)
             have hw612_1:=hx612_1
             (try rw [show ((0:Int)).toNat=0 from rfl] at hw612_1)
             (try rw [show 0 * 4=0 from rfl] at hw612_1)
             (try rw [Addr.add_zero'] at hw612_1)
             have hw612_0:=hx612_0
             (try rw [show ((0:Int)).toNat=0 from rfl] at hw612_0)
             (try rw [show 0 * 4=0 from rfl] at hw612_0)
             (try rw [Addr.add_zero'] at hw612_0)
             cases e612
             have qi612:(0 < l0_3.length)=True:=eq_true (by omega)
             (try rw [show ((0:Int)).toNat=0 from rfl] at hx612_0)
             (try rw [show 0 * 4=0 from rfl] at hx612_0)
             (try rw [Addr.add_zero'] at hx612_0)
             (try rw [show ((0:Int)).toNat=0 from rfl] at hx612_1)
             (try rw [show 0 * 4=0 from rfl] at hx612_1)
             (try rw [Addr.add_zero'] at hx612_1)
             (try rw [show ((0:Int)).toNat=0 from rfl] at hx612_2)
             (try rw [show 0 * 4=0 from rfl] at hx612_2)
             (try rw [Addr.add_zero'] at hx612_2)
             (try rw [show ((0:Int)).toNat=0 from rfl] at hx612_3)
             (try rw [show 0 * 4=0 from rfl] at hx612_3)
             (try rw [Addr.add_zero'] at hx612_3)
             replace hx612_0:=(HB.out.cell (World.block_lt_of_cell? w _ hx612_0)).trans hx612_0
             replace hx612_1:=(HB.out.cell (World.block_lt_of_cell? w _ hx612_1)).trans hx612_1
             replace hx612_2:=(HB.out.cell (World.block_lt_of_cell? w _ hx612_2)).trans hx612_2
             replace hx612_3:=(HB.out.cell (World.block_lt_of_cell? w _ hx612_3)).trans hx612_3
             have HR612_3:=Aside0.mk hi612_3
             have HC612_3:=Aside0.mk hl612_3
             clear hi612_3 hl612_3
             replace p612:=eq_true p612
             replace q612:=eq_true q612
             have p614:0≤(1:Int):=(by omega)
             have q614:1 < (l0_3.length:Int):=of_decide_eq_true (by first|(with_reducible assumption)|assumption)
             obtain ⟨ad614,A614_3,c614_3,e614,hx614_0,hx614_1,hx614_2,hx614_3,hl614_3,hi614_3⟩:=at_TDoc HR0_3.out 1 p614 q614
             have hw614_3:=hx614_3
             (try rw [show ((1:Int)).toNat=1 from rfl] at hw614_3)
             (try rw [show 1 * 4=4 from rfl] at hw614_3)
             (try simp only [Nat.reduceMul,Nat.reduceEqDiff,Go.Addr.add,↓reduceIte] at hw614_3)
             have hw614_2:=hx614_2
             (try rw [show ((1:Int)).toNat=1 from rfl] at hw614_2)
             (try rw [show 1 * 4=4 from rfl] at hw614_2)
             (try simp only [Nat.reduceMul,Nat.reduceEqDiff,Go.Addr.add,↓reduceIte] at hw614_2)
             have hw614_1:=hx614_1
             (try rw [show ((1:Int)).toNat=1 from rfl] at hw614_1)
             (try rw [show 1 * 4=4 from rfl] at hw614_1)
             (try simp only [Nat.reduceMul,Nat.reduceEqDiff,Go.Addr.add,↓reduceIte] at hw614_1)
             have hw614_0:=hx614_0
             (try rw [show ((1:Int)).toNat=1 from rfl] at hw614_0)
             (try rw [show 1 * 4=4 from rfl] at hw614_0)
             (try simp only [Nat.reduceMul,Nat.reduceEqDiff,Go.Addr.add,↓reduceIte] at hw614_0)
             obtain rfl:ad612=ad614:=(by injection e614)
             (try simp only [show (1:Int).toNat=1 from rfl,Nat.reduceMul,Nat.reduceEqDiff,Go.Addr.add,↓reduceIte] at hx614_0)
             (try simp only [show (1:Int).toNat=1 from rfl,Nat.reduceMul,Nat.reduceEqDiff,Go.Addr.add,↓reduceIte] at hx614_1)
             (try simp only [show (1:Int).toNat=1 from rfl,Nat.reduceMul,Nat.reduceEqDiff,Go.Addr.add,↓reduceIte] at hx614_2)
             (try simp only [show (1:Int).toNat=1 from rfl,Nat.reduceMul,Nat.reduceEqDiff,Go.Addr.add,↓reduceIte] at hx614_3)
             have qi614:(1 < l0_3.length)=True:=eq_true (by omega)
             (try rw [show ((1:Int)).toNat=1 from rfl] at hx614_0)
             (try rw [show 1 * 4=4 from rfl] at hx614_0)
             (try rw [show ((1:Int)).toNat=1 from rfl] at hx614_1)
             (try rw [show 1 * 4=4 from rfl] at hx614_1)
             (try rw [show ((1:Int)).toNat=1 from rfl] at hx614_2)
             (try rw [show 1 * 4=4 from rfl] at hx614_2)
             (try rw [show ((1:Int)).toNat=1 from rfl] at hx614_3)
             (try rw [show 1 * 4=4 from rfl] at hx614_3)
             replace hx614_0:=(HB.out.cell (World.block_lt_of_cell? w _ hx614_0)).trans hx614_0
             replace hx614_1:=(HB.out.cell (World.block_lt_of_cell? w _ hx614_1)).trans hx614_1
             replace hx614_2:=(HB.out.cell (World.block_lt_of_cell? w _ hx614_2)).trans hx614_2
             replace hx614_3:=(HB.out.cell (World.block_lt_of_cell? w _ hx614_3)).trans hx614_3
             have HR614_3:=Aside0.mk hi614_3
             have HC614_3:=Aside0.mk hl614_3
             clear hi614_3 hl614_3
             replace p614:=eq_true p614
             replace q614:=eq_true q614
             refine start_ (n:=14) (S:=fun w'=>w'.cell? ⟨gb606,0,none⟩=some (.int .i64 a0_0)∧w'.cell? ⟨gb606,1,none⟩=some (.int .i64 a0_1)∧w'.cell? ⟨gb606,2,none⟩=some (.string a0_2)∧w'.cell? ⟨gb606,3,none⟩=some (.slice (some ad612) l0_3.length c0_3)∧w'.cell? ad612=some (.int .i64 ((rd_TDoc l0_3 0).f0))∧w'.cell? ⟨ad612.block,ad612.off+1,none⟩=some (.int .i64 ((rd_TDoc l0_3 0).f1))∧w'.cell? ⟨ad612.block,ad612.off+2,none⟩=some (.string ((rd_TDoc l0_3 0).f2))∧w'.cell? ⟨ad612.block,ad612.off+3,none⟩=some (.slice A612_3 ((rd_TDoc l0_3 0).f3).length c612_3)∧w'.cell? ⟨ad612.block,ad612.off+4,none⟩=some (.int .i64 ((rd_TDoc l0_3 1).f0))∧w'.cell? ⟨ad612.block,ad612.off+4+1,none⟩=some (.int .i64 ((rd_TDoc l0_3 1).f1))∧w'.cell? ⟨ad612.block,ad612.off+4+2,none⟩=some (.string ((rd_TDoc l0_3 1).f2))∧w'.cell? ⟨ad612.block,ad612.off+4+3,none⟩=some (.slice A614_3 ((rd_TDoc l0_3 1).f3).length c614_3)) (ds:=[]) #[false,false,false,false,false,false,false,false,false,false,false,false,false,false] (by kernel_rfl) rfl rfl ⟨(blk_cell BK606.out 0).trans rfl,(blk_cell BK606.out 1).trans rfl,(blk_cell BK606.out 2).trans rfl,(blk_cell BK606.out 3).trans rfl,((HB.out.cell (World.block_lt_of_cell? w _ hw612_0)).trans hw612_0),((HB.out.cell (World.block_lt_of_cell? w _ hw612_1)).trans hw612_1),((HB.out.cell (World.block_lt_of_cell? w _ hw612_2)).trans hw612_2),((HB.out.cell (World.block_lt_of_cell? w _ hw612_3)).trans hw612_3),((HB.out.cell (World.block_lt_of_cell? w _ hw614_0)).trans hw614_0),((HB.out.cell (World.block_lt_of_cell? w _ hw614_1)).trans hw614_1),((HB.out.cell (World.block_lt_of_cell? w _ hw614_2)).trans hw614_2),((HB.out.cell (World.block_lt_of_cell? w _ hw614_3)).trans hw614_3)⟩ (fun hHeld=>?_);refine with_tabW impl_formatDoc.tab15 impl_formatDoc.bits15 (fun HT_ HW_=>?_)
             generalize w41.drew=w43 at BK606 HB HR612_3 HR614_3 hx612_0 hx612_1 hx612_2 hx612_3 hx614_0 hx614_1 hx614_2 hx614_3 hHeld ⊢
             refine pure_ (i:=0) (N:=some 37) (v:=?_) (a':=?_) #[true,false,false,false,false,false,false,false,false,false,false,false,false,false] rfl rfl (any_of HT_.out (by kernel_rfl)) (fun _ _ _ h=>h) (Or.inl ⟨by rfl,?_⟩) ?_ ?_
             rotate_left
             ·intro w'
              go_simp
              with_reducible rfl
             rotate_left
             ·simp only [Act.put,List.setIfInBounds_toArray,List.set_cons_zero,List.set_cons_succ,i64_w,i32_w]
              rfl
             refine pure_ (i:=6) (N:=some 43) (v:=?_) (a':=?_) #[true,false,false,false,false,false,true,false,false,false,false,false,false,false] rfl rfl (any_of HT_.out (by kernel_rfl)) (fun _ _ _ h=>h) (Or.inl ⟨by rfl,?_⟩) ?_ ?_
             rotate_left
             ·intro w'
              go_simp
              with_reducible rfl
             rotate_left
             ·simp only [Act.put,List.setIfInBounds_toArray,List.set_cons_zero,List.set_cons_succ,i64_w,i32_w]
              rfl
             refine take_ (i:=1) (N:=some 38) (v:=?_) (a':=?_) #[true,true,false,false,false,false,true,false,false,false,false,false,false,false] rfl rfl (take_ofW HT_.out HW_.out (by kernel_rfl)) (fun _ _ _ h=>h) (Or.inl ⟨by rfl,?_⟩) hHeld ?_ ?_
             rotate_left
             ·rintro w' ⟨s0,s1,s2,s3,s4,s5,s6,s7,s8,s9,s10,s11⟩
              go_simp
              with_reducible rfl
             rotate_left
             ·simp only [Act.put,List.setIfInBounds_toArray,List.set_cons_zero,List.set_cons_succ,i64_w,i32_w]
              rfl
             refine pure_ (i:=2) (N:=some 39) (v:=?_) (a':=?_) #[true,true,true,false,false,false,true,false,false,false,false,false,false,false] rfl rfl (any_of HT_.out (by kernel_rfl)) (fun _ _ _ h=>h) (Or.inl ⟨by rfl,?_⟩) ?_ ?_
             rotate_left
             ·intro w'
              go_simp
              with_reducible rfl
             rotate_left
             ·simp only [Act.put,List.setIfInBounds_toArray,List.set_cons_zero,List.set_cons_succ,i64_w,i32_w]
              rfl
             refine take_ (i:=3) (N:=some 40) (v:=?_) (a':=?_) #[true,true,true,true,false,false,true,false,false,false,false,false,false,false] rfl rfl (take_ofW HT_.out HW_.out (by kernel_rfl)) (fun _ _ _ h=>h) (Or.inl ⟨by rfl,?_⟩) hHeld ?_ ?_
             rotate_left
             ·rintro w' ⟨s0,s1,s2,s3,s4,s5,s6,s7,s8,s9,s10,s11⟩
              go_simp
              with_reducible rfl
             rotate_left
             ·simp only [Act.put,List.setIfInBounds_toArray,List.set_cons_zero,List.set_cons_succ,i64_w,i32_w]
              rfl
             refine take_ (i:=7) (N:=some 44) (v:=?_) (a':=?_) #[true,true,true,true,false,false,true,true,false,false,false,false,false,false] rfl rfl (take_ofW HT_.out HW_.out (by kernel_rfl)) (fun _ _ _ h=>h) (Or.inl ⟨by rfl,?_⟩) hHeld ?_ ?_
             rotate_left
             ·rintro w' ⟨s0,s1,s2,s3,s4,s5,s6,s7,s8,s9,s10,s11⟩
              go_simp
              with_reducible rfl
             rotate_left
             ·simp only [Act.put,List.setIfInBounds_toArray,List.set_cons_zero,List.set_cons_succ,i64_w,i32_w]
              rfl
             refine pure_ (i:=8) (N:=some 45) (v:=?_) (a':=?_) #[true,true,true,true,false,false,true,true,true,false,false,false,false,false] rfl rfl (any_of HT_.out (by kernel_rfl)) (fun _ _ _ h=>h) (Or.inl ⟨by rfl,?_⟩) ?_ ?_
             rotate_left
             ·intro w'
              go_simp
              with_reducible rfl
             rotate_left
             ·simp only [Act.put,List.setIfInBounds_toArray,List.set_cons_zero,List.set_cons_succ,i64_w,i32_w]
              rfl
             refine take_ (i:=9) (N:=some 46) (v:=?_) (a':=?_) #[true,true,true,true,false,false,true,true,true,true,false,false,false,false] rfl rfl (take_ofW HT_.out HW_.out (by kernel_rfl)) (fun _ _ _ h=>h) (Or.inl ⟨by rfl,?_⟩) hHeld ?_ ?_
             rotate_left
             ·rintro w' ⟨s0,s1,s2,s3,s4,s5,s6,s7,s8,s9,s10,s11⟩
              go_simp
              with_reducible rfl
             rotate_left
             ·simp only [Act.put,List.setIfInBounds_toArray,List.set_cons_zero,List.set_cons_succ,i64_w,i32_w]
              rfl
             refine one_ (i:=4) (N:=some 41) #[true,true,true,true,true,false,true,true,true,true,false,false,false,false] rfl rfl (one_of HT_.out (by kernel_rfl)) (by decide) (fun K hK=>?_)
             refine goes_ Try.func60 (by kernel_rfl) rfl #[.agg #[.int .i64 ((rd_TDoc l0_3 0).f0),.int .i64 ((rd_TDoc l0_3 0).f1),.string ((rd_TDoc l0_3 0).f2),.slice A612_3 ((rd_TDoc l0_3 0).f3).length c612_3]] (by rfl) rfl rfl (by (try simp only [List.map_toArray,List.map_cons,List.map_nil]);first|done|rfl|(simp only [List.length_drop,List.length_take];rfl)) ?_
             with_reducible refine (ih k (by omega) ((rd_TDoc l0_3 0).f0) ((rd_TDoc l0_3 0).f1) ((rd_TDoc l0_3 0).f2) _ _ ((rd_TDoc l0_3 0).f3) t613 _ ?side1 ?side2 A35.out).mono ?_
             (case side1=>exact gC (Kd.C_below HR612_3.out HB.out))
             (case side2=>exact HC612_3.out)
             rintro e w44 ⟨rfl,hb⟩
             refine ⟨_,rfl,?_⟩
             have n0_:=Aside0.mk (blk_below (g:=gb606) (o:=.cells #[.int .i64 a0_0,.int .i64 a0_1,.string a0_2,.slice (some ad612) l0_3.length c0_3] 27 (0,0)) (gK BK606) hb)
             have n1_:=Aside0.mk (below_step (by repeat (first|exact gB HB|refine below_set ?_ GE606.out)) hb)
             clear BK606
             clear HB
             have BK606:=n0_
             have HB:=n1_
             clear n0_ n1_
             (try clear hb)
             (try clear hb2)
             (try clear hk)
             (try clear hi)
             refine hK.out _ _ ⟨(blk_cell BK606.out 0).trans rfl,(blk_cell BK606.out 1).trans rfl,(blk_cell BK606.out 2).trans rfl,(blk_cell BK606.out 3).trans rfl,((HB.out.cell (World.block_lt_of_cell? w _ hw612_0)).trans hw612_0),((HB.out.cell (World.block_lt_of_cell? w _ hw612_1)).trans hw612_1),((HB.out.cell (World.block_lt_of_cell? w _ hw612_2)).trans hw612_2),((HB.out.cell (World.block_lt_of_cell? w _ hw612_3)).trans hw612_3),((HB.out.cell (World.block_lt_of_cell? w _ hw614_0)).trans hw614_0),((HB.out.cell (World.block_lt_of_cell? w _ hw614_1)).trans hw614_1),((HB.out.cell (World.block_lt_of_cell? w _ hw614_2)).trans hw614_2),((HB.out.cell (World.block_lt_of_cell? w _ hw614_3)).trans hw614_3)⟩ (fun hHeld=>?_)
             clear hK K
             refine norm_ (a':=?_) ?_ ?_
             rotate_left
             ·show Act.put _ (some 41) _=_
              simp only [Act.put,List.setIfInBounds_toArray,List.set_cons_zero,List.set_cons_succ,i64_w,i32_w]
              rfl
             refine pure_ (i:=5) (N:=some 42) (v:=?_) (a':=?_) #[true,true,true,true,true,true,true,true,true,true,false,false,false,false] rfl rfl (any_of HT_.out (by kernel_rfl)) (fun _ _ _ h=>h) (Or.inl ⟨by rfl,?_⟩) ?_ ?_
             rotate_left
             ·intro w'
              go_simp
              with_reducible rfl
             rotate_left
             ·simp only [Act.put,List.setIfInBounds_toArray,List.set_cons_zero,List.set_cons_succ,i64_w,i32_w]
              rfl
             refine one_ (i:=10) (N:=some 47) #[true,true,true,true,true,true,true,true,true,true,true,false,false,false] rfl rfl (one_of HT_.out (by kernel_rfl)) (by decide) (fun K hK=>?_)
             refine goes_ Try.func60 (by kernel_rfl) rfl #[.agg #[.int .i64 ((rd_TDoc l0_3 1).f0),.int .i64 ((rd_TDoc l0_3 1).f1),.string ((rd_TDoc l0_3 1).f2),.slice A614_3 ((rd_TDoc l0_3 1).f3).length c614_3]] (by rfl) rfl rfl (by (try simp only [List.map_toArray,List.map_cons,List.map_nil]);first|done|rfl|(simp only [List.length_drop,List.length_take];rfl)) ?_
             with_reducible refine (ih k (by omega) ((rd_TDoc l0_3 1).f0) ((rd_TDoc l0_3 1).f1) ((rd_TDoc l0_3 1).f2) _ _ ((rd_TDoc l0_3 1).f3) t615 _ ?side1 ?side2 A38.out).mono ?_
             (case side1=>exact gC (Kd.C_below HR614_3.out HB.out))
             (case side2=>exact HC614_3.out)
             rintro e w45 ⟨rfl,hb⟩
             refine ⟨_,rfl,?_⟩
             have n0_:=Aside0.mk (blk_below (g:=gb606) (o:=.cells #[.int .i64 a0_0,.int .i64 a0_1,.string a0_2,.slice (some ad612) l0_3.length c0_3] 27 (0,0)) (gK BK606) hb)
             have n1_:=Aside0.mk (below_step (by repeat (first|exact gB HB|refine below_set ?_ GE606.out)) hb)
             clear BK606
             clear HB
             have BK606:=n0_
             have HB:=n1_
             clear n0_ n1_
             (try clear hb)
             (try clear hb2)
             (try clear hk)
             (try clear hi)
             refine hK.out _ _ ⟨(blk_cell BK606.out 0).trans rfl,(blk_cell BK606.out 1).trans rfl,(blk_cell BK606.out 2).trans rfl,(blk_cell BK606.out 3).trans rfl,((HB.out.cell (World.block_lt_of_cell? w _ hw612_0)).trans hw612_0),((HB.out.cell (World.block_lt_of_cell? w _ hw612_1)).trans hw612_1),((HB.out.cell (World.block_lt_of_cell? w _ hw612_2)).trans hw612_2),((HB.out.cell (World.block_lt_of_cell? w _ hw612_3)).trans hw612_3),((HB.out.cell (World.block_lt_of_cell? w _ hw614_0)).trans hw614_0),((HB.out.cell (World.block_lt_of_cell? w _ hw614_1)).trans hw614_1),((HB.out.cell (World.block_lt_of_cell? w _ hw614_2)).trans hw614_2),((HB.out.cell (World.block_lt_of_cell? w _ hw614_3)).trans hw614_3)⟩ (fun hHeld=>?_)
             clear hK K
             refine norm_ (a':=?_) ?_ ?_
             rotate_left
             ·show Act.put _ (some 47) _=_
              simp only [Act.put,List.setIfInBounds_toArray,List.set_cons_zero,List.set_cons_succ,i64_w,i32_w]
              rfl
             refine pure_ (i:=11) (N:=some 48) (v:=?_) (a':=?_) #[true,true,true,true,true,true,true,true,true,true,true,true,false,false] rfl rfl (any_of HT_.out (by kernel_rfl)) (fun _ _ _ h=>h) (Or.inl ⟨by rfl,?_⟩) ?_ ?_
             rotate_left
             ·intro w'
              go_simp
              with_reducible rfl
             rotate_left
             ·simp only [Act.put,List.setIfInBounds_toArray,List.set_cons_zero,List.set_cons_succ,i64_w,i32_w]
              rfl
             refine pure_ (i:=12) (N:=some 49) (v:=?_) (a':=?_) #[true,true,true,true,true,true,true,true,true,true,true,true,true,false] rfl rfl (any_of HT_.out (by kernel_rfl)) (fun _ _ _ h=>h) (Or.inl ⟨by rfl,?_⟩) ?_ ?_
             rotate_left
             ·intro w'
              go_simp
              with_reducible rfl
             rotate_left
             ·simp only [Act.put,List.setIfInBounds_toArray,List.set_cons_zero,List.set_cons_succ,i64_w,i32_w]
              rfl
             refine pure_ (i:=13) (N:=some 2) (v:=?_) (a':=?_) #[true,true,true,true,true,true,true,true,true,true,true,true,true,true] rfl rfl (any_of HT_.out (by kernel_rfl)) (fun _ _ _ h=>h) (Or.inl ⟨by rfl,?_⟩) ?_ ?_
             rotate_left
             ·intro w'
              go_simp
              with_reducible rfl
             rotate_left
             ·simp only [Act.put,List.setIfInBounds_toArray,List.set_cons_zero,List.set_cons_succ,i64_w,i32_w]
              rfl
             refine done_ (done_of HT_.out (by kernel_rfl)) ?_
             try go_wp2
             go_ret
             exact ⟨by first|rfl|(simp [errW_none,errW_some] <;> rfl)|(simp [*,errW_none,errW_some] <;> rfl),by repeat (first|exact gB HB|refine below_set ?_ GE606.out)⟩
            ·rw [if_neg c40] at H
             exact absurd H (by simp)
           ·rw [if_neg c39] at H
            exact absurd H (by simp)
          ·rw [if_neg c37] at H
           exact absurd H (by simp)
         ·rw [if_neg c36] at H
          exact absurd H (by simp)
        ·rw [if_neg c34] at H
         exact absurd H (by simp)
       ·rw [if_neg c33] at H
        have c33b0:(a0_0 == 7)=false:=beq_eq_false_iff_ne.mpr c33
        have c33b1:(a0_0 != 7)=true:=bne_iff_ne.mpr c33
        by_cases c46:0 < (l0_3.length:Int)
        ·rw [if_pos c46] at H
         have c46b0:decide (0 < (l0_3.length:Int))=true:=decide_eq_true c46
         have c46b1:decide (0 < l0_3.length)=true:=decide_eq_true (by omega)
         clear c46
         replace H:=Option.bind_eq_some_iff.mp H
         obtain ⟨t617,A470,H⟩:=H
         replace H:(if 1+t617.size≤9223372036854775807 then (if ((⟨#[91]⟩:ByteArray)++t617).size+1≤9223372036854775807 then (some (((⟨#[91]⟩:ByteArray)++t617)++(⟨#[93]⟩:ByteArray))) else (none)) else (none))=some r:=H
         have A47:=Aside0.mk A470
         clear A470
         by_cases c48:1+t617.size≤9223372036854775807
         ·rw [if_pos c48] at H
          have c48b0:=eq_true c48
          have c48b1:decide (1+t617.size≤9223372036854775807)=true:=decide_eq_true c48
          try have c48b2:(9223372036854775807 < 1+t617.size)=False:=eq_false (Nat.not_lt.2 c48)
          by_cases c49:((⟨#[91]⟩:ByteArray)++t617).size+1≤9223372036854775807
          ·rw [if_pos c49] at H
           have c49b0:=eq_true c49
           have c49b1:decide (((⟨#[91]⟩:ByteArray)++t617).size+1≤9223372036854775807)=true:=decide_eq_true c49
           try (have c49b4:=c49;(conv at c49b4=>(lhs;simp));have c49b5:=eq_false (Nat.not_lt.2 c49b4))
           try (have c49b6:=c49;(conv at c49b6=>(lhs;simp [go_sem]));have c49b7:=eq_false (Nat.not_lt.2 c49b6))
           try have c49b2:(9223372036854775807 < ((⟨#[91]⟩:ByteArray)++t617).size+1)=False:=eq_false (Nat.not_lt.2 c49)
           obtain rfl:=Option.some.inj H
           go_enter Try.func60,Try.ntmps60
           go_wp2_with (first|((with_reducible refine gate_dst (N:=1) rfl ?_);refine box_event ?hg (N:=1) ?hd (cs:=#[.int .i64 a0_0,.int .i64 a0_1,.string a0_2,.slice A0_3 l0_3.length c0_3]) (t:=27) ?hr ?_;(case hd=>rfl);(case hg=>rfl);(case hr=>first|(go_simp;done)|(go_simp;rfl));intro gb606 hg w50 hbox hb;have n0_:=Aside0.mk (below_step (gB HB) hb);have n1_:=Aside0.mk (hbox);have n2_:=Aside0.mk ((by rw [hg];exact (below_size (gB HB)):w.heap.size≤gb606));have n3_:=Aside0.mk ((by rw [hg];exact (below_size (gB HB)):w.heap.size≤gb606));clear HB;have HB:=n0_;have BK606:=n1_;have GW606:=n2_;have GE606:=n3_;clear n0_ n1_ n2_ n3_;clear hb hbox hg;have hcz51_0:w50.cell? ⟨gb606,0,none⟩=some (.int .i64 a0_0):=(blk_cell BK606.out 0).trans rfl;have hcz51_1:w50.cell? ⟨gb606,1,none⟩=some (.int .i64 a0_1):=(blk_cell BK606.out 1).trans rfl;have hcz51_2:w50.cell? ⟨gb606,2,none⟩=some (.string a0_2):=(blk_cell BK606.out 2).trans rfl;have hcz51_3:w50.cell? ⟨gb606,3,none⟩=some (.slice A0_3 l0_3.length c0_3):=(blk_cell BK606.out 3).trans rfl;have hfz51_0:=blk_frozen BK606.out 0;have hfz51_1:=blk_frozen BK606.out 1;have hfz51_2:=blk_frozen BK606.out 2;have hfz51_3:=blk_frozen BK606.out 3;have p616:0≤(0:Int):=(by omega);have q616:0 < (l0_3.length:Int):=of_decide_eq_true (by first|(with_reducible assumption)|assumption);obtain ⟨ad616,A616_3,c616_3,e616,hx616_0,hx616_1,hx616_2,hx616_3,hl616_3,hi616_3⟩:=at_TDoc HR0_3.out 0 p616 q616;cases e616;have qi616:(0 < l0_3.length)=True:=eq_true (by omega);(try rw [show ((0:Int)).toNat=0 from rfl] at hx616_0);(try rw [show 0 * 4=0 from rfl] at hx616_0);(try rw [Addr.add_zero'] at hx616_0);(try rw [show ((0:Int)).toNat=0 from rfl] at hx616_1);(try rw [show 0 * 4=0 from rfl] at hx616_1);(try rw [Addr.add_zero'] at hx616_1);(try rw [show ((0:Int)).toNat=0 from rfl] at hx616_2);(try rw [show 0 * 4=0 from rfl] at hx616_2);(try rw [Addr.add_zero'] at hx616_2);(try rw [show ((0:Int)).toNat=0 from rfl] at hx616_3);(try rw [show 0 * 4=0 from rfl] at hx616_3);(try rw [Addr.add_zero'] at hx616_3);replace hx616_0:=(HB.out.cell (World.block_lt_of_cell? w _ hx616_0)).trans hx616_0;replace hx616_1:=(HB.out.cell (World.block_lt_of_cell? w _ hx616_1)).trans hx616_1;replace hx616_2:=(HB.out.cell (World.block_lt_of_cell? w _ hx616_2)).trans hx616_2;replace hx616_3:=(HB.out.cell (World.block_lt_of_cell? w _ hx616_3)).trans hx616_3;have HR616_3:=Aside0.mk hi616_3;have HC616_3:=Aside0.mk hl616_3;clear hi616_3 hl616_3;replace p616:=eq_true p616;replace q616:=eq_true q616)|((with_reducible refine gate_callee (f:=60) rfl ?_);refine goesL_ (some 54) rfl rfl Try.func60 (by kernel_rfl) rfl #[.agg #[.int .i64 ((rd_TDoc l0_3 0).f0),.int .i64 ((rd_TDoc l0_3 0).f1),.string ((rd_TDoc l0_3 0).f2),.slice A616_3 ((rd_TDoc l0_3 0).f3).length c616_3]] rfl (by (try simp only [List.map_toArray,List.map_cons,List.map_nil]);first|done|rfl|(simp only [List.length_drop,List.length_take];rfl)) ?_;(with_reducible refine (ih k (by omega) ((rd_TDoc l0_3 0).f0) ((rd_TDoc l0_3 0).f1) ((rd_TDoc l0_3 0).f2) _ _ ((rd_TDoc l0_3 0).f3) t617 _ ?side1 ?side2 A47.out).mono ?_);(case side1=>exact gC (Kd.C_below HR616_3.out HB.out));(case side2=>exact HC616_3.out);rintro e w52 ⟨rfl,hb⟩;refine ⟨_,rfl,?_⟩;have n0_:=Aside0.mk (blk_below (g:=gb606) (o:=.cells #[.int .i64 a0_0,.int .i64 a0_1,.string a0_2,.slice (some ad616) l0_3.length c0_3] 27 (0,0)) (gK BK606) hb);have n1_:=Aside0.mk (below_step (by repeat (first|exact gB HB|refine below_set ?_ GE606.out)) hb);clear BK606;clear HB;have BK606:=n0_;have HB:=n1_;clear n0_ n1_;(try clear hb);(try clear hb2);(try clear hk);(try clear hi)))
           go_ret
           exact ⟨by first|rfl|(simp [errW_none,errW_some] <;> rfl)|(simp [*,errW_none,errW_some] <;> rfl),by repeat (first|exact gB HB|refine below_set ?_ GE606.out)⟩
          ·rw [if_neg c49] at H
           exact absurd H (by simp)
         ·rw [if_neg c48] at H
          exact absurd H (by simp)
        ·rw [if_neg c46] at H
         exact absurd H (by simp)
end Go.Proofs.Ytdhdfmmefghijaa.P
namespace Go.Proofs.Ytdhdfmmefghijaa.P
open Go.RowKit Go.Proofs.YtdhdfmmefghijaaW.PrintWords Go.Proofs.YtdhdfmmefghijaaW.PrintLast Go.Proofs.YtdhdfmmefghijaaW.PrintMore
attribute [local go_sem] max2_int min2_int max_two min_two max_three min_three max_four min_four
set_option linter.unusedVariables false
set_option linter.unusedSimpArgs false
def impl_FormatDoc.f (k:Nat) (a0_0:Int) (a0_1:Int) (a0_2:ByteArray) (l0_3:List (SDoc)):Option (ByteArray):=(impl_DocValid.f k a0_0 a0_1 a0_2 l0_3).bind fun t619=>(if t619=true then ((impl_formatDoc.f k a0_0 a0_1 a0_2 l0_3).bind fun t620=>(some t620)) else (some (⟨#[]⟩:ByteArray)))
set_option maxHeartbeats 8000000 in
set_option maxRecDepth 100000 in
theorem impl_FormatDoc.calls (k:Nat) (a0_0:Int) (a0_1:Int) (a0_2:ByteArray) (A0_3:Option Addr) (c0_3:Nat) (l0_3:List (SDoc)) (r:ByteArray) (w:World) (hr0_3:Kd.C k27 w A0_3 l0_3.length l0_3) (hc0_3:l0_3.length≤c0_3) (h:impl_FormatDoc.f k a0_0 a0_1 a0_2 l0_3=some r) :
  Calls Try.prog 36 #[.agg #[.int .i64 a0_0,.int .i64 a0_1,.string a0_2,.slice A0_3 l0_3.length c0_3]] w fun e w'=>e=.returned (.string r)∧Below w.heap.size w w':=by
 have hu27:=Try.underlying27
 have HR0_3:=Aside0.mk hr0_3
 have HC0_3:=Aside0.mk hc0_3
 clear hr0_3 hc0_3
 have HB:=Aside0.mk (Below.refl w.heap.size w)
 have H:((impl_DocValid.f k a0_0 a0_1 a0_2 l0_3).bind fun t619=>(if t619=true then ((impl_formatDoc.f k a0_0 a0_1 a0_2 l0_3).bind fun t620=>(some t620)) else (some (⟨#[]⟩:ByteArray))))=some r:=h
 clear h
 replace H:=Option.bind_eq_some_iff.mp H
 obtain ⟨t619,A20,H⟩:=H
 replace H:(if t619=true then ((impl_formatDoc.f k a0_0 a0_1 a0_2 l0_3).bind fun t620=>(some t620)) else (some (⟨#[]⟩:ByteArray)))=some r:=H
 have A2:=Aside0.mk A20
 clear A20
 by_cases c3:t619=true
 ·subst c3
  have H1:((impl_formatDoc.f k a0_0 a0_1 a0_2 l0_3).bind fun t620=>(some t620))=some r:=by rw [if_pos rfl] at H;exact H
  clear H
  have H:=H1
  clear H1
  replace H:=Option.bind_eq_some_iff.mp H
  obtain ⟨t620,A40,H⟩:=H
  replace H:(some t620)=some r:=H
  have A4:=Aside0.mk A40
  clear A40
  obtain rfl:=Option.some.inj H
  go_enter Try.func36,Try.ntmps36
  go_wp2_with (first|((with_reducible refine gate_dst (N:=1) rfl ?_);refine box_event ?hg (N:=1) ?hd (cs:=#[.int .i64 a0_0,.int .i64 a0_1,.string a0_2,.slice A0_3 l0_3.length c0_3]) (t:=27) ?hr ?_;(case hd=>rfl);(case hg=>rfl);(case hr=>first|(go_simp;done)|(go_simp;rfl));intro gb618 hg w5 hbox hb;have n0_:=Aside0.mk (below_step (by repeat (first|(with_reducible first|exact HB.out|apply below_alloc|apply pw_below_drewN|apply below_drew1)|exact HB.out)) hb);have n1_:=Aside0.mk (hbox);have n2_:=Aside0.mk ((by rw [hg];exact (below_size (by repeat (first|(with_reducible first|exact HB.out|apply below_alloc|apply pw_below_drewN|apply below_drew1)|exact HB.out))):w.heap.size≤gb618));have n3_:=Aside0.mk ((by rw [hg];exact (below_size (by repeat (first|(with_reducible first|exact HB.out|apply below_alloc|apply pw_below_drewN|apply below_drew1)|exact HB.out))):w.heap.size≤gb618));clear HB;have HB:=n0_;have BK618:=n1_;have GW618:=n2_;have GE618:=n3_;clear n0_ n1_ n2_ n3_;clear hb hbox hg;have hcz6_0:w5.cell? ⟨gb618,0,none⟩=some (.int .i64 a0_0):=(blk_cell BK618.out 0).trans rfl;have hcz6_1:w5.cell? ⟨gb618,1,none⟩=some (.int .i64 a0_1):=(blk_cell BK618.out 1).trans rfl;have hcz6_2:w5.cell? ⟨gb618,2,none⟩=some (.string a0_2):=(blk_cell BK618.out 2).trans rfl;have hcz6_3:w5.cell? ⟨gb618,3,none⟩=some (.slice A0_3 l0_3.length c0_3):=(blk_cell BK618.out 3).trans rfl;have hfz6_0:=blk_frozen BK618.out 0;have hfz6_1:=blk_frozen BK618.out 1;have hfz6_2:=blk_frozen BK618.out 2;have hfz6_3:=blk_frozen BK618.out 3)|((with_reducible refine gate_callee (f:=24) rfl ?_);refine goesL_ (some 4) rfl rfl Try.func24 (by kernel_rfl) rfl #[.agg #[.int .i64 a0_0,.int .i64 a0_1,.string a0_2,.slice A0_3 l0_3.length c0_3]] rfl (by (try simp only [List.map_toArray,List.map_cons,List.map_nil]);first|done|rfl|(simp only [List.length_drop,List.length_take];rfl)) ?_;(with_reducible refine (impl_DocValid.calls k a0_0 a0_1 a0_2 _ _ l0_3 true _ ?side1 ?side2 A2.out).mono ?_);(case side1=>repeat (first|exact (Kd.C_below HR0_3.out HB.out)|(with_reducible refine Kd.C_alloc ?_ _)|(with_reducible refine Kd.C_drewN ?_ _)|(with_reducible refine Kd.C_drew ?_)));(case side2=>exact HC0_3.out);rintro e w7 ⟨rfl,hb⟩;refine ⟨_,rfl,?_⟩;have n0_:=Aside0.mk (blk_below (g:=gb618) (o:=.cells #[.int .i64 a0_0,.int .i64 a0_1,.string a0_2,.slice A0_3 l0_3.length c0_3] 27 (0,0)) (by (with_reducible repeat (first|refine blk_drewN ?_ _|refine blk_drew ?_|refine blk_alloc ?_ _));exact BK618.out) hb);have n1_:=Aside0.mk (below_step (by repeat (first|(with_reducible first|exact HB.out|apply below_alloc|apply pw_below_drewN|apply below_drew1|refine below_set ?_ GE618.out)|exact HB.out)) hb);clear BK618;clear HB;have BK618:=n0_;have HB:=n1_;clear n0_ n1_;(try clear hb);(try clear hb2);(try clear hk);(try clear hi);have hcz8_0:w7.cell? ⟨gb618,0,none⟩=some (.int .i64 a0_0):=(blk_cell BK618.out 0).trans rfl;have hcz8_1:w7.cell? ⟨gb618,1,none⟩=some (.int .i64 a0_1):=(blk_cell BK618.out 1).trans rfl;have hcz8_2:w7.cell? ⟨gb618,2,none⟩=some (.string a0_2):=(blk_cell BK618.out 2).trans rfl;have hcz8_3:w7.cell? ⟨gb618,3,none⟩=some (.slice A0_3 l0_3.length c0_3):=(blk_cell BK618.out 3).trans rfl;have hfz8_0:=blk_frozen BK618.out 0;have hfz8_1:=blk_frozen BK618.out 1;have hfz8_2:=blk_frozen BK618.out 2;have hfz8_3:=blk_frozen BK618.out 3)|((with_reducible refine gate_callee (f:=60) rfl ?_);refine goesL_ (some 7) rfl rfl Try.func60 (by kernel_rfl) rfl #[.agg #[.int .i64 a0_0,.int .i64 a0_1,.string a0_2,.slice A0_3 l0_3.length c0_3]] rfl (by (try simp only [List.map_toArray,List.map_cons,List.map_nil]);first|done|rfl|(simp only [List.length_drop,List.length_take];rfl)) ?_;(with_reducible refine (impl_formatDoc.calls k a0_0 a0_1 a0_2 _ _ l0_3 t620 _ ?side1 ?side2 A4.out).mono ?_);(case side1=>repeat (first|exact (Kd.C_below HR0_3.out HB.out)|(with_reducible refine Kd.C_alloc ?_ _)|(with_reducible refine Kd.C_drewN ?_ _)|(with_reducible refine Kd.C_drew ?_)));(case side2=>exact HC0_3.out);rintro e w9 ⟨rfl,hb⟩;refine ⟨_,rfl,?_⟩;have n0_:=Aside0.mk (blk_below (g:=gb618) (o:=.cells #[.int .i64 a0_0,.int .i64 a0_1,.string a0_2,.slice A0_3 l0_3.length c0_3] 27 (0,0)) (by (with_reducible repeat (first|refine blk_drewN ?_ _|refine blk_drew ?_|refine blk_alloc ?_ _));exact BK618.out) hb);have n1_:=Aside0.mk (below_step (by repeat (first|(with_reducible first|exact HB.out|apply below_alloc|apply pw_below_drewN|apply below_drew1|refine below_set ?_ GE618.out)|exact HB.out)) hb);clear BK618;clear HB;have BK618:=n0_;have HB:=n1_;clear n0_ n1_;(try clear hb);(try clear hb2);(try clear hk);(try clear hi)))
  go_ret
  exact ⟨by first|rfl|(simp [errW_none,errW_some] <;> rfl)|(simp [*,errW_none,errW_some] <;> rfl),by repeat (first|(with_reducible first|exact HB.out|apply below_alloc|apply pw_below_drewN|apply below_drew1|refine below_set ?_ GE618.out)|exact HB.out)⟩
 ·replace c3:=Bool.eq_false_iff.mpr c3
  subst c3
  have H1:(some (⟨#[]⟩:ByteArray))=some r:=by rw [if_neg (show ¬ (false=true) by decide)] at H;exact H
  clear H
  have H:=H1
  clear H1
  obtain rfl:=Option.some.inj H
  go_enter Try.func36,Try.ntmps36
  go_wp2_with (first|((with_reducible refine gate_dst (N:=1) rfl ?_);refine box_event ?hg (N:=1) ?hd (cs:=#[.int .i64 a0_0,.int .i64 a0_1,.string a0_2,.slice A0_3 l0_3.length c0_3]) (t:=27) ?hr ?_;(case hd=>rfl);(case hg=>rfl);(case hr=>first|(go_simp;done)|(go_simp;rfl));intro gb618 hg w10 hbox hb;have n0_:=Aside0.mk (below_step (by repeat (first|(with_reducible first|exact HB.out|apply below_alloc|apply pw_below_drewN|apply below_drew1)|exact HB.out)) hb);have n1_:=Aside0.mk (hbox);have n2_:=Aside0.mk ((by rw [hg];exact (below_size (by repeat (first|(with_reducible first|exact HB.out|apply below_alloc|apply pw_below_drewN|apply below_drew1)|exact HB.out))):w.heap.size≤gb618));have n3_:=Aside0.mk ((by rw [hg];exact (below_size (by repeat (first|(with_reducible first|exact HB.out|apply below_alloc|apply pw_below_drewN|apply below_drew1)|exact HB.out))):w.heap.size≤gb618));clear HB;have HB:=n0_;have BK618:=n1_;have GW618:=n2_;have GE618:=n3_;clear n0_ n1_ n2_ n3_;clear hb hbox hg;have hcz11_0:w10.cell? ⟨gb618,0,none⟩=some (.int .i64 a0_0):=(blk_cell BK618.out 0).trans rfl;have hcz11_1:w10.cell? ⟨gb618,1,none⟩=some (.int .i64 a0_1):=(blk_cell BK618.out 1).trans rfl;have hcz11_2:w10.cell? ⟨gb618,2,none⟩=some (.string a0_2):=(blk_cell BK618.out 2).trans rfl;have hcz11_3:w10.cell? ⟨gb618,3,none⟩=some (.slice A0_3 l0_3.length c0_3):=(blk_cell BK618.out 3).trans rfl;have hfz11_0:=blk_frozen BK618.out 0;have hfz11_1:=blk_frozen BK618.out 1;have hfz11_2:=blk_frozen BK618.out 2;have hfz11_3:=blk_frozen BK618.out 3)|((with_reducible refine gate_callee (f:=24) rfl ?_);refine goesL_ (some 4) rfl rfl Try.func24 (by kernel_rfl) rfl #[.agg #[.int .i64 a0_0,.int .i64 a0_1,.string a0_2,.slice A0_3 l0_3.length c0_3]] rfl (by (try simp only [List.map_toArray,List.map_cons,List.map_nil]);first|done|rfl|(simp only [List.length_drop,List.length_take];rfl)) ?_;(with_reducible refine (impl_DocValid.calls k a0_0 a0_1 a0_2 _ _ l0_3 false _ ?side1 ?side2 A2.out).mono ?_);(case side1=>repeat (first|exact (Kd.C_below HR0_3.out HB.out)|(with_reducible refine Kd.C_alloc ?_ _)|(with_reducible refine Kd.C_drewN ?_ _)|(with_reducible refine Kd.C_drew ?_)));(case side2=>exact HC0_3.out);rintro e w12 ⟨rfl,hb⟩;refine ⟨_,rfl,?_⟩;have n0_:=Aside0.mk (blk_below (g:=gb618) (o:=.cells #[.int .i64 a0_0,.int .i64 a0_1,.string a0_2,.slice A0_3 l0_3.length c0_3] 27 (0,0)) (by (with_reducible repeat (first|refine blk_drewN ?_ _|refine blk_drew ?_|refine blk_alloc ?_ _));exact BK618.out) hb);have n1_:=Aside0.mk (below_step (by repeat (first|(with_reducible first|exact HB.out|apply below_alloc|apply pw_below_drewN|apply below_drew1|refine below_set ?_ GE618.out)|exact HB.out)) hb);clear BK618;clear HB;have BK618:=n0_;have HB:=n1_;clear n0_ n1_;(try clear hb);(try clear hb2);(try clear hk);(try clear hi)))
  go_ret
  exact ⟨by first|rfl|(simp [errW_none,errW_some] <;> rfl)|(simp [*,errW_none,errW_some] <;> rfl),by repeat (first|(with_reducible first|exact HB.out|apply below_alloc|apply pw_below_drewN|apply below_drew1|refine below_set ?_ GE618.out)|exact HB.out)⟩
end Go.Proofs.Ytdhdfmmefghijaa.P
namespace Go.Proofs.Ytdhdfmmefghijaa.P
open Go.RowKit Go.Proofs.YtdhdfmmefghijaaW.PrintWords Go.Proofs.YtdhdfmmefghijaaW.PrintLast Go.Proofs.YtdhdfmmefghijaaW.PrintMore
attribute [local go_sem] max2_int min2_int max_two min_two max_three min_three max_four min_four
set_option linter.unusedVariables false
set_option linter.unusedSimpArgs false
def laws_FnDocSame.j0:Nat→Bool→Bool→Int→Int→ByteArray→List (SDoc)→Int→Int→ByteArray→List (SDoc)→Option (Bool)
 | 0,_,_,_,_,_,_,_,_,_,_=>none
 | k+1,x5,x34,x634000,x634001,x634002,x634003,x635000,x635001,x635002,x635003=>if x34=true then (none) else ((impl_DocValid.f k x634000 x634001 x634002 x634003).bind fun t639=>(if t639=true then ((impl_DocValid.f k x635000 x635001 x635002 x635003).bind fun t640=>(if t640=true then ((impl_FormatDoc.f k x634000 x634001 x634002 x634003).bind fun t641=>((impl_FormatDoc.f k x635000 x635001 x635002 x635003).bind fun t642=>(some (x5 == (t641.toList == t642.toList))))) else (some true))) else (some true)))
def laws_FnDocSame.f (k:Nat) (l0:List Int):Option (Bool):=if (l0.length:Int) > 1048576 then (some true) else ((spec_DrawDocSame.f k l0).bind fun bt621=>((impl_DocSame.f k bt621.1 bt621.2.1 bt621.2.2.1 bt621.2.2.2.1 bt621.2.2.2.2.1 bt621.2.2.2.2.2.1 bt621.2.2.2.2.2.2.1 bt621.2.2.2.2.2.2.2).bind fun t635=>((spec_DocSame.f k bt621.1 bt621.2.1 bt621.2.2.1 bt621.2.2.2.1 bt621.2.2.2.2.1 bt621.2.2.2.2.2.1 bt621.2.2.2.2.2.2.1 bt621.2.2.2.2.2.2.2).bind fun t636=>(if (t635 != t636)=true then (laws_FnDocSame.j0 k t635 true bt621.1 bt621.2.1 bt621.2.2.1 bt621.2.2.2.1 bt621.2.2.2.2.1 bt621.2.2.2.2.2.1 bt621.2.2.2.2.2.2.1 bt621.2.2.2.2.2.2.2) else ((impl_DocSame.f k bt621.2.2.2.2.1 bt621.2.2.2.2.2.1 bt621.2.2.2.2.2.2.1 bt621.2.2.2.2.2.2.2 bt621.1 bt621.2.1 bt621.2.2.1 bt621.2.2.2.1).bind fun t637=>(if (t635 != t637)=true then (laws_FnDocSame.j0 k t635 true bt621.1 bt621.2.1 bt621.2.2.1 bt621.2.2.2.1 bt621.2.2.2.2.1 bt621.2.2.2.2.2.1 bt621.2.2.2.2.2.2.1 bt621.2.2.2.2.2.2.2) else ((impl_DocSame.f k bt621.1 bt621.2.1 bt621.2.2.1 bt621.2.2.2.1 bt621.1 bt621.2.1 bt621.2.2.1 bt621.2.2.2.1).bind fun t638=>(laws_FnDocSame.j0 k t635 (!t638) bt621.1 bt621.2.1 bt621.2.2.1 bt621.2.2.2.1 bt621.2.2.2.2.1 bt621.2.2.2.2.2.1 bt621.2.2.2.2.2.2.1 bt621.2.2.2.2.2.2.2))))))))
def laws_FnDocSame.T7:Bool × List (List Nat × List Nat):=(true,[([],[]),([0],[0]),([1],[1]),([2,1],[2]),([3],[3]),([4,3,3],[3,4]),([5,3],[3,5]),([3,6],[3,6]),([7,5],[7]),([8],[8]),([8],[8]),([10,8,8],[8,10]),([8],[8]),([12,11,8],[8,12]),([11,13,8],[8,11,13]),([9,14,8],[8,9,14]),([8,15],[8,15]),([16,13,0,1,2,3,4,5,6,7,8,9,10,11,12,13,14,15,16],[16])])
def laws_FnDocSame.B7:List Nat:=[0,1,3,7,15,31,63,127,255,511,511,1535,511,7679,15871,32767,65535,131071]
theorem laws_FnDocSame.tab7:rtab .any (opsOf Try.f9 7)=laws_FnDocSame.T7:=by kernel_rfl
theorem laws_FnDocSame.bits7:waitsOk laws_FnDocSame.T7.2 laws_FnDocSame.B7=true:=by kernel_rfl
set_option maxHeartbeats 8000000 in
set_option maxRecDepth 100000 in
theorem laws_FnDocSame.calls (k:Nat) (A0:Option Addr) (c0:Nat) (l0:List Int) (r:Bool) (w:World) (hr0:Kd.C (Kd.int .u8) w A0 l0.length l0) (hc0:l0.length≤c0) (h:laws_FnDocSame.f k l0=some r) :
  Calls Try.prog 9 #[.slice A0 l0.length c0] w fun e w'=>e=.returned (.bool r)∧Below w.heap.size w w':=by
 have hu27:=Try.underlying27
 have HR0:=Aside0.mk hr0
 have HC0:=Aside0.mk hc0
 clear hr0 hc0
 have HB:=Aside0.mk (Below.refl w.heap.size w)
 have H:(if (l0.length:Int) > 1048576 then (some true) else ((spec_DrawDocSame.f k l0).bind fun bt621=>((impl_DocSame.f k bt621.1 bt621.2.1 bt621.2.2.1 bt621.2.2.2.1 bt621.2.2.2.2.1 bt621.2.2.2.2.2.1 bt621.2.2.2.2.2.2.1 bt621.2.2.2.2.2.2.2).bind fun t635=>((spec_DocSame.f k bt621.1 bt621.2.1 bt621.2.2.1 bt621.2.2.2.1 bt621.2.2.2.2.1 bt621.2.2.2.2.2.1 bt621.2.2.2.2.2.2.1 bt621.2.2.2.2.2.2.2).bind fun t636=>(if (t635 != t636)=true then (laws_FnDocSame.j0 k t635 true bt621.1 bt621.2.1 bt621.2.2.1 bt621.2.2.2.1 bt621.2.2.2.2.1 bt621.2.2.2.2.2.1 bt621.2.2.2.2.2.2.1 bt621.2.2.2.2.2.2.2) else ((impl_DocSame.f k bt621.2.2.2.2.1 bt621.2.2.2.2.2.1 bt621.2.2.2.2.2.2.1 bt621.2.2.2.2.2.2.2 bt621.1 bt621.2.1 bt621.2.2.1 bt621.2.2.2.1).bind fun t637=>(if (t635 != t637)=true then (laws_FnDocSame.j0 k t635 true bt621.1 bt621.2.1 bt621.2.2.1 bt621.2.2.2.1 bt621.2.2.2.2.1 bt621.2.2.2.2.2.1 bt621.2.2.2.2.2.2.1 bt621.2.2.2.2.2.2.2) else ((impl_DocSame.f k bt621.1 bt621.2.1 bt621.2.2.1 bt621.2.2.2.1 bt621.1 bt621.2.1 bt621.2.2.1 bt621.2.2.2.1).bind fun t638=>(laws_FnDocSame.j0 k t635 (!t638) bt621.1 bt621.2.1 bt621.2.2.1 bt621.2.2.2.1 bt621.2.2.2.2.1 bt621.2.2.2.2.2.1 bt621.2.2.2.2.2.2.1 bt621.2.2.2.2.2.2.2)))))))))=some r:=h
 clear h
 by_cases c2:(l0.length:Int) > 1048576
 ·rw [if_pos c2] at H
  have c2b0:decide (1048576 < (l0.length:Int))=true:=decide_eq_true c2
  have c2b1:decide (1048576 < l0.length)=true:=decide_eq_true (by omega)
  clear c2
  obtain rfl:=Option.some.inj H
  go_enter Try.func9,Try.ntmps9
  go_wp2
  go_ret
  exact ⟨by first|rfl|(simp [errW_none,errW_some] <;> rfl)|(simp [*,errW_none,errW_some] <;> rfl),gB HB⟩
 ·rw [if_neg c2] at H
  have c2b0:decide (1048576 < (l0.length:Int))=false:=decide_eq_false c2
  have c2b1:decide (1048576 < l0.length)=false:=decide_eq_false (by omega)
  clear c2
  replace H:=Option.bind_eq_some_iff.mp H
  obtain ⟨⟨t621,t622,t623,t624,t627,t628,t629,t630⟩,A30,H⟩:=H
  replace H:((impl_DocSame.f k t621 t622 t623 t624 t627 t628 t629 t630).bind fun t635=>((spec_DocSame.f k t621 t622 t623 t624 t627 t628 t629 t630).bind fun t636=>(if (t635 != t636)=true then (laws_FnDocSame.j0 k t635 true t621 t622 t623 t624 t627 t628 t629 t630) else ((impl_DocSame.f k t627 t628 t629 t630 t621 t622 t623 t624).bind fun t637=>(if (t635 != t637)=true then (laws_FnDocSame.j0 k t635 true t621 t622 t623 t624 t627 t628 t629 t630) else ((impl_DocSame.f k t621 t622 t623 t624 t621 t622 t623 t624).bind fun t638=>(laws_FnDocSame.j0 k t635 (!t638) t621 t622 t623 t624 t627 t628 t629 t630)))))))=some r:=H
  have A3:=Aside0.mk A30
  clear A30
  replace H:=Option.bind_eq_some_iff.mp H
  obtain ⟨t635,A40,H⟩:=H
  replace H:((spec_DocSame.f k t621 t622 t623 t624 t627 t628 t629 t630).bind fun t636=>(if (t635 != t636)=true then (laws_FnDocSame.j0 k t635 true t621 t622 t623 t624 t627 t628 t629 t630) else ((impl_DocSame.f k t627 t628 t629 t630 t621 t622 t623 t624).bind fun t637=>(if (t635 != t637)=true then (laws_FnDocSame.j0 k t635 true t621 t622 t623 t624 t627 t628 t629 t630) else ((impl_DocSame.f k t621 t622 t623 t624 t621 t622 t623 t624).bind fun t638=>(laws_FnDocSame.j0 k t635 (!t638) t621 t622 t623 t624 t627 t628 t629 t630))))))=some r:=H
  have A4:=Aside0.mk A40
  clear A40
  have HC5:=Aside0.mk H
  clear H
  go_enter Try.func9,Try.ntmps9
  go_upto_region 5 with (first|((with_reducible refine gate_callee (f:=31) rfl ?_);refine goesL_ (some 11) rfl rfl Try.func31 (by kernel_rfl) rfl #[.slice A0 l0.length c0] rfl (by (try simp only [List.map_toArray,List.map_cons,List.map_nil]);first|done|rfl|(simp only [List.length_drop,List.length_take];rfl)) ?_;(with_reducible refine (spec_DrawDocSame.calls k _ _ l0 t621 t622 t623 t624 t627 t628 t629 t630 _ ?side1 ?side2 A3.out).mono ?_);(case side1=>repeat (first|exact HR0.out|(with_reducible refine Kd.C_alloc ?_ _)|(with_reducible refine Kd.C_drewN ?_ _)|(with_reducible refine Kd.C_drew ?_)));(case side2=>exact HC0.out);rintro e w6 ⟨v625,v631,rfl,ho0,ho1,hb⟩;refine ⟨_,rfl,?_⟩;have n0_:=Aside0.mk (Kd.N_lower (Kd.N_mono (ok':=fun k_=>some k_ ≠ (v631:Value).ownBlock) ho0 (fun k_ hk_=>hk_.2)) (below_size (gB HB)));have n1_:=Aside0.mk (Kd.N_lower (Kd.N_mono (ok':=fun k_=>some k_ ≠ (v625:Value).ownBlock) ho1 (fun k_ hk_=>hk_.2)) (below_size (gB HB)));have n2_:=Aside0.mk (below_step (gB HB) hb);clear HB;have HO626:=n0_;have HO632:=n1_;have HB:=n2_;clear n0_ n1_ n2_;(try clear hb);(try clear hb2);(try clear hk);(try clear hi);(try clear ho0);(try clear ho1))|((with_reducible refine gate_dst (N:=3) rfl ?_);refine box_event ?hg (N:=3) ?hd (cs:=#[.int .i64 0,.int .i64 0,.string (⟨#[]⟩:ByteArray),.slice none 0 0]) (t:=27) ?hr ?_;(case hd=>rfl);(case hg=>rfl);(case hr=>first|(go_simp;done)|(go_simp;rfl));intro gb633 hg w7 hbox hb;have n0_:=Aside0.mk (Kd.N_below (Kd.N_elderB (gN HO626) gb633 (Nat.le_of_eq hg.symm)) hb);have n1_:=Aside0.mk (Kd.N_below (Kd.N_elderB (gN HO632) gb633 (Nat.le_of_eq hg.symm)) hb);have n2_:=Aside0.mk (below_step (gB HB) hb);have n3_:=Aside0.mk (hbox);have n4_:=Aside0.mk ((by rw [hg];exact (below_size (gB HB)):w.heap.size≤gb633));have n5_:=Aside0.mk ((by rw [hg];exact (below_size (gB HB)):w.heap.size≤gb633));clear HO626;clear HO632;clear HB;have HO626:=n0_;have HO632:=n1_;have HB:=n2_;have BK633:=n3_;have GW633:=n4_;have GE633:=n5_;clear n0_ n1_ n2_ n3_ n4_ n5_;clear hb hbox hg)|((with_reducible refine gate_dst (N:=4) rfl ?_);refine box_event ?hg (N:=4) ?hd (cs:=#[.int .i64 0,.int .i64 0,.string (⟨#[]⟩:ByteArray),.slice none 0 0]) (t:=27) ?hr ?_;(case hd=>rfl);(case hg=>rfl);(case hr=>first|(go_simp;done)|(go_simp;rfl));intro gb634 hg w8 hbox hb;have n0_:=Aside0.mk (Kd.N_below (Kd.N_elderB (gN HO626) gb634 (Nat.le_of_eq hg.symm)) hb);have n1_:=Aside0.mk (Kd.N_below (Kd.N_elderB (gN HO632) gb634 (Nat.le_of_eq hg.symm)) hb);have n2_:=Aside0.mk (blk_below (g:=gb633) (o:=.cells #[.int .i64 0,.int .i64 0,.string (⟨#[]⟩:ByteArray),.slice none 0 0] 27 (0,0)) (gK BK633) hb);have n3_:=Aside0.mk (below_step (by repeat (first|exact gB HB|refine below_set ?_ GE633.out)) hb);have n4_:=Aside0.mk (hbox);have n5_:=Aside0.mk ((by rw [hg];exact (below_size (by repeat (first|exact gB HB|refine below_set ?_ GE633.out))):w.heap.size≤gb634));have n6_:=Aside0.mk ((by rw [hg];exact (below_size (by repeat (first|exact gB HB|refine below_set ?_ GE633.out))):w.heap.size≤gb634));have n7_:=Aside0.mk ((by rw [hg];exact Nat.ne_of_lt (blk_lt (g:=gb633) (o:=.cells #[.int .i64 0,.int .i64 0,.string (⟨#[]⟩:ByteArray),.slice none 0 0] 27 (0,0)) (gK BK633)):gb633 ≠ gb634));have n8_:=Aside0.mk ((by rw [hg];exact Nat.ne_of_gt (blk_lt (g:=gb633) (o:=.cells #[.int .i64 0,.int .i64 0,.string (⟨#[]⟩:ByteArray),.slice none 0 0] 27 (0,0)) (gK BK633)):gb634 ≠ gb633));clear HO626;clear HO632;clear BK633;clear HB;have HO626:=n0_;have HO632:=n1_;have BK633:=n2_;have HB:=n3_;have BK634:=n4_;have GW634:=n5_;have GE634:=n6_;have NB633_634:=n7_;have NB634_633:=n8_;clear n0_ n1_ n2_ n3_ n4_ n5_ n6_ n7_ n8_;clear hb hbox hg;have hnb9:=NB633_634.out;have hnc9:=NB634_633.out;have hcz10_0:w8.cell? ⟨gb633,0,none⟩=some (.int .i64 0):=(blk_cell BK633.out 0).trans rfl;have hcz10_1:w8.cell? ⟨gb633,1,none⟩=some (.int .i64 0):=(blk_cell BK633.out 1).trans rfl;have hcz10_2:w8.cell? ⟨gb633,2,none⟩=some (.string (⟨#[]⟩:ByteArray)):=(blk_cell BK633.out 2).trans rfl;have hcz10_3:w8.cell? ⟨gb633,3,none⟩=some (.slice none 0 0):=(blk_cell BK633.out 3).trans rfl;have hfz10_0:=blk_frozen BK633.out 0;have hfz10_1:=blk_frozen BK633.out 1;have hfz10_2:=blk_frozen BK633.out 2;have hfz10_3:=blk_frozen BK633.out 3;obtain ⟨Ao11,co11,eo11⟩:=Kd.N_slice HO626.out;subst eo11;have hcz12_0:w8.cell? ⟨gb634,0,none⟩=some (.int .i64 0):=(blk_cell BK634.out 0).trans rfl;have hcz12_1:w8.cell? ⟨gb634,1,none⟩=some (.int .i64 0):=(blk_cell BK634.out 1).trans rfl;have hcz12_2:w8.cell? ⟨gb634,2,none⟩=some (.string (⟨#[]⟩:ByteArray)):=(blk_cell BK634.out 2).trans rfl;have hcz12_3:w8.cell? ⟨gb634,3,none⟩=some (.slice none 0 0):=(blk_cell BK634.out 3).trans rfl;have hfz12_0:=blk_frozen BK634.out 0;have hfz12_1:=blk_frozen BK634.out 1;have hfz12_2:=blk_frozen BK634.out 2;have hfz12_3:=blk_frozen BK634.out 3;obtain ⟨Ao13,co13,eo13⟩:=Kd.N_slice HO632.out;subst eo13)|((with_reducible refine gate_callee (f:=34) rfl ?_);refine goesL_ (some 16) rfl rfl Try.func34 (by kernel_rfl) rfl #[.agg #[.int .i64 t621,.int .i64 t622,.string t623,.slice Ao11 t624.length co11],.agg #[.int .i64 t627,.int .i64 t628,.string t629,.slice Ao13 t630.length co13]] rfl (by (try simp only [List.map_toArray,List.map_cons,List.map_nil]);first|done|rfl|(simp only [List.length_drop,List.length_take];rfl)) ?_;(with_reducible refine (impl_DocSame.calls k t621 t622 t623 _ _ t624 t627 t628 t629 _ _ t630 t635 _ ?side1 ?side2 ?side3 ?side4 A4.out).mono ?_);(case side1=>exact (Kd.N_reads' (e:=27) (base:=w.heap.size) (n:=t624.length) (c:=co11) (by (with_reducible repeat (first|apply Kd.N_alloc|apply Kd.N_drewN|apply Kd.N_drew));exact (Kd.N_mono (Kd.N_mono (Kd.N_far (p:=⟨gb634,3,none⟩) (Kd.N_far (p:=⟨gb634,2,none⟩) (Kd.N_far (p:=⟨gb634,1,none⟩) (Kd.N_far (p:=⟨gb634,0,none⟩) (Kd.N_far (p:=⟨gb633,3,none⟩) (Kd.N_far (p:=⟨gb633,2,none⟩) (Kd.N_far (p:=⟨gb633,1,none⟩) (Kd.N_far (p:=⟨gb633,0,none⟩) (Kd.N_mono (Kd.N_mono HO626.out (fun k_ hk=>(⟨hk,hk.1.2⟩:_∧k_ ≠ gb633))) (fun k_ hk=>(⟨hk,hk.1.2⟩:_∧k_ ≠ gb634))) (fun _ hk=>hk.1.2) (.int .i64 t621)) (fun _ hk=>hk.1.2) (.int .i64 t622)) (fun _ hk=>hk.1.2) (.string t623)) (fun _ hk=>hk.1.2) (.slice Ao11 t624.length co11)) (fun _ hk=>hk.2) (.int .i64 t627)) (fun _ hk=>hk.2) (.int .i64 t628)) (fun _ hk=>hk.2) (.string t629)) (fun _ hk=>hk.2) (.slice Ao13 t630.length co13)) (fun _ h_=>h_.1)) (fun _ h_=>h_.1)))).2.2);(case side2=>exact (Kd.N_reads' HO626.out).2.1);(case side3=>exact (Kd.N_reads' (e:=27) (base:=w.heap.size) (n:=t630.length) (c:=co13) (by (with_reducible repeat (first|apply Kd.N_alloc|apply Kd.N_drewN|apply Kd.N_drew));exact (Kd.N_mono (Kd.N_mono (Kd.N_far (p:=⟨gb634,3,none⟩) (Kd.N_far (p:=⟨gb634,2,none⟩) (Kd.N_far (p:=⟨gb634,1,none⟩) (Kd.N_far (p:=⟨gb634,0,none⟩) (Kd.N_far (p:=⟨gb633,3,none⟩) (Kd.N_far (p:=⟨gb633,2,none⟩) (Kd.N_far (p:=⟨gb633,1,none⟩) (Kd.N_far (p:=⟨gb633,0,none⟩) (Kd.N_mono (Kd.N_mono HO632.out (fun k_ hk=>(⟨hk,hk.1.2⟩:_∧k_ ≠ gb633))) (fun k_ hk=>(⟨hk,hk.1.2⟩:_∧k_ ≠ gb634))) (fun _ hk=>hk.1.2) (.int .i64 t621)) (fun _ hk=>hk.1.2) (.int .i64 t622)) (fun _ hk=>hk.1.2) (.string t623)) (fun _ hk=>hk.1.2) (.slice Ao11 t624.length co11)) (fun _ hk=>hk.2) (.int .i64 t627)) (fun _ hk=>hk.2) (.int .i64 t628)) (fun _ hk=>hk.2) (.string t629)) (fun _ hk=>hk.2) (.slice Ao13 t630.length co13)) (fun _ h_=>h_.1)) (fun _ h_=>h_.1)))).2.2);(case side4=>exact (Kd.N_reads' HO632.out).2.1);rintro e w14 ⟨rfl,hb⟩;refine ⟨_,rfl,?_⟩;have n0_:=Aside0.mk (Kd.N_below (by (with_reducible repeat (first|apply Kd.N_alloc|apply Kd.N_drewN|apply Kd.N_drew));exact (Kd.N_mono (Kd.N_mono (Kd.N_far (p:=⟨gb634,3,none⟩) (Kd.N_far (p:=⟨gb634,2,none⟩) (Kd.N_far (p:=⟨gb634,1,none⟩) (Kd.N_far (p:=⟨gb634,0,none⟩) (Kd.N_far (p:=⟨gb633,3,none⟩) (Kd.N_far (p:=⟨gb633,2,none⟩) (Kd.N_far (p:=⟨gb633,1,none⟩) (Kd.N_far (p:=⟨gb633,0,none⟩) (Kd.N_mono (Kd.N_mono HO626.out (fun k_ hk=>(⟨hk,hk.1.2⟩:_∧k_ ≠ gb633))) (fun k_ hk=>(⟨hk,hk.1.2⟩:_∧k_ ≠ gb634))) (fun _ hk=>hk.1.2) (.int .i64 t621)) (fun _ hk=>hk.1.2) (.int .i64 t622)) (fun _ hk=>hk.1.2) (.string t623)) (fun _ hk=>hk.1.2) (.slice Ao11 t624.length co11)) (fun _ hk=>hk.2) (.int .i64 t627)) (fun _ hk=>hk.2) (.int .i64 t628)) (fun _ hk=>hk.2) (.string t629)) (fun _ hk=>hk.2) (.slice Ao13 t630.length co13)) (fun _ h_=>h_.1)) (fun _ h_=>h_.1))) hb);have n1_:=Aside0.mk (Kd.N_below (by (with_reducible repeat (first|apply Kd.N_alloc|apply Kd.N_drewN|apply Kd.N_drew));exact (Kd.N_mono (Kd.N_mono (Kd.N_far (p:=⟨gb634,3,none⟩) (Kd.N_far (p:=⟨gb634,2,none⟩) (Kd.N_far (p:=⟨gb634,1,none⟩) (Kd.N_far (p:=⟨gb634,0,none⟩) (Kd.N_far (p:=⟨gb633,3,none⟩) (Kd.N_far (p:=⟨gb633,2,none⟩) (Kd.N_far (p:=⟨gb633,1,none⟩) (Kd.N_far (p:=⟨gb633,0,none⟩) (Kd.N_mono (Kd.N_mono HO632.out (fun k_ hk=>(⟨hk,hk.1.2⟩:_∧k_ ≠ gb633))) (fun k_ hk=>(⟨hk,hk.1.2⟩:_∧k_ ≠ gb634))) (fun _ hk=>hk.1.2) (.int .i64 t621)) (fun _ hk=>hk.1.2) (.int .i64 t622)) (fun _ hk=>hk.1.2) (.string t623)) (fun _ hk=>hk.1.2) (.slice Ao11 t624.length co11)) (fun _ hk=>hk.2) (.int .i64 t627)) (fun _ hk=>hk.2) (.int .i64 t628)) (fun _ hk=>hk.2) (.string t629)) (fun _ hk=>hk.2) (.slice Ao13 t630.length co13)) (fun _ h_=>h_.1)) (fun _ h_=>h_.1))) hb);have n2_:=Aside0.mk (blk_below (g:=gb633) (o:=.cells #[.int .i64 t621,.int .i64 t622,.string t623,.slice Ao11 t624.length co11] 27 (0,0)) (by (with_reducible repeat (first|refine blk_drewN ?_ _|refine blk_drew ?_|refine blk_alloc ?_ _));refine blk_far ?_ NB633_634.out _;(with_reducible repeat (first|refine blk_drewN ?_ _|refine blk_drew ?_|refine blk_alloc ?_ _));refine blk_far ?_ NB633_634.out _;(with_reducible repeat (first|refine blk_drewN ?_ _|refine blk_drew ?_|refine blk_alloc ?_ _));refine blk_far ?_ NB633_634.out _;(with_reducible repeat (first|refine blk_drewN ?_ _|refine blk_drew ?_|refine blk_alloc ?_ _));refine blk_far ?_ NB633_634.out _;(with_reducible repeat (first|refine blk_drewN ?_ _|refine blk_drew ?_|refine blk_alloc ?_ _));refine blk_put (cs:=#[.int .i64 t621,.int .i64 t622,.string t623,.slice none 0 0]) ?_ 3 _ rfl;(with_reducible repeat (first|refine blk_drewN ?_ _|refine blk_drew ?_|refine blk_alloc ?_ _));refine blk_put (cs:=#[.int .i64 t621,.int .i64 t622,.string (⟨#[]⟩:ByteArray),.slice none 0 0]) ?_ 2 _ rfl;(with_reducible repeat (first|refine blk_drewN ?_ _|refine blk_drew ?_|refine blk_alloc ?_ _));refine blk_put (cs:=#[.int .i64 t621,.int .i64 0,.string (⟨#[]⟩:ByteArray),.slice none 0 0]) ?_ 1 _ rfl;(with_reducible repeat (first|refine blk_drewN ?_ _|refine blk_drew ?_|refine blk_alloc ?_ _));refine blk_put (cs:=#[.int .i64 0,.int .i64 0,.string (⟨#[]⟩:ByteArray),.slice none 0 0]) ?_ 0 _ rfl;(with_reducible repeat (first|refine blk_drewN ?_ _|refine blk_drew ?_|refine blk_alloc ?_ _));exact BK633.out) hb);have n3_:=Aside0.mk (blk_below (g:=gb634) (o:=.cells #[.int .i64 t627,.int .i64 t628,.string t629,.slice Ao13 t630.length co13] 27 (0,0)) (by (with_reducible repeat (first|refine blk_drewN ?_ _|refine blk_drew ?_|refine blk_alloc ?_ _));refine blk_put (cs:=#[.int .i64 t627,.int .i64 t628,.string t629,.slice none 0 0]) ?_ 3 _ rfl;(with_reducible repeat (first|refine blk_drewN ?_ _|refine blk_drew ?_|refine blk_alloc ?_ _));refine blk_put (cs:=#[.int .i64 t627,.int .i64 t628,.string (⟨#[]⟩:ByteArray),.slice none 0 0]) ?_ 2 _ rfl;(with_reducible repeat (first|refine blk_drewN ?_ _|refine blk_drew ?_|refine blk_alloc ?_ _));refine blk_put (cs:=#[.int .i64 t627,.int .i64 0,.string (⟨#[]⟩:ByteArray),.slice none 0 0]) ?_ 1 _ rfl;(with_reducible repeat (first|refine blk_drewN ?_ _|refine blk_drew ?_|refine blk_alloc ?_ _));refine blk_put (cs:=#[.int .i64 0,.int .i64 0,.string (⟨#[]⟩:ByteArray),.slice none 0 0]) ?_ 0 _ rfl;(with_reducible repeat (first|refine blk_drewN ?_ _|refine blk_drew ?_|refine blk_alloc ?_ _));refine blk_far ?_ NB634_633.out _;(with_reducible repeat (first|refine blk_drewN ?_ _|refine blk_drew ?_|refine blk_alloc ?_ _));refine blk_far ?_ NB634_633.out _;(with_reducible repeat (first|refine blk_drewN ?_ _|refine blk_drew ?_|refine blk_alloc ?_ _));refine blk_far ?_ NB634_633.out _;(with_reducible repeat (first|refine blk_drewN ?_ _|refine blk_drew ?_|refine blk_alloc ?_ _));refine blk_far ?_ NB634_633.out _;(with_reducible repeat (first|refine blk_drewN ?_ _|refine blk_drew ?_|refine blk_alloc ?_ _));exact BK634.out) hb);have n4_:=Aside0.mk (below_step (by repeat (first|exact gB HB|refine below_set ?_ GE633.out|refine below_set ?_ GE634.out)) hb);clear HO626;clear HO632;clear BK633;clear BK634;clear HB;have HO626:=n0_;have HO632:=n1_;have BK633:=n2_;have BK634:=n3_;have HB:=n4_;clear n0_ n1_ n2_ n3_ n4_;(try clear hb);(try clear hb2);(try clear hk);(try clear hi)))
  (try simp only [Act.put,List.setIfInBounds_toArray,List.set_cons_zero,List.set_cons_succ])
  go_cut [34] (fun v34 wc=>∃ (kq:Nat) (x34_4:Bool),v34=.bool x34_4∧Aside0 (laws_FnDocSame.j0 kq t635 x34_4 t621 t622 t623 t624 t627 t628 t629 t630=some r)∧Aside0 (kq≤k)∧Aside0 (Kd.N k27 27 wc w.heap.size (fun k_=>some k_ ≠ ((.slice Ao13 t630.length co13):Value).ownBlock∧k_ ≠ gb633∧k_ ≠ gb634) (.slice Ao11 t624.length co11) t624)∧Aside0 (Kd.N k27 27 wc w.heap.size (fun k_=>some k_ ≠ ((.slice Ao11 t624.length co11):Value).ownBlock∧k_ ≠ gb633∧k_ ≠ gb634) (.slice Ao13 t630.length co13) t630)∧Aside0 (wc.heap[gb633]?=some (.cells #[.int .i64 t621,.int .i64 t622,.string t623,(.slice Ao11 t624.length co11)] 27 (0,0)))∧Aside0 (wc.heap[gb634]?=some (.cells #[.int .i64 t627,.int .i64 t628,.string t629,(.slice Ao13 t630.length co13)] 27 (0,0)))∧Aside0 (Below w.heap.size w wc))
  case first =>
   have H:=HC5.out
   clear HC5
   replace H:=Option.bind_eq_some_iff.mp H
   obtain ⟨t636,A150,H⟩:=H
   replace H:(if (t635 != t636)=true then (laws_FnDocSame.j0 k t635 true t621 t622 t623 t624 t627 t628 t629 t630) else ((impl_DocSame.f k t627 t628 t629 t630 t621 t622 t623 t624).bind fun t637=>(if (t635 != t637)=true then (laws_FnDocSame.j0 k t635 true t621 t622 t623 t624 t627 t628 t629 t630) else ((impl_DocSame.f k t621 t622 t623 t624 t621 t622 t623 t624).bind fun t638=>(laws_FnDocSame.j0 k t635 (!t638) t621 t622 t623 t624 t627 t628 t629 t630)))))=some r:=H
   have A15:=Aside0.mk A150
   clear A150
   by_cases c16:(t635 != t636)=true
   ·rw [if_pos c16] at H
    have c16b0:(t635 != t636)=true:=c16
    (try (have c16b1:decide (t635=t636)=false:=by simpa using c16))
    (try (have c16b2:(t635 == t636)=false:=by simpa using c16))
    (try (have c16b3:¬ (t635=t636):=by simpa using c16))
    clear c16
    (first|rw [c16b0]|(simp only [i64_w,i32_w];rw [c16b0])|skip)
    have H':=Aside0.mk H
    clear H
    have hnb17:=NB633_634.out
    have hnc17:=NB634_633.out
    have hcz18_0:w14.cell? ⟨gb633,0,none⟩=some (.int .i64 t621):=(blk_cell BK633.out 0).trans rfl
    have hcz18_1:w14.cell? ⟨gb633,1,none⟩=some (.int .i64 t622):=(blk_cell BK633.out 1).trans rfl
    have hcz18_2:w14.cell? ⟨gb633,2,none⟩=some (.string t623):=(blk_cell BK633.out 2).trans rfl
    have hcz18_3:w14.cell? ⟨gb633,3,none⟩=some (.slice Ao11 t624.length co11):=(blk_cell BK633.out 3).trans rfl
    have hfz18_0:=blk_frozen BK633.out 0
    have hfz18_1:=blk_frozen BK633.out 1
    have hfz18_2:=blk_frozen BK633.out 2
    have hfz18_3:=blk_frozen BK633.out 3
    have hcz19_0:w14.cell? ⟨gb634,0,none⟩=some (.int .i64 t627):=(blk_cell BK634.out 0).trans rfl
    have hcz19_1:w14.cell? ⟨gb634,1,none⟩=some (.int .i64 t628):=(blk_cell BK634.out 1).trans rfl
    have hcz19_2:w14.cell? ⟨gb634,2,none⟩=some (.string t629):=(blk_cell BK634.out 2).trans rfl
    have hcz19_3:w14.cell? ⟨gb634,3,none⟩=some (.slice Ao13 t630.length co13):=(blk_cell BK634.out 3).trans rfl
    have hfz19_0:=blk_frozen BK634.out 0
    have hfz19_1:=blk_frozen BK634.out 1
    have hfz19_2:=blk_frozen BK634.out 2
    have hfz19_3:=blk_frozen BK634.out 3
    go_wp2_with (first|((with_reducible refine gate_callee (f:=35) rfl ?_);refine goesL_ (some 20) rfl rfl Try.func35 (by kernel_rfl) rfl #[.agg #[.int .i64 t621,.int .i64 t622,.string t623,.slice Ao11 t624.length co11],.agg #[.int .i64 t627,.int .i64 t628,.string t629,.slice Ao13 t630.length co13]] rfl (by (try simp only [List.map_toArray,List.map_cons,List.map_nil]);first|done|rfl|(simp only [List.length_drop,List.length_take];rfl)) ?_;(with_reducible refine (spec_DocSame.calls k t621 t622 t623 _ _ t624 t627 t628 t629 _ _ t630 t636 _ ?side1 ?side2 ?side3 ?side4 A15.out).mono ?_);(case side1=>exact gC ((Kd.N_reads' HO626.out).2.2));(case side2=>exact (Kd.N_reads' HO626.out).2.1);(case side3=>exact gC ((Kd.N_reads' HO632.out).2.2));(case side4=>exact (Kd.N_reads' HO632.out).2.1);rintro e w20 ⟨rfl,hb⟩;refine ⟨_,rfl,?_⟩;have n0_:=Aside0.mk (Kd.N_below (gN HO626) hb);have n1_:=Aside0.mk (Kd.N_below (gN HO632) hb);have n2_:=Aside0.mk (blk_below (g:=gb633) (o:=.cells #[.int .i64 t621,.int .i64 t622,.string t623,.slice Ao11 t624.length co11] 27 (0,0)) (gK BK633) hb);have n3_:=Aside0.mk (blk_below (g:=gb634) (o:=.cells #[.int .i64 t627,.int .i64 t628,.string t629,.slice Ao13 t630.length co13] 27 (0,0)) (gK BK634) hb);have n4_:=Aside0.mk (below_step (by repeat (first|exact gB HB|refine below_set ?_ GE633.out|refine below_set ?_ GE634.out)) hb);clear HO626;clear HO632;clear BK633;clear BK634;clear HB;have HO626:=n0_;have HO632:=n1_;have BK633:=n2_;have BK634:=n3_;have HB:=n4_;clear n0_ n1_ n2_ n3_ n4_;(try clear hb);(try clear hb2);(try clear hk);(try clear hi)))
    go_meet
    case rel=>exact ⟨_,(true),(by first|rfl|(simp;done)|(simp [*];done)),H',⟨by first|omega|exact Nat.le_refl _⟩,⟨by (with_reducible repeat (first|apply Kd.N_alloc|apply Kd.N_drewN|apply Kd.N_drew));exact Kd.N_mono HO626.out (fun _ hk=>⟨hk.1.1,⟨hk.1.2,hk.2⟩⟩)⟩,⟨by (with_reducible repeat (first|apply Kd.N_alloc|apply Kd.N_drewN|apply Kd.N_drew));exact Kd.N_mono HO632.out (fun _ hk=>⟨hk.1.1,⟨hk.1.2,hk.2⟩⟩)⟩,⟨gK BK633⟩,⟨gK BK634⟩,⟨by repeat (first|exact gB HB|refine below_set ?_ GE633.out|refine below_set ?_ GE634.out)⟩⟩
   ·rw [if_neg c16] at H
    have c16b0:(t635 != t636)=false:=by simpa using c16
    (try (have c16b1:decide (t635=t636)=true:=by simpa using c16))
    (try (have c16b2:(t635 == t636)=true:=by simpa using c16))
    clear c16
    (first|rw [c16b0]|(simp only [i64_w,i32_w];rw [c16b0])|skip)
    replace H:=Option.bind_eq_some_iff.mp H
    obtain ⟨t637,A210,H⟩:=H
    replace H:(if (t635 != t637)=true then (laws_FnDocSame.j0 k t635 true t621 t622 t623 t624 t627 t628 t629 t630) else ((impl_DocSame.f k t621 t622 t623 t624 t621 t622 t623 t624).bind fun t638=>(laws_FnDocSame.j0 k t635 (!t638) t621 t622 t623 t624 t627 t628 t629 t630)))=some r:=H
    have A21:=Aside0.mk A210
    clear A210
    by_cases c22:(t635 != t637)=true
    ·rw [if_pos c22] at H
     have c22b0:(t635 != t637)=true:=c22
     (try (have c22b1:decide (t635=t637)=false:=by simpa using c22))
     (try (have c22b2:(t635 == t637)=false:=by simpa using c22))
     (try (have c22b3:¬ (t635=t637):=by simpa using c22))
     clear c22
     have H':=Aside0.mk H
     clear H
     have hnb23:=NB633_634.out
     have hnc23:=NB634_633.out
     have hcz24_0:w14.cell? ⟨gb633,0,none⟩=some (.int .i64 t621):=(blk_cell BK633.out 0).trans rfl
     have hcz24_1:w14.cell? ⟨gb633,1,none⟩=some (.int .i64 t622):=(blk_cell BK633.out 1).trans rfl
     have hcz24_2:w14.cell? ⟨gb633,2,none⟩=some (.string t623):=(blk_cell BK633.out 2).trans rfl
     have hcz24_3:w14.cell? ⟨gb633,3,none⟩=some (.slice Ao11 t624.length co11):=(blk_cell BK633.out 3).trans rfl
     have hfz24_0:=blk_frozen BK633.out 0
     have hfz24_1:=blk_frozen BK633.out 1
     have hfz24_2:=blk_frozen BK633.out 2
     have hfz24_3:=blk_frozen BK633.out 3
     have hcz25_0:w14.cell? ⟨gb634,0,none⟩=some (.int .i64 t627):=(blk_cell BK634.out 0).trans rfl
     have hcz25_1:w14.cell? ⟨gb634,1,none⟩=some (.int .i64 t628):=(blk_cell BK634.out 1).trans rfl
     have hcz25_2:w14.cell? ⟨gb634,2,none⟩=some (.string t629):=(blk_cell BK634.out 2).trans rfl
     have hcz25_3:w14.cell? ⟨gb634,3,none⟩=some (.slice Ao13 t630.length co13):=(blk_cell BK634.out 3).trans rfl
     have hfz25_0:=blk_frozen BK634.out 0
     have hfz25_1:=blk_frozen BK634.out 1
     have hfz25_2:=blk_frozen BK634.out 2
     have hfz25_3:=blk_frozen BK634.out 3
     go_wp2_with (first|((with_reducible refine gate_callee (f:=35) rfl ?_);refine goesL_ (some 20) rfl rfl Try.func35 (by kernel_rfl) rfl #[.agg #[.int .i64 t621,.int .i64 t622,.string t623,.slice Ao11 t624.length co11],.agg #[.int .i64 t627,.int .i64 t628,.string t629,.slice Ao13 t630.length co13]] rfl (by (try simp only [List.map_toArray,List.map_cons,List.map_nil]);first|done|rfl|(simp only [List.length_drop,List.length_take];rfl)) ?_;(with_reducible refine (spec_DocSame.calls k t621 t622 t623 _ _ t624 t627 t628 t629 _ _ t630 t636 _ ?side1 ?side2 ?side3 ?side4 A15.out).mono ?_);(case side1=>exact gC ((Kd.N_reads' HO626.out).2.2));(case side2=>exact (Kd.N_reads' HO626.out).2.1);(case side3=>exact gC ((Kd.N_reads' HO632.out).2.2));(case side4=>exact (Kd.N_reads' HO632.out).2.1);rintro e w26 ⟨rfl,hb⟩;refine ⟨_,rfl,?_⟩;have n0_:=Aside0.mk (Kd.N_below (gN HO626) hb);have n1_:=Aside0.mk (Kd.N_below (gN HO632) hb);have n2_:=Aside0.mk (blk_below (g:=gb633) (o:=.cells #[.int .i64 t621,.int .i64 t622,.string t623,.slice Ao11 t624.length co11] 27 (0,0)) (gK BK633) hb);have n3_:=Aside0.mk (blk_below (g:=gb634) (o:=.cells #[.int .i64 t627,.int .i64 t628,.string t629,.slice Ao13 t630.length co13] 27 (0,0)) (gK BK634) hb);have n4_:=Aside0.mk (below_step (by repeat (first|exact gB HB|refine below_set ?_ GE633.out|refine below_set ?_ GE634.out)) hb);clear HO626;clear HO632;clear BK633;clear BK634;clear HB;have HO626:=n0_;have HO632:=n1_;have BK633:=n2_;have BK634:=n3_;have HB:=n4_;clear n0_ n1_ n2_ n3_ n4_;(try clear hb);(try clear hb2);(try clear hk);(try clear hi);have hcz27_0:w26.cell? ⟨gb634,0,none⟩=some (.int .i64 t627):=(blk_cell BK634.out 0).trans rfl;have hcz27_1:w26.cell? ⟨gb634,1,none⟩=some (.int .i64 t628):=(blk_cell BK634.out 1).trans rfl;have hcz27_2:w26.cell? ⟨gb634,2,none⟩=some (.string t629):=(blk_cell BK634.out 2).trans rfl;have hcz27_3:w26.cell? ⟨gb634,3,none⟩=some (.slice Ao13 t630.length co13):=(blk_cell BK634.out 3).trans rfl;have hfz27_0:=blk_frozen BK634.out 0;have hfz27_1:=blk_frozen BK634.out 1;have hfz27_2:=blk_frozen BK634.out 2;have hfz27_3:=blk_frozen BK634.out 3;have hcz28_0:w26.cell? ⟨gb633,0,none⟩=some (.int .i64 t621):=(blk_cell BK633.out 0).trans rfl;have hcz28_1:w26.cell? ⟨gb633,1,none⟩=some (.int .i64 t622):=(blk_cell BK633.out 1).trans rfl;have hcz28_2:w26.cell? ⟨gb633,2,none⟩=some (.string t623):=(blk_cell BK633.out 2).trans rfl;have hcz28_3:w26.cell? ⟨gb633,3,none⟩=some (.slice Ao11 t624.length co11):=(blk_cell BK633.out 3).trans rfl;have hfz28_0:=blk_frozen BK633.out 0;have hfz28_1:=blk_frozen BK633.out 1;have hfz28_2:=blk_frozen BK633.out 2;have hfz28_3:=blk_frozen BK633.out 3)|(go_at_call 34;(with_reducible refine (impl_DocSame.calls k t627 t628 t629 _ _ t630 t621 t622 t623 _ _ t624 t637 _ ?side1 ?side2 ?side3 ?side4 A21.out).mono ?_);(case side1=>exact gC ((Kd.N_reads' HO632.out).2.2));(case side2=>exact (Kd.N_reads' HO632.out).2.1);(case side3=>exact gC ((Kd.N_reads' HO626.out).2.2));(case side4=>exact (Kd.N_reads' HO626.out).2.1);rintro e w29 ⟨rfl,hb⟩;have n0_:=Aside0.mk (Kd.N_below (gN HO626) hb);have n1_:=Aside0.mk (Kd.N_below (gN HO632) hb);have n2_:=Aside0.mk (blk_below (g:=gb633) (o:=.cells #[.int .i64 t621,.int .i64 t622,.string t623,.slice Ao11 t624.length co11] 27 (0,0)) (gK BK633) hb);have n3_:=Aside0.mk (blk_below (g:=gb634) (o:=.cells #[.int .i64 t627,.int .i64 t628,.string t629,.slice Ao13 t630.length co13] 27 (0,0)) (gK BK634) hb);have n4_:=Aside0.mk (below_step (by repeat (first|exact gB HB|refine below_set ?_ GE633.out|refine below_set ?_ GE634.out)) hb);clear HO626;clear HO632;clear BK633;clear BK634;clear HB;have HO626:=n0_;have HO632:=n1_;have BK633:=n2_;have BK634:=n3_;have HB:=n4_;clear n0_ n1_ n2_ n3_ n4_;(try clear hb);(try clear hb2);(try clear hk);(try clear hi)))
     go_meet
     case rel=>exact ⟨_,(true),(by first|rfl|(simp;done)|(simp [*];done)),H',⟨by first|omega|exact Nat.le_refl _⟩,⟨by (with_reducible repeat (first|apply Kd.N_alloc|apply Kd.N_drewN|apply Kd.N_drew));exact Kd.N_mono HO626.out (fun _ hk=>⟨hk.1.1,⟨hk.1.2,hk.2⟩⟩)⟩,⟨by (with_reducible repeat (first|apply Kd.N_alloc|apply Kd.N_drewN|apply Kd.N_drew));exact Kd.N_mono HO632.out (fun _ hk=>⟨hk.1.1,⟨hk.1.2,hk.2⟩⟩)⟩,⟨gK BK633⟩,⟨gK BK634⟩,⟨by repeat (first|exact gB HB|refine below_set ?_ GE633.out|refine below_set ?_ GE634.out)⟩⟩
    ·rw [if_neg c22] at H
     have c22b0:(t635 != t637)=false:=by simpa using c22
     (try (have c22b1:decide (t635=t637)=true:=by simpa using c22))
     (try (have c22b2:(t635 == t637)=true:=by simpa using c22))
     clear c22
     replace H:=Option.bind_eq_some_iff.mp H
     obtain ⟨t638,A300,H⟩:=H
     replace H:(laws_FnDocSame.j0 k t635 (!t638) t621 t622 t623 t624 t627 t628 t629 t630)=some r:=H
     have A30:=Aside0.mk A300
     clear A300
     have H':=Aside0.mk H
     clear H
     have hnb31:=NB633_634.out
     have hnc31:=NB634_633.out
     have hcz32_0:w14.cell? ⟨gb633,0,none⟩=some (.int .i64 t621):=(blk_cell BK633.out 0).trans rfl
     have hcz32_1:w14.cell? ⟨gb633,1,none⟩=some (.int .i64 t622):=(blk_cell BK633.out 1).trans rfl
     have hcz32_2:w14.cell? ⟨gb633,2,none⟩=some (.string t623):=(blk_cell BK633.out 2).trans rfl
     have hcz32_3:w14.cell? ⟨gb633,3,none⟩=some (.slice Ao11 t624.length co11):=(blk_cell BK633.out 3).trans rfl
     have hfz32_0:=blk_frozen BK633.out 0
     have hfz32_1:=blk_frozen BK633.out 1
     have hfz32_2:=blk_frozen BK633.out 2
     have hfz32_3:=blk_frozen BK633.out 3
     have hcz33_0:w14.cell? ⟨gb634,0,none⟩=some (.int .i64 t627):=(blk_cell BK634.out 0).trans rfl
     have hcz33_1:w14.cell? ⟨gb634,1,none⟩=some (.int .i64 t628):=(blk_cell BK634.out 1).trans rfl
     have hcz33_2:w14.cell? ⟨gb634,2,none⟩=some (.string t629):=(blk_cell BK634.out 2).trans rfl
     have hcz33_3:w14.cell? ⟨gb634,3,none⟩=some (.slice Ao13 t630.length co13):=(blk_cell BK634.out 3).trans rfl
     have hfz33_0:=blk_frozen BK634.out 0
     have hfz33_1:=blk_frozen BK634.out 1
     have hfz33_2:=blk_frozen BK634.out 2
     have hfz33_3:=blk_frozen BK634.out 3
     go_wp2_with (first|((with_reducible refine gate_callee (f:=35) rfl ?_);refine goesL_ (some 20) rfl rfl Try.func35 (by kernel_rfl) rfl #[.agg #[.int .i64 t621,.int .i64 t622,.string t623,.slice Ao11 t624.length co11],.agg #[.int .i64 t627,.int .i64 t628,.string t629,.slice Ao13 t630.length co13]] rfl (by (try simp only [List.map_toArray,List.map_cons,List.map_nil]);first|done|rfl|(simp only [List.length_drop,List.length_take];rfl)) ?_;(with_reducible refine (spec_DocSame.calls k t621 t622 t623 _ _ t624 t627 t628 t629 _ _ t630 t636 _ ?side1 ?side2 ?side3 ?side4 A15.out).mono ?_);(case side1=>exact gC ((Kd.N_reads' HO626.out).2.2));(case side2=>exact (Kd.N_reads' HO626.out).2.1);(case side3=>exact gC ((Kd.N_reads' HO632.out).2.2));(case side4=>exact (Kd.N_reads' HO632.out).2.1);rintro e w34 ⟨rfl,hb⟩;refine ⟨_,rfl,?_⟩;have n0_:=Aside0.mk (Kd.N_below (gN HO626) hb);have n1_:=Aside0.mk (Kd.N_below (gN HO632) hb);have n2_:=Aside0.mk (blk_below (g:=gb633) (o:=.cells #[.int .i64 t621,.int .i64 t622,.string t623,.slice Ao11 t624.length co11] 27 (0,0)) (gK BK633) hb);have n3_:=Aside0.mk (blk_below (g:=gb634) (o:=.cells #[.int .i64 t627,.int .i64 t628,.string t629,.slice Ao13 t630.length co13] 27 (0,0)) (gK BK634) hb);have n4_:=Aside0.mk (below_step (by repeat (first|exact gB HB|refine below_set ?_ GE633.out|refine below_set ?_ GE634.out)) hb);clear HO626;clear HO632;clear BK633;clear BK634;clear HB;have HO626:=n0_;have HO632:=n1_;have BK633:=n2_;have BK634:=n3_;have HB:=n4_;clear n0_ n1_ n2_ n3_ n4_;(try clear hb);(try clear hb2);(try clear hk);(try clear hi);have hcz35_0:w34.cell? ⟨gb634,0,none⟩=some (.int .i64 t627):=(blk_cell BK634.out 0).trans rfl;have hcz35_1:w34.cell? ⟨gb634,1,none⟩=some (.int .i64 t628):=(blk_cell BK634.out 1).trans rfl;have hcz35_2:w34.cell? ⟨gb634,2,none⟩=some (.string t629):=(blk_cell BK634.out 2).trans rfl;have hcz35_3:w34.cell? ⟨gb634,3,none⟩=some (.slice Ao13 t630.length co13):=(blk_cell BK634.out 3).trans rfl;have hfz35_0:=blk_frozen BK634.out 0;have hfz35_1:=blk_frozen BK634.out 1;have hfz35_2:=blk_frozen BK634.out 2;have hfz35_3:=blk_frozen BK634.out 3;have hcz36_0:w34.cell? ⟨gb633,0,none⟩=some (.int .i64 t621):=(blk_cell BK633.out 0).trans rfl;have hcz36_1:w34.cell? ⟨gb633,1,none⟩=some (.int .i64 t622):=(blk_cell BK633.out 1).trans rfl;have hcz36_2:w34.cell? ⟨gb633,2,none⟩=some (.string t623):=(blk_cell BK633.out 2).trans rfl;have hcz36_3:w34.cell? ⟨gb633,3,none⟩=some (.slice Ao11 t624.length co11):=(blk_cell BK633.out 3).trans rfl;have hfz36_0:=blk_frozen BK633.out 0;have hfz36_1:=blk_frozen BK633.out 1;have hfz36_2:=blk_frozen BK633.out 2;have hfz36_3:=blk_frozen BK633.out 3)|(go_at_call 34;(with_reducible refine (impl_DocSame.calls k t627 t628 t629 _ _ t630 t621 t622 t623 _ _ t624 t637 _ ?side1 ?side2 ?side3 ?side4 A21.out).mono ?_);(case side1=>exact gC ((Kd.N_reads' HO632.out).2.2));(case side2=>exact (Kd.N_reads' HO632.out).2.1);(case side3=>exact gC ((Kd.N_reads' HO626.out).2.2));(case side4=>exact (Kd.N_reads' HO626.out).2.1);rintro e w37 ⟨rfl,hb⟩;have n0_:=Aside0.mk (Kd.N_below (gN HO626) hb);have n1_:=Aside0.mk (Kd.N_below (gN HO632) hb);have n2_:=Aside0.mk (blk_below (g:=gb633) (o:=.cells #[.int .i64 t621,.int .i64 t622,.string t623,.slice Ao11 t624.length co11] 27 (0,0)) (gK BK633) hb);have n3_:=Aside0.mk (blk_below (g:=gb634) (o:=.cells #[.int .i64 t627,.int .i64 t628,.string t629,.slice Ao13 t630.length co13] 27 (0,0)) (gK BK634) hb);have n4_:=Aside0.mk (below_step (by repeat (first|exact gB HB|refine below_set ?_ GE633.out|refine below_set ?_ GE634.out)) hb);clear HO626;clear HO632;clear BK633;clear BK634;clear HB;have HO626:=n0_;have HO632:=n1_;have BK633:=n2_;have BK634:=n3_;have HB:=n4_;clear n0_ n1_ n2_ n3_ n4_;(try clear hb);(try clear hb2);(try clear hk);(try clear hi);have hcz38_0:w37.cell? ⟨gb633,0,none⟩=some (.int .i64 t621):=(blk_cell BK633.out 0).trans rfl;have hcz38_1:w37.cell? ⟨gb633,1,none⟩=some (.int .i64 t622):=(blk_cell BK633.out 1).trans rfl;have hcz38_2:w37.cell? ⟨gb633,2,none⟩=some (.string t623):=(blk_cell BK633.out 2).trans rfl;have hcz38_3:w37.cell? ⟨gb633,3,none⟩=some (.slice Ao11 t624.length co11):=(blk_cell BK633.out 3).trans rfl;have hfz38_0:=blk_frozen BK633.out 0;have hfz38_1:=blk_frozen BK633.out 1;have hfz38_2:=blk_frozen BK633.out 2;have hfz38_3:=blk_frozen BK633.out 3)|(go_at_call 34;(with_reducible refine (impl_DocSame.calls k t621 t622 t623 _ _ t624 t621 t622 t623 _ _ t624 t638 _ ?side1 ?side2 ?side3 ?side4 A30.out).mono ?_);(case side1=>exact gC ((Kd.N_reads' HO626.out).2.2));(case side2=>exact (Kd.N_reads' HO626.out).2.1);(case side3=>exact gC ((Kd.N_reads' HO626.out).2.2));(case side4=>exact (Kd.N_reads' HO626.out).2.1);rintro e w39 ⟨rfl,hb⟩;have n0_:=Aside0.mk (Kd.N_below (gN HO626) hb);have n1_:=Aside0.mk (Kd.N_below (gN HO632) hb);have n2_:=Aside0.mk (blk_below (g:=gb633) (o:=.cells #[.int .i64 t621,.int .i64 t622,.string t623,.slice Ao11 t624.length co11] 27 (0,0)) (gK BK633) hb);have n3_:=Aside0.mk (blk_below (g:=gb634) (o:=.cells #[.int .i64 t627,.int .i64 t628,.string t629,.slice Ao13 t630.length co13] 27 (0,0)) (gK BK634) hb);have n4_:=Aside0.mk (below_step (by repeat (first|exact gB HB|refine below_set ?_ GE633.out|refine below_set ?_ GE634.out)) hb);clear HO626;clear HO632;clear BK633;clear BK634;clear HB;have HO626:=n0_;have HO632:=n1_;have BK633:=n2_;have BK634:=n3_;have HB:=n4_;clear n0_ n1_ n2_ n3_ n4_;(try clear hb);(try clear hb2);(try clear hk);(try clear hi)))
     go_meet
     case rel=>exact ⟨_,(!t638),(by first|rfl|(simp;done)|(simp [*];done)),H',⟨by first|omega|exact Nat.le_refl _⟩,⟨by (with_reducible repeat (first|apply Kd.N_alloc|apply Kd.N_drewN|apply Kd.N_drew));exact Kd.N_mono HO626.out (fun _ hk=>⟨hk.1.1,⟨hk.1.2,hk.2⟩⟩)⟩,⟨by (with_reducible repeat (first|apply Kd.N_alloc|apply Kd.N_drewN|apply Kd.N_drew));exact Kd.N_mono HO632.out (fun _ hk=>⟨hk.1.1,⟨hk.1.2,hk.2⟩⟩)⟩,⟨gK BK633⟩,⟨gK BK634⟩,⟨by repeat (first|exact gB HB|refine below_set ?_ GE633.out|refine below_set ?_ GE634.out)⟩⟩
  case rest =>
   clear HC5
   try clear c1 c2 c2b0 c2b1 p2 c3 c9 c16 c16b0 c16b1 c16b2 c17 c22 c22b0 c22b1 c22b2 c23 c31 c34 c35 hcz10_0 hcz10_1 hcz10_2 hcz10_3 hcz12_0 hcz12_1 hcz12_2 hcz12_3 hcz18_0 hcz18_1 hcz18_2 hcz18_3 hcz19_0 hcz19_1 hcz19_2 hcz19_3 hcz24_0 hcz24_1 hcz24_2 hcz24_3 hcz25_0 hcz25_1 hcz25_2 hcz25_3 hcz27_0 hcz27_1 hcz27_2 hcz27_3 hcz28_0 hcz28_1 hcz28_2 hcz28_3 hcz32_0 hcz32_1 hcz32_2 hcz32_3 hcz33_0 hcz33_1 hcz33_2 hcz33_3 hcz35_0 hcz35_1 hcz35_2 hcz35_3 hcz36_0 hcz36_1 hcz36_2 hcz36_3 hcz38_0 hcz38_1 hcz38_2 hcz38_3 hfz10_0 hfz10_1 hfz10_2 hfz10_3 hfz12_0 hfz12_1 hfz12_2 hfz12_3 hfz18_0 hfz18_1 hfz18_2 hfz18_3 hfz19_0 hfz19_1 hfz19_2 hfz19_3 hfz24_0 hfz24_1 hfz24_2 hfz24_3 hfz25_0 hfz25_1 hfz25_2 hfz25_3 hfz27_0 hfz27_1 hfz27_2 hfz27_3 hfz28_0 hfz28_1 hfz28_2 hfz28_3 hfz32_0 hfz32_1 hfz32_2 hfz32_3 hfz33_0 hfz33_1 hfz33_2 hfz33_3 hfz35_0 hfz35_1 hfz35_2 hfz35_3 hfz36_0 hfz36_1 hfz36_2 hfz36_3 hfz38_0 hfz38_1 hfz38_2 hfz38_3
   obtain ⟨kq,x34_4,rfl,HA,HJ4,HO_634003,HO_635003,BK633,BK634,HB⟩:=hcut
   cases kq with
   | zero=>exact absurd HA.out (by simp [laws_FnDocSame.j0])
   | succ kj4 =>
    have H:=HA.out
    clear HA
    simp only [laws_FnDocSame.j0] at H
    by_cases c40:x34_4=true
    ·subst c40
     have H1:(none)=some r:=by rw [if_pos rfl] at H;exact H
     clear H
     have H:=H1
     clear H1
     exact absurd H (by simp)
    ·replace c40:=Bool.eq_false_iff.mpr c40
     subst c40
     have H1:((impl_DocValid.f kj4 t621 t622 t623 t624).bind fun t639=>(if t639=true then ((impl_DocValid.f kj4 t627 t628 t629 t630).bind fun t640=>(if t640=true then ((impl_FormatDoc.f kj4 t621 t622 t623 t624).bind fun t641=>((impl_FormatDoc.f kj4 t627 t628 t629 t630).bind fun t642=>(some (t635 == (t641.toList == t642.toList))))) else (some true))) else (some true)))=some r:=by rw [if_neg (show ¬ (false=true) by decide)] at H;exact H
     clear H
     have H:=H1
     clear H1
     replace H:=Option.bind_eq_some_iff.mp H
     obtain ⟨t639,A410,H⟩:=H
     replace H:(if t639=true then ((impl_DocValid.f kj4 t627 t628 t629 t630).bind fun t640=>(if t640=true then ((impl_FormatDoc.f kj4 t621 t622 t623 t624).bind fun t641=>((impl_FormatDoc.f kj4 t627 t628 t629 t630).bind fun t642=>(some (t635 == (t641.toList == t642.toList))))) else (some true))) else (some true))=some r:=H
     have A41:=Aside0.mk A410
     clear A410
     by_cases c42:t639=true
     ·subst c42
      have H1:((impl_DocValid.f kj4 t627 t628 t629 t630).bind fun t640=>(if t640=true then ((impl_FormatDoc.f kj4 t621 t622 t623 t624).bind fun t641=>((impl_FormatDoc.f kj4 t627 t628 t629 t630).bind fun t642=>(some (t635 == (t641.toList == t642.toList))))) else (some true)))=some r:=by rw [if_pos rfl] at H;exact H
      clear H
      have H:=H1
      clear H1
      replace H:=Option.bind_eq_some_iff.mp H
      obtain ⟨t640,A430,H⟩:=H
      replace H:(if t640=true then ((impl_FormatDoc.f kj4 t621 t622 t623 t624).bind fun t641=>((impl_FormatDoc.f kj4 t627 t628 t629 t630).bind fun t642=>(some (t635 == (t641.toList == t642.toList))))) else (some true))=some r:=H
      have A43:=Aside0.mk A430
      clear A430
      by_cases c44:t640=true
      ·subst c44
       have H1:((impl_FormatDoc.f kj4 t621 t622 t623 t624).bind fun t641=>((impl_FormatDoc.f kj4 t627 t628 t629 t630).bind fun t642=>(some (t635 == (t641.toList == t642.toList)))))=some r:=by rw [if_pos rfl] at H;exact H
       clear H
       have H:=H1
       clear H1
       replace H:=Option.bind_eq_some_iff.mp H
       obtain ⟨t641,A450,H⟩:=H
       replace H:((impl_FormatDoc.f kj4 t627 t628 t629 t630).bind fun t642=>(some (t635 == (t641.toList == t642.toList))))=some r:=H
       have A45:=Aside0.mk A450
       clear A450
       replace H:=Option.bind_eq_some_iff.mp H
       obtain ⟨t642,A460,H⟩:=H
       replace H:(some (t635 == (t641.toList == t642.toList)))=some r:=H
       have A46:=Aside0.mk A460
       clear A460
       obtain rfl:=Option.some.inj H
       try go_wp2
       have n0_:=Aside0.mk (Kd.N_drew HO_634003.out)
       have n1_:=Aside0.mk (Kd.N_drew HO_635003.out)
       have n2_:=Aside0.mk (blk_drew BK633.out)
       have n3_:=Aside0.mk (blk_drew BK634.out)
       have n4_:=Aside0.mk (below_drew1 HB.out)
       clear HO_634003
       clear HO_635003
       clear BK633
       clear BK634
       clear HB
       have HO_634003:=n0_
       have HO_635003:=n1_
       have BK633:=n2_
       have BK634:=n3_
       have HB:=n4_
       clear n0_ n1_ n2_ n3_ n4_
       refine start_ (n:=18) (S:=fun w'=>w'.cell? ⟨gb633,0,none⟩=some (.int .i64 t621)∧w'.cell? ⟨gb633,1,none⟩=some (.int .i64 t622)∧w'.cell? ⟨gb633,2,none⟩=some (.string t623)∧w'.cell? ⟨gb633,3,none⟩=some (.slice Ao11 t624.length co11)∧w'.cell? ⟨gb634,0,none⟩=some (.int .i64 t627)∧w'.cell? ⟨gb634,1,none⟩=some (.int .i64 t628)∧w'.cell? ⟨gb634,2,none⟩=some (.string t629)∧w'.cell? ⟨gb634,3,none⟩=some (.slice Ao13 t630.length co13)) (ds:=[]) #[false,false,false,false,false,false,false,false,false,false,false,false,false,false,false,false,false,false] (by kernel_rfl) rfl rfl ⟨(blk_cell BK633.out 0).trans rfl,(blk_cell BK633.out 1).trans rfl,(blk_cell BK633.out 2).trans rfl,(blk_cell BK633.out 3).trans rfl,(blk_cell BK634.out 0).trans rfl,(blk_cell BK634.out 1).trans rfl,(blk_cell BK634.out 2).trans rfl,(blk_cell BK634.out 3).trans rfl⟩ (fun hHeld=>?_);refine with_tabW laws_FnDocSame.tab7 laws_FnDocSame.bits7 (fun HT_ HW_=>?_)
       generalize wc.drew=w47 at HO_634003 HO_635003 BK633 BK634 HB hHeld ⊢
       refine take_ (i:=0) (N:=some 35) (v:=?_) (a':=?_) #[true,false,false,false,false,false,false,false,false,false,false,false,false,false,false,false,false,false] rfl rfl (take_ofW HT_.out HW_.out (by kernel_rfl)) (fun _ _ _ h=>h) (Or.inl ⟨by rfl,?_⟩) hHeld ?_ ?_
       rotate_left
       ·rintro w' ⟨s0,s1,s2,s3,s4,s5,s6,s7⟩
        go_simp
        with_reducible rfl
       rotate_left
       ·simp only [Act.put,List.setIfInBounds_toArray,List.set_cons_zero,List.set_cons_succ,i64_w,i32_w]
        rfl
       refine one_ (i:=1) (N:=some 36) #[true,true,false,false,false,false,false,false,false,false,false,false,false,false,false,false,false,false] rfl rfl (one_of HT_.out (by kernel_rfl)) (by decide) (fun K hK=>?_)
       refine goes_ Try.func24 (by kernel_rfl) rfl #[.agg #[.int .i64 t621,.int .i64 t622,.string t623,.slice Ao11 t624.length co11]] (by rfl) rfl rfl (by (try simp only [List.map_toArray,List.map_cons,List.map_nil]);first|done|rfl|(simp only [List.length_drop,List.length_take];rfl)) ?_
       with_reducible refine (impl_DocValid.calls kj4 t621 t622 t623 _ _ t624 true _ ?side1 ?side2 A41.out).mono ?_
       (case side1=>exact gC ((Kd.N_reads' HO_634003.out).2.2))
       (case side2=>exact (Kd.N_reads' HO_634003.out).2.1)
       rintro e w48 ⟨rfl,hb⟩
       refine ⟨_,rfl,?_⟩
       have n0_:=Aside0.mk (Kd.N_below (gN HO_634003) hb)
       have n1_:=Aside0.mk (Kd.N_below (gN HO_635003) hb)
       have n2_:=Aside0.mk (blk_below (g:=gb633) (o:=.cells #[.int .i64 t621,.int .i64 t622,.string t623,.slice Ao11 t624.length co11] 27 (0,0)) (gK BK633) hb)
       have n3_:=Aside0.mk (blk_below (g:=gb634) (o:=.cells #[.int .i64 t627,.int .i64 t628,.string t629,.slice Ao13 t630.length co13] 27 (0,0)) (gK BK634) hb)
       have n4_:=Aside0.mk (below_step (by repeat (first|exact gB HB|refine below_set ?_ GE633.out|refine below_set ?_ GE634.out)) hb)
       clear HO_634003
       clear HO_635003
       clear BK633
       clear BK634
       clear HB
       have HO_634003:=n0_
       have HO_635003:=n1_
       have BK633:=n2_
       have BK634:=n3_
       have HB:=n4_
       clear n0_ n1_ n2_ n3_ n4_
       (try clear hb)
       (try clear hb2)
       (try clear hk)
       (try clear hi)
       refine hK.out _ _ ⟨(blk_cell BK633.out 0).trans rfl,(blk_cell BK633.out 1).trans rfl,(blk_cell BK633.out 2).trans rfl,(blk_cell BK633.out 3).trans rfl,(blk_cell BK634.out 0).trans rfl,(blk_cell BK634.out 1).trans rfl,(blk_cell BK634.out 2).trans rfl,(blk_cell BK634.out 3).trans rfl⟩ (fun hHeld=>?_)
       clear hK K
       refine norm_ (a':=?_) ?_ ?_
       rotate_left
       ·show Act.put _ (some 36) _=_
        simp only [Act.put,List.setIfInBounds_toArray,List.set_cons_zero,List.set_cons_succ,i64_w,i32_w]
        rfl
       refine pure_ (i:=2) (N:=some 37) (v:=?_) (a':=?_) #[true,true,true,false,false,false,false,false,false,false,false,false,false,false,false,false,false,false] rfl rfl (any_of HT_.out (by kernel_rfl)) (fun _ _ _ h=>h) (Or.inl ⟨by rfl,?_⟩) ?_ ?_
       rotate_left
       ·intro w'
        go_simp
        with_reducible rfl
       rotate_left
       ·simp only [Act.put,List.setIfInBounds_toArray,List.set_cons_zero,List.set_cons_succ,i64_w,i32_w]
        rfl
       refine pure_ (i:=3) (N:=some 38) (v:=?_) (a':=?_) #[true,true,true,true,false,false,false,false,false,false,false,false,false,false,false,false,false,false] rfl rfl (any_of HT_.out (by kernel_rfl)) (fun _ _ _ h=>h) (Or.inl ⟨by rfl,?_⟩) ?_ ?_
       rotate_left
       ·intro w'
        go_simp
        with_reducible rfl
       rotate_left
       ·simp only [Act.put,List.setIfInBounds_toArray,List.set_cons_zero,List.set_cons_succ,i64_w,i32_w]
        rfl
       refine take_ (i:=4) (N:=some 39) (v:=?_) (a':=?_) #[true,true,true,true,true,false,false,false,false,false,false,false,false,false,false,false,false,false] rfl rfl (take_ofW HT_.out HW_.out (by kernel_rfl)) (fun _ _ _ h=>h) (Or.inl ⟨by rfl,?_⟩) hHeld ?_ ?_
       rotate_left
       ·rintro w' ⟨s0,s1,s2,s3,s4,s5,s6,s7⟩
        go_simp
        with_reducible rfl
       rotate_left
       ·simp only [Act.put,List.setIfInBounds_toArray,List.set_cons_zero,List.set_cons_succ,i64_w,i32_w]
        rfl
       refine one_ (i:=5) (N:=some 40) #[true,true,true,true,true,true,false,false,false,false,false,false,false,false,false,false,false,false] rfl rfl (one_of HT_.out (by kernel_rfl)) (by decide) (fun K hK=>?_)
       refine goes_ Try.func24 (by kernel_rfl) rfl #[.agg #[.int .i64 t627,.int .i64 t628,.string t629,.slice Ao13 t630.length co13]] (by rfl) rfl rfl (by (try simp only [List.map_toArray,List.map_cons,List.map_nil]);first|done|rfl|(simp only [List.length_drop,List.length_take];rfl)) ?_
       with_reducible refine (impl_DocValid.calls kj4 t627 t628 t629 _ _ t630 true _ ?side1 ?side2 A43.out).mono ?_
       (case side1=>exact gC ((Kd.N_reads' HO_635003.out).2.2))
       (case side2=>exact (Kd.N_reads' HO_635003.out).2.1)
       rintro e w49 ⟨rfl,hb⟩
       refine ⟨_,rfl,?_⟩
       have n0_:=Aside0.mk (Kd.N_below (gN HO_634003) hb)
       have n1_:=Aside0.mk (Kd.N_below (gN HO_635003) hb)
       have n2_:=Aside0.mk (blk_below (g:=gb633) (o:=.cells #[.int .i64 t621,.int .i64 t622,.string t623,.slice Ao11 t624.length co11] 27 (0,0)) (gK BK633) hb)
       have n3_:=Aside0.mk (blk_below (g:=gb634) (o:=.cells #[.int .i64 t627,.int .i64 t628,.string t629,.slice Ao13 t630.length co13] 27 (0,0)) (gK BK634) hb)
       have n4_:=Aside0.mk (below_step (by repeat (first|exact gB HB|refine below_set ?_ GE633.out|refine below_set ?_ GE634.out)) hb)
       clear HO_634003
       clear HO_635003
       clear BK633
       clear BK634
       clear HB
       have HO_634003:=n0_
       have HO_635003:=n1_
       have BK633:=n2_
       have BK634:=n3_
       have HB:=n4_
       clear n0_ n1_ n2_ n3_ n4_
       (try clear hb)
       (try clear hb2)
       (try clear hk)
       (try clear hi)
       refine hK.out _ _ ⟨(blk_cell BK633.out 0).trans rfl,(blk_cell BK633.out 1).trans rfl,(blk_cell BK633.out 2).trans rfl,(blk_cell BK633.out 3).trans rfl,(blk_cell BK634.out 0).trans rfl,(blk_cell BK634.out 1).trans rfl,(blk_cell BK634.out 2).trans rfl,(blk_cell BK634.out 3).trans rfl⟩ (fun hHeld=>?_)
       clear hK K
       refine norm_ (a':=?_) ?_ ?_
       rotate_left
       ·show Act.put _ (some 40) _=_
        simp only [Act.put,List.setIfInBounds_toArray,List.set_cons_zero,List.set_cons_succ,i64_w,i32_w]
        rfl
       refine pure_ (i:=6) (N:=some 41) (v:=?_) (a':=?_) #[true,true,true,true,true,true,true,false,false,false,false,false,false,false,false,false,false,false] rfl rfl (any_of HT_.out (by kernel_rfl)) (fun _ _ _ h=>h) (Or.inl ⟨by rfl,?_⟩) ?_ ?_
       rotate_left
       ·intro w'
        go_simp
        with_reducible rfl
       rotate_left
       ·simp only [Act.put,List.setIfInBounds_toArray,List.set_cons_zero,List.set_cons_succ,i64_w,i32_w]
        rfl
       refine pure_ (i:=7) (N:=some 42) (v:=?_) (a':=?_) #[true,true,true,true,true,true,true,true,false,false,false,false,false,false,false,false,false,false] rfl rfl (any_of HT_.out (by kernel_rfl)) (fun _ _ _ h=>h) (Or.inl ⟨by rfl,?_⟩) ?_ ?_
       rotate_left
       ·intro w'
        go_simp
        with_reducible rfl
       rotate_left
       ·simp only [Act.put,List.setIfInBounds_toArray,List.set_cons_zero,List.set_cons_succ,i64_w,i32_w]
        rfl
       refine pure_ (i:=8) (N:=some 43) (v:=?_) (a':=?_) #[true,true,true,true,true,true,true,true,true,false,false,false,false,false,false,false,false,false] rfl rfl (any_of HT_.out (by kernel_rfl)) (fun _ _ _ h=>h) (Or.inl ⟨by rfl,?_⟩) ?_ ?_
       rotate_left
       ·intro w'
        go_simp
        with_reducible rfl
       rotate_left
       ·simp only [Act.put,List.setIfInBounds_toArray,List.set_cons_zero,List.set_cons_succ,i64_w,i32_w]
        rfl
       refine pure_ (i:=9) (N:=some 44) (v:=?_) (a':=?_) #[true,true,true,true,true,true,true,true,true,true,false,false,false,false,false,false,false,false] rfl rfl (any_of HT_.out (by kernel_rfl)) (fun _ _ _ h=>h) (Or.inl ⟨by rfl,?_⟩) ?_ ?_
       rotate_left
       ·intro w'
        go_simp
        with_reducible rfl
       rotate_left
       ·simp only [Act.put,List.setIfInBounds_toArray,List.set_cons_zero,List.set_cons_succ,i64_w,i32_w]
        rfl
       refine take_ (i:=10) (N:=some 45) (v:=?_) (a':=?_) #[true,true,true,true,true,true,true,true,true,true,true,false,false,false,false,false,false,false] rfl rfl (take_ofW HT_.out HW_.out (by kernel_rfl)) (fun _ _ _ h=>h) (Or.inl ⟨by rfl,?_⟩) hHeld ?_ ?_
       rotate_left
       ·rintro w' ⟨s0,s1,s2,s3,s4,s5,s6,s7⟩
        go_simp
        with_reducible rfl
       rotate_left
       ·simp only [Act.put,List.setIfInBounds_toArray,List.set_cons_zero,List.set_cons_succ,i64_w,i32_w]
        rfl
       refine take_ (i:=12) (N:=some 47) (v:=?_) (a':=?_) #[true,true,true,true,true,true,true,true,true,true,true,false,true,false,false,false,false,false] rfl rfl (take_ofW HT_.out HW_.out (by kernel_rfl)) (fun _ _ _ h=>h) (Or.inl ⟨by rfl,?_⟩) hHeld ?_ ?_
       rotate_left
       ·rintro w' ⟨s0,s1,s2,s3,s4,s5,s6,s7⟩
        go_simp
        with_reducible rfl
       rotate_left
       ·simp only [Act.put,List.setIfInBounds_toArray,List.set_cons_zero,List.set_cons_succ,i64_w,i32_w]
        rfl
       refine one_ (i:=11) (N:=some 46) #[true,true,true,true,true,true,true,true,true,true,true,true,true,false,false,false,false,false] rfl rfl (one_of HT_.out (by kernel_rfl)) (by decide) (fun K hK=>?_)
       refine goes_ Try.func36 (by kernel_rfl) rfl #[.agg #[.int .i64 t621,.int .i64 t622,.string t623,.slice Ao11 t624.length co11]] (by rfl) rfl rfl (by (try simp only [List.map_toArray,List.map_cons,List.map_nil]);first|done|rfl|(simp only [List.length_drop,List.length_take];rfl)) ?_
       with_reducible refine (impl_FormatDoc.calls kj4 t621 t622 t623 _ _ t624 t641 _ ?side1 ?side2 A45.out).mono ?_
       (case side1=>exact gC ((Kd.N_reads' HO_634003.out).2.2))
       (case side2=>exact (Kd.N_reads' HO_634003.out).2.1)
       rintro e w50 ⟨rfl,hb⟩
       refine ⟨_,rfl,?_⟩
       have n0_:=Aside0.mk (Kd.N_below (gN HO_634003) hb)
       have n1_:=Aside0.mk (Kd.N_below (gN HO_635003) hb)
       have n2_:=Aside0.mk (blk_below (g:=gb633) (o:=.cells #[.int .i64 t621,.int .i64 t622,.string t623,.slice Ao11 t624.length co11] 27 (0,0)) (gK BK633) hb)
       have n3_:=Aside0.mk (blk_below (g:=gb634) (o:=.cells #[.int .i64 t627,.int .i64 t628,.string t629,.slice Ao13 t630.length co13] 27 (0,0)) (gK BK634) hb)
       have n4_:=Aside0.mk (below_step (by repeat (first|exact gB HB|refine below_set ?_ GE633.out|refine below_set ?_ GE634.out)) hb)
       clear HO_634003
       clear HO_635003
       clear BK633
       clear BK634
       clear HB
       have HO_634003:=n0_
       have HO_635003:=n1_
       have BK633:=n2_
       have BK634:=n3_
       have HB:=n4_
       clear n0_ n1_ n2_ n3_ n4_
       (try clear hb)
       (try clear hb2)
       (try clear hk)
       (try clear hi)
       refine hK.out _ _ ⟨(blk_cell BK633.out 0).trans rfl,(blk_cell BK633.out 1).trans rfl,(blk_cell BK633.out 2).trans rfl,(blk_cell BK633.out 3).trans rfl,(blk_cell BK634.out 0).trans rfl,(blk_cell BK634.out 1).trans rfl,(blk_cell BK634.out 2).trans rfl,(blk_cell BK634.out 3).trans rfl⟩ (fun hHeld=>?_)
       clear hK K
       refine norm_ (a':=?_) ?_ ?_
       rotate_left
       ·show Act.put _ (some 46) _=_
        simp only [Act.put,List.setIfInBounds_toArray,List.set_cons_zero,List.set_cons_succ,i64_w,i32_w]
        rfl
       refine one_ (i:=13) (N:=some 48) #[true,true,true,true,true,true,true,true,true,true,true,true,true,true,false,false,false,false] rfl rfl (one_of HT_.out (by kernel_rfl)) (by decide) (fun K hK=>?_)
       refine goes_ Try.func36 (by kernel_rfl) rfl #[.agg #[.int .i64 t627,.int .i64 t628,.string t629,.slice Ao13 t630.length co13]] (by rfl) rfl rfl (by (try simp only [List.map_toArray,List.map_cons,List.map_nil]);first|done|rfl|(simp only [List.length_drop,List.length_take];rfl)) ?_
       with_reducible refine (impl_FormatDoc.calls kj4 t627 t628 t629 _ _ t630 t642 _ ?side1 ?side2 A46.out).mono ?_
       (case side1=>exact gC ((Kd.N_reads' HO_635003.out).2.2))
       (case side2=>exact (Kd.N_reads' HO_635003.out).2.1)
       rintro e w51 ⟨rfl,hb⟩
       refine ⟨_,rfl,?_⟩
       have n0_:=Aside0.mk (Kd.N_below (gN HO_634003) hb)
       have n1_:=Aside0.mk (Kd.N_below (gN HO_635003) hb)
       have n2_:=Aside0.mk (blk_below (g:=gb633) (o:=.cells #[.int .i64 t621,.int .i64 t622,.string t623,.slice Ao11 t624.length co11] 27 (0,0)) (gK BK633) hb)
       have n3_:=Aside0.mk (blk_below (g:=gb634) (o:=.cells #[.int .i64 t627,.int .i64 t628,.string t629,.slice Ao13 t630.length co13] 27 (0,0)) (gK BK634) hb)
       have n4_:=Aside0.mk (below_step (by repeat (first|exact gB HB|refine below_set ?_ GE633.out|refine below_set ?_ GE634.out)) hb)
       clear HO_634003
       clear HO_635003
       clear BK633
       clear BK634
       clear HB
       have HO_634003:=n0_
       have HO_635003:=n1_
       have BK633:=n2_
       have BK634:=n3_
       have HB:=n4_
       clear n0_ n1_ n2_ n3_ n4_
       (try clear hb)
       (try clear hb2)
       (try clear hk)
       (try clear hi)
       refine hK.out _ _ ⟨(blk_cell BK633.out 0).trans rfl,(blk_cell BK633.out 1).trans rfl,(blk_cell BK633.out 2).trans rfl,(blk_cell BK633.out 3).trans rfl,(blk_cell BK634.out 0).trans rfl,(blk_cell BK634.out 1).trans rfl,(blk_cell BK634.out 2).trans rfl,(blk_cell BK634.out 3).trans rfl⟩ (fun hHeld=>?_)
       clear hK K
       refine norm_ (a':=?_) ?_ ?_
       rotate_left
       ·show Act.put _ (some 48) _=_
        simp only [Act.put,List.setIfInBounds_toArray,List.set_cons_zero,List.set_cons_succ,i64_w,i32_w]
        rfl
       refine pure_ (i:=14) (N:=some 49) (v:=?_) (a':=?_) #[true,true,true,true,true,true,true,true,true,true,true,true,true,true,true,false,false,false] rfl rfl (any_of HT_.out (by kernel_rfl)) (fun _ _ _ h=>h) (Or.inl ⟨by rfl,?_⟩) ?_ ?_
       rotate_left
       ·intro w'
        go_simp
        with_reducible rfl
       rotate_left
       ·simp only [Act.put,List.setIfInBounds_toArray,List.set_cons_zero,List.set_cons_succ,i64_w,i32_w]
        rfl
       refine pure_ (i:=15) (N:=some 50) (v:=?_) (a':=?_) #[true,true,true,true,true,true,true,true,true,true,true,true,true,true,true,true,false,false] rfl rfl (any_of HT_.out (by kernel_rfl)) (fun _ _ _ h=>h) (Or.inl ⟨by rfl,?_⟩) ?_ ?_
       rotate_left
       ·intro w'
        go_simp
        with_reducible rfl
       rotate_left
       ·simp only [Act.put,List.setIfInBounds_toArray,List.set_cons_zero,List.set_cons_succ,i64_w,i32_w]
        rfl
       refine pure_ (i:=16) (N:=some 51) (v:=?_) (a':=?_) #[true,true,true,true,true,true,true,true,true,true,true,true,true,true,true,true,true,false] rfl rfl (any_of HT_.out (by kernel_rfl)) (fun _ _ _ h=>h) (Or.inl ⟨by rfl,?_⟩) ?_ ?_
       rotate_left
       ·intro w'
        go_simp
        with_reducible rfl
       rotate_left
       ·simp only [Act.put,List.setIfInBounds_toArray,List.set_cons_zero,List.set_cons_succ,i64_w,i32_w]
        rfl
       refine pure_ (i:=17) (N:=some 2) (v:=?_) (a':=?_) #[true,true,true,true,true,true,true,true,true,true,true,true,true,true,true,true,true,true] rfl rfl (any_of HT_.out (by kernel_rfl)) (fun _ _ _ h=>h) (Or.inl ⟨by rfl,?_⟩) ?_ ?_
       rotate_left
       ·intro w'
        go_simp
        with_reducible rfl
       rotate_left
       ·simp only [Act.put,List.setIfInBounds_toArray,List.set_cons_zero,List.set_cons_succ,i64_w,i32_w]
        rfl
       refine done_ (done_of HT_.out (by kernel_rfl)) ?_
       try go_wp2
       go_ret
       exact ⟨by first|rfl|(simp [errW_none,errW_some] <;> rfl)|(simp [*,errW_none,errW_some] <;> rfl),by repeat (first|exact gB HB|refine below_set ?_ GE633.out|refine below_set ?_ GE634.out)⟩
      ·replace c44:=Bool.eq_false_iff.mpr c44
       subst c44
       have H1:(some true)=some r:=by rw [if_neg (show ¬ (false=true) by decide)] at H;exact H
       clear H
       have H:=H1
       clear H1
       obtain rfl:=Option.some.inj H
       try go_wp2
       have n0_:=Aside0.mk (Kd.N_drew HO_634003.out)
       have n1_:=Aside0.mk (Kd.N_drew HO_635003.out)
       have n2_:=Aside0.mk (blk_drew BK633.out)
       have n3_:=Aside0.mk (blk_drew BK634.out)
       have n4_:=Aside0.mk (below_drew1 HB.out)
       clear HO_634003
       clear HO_635003
       clear BK633
       clear BK634
       clear HB
       have HO_634003:=n0_
       have HO_635003:=n1_
       have BK633:=n2_
       have BK634:=n3_
       have HB:=n4_
       clear n0_ n1_ n2_ n3_ n4_
       refine start_ (n:=18) (S:=fun w'=>w'.cell? ⟨gb633,0,none⟩=some (.int .i64 t621)∧w'.cell? ⟨gb633,1,none⟩=some (.int .i64 t622)∧w'.cell? ⟨gb633,2,none⟩=some (.string t623)∧w'.cell? ⟨gb633,3,none⟩=some (.slice Ao11 t624.length co11)∧w'.cell? ⟨gb634,0,none⟩=some (.int .i64 t627)∧w'.cell? ⟨gb634,1,none⟩=some (.int .i64 t628)∧w'.cell? ⟨gb634,2,none⟩=some (.string t629)∧w'.cell? ⟨gb634,3,none⟩=some (.slice Ao13 t630.length co13)) (ds:=[]) #[false,false,false,false,false,false,false,false,false,false,false,false,false,false,false,false,false,false] (by kernel_rfl) rfl rfl ⟨(blk_cell BK633.out 0).trans rfl,(blk_cell BK633.out 1).trans rfl,(blk_cell BK633.out 2).trans rfl,(blk_cell BK633.out 3).trans rfl,(blk_cell BK634.out 0).trans rfl,(blk_cell BK634.out 1).trans rfl,(blk_cell BK634.out 2).trans rfl,(blk_cell BK634.out 3).trans rfl⟩ (fun hHeld=>?_);refine with_tabW laws_FnDocSame.tab7 laws_FnDocSame.bits7 (fun HT_ HW_=>?_)
       generalize wc.drew=w52 at HO_634003 HO_635003 BK633 BK634 HB hHeld ⊢
       refine take_ (i:=0) (N:=some 35) (v:=?_) (a':=?_) #[true,false,false,false,false,false,false,false,false,false,false,false,false,false,false,false,false,false] rfl rfl (take_ofW HT_.out HW_.out (by kernel_rfl)) (fun _ _ _ h=>h) (Or.inl ⟨by rfl,?_⟩) hHeld ?_ ?_
       rotate_left
       ·rintro w' ⟨s0,s1,s2,s3,s4,s5,s6,s7⟩
        go_simp
        with_reducible rfl
       rotate_left
       ·simp only [Act.put,List.setIfInBounds_toArray,List.set_cons_zero,List.set_cons_succ,i64_w,i32_w]
        rfl
       refine one_ (i:=1) (N:=some 36) #[true,true,false,false,false,false,false,false,false,false,false,false,false,false,false,false,false,false] rfl rfl (one_of HT_.out (by kernel_rfl)) (by decide) (fun K hK=>?_)
       refine goes_ Try.func24 (by kernel_rfl) rfl #[.agg #[.int .i64 t621,.int .i64 t622,.string t623,.slice Ao11 t624.length co11]] (by rfl) rfl rfl (by (try simp only [List.map_toArray,List.map_cons,List.map_nil]);first|done|rfl|(simp only [List.length_drop,List.length_take];rfl)) ?_
       with_reducible refine (impl_DocValid.calls kj4 t621 t622 t623 _ _ t624 true _ ?side1 ?side2 A41.out).mono ?_
       (case side1=>exact gC ((Kd.N_reads' HO_634003.out).2.2))
       (case side2=>exact (Kd.N_reads' HO_634003.out).2.1)
       rintro e w53 ⟨rfl,hb⟩
       refine ⟨_,rfl,?_⟩
       have n0_:=Aside0.mk (Kd.N_below (gN HO_634003) hb)
       have n1_:=Aside0.mk (Kd.N_below (gN HO_635003) hb)
       have n2_:=Aside0.mk (blk_below (g:=gb633) (o:=.cells #[.int .i64 t621,.int .i64 t622,.string t623,.slice Ao11 t624.length co11] 27 (0,0)) (gK BK633) hb)
       have n3_:=Aside0.mk (blk_below (g:=gb634) (o:=.cells #[.int .i64 t627,.int .i64 t628,.string t629,.slice Ao13 t630.length co13] 27 (0,0)) (gK BK634) hb)
       have n4_:=Aside0.mk (below_step (by repeat (first|exact gB HB|refine below_set ?_ GE633.out|refine below_set ?_ GE634.out)) hb)
       clear HO_634003
       clear HO_635003
       clear BK633
       clear BK634
       clear HB
       have HO_634003:=n0_
       have HO_635003:=n1_
       have BK633:=n2_
       have BK634:=n3_
       have HB:=n4_
       clear n0_ n1_ n2_ n3_ n4_
       (try clear hb)
       (try clear hb2)
       (try clear hk)
       (try clear hi)
       refine hK.out _ _ ⟨(blk_cell BK633.out 0).trans rfl,(blk_cell BK633.out 1).trans rfl,(blk_cell BK633.out 2).trans rfl,(blk_cell BK633.out 3).trans rfl,(blk_cell BK634.out 0).trans rfl,(blk_cell BK634.out 1).trans rfl,(blk_cell BK634.out 2).trans rfl,(blk_cell BK634.out 3).trans rfl⟩ (fun hHeld=>?_)
       clear hK K
       refine norm_ (a':=?_) ?_ ?_
       rotate_left
       ·show Act.put _ (some 36) _=_
        simp only [Act.put,List.setIfInBounds_toArray,List.set_cons_zero,List.set_cons_succ,i64_w,i32_w]
        rfl
       refine pure_ (i:=2) (N:=some 37) (v:=?_) (a':=?_) #[true,true,true,false,false,false,false,false,false,false,false,false,false,false,false,false,false,false] rfl rfl (any_of HT_.out (by kernel_rfl)) (fun _ _ _ h=>h) (Or.inl ⟨by rfl,?_⟩) ?_ ?_
       rotate_left
       ·intro w'
        go_simp
        with_reducible rfl
       rotate_left
       ·simp only [Act.put,List.setIfInBounds_toArray,List.set_cons_zero,List.set_cons_succ,i64_w,i32_w]
        rfl
       refine pure_ (i:=3) (N:=some 38) (v:=?_) (a':=?_) #[true,true,true,true,false,false,false,false,false,false,false,false,false,false,false,false,false,false] rfl rfl (any_of HT_.out (by kernel_rfl)) (fun _ _ _ h=>h) (Or.inl ⟨by rfl,?_⟩) ?_ ?_
       rotate_left
       ·intro w'
        go_simp
        with_reducible rfl
       rotate_left
       ·simp only [Act.put,List.setIfInBounds_toArray,List.set_cons_zero,List.set_cons_succ,i64_w,i32_w]
        rfl
       refine take_ (i:=4) (N:=some 39) (v:=?_) (a':=?_) #[true,true,true,true,true,false,false,false,false,false,false,false,false,false,false,false,false,false] rfl rfl (take_ofW HT_.out HW_.out (by kernel_rfl)) (fun _ _ _ h=>h) (Or.inl ⟨by rfl,?_⟩) hHeld ?_ ?_
       rotate_left
       ·rintro w' ⟨s0,s1,s2,s3,s4,s5,s6,s7⟩
        go_simp
        with_reducible rfl
       rotate_left
       ·simp only [Act.put,List.setIfInBounds_toArray,List.set_cons_zero,List.set_cons_succ,i64_w,i32_w]
        rfl
       refine one_ (i:=5) (N:=some 40) #[true,true,true,true,true,true,false,false,false,false,false,false,false,false,false,false,false,false] rfl rfl (one_of HT_.out (by kernel_rfl)) (by decide) (fun K hK=>?_)
       refine goes_ Try.func24 (by kernel_rfl) rfl #[.agg #[.int .i64 t627,.int .i64 t628,.string t629,.slice Ao13 t630.length co13]] (by rfl) rfl rfl (by (try simp only [List.map_toArray,List.map_cons,List.map_nil]);first|done|rfl|(simp only [List.length_drop,List.length_take];rfl)) ?_
       with_reducible refine (impl_DocValid.calls kj4 t627 t628 t629 _ _ t630 false _ ?side1 ?side2 A43.out).mono ?_
       (case side1=>exact gC ((Kd.N_reads' HO_635003.out).2.2))
       (case side2=>exact (Kd.N_reads' HO_635003.out).2.1)
       rintro e w54 ⟨rfl,hb⟩
       refine ⟨_,rfl,?_⟩
       have n0_:=Aside0.mk (Kd.N_below (gN HO_634003) hb)
       have n1_:=Aside0.mk (Kd.N_below (gN HO_635003) hb)
       have n2_:=Aside0.mk (blk_below (g:=gb633) (o:=.cells #[.int .i64 t621,.int .i64 t622,.string t623,.slice Ao11 t624.length co11] 27 (0,0)) (gK BK633) hb)
       have n3_:=Aside0.mk (blk_below (g:=gb634) (o:=.cells #[.int .i64 t627,.int .i64 t628,.string t629,.slice Ao13 t630.length co13] 27 (0,0)) (gK BK634) hb)
       have n4_:=Aside0.mk (below_step (by repeat (first|exact gB HB|refine below_set ?_ GE633.out|refine below_set ?_ GE634.out)) hb)
       clear HO_634003
       clear HO_635003
       clear BK633
       clear BK634
       clear HB
       have HO_634003:=n0_
       have HO_635003:=n1_
       have BK633:=n2_
       have BK634:=n3_
       have HB:=n4_
       clear n0_ n1_ n2_ n3_ n4_
       (try clear hb)
       (try clear hb2)
       (try clear hk)
       (try clear hi)
       refine hK.out _ _ ⟨(blk_cell BK633.out 0).trans rfl,(blk_cell BK633.out 1).trans rfl,(blk_cell BK633.out 2).trans rfl,(blk_cell BK633.out 3).trans rfl,(blk_cell BK634.out 0).trans rfl,(blk_cell BK634.out 1).trans rfl,(blk_cell BK634.out 2).trans rfl,(blk_cell BK634.out 3).trans rfl⟩ (fun hHeld=>?_)
       clear hK K
       refine norm_ (a':=?_) ?_ ?_
       rotate_left
       ·show Act.put _ (some 40) _=_
        simp only [Act.put,List.setIfInBounds_toArray,List.set_cons_zero,List.set_cons_succ,i64_w,i32_w]
        rfl
       refine pure_ (i:=6) (N:=some 41) (v:=?_) (a':=?_) #[true,true,true,true,true,true,true,false,false,false,false,false,false,false,false,false,false,false] rfl rfl (any_of HT_.out (by kernel_rfl)) (fun _ _ _ h=>h) (Or.inl ⟨by rfl,?_⟩) ?_ ?_
       rotate_left
       ·intro w'
        go_simp
        with_reducible rfl
       rotate_left
       ·simp only [Act.put,List.setIfInBounds_toArray,List.set_cons_zero,List.set_cons_succ,i64_w,i32_w]
        rfl
       refine pure_ (i:=7) (N:=some 42) (v:=?_) (a':=?_) #[true,true,true,true,true,true,true,true,false,false,false,false,false,false,false,false,false,false] rfl rfl (any_of HT_.out (by kernel_rfl)) (fun _ _ _ h=>h) (Or.inl ⟨by rfl,?_⟩) ?_ ?_
       rotate_left
       ·intro w'
        go_simp
        with_reducible rfl
       rotate_left
       ·simp only [Act.put,List.setIfInBounds_toArray,List.set_cons_zero,List.set_cons_succ,i64_w,i32_w]
        rfl
       refine pure_ (i:=8) (N:=some 43) (v:=?_) (a':=?_) #[true,true,true,true,true,true,true,true,true,false,false,false,false,false,false,false,false,false] rfl rfl (any_of HT_.out (by kernel_rfl)) (fun _ _ _ h=>h) (Or.inl ⟨by rfl,?_⟩) ?_ ?_
       rotate_left
       ·intro w'
        go_simp
        with_reducible rfl
       rotate_left
       ·simp only [Act.put,List.setIfInBounds_toArray,List.set_cons_zero,List.set_cons_succ,i64_w,i32_w]
        rfl
       refine pure_ (i:=9) (N:=some 44) (v:=undef) (a':=?_) #[true,true,true,true,true,true,true,true,true,true,false,false,false,false,false,false,false,false] rfl rfl (any_of HT_.out (by kernel_rfl)) (fun _ _ _ h=>h) (Or.inr ⟨by rfl,rfl⟩) ?_ ?_
       rotate_left
       ·simp only [Act.put,List.setIfInBounds_toArray,List.set_cons_zero,List.set_cons_succ,i64_w,i32_w]
        rfl
       refine pure_ (i:=10) (N:=some 45) (v:=undef) (a':=?_) #[true,true,true,true,true,true,true,true,true,true,true,false,false,false,false,false,false,false] rfl rfl (any_of HT_.out (by kernel_rfl)) (fun _ _ _ h=>h) (Or.inr ⟨by rfl,rfl⟩) ?_ ?_
       rotate_left
       ·simp only [Act.put,List.setIfInBounds_toArray,List.set_cons_zero,List.set_cons_succ,i64_w,i32_w]
        rfl
       refine pure_ (i:=11) (N:=some 46) (v:=undef) (a':=?_) #[true,true,true,true,true,true,true,true,true,true,true,true,false,false,false,false,false,false] rfl rfl (any_of HT_.out (by kernel_rfl)) (fun _ _ _ h=>h) (Or.inr ⟨by rfl,rfl⟩) ?_ ?_
       rotate_left
       ·simp only [Act.put,List.setIfInBounds_toArray,List.set_cons_zero,List.set_cons_succ,i64_w,i32_w]
        rfl
       refine pure_ (i:=12) (N:=some 47) (v:=undef) (a':=?_) #[true,true,true,true,true,true,true,true,true,true,true,true,true,false,false,false,false,false] rfl rfl (any_of HT_.out (by kernel_rfl)) (fun _ _ _ h=>h) (Or.inr ⟨by rfl,rfl⟩) ?_ ?_
       rotate_left
       ·simp only [Act.put,List.setIfInBounds_toArray,List.set_cons_zero,List.set_cons_succ,i64_w,i32_w]
        rfl
       refine pure_ (i:=13) (N:=some 48) (v:=undef) (a':=?_) #[true,true,true,true,true,true,true,true,true,true,true,true,true,true,false,false,false,false] rfl rfl (any_of HT_.out (by kernel_rfl)) (fun _ _ _ h=>h) (Or.inr ⟨by rfl,rfl⟩) ?_ ?_
       rotate_left
       ·simp only [Act.put,List.setIfInBounds_toArray,List.set_cons_zero,List.set_cons_succ,i64_w,i32_w]
        rfl
       refine pure_ (i:=14) (N:=some 49) (v:=undef) (a':=?_) #[true,true,true,true,true,true,true,true,true,true,true,true,true,true,true,false,false,false] rfl rfl (any_of HT_.out (by kernel_rfl)) (fun _ _ _ h=>h) (Or.inr ⟨by rfl,rfl⟩) ?_ ?_
       rotate_left
       ·simp only [Act.put,List.setIfInBounds_toArray,List.set_cons_zero,List.set_cons_succ,i64_w,i32_w]
        rfl
       refine pure_ (i:=15) (N:=some 50) (v:=undef) (a':=?_) #[true,true,true,true,true,true,true,true,true,true,true,true,true,true,true,true,false,false] rfl rfl (any_of HT_.out (by kernel_rfl)) (fun _ _ _ h=>h) (Or.inr ⟨by rfl,rfl⟩) ?_ ?_
       rotate_left
       ·simp only [Act.put,List.setIfInBounds_toArray,List.set_cons_zero,List.set_cons_succ,i64_w,i32_w]
        rfl
       refine pure_ (i:=16) (N:=some 51) (v:=?_) (a':=?_) #[true,true,true,true,true,true,true,true,true,true,true,true,true,true,true,true,true,false] rfl rfl (any_of HT_.out (by kernel_rfl)) (fun _ _ _ h=>h) (Or.inl ⟨by rfl,?_⟩) ?_ ?_
       rotate_left
       ·intro w'
        go_simp
        with_reducible rfl
       rotate_left
       ·simp only [Act.put,List.setIfInBounds_toArray,List.set_cons_zero,List.set_cons_succ,i64_w,i32_w]
        rfl
       refine pure_ (i:=17) (N:=some 2) (v:=?_) (a':=?_) #[true,true,true,true,true,true,true,true,true,true,true,true,true,true,true,true,true,true] rfl rfl (any_of HT_.out (by kernel_rfl)) (fun _ _ _ h=>h) (Or.inl ⟨by rfl,?_⟩) ?_ ?_
       rotate_left
       ·intro w'
        go_simp
        with_reducible rfl
       rotate_left
       ·simp only [Act.put,List.setIfInBounds_toArray,List.set_cons_zero,List.set_cons_succ,i64_w,i32_w]
        rfl
       refine done_ (done_of HT_.out (by kernel_rfl)) ?_
       try go_wp2
       go_ret
       exact ⟨by first|rfl|(simp [errW_none,errW_some] <;> rfl)|(simp [*,errW_none,errW_some] <;> rfl),by repeat (first|exact gB HB|refine below_set ?_ GE633.out|refine below_set ?_ GE634.out)⟩
     ·replace c42:=Bool.eq_false_iff.mpr c42
      subst c42
      have H1:(some true)=some r:=by rw [if_neg (show ¬ (false=true) by decide)] at H;exact H
      clear H
      have H:=H1
      clear H1
      obtain rfl:=Option.some.inj H
      try go_wp2
      have n0_:=Aside0.mk (Kd.N_drew HO_634003.out)
      have n1_:=Aside0.mk (Kd.N_drew HO_635003.out)
      have n2_:=Aside0.mk (blk_drew BK633.out)
      have n3_:=Aside0.mk (blk_drew BK634.out)
      have n4_:=Aside0.mk (below_drew1 HB.out)
      clear HO_634003
      clear HO_635003
      clear BK633
      clear BK634
      clear HB
      have HO_634003:=n0_
      have HO_635003:=n1_
      have BK633:=n2_
      have BK634:=n3_
      have HB:=n4_
      clear n0_ n1_ n2_ n3_ n4_
      refine start_ (n:=18) (S:=fun w'=>w'.cell? ⟨gb633,0,none⟩=some (.int .i64 t621)∧w'.cell? ⟨gb633,1,none⟩=some (.int .i64 t622)∧w'.cell? ⟨gb633,2,none⟩=some (.string t623)∧w'.cell? ⟨gb633,3,none⟩=some (.slice Ao11 t624.length co11)) (ds:=[]) #[false,false,false,false,false,false,false,false,false,false,false,false,false,false,false,false,false,false] (by kernel_rfl) rfl rfl ⟨(blk_cell BK633.out 0).trans rfl,(blk_cell BK633.out 1).trans rfl,(blk_cell BK633.out 2).trans rfl,(blk_cell BK633.out 3).trans rfl⟩ (fun hHeld=>?_);refine with_tabW laws_FnDocSame.tab7 laws_FnDocSame.bits7 (fun HT_ HW_=>?_)
      generalize wc.drew=w55 at HO_634003 HO_635003 BK633 BK634 HB hHeld ⊢
      refine take_ (i:=0) (N:=some 35) (v:=?_) (a':=?_) #[true,false,false,false,false,false,false,false,false,false,false,false,false,false,false,false,false,false] rfl rfl (take_ofW HT_.out HW_.out (by kernel_rfl)) (fun _ _ _ h=>h) (Or.inl ⟨by rfl,?_⟩) hHeld ?_ ?_
      rotate_left
      ·rintro w' ⟨s0,s1,s2,s3⟩
       go_simp
       with_reducible rfl
      rotate_left
      ·simp only [Act.put,List.setIfInBounds_toArray,List.set_cons_zero,List.set_cons_succ,i64_w,i32_w]
       rfl
      refine one_ (i:=1) (N:=some 36) #[true,true,false,false,false,false,false,false,false,false,false,false,false,false,false,false,false,false] rfl rfl (one_of HT_.out (by kernel_rfl)) (by decide) (fun K hK=>?_)
      refine goes_ Try.func24 (by kernel_rfl) rfl #[.agg #[.int .i64 t621,.int .i64 t622,.string t623,.slice Ao11 t624.length co11]] (by rfl) rfl rfl (by (try simp only [List.map_toArray,List.map_cons,List.map_nil]);first|done|rfl|(simp only [List.length_drop,List.length_take];rfl)) ?_
      with_reducible refine (impl_DocValid.calls kj4 t621 t622 t623 _ _ t624 false _ ?side1 ?side2 A41.out).mono ?_
      (case side1=>exact gC ((Kd.N_reads' HO_634003.out).2.2))
      (case side2=>exact (Kd.N_reads' HO_634003.out).2.1)
      rintro e w56 ⟨rfl,hb⟩
      refine ⟨_,rfl,?_⟩
      have n0_:=Aside0.mk (Kd.N_below (gN HO_634003) hb)
      have n1_:=Aside0.mk (Kd.N_below (gN HO_635003) hb)
      have n2_:=Aside0.mk (blk_below (g:=gb633) (o:=.cells #[.int .i64 t621,.int .i64 t622,.string t623,.slice Ao11 t624.length co11] 27 (0,0)) (gK BK633) hb)
      have n3_:=Aside0.mk (blk_below (g:=gb634) (o:=.cells #[.int .i64 t627,.int .i64 t628,.string t629,.slice Ao13 t630.length co13] 27 (0,0)) (gK BK634) hb)
      have n4_:=Aside0.mk (below_step (by repeat (first|exact gB HB|refine below_set ?_ GE633.out|refine below_set ?_ GE634.out)) hb)
      clear HO_634003
      clear HO_635003
      clear BK633
      clear BK634
      clear HB
      have HO_634003:=n0_
      have HO_635003:=n1_
      have BK633:=n2_
      have BK634:=n3_
      have HB:=n4_
      clear n0_ n1_ n2_ n3_ n4_
      (try clear hb)
      (try clear hb2)
      (try clear hk)
      (try clear hi)
      refine hK.out _ _ ⟨(blk_cell BK633.out 0).trans rfl,(blk_cell BK633.out 1).trans rfl,(blk_cell BK633.out 2).trans rfl,(blk_cell BK633.out 3).trans rfl⟩ (fun hHeld=>?_)
      clear hK K
      refine norm_ (a':=?_) ?_ ?_
      rotate_left
      ·show Act.put _ (some 36) _=_
       simp only [Act.put,List.setIfInBounds_toArray,List.set_cons_zero,List.set_cons_succ,i64_w,i32_w]
       rfl
      refine pure_ (i:=2) (N:=some 37) (v:=?_) (a':=?_) #[true,true,true,false,false,false,false,false,false,false,false,false,false,false,false,false,false,false] rfl rfl (any_of HT_.out (by kernel_rfl)) (fun _ _ _ h=>h) (Or.inl ⟨by rfl,?_⟩) ?_ ?_
      rotate_left
      ·intro w'
       go_simp
       with_reducible rfl
      rotate_left
      ·simp only [Act.put,List.setIfInBounds_toArray,List.set_cons_zero,List.set_cons_succ,i64_w,i32_w]
       rfl
      refine pure_ (i:=3) (N:=some 38) (v:=?_) (a':=?_) #[true,true,true,true,false,false,false,false,false,false,false,false,false,false,false,false,false,false] rfl rfl (any_of HT_.out (by kernel_rfl)) (fun _ _ _ h=>h) (Or.inl ⟨by rfl,?_⟩) ?_ ?_
      rotate_left
      ·intro w'
       go_simp
       with_reducible rfl
      rotate_left
      ·simp only [Act.put,List.setIfInBounds_toArray,List.set_cons_zero,List.set_cons_succ,i64_w,i32_w]
       rfl
      refine pure_ (i:=4) (N:=some 39) (v:=undef) (a':=?_) #[true,true,true,true,true,false,false,false,false,false,false,false,false,false,false,false,false,false] rfl rfl (any_of HT_.out (by kernel_rfl)) (fun _ _ _ h=>h) (Or.inr ⟨by rfl,rfl⟩) ?_ ?_
      rotate_left
      ·simp only [Act.put,List.setIfInBounds_toArray,List.set_cons_zero,List.set_cons_succ,i64_w,i32_w]
       rfl
      refine pure_ (i:=5) (N:=some 40) (v:=undef) (a':=?_) #[true,true,true,true,true,true,false,false,false,false,false,false,false,false,false,false,false,false] rfl rfl (any_of HT_.out (by kernel_rfl)) (fun _ _ _ h=>h) (Or.inr ⟨by rfl,rfl⟩) ?_ ?_
      rotate_left
      ·simp only [Act.put,List.setIfInBounds_toArray,List.set_cons_zero,List.set_cons_succ,i64_w,i32_w]
       rfl
      refine pure_ (i:=6) (N:=some 41) (v:=undef) (a':=?_) #[true,true,true,true,true,true,true,false,false,false,false,false,false,false,false,false,false,false] rfl rfl (any_of HT_.out (by kernel_rfl)) (fun _ _ _ h=>h) (Or.inr ⟨by rfl,rfl⟩) ?_ ?_
      rotate_left
      ·simp only [Act.put,List.setIfInBounds_toArray,List.set_cons_zero,List.set_cons_succ,i64_w,i32_w]
       rfl
      refine pure_ (i:=7) (N:=some 42) (v:=?_) (a':=?_) #[true,true,true,true,true,true,true,true,false,false,false,false,false,false,false,false,false,false] rfl rfl (any_of HT_.out (by kernel_rfl)) (fun _ _ _ h=>h) (Or.inl ⟨by rfl,?_⟩) ?_ ?_
      rotate_left
      ·intro w'
       go_simp
       with_reducible rfl
      rotate_left
      ·simp only [Act.put,List.setIfInBounds_toArray,List.set_cons_zero,List.set_cons_succ,i64_w,i32_w]
       rfl
      refine pure_ (i:=8) (N:=some 43) (v:=?_) (a':=?_) #[true,true,true,true,true,true,true,true,true,false,false,false,false,false,false,false,false,false] rfl rfl (any_of HT_.out (by kernel_rfl)) (fun _ _ _ h=>h) (Or.inl ⟨by rfl,?_⟩) ?_ ?_
      rotate_left
      ·intro w'
       go_simp
       with_reducible rfl
      rotate_left
      ·simp only [Act.put,List.setIfInBounds_toArray,List.set_cons_zero,List.set_cons_succ,i64_w,i32_w]
       rfl
      refine pure_ (i:=9) (N:=some 44) (v:=undef) (a':=?_) #[true,true,true,true,true,true,true,true,true,true,false,false,false,false,false,false,false,false] rfl rfl (any_of HT_.out (by kernel_rfl)) (fun _ _ _ h=>h) (Or.inr ⟨by rfl,rfl⟩) ?_ ?_
      rotate_left
      ·simp only [Act.put,List.setIfInBounds_toArray,List.set_cons_zero,List.set_cons_succ,i64_w,i32_w]
       rfl
      refine pure_ (i:=10) (N:=some 45) (v:=undef) (a':=?_) #[true,true,true,true,true,true,true,true,true,true,true,false,false,false,false,false,false,false] rfl rfl (any_of HT_.out (by kernel_rfl)) (fun _ _ _ h=>h) (Or.inr ⟨by rfl,rfl⟩) ?_ ?_
      rotate_left
      ·simp only [Act.put,List.setIfInBounds_toArray,List.set_cons_zero,List.set_cons_succ,i64_w,i32_w]
       rfl
      refine pure_ (i:=11) (N:=some 46) (v:=undef) (a':=?_) #[true,true,true,true,true,true,true,true,true,true,true,true,false,false,false,false,false,false] rfl rfl (any_of HT_.out (by kernel_rfl)) (fun _ _ _ h=>h) (Or.inr ⟨by rfl,rfl⟩) ?_ ?_
      rotate_left
      ·simp only [Act.put,List.setIfInBounds_toArray,List.set_cons_zero,List.set_cons_succ,i64_w,i32_w]
       rfl
      refine pure_ (i:=12) (N:=some 47) (v:=undef) (a':=?_) #[true,true,true,true,true,true,true,true,true,true,true,true,true,false,false,false,false,false] rfl rfl (any_of HT_.out (by kernel_rfl)) (fun _ _ _ h=>h) (Or.inr ⟨by rfl,rfl⟩) ?_ ?_
      rotate_left
      ·simp only [Act.put,List.setIfInBounds_toArray,List.set_cons_zero,List.set_cons_succ,i64_w,i32_w]
       rfl
      refine pure_ (i:=13) (N:=some 48) (v:=undef) (a':=?_) #[true,true,true,true,true,true,true,true,true,true,true,true,true,true,false,false,false,false] rfl rfl (any_of HT_.out (by kernel_rfl)) (fun _ _ _ h=>h) (Or.inr ⟨by rfl,rfl⟩) ?_ ?_
      rotate_left
      ·simp only [Act.put,List.setIfInBounds_toArray,List.set_cons_zero,List.set_cons_succ,i64_w,i32_w]
       rfl
      refine pure_ (i:=14) (N:=some 49) (v:=undef) (a':=?_) #[true,true,true,true,true,true,true,true,true,true,true,true,true,true,true,false,false,false] rfl rfl (any_of HT_.out (by kernel_rfl)) (fun _ _ _ h=>h) (Or.inr ⟨by rfl,rfl⟩) ?_ ?_
      rotate_left
      ·simp only [Act.put,List.setIfInBounds_toArray,List.set_cons_zero,List.set_cons_succ,i64_w,i32_w]
       rfl
      refine pure_ (i:=15) (N:=some 50) (v:=undef) (a':=?_) #[true,true,true,true,true,true,true,true,true,true,true,true,true,true,true,true,false,false] rfl rfl (any_of HT_.out (by kernel_rfl)) (fun _ _ _ h=>h) (Or.inr ⟨by rfl,rfl⟩) ?_ ?_
      rotate_left
      ·simp only [Act.put,List.setIfInBounds_toArray,List.set_cons_zero,List.set_cons_succ,i64_w,i32_w]
       rfl
      refine pure_ (i:=16) (N:=some 51) (v:=?_) (a':=?_) #[true,true,true,true,true,true,true,true,true,true,true,true,true,true,true,true,true,false] rfl rfl (any_of HT_.out (by kernel_rfl)) (fun _ _ _ h=>h) (Or.inl ⟨by rfl,?_⟩) ?_ ?_
      rotate_left
      ·intro w'
       go_simp
       with_reducible rfl
      rotate_left
      ·simp only [Act.put,List.setIfInBounds_toArray,List.set_cons_zero,List.set_cons_succ,i64_w,i32_w]
       rfl
      refine pure_ (i:=17) (N:=some 2) (v:=?_) (a':=?_) #[true,true,true,true,true,true,true,true,true,true,true,true,true,true,true,true,true,true] rfl rfl (any_of HT_.out (by kernel_rfl)) (fun _ _ _ h=>h) (Or.inl ⟨by rfl,?_⟩) ?_ ?_
      rotate_left
      ·intro w'
       go_simp
       with_reducible rfl
      rotate_left
      ·simp only [Act.put,List.setIfInBounds_toArray,List.set_cons_zero,List.set_cons_succ,i64_w,i32_w]
       rfl
      refine done_ (done_of HT_.out (by kernel_rfl)) ?_
      try go_wp2
      go_ret
      exact ⟨by first|rfl|(simp [errW_none,errW_some] <;> rfl)|(simp [*,errW_none,errW_some] <;> rfl),by repeat (first|exact gB HB|refine below_set ?_ GE633.out|refine below_set ?_ GE634.out)⟩
def laws_FnDocSame.Pure:Prop:=∀ (l0:List Int),l0.length≤maxLen→l0.length * 1≤140737488351232→(∀ x ∈ l0,(Lit.int .u8 x).wf=true)→∃ k,laws_FnDocSame.f k l0=some true
theorem laws_FnDocSame.walk (P:laws_FnDocSame.Pure) (a0:Option Addr) (len0 cap0:Nat) (z0:List Int) (w:World) (w0:(a0=none∧len0=0∧cap0=0∧z0=[]) ∨ ∃ x,a0=some x∧len0≤cap0∧cap0≤maxLen∧z0.length=cap0∧(∀ i,i < z0.length→w.cell? (x.add i)=some (.int .u8 (z0.getD i 0)))∧∀ n ∈ z0,(Lit.int .u8 n).wf=true) (y0:len0 * 1≤140737488351232) :
  Calls Try.prog 9 #[.slice a0 len0 cap0] w fun e w'=>e=.returned (.bool true)∧Below w.heap.size w w':=by
 obtain ⟨l0,rfl,hr0,hm0,hw0,hc0⟩:=ReadsInt.ofRowC w0
 obtain ⟨k,h⟩:=P l0 hm0 y0 hw0
 refine (laws_FnDocSame.calls k _ _ l0 true w (Kd.C_of_reads (d:=(0:Int)) (h1:=fun _=>rfl) hr0) hc0 h).mono ?_
 rintro e w' ⟨rfl,hd⟩
 exact ⟨rfl,hd⟩
end Go.Proofs.Ytdhdfmmefghijaa.P
namespace Go.Proofs.Ytdhdfmmefghijaa.Pure
open Go.RowKit Go.Proofs.Ytdhdfmmefghijaa.P Go.Proofs.YtdhdfmmefghijaaW.PrintWords Go.Proofs.YtdhdfmmefghijaaW.PrintLast Go.Proofs.YtdhdfmmefghijaaW.PrintMore
set_option linter.unusedVariables false
set_option linter.unusedSimpArgs false
theorem w64 {i : Int} (h0 : -9223372036854775808 ≤ i) (h : i ≤ 9223372036854775807) : wrap64 i = i := by unfold wrap64; omega
theorem Ev.iff {α : Type} {c : Prop} [Decidable c] {f g : Nat → Option α} {r : α} (h1 : c → Ev f r) (h2 : ¬ c → Ev g r) : Ev (fun k => if c then f k else g k) r := by
  by_cases h : c
  · simp only [if_pos h]; exact h1 h
  · simp only [if_neg h]; exact h2 h
theorem SDoc.ind {P : SDoc → Prop} (h : ∀ o n t ks, (∀ k, k ∈ ks → P k) → P ⟨o, n, t, ks⟩) : ∀ d, P d
  | ⟨o, n, t, ks⟩ => h o n t ks (fun k hk => SDoc.ind h k)
termination_by d => SizeOf.sizeOf d
decreasing_by
  have := List.sizeOf_lt_of_mem hk
  simp
  omega
mutual
def dsz : SDoc → Nat
  | ⟨_, _, _, ks⟩ => 1 + dszL ks
def dszL : List SDoc → Nat
  | [] => 0
  | k :: ks => dsz k + dszL ks
end
theorem dszL_len : ∀ (a : List SDoc), a.length ≤ dszL a
  | [] => by simp [dszL]
  | ⟨_, _, _, ks⟩ :: a => by have := dszL_len a; simp [dszL, dsz]; omega
theorem dszL_mem : ∀ {a : List SDoc} {d : SDoc}, d ∈ a → dsz d ≤ dszL a
  | k :: a, d, h => by
    rcases List.mem_cons.1 h with rfl | h
    · simp [dszL]
    · have := dszL_mem h; simp [dszL]; omega
theorem dsz_pos (d : SDoc) : 1 ≤ dsz d := by obtain ⟨_, _, _, ks⟩ := d; simp [dsz]
theorem rdD (a b : List SDoc) (d : SDoc) : rd_TDoc (a ++ d :: b) (a.length : Int) = d := by simp [rd_TDoc]
theorem SDoc_eta (d : SDoc) : (⟨d.f0, d.f1, d.f2, d.f3⟩ : SDoc) = d := by cases d; rfl
theorem dec_eq {p q : Prop} [Decidable p] [Decidable q] (h : p ↔ q) : decide p = decide q := by
  by_cases hq : q
  · rw [decide_eq_true hq, decide_eq_true (h.2 hq)]
  · rw [decide_eq_false hq, decide_eq_false (fun hp => hq (h.1 hp))]
end Go.Proofs.Ytdhdfmmefghijaa.Pure
namespace Go.Proofs.Ytdhdfmmefghijaa.Pure
open Go.RowKit Go.Proofs.Ytdhdfmmefghijaa.P Go.Proofs.YtdhdfmmefghijaaW.PrintWords Go.Proofs.YtdhdfmmefghijaaW.PrintLast Go.Proofs.YtdhdfmmefghijaaW.PrintMore
set_option linter.unusedVariables false
set_option linter.unusedSimpArgs false
def Code (b : List Int) : Prop := b.length ≤ 2000 ∧ ∀ x ∈ b, 0 ≤ x ∧ x < 256
theorem open_ev (l : List Int) (hl : l.length ≤ maxLen) (h : ∀ x ∈ l, (Lit.int .u8 x).wf = true) : ∃ b, Code b ∧ spec_l15Open.f l = some (b, 0) := by
  have hx : ∀ x ∈ l, 0 ≤ x ∧ x < 256 := by
    intro x hx
    have := h x hx
    have e1 : IntKind.u8.min = 0 := rfl
    have e2 : IntKind.u8.max = 255 := rfl
    simp [Lit.wf, e1, e2] at this
    omega
  rw [spec_l15Open.f]
  by_cases c : (l.length : Int) > 2000
  · rw [if_pos c, if_pos (by omega)]
    exact ⟨l.take 2000, ⟨by rw [List.length_take]; omega, fun x hx' => hx x (List.mem_of_mem_take hx')⟩, rfl⟩
  · rw [if_neg c]
    exact ⟨l, ⟨by omega, hx⟩, rfl⟩
theorem rd_in {b : List Int} (hb : Code b) (i : Int) : 0 ≤ rd b i ∧ rd b i < 256 := by
  unfold rd
  rw [List.getD_eq_getElem?_getD]
  cases h : b[i.toNat]? with
  | none => simp
  | some x =>
    have := hb.2 x (List.mem_of_getElem? h)
    simpa using this
theorem xor_nonneg (x y : Int) (hx0 : 0 ≤ x) (hx : x < 4611686018427387904) (hy0 : 0 ≤ y) (hy : y < 4611686018427387904) : 0 ≤ Go.bits .xor .i64 x y := by
  obtain ⟨n, rfl⟩ := Int.eq_ofNat_of_zero_le hx0
  obtain ⟨m, rfl⟩ := Int.eq_ofNat_of_zero_le hy0
  have hn : n < 2 ^ 62 := by omega
  have hm : m < 2 ^ 62 := by omega
  have hxm : n ^^^ m < 2 ^ 62 := Nat.xor_lt_two_pow hn hm
  have e1 : (BitVec.ofInt 64 (n : Int)).toNat = n := by
    rw [BitVec.ofInt_natCast, BitVec.toNat_ofNat]
    exact Nat.mod_eq_of_lt (by omega)
  have e2 : (BitVec.ofInt 64 (m : Int)).toNat = m := by
    rw [BitVec.ofInt_natCast, BitVec.toNat_ofNat]
    exact Nat.mod_eq_of_lt (by omega)
  have e : Go.bits .xor .i64 (n : Int) (m : Int) = IntKind.i64.wrap ((n ^^^ m : Nat) : Int) := by
    show IntKind.i64.wrap ((BitVec.ofInt 64 (n : Int) ^^^ BitVec.ofInt 64 (m : Int)).toNat : Int) = _
    rw [BitVec.toNat_xor, e1, e2]
  rw [e]
  have w : IntKind.i64.wrap ((n ^^^ m : Nat) : Int) = ((n ^^^ m : Nat) : Int) := by
    simp [IntKind.wrap, IntKind.bits, IntKind.signed]
    omega
  rw [w]
  omega
theorem tm_in (x : Int) {n : Int} (h0 : 0 ≤ x) (hn : 0 < n) : 0 ≤ Int.tmod x n ∧ Int.tmod x n < n := ⟨Int.tmod_nonneg n h0, Int.tmod_lt_of_pos x hn⟩
theorem pick_ev {b : List Int} (hb : Code b) (p n : Int) (hp0 : 0 ≤ p) (hp : p ≤ 1000000000) : ∃ r, Ev (fun k => spec_l15Rd_pick.f k b p n) (r, p + 1) ∧ 0 ≤ r ∧ (1 ≤ n → r < n) := by
  have w1 : wrap64 (p + 1) = p + 1 := w64 (by omega) (by omega)
  have w2 : wrap64 (p + 1 - 1) = p := by rw [w64 (by omega) (by omega)]; omega
  have hl := hb.1
  have J0 : Ev (fun k => spec_l15Rd_pick.j0 k n true b (p + 1)) (0, p + 1) := by
    refine Ev.step (fun k => by rw [spec_l15Rd_pick.j0]) ?_
    simp only [if_true]
    exact Ev.now _
  by_cases c1 : n < 1
  · refine ⟨0, Ev.congr (fun k => by rw [spec_l15Rd_pick.f, if_pos c1, w1]) J0, Int.le_refl _, fun h => by omega⟩
  by_cases c2 : (b.length : Int) = 0
  · refine ⟨0, Ev.congr (fun k => by rw [spec_l15Rd_pick.f, if_neg c1, w1, show (((b.length : Int)) == 0) = true by simpa using c2]) J0, Int.le_refl _, fun h => by omega⟩
  have hn0 : n ≠ 0 := by omega
  have start : ∀ R, Ev (fun k => spec_l15Rd_pick.j0 k n false b (p + 1)) R → Ev (fun k => spec_l15Rd_pick.f k b p n) R := by
    intro R h
    exact Ev.congr (fun k => by rw [spec_l15Rd_pick.f, if_neg c1, w1, show (((b.length : Int)) == 0) = false by simpa using c2]) h
  by_cases c3 : p < (b.length : Int)
  · have hr := rd_in hb p
    have w3 : wrap64 (rd b p) = rd b p := w64 (by omega) (by omega)
    have ht := tm_in (rd b p) (n := n) hr.1 (by omega)
    refine ⟨Int.tmod (rd b p) n, start _ (Ev.step (fun k => by rw [spec_l15Rd_pick.j0]) ?_), ht.1, fun _ => ht.2⟩
    simp only [Bool.false_eq_true, if_false, w2, if_pos c3, if_pos hp0, if_neg hn0, w3]
    exact Ev.now _
  · have hlp : 0 < (b.length : Int) := by omega
    have t1 := tm_in p hp0 hlp
    have w3 : wrap64 (p * 7) = p * 7 := w64 (by omega) (by omega)
    have w4 : wrap64 (p * 7 + 3) = p * 7 + 3 := w64 (by omega) (by omega)
    have t2 := tm_in (p * 7 + 3) (by omega) hlp
    have r1 := rd_in hb (Int.tmod p (b.length : Int))
    have r2 := rd_in hb (Int.tmod (p * 7 + 3) (b.length : Int))
    have d0 : 0 ≤ Int.tdiv p (b.length : Int) := Int.tdiv_nonneg hp0 (by omega)
    have d1 : Int.tdiv p (b.length : Int) ≤ p := by
      obtain ⟨m, rfl⟩ := Int.eq_ofNat_of_zero_le hp0
      have : Int.tdiv (m : Int) (b.length : Int) = ((m / b.length : Nat) : Int) := rfl
      rw [this]
      exact Int.ofNat_le.2 (Nat.div_le_self _ _)
    generalize hA : rd b (Int.tmod p (b.length : Int)) = A at r1
    generalize hB : rd b (Int.tmod (p * 7 + 3) (b.length : Int)) = B at r2
    generalize hD : Int.tdiv p (b.length : Int) = D at d0 d1
    have e1 : wrap64 (wrap64 A * 131) = A * 131 := by rw [w64 (i := A) (by omega) (by omega), w64 (by omega) (by omega)]
    have e2 : wrap64 (wrap64 B * 1117) = B * 1117 := by rw [w64 (i := B) (by omega) (by omega), w64 (by omega) (by omega)]
    have e3 : wrap64 (p * 29) = p * 29 := w64 (by omega) (by omega)
    have e4 : wrap64 (wrap64 D * 53) = D * 53 := by rw [w64 (i := D) (by omega) (by omega), w64 (by omega) (by omega)]
    have e5 : wrap64 (A * 131 + B * 1117) = A * 131 + B * 1117 := w64 (by omega) (by omega)
    have e6 : wrap64 (A * 131 + B * 1117 + p * 29) = A * 131 + B * 1117 + p * 29 := w64 (by omega) (by omega)
    have e7 : wrap64 (A * 131 + B * 1117 + p * 29 + D * 53) = A * 131 + B * 1117 + p * 29 + D * 53 := w64 (by omega) (by omega)
    generalize hX : A * 131 + B * 1117 + p * 29 + D * 53 = X at e7
    have hX0 : 0 ≤ X := by omega
    have hX1 : X ≤ 1000000000000 := by omega
    have q0 : 0 ≤ Int.tdiv X 64 := Int.tdiv_nonneg hX0 (by omega)
    have q1 : Int.tdiv X 64 ≤ X := by
      obtain ⟨m, rfl⟩ := Int.eq_ofNat_of_zero_le hX0
      have : Int.tdiv (m : Int) 64 = ((m / 64 : Nat) : Int) := rfl
      rw [this]
      exact Int.ofNat_le.2 (Nat.div_le_self _ _)
    have e8 : wrap64 (Int.tdiv X 64) = Int.tdiv X 64 := w64 (by omega) (by omega)
    have hx := xor_nonneg X (Int.tdiv X 64) hX0 (by omega) q0 (by omega)
    have ht := tm_in (Go.bits .xor .i64 X (Int.tdiv X 64)) (n := n) hx (by omega)
    refine ⟨Int.tmod (Go.bits .xor .i64 X (Int.tdiv X 64)) n, start _ (Ev.step (fun k => by rw [spec_l15Rd_pick.j0]) ?_), ht.1, fun _ => ht.2⟩
    simp only [Bool.false_eq_true, if_false, w2, if_neg c3, if_neg c2, w3, w4, if_pos t1.1, if_pos t1.2, if_pos t2.1, if_pos t2.2, if_neg hn0, hA, hB, hD, e1, e2, e3, e4, e5, e6, e7, hX, e8]
    exact Ev.now _
theorem of_ev {b : List Int} (hb : Code b) (p : Int) (l : List ByteArray) (hl : 0 < l.length) (hp0 : 0 ≤ p) (hp : p ≤ 1000000000) : ∃ s, s ∈ l ∧ Ev (fun k => spec_l15Rd_of.f k b p l) (s, p + 1) := by
  obtain ⟨r, h, h0, h1⟩ := pick_ev hb p (l.length : Int) hp0 hp
  have h1 := h1 (by omega)
  have hr : r.toNat < l.length := by omega
  refine ⟨rdOf ByteArray.empty l r, ?_, Ev.congr (fun k => by rw [spec_l15Rd_of.f]) (Ev.bind h ?_)⟩
  · unfold rdOf
    rw [List.getD_eq_getElem?_getD, List.getElem?_eq_getElem hr]
    exact List.getElem_mem hr
  · simp only [if_pos h0, if_pos h1]
    exact Ev.now _
theorem num_ev {b : List Int} (hb : Code b) (p : Int) (l : List Int) (hl : 0 < l.length) (hp0 : 0 ≤ p) (hp : p ≤ 1000000000) : ∃ s, s ∈ l ∧ Ev (fun k => spec_l15Rd_num.f k b p l) (s, p + 1) := by
  obtain ⟨r, h, h0, h1⟩ := pick_ev hb p (l.length : Int) hp0 hp
  have h1 := h1 (by omega)
  have hr : r.toNat < l.length := by omega
  refine ⟨rd l r, ?_, Ev.congr (fun k => by rw [spec_l15Rd_num.f]) (Ev.bind h ?_)⟩
  · unfold rd
    rw [List.getD_eq_getElem?_getD, List.getElem?_eq_getElem hr]
    exact List.getElem_mem hr
  · simp only [if_pos h0, if_pos h1]
    exact Ev.now _
end Go.Proofs.Ytdhdfmmefghijaa.Pure
namespace Go.Proofs.Ytdhdfmmefghijaa.Pure
open Go.RowKit Go.Proofs.Ytdhdfmmefghijaa.P Go.Proofs.YtdhdfmmefghijaaW.PrintWords Go.Proofs.YtdhdfmmefghijaaW.PrintLast Go.Proofs.YtdhdfmmefghijaaW.PrintMore
set_option linter.unusedVariables false
set_option linter.unusedSimpArgs false
theorem size_data (s : ByteArray) : s.size = s.data.toList.length := by rw [Array.length_toList]; rfl
theorem bt_mid {s : ByteArray} {pre suf : List UInt8} {b : UInt8} (h : s.data.toList = pre ++ b :: suf) : bt s (pre.length : Int) = (b.toNat : Int) := by
  have hl : pre.length < s.size := by
    have := congrArg List.length h
    rw [List.length_append, List.length_cons] at this
    rw [size_data]; omega
  unfold bt
  rw [dif_pos (by simpa using hl)]
  have : s[(pre.length : Int).toNat]'(by simpa using hl) = b := by
    show s.data[(pre.length : Int).toNat]'(by simpa using hl) = b
    rw [← Array.getElem_toList]
    simp [h]
  rw [this]
def signC (c : Int) : Bool := c == 44 || (c == 58 || (c == 61 || (c == 123 || (c == 125 || (c == 40 || (c == 41 || (c == 91 || c == 93)))))))
def letC (c : Int) : Bool := (decide (97 ≤ c) && decide (c ≤ 122)) || (decide (48 ≤ c) && decide (c ≤ 57))
def goodC (c : Int) : Bool := letC c || signC c
def goodB (b : UInt8) : Bool := goodC (b.toNat : Int)
def tv (s : ByteArray) : Bool := decide (1 ≤ s.size) && (decide (s.size ≤ 12) && s.data.toList.all goodB)
theorem specText_j3 {s : ByteArray} {i : Int} {l g R : Bool} (h : Ev (fun k => spec_TextValid.l0 k s (wrap64 (i + 1))) R) : Ev (fun k => spec_TextValid.j3 k s i l g) ((l || g) && R) := by
  refine Ev.step (fun k => by rw [spec_TextValid.j3]) ?_
  cases l <;> cases g <;> simp
  · exact Ev.now _
  · exact h
  · exact h
  · exact h
theorem specText_j2 {s : ByteArray} {i c : Int} {l R : Bool} (h : Ev (fun k => spec_TextValid.l0 k s (wrap64 (i + 1))) R) : Ev (fun k => spec_TextValid.j2 k s i c l) ((l || signC c) && R) := by
  refine Ev.step (fun k => by rw [spec_TextValid.j2]) ?_
  have h3 : ∀ g, Ev (fun k => spec_TextValid.j3 k s i l g) ((l || g) && R) := fun g => specText_j3 h
  repeat' refine Ev.iff (fun hc => ?_) (fun hc => ?_)
  · subst hc; exact h3 true
  · subst hc; exact h3 true
  · subst hc; exact h3 true
  · subst hc; exact h3 true
  · subst hc; exact h3 true
  · subst hc; exact h3 true
  · subst hc; exact h3 true
  · subst hc; exact h3 true
  · have e : signC c = (c == 93) := by rw [Bool.eq_iff_iff]; simp [signC]; omega
    rw [e]; exact h3 _
theorem specText_l0 {s : ByteArray} (hs : s.size ≤ 4611686018427387904) : ∀ (suf pre : List UInt8), s.data.toList = pre ++ suf → Ev (fun k => spec_TextValid.l0 k s (pre.length : Int)) (suf.all goodB) := by
  intro suf
  induction suf with
  | nil =>
    intro pre h
    refine Ev.step (fun k => by rw [spec_TextValid.l0]) ?_
    have c1 : ¬ ((pre.length : Int) < (s.size : Int)) := by rw [size_data, h]; simp
    simp only [if_neg c1]
    exact Ev.now _
  | cons b suf ih =>
    intro pre h
    have hl : pre.length < s.size := by rw [size_data, h]; simp
    refine Ev.step (fun k => by rw [spec_TextValid.l0]) ?_
    have c1 : (pre.length : Int) < (s.size : Int) := by omega
    have c2 : (0 : Int) ≤ (pre.length : Int) := by omega
    simp only [if_pos c1, if_pos c2, bt_mid h]
    have hn : Ev (fun k => spec_TextValid.l0 k s (wrap64 ((pre.length : Int) + 1))) (suf.all goodB) := by
      rw [w64 (by omega) (by omega)]
      have := ih (pre ++ [b]) (by rw [h]; simp)
      rw [show ((pre ++ [b]).length : Int) = (pre.length : Int) + 1 by simp] at this
      exact this
    have h2 : ∀ l, l = letC (b.toNat : Int) → Ev (fun k => spec_TextValid.j2 k s (pre.length : Int) (b.toNat : Int) l) ((b :: suf).all goodB) := by
      intro l hl
      rw [List.all_cons, goodB, goodC, ← hl]
      exact specText_j2 hn
    repeat' refine Ev.iff (fun hc => ?_) (fun hc => ?_)
    all_goals refine h2 _ ?_
    all_goals simp [letC, *]
    all_goals omega
theorem specText_ev (s : ByteArray) (hs : s.size ≤ 4611686018427387904) : Ev (fun k => spec_TextValid.f k s) (tv s) := by
  refine Ev.congr (fun k => by rw [spec_TextValid.f]) ?_
  have hl := specText_l0 hs s.data.toList [] rfl
  have h0 : ∀ b, Ev (fun k => spec_TextValid.j0 k s b) (!b && s.data.toList.all goodB) := by
    intro b
    refine Ev.step (fun k => by rw [spec_TextValid.j0]) ?_
    cases b
    · simpa using hl
    · exact Ev.now _
  refine Ev.iff (fun hc => ?_) (fun hc => ?_)
  · have := h0 true
    rwa [show (!true && s.data.toList.all goodB) = tv s from by simp [tv]; omega] at this
  · have := h0 (decide ((s.size : Int) > 12))
    rwa [show (!decide ((s.size : Int) > 12) && s.data.toList.all goodB) = tv s from by
      have e1 : decide (1 ≤ s.size) = true := by simp; omega
      by_cases h12 : s.size ≤ 12
      · have : ¬ ((s.size : Int) > 12) := by omega
        simp [tv, e1, h12, this]
      · have : (s.size : Int) > 12 := by omega
        simp [tv, h12, this]] at this
theorem sign_idx : ∀ n : Nat, n < 256 → (decide (Lib.indexByte [44, 58, 61, 123, 125, 40, 41, 91, 93] (UInt8.ofNat n) ≥ 0)) = signC (n : Int) := by decide +kernel
theorem implText_j1 {s : ByteArray} {i : Int} {g R : Bool} (h : Ev (fun k => impl_TextValid.l0 k s (wrap64 (i + 1))) R) : Ev (fun k => impl_TextValid.j1 k s i (!g)) (g && R) := by
  refine Ev.step (fun k => by rw [impl_TextValid.j1]) ?_
  cases g <;> simp
  · exact Ev.now _
  · exact h
theorem implText_l0 {s : ByteArray} (hs : s.size ≤ 4611686018427387904) : ∀ (suf pre : List UInt8), s.data.toList = pre ++ suf → Ev (fun k => impl_TextValid.l0 k s (pre.length : Int)) (suf.all goodB && (decide (1 ≤ s.size) && decide (s.size ≤ 12))) := by
  intro suf
  induction suf with
  | nil =>
    intro pre h
    refine Ev.step (fun k => by rw [impl_TextValid.l0]) ?_
    have c1 : ¬ ((pre.length : Int) < (s.size : Int)) := by rw [size_data, h]; simp
    simp only [if_neg c1]
    refine Ev.iff (fun hc => ?_) (fun hc => ?_)
    · rw [show (([] : List UInt8).all goodB && (decide (1 ≤ s.size) && decide (s.size ≤ 12))) = decide ((s.size : Int) ≤ 12) from by
        have : 1 ≤ s.size := by omega
        simp [this]; omega]
      exact Ev.now _
    · rw [show (([] : List UInt8).all goodB && (decide (1 ≤ s.size) && decide (s.size ≤ 12))) = false from by
        have : ¬ 1 ≤ s.size := by omega
        simp [this]]
      exact Ev.now _
  | cons b suf ih =>
    intro pre h
    have hl : pre.length < s.size := by rw [size_data, h]; simp
    refine Ev.step (fun k => by rw [impl_TextValid.l0]) ?_
    have c1 : (pre.length : Int) < (s.size : Int) := by omega
    have c2 : (0 : Int) ≤ (pre.length : Int) := by omega
    simp only [if_pos c1, if_pos c2, bt_mid h]
    have hn : Ev (fun k => impl_TextValid.l0 k s (wrap64 ((pre.length : Int) + 1))) (suf.all goodB && (decide (1 ≤ s.size) && decide (s.size ≤ 12))) := by
      rw [w64 (by omega) (by omega)]
      have := ih (pre ++ [b]) (by rw [h]; simp)
      rw [show ((pre ++ [b]).length : Int) = (pre.length : Int) + 1 by simp] at this
      exact this
    have h2 : ∀ g, g = goodC (b.toNat : Int) → Ev (fun k => impl_TextValid.j1 k s (pre.length : Int) (!g)) ((b :: suf).all goodB && (decide (1 ≤ s.size) && decide (s.size ≤ 12))) := by
      intro g hg
      rw [List.all_cons, goodB, ← hg, Bool.and_assoc]
      exact implText_j1 hn
    have hb : b.toNat < 256 := b.toNat_lt
    have hi : strings_IndexByte.f (⟨#[44, 58, 61, 123, 125, 40, 41, 91, 93]⟩ : ByteArray) (b.toNat : Int) = some (Lib.indexByte [44, 58, 61, 123, 125, 40, 41, 91, 93] (UInt8.ofNat b.toNat)) := by
      simp [strings_IndexByte.f]
    have hsg := sign_idx b.toNat hb
    simp only [hi, Option.bind_some, hsg]
    repeat' refine Ev.iff (fun hc => ?_) (fun hc => ?_)
    all_goals refine h2 _ ?_
    all_goals
      have e : letC (b.toNat : Int) = true ∨ letC (b.toNat : Int) = false := by cases letC (b.toNat : Int) <;> simp
      rcases e with e | e <;> simp [goodC, e] <;> (simp [letC] at e; omega)
theorem implText_ev (s : ByteArray) (hs : s.size ≤ 4611686018427387904) : Ev (fun k => impl_TextValid.f k s) (tv s) := by
  refine Ev.congr (fun k => by rw [impl_TextValid.f]) ?_
  have hl := implText_l0 hs s.data.toList [] rfl
  rwa [show (s.data.toList.all goodB && (decide (1 ≤ s.size) && decide (s.size ≤ 12))) = tv s from by
    simp only [tv]
    cases s.data.toList.all goodB <;> simp] at hl
end Go.Proofs.Ytdhdfmmefghijaa.Pure
namespace Go.Proofs.Ytdhdfmmefghijaa.Pure
open Go.RowKit Go.Proofs.Ytdhdfmmefghijaa.P Go.Proofs.YtdhdfmmefghijaaW.PrintWords Go.Proofs.YtdhdfmmefghijaaW.PrintLast Go.Proofs.YtdhdfmmefghijaaW.PrintMore
set_option linter.unusedVariables false
set_option linter.unusedSimpArgs false
mutual
/-- nodes and bytes of texts -/
def msz : SDoc → Nat
  | ⟨_, _, t, ks⟩ => 1 + t.size + mszL ks
def mszL : List SDoc → Nat
  | [] => 0
  | k :: ks => msz k + mszL ks
end
theorem mszL_len : ∀ (a : List SDoc), a.length ≤ mszL a
  | [] => by simp [mszL]
  | ⟨_, _, _, ks⟩ :: a => by have := mszL_len a; simp [mszL, msz]; omega
theorem mszL_mem : ∀ {a : List SDoc} {d : SDoc}, d ∈ a → msz d ≤ mszL a
  | k :: a, d, h => by
    rcases List.mem_cons.1 h with rfl | h
    · simp [mszL]
    · have := mszL_mem h; simp [mszL]; omega
theorem mszL_app : ∀ (a b : List SDoc), mszL (a ++ b) = mszL a + mszL b
  | [], b => by simp [mszL]
  | k :: a, b => by simp [mszL, mszL_app a b]; omega
theorem dsz_msz : ∀ d : SDoc, dsz d ≤ msz d := by
  intro d
  induction d using SDoc.ind with
  | h o n t ks ih =>
    have key : ∀ l : List SDoc, (∀ k, k ∈ l → dsz k ≤ msz k) → dszL l ≤ mszL l := by
      intro l
      induction l with
      | nil => intro _; simp [dszL, mszL]
      | cons y l ihl =>
        intro hl
        have h1 := hl y List.mem_cons_self
        have h2 := ihl (fun k hk => hl k (List.mem_cons_of_mem _ hk))
        simp only [dszL, mszL]
        omega
    have := key ks ih
    simp only [dsz, msz]
    omega
theorem specCount_loop (o n : Int) (t : ByteArray) (suf : List SDoc) : ∀ (pre : List SDoc) (acc : Int),
    (∀ y, y ∈ suf → Ev (fun k => spec_l1Count.f k y.f0 y.f1 y.f2 y.f3) (dsz y : Int)) → 0 ≤ acc → acc + dszL suf ≤ 9223372036854775807 → pre.length + suf.length ≤ 4611686018427387904 →
    Ev (fun k => spec_l1Count.l0 k acc (pre.length : Int) o n t (pre ++ suf)) (acc + dszL suf) := by
  induction suf with
  | nil =>
    intro pre acc _ h0 hs hm
    refine Ev.step (fun k => by rw [spec_l1Count.l0]) ?_
    simp only [List.append_nil, Int.lt_irrefl, if_false, dszL, Int.natCast_zero, Int.add_zero]
    exact Ev.now _
  | cons y suf ih =>
    intro pre acc hy h0 hs hm
    simp only [List.length_cons, dszL] at hm hs
    refine Ev.step (fun k => by rw [spec_l1Count.l0]) ?_
    have c1 : (pre.length : Int) < ((pre ++ y :: suf).length : Int) := by simp; omega
    have c2 : (0 : Int) ≤ (pre.length : Int) := by omega
    simp only [if_pos c1, if_pos c2, rdD]
    refine Ev.bind (hy y List.mem_cons_self) ?_
    rw [w64 (i := acc + dsz y) (by omega) (by omega), w64 (by omega) (by omega)]
    have := ih (pre ++ [y]) (acc + dsz y) (fun z hz => hy z (List.mem_cons_of_mem _ hz)) (by omega) (by omega) (by simp; omega)
    rw [List.append_assoc, show ((pre ++ [y]).length : Int) = (pre.length : Int) + 1 by simp] at this
    rw [show acc + (dszL (y :: suf) : Int) = acc + dsz y + dszL suf by simp [dszL]; omega]
    exact this
theorem specCount_ev : ∀ (d : SDoc), dsz d ≤ 4611686018427387904 → Ev (fun k => spec_l1Count.f k d.f0 d.f1 d.f2 d.f3) (dsz d : Int) := by
  intro d
  induction d using SDoc.ind with
  | h o n t ks ih =>
    intro hd
    simp only [dsz] at hd
    refine Ev.step (fun k => by rw [spec_l1Count.f]) ?_
    have := specCount_loop o n t ks [] 1 (fun y hy => ih y hy (by have := dszL_mem hy; omega)) (by omega) (by omega) (by have := dszL_len ks; simp; omega)
    rw [show ((dsz ⟨o, n, t, ks⟩ : Nat) : Int) = 1 + (dszL ks : Int) by simp [dsz]]
    simpa using this
end Go.Proofs.Ytdhdfmmefghijaa.Pure
namespace Go.Proofs.Ytdhdfmmefghijaa.Pure
open Go.RowKit Go.Proofs.Ytdhdfmmefghijaa.P Go.Proofs.YtdhdfmmefghijaaW.PrintWords Go.Proofs.YtdhdfmmefghijaaW.PrintLast Go.Proofs.YtdhdfmmefghijaaW.PrintMore
set_option linter.unusedVariables false
set_option linter.unusedSimpArgs false
theorem toList_data (bs : ByteArray) : bs.toList = bs.data.toList := by
  have key : ∀ (n i : Nat) (r : List UInt8), bs.size - i = n → ByteArray.toList.loop bs i r = r.reverse ++ bs.data.toList.drop i := by
    intro n
    induction n with
    | zero =>
      intro i r h
      rw [ByteArray.toList.loop]
      have : ¬ i < bs.size := by omega
      simp [this]
      omega
    | succ n ih =>
      intro i r h
      rw [ByteArray.toList.loop]
      have hi : i < bs.size := by omega
      simp only [hi, if_true]
      rw [ih (i+1) _ (by omega)]
      have h2 : i < bs.data.toList.length := by rw [Array.length_toList]; exact hi
      rw [List.drop_eq_getElem_cons h2]
      have h3 : i < bs.data.size := hi
      have : bs.get! i = bs.data.toList[i] := by
        simp [ByteArray.get!, Array.getElem!_eq_getD, Array.getD, hi]
      simp [this]
  unfold ByteArray.toList
  rw [key bs.size 0 [] (by omega)]
  simp
theorem toList_inj {a b : ByteArray} : a.toList = b.toList ↔ a = b := by
  rw [toList_data, toList_data]
  constructor
  · intro h
    obtain ⟨⟨a⟩⟩ := a
    obtain ⟨⟨b⟩⟩ := b
    simp at h
    subst h
    rfl
  · rintro rfl; rfl
theorem toList_nil {a : ByteArray} : a.toList = [] ↔ a.size = 0 := by
  rw [toList_data, size_data, List.length_eq_zero_iff]
def nodeOk (o n : Int) (t : ByteArray) (len : Nat) : Bool :=
  decide (1 ≤ o) && (decide (o ≤ 8) && (decide ((len : Int) = docKids o) && (decide (0 ≤ n) && (decide (n ≤ 9) && (decide (n = 0 ∨ o = 6) && (if o = 2 then tv t else decide (t.size = 0)))))))
mutual
def wf : SDoc → Nat → Bool
  | ⟨o, n, t, ks⟩, deep => decide (deep ≠ 0) && (nodeOk o n t ks.length && wfL ks (deep - 1))
def wfL : List SDoc → Nat → Bool
  | [], _ => true
  | k :: ks, deep => wf k deep && wfL ks deep
end
def docV (d : SDoc) : Bool := wf d 40 && decide (dsz d ≤ 80)
theorem wfL_all : ∀ (ks : List SDoc) (deep : Nat), wfL ks deep = ks.all fun k => wf k deep
  | [], _ => rfl
  | k :: ks, deep => by rw [wfL, wfL_all ks deep, List.all_cons]
theorem dszL_cons (y : SDoc) (l : List SDoc) : dszL (y :: l) = dsz y + dszL l := rfl
theorem dsz_mk (o n : Int) (t : ByteArray) (ks : List SDoc) : dsz ⟨o, n, t, ks⟩ = 1 + dszL ks := rfl
theorem wfL_cons (y : SDoc) (l : List SDoc) (deep : Nat) : wfL (y :: l) deep = true ↔ wf y deep = true ∧ wfL l deep = true := by rw [wfL, Bool.and_eq_true]
theorem wf_mk (o n : Int) (t : ByteArray) (ks : List SDoc) (deep : Nat) : wf ⟨o, n, t, ks⟩ deep = true ↔ deep ≠ 0 ∧ nodeOk o n t ks.length = true ∧ wfL ks (deep - 1) = true := by rw [wf, Bool.and_eq_true, Bool.and_eq_true, decide_eq_true_eq]
theorem nodeOk_iff (o n : Int) (t : ByteArray) (len : Nat) : nodeOk o n t len = true ↔ 1 ≤ o ∧ o ≤ 8 ∧ (len : Int) = docKids o ∧ 0 ≤ n ∧ n ≤ 9 ∧ (n = 0 ∨ o = 6) ∧ (if o = 2 then tv t else decide (t.size = 0)) = true := by
  simp only [nodeOk, Bool.and_eq_true, decide_eq_true_eq]
theorem docV_iff (d : SDoc) : docV d = true ↔ wf d 40 = true ∧ dsz d ≤ 80 := by rw [docV, Bool.and_eq_true, decide_eq_true_eq]
theorem implOk_loop (deep : Nat) (hdp : deep ≤ 40) (suf : List SDoc) : ∀ (pre : List SDoc) (left : Int),
    (∀ y, y ∈ suf → ∀ left : Int, 0 ≤ left → left ≤ 80 → ∃ b l', Ev (fun k => impl_docOk.f k y.f0 y.f1 y.f2 y.f3 (wrap64 ((deep : Int) - 1)) left) (b, l') ∧ (b = true ↔ wf y (deep - 1) = true ∧ (dsz y : Int) ≤ left) ∧ (b = true → l' = left - dsz y)) →
    0 ≤ left → left ≤ 80 → pre.length + suf.length ≤ 4611686018427387904 →
    ∃ b l', Ev (fun k => impl_docOk.l0 k (pre ++ suf) (pre.length : Int) (deep : Int) left) (b, l') ∧ (b = true ↔ wfL suf (deep - 1) = true ∧ (dszL suf : Int) ≤ left) ∧ (b = true → l' = left - dszL suf) := by
  induction suf with
  | nil =>
    intro pre left _ h0 h1 hm
    refine ⟨true, left, ?_, by simp [wfL, dszL, h0], fun _ => by simp [dszL]⟩
    refine Ev.step (fun k => by rw [impl_docOk.l0]) ?_
    simp only [List.append_nil, Int.lt_irrefl, if_false]
    exact Ev.now _
  | cons y suf ih =>
    intro pre left hy h0 h1 hm
    simp only [List.length_cons] at hm
    obtain ⟨b, l1, he, hb, hl⟩ := hy y List.mem_cons_self left h0 h1
    have c1 : (pre.length : Int) < ((pre ++ y :: suf).length : Int) := by simp; omega
    have c2 : (0 : Int) ≤ (pre.length : Int) := by omega
    have hp := dsz_pos y
    rw [dszL_cons, wfL_cons]
    cases b with
    | false =>
      have hnb : ¬ (wf y (deep - 1) = true ∧ (dsz y : Int) ≤ left) := fun h => by have := hb.2 h; cases this
      refine ⟨false, l1, ?_, ?_, fun h => by cases h⟩
      · refine Ev.step (fun k => by rw [impl_docOk.l0]) ?_
        simp only [if_pos c1, if_pos c2, rdD]
        refine Ev.bind he ?_
        simp only [Bool.false_eq_true, if_false]
        exact Ev.now _
      · refine ⟨fun h => (by cases h), fun h => absurd ⟨h.1.1, ?_⟩ hnb⟩
        have := h.2
        omega
    | true =>
      obtain ⟨hw, hle⟩ := hb.1 rfl
      obtain rfl := hl rfl
      obtain ⟨b2, l2, he2, hb2, hl2⟩ := ih (pre ++ [y]) (left - dsz y) (fun z hz => hy z (List.mem_cons_of_mem _ hz)) (by omega) (by omega) (by simp; omega)
      refine ⟨b2, l2, ?_, ?_, fun h => ?_⟩
      · refine Ev.step (fun k => by rw [impl_docOk.l0]) ?_
        simp only [if_pos c1, if_pos c2, rdD]
        refine Ev.bind he ?_
        simp only [if_true]
        rw [w64 (by omega) (by omega)]
        rw [List.append_assoc, show ((pre ++ [y]).length : Int) = (pre.length : Int) + 1 by simp] at he2
        exact he2
      · rw [hb2]
        constructor
        · intro h; exact ⟨⟨hw, h.1⟩, by have := h.2; omega⟩
        · intro h; exact ⟨h.1.2, by have := h.2; omega⟩
      · have := hl2 h
        omega
theorem implOk_ev : ∀ (d : SDoc), msz d ≤ 1099511627776 → ∀ (deep : Nat), deep ≤ 40 → ∀ (left : Int), 0 ≤ left → left ≤ 80 →
    ∃ b l', Ev (fun k => impl_docOk.f k d.f0 d.f1 d.f2 d.f3 (deep : Int) left) (b, l') ∧ (b = true ↔ wf d deep = true ∧ (dsz d : Int) ≤ left) ∧ (b = true → l' = left - dsz d) := by
  intro d
  induction d using SDoc.ind with
  | h o n t ks ih =>
    intro hd deep hdp left h0 h1
    simp only [msz] at hd
    have hkl := mszL_len ks
    have hwl : wrap64 (left - 1) = left - 1 := w64 (by omega) (by omega)
    rw [wf_mk, dsz_mk, nodeOk_iff]
    by_cases a1 : (deep : Int) = 0 ∨ wrap64 (left - 1) < 0 ∨ o < 1 ∨ 8 < o
    · refine ⟨false, wrap64 (left - 1), ?_, ⟨fun h => (by cases h), fun h => ?_⟩, fun h => by cases h⟩
      · refine Ev.step (fun k => by rw [impl_docOk.f]) ?_
        simp only [if_pos a1]
        exact Ev.now _
      · exfalso
        rw [hwl] at a1
        obtain ⟨⟨h1, ⟨h2, h3, _⟩, _⟩, h4⟩ := h
        omega
    · have hd0 : deep ≠ 0 := fun e => a1 (.inl (by omega))
      have hl0 : ¬ (left - 1 < 0) := fun e => a1 (.inr (.inl (by omega)))
      have ho1 : ¬ o < 1 := fun e => a1 (.inr (.inr (.inl e)))
      have ho8 : ¬ 8 < o := fun e => a1 (.inr (.inr (.inr e)))
      by_cases a2 : ¬ ((ks.length : Int) = docKids o) ∨ n < 0 ∨ 9 < n ∨ (0 < n ∧ ¬ (o = 6))
      · refine ⟨false, wrap64 (left - 1), ?_, ⟨fun h => (by cases h), fun h => ?_⟩, fun h => by cases h⟩
        · refine Ev.step (fun k => by rw [impl_docOk.f]) ?_
          simp only [if_neg a1, if_pos a2]
          exact Ev.now _
        · exfalso
          obtain ⟨⟨_, ⟨_, _, h3, h4, h5, h6, _⟩, _⟩, _⟩ := h
          rcases a2 with a | a | a | a
          · exact a h3
          · omega
          · omega
          · rcases h6 with h6 | h6
            · omega
            · exact a.2 h6
      · have b3 : (ks.length : Int) = docKids o := Decidable.not_not.1 (fun e => a2 (.inl e))
        have b4 : ¬ n < 0 := fun e => a2 (.inr (.inl e))
        have b5 : ¬ 9 < n := fun e => a2 (.inr (.inr (.inl e)))
        have b6 : n = 0 ∨ o = 6 := by
          by_cases hn : 0 < n
          · exact .inr (Decidable.not_not.1 (fun e => a2 (.inr (.inr (.inr ⟨hn, e⟩)))))
          · exact .inl (by omega)
        -- the loop
        obtain ⟨b, l2, he2, hb2, hl2⟩ := implOk_loop deep hdp ks [] (left - 1) (fun y hy left' h0' h1' => by
            have hym := mszL_mem hy
            obtain ⟨b', l', h, h', h''⟩ := ih y hy (by omega) (deep - 1) (by omega) left' h0' h1'
            refine ⟨b', l', ?_, h', h''⟩
            rw [w64 (by omega) (by omega), show ((deep : Int) - 1) = ((deep - 1 : Nat) : Int) by omega]
            exact h) (by omega) (by omega) (by simp; omega)
        have hloop : Ev (fun k => impl_docOk.l0 k ks 0 (deep : Int) (wrap64 (left - 1))) (b, l2) := by rw [hwl]; simpa using he2
        have good : ∀ x : Prop, x → ((b = true ↔ (deep ≠ 0 ∧ (1 ≤ o ∧ o ≤ 8 ∧ (ks.length : Int) = docKids o ∧ 0 ≤ n ∧ n ≤ 9 ∧ (n = 0 ∨ o = 6) ∧ x) ∧ wfL ks (deep - 1) = true) ∧ ((1 + dszL ks : Nat) : Int) ≤ left) ∧ (b = true → l2 = left - ((1 + dszL ks : Nat) : Int))) := by
          intro x hx
          refine ⟨?_, fun h => by have := hl2 h; omega⟩
          rw [hb2]
          constructor
          · intro h; exact ⟨⟨hd0, ⟨by omega, by omega, b3, by omega, by omega, b6, hx⟩, h.1⟩, by have := h.2; omega⟩
          · intro h; exact ⟨h.1.2.2, by have := h.2; omega⟩
        have bad : ∀ x : Prop, ¬ x → (((false : Bool) = true ↔ (deep ≠ 0 ∧ (1 ≤ o ∧ o ≤ 8 ∧ (ks.length : Int) = docKids o ∧ 0 ≤ n ∧ n ≤ 9 ∧ (n = 0 ∨ o = 6) ∧ x) ∧ wfL ks (deep - 1) = true) ∧ ((1 + dszL ks : Nat) : Int) ≤ left) ∧ ((false : Bool) = true → wrap64 (left - 1) = left - ((1 + dszL ks : Nat) : Int))) := by
          intro x hx
          exact ⟨⟨fun h => (by cases h), fun h => absurd h.1.2.1.2.2.2.2.2.2 hx⟩, fun h => by cases h⟩
        by_cases e9 : o = 2
        · have hT := implText_ev t (by omega)
          rw [if_pos e9]
          cases htv : tv t with
          | false =>
            refine ⟨false, wrap64 (left - 1), ?_, bad _ (by simp)⟩
            refine Ev.step (fun k => by rw [impl_docOk.f]) ?_
            simp only [if_neg a1, if_neg a2, if_pos e9]
            refine Ev.bind hT ?_
            simp only [htv, Bool.false_eq_true, if_false]
            exact Ev.now _
          | true =>
            refine ⟨b, l2, ?_, good _ rfl⟩
            refine Ev.step (fun k => by rw [impl_docOk.f]) ?_
            simp only [if_neg a1, if_neg a2, if_pos e9]
            refine Ev.bind hT ?_
            simp only [htv, if_true]
            exact hloop
        · rw [if_neg e9, decide_eq_true_eq]
          by_cases e10 : t.toList = []
          · have hz := toList_nil.1 e10
            refine ⟨b, l2, ?_, good _ hz⟩
            refine Ev.step (fun k => by rw [impl_docOk.f]) ?_
            simp only [if_neg a1, if_neg a2, if_neg e9, if_pos e10]
            exact hloop
          · have hz : ¬ t.size = 0 := fun e => e10 (toList_nil.2 e)
            refine ⟨false, wrap64 (left - 1), ?_, bad _ hz⟩
            refine Ev.step (fun k => by rw [impl_docOk.f]) ?_
            simp only [if_neg a1, if_neg a2, if_neg e9, if_neg e10]
            exact Ev.now _
theorem implValid_ev (d : SDoc) (hd : msz d ≤ 1099511627776) : Ev (fun k => impl_DocValid.f k d.f0 d.f1 d.f2 d.f3) (docV d) := by
  obtain ⟨b, l', h, hb, _⟩ := implOk_ev d hd 40 (by omega) 80 (by omega) (by omega)
  refine Ev.congr (fun k => by rw [impl_DocValid.f]) ?_
  refine Ev.bind (h : Ev (fun k => impl_docOk.f k d.f0 d.f1 d.f2 d.f3 40 80) _) ?_
  rw [show docV d = b from by
    rw [Bool.eq_iff_iff, hb, docV_iff]
    constructor
    · intro h; exact ⟨h.1, by have := h.2; omega⟩
    · intro h; exact ⟨h.1, by have := h.2; omega⟩]
  exact Ev.now _
theorem specKids_ev (o : Int) : Ev (fun k => spec_l1Kids.f k o) (if o < 1 ∨ 8 < o then -1 else docKids o) := by
  have j1 : ∀ b, Ev (fun k => spec_l1Kids.j1 k o b) (if b = true then 1 else if o = 7 then 2 else -1) := by
    intro b
    refine Ev.step (fun k => by rw [spec_l1Kids.j1]) ?_
    cases b
    · simp only [Bool.false_eq_true, if_false]
      by_cases h : o = 7
      · simp only [if_pos h]; exact Ev.now _
      · simp only [if_neg h]; exact Ev.now _
    · exact Ev.now _
  have j0 : ∀ b, Ev (fun k => spec_l1Kids.j0 k o b) (if b = true then 0 else if o = 6 ∨ o = 8 then 1 else if o = 7 then 2 else -1) := by
    intro b
    refine Ev.step (fun k => by rw [spec_l1Kids.j0]) ?_
    cases b
    · simp only [Bool.false_eq_true, if_false]
      by_cases h : o = 6
      · simp only [if_pos h]
        have := j1 (o == 6)
        rw [h] at this ⊢
        simpa using this
      · simp only [if_neg h]
        have := j1 (o == 8)
        by_cases h8 : o = 8
        · rw [h8] at this ⊢
          simpa using this
        · rw [show (o == 8) = false by simpa using h8] at this ⊢
          simpa [h, h8] using this
    · exact Ev.now _
  refine Ev.congr (fun k => by rw [spec_l1Kids.f]) ?_
  have fin : ∀ x b, (o = x → b = true) → (b = true → 1 ≤ o ∧ o ≤ 5) → (b = false → ¬ (1 ≤ o ∧ o ≤ 5)) → Ev (fun k => spec_l1Kids.j0 k o b) (if o < 1 ∨ 8 < o then -1 else docKids o) := by
    intro x b _ h1 h2
    have := j0 b
    cases b
    · have := h2 rfl
      rename_i this'
      rw [show (if o < 1 ∨ 8 < o then -1 else docKids o) = (if (false : Bool) = true then 0 else if o = 6 ∨ o = 8 then 1 else if o = 7 then 2 else -1) from by
        by_cases q : o < 1 ∨ 8 < o
        · have : ¬ (o = 6 ∨ o = 8) := by omega
          have : ¬ o = 7 := by omega
          simp [*]
        · have : o = 6 ∨ o = 7 ∨ o = 8 := by omega
          rcases this with rfl | rfl | rfl <;> simp [docKids]]
      exact this'
    · have := h1 rfl
      rename_i this'
      rw [show (if o < 1 ∨ 8 < o then -1 else docKids o) = 0 from by
        have q : ¬ (o < 1 ∨ 8 < o) := by omega
        rw [if_neg q]
        have : o = 1 ∨ o = 2 ∨ o = 3 ∨ o = 4 ∨ o = 5 := by omega
        rcases this with rfl | rfl | rfl | rfl | rfl <;> rfl]
      exact this'
  repeat' refine Ev.iff (fun hc => ?_) (fun hc => ?_)
  · subst hc; exact fin 1 _ (fun _ => rfl) (fun _ => by omega) (fun h => by cases h)
  · subst hc; exact fin 2 _ (fun _ => rfl) (fun _ => by omega) (fun h => by cases h)
  · subst hc; exact fin 3 _ (fun _ => rfl) (fun _ => by omega) (fun h => by cases h)
  · subst hc; exact fin 4 _ (fun _ => rfl) (fun _ => by omega) (fun h => by cases h)
  · refine fin 5 _ (fun h => by simp [h]) (fun h => by have : o = 5 := by simpa using h
                                                       omega) (fun h => by have : ¬ o = 5 := by simpa using h
                                                                           omega)
theorem specIs_loop (o n : Int) (t : ByteArray) (deep : Nat) (suf : List SDoc) : ∀ (pre : List SDoc),
    (∀ y, y ∈ suf → Ev (fun k => spec_l1Is.f k y.f0 y.f1 y.f2 y.f3 (wrap64 ((deep : Int) - 1))) (wf y (deep - 1))) → pre.length + suf.length ≤ 4611686018427387904 →
    Ev (fun k => spec_l1Is.l0 k (deep : Int) (pre.length : Int) o n t (pre ++ suf)) (wfL suf (deep - 1)) := by
  induction suf with
  | nil =>
    intro pre _ hm
    refine Ev.step (fun k => by rw [spec_l1Is.l0]) ?_
    simp only [List.append_nil, Int.lt_irrefl, if_false]
    exact Ev.now _
  | cons y suf ih =>
    intro pre hy hm
    simp only [List.length_cons] at hm
    have c1 : (pre.length : Int) < ((pre ++ y :: suf).length : Int) := by simp; omega
    have c2 : (0 : Int) ≤ (pre.length : Int) := by omega
    refine Ev.step (fun k => by rw [spec_l1Is.l0]) ?_
    simp only [if_pos c1, if_pos c2, rdD]
    refine Ev.bind (hy y List.mem_cons_self) ?_
    cases hw : wf y (deep - 1) with
    | false =>
      simp only [Bool.false_eq_true, if_false]
      rw [show wfL (y :: suf) (deep - 1) = false from by rw [wfL, hw, Bool.false_and]]
      exact Ev.now _
    | true =>
      simp only [if_true]
      rw [w64 (by omega) (by omega), show wfL (y :: suf) (deep - 1) = wfL suf (deep - 1) from by rw [wfL, hw, Bool.true_and]]
      have := ih (pre ++ [y]) (fun z hz => hy z (List.mem_cons_of_mem _ hz)) (by simp; omega)
      rw [List.append_assoc, show ((pre ++ [y]).length : Int) = (pre.length : Int) + 1 by simp] at this
      exact this
theorem specIs_ev : ∀ (d : SDoc), msz d ≤ 1099511627776 → ∀ (deep : Nat), deep ≤ 40 → Ev (fun k => spec_l1Is.f k d.f0 d.f1 d.f2 d.f3 (deep : Int)) (wf d deep) := by
  intro d
  induction d using SDoc.ind with
  | h o n t ks ih =>
    intro hd deep hdp
    simp only [msz] at hd
    have hkl := mszL_len ks
    have hloop : deep ≠ 0 → Ev (fun k => spec_l1Is.l0 k (deep : Int) 0 o n t ks) (wfL ks (deep - 1)) := fun h0 => by
      have := specIs_loop o n t deep ks [] (fun y hy => by
        have hym := mszL_mem hy
        rw [w64 (by omega) (by omega), show ((deep : Int) - 1) = ((deep - 1 : Nat) : Int) by omega]
        exact ih y hy (by omega) (deep - 1) (by omega)) (by simp; omega)
      simpa using this
    -- the tests, from the last one on
    have j2 : deep ≠ 0 → ∀ b, Ev (fun k => spec_l1Is.j2 k (deep : Int) b o n t ks) (!b && wfL ks (deep - 1)) := fun h0 b => by
      refine Ev.step (fun k => by rw [spec_l1Is.j2]) ?_
      cases b
      · simpa using hloop h0
      · exact Ev.now _
    have j1 : deep ≠ 0 → ∀ b, Ev (fun k => spec_l1Is.j1 k (deep : Int) b o n t ks) (!b && (decide ((o = 6 ∧ 0 ≤ n ∧ n ≤ 9) ∨ (o ≠ 6 ∧ n = 0)) && wfL ks (deep - 1))) := fun h0 b => by
      refine Ev.step (fun k => by rw [spec_l1Is.j1]) ?_
      cases b
      · simp only [Bool.false_eq_true, if_false, Bool.not_false, Bool.true_and]
        have fin : ∀ b, (b = true ↔ ¬ ((o = 6 ∧ 0 ≤ n ∧ n ≤ 9) ∨ (o ≠ 6 ∧ n = 0))) → Ev (fun k => spec_l1Is.j2 k (deep : Int) b o n t ks) (decide ((o = 6 ∧ 0 ≤ n ∧ n ≤ 9) ∨ (o ≠ 6 ∧ n = 0)) && wfL ks (deep - 1)) := fun b hb => by
          have := j2 h0 b
          rwa [show (!b) = decide ((o = 6 ∧ 0 ≤ n ∧ n ≤ 9) ∨ (o ≠ 6 ∧ n = 0)) from by
            rw [Bool.eq_iff_iff, decide_eq_true_eq]
            cases b
            · have : (o = 6 ∧ 0 ≤ n ∧ n ≤ 9) ∨ (o ≠ 6 ∧ n = 0) := Decidable.not_not.1 (fun h => by have := hb.2 h; cases this)
              simpa using this
            · have := hb.1 rfl
              simpa using this] at this
        repeat' refine Ev.iff (fun hc => ?_) (fun hc => ?_)
        · exact fin true ⟨fun _ => by omega, fun _ => rfl⟩
        · exact fin true ⟨fun _ => by omega, fun _ => rfl⟩
        · exact fin false ⟨fun h => (by cases h), fun h => absurd (by omega) h⟩
        · refine fin (n != 0) ⟨fun h => ?_, fun h => ?_⟩
          · have : ¬ n = 0 := by simpa using h
            omega
          · have : ¬ n = 0 := by omega
            simpa using this
      · exact Ev.now _
    have j0 : deep ≠ 0 → ∀ b, Ev (fun k => spec_l1Is.j0 k (deep : Int) b o n t ks) (!b && ((if o = 2 then tv t else decide (t.size = 0)) && (decide ((o = 6 ∧ 0 ≤ n ∧ n ≤ 9) ∨ (o ≠ 6 ∧ n = 0)) && wfL ks (deep - 1)))) := fun h0 b => by
      refine Ev.step (fun k => by rw [spec_l1Is.j0]) ?_
      cases b
      · simp only [Bool.false_eq_true, if_false, Bool.not_false, Bool.true_and]
        by_cases h2 : o = 2
        · simp only [if_pos h2]
          refine Ev.bind (specText_ev t (by omega)) ?_
          cases tv t
          · simp only [Bool.false_eq_true, if_false]
            exact j1 h0 true
          · simp only [if_true]
            exact j1 h0 false
        · simp only [if_neg h2]
          have := j1 h0 (t.toList != ([] : List UInt8))
          rwa [show (!(t.toList != ([] : List UInt8))) = decide (t.size = 0) from by
            rw [Bool.eq_iff_iff, decide_eq_true_eq, ← toList_nil]; simp] at this
      · exact Ev.now _
    refine Ev.step (fun k => by rw [spec_l1Is.f]) ?_
    by_cases h0 : deep = 0
    · subst h0
      simp only [Int.natCast_zero, if_true]
      rw [show wf ⟨o, n, t, ks⟩ 0 = false from by rw [wf]; simp]
      refine Ev.step (fun k => by rw [spec_l1Is.j0]) ?_
      exact Ev.now _
    · have c0 : ¬ (deep : Int) = 0 := by omega
      simp only [if_neg c0]
      refine Ev.bind (specKids_ev o) ?_
      have := j0 h0 ((ks.length : Int) != (if o < 1 ∨ 8 < o then -1 else docKids o))
      rwa [show (!((ks.length : Int) != (if o < 1 ∨ 8 < o then -1 else docKids o)) && ((if o = 2 then tv t else decide (t.size = 0)) && (decide ((o = 6 ∧ 0 ≤ n ∧ n ≤ 9) ∨ (o ≠ 6 ∧ n = 0)) && wfL ks (deep - 1)))) = wf ⟨o, n, t, ks⟩ deep from by
        rw [Bool.eq_iff_iff, wf_mk, nodeOk_iff]
        simp only [Bool.and_eq_true, decide_eq_true_eq, Bool.not_eq_true', bne_eq_false_iff_eq]
        generalize (if o = 2 then tv t else decide (t.size = 0)) = tt
        constructor
        · rintro ⟨h1, h2, h3, h4⟩
          by_cases q : o < 1 ∨ 8 < o
          · rw [if_pos q] at h1; omega
          · rw [if_neg q] at h1
            exact ⟨h0, ⟨by omega, by omega, h1, by omega, by omega, by omega, h2⟩, h4⟩
        · rintro ⟨_, ⟨h1, h2, h3, h4, h5, h6, h7⟩, h8⟩
          have q : ¬ (o < 1 ∨ 8 < o) := by omega
          rw [if_neg q]
          exact ⟨h3, h7, by omega, h8⟩] at this
theorem specValid_ev (d : SDoc) (hd : msz d ≤ 1099511627776) : Ev (fun k => spec_DocValid.f k d.f0 d.f1 d.f2 d.f3) (docV d) := by
  refine Ev.congr (fun k => by rw [spec_DocValid.f]) ?_
  refine Ev.bind (specIs_ev d hd 40 (by omega)) ?_
  cases hw : wf d 40 with
  | false =>
    simp only [Bool.false_eq_true, if_false]
    rw [show docV d = false from by rw [docV, hw, Bool.false_and]]
    exact Ev.now _
  | true =>
    simp only [if_true]
    have := dsz_msz d
    refine Ev.bind (specCount_ev d (by omega)) ?_
    rw [show docV d = decide ((dsz d : Int) ≤ 80) from by rw [docV, hw, Bool.true_and]; exact dec_eq (by omega)]
    exact Ev.now _
end Go.Proofs.Ytdhdfmmefghijaa.Pure
namespace Go.Proofs.Ytdhdfmmefghijaa.Pure
open Go.RowKit Go.Proofs.Ytdhdfmmefghijaa.P Go.Proofs.YtdhdfmmefghijaaW.PrintWords Go.Proofs.YtdhdfmmefghijaaW.PrintLast Go.Proofs.YtdhdfmmefghijaaW.PrintMore
set_option linter.unusedVariables false
set_option linter.unusedSimpArgs false
def ba (l : List UInt8) : ByteArray := ⟨l.toArray⟩
theorem ba_size (l : List UInt8) : (ba l).size = l.length := by simp [ba, ByteArray.size]
theorem ba_data (l : List UInt8) : (ba l).data.toList = l := by simp [ba]
theorem ba_of (s : ByteArray) : ba s.data.toList = s := by
  obtain ⟨⟨l⟩⟩ := s
  rfl
theorem ba_extract (l : List UInt8) (i j : Nat) : (ba l).extract i j = ba ((l.drop i).take (j - i)) := by
  apply ByteArray.ext
  apply Array.ext'
  simp [ba, List.take_drop]
def pW : List UInt8 → Option (List UInt8 × List UInt8)
  | [] => none
  | c :: s => if (c.toNat : Int) = 34 then some ([], s) else (pW s).map fun q => (c :: q.1, q.2)
def pK (f : List UInt8 → Option (SDoc × List UInt8)) : Nat → Int → List UInt8 → Option (List SDoc × List UInt8)
  | 0, _, [] => none
  | 0, e, c :: r => if (c.toNat : Int) = e then some ([], r) else none
  | m + 1, e, s => (f s).bind fun q => (pK f m e q.2).map fun p => (q.1 :: p.1, p.2)
def hd60 : List UInt8 → Bool
  | [] => false
  | c :: _ => (c.toNat : Int) == 60
def pN (f : List UInt8 → Option (SDoc × List UInt8)) : List UInt8 → Option (SDoc × List UInt8)
  | [] => none
  | c :: s =>
    if (c.toNat : Int) = 126 then some (⟨1, 0, ba [], []⟩, s) else if (c.toNat : Int) = 95 then some (⟨3, 0, ba [], []⟩, s)
    else if (c.toNat : Int) = 46 then some (⟨4, 0, ba [], []⟩, s) else if (c.toNat : Int) = 33 then some (⟨5, 0, ba [], []⟩, s)
    else if (c.toNat : Int) = 34 then (pW s).map fun q => (⟨2, 0, ba q.1, []⟩, q.2)
    else if (c.toNat : Int) = 40 then (pK f 2 41 s).map fun q => (⟨7, 0, ba [], q.1⟩, q.2)
    else if (c.toNat : Int) = 91 then (pK f 1 93 s).map fun q => (⟨8, 0, ba [], q.1⟩, q.2)
    else if 48 ≤ (c.toNat : Int) ∧ (c.toNat : Int) ≤ 57 ∧ hd60 s = true then (pK f 1 62 s.tail).map fun q => (⟨6, (c.toNat : Int) - 48, ba [], q.1⟩, q.2)
    else none
def pD : Nat → List UInt8 → Option (SDoc × List UInt8)
  | 0 => fun _ => none
  | n + 1 => pN (pD n)
theorem pW_is : ∀ {s a r : List UInt8}, pW s = some (a, r) → ∃ c : UInt8, (c.toNat : Int) = 34 ∧ s = a ++ c :: r
  | c :: s, a, r, h => by
    rw [pW] at h
    by_cases e : (c.toNat : Int) = 34
    · rw [if_pos e] at h
      obtain ⟨rfl, rfl⟩ := Prod.mk.inj (Option.some.inj h)
      exact ⟨c, e, rfl⟩
    · rw [if_neg e] at h
      obtain ⟨⟨a', r'⟩, h1, h2⟩ := Option.map_eq_some_iff.1 h
      obtain ⟨rfl, rfl⟩ := Prod.mk.inj h2
      obtain ⟨c', hc, hs⟩ := pW_is h1
      exact ⟨c', hc, by rw [hs]; rfl⟩
def Good (f : List UInt8 → Option (SDoc × List UInt8)) : Prop := ∀ s d r, f s = some (d, r) → msz d + r.length ≤ s.length ∧ ∃ u, s = u ++ r
theorem pK_good {f} (hf : Good f) : ∀ (m : Nat) (e : Int) (s : List UInt8) (ks : List SDoc) (r : List UInt8), pK f m e s = some (ks, r) → ks.length = m ∧ mszL ks + 1 + r.length ≤ s.length ∧ ∃ u, s = u ++ r
  | 0, e, [], ks, r, h => by simp [pK] at h
  | 0, e, c :: s, ks, r, h => by
    rw [pK] at h
    by_cases e' : (c.toNat : Int) = e
    · rw [if_pos e'] at h
      obtain ⟨rfl, rfl⟩ := Prod.mk.inj (Option.some.inj h)
      exact ⟨rfl, by simp [mszL]; omega, [c], rfl⟩
    · rw [if_neg e'] at h; cases h
  | m + 1, e, s, ks, r, h => by
    rw [pK] at h
    obtain ⟨⟨d, r1⟩, h1, h⟩ := Option.bind_eq_some_iff.1 h
    obtain ⟨⟨l, r2⟩, h2, h⟩ := Option.map_eq_some_iff.1 h
    obtain ⟨rfl, rfl⟩ := Prod.mk.inj h
    obtain ⟨g1, u1, e1⟩ := hf _ _ _ h1
    obtain ⟨g2, g3, u2, e2⟩ := pK_good hf m e _ _ _ h2
    simp only at g3 e2
    refine ⟨by simp [g2], ?_, u1 ++ u2, by rw [e1, e2, List.append_assoc]⟩
    simp only [mszL]
    have : r1.length = u2.length + r2.length := by rw [e2, List.length_append]
    omega
theorem pN_good {f} (hf : Good f) : Good (pN f) := by
  intro s d r h
  match s, h with
  | c :: s, h =>
    rw [pN] at h
    by_cases c1 : (c.toNat : Int) = 126
    · rw [if_pos c1] at h; obtain ⟨rfl, rfl⟩ := Prod.mk.inj (Option.some.inj h)
      exact ⟨by simp [msz, mszL, ba_size]; omega, [c], rfl⟩
    rw [if_neg c1] at h
    by_cases c2 : (c.toNat : Int) = 95
    · rw [if_pos c2] at h; obtain ⟨rfl, rfl⟩ := Prod.mk.inj (Option.some.inj h)
      exact ⟨by simp [msz, mszL, ba_size]; omega, [c], rfl⟩
    rw [if_neg c2] at h
    by_cases c3 : (c.toNat : Int) = 46
    · rw [if_pos c3] at h; obtain ⟨rfl, rfl⟩ := Prod.mk.inj (Option.some.inj h)
      exact ⟨by simp [msz, mszL, ba_size]; omega, [c], rfl⟩
    rw [if_neg c3] at h
    by_cases c4 : (c.toNat : Int) = 33
    · rw [if_pos c4] at h; obtain ⟨rfl, rfl⟩ := Prod.mk.inj (Option.some.inj h)
      exact ⟨by simp [msz, mszL, ba_size]; omega, [c], rfl⟩
    rw [if_neg c4] at h
    by_cases c5 : (c.toNat : Int) = 34
    · rw [if_pos c5] at h
      obtain ⟨⟨a, r'⟩, h1, h2⟩ := Option.map_eq_some_iff.1 h
      obtain ⟨rfl, rfl⟩ := Prod.mk.inj h2
      obtain ⟨q, _, rfl⟩ := pW_is h1
      exact ⟨by simp [msz, mszL, ba_size]; omega, c :: a ++ [q], by simp⟩
    rw [if_neg c5] at h
    by_cases c6 : (c.toNat : Int) = 40
    · rw [if_pos c6] at h
      obtain ⟨⟨a, r'⟩, h1, h2⟩ := Option.map_eq_some_iff.1 h
      obtain ⟨rfl, rfl⟩ := Prod.mk.inj h2
      obtain ⟨_, g, u, rfl⟩ := pK_good hf _ _ _ _ _ h1
      exact ⟨by simp [msz, ba_size] at g ⊢; omega, c :: u, by simp⟩
    rw [if_neg c6] at h
    by_cases c7 : (c.toNat : Int) = 91
    · rw [if_pos c7] at h
      obtain ⟨⟨a, r'⟩, h1, h2⟩ := Option.map_eq_some_iff.1 h
      obtain ⟨rfl, rfl⟩ := Prod.mk.inj h2
      obtain ⟨_, g, u, rfl⟩ := pK_good hf _ _ _ _ _ h1
      exact ⟨by simp [msz, ba_size] at g ⊢; omega, c :: u, by simp⟩
    rw [if_neg c7] at h
    by_cases c8 : 48 ≤ (c.toNat : Int) ∧ (c.toNat : Int) ≤ 57 ∧ hd60 s = true
    · rw [if_pos c8] at h
      obtain ⟨⟨a, r'⟩, h1, h2⟩ := Option.map_eq_some_iff.1 h
      obtain ⟨rfl, rfl⟩ := Prod.mk.inj h2
      obtain ⟨_, g, u, e⟩ := pK_good hf _ _ _ _ _ h1
      match s, c8, e, g with
      | [], c8, _, _ => simp [hd60] at c8
      | q :: s, _, e, g =>
        simp only [List.tail_cons] at e g
        subst e
        exact ⟨by simp [msz, ba_size] at g ⊢; omega, c :: q :: u, by simp⟩
    · rw [if_neg c8] at h; cases h
theorem pD_good : ∀ n, Good (pD n)
  | 0 => fun s d r h => by simp [pD] at h
  | n + 1 => pN_good (pD_good n)
def endAt (N : Nat) {α : Type} : Option (α × List UInt8) → Int
  | some q => (N : Int) - (q.2.length : Int)
  | none => -1
def parseR (L : List UInt8) : Option SDoc := match pD 40 L with
  | some (d, []) => if docV d = true then some d else none
  | _ => none
def docR : Option SDoc → Int × Int × ByteArray × List SDoc × Bool
  | some d => (d.f0, d.f1, d.f2, d.f3, true)
  | none => (0, 0, ⟨#[]⟩, [], false)
end Go.Proofs.Ytdhdfmmefghijaa.Pure
