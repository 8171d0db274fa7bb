/- CONTRACTS and lemmas: each contract says that a Go function of the program, called over the translation under the theorem's own hypotheses, returns what the Lean function beside it computes. -/
import Derived.Test.YtdhdfmmefghijaaVFnTextValid4
import Derived.Test.YtdhdfmmefghijaaRows
import Derived.ClosedOfChecked
import Derived.KernelRfl
namespace Go.Proofs.Ytdhdfmmefghijaa.P
open Go.RowKit Go.Proofs.YtdhdfmmefghijaaW.PrintWords Go.Proofs.YtdhdfmmefghijaaW.PrintLast Go.Proofs.YtdhdfmmefghijaaW.PrintMore
attribute [local go_sem] max2_int min2_int max_two min_two max_three min_three max_four min_four
set_option linter.unusedVariables false
set_option linter.unusedSimpArgs false
def impl_ParseDoc.j0:Nat→Bool→Int→Int→ByteArray→List (SDoc)→Option (Int × Int × ByteArray × (List (SDoc)) × Bool)
 | 0,_,_,_,_,_=>none
 | k+1,x23,x196000,x196001,x196002,x196003=>if x23=true then (some (0,0,(⟨#[]⟩:ByteArray),([]:List (SDoc)),false)) else (some (x196000,x196001,x196002,x196003,true))
def impl_ParseDoc.f (k:Nat) (a0:ByteArray):Option (Int × Int × ByteArray × (List (SDoc)) × Bool):=(impl_parseDoc.f k a0 40).bind fun bt187=>(if bt187.2.2.2.2.2=true then (if bt187.2.2.2.2.1.toList=([]:List UInt8) then ((impl_DocValid.f k bt187.1 bt187.2.1 bt187.2.2.1 bt187.2.2.2.1).bind fun t196=>(impl_ParseDoc.j0 k (!t196) bt187.1 bt187.2.1 bt187.2.2.1 bt187.2.2.2.1)) else (impl_ParseDoc.j0 k true bt187.1 bt187.2.1 bt187.2.2.1 bt187.2.2.2.1)) else (impl_ParseDoc.j0 k true bt187.1 bt187.2.1 bt187.2.2.1 bt187.2.2.2.1))
set_option maxHeartbeats 8000000 in
set_option maxRecDepth 100000 in
theorem impl_ParseDoc.calls (k:Nat) (a0:ByteArray) (r1:Int) (r2:Int) (r3:ByteArray) (r4:List (SDoc)) (r5:Bool) (w:World) (h:impl_ParseDoc.f k a0=some (r1,r2,r3,r4,r5)) :
  Calls Try.prog 17 #[.string a0] w fun e w'=>∃ v3_:Value,e=.returned (.tuple #[.agg #[.int .i64 r1,.int .i64 r2,.string r3,v3_],.bool r5])∧Kd.R k27 27 w' w.heap.size (fun _=>True) v3_ r4∧Below w.heap.size w w':=by
 have hu27:=Try.underlying27
 have HB:=Aside0.mk (Below.refl w.heap.size w)
 have H:((impl_parseDoc.f k a0 40).bind fun bt187=>(if bt187.2.2.2.2.2=true then (if bt187.2.2.2.2.1.toList=([]:List UInt8) then ((impl_DocValid.f k bt187.1 bt187.2.1 bt187.2.2.1 bt187.2.2.2.1).bind fun t196=>(impl_ParseDoc.j0 k (!t196) bt187.1 bt187.2.1 bt187.2.2.1 bt187.2.2.2.1)) else (impl_ParseDoc.j0 k true bt187.1 bt187.2.1 bt187.2.2.1 bt187.2.2.2.1)) else (impl_ParseDoc.j0 k true bt187.1 bt187.2.1 bt187.2.2.1 bt187.2.2.2.1)))=some (r1,r2,r3,r4,r5):=h
 clear h
 replace H:=Option.bind_eq_some_iff.mp H
 obtain ⟨⟨t187,t188,t189,t190,t193,t194⟩,A20,H⟩:=H
 replace H:(if t194=true then (if t193.toList=([]:List UInt8) then ((impl_DocValid.f k t187 t188 t189 t190).bind fun t196=>(impl_ParseDoc.j0 k (!t196) t187 t188 t189 t190)) else (impl_ParseDoc.j0 k true t187 t188 t189 t190)) else (impl_ParseDoc.j0 k true t187 t188 t189 t190))=some (r1,r2,r3,r4,r5):=H
 have A2:=Aside0.mk A20
 clear A20
 have HC3:=Aside0.mk H
 clear H
 go_enter Try.func17,Try.ntmps17
 go_upto_region 2 with (first|((with_reducible refine gate_dst (N:=2) rfl ?_);refine box_event ?hg (N:=2) ?hd (cs:=#[.int .i64 0,.int .i64 0,.string (⟨#[]⟩:ByteArray),.slice none 0 0]) (t:=27) ?hr ?_;(case hd=>rfl);(case hg=>rfl);(case hr=>first|(go_simp;done)|(go_simp;rfl));intro gb186 hg w4 hbox hb;have n0_:=Aside0.mk (below_step (gB HB) hb);have n1_:=Aside0.mk (hbox);have n2_:=Aside0.mk ((by rw [hg];exact (below_size (gB HB)):w.heap.size≤gb186));have n3_:=Aside0.mk ((by rw [hg];exact (below_size (gB HB)):w.heap.size≤gb186));clear HB;have HB:=n0_;have BK186:=n1_;have GW186:=n2_;have GE186:=n3_;clear n0_ n1_ n2_ n3_;clear hb hbox hg)|((with_reducible refine gate_callee (f:=48) rfl ?_);refine goesL_ (some 9) rfl rfl Try.func48 (by kernel_rfl) rfl #[.string a0,.int .i64 40] rfl (by (try simp only [List.map_toArray,List.map_cons,List.map_nil]);first|done|rfl|(simp only [List.length_drop,List.length_take];rfl)) ?_;(with_reducible refine (impl_parseDoc.calls k a0 40 t187 t188 t189 t190 t193 t194 _ A2.out).mono ?_);rintro e w5 ⟨v191,rfl,ho0,hb⟩;refine ⟨_,rfl,?_⟩;have n0_:=Aside0.mk (Kd.R_lower (Kd.R_newB ho0 (g:=gb186) (o:=.cells #[.int .i64 0,.int .i64 0,.string (⟨#[]⟩:ByteArray),.slice none 0 0] 27 (0,0)) (gK BK186)) (below_size (by repeat (first|exact gB HB|refine below_set ?_ GE186.out))));have n1_:=Aside0.mk (blk_below (g:=gb186) (o:=.cells #[.int .i64 0,.int .i64 0,.string (⟨#[]⟩:ByteArray),.slice none 0 0] 27 (0,0)) (gK BK186) hb);have n2_:=Aside0.mk (below_step (by repeat (first|exact gB HB|refine below_set ?_ GE186.out)) hb);clear BK186;clear HB;have HO192:=n0_;have BK186:=n1_;have HB:=n2_;clear n0_ n1_ n2_;(try clear hb);(try clear hb2);(try clear hk);(try clear hi);(try clear ho0))|((with_reducible refine gate_dst (N:=4) rfl ?_);refine box_event ?hg (N:=4) ?hd (cs:=#[.int .i64 0,.int .i64 0,.string (⟨#[]⟩:ByteArray),.slice none 0 0]) (t:=27) ?hr ?_;(case hd=>rfl);(case hg=>rfl);(case hr=>first|(go_simp;done)|(go_simp;rfl));intro gb195 hg w6 hbox hb;have n0_:=Aside0.mk (Kd.R_below (Kd.R_elderB (gR HO192) gb195 (Nat.le_of_eq hg.symm)) hb);have n1_:=Aside0.mk (blk_below (g:=gb186) (o:=.cells #[.int .i64 0,.int .i64 0,.string (⟨#[]⟩:ByteArray),.slice none 0 0] 27 (0,0)) (gK BK186) hb);have n2_:=Aside0.mk (below_step (by repeat (first|exact gB HB|refine below_set ?_ GE186.out)) hb);have n3_:=Aside0.mk (hbox);have n4_:=Aside0.mk ((by rw [hg];exact (below_size (by repeat (first|exact gB HB|refine below_set ?_ GE186.out))):w.heap.size≤gb195));have n5_:=Aside0.mk ((by rw [hg];exact (below_size (by repeat (first|exact gB HB|refine below_set ?_ GE186.out))):w.heap.size≤gb195));have n6_:=Aside0.mk ((by rw [hg];exact Nat.ne_of_lt (blk_lt (g:=gb186) (o:=.cells #[.int .i64 0,.int .i64 0,.string (⟨#[]⟩:ByteArray),.slice none 0 0] 27 (0,0)) (gK BK186)):gb186 ≠ gb195));have n7_:=Aside0.mk ((by rw [hg];exact Nat.ne_of_gt (blk_lt (g:=gb186) (o:=.cells #[.int .i64 0,.int .i64 0,.string (⟨#[]⟩:ByteArray),.slice none 0 0] 27 (0,0)) (gK BK186)):gb195 ≠ gb186));clear HO192;clear BK186;clear HB;have HO192:=n0_;have BK186:=n1_;have HB:=n2_;have BK195:=n3_;have GW195:=n4_;have GE195:=n5_;have NB186_195:=n6_;have NB195_186:=n7_;clear n0_ n1_ n2_ n3_ n4_ n5_ n6_ n7_;clear hb hbox hg;have hnb7:=NB195_186.out;have hnc7:=NB186_195.out;have hcz8_0:w6.cell? ⟨gb195,0,none⟩=some (.int .i64 0):=(blk_cell BK195.out 0).trans rfl;have hcz8_1:w6.cell? ⟨gb195,1,none⟩=some (.int .i64 0):=(blk_cell BK195.out 1).trans rfl;have hcz8_2:w6.cell? ⟨gb195,2,none⟩=some (.string (⟨#[]⟩:ByteArray)):=(blk_cell BK195.out 2).trans rfl;have hcz8_3:w6.cell? ⟨gb195,3,none⟩=some (.slice none 0 0):=(blk_cell BK195.out 3).trans rfl;have hfz8_0:=blk_frozen BK195.out 0;have hfz8_1:=blk_frozen BK195.out 1;have hfz8_2:=blk_frozen BK195.out 2;have hfz8_3:=blk_frozen BK195.out 3;obtain ⟨Ao9,co9,eo9⟩:=Kd.R_slice HO192.out;subst eo9))
 (try simp only [Act.put,List.setIfInBounds_toArray,List.set_cons_zero,List.set_cons_succ])
 go_cut [23] (fun v23 wc=>∃ (kq:Nat) (x23_2:Bool),v23=.bool x23_2∧Aside0 (impl_ParseDoc.j0 kq x23_2 t187 t188 t189 t190=some (r1,r2,r3,r4,r5))∧Aside0 (kq≤k)∧Aside0 (Kd.R k27 27 wc w.heap.size (fun k_=>k_ ≠ gb186∧k_ ≠ gb195) (.slice Ao9 t190.length co9) t190)∧Aside0 (wc.heap[gb186]?=some (.cells #[.int .i64 0,.int .i64 0,.string (⟨#[]⟩:ByteArray),(.slice none 0 0)] 27 (0,0)))∧Aside0 (wc.heap[gb195]?=some (.cells #[.int .i64 t187,.int .i64 t188,.string t189,(.slice Ao9 t190.length co9)] 27 (0,0)))∧Aside0 (Below w.heap.size w wc))
 case first =>
  have H:=HC3.out
  clear HC3
  by_cases c10:t194=true
  ·subst c10
   have H1:(if t193.toList=([]:List UInt8) then ((impl_DocValid.f k t187 t188 t189 t190).bind fun t196=>(impl_ParseDoc.j0 k (!t196) t187 t188 t189 t190)) else (impl_ParseDoc.j0 k true t187 t188 t189 t190))=some (r1,r2,r3,r4,r5):=by rw [if_pos rfl] at H;exact H
   clear H
   have H:=H1
   clear H1
   by_cases c11:t193.toList=([]:List UInt8)
   ·rw [if_pos c11] at H
    have c11b0:(t193.toList == ([]:List UInt8))=true:=beq_iff_eq.mpr c11
    have c11b1:(t193.toList != ([]:List UInt8))=false:=bne_eq_false_iff_eq.mpr c11
    clear c11
    (first|rw [c11b0]|(simp only [i64_w,i32_w];rw [c11b0])|skip)
    replace H:=Option.bind_eq_some_iff.mp H
    obtain ⟨t196,A120,H⟩:=H
    replace H:(impl_ParseDoc.j0 k (!t196) t187 t188 t189 t190)=some (r1,r2,r3,r4,r5):=H
    have A12:=Aside0.mk A120
    clear A120
    have H':=Aside0.mk H
    clear H
    have hnb13:=NB195_186.out
    have hnc13:=NB186_195.out
    have hcz14_0:w6.cell? ⟨gb195,0,none⟩=some (.int .i64 0):=(blk_cell BK195.out 0).trans rfl
    have hcz14_1:w6.cell? ⟨gb195,1,none⟩=some (.int .i64 0):=(blk_cell BK195.out 1).trans rfl
    have hcz14_2:w6.cell? ⟨gb195,2,none⟩=some (.string (⟨#[]⟩:ByteArray)):=(blk_cell BK195.out 2).trans rfl
    have hcz14_3:w6.cell? ⟨gb195,3,none⟩=some (.slice none 0 0):=(blk_cell BK195.out 3).trans rfl
    have hfz14_0:=blk_frozen BK195.out 0
    have hfz14_1:=blk_frozen BK195.out 1
    have hfz14_2:=blk_frozen BK195.out 2
    have hfz14_3:=blk_frozen BK195.out 3
    go_wp2_with (first|(go_at_call 24;(with_reducible refine (impl_DocValid.calls k t187 t188 t189 _ _ t190 t196 _ ?side1 ?side2 A12.out).mono ?_);(case side1=>exact (Kd.R_reads' (e:=27) (base:=w.heap.size) (n:=t190.length) (c:=co9) (by (with_reducible repeat (first|apply Kd.R_alloc|apply Kd.R_drewN|apply Kd.R_drew));exact (Kd.R_mono (Kd.R_far (p:=⟨gb195,3,none⟩) (Kd.R_far (p:=⟨gb195,2,none⟩) (Kd.R_far (p:=⟨gb195,1,none⟩) (Kd.R_far (p:=⟨gb195,0,none⟩) (Kd.R_mono HO192.out (fun k_ hk=>(⟨hk,hk.2⟩:_∧k_ ≠ gb195))) (fun _ hk=>hk.2) (.int .i64 t187)) (fun _ hk=>hk.2) (.int .i64 t188)) (fun _ hk=>hk.2) (.string t189)) (fun _ hk=>hk.2) (.slice Ao9 t190.length co9)) (fun _ h_=>h_.1)))).2.2);(case side2=>exact (Kd.R_reads' HO192.out).2.1);rintro e w15 ⟨rfl,hb⟩;have n0_:=Aside0.mk (Kd.R_below (by (with_reducible repeat (first|apply Kd.R_alloc|apply Kd.R_drewN|apply Kd.R_drew));exact (Kd.R_mono (Kd.R_far (p:=⟨gb195,3,none⟩) (Kd.R_far (p:=⟨gb195,2,none⟩) (Kd.R_far (p:=⟨gb195,1,none⟩) (Kd.R_far (p:=⟨gb195,0,none⟩) (Kd.R_mono HO192.out (fun k_ hk=>(⟨hk,hk.2⟩:_∧k_ ≠ gb195))) (fun _ hk=>hk.2) (.int .i64 t187)) (fun _ hk=>hk.2) (.int .i64 t188)) (fun _ hk=>hk.2) (.string t189)) (fun _ hk=>hk.2) (.slice Ao9 t190.length co9)) (fun _ h_=>h_.1))) hb);have n1_:=Aside0.mk (blk_below (g:=gb186) (o:=.cells #[.int .i64 0,.int .i64 0,.string (⟨#[]⟩:ByteArray),.slice none 0 0] 27 (0,0)) (by (with_reducible repeat (first|refine blk_drewN ?_ _|refine blk_drew ?_|refine blk_alloc ?_ _));refine blk_far ?_ NB186_195.out _;(with_reducible repeat (first|refine blk_drewN ?_ _|refine blk_drew ?_|refine blk_alloc ?_ _));refine blk_far ?_ NB186_195.out _;(with_reducible repeat (first|refine blk_drewN ?_ _|refine blk_drew ?_|refine blk_alloc ?_ _));refine blk_far ?_ NB186_195.out _;(with_reducible repeat (first|refine blk_drewN ?_ _|refine blk_drew ?_|refine blk_alloc ?_ _));refine blk_far ?_ NB186_195.out _;(with_reducible repeat (first|refine blk_drewN ?_ _|refine blk_drew ?_|refine blk_alloc ?_ _));exact BK186.out) hb);have n2_:=Aside0.mk (blk_below (g:=gb195) (o:=.cells #[.int .i64 t187,.int .i64 t188,.string t189,.slice Ao9 t190.length co9] 27 (0,0)) (by (with_reducible repeat (first|refine blk_drewN ?_ _|refine blk_drew ?_|refine blk_alloc ?_ _));refine blk_put (cs:=#[.int .i64 t187,.int .i64 t188,.string t189,.slice none 0 0]) ?_ 3 _ rfl;(with_reducible repeat (first|refine blk_drewN ?_ _|refine blk_drew ?_|refine blk_alloc ?_ _));refine blk_put (cs:=#[.int .i64 t187,.int .i64 t188,.string (⟨#[]⟩:ByteArray),.slice none 0 0]) ?_ 2 _ rfl;(with_reducible repeat (first|refine blk_drewN ?_ _|refine blk_drew ?_|refine blk_alloc ?_ _));refine blk_put (cs:=#[.int .i64 t187,.int .i64 0,.string (⟨#[]⟩:ByteArray),.slice none 0 0]) ?_ 1 _ rfl;(with_reducible repeat (first|refine blk_drewN ?_ _|refine blk_drew ?_|refine blk_alloc ?_ _));refine blk_put (cs:=#[.int .i64 0,.int .i64 0,.string (⟨#[]⟩:ByteArray),.slice none 0 0]) ?_ 0 _ rfl;(with_reducible repeat (first|refine blk_drewN ?_ _|refine blk_drew ?_|refine blk_alloc ?_ _));exact BK195.out) hb);have n3_:=Aside0.mk (below_step (by repeat (first|exact gB HB|refine below_set ?_ GE186.out|refine below_set ?_ GE195.out)) hb);clear HO192;clear BK186;clear BK195;clear HB;have HO192:=n0_;have BK186:=n1_;have BK195:=n2_;have HB:=n3_;clear n0_ n1_ n2_ n3_;(try clear hb);(try clear hb2);(try clear hk);(try clear hi)))
    go_meet
    case rel=>exact ⟨_,(!t196),(by first|rfl|(simp;done)|(simp [*];done)),H',⟨by first|omega|exact Nat.le_refl _⟩,⟨by (with_reducible repeat (first|apply Kd.R_alloc|apply Kd.R_drewN|apply Kd.R_drew));exact Kd.R_mono HO192.out (fun _ hk=>⟨hk.1.2,hk.2⟩)⟩,⟨gK BK186⟩,⟨gK BK195⟩,⟨by repeat (first|exact gB HB|refine below_set ?_ GE186.out|refine below_set ?_ GE195.out)⟩⟩
   ·rw [if_neg c11] at H
    have c11b0:(t193.toList == ([]:List UInt8))=false:=beq_eq_false_iff_ne.mpr c11
    have c11b1:(t193.toList != ([]:List UInt8))=true:=bne_iff_ne.mpr c11
    (first|rw [c11b0]|(simp only [i64_w,i32_w];rw [c11b0])|skip)
    have H':=Aside0.mk H
    clear H
    go_wp2
    go_meet
    case rel=>exact ⟨_,(true),(by first|rfl|(simp;done)|(simp [*];done)),H',⟨by first|omega|exact Nat.le_refl _⟩,⟨by (with_reducible repeat (first|apply Kd.R_alloc|apply Kd.R_drewN|apply Kd.R_drew));exact Kd.R_mono (Kd.R_far (p:=⟨gb195,3,none⟩) (Kd.R_far (p:=⟨gb195,2,none⟩) (Kd.R_far (p:=⟨gb195,1,none⟩) (Kd.R_far (p:=⟨gb195,0,none⟩) (Kd.R_mono HO192.out (fun k_ hk=>(⟨hk,hk.2⟩:_∧k_ ≠ gb195))) (fun _ hk=>hk.2) (.int .i64 t187)) (fun _ hk=>hk.2) (.int .i64 t188)) (fun _ hk=>hk.2) (.string t189)) (fun _ hk=>hk.2) (.slice Ao9 t190.length co9)) (fun _ hk=>⟨hk.1.1.2,hk.1.2⟩)⟩,⟨by (with_reducible repeat (first|refine blk_drewN ?_ _|refine blk_drew ?_|refine blk_alloc ?_ _));refine blk_far ?_ NB186_195.out _;(with_reducible repeat (first|refine blk_drewN ?_ _|refine blk_drew ?_|refine blk_alloc ?_ _));refine blk_far ?_ NB186_195.out _;(with_reducible repeat (first|refine blk_drewN ?_ _|refine blk_drew ?_|refine blk_alloc ?_ _));refine blk_far ?_ NB186_195.out _;(with_reducible repeat (first|refine blk_drewN ?_ _|refine blk_drew ?_|refine blk_alloc ?_ _));refine blk_far ?_ NB186_195.out _;(with_reducible repeat (first|refine blk_drewN ?_ _|refine blk_drew ?_|refine blk_alloc ?_ _));exact BK186.out⟩,⟨by (with_reducible repeat (first|refine blk_drewN ?_ _|refine blk_drew ?_|refine blk_alloc ?_ _));refine blk_put (cs:=#[.int .i64 t187,.int .i64 t188,.string t189,.slice none 0 0]) ?_ 3 _ rfl;(with_reducible repeat (first|refine blk_drewN ?_ _|refine blk_drew ?_|refine blk_alloc ?_ _));refine blk_put (cs:=#[.int .i64 t187,.int .i64 t188,.string (⟨#[]⟩:ByteArray),.slice none 0 0]) ?_ 2 _ rfl;(with_reducible repeat (first|refine blk_drewN ?_ _|refine blk_drew ?_|refine blk_alloc ?_ _));refine blk_put (cs:=#[.int .i64 t187,.int .i64 0,.string (⟨#[]⟩:ByteArray),.slice none 0 0]) ?_ 1 _ rfl;(with_reducible repeat (first|refine blk_drewN ?_ _|refine blk_drew ?_|refine blk_alloc ?_ _));refine blk_put (cs:=#[.int .i64 0,.int .i64 0,.string (⟨#[]⟩:ByteArray),.slice none 0 0]) ?_ 0 _ rfl;(with_reducible repeat (first|refine blk_drewN ?_ _|refine blk_drew ?_|refine blk_alloc ?_ _));exact BK195.out⟩,⟨by repeat (first|exact gB HB|refine below_set ?_ GE186.out|refine below_set ?_ GE195.out)⟩⟩
  ·replace c10:=Bool.eq_false_iff.mpr c10
   subst c10
   have H1:(impl_ParseDoc.j0 k true t187 t188 t189 t190)=some (r1,r2,r3,r4,r5):=by rw [if_neg (show ¬ (false=true) by decide)] at H;exact H
   clear H
   have H:=H1
   clear H1
   have H':=Aside0.mk H
   clear H
   go_wp2
   go_meet
   case rel=>exact ⟨_,(true),(by first|rfl|(simp;done)|(simp [*];done)),H',⟨by first|omega|exact Nat.le_refl _⟩,⟨by (with_reducible repeat (first|apply Kd.R_alloc|apply Kd.R_drewN|apply Kd.R_drew));exact Kd.R_mono (Kd.R_far (p:=⟨gb195,3,none⟩) (Kd.R_far (p:=⟨gb195,2,none⟩) (Kd.R_far (p:=⟨gb195,1,none⟩) (Kd.R_far (p:=⟨gb195,0,none⟩) (Kd.R_mono HO192.out (fun k_ hk=>(⟨hk,hk.2⟩:_∧k_ ≠ gb195))) (fun _ hk=>hk.2) (.int .i64 t187)) (fun _ hk=>hk.2) (.int .i64 t188)) (fun _ hk=>hk.2) (.string t189)) (fun _ hk=>hk.2) (.slice Ao9 t190.length co9)) (fun _ hk=>⟨hk.1.1.2,hk.1.2⟩)⟩,⟨by (with_reducible repeat (first|refine blk_drewN ?_ _|refine blk_drew ?_|refine blk_alloc ?_ _));refine blk_far ?_ NB186_195.out _;(with_reducible repeat (first|refine blk_drewN ?_ _|refine blk_drew ?_|refine blk_alloc ?_ _));refine blk_far ?_ NB186_195.out _;(with_reducible repeat (first|refine blk_drewN ?_ _|refine blk_drew ?_|refine blk_alloc ?_ _));refine blk_far ?_ NB186_195.out _;(with_reducible repeat (first|refine blk_drewN ?_ _|refine blk_drew ?_|refine blk_alloc ?_ _));refine blk_far ?_ NB186_195.out _;(with_reducible repeat (first|refine blk_drewN ?_ _|refine blk_drew ?_|refine blk_alloc ?_ _));exact BK186.out⟩,⟨by (with_reducible repeat (first|refine blk_drewN ?_ _|refine blk_drew ?_|refine blk_alloc ?_ _));refine blk_put (cs:=#[.int .i64 t187,.int .i64 t188,.string t189,.slice none 0 0]) ?_ 3 _ rfl;(with_reducible repeat (first|refine blk_drewN ?_ _|refine blk_drew ?_|refine blk_alloc ?_ _));refine blk_put (cs:=#[.int .i64 t187,.int .i64 t188,.string (⟨#[]⟩:ByteArray),.slice none 0 0]) ?_ 2 _ rfl;(with_reducible repeat (first|refine blk_drewN ?_ _|refine blk_drew ?_|refine blk_alloc ?_ _));refine blk_put (cs:=#[.int .i64 t187,.int .i64 0,.string (⟨#[]⟩:ByteArray),.slice none 0 0]) ?_ 1 _ rfl;(with_reducible repeat (first|refine blk_drewN ?_ _|refine blk_drew ?_|refine blk_alloc ?_ _));refine blk_put (cs:=#[.int .i64 0,.int .i64 0,.string (⟨#[]⟩:ByteArray),.slice none 0 0]) ?_ 0 _ rfl;(with_reducible repeat (first|refine blk_drewN ?_ _|refine blk_drew ?_|refine blk_alloc ?_ _));exact BK195.out⟩,⟨by repeat (first|exact gB HB|refine below_set ?_ GE186.out|refine below_set ?_ GE195.out)⟩⟩
 case rest =>
  clear HC3
  try clear c1 p2 c4 c7 c10 c11 c11b0 c11b1 c13 hcz14_0 hcz14_1 hcz14_2 hcz14_3 hcz8_0 hcz8_1 hcz8_2 hcz8_3 hfz14_0 hfz14_1 hfz14_2 hfz14_3 hfz8_0 hfz8_1 hfz8_2 hfz8_3
  obtain ⟨kq,x23_2,rfl,HA,HJ2,HO_196003,BK186,BK195,HB⟩:=hcut
  cases kq with
  | zero=>exact absurd HA.out (by simp [impl_ParseDoc.j0])
  | succ kj2 =>
   have H:=HA.out
   clear HA
   simp only [impl_ParseDoc.j0] at H
   by_cases c16:x23_2=true
   ·subst c16
    have H1:(some (0,0,(⟨#[]⟩:ByteArray),([]:List (SDoc)),false))=some (r1,r2,r3,r4,r5):=by rw [if_pos rfl] at H;exact H
    clear H
    have H:=H1
    clear H1
    simp only [Option.some.injEq,Prod.mk.injEq] at H
    obtain ⟨rfl,rfl,rfl,rfl,rfl⟩:=H
    have hnb17:=NB186_195.out
    have hnc17:=NB195_186.out
    have hcz18_0:wc.cell? ⟨gb186,0,none⟩=some (.int .i64 0):=(blk_cell BK186.out 0).trans rfl
    have hcz18_1:wc.cell? ⟨gb186,1,none⟩=some (.int .i64 0):=(blk_cell BK186.out 1).trans rfl
    have hcz18_2:wc.cell? ⟨gb186,2,none⟩=some (.string (⟨#[]⟩:ByteArray)):=(blk_cell BK186.out 2).trans rfl
    have hcz18_3:wc.cell? ⟨gb186,3,none⟩=some (.slice none 0 0):=(blk_cell BK186.out 3).trans rfl
    have hfz18_0:=blk_frozen BK186.out 0
    have hfz18_1:=blk_frozen BK186.out 1
    have hfz18_2:=blk_frozen BK186.out 2
    have hfz18_3:=blk_frozen BK186.out 3
    go_wp2
    refine bodyPost_ret (results_ct rfl _ _ gb186 27 #[.int .i64 0,.int .i64 0,.string (⟨#[]⟩:ByteArray),.slice none 0 0] (0,0) _ rfl (by (with_reducible repeat (first|refine blk_drewN ?_ _|refine blk_drew ?_|refine blk_alloc ?_ _));refine blk_put (cs:=#[.int .i64 0,.int .i64 0,.string (⟨#[]⟩:ByteArray),.slice none 0 0]) ?_ 3 _ rfl;(with_reducible repeat (first|refine blk_drewN ?_ _|refine blk_drew ?_|refine blk_alloc ?_ _));refine blk_put (cs:=#[.int .i64 0,.int .i64 0,.string (⟨#[]⟩:ByteArray),.slice none 0 0]) ?_ 2 _ rfl;(with_reducible repeat (first|refine blk_drewN ?_ _|refine blk_drew ?_|refine blk_alloc ?_ _));refine blk_put (cs:=#[.int .i64 0,.int .i64 0,.string (⟨#[]⟩:ByteArray),.slice none 0 0]) ?_ 1 _ rfl;(with_reducible repeat (first|refine blk_drewN ?_ _|refine blk_drew ?_|refine blk_alloc ?_ _));refine blk_put (cs:=#[.int .i64 0,.int .i64 0,.string (⟨#[]⟩:ByteArray),.slice none 0 0]) ?_ 0 _ rfl;(with_reducible repeat (first|refine blk_drewN ?_ _|refine blk_drew ?_|refine blk_alloc ?_ _));exact BK186.out) Try.underlying27 rfl (by kernel_rfl)) rfl ?_
    exact ⟨_,by first|rfl|(simp [errW_none,errW_some] <;> rfl)|(simp [*,errW_none,errW_some] <;> rfl),by first|exact Kd.R_nil _ _ _ _ _|exact Kd.N_nil _ _ _ _ _|exact Kd.V_nil _ _ _ _ _|exact Kd.Q_nil _ _ _ _ _|exact Kd.S_nil _ _ _ _ _,by repeat (first|exact gB HB|refine below_set ?_ GE186.out|refine below_set ?_ GE195.out)⟩
   ·replace c16:=Bool.eq_false_iff.mpr c16
    subst c16
    have H1:(some (t187,t188,t189,t190,true))=some (r1,r2,r3,r4,r5):=by rw [if_neg (show ¬ (false=true) by decide)] at H;exact H
    clear H
    have H:=H1
    clear H1
    simp only [Option.some.injEq,Prod.mk.injEq] at H
    obtain ⟨rfl,rfl,rfl,rfl,rfl⟩:=H
    have hnb19:=NB195_186.out
    have hnc19:=NB186_195.out
    have hcz20_0:wc.cell? ⟨gb195,0,none⟩=some (.int .i64 t187):=(blk_cell BK195.out 0).trans rfl
    have hcz20_1:wc.cell? ⟨gb195,1,none⟩=some (.int .i64 t188):=(blk_cell BK195.out 1).trans rfl
    have hcz20_2:wc.cell? ⟨gb195,2,none⟩=some (.string t189):=(blk_cell BK195.out 2).trans rfl
    have hcz20_3:wc.cell? ⟨gb195,3,none⟩=some (.slice Ao9 t190.length co9):=(blk_cell BK195.out 3).trans rfl
    have hfz20_0:=blk_frozen BK195.out 0
    have hfz20_1:=blk_frozen BK195.out 1
    have hfz20_2:=blk_frozen BK195.out 2
    have hfz20_3:=blk_frozen BK195.out 3
    have hcz21_0:wc.cell? ⟨gb186,0,none⟩=some (.int .i64 0):=(blk_cell BK186.out 0).trans rfl
    have hcz21_1:wc.cell? ⟨gb186,1,none⟩=some (.int .i64 0):=(blk_cell BK186.out 1).trans rfl
    have hcz21_2:wc.cell? ⟨gb186,2,none⟩=some (.string (⟨#[]⟩:ByteArray)):=(blk_cell BK186.out 2).trans rfl
    have hcz21_3:wc.cell? ⟨gb186,3,none⟩=some (.slice none 0 0):=(blk_cell BK186.out 3).trans rfl
    have hfz21_0:=blk_frozen BK186.out 0
    have hfz21_1:=blk_frozen BK186.out 1
    have hfz21_2:=blk_frozen BK186.out 2
    have hfz21_3:=blk_frozen BK186.out 3
    go_wp2
    refine bodyPost_ret (results_ct rfl _ _ gb186 27 #[.int .i64 t187,.int .i64 t188,.string t189,.slice Ao9 t190.length co9] (0,0) _ rfl (by (with_reducible repeat (first|refine blk_drewN ?_ _|refine blk_drew ?_|refine blk_alloc ?_ _));refine blk_put (cs:=#[.int .i64 t187,.int .i64 t188,.string t189,.slice none 0 0]) ?_ 3 _ rfl;(with_reducible repeat (first|refine blk_drewN ?_ _|refine blk_drew ?_|refine blk_alloc ?_ _));refine blk_put (cs:=#[.int .i64 t187,.int .i64 t188,.string (⟨#[]⟩:ByteArray),.slice none 0 0]) ?_ 2 _ rfl;(with_reducible repeat (first|refine blk_drewN ?_ _|refine blk_drew ?_|refine blk_alloc ?_ _));refine blk_put (cs:=#[.int .i64 t187,.int .i64 0,.string (⟨#[]⟩:ByteArray),.slice none 0 0]) ?_ 1 _ rfl;(with_reducible repeat (first|refine blk_drewN ?_ _|refine blk_drew ?_|refine blk_alloc ?_ _));refine blk_put (cs:=#[.int .i64 0,.int .i64 0,.string (⟨#[]⟩:ByteArray),.slice none 0 0]) ?_ 0 _ rfl;(with_reducible repeat (first|refine blk_drewN ?_ _|refine blk_drew ?_|refine blk_alloc ?_ _));exact BK186.out) Try.underlying27 rfl (by kernel_rfl)) rfl ?_
    exact ⟨_,by first|rfl|(simp [errW_none,errW_some] <;> rfl)|(simp [*,errW_none,errW_some] <;> rfl),by (with_reducible repeat (first|apply Kd.R_alloc|apply Kd.R_drewN|apply Kd.R_drew));exact Kd.R_mono (Kd.R_far (p:=⟨gb186,3,none⟩) (Kd.R_far (p:=⟨gb186,2,none⟩) (Kd.R_far (p:=⟨gb186,1,none⟩) (Kd.R_far (p:=⟨gb186,0,none⟩) (Kd.R_mono HO_196003.out (fun k_ hk=>(⟨hk,hk.1⟩:_∧k_ ≠ gb186))) (fun _ hk=>hk.2) (.int .i64 t187)) (fun _ hk=>hk.2) (.int .i64 t188)) (fun _ hk=>hk.2) (.string t189)) (fun _ hk=>hk.2) (.slice Ao9 t190.length co9)) (fun _ hk=>trivial),by repeat (first|exact gB HB|refine below_set ?_ GE186.out|refine below_set ?_ GE195.out)⟩
end Go.Proofs.Ytdhdfmmefghijaa.P
namespace Go.Proofs.Ytdhdfmmefghijaa.P
open Go.RowKit Go.Proofs.YtdhdfmmefghijaaW.PrintWords Go.Proofs.YtdhdfmmefghijaaW.PrintLast Go.Proofs.YtdhdfmmefghijaaW.PrintMore
attribute [local go_sem] max2_int min2_int max_two min_two max_three min_three max_four min_four
set_option linter.unusedVariables false
set_option linter.unusedSimpArgs false
mutual
def spec_TextValid.j0:Nat→ByteArray→Bool→Option (Bool)
 | 0,_,_=>none
 | k+1,x0,x14=>if x14=true then (some false) else (spec_TextValid.l0 k x0 0)
def spec_TextValid.l0:Nat→ByteArray→Int→Option (Bool)
 | 0,_,_=>none
 | k+1,x0,x3=>if x3 < (x0.size:Int) then (if 0≤x3 then (if (bt x0 x3) ≥ 97 then (if (bt x0 x3)≤122 then (spec_TextValid.j2 k x0 x3 (bt x0 x3) true) else (if (bt x0 x3) ≥ 48 then (spec_TextValid.j2 k x0 x3 (bt x0 x3) (decide ((bt x0 x3)≤57))) else (spec_TextValid.j2 k x0 x3 (bt x0 x3) false))) else (if (bt x0 x3) ≥ 48 then (spec_TextValid.j2 k x0 x3 (bt x0 x3) (decide ((bt x0 x3)≤57))) else (spec_TextValid.j2 k x0 x3 (bt x0 x3) false))) else (none)) else (some true)
def spec_TextValid.j2:Nat→ByteArray→Int→Int→Bool→Option (Bool)
 | 0,_,_,_,_=>none
 | k+1,x0,x3,x4,x5=>if x4=44 then (spec_TextValid.j3 k x0 x3 x5 true) else (if x4=58 then (spec_TextValid.j3 k x0 x3 x5 true) else (if x4=61 then (spec_TextValid.j3 k x0 x3 x5 true) else (if x4=123 then (spec_TextValid.j3 k x0 x3 x5 true) else (if x4=125 then (spec_TextValid.j3 k x0 x3 x5 true) else (if x4=40 then (spec_TextValid.j3 k x0 x3 x5 true) else (if x4=41 then (spec_TextValid.j3 k x0 x3 x5 true) else (if x4=91 then (spec_TextValid.j3 k x0 x3 x5 true) else (spec_TextValid.j3 k x0 x3 x5 (x4 == 93)))))))))
def spec_TextValid.j3:Nat→ByteArray→Int→Bool→Bool→Option (Bool)
 | 0,_,_,_,_=>none
 | k+1,x0,x3,x5,x6=>if x5=true then (spec_TextValid.l0 k x0 (wrap64 (x3+1))) else (if x6=true then (spec_TextValid.l0 k x0 (wrap64 (x3+1))) else (some false))
end
def spec_TextValid.f (k:Nat) (a0:ByteArray):Option (Bool):=if (a0.size:Int) < 1 then (spec_TextValid.j0 k a0 true) else (spec_TextValid.j0 k a0 (decide ((a0.size:Int) > 12)))
set_option maxHeartbeats 8000000 in
set_option maxRecDepth 100000 in
theorem spec_TextValid.calls (k:Nat) (a0:ByteArray) (r:Bool) (w:World) (h:spec_TextValid.f k a0=some r) :
  Calls Try.prog 18 #[.string a0] w fun e w'=>e=.returned (.bool r)∧Drawn0 w w':=by
 have H:(if (a0.size:Int) < 1 then (spec_TextValid.j0 k a0 true) else (spec_TextValid.j0 k a0 (decide ((a0.size:Int) > 12))))=some r:=h
 clear h
 have HC2:=Aside0.mk H
 clear H
 go_enter Try.func18,Try.ntmps18
 go_upto_region 1 with (fail)
 go_cut [14] (fun v14 wc=>∃ (kq:Nat) (x14_1:Bool),v14=.bool x14_1∧Aside0 (spec_TextValid.j0 kq a0 x14_1=some r)∧Aside0 (kq≤k)∧Drawn0 w wc)
 case first =>
  have H:=HC2.out
  clear HC2
  by_cases c3:(a0.size:Int) < 1
  ·rw [if_pos c3] at H
   have c3b0:decide ((a0.size:Int) < 1)=true:=decide_eq_true c3
   have c3b1:decide (a0.size < 1)=true:=decide_eq_true (by omega)
   clear c3
   (first|rw [c3b0]|(simp only [i64_w,i32_w];rw [c3b0])|skip)
   have H':=Aside0.mk H
   clear H
   go_wp2
   go_meet
   case rel=>exact ⟨_,(true),(by first|rfl|(simp;done)|(simp [*];done)),H',⟨by first|omega|exact Nat.le_refl _⟩,by repeat (first|exact Drawn0.refl _|apply Drawn0.step)⟩
  ·rw [if_neg c3] at H
   have c3b0:decide ((a0.size:Int) < 1)=false:=decide_eq_false c3
   have c3b1:decide (a0.size < 1)=false:=decide_eq_false (by omega)
   clear c3
   (first|rw [c3b0]|(simp only [i64_w,i32_w];rw [c3b0])|skip)
   have H':=Aside0.mk H
   clear H
   go_wp2
   go_meet
   case rel=>exact ⟨_,(decide ((a0.size:Int) > 12)),(by first|rfl|(simp;done)|(simp [*];done)),H',⟨by first|omega|exact Nat.le_refl _⟩,by repeat (first|exact Drawn0.refl _|apply Drawn0.step)⟩
 case rest =>
  clear HC2
  try clear c1 p2 c3 c3b0 c3b1
  obtain ⟨kq,x14_1,rfl,HA,HJ1,⟨mc1,rfl⟩⟩:=hcut
  cases kq with
  | zero=>exact absurd HA.out (by simp [spec_TextValid.j0])
  | succ kj1 =>
   have H:=HA.out
   clear HA
   simp only [spec_TextValid.j0] at H
   by_cases c4:x14_1=true
   ·subst c4
    have H1:(some false)=some r:=by rw [if_pos rfl] at H;exact H
    clear H
    have H:=H1
    clear H1
    obtain rfl:=Option.some.inj H
    go_wp2
    go_ret
    exact ⟨by first|rfl|(simp;done)|(simp [*];done),by repeat (first|exact Drawn0.refl _|apply Drawn0.step)⟩
   ·replace c4:=Bool.eq_false_iff.mpr c4
    subst c4
    have H1:(spec_TextValid.l0 kj1 a0 0)=some r:=by rw [if_neg (show ¬ (false=true) by decide)] at H;exact H
    clear H
    have H:=H1
    clear H1
    have H':=Aside0.mk H
    clear H
    go_wp2
    go_loopg [3] kj1 (fun kq v3 w'=>∃ (x3_2:Int),v3=.int .i64 x3_2∧Aside0 (spec_TextValid.l0 kq a0 x3_2=some r)∧Aside0 (kq≤kj1)∧Drawn0 w w')
    case atStart=>exact ⟨(0),(by first|rfl|(simp;done)|(simp [*];done)),H',⟨Nat.le_refl _⟩,by repeat (first|exact Drawn0.refl _|apply Drawn0.step)⟩
    case round =>
     clear H'
     try clear c1 p2 c3 c3b0 c3b1 c4 p2
     obtain ⟨x3_2,rfl,HA,HK2,⟨m2,rfl⟩⟩:=hrel
     cases gk with
     | zero=>exact absurd HA.out (by simp [spec_TextValid.l0])
     | succ k2 =>
      have H:=HA.out
      clear HA
      simp only [spec_TextValid.l0] at H
      by_cases c5:x3_2 < (a0.size:Int)
      ·rw [if_pos c5] at H
       have c5b0:decide (x3_2 < (a0.size:Int))=true:=decide_eq_true c5
       clear c5
       by_cases c6:0≤x3_2
       ·rw [if_pos c6] at H
        have c6b0:decide (0≤x3_2)=true:=decide_eq_true c6
        clear c6
        have HC8:=Aside0.mk H
        clear H
        have p7:0≤(x3_2:Int):=of_decide_eq_true (by first|(with_reducible assumption)|assumption)
        have q7:x3_2 < (a0.size:Int):=of_decide_eq_true (by first|(with_reducible assumption)|assumption)
        have hx7:=bt_at a0 x3_2
        replace p7:=eq_true p7
        replace q7:=eq_true q7
        go_upto_region 7 with (fail)
        go_cut [5] (fun v5 wc=>∃ (kq:Nat) (x5_7:Bool),v5=.bool x5_7∧Aside0 (spec_TextValid.j2 kq a0 x3_2 (bt a0 x3_2) x5_7=some r)∧Aside0 (kq≤k2)∧Drawn0 w wc)
        case first =>
         have H:=HC8.out
         clear HC8
         by_cases c9:(bt a0 x3_2) ≥ 97
         ·rw [if_pos c9] at H
          have c9b0:decide (97≤(bt a0 x3_2))=true:=decide_eq_true c9
          clear c9
          (first|rw [c9b0]|(simp only [i64_w,i32_w];rw [c9b0])|skip)
          by_cases c10:(bt a0 x3_2)≤122
          ·rw [if_pos c10] at H
           have c10b0:decide ((bt a0 x3_2)≤122)=true:=decide_eq_true c10
           clear c10
           have H':=Aside0.mk H
           clear H
           go_wp2
           go_meet
           case rel=>exact ⟨_,(true),(by first|rfl|(simp;done)|(simp [*];done)),H',⟨by have:=HJ1.out;have:=HK2.out;first|omega|exact Nat.le_refl _⟩,by repeat (first|exact Drawn0.refl _|apply Drawn0.step)⟩
          ·rw [if_neg c10] at H
           have c10b0:decide ((bt a0 x3_2)≤122)=false:=decide_eq_false c10
           clear c10
           by_cases c11:(bt a0 x3_2) ≥ 48
           ·rw [if_pos c11] at H
            have c11b0:decide (48≤(bt a0 x3_2))=true:=decide_eq_true c11
            clear c11
            have H':=Aside0.mk H
            clear H
            go_wp2
            go_meet
            case rel=>exact ⟨_,(decide ((bt a0 x3_2)≤57)),(by first|rfl|(simp;done)|(simp [*];done)),H',⟨by have:=HJ1.out;have:=HK2.out;first|omega|exact Nat.le_refl _⟩,by repeat (first|exact Drawn0.refl _|apply Drawn0.step)⟩
           ·rw [if_neg c11] at H
            have c11b0:decide (48≤(bt a0 x3_2))=false:=decide_eq_false c11
            clear c11
            have H':=Aside0.mk H
            clear H
            go_wp2
            go_meet
            case rel=>exact ⟨_,(false),(by first|rfl|(simp;done)|(simp [*];done)),H',⟨by have:=HJ1.out;have:=HK2.out;first|omega|exact Nat.le_refl _⟩,by repeat (first|exact Drawn0.refl _|apply Drawn0.step)⟩
         ·rw [if_neg c9] at H
          have c9b0:decide (97≤(bt a0 x3_2))=false:=decide_eq_false c9
          clear c9
          (first|rw [c9b0]|(simp only [i64_w,i32_w];rw [c9b0])|skip)
          by_cases c12:(bt a0 x3_2) ≥ 48
          ·rw [if_pos c12] at H
           have c12b0:decide (48≤(bt a0 x3_2))=true:=decide_eq_true c12
           clear c12
           have H':=Aside0.mk H
           clear H
           go_wp2
           go_meet
           case rel=>exact ⟨_,(decide ((bt a0 x3_2)≤57)),(by first|rfl|(simp;done)|(simp [*];done)),H',⟨by have:=HJ1.out;have:=HK2.out;first|omega|exact Nat.le_refl _⟩,by repeat (first|exact Drawn0.refl _|apply Drawn0.step)⟩
          ·rw [if_neg c12] at H
           have c12b0:decide (48≤(bt a0 x3_2))=false:=decide_eq_false c12
           clear c12
           have H':=Aside0.mk H
           clear H
           go_wp2
           go_meet
           case rel=>exact ⟨_,(false),(by first|rfl|(simp;done)|(simp [*];done)),H',⟨by have:=HJ1.out;have:=HK2.out;first|omega|exact Nat.le_refl _⟩,by repeat (first|exact Drawn0.refl _|apply Drawn0.step)⟩
        case rest =>
         clear HC8
         try clear c1 p2 c3 c3b0 c3b1 c4 c5 c5b0 c6 c6b0 p7 q7 hx7 c9 c9b0 c10 c10b0 c11 c11b0 c12 c12b0 p2 p7 q7
         obtain ⟨kq,x5_7,rfl,HA,HJ7,⟨mc7,rfl⟩⟩:=hcut
         cases kq with
         | zero=>exact absurd HA.out (by simp [spec_TextValid.j2])
         | succ kj7 =>
          have H:=HA.out
          clear HA
          simp only [spec_TextValid.j2] at H
          have HC13:=Aside0.mk H
          clear H
          go_upto_region 8 with (fail)
          go_cut [6] (fun v6 wc=>∃ (kq:Nat) (x6_12:Bool),v6=.bool x6_12∧Aside0 (spec_TextValid.j3 kq a0 x3_2 x5_7 x6_12=some r)∧Aside0 (kq≤kj7)∧Drawn0 w wc)
          case first =>
           have H:=HC13.out
           clear HC13
           by_cases c14:(bt a0 x3_2)=44
           ·rw [if_pos c14] at H
            have c14b0:((bt a0 x3_2) == 44)=true:=beq_iff_eq.mpr c14
            have c14b1:((bt a0 x3_2) != 44)=false:=bne_eq_false_iff_eq.mpr c14
            clear c14
            (first|rw [c14b0]|(simp only [i64_w,i32_w];rw [c14b0])|skip)
            have H':=Aside0.mk H
            clear H
            go_wp2
            go_meet
            case rel=>exact ⟨_,(true),(by first|rfl|(simp;done)|(simp [*];done)),H',⟨by have:=HJ1.out;have:=HK2.out;have:=HJ7.out;first|omega|exact Nat.le_refl _⟩,by repeat (first|exact Drawn0.refl _|apply Drawn0.step)⟩
           ·rw [if_neg c14] at H
            have c14b0:((bt a0 x3_2) == 44)=false:=beq_eq_false_iff_ne.mpr c14
            have c14b1:((bt a0 x3_2) != 44)=true:=bne_iff_ne.mpr c14
            (first|rw [c14b0]|(simp only [i64_w,i32_w];rw [c14b0])|skip)
            by_cases c15:(bt a0 x3_2)=58
            ·rw [if_pos c15] at H
             have c15b0:((bt a0 x3_2) == 58)=true:=beq_iff_eq.mpr c15
             have c15b1:((bt a0 x3_2) != 58)=false:=bne_eq_false_iff_eq.mpr c15
             clear c15
             have H':=Aside0.mk H
             clear H
             go_wp2
             go_meet
             case rel=>exact ⟨_,(true),(by first|rfl|(simp;done)|(simp [*];done)),H',⟨by have:=HJ1.out;have:=HK2.out;have:=HJ7.out;first|omega|exact Nat.le_refl _⟩,by repeat (first|exact Drawn0.refl _|apply Drawn0.step)⟩
            ·rw [if_neg c15] at H
             have c15b0:((bt a0 x3_2) == 58)=false:=beq_eq_false_iff_ne.mpr c15
             have c15b1:((bt a0 x3_2) != 58)=true:=bne_iff_ne.mpr c15
             by_cases c16:(bt a0 x3_2)=61
             ·rw [if_pos c16] at H
              have c16b0:((bt a0 x3_2) == 61)=true:=beq_iff_eq.mpr c16
              have c16b1:((bt a0 x3_2) != 61)=false:=bne_eq_false_iff_eq.mpr c16
              clear c16
              have H':=Aside0.mk H
              clear H
              go_wp2
              go_meet
              case rel=>exact ⟨_,(true),(by first|rfl|(simp;done)|(simp [*];done)),H',⟨by have:=HJ1.out;have:=HK2.out;have:=HJ7.out;first|omega|exact Nat.le_refl _⟩,by repeat (first|exact Drawn0.refl _|apply Drawn0.step)⟩
             ·rw [if_neg c16] at H
              have c16b0:((bt a0 x3_2) == 61)=false:=beq_eq_false_iff_ne.mpr c16
              have c16b1:((bt a0 x3_2) != 61)=true:=bne_iff_ne.mpr c16
              by_cases c17:(bt a0 x3_2)=123
              ·rw [if_pos c17] at H
               have c17b0:((bt a0 x3_2) == 123)=true:=beq_iff_eq.mpr c17
               have c17b1:((bt a0 x3_2) != 123)=false:=bne_eq_false_iff_eq.mpr c17
               clear c17
               have H':=Aside0.mk H
               clear H
               go_wp2
               go_meet
               case rel=>exact ⟨_,(true),(by first|rfl|(simp;done)|(simp [*];done)),H',⟨by have:=HJ1.out;have:=HK2.out;have:=HJ7.out;first|omega|exact Nat.le_refl _⟩,by repeat (first|exact Drawn0.refl _|apply Drawn0.step)⟩
              ·rw [if_neg c17] at H
               have c17b0:((bt a0 x3_2) == 123)=false:=beq_eq_false_iff_ne.mpr c17
               have c17b1:((bt a0 x3_2) != 123)=true:=bne_iff_ne.mpr c17
               by_cases c18:(bt a0 x3_2)=125
               ·rw [if_pos c18] at H
                have c18b0:((bt a0 x3_2) == 125)=true:=beq_iff_eq.mpr c18
                have c18b1:((bt a0 x3_2) != 125)=false:=bne_eq_false_iff_eq.mpr c18
                clear c18
                have H':=Aside0.mk H
                clear H
                go_wp2
                go_meet
                case rel=>exact ⟨_,(true),(by first|rfl|(simp;done)|(simp [*];done)),H',⟨by have:=HJ1.out;have:=HK2.out;have:=HJ7.out;first|omega|exact Nat.le_refl _⟩,by repeat (first|exact Drawn0.refl _|apply Drawn0.step)⟩
               ·rw [if_neg c18] at H
                have c18b0:((bt a0 x3_2) == 125)=false:=beq_eq_false_iff_ne.mpr c18
                have c18b1:((bt a0 x3_2) != 125)=true:=bne_iff_ne.mpr c18
                by_cases c19:(bt a0 x3_2)=40
                ·rw [if_pos c19] at H
                 have c19b0:((bt a0 x3_2) == 40)=true:=beq_iff_eq.mpr c19
                 have c19b1:((bt a0 x3_2) != 40)=false:=bne_eq_false_iff_eq.mpr c19
                 clear c19
                 have H':=Aside0.mk H
                 clear H
                 go_wp2
                 go_meet
                 case rel=>exact ⟨_,(true),(by first|rfl|(simp;done)|(simp [*];done)),H',⟨by have:=HJ1.out;have:=HK2.out;have:=HJ7.out;first|omega|exact Nat.le_refl _⟩,by repeat (first|exact Drawn0.refl _|apply Drawn0.step)⟩
                ·rw [if_neg c19] at H
                 have c19b0:((bt a0 x3_2) == 40)=false:=beq_eq_false_iff_ne.mpr c19
                 have c19b1:((bt a0 x3_2) != 40)=true:=bne_iff_ne.mpr c19
                 by_cases c20:(bt a0 x3_2)=41
                 ·rw [if_pos c20] at H
                  have c20b0:((bt a0 x3_2) == 41)=true:=beq_iff_eq.mpr c20
                  have c20b1:((bt a0 x3_2) != 41)=false:=bne_eq_false_iff_eq.mpr c20
                  clear c20
                  have H':=Aside0.mk H
                  clear H
                  go_wp2
                  go_meet
                  case rel=>exact ⟨_,(true),(by first|rfl|(simp;done)|(simp [*];done)),H',⟨by have:=HJ1.out;have:=HK2.out;have:=HJ7.out;first|omega|exact Nat.le_refl _⟩,by repeat (first|exact Drawn0.refl _|apply Drawn0.step)⟩
                 ·rw [if_neg c20] at H
                  have c20b0:((bt a0 x3_2) == 41)=false:=beq_eq_false_iff_ne.mpr c20
                  have c20b1:((bt a0 x3_2) != 41)=true:=bne_iff_ne.mpr c20
                  by_cases c21:(bt a0 x3_2)=91
                  ·rw [if_pos c21] at H
                   have c21b0:((bt a0 x3_2) == 91)=true:=beq_iff_eq.mpr c21
                   have c21b1:((bt a0 x3_2) != 91)=false:=bne_eq_false_iff_eq.mpr c21
                   clear c21
                   have H':=Aside0.mk H
                   clear H
                   go_wp2
                   go_meet
                   case rel=>exact ⟨_,(true),(by first|rfl|(simp;done)|(simp [*];done)),H',⟨by have:=HJ1.out;have:=HK2.out;have:=HJ7.out;first|omega|exact Nat.le_refl _⟩,by repeat (first|exact Drawn0.refl _|apply Drawn0.step)⟩
                  ·rw [if_neg c21] at H
                   have c21b0:((bt a0 x3_2) == 91)=false:=beq_eq_false_iff_ne.mpr c21
                   have c21b1:((bt a0 x3_2) != 91)=true:=bne_iff_ne.mpr c21
                   have H':=Aside0.mk H
                   clear H
                   go_wp2
                   go_meet
                   case rel=>exact ⟨_,(((bt a0 x3_2) == 93)),(by first|rfl|(simp;done)|(simp [*];done)),H',⟨by have:=HJ1.out;have:=HK2.out;have:=HJ7.out;first|omega|exact Nat.le_refl _⟩,by repeat (first|exact Drawn0.refl _|apply Drawn0.step)⟩
          case rest =>
           clear HC13
           try clear c1 c2 p2 c3 c3b0 c3b1 c4 c5 c5b0 c6 c6b0 c7 p7 q7 hx7 c9 c9b0 c10 c10b0 c11 c11b0 c12 c12b0 c14 c14b0 c14b1 c15 c15b0 c15b1 c16 c16b0 c16b1 c17 c17b0 c17b1 c18 c18b0 c18b1 c19 c19b0 c19b1 c20 c20b0 c20b1 c21 c21b0 c21b1 p2 p7 q7
           obtain ⟨kq,x6_12,rfl,HA,HJ12,⟨mc12,rfl⟩⟩:=hcut
           cases kq with
           | zero=>exact absurd HA.out (by simp [spec_TextValid.j3])
           | succ kj12 =>
            have H:=HA.out
            clear HA
            simp only [spec_TextValid.j3] at H
            by_cases c22:x5_7=true
            ·subst c22
             have H1:(spec_TextValid.l0 kj12 a0 (wrap64 (x3_2+1)))=some r:=by rw [if_pos rfl] at H;exact H
             clear H
             have H:=H1
             clear H1
             have H':=Aside0.mk H
             clear H
             go_wp2
             go_roundg kj12
             case measure=>have:=HJ1.out;have:=HK2.out;have:=HJ7.out;have:=HJ12.out;omega
             case rel=>exact ⟨(wrap64 (x3_2+1)),(by first|rfl|(simp;done)|(simp [*];done)),H',⟨by have:=HJ1.out;have:=HK2.out;have:=HJ7.out;have:=HJ12.out;omega⟩,by repeat (first|exact Drawn0.refl _|apply Drawn0.step)⟩
            ·replace c22:=Bool.eq_false_iff.mpr c22
             subst c22
             have H1:(if x6_12=true then (spec_TextValid.l0 kj12 a0 (wrap64 (x3_2+1))) else (some false))=some r:=by rw [if_neg (show ¬ (false=true) by decide)] at H;exact H
             clear H
             have H:=H1
             clear H1
             by_cases c23:x6_12=true
             ·subst c23
              have H1:(spec_TextValid.l0 kj12 a0 (wrap64 (x3_2+1)))=some r:=by rw [if_pos rfl] at H;exact H
              clear H
              have H:=H1
              clear H1
              have H':=Aside0.mk H
              clear H
              go_wp2
              go_roundg kj12
              case measure=>have:=HJ1.out;have:=HK2.out;have:=HJ7.out;have:=HJ12.out;omega
              case rel=>exact ⟨(wrap64 (x3_2+1)),(by first|rfl|(simp;done)|(simp [*];done)),H',⟨by have:=HJ1.out;have:=HK2.out;have:=HJ7.out;have:=HJ12.out;omega⟩,by repeat (first|exact Drawn0.refl _|apply Drawn0.step)⟩
             ·replace c23:=Bool.eq_false_iff.mpr c23
              subst c23
              have H1:(some false)=some r:=by rw [if_neg (show ¬ (false=true) by decide)] at H;exact H
              clear H
              have H:=H1
              clear H1
              obtain rfl:=Option.some.inj H
              go_wp2
              go_ret
              exact ⟨by first|rfl|(simp;done)|(simp [*];done),by repeat (first|exact Drawn0.refl _|apply Drawn0.step)⟩
       ·rw [if_neg c6] at H
        exact absurd H (by simp)
      ·rw [if_neg c5] at H
       have c5b0:decide (x3_2 < (a0.size:Int))=false:=decide_eq_false c5
       clear c5
       obtain rfl:=Option.some.inj H
       go_wp2
       go_ret
       exact ⟨by first|rfl|(simp;done)|(simp [*];done),by repeat (first|exact Drawn0.refl _|apply Drawn0.step)⟩
end Go.Proofs.Ytdhdfmmefghijaa.P
namespace Go.Proofs.Ytdhdfmmefghijaa.P
open Go.RowKit Go.Proofs.YtdhdfmmefghijaaW.PrintWords Go.Proofs.YtdhdfmmefghijaaW.PrintLast Go.Proofs.YtdhdfmmefghijaaW.PrintMore
attribute [local go_sem] max2_int min2_int max_two min_two max_three min_three max_four min_four
set_option linter.unusedVariables false
set_option linter.unusedSimpArgs false
def laws_FnTextValid.f (k:Nat) (l0:List Int):Option (Bool):=if (l0.length:Int) > 1048576 then (some true) else ((spec_DrawTextValid.f k l0).bind fun t197=>((impl_TextValid.f k t197).bind fun t198=>(if 1+t197.size≤9223372036854775807 then (if ((⟨#[34]⟩:ByteArray)++t197).size+1≤9223372036854775807 then ((impl_ParseDoc.f k (((⟨#[34]⟩:ByteArray)++t197)++(⟨#[34]⟩:ByteArray))).bind fun bt199=>((spec_TextValid.f k t197).bind fun t207=>(if (t198 == t207)=true then (if (bt199.2.2.2.2 == t198)=true then (if t198=true then (if bt199.1=2 then (some (bt199.2.2.1.toList == t197.toList)) else (none)) else (some true)) else (none)) else (none)))) else (none)) else (none))))
set_option maxHeartbeats 8000000 in
set_option maxRecDepth 100000 in
theorem laws_FnTextValid.calls (k:Nat) (A0:Option Addr) (c0:Nat) (l0:List Int) (r:Bool) (w:World) (hr0:Kd.C (Kd.int .u8) w A0 l0.length l0) (hc0:l0.length≤c0) (h:laws_FnTextValid.f k l0=some r) :
  Calls Try.prog 3 #[.slice A0 l0.length c0] w fun e w'=>e=.returned (.bool r)∧Below w.heap.size w w':=by
 have hu27:=Try.underlying27
 have HR0:=Aside0.mk hr0
 have HC0:=Aside0.mk hc0
 clear hr0 hc0
 have HB:=Aside0.mk (Below.refl w.heap.size w)
 have H:(if (l0.length:Int) > 1048576 then (some true) else ((spec_DrawTextValid.f k l0).bind fun t197=>((impl_TextValid.f k t197).bind fun t198=>(if 1+t197.size≤9223372036854775807 then (if ((⟨#[34]⟩:ByteArray)++t197).size+1≤9223372036854775807 then ((impl_ParseDoc.f k (((⟨#[34]⟩:ByteArray)++t197)++(⟨#[34]⟩:ByteArray))).bind fun bt199=>((spec_TextValid.f k t197).bind fun t207=>(if (t198 == t207)=true then (if (bt199.2.2.2.2 == t198)=true then (if t198=true then (if bt199.1=2 then (some (bt199.2.2.1.toList == t197.toList)) else (none)) else (some true)) else (none)) else (none)))) else (none)) else (none)))))=some r:=h
 clear h
 by_cases c2:(l0.length:Int) > 1048576
 ·rw [if_pos c2] at H
  have c2b0:decide (1048576 < (l0.length:Int))=true:=decide_eq_true c2
  have c2b1:decide (1048576 < l0.length)=true:=decide_eq_true (by omega)
  clear c2
  obtain rfl:=Option.some.inj H
  go_enter Try.func3,Try.ntmps3
  go_wp2
  go_ret
  exact ⟨by first|rfl|(simp [errW_none,errW_some] <;> rfl)|(simp [*,errW_none,errW_some] <;> rfl),gB HB⟩
 ·rw [if_neg c2] at H
  have c2b0:decide (1048576 < (l0.length:Int))=false:=decide_eq_false c2
  have c2b1:decide (1048576 < l0.length)=false:=decide_eq_false (by omega)
  clear c2
  replace H:=Option.bind_eq_some_iff.mp H
  obtain ⟨t197,A30,H⟩:=H
  replace H:((impl_TextValid.f k t197).bind fun t198=>(if 1+t197.size≤9223372036854775807 then (if ((⟨#[34]⟩:ByteArray)++t197).size+1≤9223372036854775807 then ((impl_ParseDoc.f k (((⟨#[34]⟩:ByteArray)++t197)++(⟨#[34]⟩:ByteArray))).bind fun bt199=>((spec_TextValid.f k t197).bind fun t207=>(if (t198 == t207)=true then (if (bt199.2.2.2.2 == t198)=true then (if t198=true then (if bt199.1=2 then (some (bt199.2.2.1.toList == t197.toList)) else (none)) else (some true)) else (none)) else (none)))) else (none)) else (none)))=some r:=H
  have A3:=Aside0.mk A30
  clear A30
  replace H:=Option.bind_eq_some_iff.mp H
  obtain ⟨t198,A40,H⟩:=H
  replace H:(if 1+t197.size≤9223372036854775807 then (if ((⟨#[34]⟩:ByteArray)++t197).size+1≤9223372036854775807 then ((impl_ParseDoc.f k (((⟨#[34]⟩:ByteArray)++t197)++(⟨#[34]⟩:ByteArray))).bind fun bt199=>((spec_TextValid.f k t197).bind fun t207=>(if (t198 == t207)=true then (if (bt199.2.2.2.2 == t198)=true then (if t198=true then (if bt199.1=2 then (some (bt199.2.2.1.toList == t197.toList)) else (none)) else (some true)) else (none)) else (none)))) else (none)) else (none))=some r:=H
  have A4:=Aside0.mk A40
  clear A40
  by_cases c5:1+t197.size≤9223372036854775807
  ·rw [if_pos c5] at H
   have c5b0:=eq_true c5
   have c5b1:decide (1+t197.size≤9223372036854775807)=true:=decide_eq_true c5
   try have c5b2:(9223372036854775807 < 1+t197.size)=False:=eq_false (Nat.not_lt.2 c5)
   by_cases c6:((⟨#[34]⟩:ByteArray)++t197).size+1≤9223372036854775807
   ·rw [if_pos c6] at H
    have c6b0:=eq_true c6
    have c6b1:decide (((⟨#[34]⟩:ByteArray)++t197).size+1≤9223372036854775807)=true:=decide_eq_true c6
    try (have c6b4:=c6;(conv at c6b4=>(lhs;simp));have c6b5:=eq_false (Nat.not_lt.2 c6b4))
    try (have c6b6:=c6;(conv at c6b6=>(lhs;simp [go_sem]));have c6b7:=eq_false (Nat.not_lt.2 c6b6))
    try have c6b2:(9223372036854775807 < ((⟨#[34]⟩:ByteArray)++t197).size+1)=False:=eq_false (Nat.not_lt.2 c6)
    replace H:=Option.bind_eq_some_iff.mp H
    obtain ⟨⟨t199,t200,t201,t202,t205⟩,A70,H⟩:=H
    replace H:((spec_TextValid.f k t197).bind fun t207=>(if (t198 == t207)=true then (if (t205 == t198)=true then (if t198=true then (if t199=2 then (some (t201.toList == t197.toList)) else (none)) else (some true)) else (none)) else (none)))=some r:=H
    have A7:=Aside0.mk A70
    clear A70
    replace H:=Option.bind_eq_some_iff.mp H
    obtain ⟨t207,A80,H⟩:=H
    replace H:(if (t198 == t207)=true then (if (t205 == t198)=true then (if t198=true then (if t199=2 then (some (t201.toList == t197.toList)) else (none)) else (some true)) else (none)) else (none))=some r:=H
    have A8:=Aside0.mk A80
    clear A80
    by_cases c9:(t198 == t207)=true
    ·rw [if_pos c9] at H
     have c9b0:(t198 == t207)=true:=c9
     (try (have c9b1:decide (t198=t207)=true:=by simpa using c9))
     (try (have c9b2:(t198 == t207)=true:=by simpa using c9))
     clear c9
     by_cases c10:(t205 == t198)=true
     ·rw [if_pos c10] at H
      have c10b0:(t205 == t198)=true:=c10
      (try (have c10b1:decide (t205=t198)=true:=by simpa using c10))
      (try (have c10b2:(t205 == t198)=true:=by simpa using c10))
      clear c10
      by_cases c11:t198=true
      ·subst c11
       have H1:(if t199=2 then (some (t201.toList == t197.toList)) else (none))=some r:=by rw [if_pos rfl] at H;exact H
       clear H
       have H:=H1
       clear H1
       by_cases c12:t199=2
       ·rw [if_pos c12] at H
        have c12b0:(t199 == 2)=true:=beq_iff_eq.mpr c12
        have c12b1:(t199 != 2)=false:=bne_eq_false_iff_eq.mpr c12
        clear c12
        obtain rfl:=Option.some.inj H
        go_enter Try.func3,Try.ntmps3
        go_wp2_with (first|((with_reducible refine gate_callee (f:=15) rfl ?_);refine goesL_ (some 11) rfl rfl Try.func15 (by kernel_rfl) rfl #[.slice A0 l0.length c0] rfl (by (try simp only [List.map_toArray,List.map_cons,List.map_nil]);first|done|rfl|(simp only [List.length_drop,List.length_take];rfl)) ?_;(with_reducible refine (spec_DrawTextValid.calls k _ _ l0 t197 _ ?side1 ?side2 A3.out).mono ?_);(case side1=>repeat (first|exact HR0.out|(with_reducible refine Kd.C_alloc ?_ _)|(with_reducible refine Kd.C_drewN ?_ _)|(with_reducible refine Kd.C_drew ?_)));(case side2=>exact HC0.out);rintro e w13 ⟨rfl,hb⟩;refine ⟨_,rfl,?_⟩;have n0_:=Aside0.mk (below_step (gB HB) hb);clear HB;have HB:=n0_;clear n0_;(try clear hb);(try clear hb2);(try clear hk);(try clear hi))|((with_reducible refine gate_callee (f:=16) rfl ?_);refine goesL_ (some 13) rfl rfl Try.func16 (by kernel_rfl) rfl #[.string t197] rfl (by (try simp only [List.map_toArray,List.map_cons,List.map_nil]);first|done|rfl|(simp only [List.length_drop,List.length_take];rfl)) ?_;(with_reducible refine (impl_TextValid.calls k t197 true _ A4.out).mono ?_);rintro e w' ⟨rfl,⟨nd,rfl⟩⟩;refine ⟨_,rfl,?_⟩;(try (rw [drewN_self w13];generalize hq_:World.drewN w13 _=w13;have n0_:Aside0 (Below w.heap.size w w13):=⟨by rw [← hq_];exact (gB HB)⟩;clear HB hq_;have HB:=n0_;clear n0_)))|((with_reducible refine gate_callee (f:=17) rfl ?_);refine goesL_ (some 18) rfl rfl Try.func17 (by kernel_rfl) rfl #[.string (((⟨#[34]⟩:ByteArray)++t197)++(⟨#[34]⟩:ByteArray))] rfl (by (try simp only [List.map_toArray,List.map_cons,List.map_nil]);first|done|rfl|(simp only [List.length_drop,List.length_take];rfl)) ?_;(with_reducible refine (impl_ParseDoc.calls k (((⟨#[34]⟩:ByteArray)++t197)++(⟨#[34]⟩:ByteArray)) t199 t200 t201 t202 t205 _ A7.out).mono ?_);rintro e w14 ⟨v203,rfl,ho0,hb⟩;refine ⟨_,rfl,?_⟩;have n0_:=Aside0.mk (Kd.R_lower ho0 (below_size (gB HB)));have n1_:=Aside0.mk (below_step (gB HB) hb);clear HB;have HO204:=n0_;have HB:=n1_;clear n0_ n1_;(try clear hb);(try clear hb2);(try clear hk);(try clear hi);(try clear ho0))|((with_reducible refine gate_dst (N:=5) rfl ?_);refine box_event ?hg (N:=5) ?hd (cs:=#[.int .i64 0,.int .i64 0,.string (⟨#[]⟩:ByteArray),.slice none 0 0]) (t:=27) ?hr ?_;(case hd=>rfl);(case hg=>rfl);(case hr=>first|(go_simp;done)|(go_simp;rfl));intro gb206 hg w15 hbox hb;have n0_:=Aside0.mk (Kd.R_below (Kd.R_elderB (gR HO204) gb206 (Nat.le_of_eq hg.symm)) hb);have n1_:=Aside0.mk (below_step (gB HB) hb);have n2_:=Aside0.mk (hbox);have n3_:=Aside0.mk ((by rw [hg];exact (below_size (gB HB)):w.heap.size≤gb206));have n4_:=Aside0.mk ((by rw [hg];exact (below_size (gB HB)):w.heap.size≤gb206));clear HO204;clear HB;have HO204:=n0_;have HB:=n1_;have BK206:=n2_;have GW206:=n3_;have GE206:=n4_;clear n0_ n1_ n2_ n3_ n4_;clear hb hbox hg;have hcz16_0:w15.cell? ⟨gb206,0,none⟩=some (.int .i64 0):=(blk_cell BK206.out 0).trans rfl;have hcz16_1:w15.cell? ⟨gb206,1,none⟩=some (.int .i64 0):=(blk_cell BK206.out 1).trans rfl;have hcz16_2:w15.cell? ⟨gb206,2,none⟩=some (.string (⟨#[]⟩:ByteArray)):=(blk_cell BK206.out 2).trans rfl;have hcz16_3:w15.cell? ⟨gb206,3,none⟩=some (.slice none 0 0):=(blk_cell BK206.out 3).trans rfl;have hfz16_0:=blk_frozen BK206.out 0;have hfz16_1:=blk_frozen BK206.out 1;have hfz16_2:=blk_frozen BK206.out 2;have hfz16_3:=blk_frozen BK206.out 3;obtain ⟨Ao17,co17,eo17⟩:=Kd.R_slice HO204.out;subst eo17)|((with_reducible refine gate_callee (f:=18) rfl ?_);refine goesL_ (some 23) rfl rfl Try.func18 (by kernel_rfl) rfl #[.string t197] rfl (by (try simp only [List.map_toArray,List.map_cons,List.map_nil]);first|done|rfl|(simp only [List.length_drop,List.length_take];rfl)) ?_;(with_reducible refine (spec_TextValid.calls k t197 t207 _ A8.out).mono ?_);rintro e w' ⟨rfl,⟨nd,rfl⟩⟩;refine ⟨_,rfl,?_⟩))
        go_ret
        exact ⟨by first|rfl|(simp [errW_none,errW_some] <;> rfl)|(simp [*,errW_none,errW_some] <;> rfl),by repeat (first|(with_reducible first|exact HB.out|apply below_alloc|apply pw_below_drewN|apply below_drew1|refine below_set ?_ GE206.out)|exact HB.out)⟩
       ·rw [if_neg c12] at H
        exact absurd H (by simp)
      ·replace c11:=Bool.eq_false_iff.mpr c11
       subst c11
       have H1:(some true)=some r:=by rw [if_neg (show ¬ (false=true) by decide)] at H;exact H
       clear H
       have H:=H1
       clear H1
       obtain rfl:=Option.some.inj H
       go_enter Try.func3,Try.ntmps3
       go_wp2_with (first|((with_reducible refine gate_callee (f:=15) rfl ?_);refine goesL_ (some 11) rfl rfl Try.func15 (by kernel_rfl) rfl #[.slice A0 l0.length c0] rfl (by (try simp only [List.map_toArray,List.map_cons,List.map_nil]);first|done|rfl|(simp only [List.length_drop,List.length_take];rfl)) ?_;(with_reducible refine (spec_DrawTextValid.calls k _ _ l0 t197 _ ?side1 ?side2 A3.out).mono ?_);(case side1=>repeat (first|exact HR0.out|(with_reducible refine Kd.C_alloc ?_ _)|(with_reducible refine Kd.C_drewN ?_ _)|(with_reducible refine Kd.C_drew ?_)));(case side2=>exact HC0.out);rintro e w18 ⟨rfl,hb⟩;refine ⟨_,rfl,?_⟩;have n0_:=Aside0.mk (below_step (gB HB) hb);clear HB;have HB:=n0_;clear n0_;(try clear hb);(try clear hb2);(try clear hk);(try clear hi))|((with_reducible refine gate_callee (f:=16) rfl ?_);refine goesL_ (some 13) rfl rfl Try.func16 (by kernel_rfl) rfl #[.string t197] rfl (by (try simp only [List.map_toArray,List.map_cons,List.map_nil]);first|done|rfl|(simp only [List.length_drop,List.length_take];rfl)) ?_;(with_reducible refine (impl_TextValid.calls k t197 false _ A4.out).mono ?_);rintro e w' ⟨rfl,⟨nd,rfl⟩⟩;refine ⟨_,rfl,?_⟩;(try (rw [drewN_self w18];generalize hq_:World.drewN w18 _=w18;have n0_:Aside0 (Below w.heap.size w w18):=⟨by rw [← hq_];exact (gB HB)⟩;clear HB hq_;have HB:=n0_;clear n0_)))|((with_reducible refine gate_callee (f:=17) rfl ?_);refine goesL_ (some 18) rfl rfl Try.func17 (by kernel_rfl) rfl #[.string (((⟨#[34]⟩:ByteArray)++t197)++(⟨#[34]⟩:ByteArray))] rfl (by (try simp only [List.map_toArray,List.map_cons,List.map_nil]);first|done|rfl|(simp only [List.length_drop,List.length_take];rfl)) ?_;(with_reducible refine (impl_ParseDoc.calls k (((⟨#[34]⟩:ByteArray)++t197)++(⟨#[34]⟩:ByteArray)) t199 t200 t201 t202 t205 _ A7.out).mono ?_);rintro e w19 ⟨v203,rfl,ho0,hb⟩;refine ⟨_,rfl,?_⟩;have n0_:=Aside0.mk (Kd.R_lower ho0 (below_size (gB HB)));have n1_:=Aside0.mk (below_step (gB HB) hb);clear HB;have HO204:=n0_;have HB:=n1_;clear n0_ n1_;(try clear hb);(try clear hb2);(try clear hk);(try clear hi);(try clear ho0))|((with_reducible refine gate_dst (N:=5) rfl ?_);refine box_event ?hg (N:=5) ?hd (cs:=#[.int .i64 0,.int .i64 0,.string (⟨#[]⟩:ByteArray),.slice none 0 0]) (t:=27) ?hr ?_;(case hd=>rfl);(case hg=>rfl);(case hr=>first|(go_simp;done)|(go_simp;rfl));intro gb206 hg w20 hbox hb;have n0_:=Aside0.mk (Kd.R_below (Kd.R_elderB (gR HO204) gb206 (Nat.le_of_eq hg.symm)) hb);have n1_:=Aside0.mk (below_step (gB HB) hb);have n2_:=Aside0.mk (hbox);have n3_:=Aside0.mk ((by rw [hg];exact (below_size (gB HB)):w.heap.size≤gb206));have n4_:=Aside0.mk ((by rw [hg];exact (below_size (gB HB)):w.heap.size≤gb206));clear HO204;clear HB;have HO204:=n0_;have HB:=n1_;have BK206:=n2_;have GW206:=n3_;have GE206:=n4_;clear n0_ n1_ n2_ n3_ n4_;clear hb hbox hg;have hcz21_0:w20.cell? ⟨gb206,0,none⟩=some (.int .i64 0):=(blk_cell BK206.out 0).trans rfl;have hcz21_1:w20.cell? ⟨gb206,1,none⟩=some (.int .i64 0):=(blk_cell BK206.out 1).trans rfl;have hcz21_2:w20.cell? ⟨gb206,2,none⟩=some (.string (⟨#[]⟩:ByteArray)):=(blk_cell BK206.out 2).trans rfl;have hcz21_3:w20.cell? ⟨gb206,3,none⟩=some (.slice none 0 0):=(blk_cell BK206.out 3).trans rfl;have hfz21_0:=blk_frozen BK206.out 0;have hfz21_1:=blk_frozen BK206.out 1;have hfz21_2:=blk_frozen BK206.out 2;have hfz21_3:=blk_frozen BK206.out 3;obtain ⟨Ao22,co22,eo22⟩:=Kd.R_slice HO204.out;subst eo22)|((with_reducible refine gate_callee (f:=18) rfl ?_);refine goesL_ (some 23) rfl rfl Try.func18 (by kernel_rfl) rfl #[.string t197] rfl (by (try simp only [List.map_toArray,List.map_cons,List.map_nil]);first|done|rfl|(simp only [List.length_drop,List.length_take];rfl)) ?_;(with_reducible refine (spec_TextValid.calls k t197 t207 _ A8.out).mono ?_);rintro e w' ⟨rfl,⟨nd,rfl⟩⟩;refine ⟨_,rfl,?_⟩))
       go_ret
       exact ⟨by first|rfl|(simp [errW_none,errW_some] <;> rfl)|(simp [*,errW_none,errW_some] <;> rfl),by repeat (first|(with_reducible first|exact HB.out|apply below_alloc|apply pw_below_drewN|apply below_drew1|refine below_set ?_ GE206.out)|exact HB.out)⟩
     ·rw [if_neg c10] at H
      exact absurd H (by simp)
    ·rw [if_neg c9] at H
     exact absurd H (by simp)
   ·rw [if_neg c6] at H
    exact absurd H (by simp)
  ·rw [if_neg c5] at H
   exact absurd H (by simp)
def laws_FnTextValid.Pure:Prop:=∀ (l0:List Int),l0.length≤maxLen→l0.length * 1≤140737488351232→(∀ x ∈ l0,(Lit.int .u8 x).wf=true)→∃ k,laws_FnTextValid.f k l0=some true
theorem laws_FnTextValid.walk (P:laws_FnTextValid.Pure) (a0:Option Addr) (len0 cap0:Nat) (z0:List Int) (w:World) (w0:(a0=none∧len0=0∧cap0=0∧z0=[]) ∨ ∃ x,a0=some x∧len0≤cap0∧cap0≤maxLen∧z0.length=cap0∧(∀ i,i < z0.length→w.cell? (x.add i)=some (.int .u8 (z0.getD i 0)))∧∀ n ∈ z0,(Lit.int .u8 n).wf=true) (y0:len0 * 1≤140737488351232) :
  Calls Try.prog 3 #[.slice a0 len0 cap0] w fun e w'=>e=.returned (.bool true)∧Below w.heap.size w w':=by
 obtain ⟨l0,rfl,hr0,hm0,hw0,hc0⟩:=ReadsInt.ofRowC w0
 obtain ⟨k,h⟩:=P l0 hm0 y0 hw0
 refine (laws_FnTextValid.calls k _ _ l0 true w (Kd.C_of_reads (d:=(0:Int)) (h1:=fun _=>rfl) hr0) hc0 h).mono ?_
 rintro e w' ⟨rfl,hd⟩
 exact ⟨rfl,hd⟩
end Go.Proofs.Ytdhdfmmefghijaa.P
namespace Go.Proofs.Ytdhdfmmefghijaa.Pure
open Go.RowKit Go.Proofs.Ytdhdfmmefghijaa.P Go.Proofs.YtdhdfmmefghijaaW.PrintWords Go.Proofs.YtdhdfmmefghijaaW.PrintLast Go.Proofs.YtdhdfmmefghijaaW.PrintMore
set_option linter.unusedVariables false
set_option linter.unusedSimpArgs false
theorem w64 {i:Int} (h0:-9223372036854775808≤i) (h:i≤9223372036854775807):wrap64 i=i:=by unfold wrap64;omega
theorem Ev.iff {α:Type} {c:Prop} [Decidable c] {f g:Nat→Option α} {r:α} (h1:c→Ev f r) (h2:¬ c→Ev g r):Ev (fun k=>if c then f k else g k) r:=by
 by_cases h:c
 ·simp only [if_pos h];exact h1 h
 ·simp only [if_neg h];exact h2 h
theorem SDoc.ind {P:SDoc→Prop} (h:∀ o n t ks,(∀ k,k ∈ ks→P k)→P ⟨o,n,t,ks⟩):∀ d,P d
 | ⟨o,n,t,ks⟩=>h o n t ks (fun k hk=>SDoc.ind h k)
termination_by d=>SizeOf.sizeOf d
decreasing_by
 have:=List.sizeOf_lt_of_mem hk
 simp
 omega
mutual
def dsz:SDoc→Nat
 | ⟨_,_,_,ks⟩=>1+dszL ks
def dszL:List SDoc→Nat
 | []=>0
 | k :: ks=>dsz k+dszL ks
end
theorem dsz_pos (d:SDoc):1≤dsz d:=by obtain ⟨_,_,_,ks⟩:=d;simp [dsz]
theorem rdD (a b:List SDoc) (d:SDoc):rd_TDoc (a++d :: b) (a.length:Int)=d:=by simp [rd_TDoc]
theorem SDoc_eta (d:SDoc):(⟨d.f0,d.f1,d.f2,d.f3⟩:SDoc)=d:=by cases d;rfl
end Go.Proofs.Ytdhdfmmefghijaa.Pure
namespace Go.Proofs.Ytdhdfmmefghijaa.Pure
open Go.RowKit Go.Proofs.Ytdhdfmmefghijaa.P Go.Proofs.YtdhdfmmefghijaaW.PrintWords Go.Proofs.YtdhdfmmefghijaaW.PrintLast Go.Proofs.YtdhdfmmefghijaaW.PrintMore
set_option linter.unusedVariables false
set_option linter.unusedSimpArgs false
theorem big_or {l:List Int} {f:Nat→Option Bool} (h:Ev f true):Ev (fun k=>if (l.length:Int) > 1048576 then (some true) else f k) true:=Ev.iff (fun _=>Ev.now _) (fun _=>h)
end Go.Proofs.Ytdhdfmmefghijaa.Pure
namespace Go.Proofs.Ytdhdfmmefghijaa.P
open Go.RowKit Go.Proofs.YtdhdfmmefghijaaW.PrintWords Go.Proofs.YtdhdfmmefghijaaW.PrintLast Go.Proofs.YtdhdfmmefghijaaW.PrintMore
attribute [local go_sem] max2_int min2_int max_two min_two max_three min_three max_four min_four
set_option linter.unusedVariables false
set_option linter.unusedSimpArgs false
def spec_l15Rd_num.f (k:Nat) (s0_0:List Int) (s0_1:Int) (l1:List Int):Option (Int × Int):=(spec_l15Rd_pick.f k s0_0 s0_1 (l1.length:Int)).bind fun bt212=>(if 0≤bt212.1 then (if bt212.1 < (l1.length:Int) then (some (rd l1 bt212.1,bt212.2)) else (none)) else (none))
end Go.Proofs.Ytdhdfmmefghijaa.P
namespace Go.Proofs.Ytdhdfmmefghijaa.P
open Go.RowKit Go.Proofs.YtdhdfmmefghijaaW.PrintWords Go.Proofs.YtdhdfmmefghijaaW.PrintLast Go.Proofs.YtdhdfmmefghijaaW.PrintMore
attribute [local go_sem] max2_int min2_int max_two min_two max_three min_three max_four min_four
set_option linter.unusedVariables false
set_option linter.unusedSimpArgs false
mutual
def spec_l1Count.l0:Nat→Int→Int→Int→Int→ByteArray→List (SDoc)→Option (Int)
 | 0,_,_,_,_,_,_=>none
 | k+1,x3,x4,x276000,x276001,x276002,x276003=>if x4 < (x276003.length:Int) then (if 0≤x4 then ((spec_l1Count.f k ((rd_TDoc x276003 x4).f0) ((rd_TDoc x276003 x4).f1) ((rd_TDoc x276003 x4).f2) ((rd_TDoc x276003 x4).f3)).bind fun t277=>(spec_l1Count.l0 k (wrap64 (x3+t277)) (wrap64 (x4+1)) x276000 x276001 x276002 x276003)) else (none)) else (some x3)
def spec_l1Count.f:Nat→Int→Int→ByteArray→List (SDoc)→Option (Int)
 | 0,_,_,_,_=>none
 | k+1,a0_0,a0_1,a0_2,l0_3=>spec_l1Count.l0 k 1 0 a0_0 a0_1 a0_2 l0_3
end
end Go.Proofs.Ytdhdfmmefghijaa.P
namespace Go.Proofs.Ytdhdfmmefghijaa.P
open Go.RowKit Go.Proofs.YtdhdfmmefghijaaW.PrintWords Go.Proofs.YtdhdfmmefghijaaW.PrintLast Go.Proofs.YtdhdfmmefghijaaW.PrintMore
attribute [local go_sem] max2_int min2_int max_two min_two max_three min_three max_four min_four
set_option linter.unusedVariables false
set_option linter.unusedSimpArgs false
mutual
def spec_l1Kids.j0:Nat→Int→Bool→Option (Int)
 | 0,_,_=>none
 | k+1,x3,x4=>if x4=true then (some 0) else (if x3=6 then (spec_l1Kids.j1 k x3 (x3 == 6)) else (spec_l1Kids.j1 k x3 (x3 == 8)))
def spec_l1Kids.j1:Nat→Int→Bool→Option (Int)
 | 0,_,_=>none
 | k+1,x3,x10=>if x10=true then (some 1) else (if x3=7 then (some 2) else (some (-1)))
end
def spec_l1Kids.f (k:Nat) (a0:Int):Option (Int):=if a0=1 then (spec_l1Kids.j0 k a0 (a0 == 1)) else (if a0=2 then (spec_l1Kids.j0 k a0 (a0 == 2)) else (if a0=3 then (spec_l1Kids.j0 k a0 (a0 == 3)) else (if a0=4 then (spec_l1Kids.j0 k a0 (a0 == 4)) else (spec_l1Kids.j0 k a0 (a0 == 5)))))
end Go.Proofs.Ytdhdfmmefghijaa.P
namespace Go.Proofs.Ytdhdfmmefghijaa.P
open Go.RowKit Go.Proofs.YtdhdfmmefghijaaW.PrintWords Go.Proofs.YtdhdfmmefghijaaW.PrintLast Go.Proofs.YtdhdfmmefghijaaW.PrintMore
attribute [local go_sem] max2_int min2_int max_two min_two max_three min_three max_four min_four
set_option linter.unusedVariables false
set_option linter.unusedSimpArgs false
mutual
def spec_l1Is.j0:Nat→Int→Bool→Int→Int→ByteArray→List (SDoc)→Option (Bool)
 | 0,_,_,_,_,_,_=>none
 | k+1,x1,x16,x271000,x271001,x271002,x271003=>if x16=true then (some false) else (if x271000=2 then ((spec_TextValid.f k x271002).bind fun t272=>(if t272=true then (spec_l1Is.j1 k x1 false x271000 x271001 x271002 x271003) else (spec_l1Is.j1 k x1 true x271000 x271001 x271002 x271003))) else (spec_l1Is.j1 k x1 (x271002.toList != ([]:List UInt8)) x271000 x271001 x271002 x271003))
def spec_l1Is.j1:Nat→Int→Bool→Int→Int→ByteArray→List (SDoc)→Option (Bool)
 | 0,_,_,_,_,_,_=>none
 | k+1,x1,x35,x271000,x271001,x271002,x271003=>if x35=true then (some false) else (if x271000=6 then (if x271001 < 0 then (spec_l1Is.j2 k x1 true x271000 x271001 x271002 x271003) else (if x271001 > 9 then (spec_l1Is.j2 k x1 true x271000 x271001 x271002 x271003) else (spec_l1Is.j2 k x1 false x271000 x271001 x271002 x271003))) else (spec_l1Is.j2 k x1 (x271001 != 0) x271000 x271001 x271002 x271003))
def spec_l1Is.j2:Nat→Int→Bool→Int→Int→ByteArray→List (SDoc)→Option (Bool)
 | 0,_,_,_,_,_,_=>none
 | k+1,x1,x58,x271000,x271001,x271002,x271003=>if x58=true then (some false) else (spec_l1Is.l0 k x1 0 x271000 x271001 x271002 x271003)
def spec_l1Is.l0:Nat→Int→Int→Int→Int→ByteArray→List (SDoc)→Option (Bool)
 | 0,_,_,_,_,_,_=>none
 | k+1,x1,x5,x271000,x271001,x271002,x271003=>if x5 < (x271003.length:Int) then (if 0≤x5 then ((spec_l1Is.f k ((rd_TDoc x271003 x5).f0) ((rd_TDoc x271003 x5).f1) ((rd_TDoc x271003 x5).f2) ((rd_TDoc x271003 x5).f3) (wrap64 (x1 - 1))).bind fun t274=>(if t274=true then (spec_l1Is.l0 k x1 (wrap64 (x5+1)) x271000 x271001 x271002 x271003) else (some false))) else (none)) else (some true)
def spec_l1Is.f:Nat→Int→Int→ByteArray→List (SDoc)→Int→Option (Bool)
 | 0,_,_,_,_,_=>none
 | k+1,a0_0,a0_1,a0_2,l0_3,a1=>if a1=0 then (spec_l1Is.j0 k a1 true a0_0 a0_1 a0_2 l0_3) else ((spec_l1Kids.f k a0_0).bind fun t271=>(spec_l1Is.j0 k a1 ((l0_3.length:Int) != t271) a0_0 a0_1 a0_2 l0_3))
end
end Go.Proofs.Ytdhdfmmefghijaa.P
namespace Go.Proofs.Ytdhdfmmefghijaa.P
open Go.RowKit Go.Proofs.YtdhdfmmefghijaaW.PrintWords Go.Proofs.YtdhdfmmefghijaaW.PrintLast Go.Proofs.YtdhdfmmefghijaaW.PrintMore
attribute [local go_sem] max2_int min2_int max_two min_two max_three min_three max_four min_four
set_option linter.unusedVariables false
set_option linter.unusedSimpArgs false
def spec_DocValid.f (k:Nat) (a0_0:Int) (a0_1:Int) (a0_2:ByteArray) (l0_3:List (SDoc)):Option (Bool):=(spec_l1Is.f k a0_0 a0_1 a0_2 l0_3 40).bind fun t279=>(if t279=true then ((spec_l1Count.f k a0_0 a0_1 a0_2 l0_3).bind fun t280=>(some (decide (t280≤80)))) else (some false))
end Go.Proofs.Ytdhdfmmefghijaa.P
namespace Go.Proofs.Ytdhdfmmefghijaa.P
open Go.RowKit Go.Proofs.YtdhdfmmefghijaaW.PrintWords Go.Proofs.YtdhdfmmefghijaaW.PrintLast Go.Proofs.YtdhdfmmefghijaaW.PrintMore
attribute [local go_sem] max2_int min2_int max_two min_two max_three min_three max_four min_four
set_option linter.unusedVariables false
set_option linter.unusedSimpArgs false
mutual
def spec_l1Word.j1:Nat→ByteArray→Int→Int→Option (Int × Int × ByteArray × (List (SDoc)) × Int)
 | 0,_,_,_=>none
 | k+1,x0,x1,x6=>if x6 ≥ (x0.size:Int) then (some (0,0,(⟨#[]⟩:ByteArray),([]:List (SDoc)),(-1))) else (if 0≤(wrap64 (x1+1)) then (if (wrap64 (x1+1))≤x6 then (if x6≤(x0.size:Int) then (some (2,0,x0.extract ((wrap64 (x1+1)):Int).toNat (x6:Int).toNat,([]:List (SDoc)),wrap64 (x6+1))) else (none)) else (none)) else (none))
def spec_l1Word.l0:Nat→ByteArray→Int→Int→Option (Int × Int × ByteArray × (List (SDoc)) × Int)
 | 0,_,_,_=>none
 | k+1,x0,x1,x6=>if x6 < (x0.size:Int) then (if 0≤x6 then (if (bt x0 x6)=34 then (spec_l1Word.j1 k x0 x1 x6) else (spec_l1Word.l0 k x0 x1 (wrap64 (x6+1)))) else (none)) else (spec_l1Word.j1 k x0 x1 x6)
end
def spec_l1Word.f (k:Nat) (a0:ByteArray) (a1:Int):Option (Int × Int × ByteArray × (List (SDoc)) × Int):=spec_l1Word.l0 k a0 a1 (wrap64 (a1+1))
end Go.Proofs.Ytdhdfmmefghijaa.P
namespace Go.Proofs.Ytdhdfmmefghijaa.P
open Go.RowKit Go.Proofs.YtdhdfmmefghijaaW.PrintWords Go.Proofs.YtdhdfmmefghijaaW.PrintLast Go.Proofs.YtdhdfmmefghijaaW.PrintMore
attribute [local go_sem] max2_int min2_int max_two min_two max_three min_three max_four min_four
set_option linter.unusedVariables false
set_option linter.unusedSimpArgs false
mutual
def spec_l1Read.j0:Nat→ByteArray→Int→Int→Bool→Option (Int × Int × ByteArray × (List (SDoc)) × Int)
 | 0,_,_,_,_=>none
 | k+1,x0,x1,x2,x21=>if x21=true then (some (0,0,(⟨#[]⟩:ByteArray),([]:List (SDoc)),(-1))) else (if 0≤x1 then (if x1 < (x0.size:Int) then (if (bt x0 x1)=126 then (some (1,0,(⟨#[]⟩:ByteArray),([]:List (SDoc)),wrap64 (x1+1))) else (if (bt x0 x1)=95 then (some (3,0,(⟨#[]⟩:ByteArray),([]:List (SDoc)),wrap64 (x1+1))) else (if (bt x0 x1)=46 then (some (4,0,(⟨#[]⟩:ByteArray),([]:List (SDoc)),wrap64 (x1+1))) else (if (bt x0 x1)=33 then (some (5,0,(⟨#[]⟩:ByteArray),([]:List (SDoc)),wrap64 (x1+1))) else (if (bt x0 x1)=34 then ((spec_l1Word.f k x0 x1).bind fun bt283=>(some (bt283.1,bt283.2.1,bt283.2.2.1,bt283.2.2.2.1,bt283.2.2.2.2))) else (if (bt x0 x1)=40 then ((spec_l1Inner.f k x0 (wrap64 (x1+1)) 2 41 x2).bind fun bt290=>(some (7,0,(⟨#[]⟩:ByteArray),bt290.1,bt290.2))) else (if (bt x0 x1)=91 then ((spec_l1Inner.f k x0 (wrap64 (x1+1)) 1 93 x2).bind fun bt294=>(some (8,0,(⟨#[]⟩:ByteArray),bt294.1,bt294.2))) else (if (bt x0 x1) ≥ 48 then (if (bt x0 x1)≤57 then (if (wrap64 (x1+1)) < (x0.size:Int) then (if 0≤(wrap64 (x1+1)) then (spec_l1Read.j1 k x0 x1 x2 ((bt x0 (wrap64 (x1+1))) == 60)) else (none)) else (spec_l1Read.j1 k x0 x1 x2 false)) else (spec_l1Read.j1 k x0 x1 x2 false)) else (spec_l1Read.j1 k x0 x1 x2 false))))))))) else (none)) else (none))
def spec_l1Read.j1:Nat→ByteArray→Int→Int→Bool→Option (Int × Int × ByteArray × (List (SDoc)) × Int)
 | 0,_,_,_,_=>none
 | k+1,x0,x1,x2,x102=>if x102=true then ((spec_l1Inner.f k x0 (wrap64 (x1+2)) 1 62 x2).bind fun bt298=>(if 0≤x1 then (if x1 < (x0.size:Int) then (some (6,((bt x0 x1) - 48) % 256,(⟨#[]⟩:ByteArray),bt298.1,bt298.2)) else (none)) else (none))) else (some (0,0,(⟨#[]⟩:ByteArray),([]:List (SDoc)),(-1)))
def spec_l1Read.f:Nat→ByteArray→Int→Int→Option (Int × Int × ByteArray × (List (SDoc)) × Int)
 | 0,_,_,_=>none
 | k+1,a0,a1,a2=>if a1 ≥ (a0.size:Int) then (spec_l1Read.j0 k a0 a1 a2 true) else (spec_l1Read.j0 k a0 a1 a2 (a2 == 0))
def spec_l1Inner.l0:Nat→ByteArray→Int→Int→Int→Int→List (SDoc)→Int→Option ((List (SDoc)) × Int)
 | 0,_,_,_,_,_,_,_=>none
 | k+1,x0,x1,x2,x3,x4,x12,x13=>if x13 < x2 then ((spec_l1Read.f k x0 x1 (wrap64 (x4 - 1))).bind fun bt305=>(if bt305.2.2.2.2 < 0 then (some (x12,(-1))) else (if x12.length < 2513169434916 then (spec_l1Inner.l0 k x0 bt305.2.2.2.2 x2 x3 x4 (x12++[(⟨bt305.1,bt305.2.1,bt305.2.2.1,bt305.2.2.2.1⟩:SDoc)]) (wrap64 (x13+1))) else (none)))) else (if x1 ≥ (x0.size:Int) then (some (x12,(-1))) else (if 0≤x1 then (if x1 < (x0.size:Int) then (if (bt x0 x1)=x3 then (some (x12,wrap64 (x1+1))) else (some (x12,(-1)))) else (none)) else (none)))
def spec_l1Inner.f:Nat→ByteArray→Int→Int→Int→Int→Option ((List (SDoc)) × Int)
 | 0,_,_,_,_,_=>none
 | k+1,a0,a1,a2,a3,a4=>spec_l1Inner.l0 k a0 a1 a2 a3 a4 (([]:List (SDoc))) 0
end
end Go.Proofs.Ytdhdfmmefghijaa.P
namespace Go.Proofs.Ytdhdfmmefghijaa.P
open Go.RowKit Go.Proofs.YtdhdfmmefghijaaW.PrintWords Go.Proofs.YtdhdfmmefghijaaW.PrintLast Go.Proofs.YtdhdfmmefghijaaW.PrintMore
attribute [local go_sem] max2_int min2_int max_two min_two max_three min_three max_four min_four
set_option linter.unusedVariables false
set_option linter.unusedSimpArgs false
def spec_ParseDoc.f (k:Nat) (a0:ByteArray):Option (Int × Int × ByteArray × (List (SDoc)) × Bool):=(spec_l1Read.f k a0 0 40).bind fun bt317=>(if bt317.2.2.2.2=(a0.size:Int) then ((spec_DocValid.f k bt317.1 bt317.2.1 bt317.2.2.1 bt317.2.2.2.1).bind fun t325=>(if t325=true then (some (bt317.1,bt317.2.1,bt317.2.2.1,bt317.2.2.2.1,true)) else (some (0,0,(⟨#[]⟩:ByteArray),([]:List (SDoc)),false)))) else (some (0,0,(⟨#[]⟩:ByteArray),([]:List (SDoc)),false)))
end Go.Proofs.Ytdhdfmmefghijaa.P
namespace Go.Proofs.Ytdhdfmmefghijaa.P
open Go.RowKit Go.Proofs.YtdhdfmmefghijaaW.PrintWords Go.Proofs.YtdhdfmmefghijaaW.PrintLast Go.Proofs.YtdhdfmmefghijaaW.PrintMore
attribute [local go_sem] max2_int min2_int max_two min_two max_three min_three max_four min_four
set_option linter.unusedVariables false
set_option linter.unusedSimpArgs false
def spec_l1Cat.f (a0_0:Int) (a0_1:Int) (a0_2:ByteArray) (l0_3:List (SDoc)) (a1_0:Int) (a1_1:Int) (a1_2:ByteArray) (l1_3:List (SDoc)):Option (Int × Int × ByteArray × (List (SDoc))):=some (7,0,(⟨#[]⟩:ByteArray),(([(⟨a0_0,a0_1,a0_2,l0_3⟩:SDoc),(⟨a1_0,a1_1,a1_2,l1_3⟩:SDoc)]:List (SDoc))))
end Go.Proofs.Ytdhdfmmefghijaa.P
namespace Go.Proofs.Ytdhdfmmefghijaa.P
open Go.RowKit Go.Proofs.YtdhdfmmefghijaaW.PrintWords Go.Proofs.YtdhdfmmefghijaaW.PrintLast Go.Proofs.YtdhdfmmefghijaaW.PrintMore
attribute [local go_sem] max2_int min2_int max_two min_two max_three min_three max_four min_four
set_option linter.unusedVariables false
set_option linter.unusedSimpArgs false
mutual
def spec_l1Some.j0:Nat→Int→Bool→List Int→Int→Option (Int × Int × ByteArray × (List (SDoc)) × Int)
 | 0,_,_,_,_=>none
 | k+1,x8,x12,x1000,x1001=>if x12=true then (some (3,0,(⟨#[]⟩:ByteArray),([]:List (SDoc)),x1001)) else (if x8=3 then (some (4,0,(⟨#[]⟩:ByteArray),([]:List (SDoc)),x1001)) else ((spec_l1Word2.f k x1000 x1001).bind fun bt335=>(some (2,0,bt335.1,([]:List (SDoc)),bt335.2))))
def spec_l1Some.j1:Nat→Int→Int→Bool→List Int→Int→Option (Int × Int × ByteArray × (List (SDoc)) × Int)
 | 0,_,_,_,_,_=>none
 | k+1,x1,x23,x28,x1000,x1001=>if x28=true then ((spec_l15Rd_num.f k x1000 x1001 (([2,1,4,0,9]:List Int))).bind fun bt349=>((spec_l1Some.f k x1000 bt349.2 (wrap64 (x1 - 1))).bind fun bt351=>(some (6,bt349.1,(⟨#[]⟩:ByteArray),(([(⟨bt351.1,bt351.2.1,bt351.2.2.1,bt351.2.2.2.1⟩:SDoc)]:List (SDoc))),bt351.2.2.2.2)))) else (if x23=3 then (spec_l1Some.j2 k x1 x23 (x23 == 3) x1000 x1001) else (if x23=4 then (spec_l1Some.j2 k x1 x23 (x23 == 4) x1000 x1001) else (spec_l1Some.j2 k x1 x23 (x23 == 5) x1000 x1001)))
def spec_l1Some.j2:Nat→Int→Int→Bool→List Int→Int→Option (Int × Int × ByteArray × (List (SDoc)) × Int)
 | 0,_,_,_,_,_=>none
 | k+1,x1,x23,x40,x1000,x1001=>if x40=true then ((spec_l1Some.f k x1000 x1001 (wrap64 (x1 - 1))).bind fun bt361=>(some (8,0,(⟨#[]⟩:ByteArray),(([(⟨bt361.1,bt361.2.1,bt361.2.2.1,bt361.2.2.2.1⟩:SDoc)]:List (SDoc))),bt361.2.2.2.2))) else (if x23=6 then ((spec_l15Rd_pick.f k x1000 x1001 3).bind fun bt371=>(if bt371.1=0 then ((spec_l1Some.f k x1000 bt371.2 (wrap64 (x1 - 1))).bind fun bt373=>((spec_l1Some.f k x1000 bt373.2.2.2.2 0).bind fun bt380=>((spec_l1Cat.f 5 0 (⟨#[]⟩:ByteArray) ([]:List (SDoc)) bt380.1 bt380.2.1 bt380.2.2.1 bt380.2.2.2.1).bind fun bt387=>((spec_l1Cat.f bt373.1 bt373.2.1 bt373.2.2.1 bt373.2.2.2.1 bt387.1 bt387.2.1 bt387.2.2.1 bt387.2.2.2).bind fun bt393=>(some (bt393.1,bt393.2.1,bt393.2.2.1,bt393.2.2.2,bt380.2.2.2.2)))))) else ((spec_l1Some.f k x1000 bt371.2 (wrap64 (x1 - 1))).bind fun bt399=>((spec_l1Some.f k x1000 bt399.2.2.2.2 0).bind fun bt406=>((spec_l1Cat.f 3 0 (⟨#[]⟩:ByteArray) ([]:List (SDoc)) bt406.1 bt406.2.1 bt406.2.2.1 bt406.2.2.2.1).bind fun bt413=>((spec_l1Cat.f bt399.1 bt399.2.1 bt399.2.2.1 bt399.2.2.2.1 bt413.1 bt413.2.1 bt413.2.2.1 bt413.2.2.2).bind fun bt419=>(some (bt419.1,bt419.2.1,bt419.2.2.1,bt419.2.2.2,bt406.2.2.2.2)))))))) else ((spec_l1Some.f k x1000 x1001 (wrap64 (x1 - 1))).bind fun bt425=>((spec_l1Some.f k x1000 bt425.2.2.2.2 (wrap64 (x1 - 1))).bind fun bt432=>((spec_l1Cat.f bt425.1 bt425.2.1 bt425.2.2.1 bt425.2.2.2.1 bt432.1 bt432.2.1 bt432.2.2.1 bt432.2.2.2.1).bind fun bt439=>(some (bt439.1,bt439.2.1,bt439.2.2.1,bt439.2.2.2,bt432.2.2.2.2))))))
def spec_l1Some.f:Nat→List Int→Int→Int→Option (Int × Int × ByteArray × (List (SDoc)) × Int)
 | 0,_,_,_=>none
 | k+1,s0_0,s0_1,a1=>if a1=0 then ((spec_l15Rd_pick.f k s0_0 s0_1 8).bind fun bt333=>(if bt333.1=0 then (some (1,0,(⟨#[]⟩:ByteArray),([]:List (SDoc)),bt333.2)) else (if bt333.1=1 then (spec_l1Some.j0 k bt333.1 (bt333.1 == 1) s0_0 bt333.2) else (spec_l1Some.j0 k bt333.1 (bt333.1 == 2) s0_0 bt333.2)))) else ((spec_l15Rd_pick.f k s0_0 s0_1 12).bind fun bt337=>(if bt337.1=0 then ((spec_l1Some.f k s0_0 bt337.2 0).bind fun bt339=>(some (bt339.1,bt339.2.1,bt339.2.2.1,bt339.2.2.2.1,bt339.2.2.2.2))) else (if bt337.1=1 then (spec_l1Some.j1 k a1 bt337.1 (bt337.1 == 1) s0_0 bt337.2) else (spec_l1Some.j1 k a1 bt337.1 (bt337.1 == 2) s0_0 bt337.2))))
end
end Go.Proofs.Ytdhdfmmefghijaa.P
namespace Go.Proofs.Ytdhdfmmefghijaa.P
open Go.RowKit Go.Proofs.YtdhdfmmefghijaaW.PrintWords Go.Proofs.YtdhdfmmefghijaaW.PrintLast Go.Proofs.YtdhdfmmefghijaaW.PrintMore
attribute [local go_sem] max2_int min2_int max_two min_two max_three min_three max_four min_four
set_option linter.unusedVariables false
set_option linter.unusedSimpArgs false
mutual
def spec_l1Draw.l0:Nat→List ByteArray→Int→List Int→Int→Option (Int × Int × ByteArray × (List (SDoc)) × Int)
 | 0,_,_,_,_=>none
 | k+1,x3,x4,x1000,x1001=>if x4 < 3 then ((spec_l15Rd_pick.f k x1000 x1001 3).bind fun bt449=>(if bt449.1=0 then ((spec_l15Rd_pick.f k x1000 bt449.2 (x3.length:Int)).bind fun bt451=>(if 0≤bt451.1 then (if bt451.1 < (x3.length:Int) then ((spec_ParseDoc.f k (rdOf ByteArray.empty x3 bt451.1)).bind fun bt454=>(if bt454.2.2.2.2=true then (some (bt454.1,bt454.2.1,bt454.2.2.1,bt454.2.2.2.1,bt451.2)) else (spec_l1Draw.j1 k x3 x4 x1000 bt451.2))) else (none)) else (none))) else (spec_l1Draw.j1 k x3 x4 x1000 bt449.2))) else ((spec_l1Some.f k x1000 x1001 2).bind fun bt477=>(some (bt477.1,bt477.2.1,bt477.2.2.1,bt477.2.2.2.1,bt477.2.2.2.2)))
def spec_l1Draw.j1:Nat→List ByteArray→Int→List Int→Int→Option (Int × Int × ByteArray × (List (SDoc)) × Int)
 | 0,_,_,_,_=>none
 | k+1,x3,x4,x1000,x1001=>(spec_l15Rd_num.f k x1000 x1001 (([4,3,5,2]:List Int))).bind fun bt465=>((spec_l1Some.f k x1000 bt465.2 bt465.1).bind fun bt467=>((spec_DocValid.f k bt467.1 bt467.2.1 bt467.2.2.1 bt467.2.2.2.1).bind fun t475=>(if t475=true then ((spec_l1Count.f k bt467.1 bt467.2.1 bt467.2.2.1 bt467.2.2.2.1).bind fun t476=>(if t476≤40 then (some (bt467.1,bt467.2.1,bt467.2.2.1,bt467.2.2.2.1,bt467.2.2.2.2)) else (spec_l1Draw.l0 k x3 (wrap64 (x4+1)) x1000 bt467.2.2.2.2))) else (spec_l1Draw.l0 k x3 (wrap64 (x4+1)) x1000 bt467.2.2.2.2))))
end
def spec_l1Draw.f (k:Nat) (s0_0:List Int) (s0_1:Int):Option (Int × Int × ByteArray × (List (SDoc)) × Int):=spec_l1Draw.l0 k (([(⟨#[91,40,34,102,40,34,40,50,60,40,46,40,34,97,97,97,97,44,34,40,95,34,98,98,98,98,34,41,41,41,62,40,46,34,41,34,41,41,41,93]⟩:ByteArray),(⟨#[40,34,97,34,40,95,40,34,98,34,40,95,34,99,34,41,41,41,41]⟩:ByteArray),(⟨#[91,40,34,97,97,34,40,95,91,40,34,98,98,34,40,95,34,99,99,34,41,41,93,41,41,93]⟩:ByteArray),(⟨#[51,60,91,40,34,120,61,49,34,40,95,34,121,34,41,41,93,62]⟩:ByteArray),(⟨#[40,34,123,34,40,50,60,40,33,40,34,97,58,49,44,34,40,33,34,98,58,50,34,41,41,41,62,40,33,34,125,34,41,41,41]⟩:ByteArray),(⟨#[40,91,40,34,97,34,40,95,34,98,34,41,41,93,91,40,34,99,34,40,46,34,100,34,41,41,93,41]⟩:ByteArray),(⟨#[126]⟩:ByteArray),(⟨#[34,97,98,99,34]⟩:ByteArray)]:List ByteArray)) 0 s0_0 s0_1
end Go.Proofs.Ytdhdfmmefghijaa.P
namespace Go.Proofs.Ytdhdfmmefghijaa.Pure
open Go.RowKit Go.Proofs.Ytdhdfmmefghijaa.P Go.Proofs.YtdhdfmmefghijaaW.PrintWords Go.Proofs.YtdhdfmmefghijaaW.PrintLast Go.Proofs.YtdhdfmmefghijaaW.PrintMore
set_option linter.unusedVariables false
set_option linter.unusedSimpArgs false
def Code (b:List Int):Prop:=b.length≤2000∧∀ x ∈ b,0≤x∧x < 256
theorem open_ev (l:List Int) (hl:l.length≤maxLen) (h:∀ x ∈ l,(Lit.int .u8 x).wf=true):∃ b,Code b∧spec_l15Open.f l=some (b,0):=by
 have hx:∀ x ∈ l,0≤x∧x < 256:=by
  intro x hx
  have:=h x hx
  have e1:IntKind.u8.min=0:=rfl
  have e2:IntKind.u8.max=255:=rfl
  simp [Lit.wf,e1,e2] at this
  omega
 rw [spec_l15Open.f]
 by_cases c:(l.length:Int) > 2000
 ·rw [if_pos c,if_pos (by omega)]
  exact ⟨l.take 2000,⟨by rw [List.length_take];omega,fun x hx'=>hx x (List.mem_of_mem_take hx')⟩,rfl⟩
 ·rw [if_neg c]
  exact ⟨l,⟨by omega,hx⟩,rfl⟩
theorem rd_in {b:List Int} (hb:Code b) (i:Int):0≤rd b i∧rd b i < 256:=by
 unfold rd
 rw [List.getD_eq_getElem?_getD]
 cases h:b[i.toNat]? with
 | none=>simp
 | some x =>
  have:=hb.2 x (List.mem_of_getElem? h)
  simpa using this
theorem xor_nonneg (x y:Int) (hx0:0≤x) (hx:x < 4611686018427387904) (hy0:0≤y) (hy:y < 4611686018427387904):0≤Go.bits .xor .i64 x y:=by
 obtain ⟨n,rfl⟩:=Int.eq_ofNat_of_zero_le hx0
 obtain ⟨m,rfl⟩:=Int.eq_ofNat_of_zero_le hy0
 have hn:n < 2 ^ 62:=by omega
 have hm:m < 2 ^ 62:=by omega
 have hxm:n ^^^ m < 2 ^ 62:=Nat.xor_lt_two_pow hn hm
 have e1:(BitVec.ofInt 64 (n:Int)).toNat=n:=by
  rw [BitVec.ofInt_natCast,BitVec.toNat_ofNat]
  exact Nat.mod_eq_of_lt (by omega)
 have e2:(BitVec.ofInt 64 (m:Int)).toNat=m:=by
  rw [BitVec.ofInt_natCast,BitVec.toNat_ofNat]
  exact Nat.mod_eq_of_lt (by omega)
 have e:Go.bits .xor .i64 (n:Int) (m:Int)=IntKind.i64.wrap ((n ^^^ m:Nat):Int):=by
  show IntKind.i64.wrap ((BitVec.ofInt 64 (n:Int) ^^^ BitVec.ofInt 64 (m:Int)).toNat:Int)=_
  rw [BitVec.toNat_xor,e1,e2]
 rw [e]
 have w:IntKind.i64.wrap ((n ^^^ m:Nat):Int)=((n ^^^ m:Nat):Int):=by
  simp [IntKind.wrap,IntKind.bits,IntKind.signed]
  omega
 rw [w]
 omega
theorem tm_in (x:Int) {n:Int} (h0:0≤x) (hn:0 < n):0≤Int.tmod x n∧Int.tmod x n < n:=⟨Int.tmod_nonneg n h0,Int.tmod_lt_of_pos x hn⟩
theorem pick_ev {b:List Int} (hb:Code b) (p n:Int) (hp0:0≤p) (hp:p≤1000000000):∃ r,Ev (fun k=>spec_l15Rd_pick.f k b p n) (r,p+1)∧0≤r∧(1≤n→r < n):=by
 have w1:wrap64 (p+1)=p+1:=w64 (by omega) (by omega)
 have w2:wrap64 (p+1 - 1)=p:=by rw [w64 (by omega) (by omega)];omega
 have hl:=hb.1
 have J0:Ev (fun k=>spec_l15Rd_pick.j0 k n true b (p+1)) (0,p+1):=by
  refine Ev.step (fun k=>by rw [spec_l15Rd_pick.j0]) ?_
  simp only [if_true]
  exact Ev.now _
 by_cases c1:n < 1
 ·refine ⟨0,Ev.congr (fun k=>by rw [spec_l15Rd_pick.f,if_pos c1,w1]) J0,Int.le_refl _,fun h=>by omega⟩
 by_cases c2:(b.length:Int)=0
 ·refine ⟨0,Ev.congr (fun k=>by rw [spec_l15Rd_pick.f,if_neg c1,w1,show (((b.length:Int)) == 0)=true by simpa using c2]) J0,Int.le_refl _,fun h=>by omega⟩
 have hn0:n ≠ 0:=by omega
 have start:∀ R,Ev (fun k=>spec_l15Rd_pick.j0 k n false b (p+1)) R→Ev (fun k=>spec_l15Rd_pick.f k b p n) R:=by
  intro R h
  exact Ev.congr (fun k=>by rw [spec_l15Rd_pick.f,if_neg c1,w1,show (((b.length:Int)) == 0)=false by simpa using c2]) h
 by_cases c3:p < (b.length:Int)
 ·have hr:=rd_in hb p
  have w3:wrap64 (rd b p)=rd b p:=w64 (by omega) (by omega)
  have ht:=tm_in (rd b p) (n:=n) hr.1 (by omega)
  refine ⟨Int.tmod (rd b p) n,start _ (Ev.step (fun k=>by rw [spec_l15Rd_pick.j0]) ?_),ht.1,fun _=>ht.2⟩
  simp only [Bool.false_eq_true,if_false,w2,if_pos c3,if_pos hp0,if_neg hn0,w3]
  exact Ev.now _
 ·have hlp:0 < (b.length:Int):=by omega
  have t1:=tm_in p hp0 hlp
  have w3:wrap64 (p * 7)=p * 7:=w64 (by omega) (by omega)
  have w4:wrap64 (p * 7+3)=p * 7+3:=w64 (by omega) (by omega)
  have t2:=tm_in (p * 7+3) (by omega) hlp
  have r1:=rd_in hb (Int.tmod p (b.length:Int))
  have r2:=rd_in hb (Int.tmod (p * 7+3) (b.length:Int))
  have d0:0≤Int.tdiv p (b.length:Int):=Int.tdiv_nonneg hp0 (by omega)
  have d1:Int.tdiv p (b.length:Int)≤p:=by
   obtain ⟨m,rfl⟩:=Int.eq_ofNat_of_zero_le hp0
   have:Int.tdiv (m:Int) (b.length:Int)=((m / b.length:Nat):Int):=rfl
   rw [this]
   exact Int.ofNat_le.2 (Nat.div_le_self _ _)
  generalize hA:rd b (Int.tmod p (b.length:Int))=A at r1
  generalize hB:rd b (Int.tmod (p * 7+3) (b.length:Int))=B at r2
  generalize hD:Int.tdiv p (b.length:Int)=D at d0 d1
  have e1:wrap64 (wrap64 A * 131)=A * 131:=by rw [w64 (i:=A) (by omega) (by omega),w64 (by omega) (by omega)]
  have e2:wrap64 (wrap64 B * 1117)=B * 1117:=by rw [w64 (i:=B) (by omega) (by omega),w64 (by omega) (by omega)]
  have e3:wrap64 (p * 29)=p * 29:=w64 (by omega) (by omega)
  have e4:wrap64 (wrap64 D * 53)=D * 53:=by rw [w64 (i:=D) (by omega) (by omega),w64 (by omega) (by omega)]
  have e5:wrap64 (A * 131+B * 1117)=A * 131+B * 1117:=w64 (by omega) (by omega)
  have e6:wrap64 (A * 131+B * 1117+p * 29)=A * 131+B * 1117+p * 29:=w64 (by omega) (by omega)
  have e7:wrap64 (A * 131+B * 1117+p * 29+D * 53)=A * 131+B * 1117+p * 29+D * 53:=w64 (by omega) (by omega)
  generalize hX:A * 131+B * 1117+p * 29+D * 53=X at e7
  have hX0:0≤X:=by omega
  have hX1:X≤1000000000000:=by omega
  have q0:0≤Int.tdiv X 64:=Int.tdiv_nonneg hX0 (by omega)
  have q1:Int.tdiv X 64≤X:=by
   obtain ⟨m,rfl⟩:=Int.eq_ofNat_of_zero_le hX0
   have:Int.tdiv (m:Int) 64=((m / 64:Nat):Int):=rfl
   rw [this]
   exact Int.ofNat_le.2 (Nat.div_le_self _ _)
  have e8:wrap64 (Int.tdiv X 64)=Int.tdiv X 64:=w64 (by omega) (by omega)
  have hx:=xor_nonneg X (Int.tdiv X 64) hX0 (by omega) q0 (by omega)
  have ht:=tm_in (Go.bits .xor .i64 X (Int.tdiv X 64)) (n:=n) hx (by omega)
  refine ⟨Int.tmod (Go.bits .xor .i64 X (Int.tdiv X 64)) n,start _ (Ev.step (fun k=>by rw [spec_l15Rd_pick.j0]) ?_),ht.1,fun _=>ht.2⟩
  simp only [Bool.false_eq_true,if_false,w2,if_neg c3,if_neg c2,w3,w4,if_pos t1.1,if_pos t1.2,if_pos t2.1,if_pos t2.2,if_neg hn0,hA,hB,hD,e1,e2,e3,e4,e5,e6,e7,hX,e8]
  exact Ev.now _
theorem of_ev {b:List Int} (hb:Code b) (p:Int) (l:List ByteArray) (hl:0 < l.length) (hp0:0≤p) (hp:p≤1000000000):∃ s,s ∈ l∧Ev (fun k=>spec_l15Rd_of.f k b p l) (s,p+1):=by
 obtain ⟨r,h,h0,h1⟩:=pick_ev hb p (l.length:Int) hp0 hp
 have h1:=h1 (by omega)
 have hr:r.toNat < l.length:=by omega
 refine ⟨rdOf ByteArray.empty l r,?_,Ev.congr (fun k=>by rw [spec_l15Rd_of.f]) (Ev.bind h ?_)⟩
 ·unfold rdOf
  rw [List.getD_eq_getElem?_getD,List.getElem?_eq_getElem hr]
  exact List.getElem_mem hr
 ·simp only [if_pos h0,if_pos h1]
  exact Ev.now _
end Go.Proofs.Ytdhdfmmefghijaa.Pure
namespace Go.Proofs.Ytdhdfmmefghijaa.Pure
open Go.RowKit Go.Proofs.Ytdhdfmmefghijaa.P Go.Proofs.YtdhdfmmefghijaaW.PrintWords Go.Proofs.YtdhdfmmefghijaaW.PrintLast Go.Proofs.YtdhdfmmefghijaaW.PrintMore
set_option linter.unusedVariables false
set_option linter.unusedSimpArgs false
theorem bend_ev {b:List Int} (hb:Code b) (s:ByteArray) (hs:s.size≤1000000) (l:List ByteArray) (hl:0 < l.length) (hl2:∀ x ∈ l,x.size≤20) (p:Int) (hp0:0≤p) (hp:p≤800000000):∃ (s':ByteArray) (q:Int),Ev (fun k=>spec_l1Bend.f k b p s l) (s',q)∧s'.size≤s.size+20:=by
 have J0:∀ p',Ev (fun k=>spec_l1Bend.j0 k s l true b p') (s,p'):=by
  intro p'
  refine Ev.step (fun k=>by rw [spec_l1Bend.j0]) ?_
  simp only [if_true]
  exact Ev.now _
 by_cases c0:(s.size:Int)=0
 ·exact ⟨s,p,Ev.congr (fun k=>by rw [spec_l1Bend.f,if_pos c0]) (J0 p),by omega⟩
 obtain ⟨r,g1,_,_⟩:=pick_ev hb p 2 hp0 (by omega)
 by_cases cr:r=0
 ·refine ⟨s,p+1,Ev.congr (fun k=>by rw [spec_l1Bend.f,if_neg c0]) (Ev.bind g1 ?_),by omega⟩
  rw [show (r == 0)=true by simpa using cr]
  exact J0 _
 obtain ⟨i,g2,hi0,hi⟩:=pick_ev hb (p+1) (s.size:Int) (by omega) (by omega)
 have hi:=hi (by omega)
 obtain ⟨x,hx,g3⟩:=of_ev hb (p+1+1) l hl (by omega) (by omega)
 have hx2:=hl2 x hx
 obtain ⟨j,g4,hj0,hj⟩:=pick_ev hb (p+1+1+1) 2 (by omega) (by omega)
 have hj:=hj (by omega)
 have w1:wrap64 (i+j)=i+j:=w64 (by omega) (by omega)
 have z1:(s.extract 0 i.toNat).size=i.toNat:=by rw [ByteArray.size_extract];omega
 have z2:(s.extract (i+j).toNat s.size).size=s.size - (i+j).toNat:=by rw [ByteArray.size_extract];omega
 have z3:(s.extract 0 i.toNat++x).size=i.toNat+x.size:=by rw [ByteArray.size_append,z1]
 refine ⟨(s.extract 0 i.toNat++x)++s.extract (i+j).toNat s.size,p+1+1+1+1,Ev.congr (fun k=>by rw [spec_l1Bend.f,if_neg c0]) (Ev.bind g1 ?_),by rw [ByteArray.size_append,z3,z2];omega⟩
 rw [show (r == 0)=false by simpa using cr]
 refine Ev.step (fun k=>by rw [spec_l1Bend.j0]) ?_
 simp only [Bool.false_eq_true,if_false]
 refine Ev.bind g2 ?_
 simp only [if_pos hi0,if_pos (show i≤(s.size:Int) by omega)]
 refine Ev.bind g3 ?_
 simp only [z1,if_pos (show i.toNat+x.size≤9223372036854775807 by omega)]
 refine Ev.bind g4 ?_
 simp only [w1,if_pos (show 0≤i+j by omega),if_pos (show i+j≤(s.size:Int) by omega),z3,z2,if_pos (show i.toNat+x.size+(s.size - (i+j).toNat)≤9223372036854775807 by omega)]
 exact Ev.now _
end Go.Proofs.Ytdhdfmmefghijaa.Pure
namespace Go.Proofs.Ytdhdfmmefghijaa.Pure
open Go.RowKit Go.Proofs.Ytdhdfmmefghijaa.P Go.Proofs.YtdhdfmmefghijaaW.PrintWords Go.Proofs.YtdhdfmmefghijaaW.PrintLast Go.Proofs.YtdhdfmmefghijaaW.PrintMore
set_option linter.unusedVariables false
set_option linter.unusedSimpArgs false
theorem size_data (s:ByteArray):s.size=s.data.toList.length:=by rw [Array.length_toList];rfl
theorem bt_mid {s:ByteArray} {pre suf:List UInt8} {b:UInt8} (h:s.data.toList=pre++b :: suf):bt s (pre.length:Int)=(b.toNat:Int):=by
 have hl:pre.length < s.size:=by
  have:=congrArg List.length h
  rw [List.length_append,List.length_cons] at this
  rw [size_data];omega
 unfold bt
 rw [dif_pos (by simpa using hl)]
 have:s[(pre.length:Int).toNat]'(by simpa using hl)=b:=by
  show s.data[(pre.length:Int).toNat]'(by simpa using hl)=b
  rw [← Array.getElem_toList]
  simp [h]
 rw [this]
def signC (c:Int):Bool:=c == 44 || (c == 58 || (c == 61 || (c == 123 || (c == 125 || (c == 40 || (c == 41 || (c == 91 || c == 93)))))))
def letC (c:Int):Bool:=(decide (97≤c) && decide (c≤122)) || (decide (48≤c) && decide (c≤57))
def goodC (c:Int):Bool:=letC c || signC c
def goodB (b:UInt8):Bool:=goodC (b.toNat:Int)
def tv (s:ByteArray):Bool:=decide (1≤s.size) && (decide (s.size≤12) && s.data.toList.all goodB)
theorem specText_j3 {s:ByteArray} {i:Int} {l g R:Bool} (h:Ev (fun k=>spec_TextValid.l0 k s (wrap64 (i+1))) R):Ev (fun k=>spec_TextValid.j3 k s i l g) ((l || g) && R):=by
 refine Ev.step (fun k=>by rw [spec_TextValid.j3]) ?_
 cases l <;> cases g <;> simp
 ·exact Ev.now _
 ·exact h
 ·exact h
 ·exact h
theorem specText_j2 {s:ByteArray} {i c:Int} {l R:Bool} (h:Ev (fun k=>spec_TextValid.l0 k s (wrap64 (i+1))) R):Ev (fun k=>spec_TextValid.j2 k s i c l) ((l || signC c) && R):=by
 refine Ev.step (fun k=>by rw [spec_TextValid.j2]) ?_
 have h3:∀ g,Ev (fun k=>spec_TextValid.j3 k s i l g) ((l || g) && R):=fun g=>specText_j3 h
 repeat' refine Ev.iff (fun hc=>?_) (fun hc=>?_)
 ·subst hc;exact h3 true
 ·subst hc;exact h3 true
 ·subst hc;exact h3 true
 ·subst hc;exact h3 true
 ·subst hc;exact h3 true
 ·subst hc;exact h3 true
 ·subst hc;exact h3 true
 ·subst hc;exact h3 true
 ·have e:signC c=(c == 93):=by rw [Bool.eq_iff_iff];simp [signC];omega
  rw [e];exact h3 _
theorem specText_l0 {s:ByteArray} (hs:s.size≤4611686018427387904):∀ (suf pre:List UInt8),s.data.toList=pre++suf→Ev (fun k=>spec_TextValid.l0 k s (pre.length:Int)) (suf.all goodB):=by
 intro suf
 induction suf with
 | nil =>
  intro pre h
  refine Ev.step (fun k=>by rw [spec_TextValid.l0]) ?_
  have c1:¬ ((pre.length:Int) < (s.size:Int)):=by rw [size_data,h];simp
  simp only [if_neg c1]
  exact Ev.now _
 | cons b suf ih =>
  intro pre h
  have hl:pre.length < s.size:=by rw [size_data,h];simp
  refine Ev.step (fun k=>by rw [spec_TextValid.l0]) ?_
  have c1:(pre.length:Int) < (s.size:Int):=by omega
  have c2:(0:Int)≤(pre.length:Int):=by omega
  simp only [if_pos c1,if_pos c2,bt_mid h]
  have hn:Ev (fun k=>spec_TextValid.l0 k s (wrap64 ((pre.length:Int)+1))) (suf.all goodB):=by
   rw [w64 (by omega) (by omega)]
   have:=ih (pre++[b]) (by rw [h];simp)
   rw [show ((pre++[b]).length:Int)=(pre.length:Int)+1 by simp] at this
   exact this
  have h2:∀ l,l=letC (b.toNat:Int)→Ev (fun k=>spec_TextValid.j2 k s (pre.length:Int) (b.toNat:Int) l) ((b :: suf).all goodB):=by
   intro l hl
   rw [List.all_cons,goodB,goodC,← hl]
   exact specText_j2 hn
  repeat' refine Ev.iff (fun hc=>?_) (fun hc=>?_)
  all_goals refine h2 _ ?_
  all_goals simp [letC, *]
  all_goals omega
theorem specText_ev (s:ByteArray) (hs:s.size≤4611686018427387904):Ev (fun k=>spec_TextValid.f k s) (tv s):=by
 refine Ev.congr (fun k=>by rw [spec_TextValid.f]) ?_
 have hl:=specText_l0 hs s.data.toList [] rfl
 have h0:∀ b,Ev (fun k=>spec_TextValid.j0 k s b) (!b && s.data.toList.all goodB):=by
  intro b
  refine Ev.step (fun k=>by rw [spec_TextValid.j0]) ?_
  cases b
  ·simpa using hl
  ·exact Ev.now _
 refine Ev.iff (fun hc=>?_) (fun hc=>?_)
 ·have:=h0 true
  rwa [show (!true && s.data.toList.all goodB)=tv s from by simp [tv];omega] at this
 ·have:=h0 (decide ((s.size:Int) > 12))
  rwa [show (!decide ((s.size:Int) > 12) && s.data.toList.all goodB)=tv s from by
   have e1:decide (1≤s.size)=true:=by simp;omega
   by_cases h12:s.size≤12
   ·have:¬ ((s.size:Int) > 12):=by omega
    simp [tv,e1,h12,this]
   ·have:(s.size:Int) > 12:=by omega
    simp [tv,h12,this]] at this
theorem sign_idx:∀ n:Nat,n < 256→(decide (Lib.indexByte [44,58,61,123,125,40,41,91,93] (UInt8.ofNat n) ≥ 0))=signC (n:Int):=by decide +kernel
theorem implText_j1 {s:ByteArray} {i:Int} {g R:Bool} (h:Ev (fun k=>impl_TextValid.l0 k s (wrap64 (i+1))) R):Ev (fun k=>impl_TextValid.j1 k s i (!g)) (g && R):=by
 refine Ev.step (fun k=>by rw [impl_TextValid.j1]) ?_
 cases g <;> simp
 ·exact Ev.now _
 ·exact h
theorem implText_l0 {s:ByteArray} (hs:s.size≤4611686018427387904):∀ (suf pre:List UInt8),s.data.toList=pre++suf→Ev (fun k=>impl_TextValid.l0 k s (pre.length:Int)) (suf.all goodB && (decide (1≤s.size) && decide (s.size≤12))):=by
 intro suf
 induction suf with
 | nil =>
  intro pre h
  refine Ev.step (fun k=>by rw [impl_TextValid.l0]) ?_
  have c1:¬ ((pre.length:Int) < (s.size:Int)):=by rw [size_data,h];simp
  simp only [if_neg c1]
  refine Ev.iff (fun hc=>?_) (fun hc=>?_)
  ·rw [show (([]:List UInt8).all goodB && (decide (1≤s.size) && decide (s.size≤12)))=decide ((s.size:Int)≤12) from by
    have:1≤s.size:=by omega
    simp [this];omega]
   exact Ev.now _
  ·rw [show (([]:List UInt8).all goodB && (decide (1≤s.size) && decide (s.size≤12)))=false from by
    have:¬ 1≤s.size:=by omega
    simp [this]]
   exact Ev.now _
 | cons b suf ih =>
  intro pre h
  have hl:pre.length < s.size:=by rw [size_data,h];simp
  refine Ev.step (fun k=>by rw [impl_TextValid.l0]) ?_
  have c1:(pre.length:Int) < (s.size:Int):=by omega
  have c2:(0:Int)≤(pre.length:Int):=by omega
  simp only [if_pos c1,if_pos c2,bt_mid h]
  have hn:Ev (fun k=>impl_TextValid.l0 k s (wrap64 ((pre.length:Int)+1))) (suf.all goodB && (decide (1≤s.size) && decide (s.size≤12))):=by
   rw [w64 (by omega) (by omega)]
   have:=ih (pre++[b]) (by rw [h];simp)
   rw [show ((pre++[b]).length:Int)=(pre.length:Int)+1 by simp] at this
   exact this
  have h2:∀ g,g=goodC (b.toNat:Int)→Ev (fun k=>impl_TextValid.j1 k s (pre.length:Int) (!g)) ((b :: suf).all goodB && (decide (1≤s.size) && decide (s.size≤12))):=by
   intro g hg
   rw [List.all_cons,goodB,← hg,Bool.and_assoc]
   exact implText_j1 hn
  have hb:b.toNat < 256:=b.toNat_lt
  have hi:strings_IndexByte.f (⟨#[44,58,61,123,125,40,41,91,93]⟩:ByteArray) (b.toNat:Int)=some (Lib.indexByte [44,58,61,123,125,40,41,91,93] (UInt8.ofNat b.toNat)):=by
   simp [strings_IndexByte.f]
  have hsg:=sign_idx b.toNat hb
  simp only [hi,Option.bind_some,hsg]
  repeat' refine Ev.iff (fun hc=>?_) (fun hc=>?_)
  all_goals refine h2 _ ?_
  all_goals
   have e:letC (b.toNat:Int)=true ∨ letC (b.toNat:Int)=false:=by cases letC (b.toNat:Int) <;> simp
   rcases e with e|e <;> simp [goodC,e] <;> (simp [letC] at e;omega)
theorem implText_ev (s:ByteArray) (hs:s.size≤4611686018427387904):Ev (fun k=>impl_TextValid.f k s) (tv s):=by
 refine Ev.congr (fun k=>by rw [impl_TextValid.f]) ?_
 have hl:=implText_l0 hs s.data.toList [] rfl
 rwa [show (s.data.toList.all goodB && (decide (1≤s.size) && decide (s.size≤12)))=tv s from by
  simp only [tv]
  cases s.data.toList.all goodB <;> simp] at hl
end Go.Proofs.Ytdhdfmmefghijaa.Pure
namespace Go.Proofs.Ytdhdfmmefghijaa.Pure
open Go.RowKit Go.Proofs.Ytdhdfmmefghijaa.P Go.Proofs.YtdhdfmmefghijaaW.PrintWords Go.Proofs.YtdhdfmmefghijaaW.PrintLast Go.Proofs.YtdhdfmmefghijaaW.PrintMore
set_option linter.unusedVariables false
set_option linter.unusedSimpArgs false
mutual
/-- nodes and bytes of texts -/
def msz:SDoc→Nat
 | ⟨_,_,t,ks⟩=>1+t.size+mszL ks
def mszL:List SDoc→Nat
 | []=>0
 | k :: ks=>msz k+mszL ks
end
theorem mszL_len:∀ (a:List SDoc),a.length≤mszL a
 | []=>by simp [mszL]
 | ⟨_,_,_,ks⟩ :: a=>by have:=mszL_len a;simp [mszL,msz];omega
theorem mszL_mem:∀ {a:List SDoc} {d:SDoc},d ∈ a→msz d≤mszL a
 | k :: a,d,h=>by
  rcases List.mem_cons.1 h with rfl|h
  ·simp [mszL]
  ·have:=mszL_mem h;simp [mszL];omega
end Go.Proofs.Ytdhdfmmefghijaa.Pure
namespace Go.Proofs.Ytdhdfmmefghijaa.Pure
open Go.RowKit Go.Proofs.Ytdhdfmmefghijaa.P Go.Proofs.YtdhdfmmefghijaaW.PrintWords Go.Proofs.YtdhdfmmefghijaaW.PrintLast Go.Proofs.YtdhdfmmefghijaaW.PrintMore
set_option linter.unusedVariables false
set_option linter.unusedSimpArgs false
theorem toList_data (bs:ByteArray):bs.toList=bs.data.toList:=by
 have key:∀ (n i:Nat) (r:List UInt8),bs.size - i=n→ByteArray.toList.loop bs i r=r.reverse++bs.data.toList.drop i:=by
  intro n
  induction n with
  | zero =>
   intro i r h
   rw [ByteArray.toList.loop]
   have:¬ i < bs.size:=by omega
   simp [this]
   omega
  | succ n ih =>
   intro i r h
   rw [ByteArray.toList.loop]
   have hi:i < bs.size:=by omega
   simp only [hi,if_true]
   rw [ih (i+1) _ (by omega)]
   have h2:i < bs.data.toList.length:=by rw [Array.length_toList];exact hi
   rw [List.drop_eq_getElem_cons h2]
   have h3:i < bs.data.size:=hi
   have:bs.get! i=bs.data.toList[i]:=by
    simp [ByteArray.get!,Array.getElem!_eq_getD,Array.getD,hi]
   simp [this]
 unfold ByteArray.toList
 rw [key bs.size 0 [] (by omega)]
 simp
theorem toList_nil {a:ByteArray}:a.toList=[] ↔ a.size=0:=by
 rw [toList_data,size_data,List.length_eq_zero_iff]
def nodeOk (o n:Int) (t:ByteArray) (len:Nat):Bool :=
 decide (1≤o) && (decide (o≤8) && (decide ((len:Int)=docKids o) && (decide (0≤n) && (decide (n≤9) && (decide (n=0 ∨ o=6) && (if o=2 then tv t else decide (t.size=0)))))))
mutual
def wf:SDoc→Nat→Bool
 | ⟨o,n,t,ks⟩,deep=>decide (deep ≠ 0) && (nodeOk o n t ks.length && wfL ks (deep - 1))
def wfL:List SDoc→Nat→Bool
 | [],_=>true
 | k :: ks,deep=>wf k deep && wfL ks deep
end
def docV (d:SDoc):Bool:=wf d 40 && decide (dsz d≤80)
theorem dszL_cons (y:SDoc) (l:List SDoc):dszL (y :: l)=dsz y+dszL l:=rfl
theorem dsz_mk (o n:Int) (t:ByteArray) (ks:List SDoc):dsz ⟨o,n,t,ks⟩=1+dszL ks:=rfl
theorem wfL_cons (y:SDoc) (l:List SDoc) (deep:Nat):wfL (y :: l) deep=true ↔ wf y deep=true∧wfL l deep=true:=by rw [wfL,Bool.and_eq_true]
theorem wf_mk (o n:Int) (t:ByteArray) (ks:List SDoc) (deep:Nat):wf ⟨o,n,t,ks⟩ deep=true ↔ deep ≠ 0∧nodeOk o n t ks.length=true∧wfL ks (deep - 1)=true:=by rw [wf,Bool.and_eq_true,Bool.and_eq_true,decide_eq_true_eq]
theorem nodeOk_iff (o n:Int) (t:ByteArray) (len:Nat):nodeOk o n t len=true ↔ 1≤o∧o≤8∧(len:Int)=docKids o∧0≤n∧n≤9∧(n=0 ∨ o=6)∧(if o=2 then tv t else decide (t.size=0))=true:=by
 simp only [nodeOk,Bool.and_eq_true,decide_eq_true_eq]
theorem docV_iff (d:SDoc):docV d=true ↔ wf d 40=true∧dsz d≤80:=by rw [docV,Bool.and_eq_true,decide_eq_true_eq]
theorem implOk_loop (deep:Nat) (hdp:deep≤40) (suf:List SDoc):∀ (pre:List SDoc) (left:Int),
  (∀ y,y ∈ suf→∀ left:Int,0≤left→left≤80→∃ b l',Ev (fun k=>impl_docOk.f k y.f0 y.f1 y.f2 y.f3 (wrap64 ((deep:Int) - 1)) left) (b,l')∧(b=true ↔ wf y (deep - 1)=true∧(dsz y:Int)≤left)∧(b=true→l'=left - dsz y)) →
  0≤left→left≤80→pre.length+suf.length≤4611686018427387904 →
  ∃ b l',Ev (fun k=>impl_docOk.l0 k (pre++suf) (pre.length:Int) (deep:Int) left) (b,l')∧(b=true ↔ wfL suf (deep - 1)=true∧(dszL suf:Int)≤left)∧(b=true→l'=left - dszL suf):=by
 induction suf with
 | nil =>
  intro pre left _ h0 h1 hm
  refine ⟨true,left,?_,by simp [wfL,dszL,h0],fun _=>by simp [dszL]⟩
  refine Ev.step (fun k=>by rw [impl_docOk.l0]) ?_
  simp only [List.append_nil,Int.lt_irrefl,if_false]
  exact Ev.now _
 | cons y suf ih =>
  intro pre left hy h0 h1 hm
  simp only [List.length_cons] at hm
  obtain ⟨b,l1,he,hb,hl⟩:=hy y List.mem_cons_self left h0 h1
  have c1:(pre.length:Int) < ((pre++y :: suf).length:Int):=by simp;omega
  have c2:(0:Int)≤(pre.length:Int):=by omega
  have hp:=dsz_pos y
  rw [dszL_cons,wfL_cons]
  cases b with
  | false =>
   have hnb:¬ (wf y (deep - 1)=true∧(dsz y:Int)≤left):=fun h=>by have:=hb.2 h;cases this
   refine ⟨false,l1,?_,?_,fun h=>by cases h⟩
   ·refine Ev.step (fun k=>by rw [impl_docOk.l0]) ?_
    simp only [if_pos c1,if_pos c2,rdD]
    refine Ev.bind he ?_
    simp only [Bool.false_eq_true,if_false]
    exact Ev.now _
   ·refine ⟨fun h=>(by cases h),fun h=>absurd ⟨h.1.1,?_⟩ hnb⟩
    have:=h.2
    omega
  | true =>
   obtain ⟨hw,hle⟩:=hb.1 rfl
   obtain rfl:=hl rfl
   obtain ⟨b2,l2,he2,hb2,hl2⟩:=ih (pre++[y]) (left - dsz y) (fun z hz=>hy z (List.mem_cons_of_mem _ hz)) (by omega) (by omega) (by simp;omega)
   refine ⟨b2,l2,?_,?_,fun h=>?_⟩
   ·refine Ev.step (fun k=>by rw [impl_docOk.l0]) ?_
    simp only [if_pos c1,if_pos c2,rdD]
    refine Ev.bind he ?_
    simp only [if_true]
    rw [w64 (by omega) (by omega)]
    rw [List.append_assoc,show ((pre++[y]).length:Int)=(pre.length:Int)+1 by simp] at he2
    exact he2
   ·rw [hb2]
    constructor
    ·intro h;exact ⟨⟨hw,h.1⟩,by have:=h.2;omega⟩
    ·intro h;exact ⟨h.1.2,by have:=h.2;omega⟩
   ·have:=hl2 h
    omega
theorem implOk_ev:∀ (d:SDoc),msz d≤1099511627776→∀ (deep:Nat),deep≤40→∀ (left:Int),0≤left→left≤80 →
  ∃ b l',Ev (fun k=>impl_docOk.f k d.f0 d.f1 d.f2 d.f3 (deep:Int) left) (b,l')∧(b=true ↔ wf d deep=true∧(dsz d:Int)≤left)∧(b=true→l'=left - dsz d):=by
 intro d
 induction d using SDoc.ind with
 | h o n t ks ih =>
  intro hd deep hdp left h0 h1
  simp only [msz] at hd
  have hkl:=mszL_len ks
  have hwl:wrap64 (left - 1)=left - 1:=w64 (by omega) (by omega)
  rw [wf_mk,dsz_mk,nodeOk_iff]
  by_cases a1:(deep:Int)=0 ∨ wrap64 (left - 1) < 0 ∨ o < 1 ∨ 8 < o
  ·refine ⟨false,wrap64 (left - 1),?_,⟨fun h=>(by cases h),fun h=>?_⟩,fun h=>by cases h⟩
   ·refine Ev.step (fun k=>by rw [impl_docOk.f]) ?_
    simp only [if_pos a1]
    exact Ev.now _
   ·exfalso
    rw [hwl] at a1
    obtain ⟨⟨h1,⟨h2,h3,_⟩,_⟩,h4⟩:=h
    omega
  ·have hd0:deep ≠ 0:=fun e=>a1 (.inl (by omega))
   have hl0:¬ (left - 1 < 0):=fun e=>a1 (.inr (.inl (by omega)))
   have ho1:¬ o < 1:=fun e=>a1 (.inr (.inr (.inl e)))
   have ho8:¬ 8 < o:=fun e=>a1 (.inr (.inr (.inr e)))
   by_cases a2:¬ ((ks.length:Int)=docKids o) ∨ n < 0 ∨ 9 < n ∨ (0 < n∧¬ (o=6))
   ·refine ⟨false,wrap64 (left - 1),?_,⟨fun h=>(by cases h),fun h=>?_⟩,fun h=>by cases h⟩
    ·refine Ev.step (fun k=>by rw [impl_docOk.f]) ?_
     simp only [if_neg a1,if_pos a2]
     exact Ev.now _
    ·exfalso
     obtain ⟨⟨_,⟨_,_,h3,h4,h5,h6,_⟩,_⟩,_⟩:=h
     rcases a2 with a|a|a|a
     ·exact a h3
     ·omega
     ·omega
     ·rcases h6 with h6|h6
      ·omega
      ·exact a.2 h6
   ·have b3:(ks.length:Int)=docKids o:=Decidable.not_not.1 (fun e=>a2 (.inl e))
    have b4:¬ n < 0:=fun e=>a2 (.inr (.inl e))
    have b5:¬ 9 < n:=fun e=>a2 (.inr (.inr (.inl e)))
    have b6:n=0 ∨ o=6:=by
     by_cases hn:0 < n
     ·exact .inr (Decidable.not_not.1 (fun e=>a2 (.inr (.inr (.inr ⟨hn,e⟩)))))
     ·exact .inl (by omega)
    -- the loop
    obtain ⟨b,l2,he2,hb2,hl2⟩:=implOk_loop deep hdp ks [] (left - 1) (fun y hy left' h0' h1'=>by
      have hym:=mszL_mem hy
      obtain ⟨b',l',h,h',h''⟩:=ih y hy (by omega) (deep - 1) (by omega) left' h0' h1'
      refine ⟨b',l',?_,h',h''⟩
      rw [w64 (by omega) (by omega),show ((deep:Int) - 1)=((deep - 1:Nat):Int) by omega]
      exact h) (by omega) (by omega) (by simp;omega)
    have hloop:Ev (fun k=>impl_docOk.l0 k ks 0 (deep:Int) (wrap64 (left - 1))) (b,l2):=by rw [hwl];simpa using he2
    have good:∀ x:Prop,x→((b=true ↔ (deep ≠ 0∧(1≤o∧o≤8∧(ks.length:Int)=docKids o∧0≤n∧n≤9∧(n=0 ∨ o=6)∧x)∧wfL ks (deep - 1)=true)∧((1+dszL ks:Nat):Int)≤left)∧(b=true→l2=left - ((1+dszL ks:Nat):Int))):=by
     intro x hx
     refine ⟨?_,fun h=>by have:=hl2 h;omega⟩
     rw [hb2]
     constructor
     ·intro h;exact ⟨⟨hd0,⟨by omega,by omega,b3,by omega,by omega,b6,hx⟩,h.1⟩,by have:=h.2;omega⟩
     ·intro h;exact ⟨h.1.2.2,by have:=h.2;omega⟩
    have bad:∀ x:Prop,¬ x→(((false:Bool)=true ↔ (deep ≠ 0∧(1≤o∧o≤8∧(ks.length:Int)=docKids o∧0≤n∧n≤9∧(n=0 ∨ o=6)∧x)∧wfL ks (deep - 1)=true)∧((1+dszL ks:Nat):Int)≤left)∧((false:Bool)=true→wrap64 (left - 1)=left - ((1+dszL ks:Nat):Int))):=by
     intro x hx
     exact ⟨⟨fun h=>(by cases h),fun h=>absurd h.1.2.1.2.2.2.2.2.2 hx⟩,fun h=>by cases h⟩
    by_cases e9:o=2
    ·have hT:=implText_ev t (by omega)
     rw [if_pos e9]
     cases htv:tv t with
     | false =>
      refine ⟨false,wrap64 (left - 1),?_,bad _ (by simp)⟩
      refine Ev.step (fun k=>by rw [impl_docOk.f]) ?_
      simp only [if_neg a1,if_neg a2,if_pos e9]
      refine Ev.bind hT ?_
      simp only [htv,Bool.false_eq_true,if_false]
      exact Ev.now _
     | true =>
      refine ⟨b,l2,?_,good _ rfl⟩
      refine Ev.step (fun k=>by rw [impl_docOk.f]) ?_
      simp only [if_neg a1,if_neg a2,if_pos e9]
      refine Ev.bind hT ?_
      simp only [htv,if_true]
      exact hloop
    ·rw [if_neg e9,decide_eq_true_eq]
     by_cases e10:t.toList=[]
     ·have hz:=toList_nil.1 e10
      refine ⟨b,l2,?_,good _ hz⟩
      refine Ev.step (fun k=>by rw [impl_docOk.f]) ?_
      simp only [if_neg a1,if_neg a2,if_neg e9,if_pos e10]
      exact hloop
     ·have hz:¬ t.size=0:=fun e=>e10 (toList_nil.2 e)
      refine ⟨false,wrap64 (left - 1),?_,bad _ hz⟩
      refine Ev.step (fun k=>by rw [impl_docOk.f]) ?_
      simp only [if_neg a1,if_neg a2,if_neg e9,if_neg e10]
      exact Ev.now _
theorem implValid_ev (d:SDoc) (hd:msz d≤1099511627776):Ev (fun k=>impl_DocValid.f k d.f0 d.f1 d.f2 d.f3) (docV d):=by
 obtain ⟨b,l',h,hb,_⟩:=implOk_ev d hd 40 (by omega) 80 (by omega) (by omega)
 refine Ev.congr (fun k=>by rw [impl_DocValid.f]) ?_
 refine Ev.bind (h:Ev (fun k=>impl_docOk.f k d.f0 d.f1 d.f2 d.f3 40 80) _) ?_
 rw [show docV d=b from by
  rw [Bool.eq_iff_iff,hb,docV_iff]
  constructor
  ·intro h;exact ⟨h.1,by have:=h.2;omega⟩
  ·intro h;exact ⟨h.1,by have:=h.2;omega⟩]
 exact Ev.now _
end Go.Proofs.Ytdhdfmmefghijaa.Pure
namespace Go.Proofs.Ytdhdfmmefghijaa.Pure
open Go.RowKit Go.Proofs.Ytdhdfmmefghijaa.P Go.Proofs.YtdhdfmmefghijaaW.PrintWords Go.Proofs.YtdhdfmmefghijaaW.PrintLast Go.Proofs.YtdhdfmmefghijaaW.PrintMore
set_option linter.unusedVariables false
set_option linter.unusedSimpArgs false
def ba (l:List UInt8):ByteArray:=⟨l.toArray⟩
theorem ba_size (l:List UInt8):(ba l).size=l.length:=by simp [ba,ByteArray.size]
theorem ba_data (l:List UInt8):(ba l).data.toList=l:=by simp [ba]
theorem ba_toList (l:List UInt8):(ba l).toList=l:=by rw [toList_data,ba_data]
theorem ba_of (s:ByteArray):ba s.data.toList=s:=by
 obtain ⟨⟨l⟩⟩:=s
 rfl
theorem ba_bt (c:UInt8) (s:List UInt8):bt (ba (c :: s)) 0=(c.toNat:Int):=bt_mid (s:=ba (c :: s)) (pre:=[]) (suf:=s) (ba_data _)
theorem ba_extract (l:List UInt8) (i j:Nat):(ba l).extract i j=ba ((l.drop i).take (j - i)):=by
 apply ByteArray.ext
 apply Array.ext'
 simp [ba,List.take_drop]
theorem ba_tail (l:List UInt8) (i:Nat):(ba l).extract i (ba l).size=ba (l.drop i):=by
 rw [ba_extract,ba_size,List.take_of_length_le (by simp)]
def pW:List UInt8→Option (List UInt8 × List UInt8)
 | []=>none
 | c :: s=>if (c.toNat:Int)=34 then some ([],s) else (pW s).map fun q=>(c :: q.1,q.2)
def pK (f:List UInt8→Option (SDoc × List UInt8)):Nat→Int→List UInt8→Option (List SDoc × List UInt8)
 | 0,_,[]=>none
 | 0,e,c :: r=>if (c.toNat:Int)=e then some ([],r) else none
 | m+1,e,s=>(f s).bind fun q=>(pK f m e q.2).map fun p=>(q.1 :: p.1,p.2)
def hd60:List UInt8→Bool
 | []=>false
 | c :: _=>(c.toNat:Int) == 60
def pN (f:List UInt8→Option (SDoc × List UInt8)):List UInt8→Option (SDoc × List UInt8)
 | []=>none
 | c :: s =>
  if (c.toNat:Int)=126 then some (⟨1,0,ba [],[]⟩,s) else if (c.toNat:Int)=95 then some (⟨3,0,ba [],[]⟩,s)
  else if (c.toNat:Int)=46 then some (⟨4,0,ba [],[]⟩,s) else if (c.toNat:Int)=33 then some (⟨5,0,ba [],[]⟩,s)
  else if (c.toNat:Int)=34 then (pW s).map fun q=>(⟨2,0,ba q.1,[]⟩,q.2)
  else if (c.toNat:Int)=40 then (pK f 2 41 s).map fun q=>(⟨7,0,ba [],q.1⟩,q.2)
  else if (c.toNat:Int)=91 then (pK f 1 93 s).map fun q=>(⟨8,0,ba [],q.1⟩,q.2)
  else if 48≤(c.toNat:Int)∧(c.toNat:Int)≤57∧hd60 s=true then (pK f 1 62 s.tail).map fun q=>(⟨6,(c.toNat:Int) - 48,ba [],q.1⟩,q.2)
  else none
def pD:Nat→List UInt8→Option (SDoc × List UInt8)
 | 0=>fun _=>none
 | n+1=>pN (pD n)
theorem pW_is:∀ {s a r:List UInt8},pW s=some (a,r)→∃ c:UInt8,(c.toNat:Int)=34∧s=a++c :: r
 | c :: s,a,r,h=>by
  rw [pW] at h
  by_cases e:(c.toNat:Int)=34
  ·rw [if_pos e] at h
   obtain ⟨rfl,rfl⟩:=Prod.mk.inj (Option.some.inj h)
   exact ⟨c,e,rfl⟩
  ·rw [if_neg e] at h
   obtain ⟨⟨a',r'⟩,h1,h2⟩:=Option.map_eq_some_iff.1 h
   obtain ⟨rfl,rfl⟩:=Prod.mk.inj h2
   obtain ⟨c',hc,hs⟩:=pW_is h1
   exact ⟨c',hc,by rw [hs];rfl⟩
def Good (f:List UInt8→Option (SDoc × List UInt8)):Prop:=∀ s d r,f s=some (d,r)→msz d+r.length≤s.length∧∃ u,s=u++r
theorem pK_good {f} (hf:Good f):∀ (m:Nat) (e:Int) (s:List UInt8) (ks:List SDoc) (r:List UInt8),pK f m e s=some (ks,r)→ks.length=m∧mszL ks+1+r.length≤s.length∧∃ u,s=u++r
 | 0,e,[],ks,r,h=>by simp [pK] at h
 | 0,e,c :: s,ks,r,h=>by
  rw [pK] at h
  by_cases e':(c.toNat:Int)=e
  ·rw [if_pos e'] at h
   obtain ⟨rfl,rfl⟩:=Prod.mk.inj (Option.some.inj h)
   exact ⟨rfl,by simp [mszL];omega,[c],rfl⟩
  ·rw [if_neg e'] at h;cases h
 | m+1,e,s,ks,r,h=>by
  rw [pK] at h
  obtain ⟨⟨d,r1⟩,h1,h⟩:=Option.bind_eq_some_iff.1 h
  obtain ⟨⟨l,r2⟩,h2,h⟩:=Option.map_eq_some_iff.1 h
  obtain ⟨rfl,rfl⟩:=Prod.mk.inj h
  obtain ⟨g1,u1,e1⟩:=hf _ _ _ h1
  obtain ⟨g2,g3,u2,e2⟩:=pK_good hf m e _ _ _ h2
  simp only at g3 e2
  refine ⟨by simp [g2],?_,u1++u2,by rw [e1,e2,List.append_assoc]⟩
  simp only [mszL]
  have:r1.length=u2.length+r2.length:=by rw [e2,List.length_append]
  omega
theorem pN_good {f} (hf:Good f):Good (pN f):=by
 intro s d r h
 match s,h with
 | c :: s,h =>
  rw [pN] at h
  by_cases c1:(c.toNat:Int)=126
  ·rw [if_pos c1] at h;obtain ⟨rfl,rfl⟩:=Prod.mk.inj (Option.some.inj h)
   exact ⟨by simp [msz,mszL,ba_size];omega,[c],rfl⟩
  rw [if_neg c1] at h
  by_cases c2:(c.toNat:Int)=95
  ·rw [if_pos c2] at h;obtain ⟨rfl,rfl⟩:=Prod.mk.inj (Option.some.inj h)
   exact ⟨by simp [msz,mszL,ba_size];omega,[c],rfl⟩
  rw [if_neg c2] at h
  by_cases c3:(c.toNat:Int)=46
  ·rw [if_pos c3] at h;obtain ⟨rfl,rfl⟩:=Prod.mk.inj (Option.some.inj h)
   exact ⟨by simp [msz,mszL,ba_size];omega,[c],rfl⟩
  rw [if_neg c3] at h
  by_cases c4:(c.toNat:Int)=33
  ·rw [if_pos c4] at h;obtain ⟨rfl,rfl⟩:=Prod.mk.inj (Option.some.inj h)
   exact ⟨by simp [msz,mszL,ba_size];omega,[c],rfl⟩
  rw [if_neg c4] at h
  by_cases c5:(c.toNat:Int)=34
  ·rw [if_pos c5] at h
   obtain ⟨⟨a,r'⟩,h1,h2⟩:=Option.map_eq_some_iff.1 h
   obtain ⟨rfl,rfl⟩:=Prod.mk.inj h2
   obtain ⟨q,_,rfl⟩:=pW_is h1
   exact ⟨by simp [msz,mszL,ba_size];omega,c :: a++[q],by simp⟩
  rw [if_neg c5] at h
  by_cases c6:(c.toNat:Int)=40
  ·rw [if_pos c6] at h
   obtain ⟨⟨a,r'⟩,h1,h2⟩:=Option.map_eq_some_iff.1 h
   obtain ⟨rfl,rfl⟩:=Prod.mk.inj h2
   obtain ⟨_,g,u,rfl⟩:=pK_good hf _ _ _ _ _ h1
   exact ⟨by simp [msz,ba_size] at g ⊢;omega,c :: u,by simp⟩
  rw [if_neg c6] at h
  by_cases c7:(c.toNat:Int)=91
  ·rw [if_pos c7] at h
   obtain ⟨⟨a,r'⟩,h1,h2⟩:=Option.map_eq_some_iff.1 h
   obtain ⟨rfl,rfl⟩:=Prod.mk.inj h2
   obtain ⟨_,g,u,rfl⟩:=pK_good hf _ _ _ _ _ h1
   exact ⟨by simp [msz,ba_size] at g ⊢;omega,c :: u,by simp⟩
  rw [if_neg c7] at h
  by_cases c8:48≤(c.toNat:Int)∧(c.toNat:Int)≤57∧hd60 s=true
  ·rw [if_pos c8] at h
   obtain ⟨⟨a,r'⟩,h1,h2⟩:=Option.map_eq_some_iff.1 h
   obtain ⟨rfl,rfl⟩:=Prod.mk.inj h2
   obtain ⟨_,g,u,e⟩:=pK_good hf _ _ _ _ _ h1
   match s,c8,e,g with
   | [],c8,_,_=>simp [hd60] at c8
   | q :: s,_,e,g =>
    simp only [List.tail_cons] at e g
    subst e
    exact ⟨by simp [msz,ba_size] at g ⊢;omega,c :: q :: u,by simp⟩
  ·rw [if_neg c8] at h;cases h
theorem pD_good:∀ n,Good (pD n)
 | 0=>fun s d r h=>by simp [pD] at h
 | n+1=>pN_good (pD_good n)
def parseR (L:List UInt8):Option SDoc:=match pD 40 L with
 | some (d,[])=>if docV d=true then some d else none
 | _=>none
def docR:Option SDoc→Int × Int × ByteArray × List SDoc × Bool
 | some d=>(d.f0,d.f1,d.f2,d.f3,true)
 | none=>(0,0,⟨#[]⟩,[],false)
end Go.Proofs.Ytdhdfmmefghijaa.Pure
namespace Go.Proofs.Ytdhdfmmefghijaa.Pure
open Go.RowKit Go.Proofs.Ytdhdfmmefghijaa.P Go.Proofs.YtdhdfmmefghijaaW.PrintWords Go.Proofs.YtdhdfmmefghijaaW.PrintLast Go.Proofs.YtdhdfmmefghijaaW.PrintMore
set_option linter.unusedVariables false
set_option linter.unusedSimpArgs false
theorem bt_at {L pre suf:List UInt8} {c:UInt8} (h:L=pre++c :: suf):bt (ba L) (pre.length:Int)=(c.toNat:Int):=bt_mid (s:=ba L) (by rw [ba_data];exact h)
end Go.Proofs.Ytdhdfmmefghijaa.Pure
namespace Go.Proofs.Ytdhdfmmefghijaa.P
open Go.RowKit Go.Proofs.YtdhdfmmefghijaaW.PrintWords Go.Proofs.YtdhdfmmefghijaaW.PrintLast Go.Proofs.YtdhdfmmefghijaaW.PrintMore
attribute [local go_sem] max2_int min2_int max_two min_two max_three min_three max_four min_four
set_option linter.unusedVariables false
set_option linter.unusedSimpArgs false
mutual
def spec_CountOps.j0:Nat→Int→Int→Int→Int→ByteArray→List (SDoc)→Option (Int)
 | 0,_,_,_,_,_,_=>none
 | k+1,x1,x5,x542000,x542001,x542002,x542003=>spec_CountOps.l0 k x1 x5 0 x542000 x542001 x542002 x542003
def spec_CountOps.l0:Nat→Int→Int→Int→Int→Int→ByteArray→List (SDoc)→Option (Int)
 | 0,_,_,_,_,_,_,_=>none
 | k+1,x1,x5,x6,x542000,x542001,x542002,x542003=>if x6 < (x542003.length:Int) then (if 0≤x6 then ((spec_CountOps.f k ((rd_TDoc x542003 x6).f0) ((rd_TDoc x542003 x6).f1) ((rd_TDoc x542003 x6).f2) ((rd_TDoc x542003 x6).f3) x1).bind fun t543=>(spec_CountOps.l0 k x1 (wrap64 (x5+t543)) (wrap64 (x6+1)) x542000 x542001 x542002 x542003)) else (none)) else (some x5)
def spec_CountOps.f:Nat→Int→Int→ByteArray→List (SDoc)→Int→Option (Int)
 | 0,_,_,_,_,_=>none
 | k+1,a0_0,a0_1,a0_2,l0_3,a1=>if a0_0=a1 then (spec_CountOps.j0 k a1 1 a0_0 a0_1 a0_2 l0_3) else (spec_CountOps.j0 k a1 0 a0_0 a0_1 a0_2 l0_3)
end
end Go.Proofs.Ytdhdfmmefghijaa.P
namespace Go.Proofs.Ytdhdfmmefghijaa.P
open Go.RowKit Go.Proofs.YtdhdfmmefghijaaW.PrintWords Go.Proofs.YtdhdfmmefghijaaW.PrintLast Go.Proofs.YtdhdfmmefghijaaW.PrintMore
attribute [local go_sem] max2_int min2_int max_two min_two max_three min_three max_four min_four
set_option linter.unusedVariables false
set_option linter.unusedSimpArgs false
mutual
def impl_CountOps.j0:Nat→Int→Int→Int→Int→ByteArray→List (SDoc)→Option (Int)
 | 0,_,_,_,_,_,_=>none
 | k+1,x1,x5,x510000,x510001,x510002,x510003=>impl_CountOps.l0 k x1 x5 x510003 (x510003.length:Int) 0
def impl_CountOps.l0:Nat→Int→Int→List (SDoc)→Int→Int→Option (Int)
 | 0,_,_,_,_,_=>none
 | k+1,x1,x5,x13,x14,x15=>if x15 < x14 then (if 0≤x15 then (if x15 < (x13.length:Int) then ((impl_CountOps.f k ((rd_TDoc x13 x15).f0) ((rd_TDoc x13 x15).f1) ((rd_TDoc x13 x15).f2) ((rd_TDoc x13 x15).f3) x1).bind fun t512=>(impl_CountOps.l0 k x1 (wrap64 (x5+t512)) x13 x14 (wrap64 (x15+1)))) else (none)) else (none)) else (some x5)
def impl_CountOps.f:Nat→Int→Int→ByteArray→List (SDoc)→Int→Option (Int)
 | 0,_,_,_,_,_=>none
 | k+1,a0_0,a0_1,a0_2,l0_3,a1=>if a0_0=a1 then (impl_CountOps.j0 k a1 1 a0_0 a0_1 a0_2 l0_3) else (impl_CountOps.j0 k a1 0 a0_0 a0_1 a0_2 l0_3)
end
end Go.Proofs.Ytdhdfmmefghijaa.P
namespace Go.Proofs.Ytdhdfmmefghijaa.Pure
open Go.RowKit Go.Proofs.Ytdhdfmmefghijaa.P Go.Proofs.YtdhdfmmefghijaaW.PrintWords Go.Proofs.YtdhdfmmefghijaaW.PrintLast Go.Proofs.YtdhdfmmefghijaaW.PrintMore
set_option linter.unusedVariables false
set_option linter.unusedSimpArgs false
end Go.Proofs.Ytdhdfmmefghijaa.Pure
namespace Go.Proofs.Ytdhdfmmefghijaa.P
open Go.RowKit Go.Proofs.YtdhdfmmefghijaaW.PrintWords Go.Proofs.YtdhdfmmefghijaaW.PrintLast Go.Proofs.YtdhdfmmefghijaaW.PrintMore
attribute [local go_sem] max2_int min2_int max_two min_two max_three min_three max_four min_four
set_option linter.unusedVariables false
set_option linter.unusedSimpArgs false
def spec_CanFlatten.f (k:Nat) (a0_0:Int) (a0_1:Int) (a0_2:ByteArray) (l0_3:List (SDoc)):Option (Bool):=(spec_DocValid.f k a0_0 a0_1 a0_2 l0_3).bind fun t545=>(if t545=true then ((spec_CountOps.f k a0_0 a0_1 a0_2 l0_3 5).bind fun t546=>(some (t546 == 0))) else (some false))
end Go.Proofs.Ytdhdfmmefghijaa.P
namespace Go.Proofs.Ytdhdfmmefghijaa.P
open Go.RowKit Go.Proofs.YtdhdfmmefghijaaW.PrintWords Go.Proofs.YtdhdfmmefghijaaW.PrintLast Go.Proofs.YtdhdfmmefghijaaW.PrintMore
attribute [local go_sem] max2_int min2_int max_two min_two max_three min_three max_four min_four
set_option linter.unusedVariables false
set_option linter.unusedSimpArgs false
def impl_CanFlatten.f (k:Nat) (a0_0:Int) (a0_1:Int) (a0_2:ByteArray) (l0_3:List (SDoc)):Option (Bool):=(impl_DocValid.f k a0_0 a0_1 a0_2 l0_3).bind fun t514=>(if t514=true then ((impl_CountOps.f k a0_0 a0_1 a0_2 l0_3 5).bind fun t515=>(some (t515 == 0))) else (some false))
end Go.Proofs.Ytdhdfmmefghijaa.P
namespace Go.Proofs.Ytdhdfmmefghijaa.Pure
open Go.RowKit Go.Proofs.Ytdhdfmmefghijaa.P Go.Proofs.YtdhdfmmefghijaaW.PrintWords Go.Proofs.YtdhdfmmefghijaaW.PrintLast Go.Proofs.YtdhdfmmefghijaaW.PrintMore
set_option linter.unusedVariables false
set_option linter.unusedSimpArgs false
end Go.Proofs.Ytdhdfmmefghijaa.Pure
namespace Go.Proofs.Ytdhdfmmefghijaa.P
open Go.RowKit Go.Proofs.YtdhdfmmefghijaaW.PrintWords Go.Proofs.YtdhdfmmefghijaaW.PrintLast Go.Proofs.YtdhdfmmefghijaaW.PrintMore
attribute [local go_sem] max2_int min2_int max_two min_two max_three min_three max_four min_four
set_option linter.unusedVariables false
set_option linter.unusedSimpArgs false
mutual
def spec_l1Copy.l0:Nat→Int→Int→Int→ByteArray→List (SDoc)→Int→Int→ByteArray→List (SDoc)→Option (Int × Int × ByteArray × (List (SDoc)))
 | 0,_,_,_,_,_,_,_,_,_=>none
 | k+1,x4,x216000,x216001,x216002,x216003,x218000,x218001,x218002,x218003=>if x4 < (x216003.length:Int) then (if 0≤x4 then ((spec_l1Copy.f k ((rd_TDoc x216003 x4).f0) ((rd_TDoc x216003 x4).f1) ((rd_TDoc x216003 x4).f2) ((rd_TDoc x216003 x4).f3)).bind fun bt219=>(if x218003.length < 2513169434916 then (spec_l1Copy.l0 k (wrap64 (x4+1)) x216000 x216001 x216002 x216003 x218000 x218001 x218002 (x218003++[(⟨bt219.1,bt219.2.1,bt219.2.2.1,bt219.2.2.2⟩:SDoc)])) else (none))) else (none)) else (some (x218000,x218001,x218002,x218003))
def spec_l1Copy.f:Nat→Int→Int→ByteArray→List (SDoc)→Option (Int × Int × ByteArray × (List (SDoc)))
 | 0,_,_,_,_=>none
 | k+1,a0_0,a0_1,a0_2,l0_3=>spec_l1Copy.l0 k 0 a0_0 a0_1 a0_2 l0_3 a0_0 a0_1 a0_2 ([]:List (SDoc))
end
def spec_l1Copy.T5:Bool × List (List Nat × List Nat):=(true,[([],[]),([0],[0]),([],[]),([2],[2]),([],[]),([3,4],[3,4]),([5],[5]),([6],[6]),([7],[7]),([1,8,7],[1,8]),([0,1,2,3,4,5,6,7,8,9],[]),([10,9,9,0,1,2,3,4,5,6,7,8,9],[9,10])])
def spec_l1Copy.B5:List Nat:=[0,1,0,4,0,28,60,124,252,511,1023,2047]
theorem spec_l1Copy.tab5:rtab .any (opsOf Try.f59 5)=spec_l1Copy.T5:=by kernel_rfl
theorem spec_l1Copy.bits5:waitsOk spec_l1Copy.T5.2 spec_l1Copy.B5=true:=by kernel_rfl
end Go.Proofs.Ytdhdfmmefghijaa.P
namespace Go.Proofs.Ytdhdfmmefghijaa.P
open Go.RowKit Go.Proofs.YtdhdfmmefghijaaW.PrintWords Go.Proofs.YtdhdfmmefghijaaW.PrintLast Go.Proofs.YtdhdfmmefghijaaW.PrintMore
attribute [local go_sem] max2_int min2_int max_two min_two max_three min_three max_four min_four
set_option linter.unusedVariables false
set_option linter.unusedSimpArgs false
mutual
def impl_copyDoc.l0:Nat→List (SDoc)→Int→Int→Int→Int→ByteArray→List (SDoc)→Option (Int × Int × ByteArray × (List (SDoc)))
 | 0,_,_,_,_,_,_,_=>none
 | k+1,x9,x10,x11,x677000,x677001,x677002,x677003=>if x11 < x10 then (if 0≤x11 then (if x11 < (x9.length:Int) then ((impl_copyDoc.f k ((rd_TDoc x9 x11).f0) ((rd_TDoc x9 x11).f1) ((rd_TDoc x9 x11).f2) ((rd_TDoc x9 x11).f3)).bind fun bt680=>(if x677003.length < 2513169434916 then (impl_copyDoc.l0 k x9 x10 (wrap64 (x11+1)) x677000 x677001 x677002 (x677003++[(⟨bt680.1,bt680.2.1,bt680.2.2.1,bt680.2.2.2⟩:SDoc)])) else (none))) else (none)) else (none)) else (some (x677000,x677001,x677002,x677003))
def impl_copyDoc.f:Nat→Int→Int→ByteArray→List (SDoc)→Option (Int × Int × ByteArray × (List (SDoc)))
 | 0,_,_,_,_=>none
 | k+1,a0_0,a0_1,a0_2,l0_3=>impl_copyDoc.l0 k l0_3 (l0_3.length:Int) 0 a0_0 a0_1 a0_2 ([]:List (SDoc))
end
end Go.Proofs.Ytdhdfmmefghijaa.P
namespace Go.Proofs.Ytdhdfmmefghijaa.Pure
open Go.RowKit Go.Proofs.Ytdhdfmmefghijaa.P Go.Proofs.YtdhdfmmefghijaaW.PrintWords Go.Proofs.YtdhdfmmefghijaaW.PrintLast Go.Proofs.YtdhdfmmefghijaaW.PrintMore
set_option linter.unusedVariables false
set_option linter.unusedSimpArgs false
end Go.Proofs.Ytdhdfmmefghijaa.Pure
namespace Go.Proofs.Ytdhdfmmefghijaa.Pure
open Go.RowKit Go.Proofs.Ytdhdfmmefghijaa.P Go.Proofs.YtdhdfmmefghijaaW.PrintWords Go.Proofs.YtdhdfmmefghijaaW.PrintLast Go.Proofs.YtdhdfmmefghijaaW.PrintMore
set_option linter.unusedVariables false
set_option linter.unusedSimpArgs false
theorem word2_ev {b:List Int} (hb:Code b) (p:Int) (hp0:0≤p) (hp:p≤1000000000):∃ s,tv s=true∧Ev (fun k=>spec_l1Word2.f k b p) (s,p+1):=by
 obtain ⟨s,hs,h⟩:=of_ev hb p [(⟨#[97]⟩:ByteArray),(⟨#[98,98]⟩:ByteArray),(⟨#[99,99,99]⟩:ByteArray),(⟨#[100,100,100,100]⟩:ByteArray),(⟨#[102,40]⟩:ByteArray),(⟨#[41]⟩:ByteArray),(⟨#[44]⟩:ByteArray),(⟨#[120,61,49]⟩:ByteArray),(⟨#[97,98,99,100,101,102,103,104]⟩:ByteArray),(⟨#[101]⟩:ByteArray)] (by simp) hp0 hp
 refine ⟨s,?_,Ev.congr (fun k=>by rw [spec_l1Word2.f]) (Ev.bind h (Ev.now _))⟩
 have:∀ s ∈ [(⟨#[97]⟩:ByteArray),(⟨#[98,98]⟩:ByteArray),(⟨#[99,99,99]⟩:ByteArray),(⟨#[100,100,100,100]⟩:ByteArray),(⟨#[102,40]⟩:ByteArray),(⟨#[41]⟩:ByteArray),(⟨#[44]⟩:ByteArray),(⟨#[120,61,49]⟩:ByteArray),(⟨#[97,98,99,100,101,102,103,104]⟩:ByteArray),(⟨#[101]⟩:ByteArray)],tv s=true:=by decide +kernel
 exact this s hs
theorem tv_size {s:ByteArray} (h:tv s=true):1≤s.size∧s.size≤12:=by
 simp only [tv,Bool.and_eq_true,decide_eq_true_eq] at h
 exact ⟨h.1,h.2.1⟩
end Go.Proofs.Ytdhdfmmefghijaa.Pure
namespace Go.Proofs.Ytdhdfmmefghijaa.P
open Go.RowKit Go.Proofs.YtdhdfmmefghijaaW.PrintWords Go.Proofs.YtdhdfmmefghijaaW.PrintLast Go.Proofs.YtdhdfmmefghijaaW.PrintMore
attribute [local go_sem] max2_int min2_int max_two min_two max_three min_three max_four min_four
set_option linter.unusedVariables false
set_option linter.unusedSimpArgs false
mutual
def spec_l15Dec.l0:Nat→Int→ByteArray→Option (ByteArray)
 | 0,_,_=>none
 | k+1,x0,x3=>if x0 > 9 then ((some (([(wrap64 (48+(Int.tmod x0 10))) % 256]:List Int):List Int)).bind fun y839=>(if (strOfNums y839).size+x3.size≤9223372036854775807 then (spec_l15Dec.l0 k (wrap64 (Int.tdiv x0 10)) ((strOfNums y839)++x3)) else (none))) else ((some (([(wrap64 (48+x0)) % 256]:List Int):List Int)).bind fun y842=>(if (strOfNums y842).size+x3.size≤9223372036854775807 then (some ((strOfNums y842)++x3)) else (none)))
def spec_l15Dec.f:Nat→Int→Option (ByteArray)
 | 0,_=>none
 | k+1,a0=>if a0 < (-9223372036854775807) then (some (⟨#[45,57,50,50,51,51,55,50,48,51,54,56,53,52,55,55,53,56,48,56]⟩:ByteArray)) else (if a0 < 0 then ((spec_l15Dec.f k (wrap64 (-a0))).bind fun t838=>(if 1+t838.size≤9223372036854775807 then (some ((⟨#[45]⟩:ByteArray)++t838)) else (none))) else (spec_l15Dec.l0 k a0 (⟨#[]⟩:ByteArray)))
end
end Go.Proofs.Ytdhdfmmefghijaa.P
namespace Go.Proofs.Ytdhdfmmefghijaa.P
open Go.RowKit Go.Proofs.YtdhdfmmefghijaaW.PrintWords Go.Proofs.YtdhdfmmefghijaaW.PrintLast Go.Proofs.YtdhdfmmefghijaaW.PrintMore
attribute [local go_sem] max2_int min2_int max_two min_two max_three min_three max_four min_four
set_option linter.unusedVariables false
set_option linter.unusedSimpArgs false
def spec_l1Text.f:Nat→Int→Int→ByteArray→List (SDoc)→Option (ByteArray)
 | 0,_,_,_,_=>none
 | k+1,a0_0,a0_1,a0_2,l0_3=>if a0_0=1 then (some (⟨#[126]⟩:ByteArray)) else (if a0_0=2 then (if 1+a0_2.size≤9223372036854775807 then (if ((⟨#[34]⟩:ByteArray)++a0_2).size+1≤9223372036854775807 then (some (((⟨#[34]⟩:ByteArray)++a0_2)++(⟨#[34]⟩:ByteArray))) else (none)) else (none)) else (if a0_0=3 then (some (⟨#[95]⟩:ByteArray)) else (if a0_0=4 then (some (⟨#[46]⟩:ByteArray)) else (if a0_0=5 then (some (⟨#[33]⟩:ByteArray)) else (if a0_0=6 then ((spec_l15Dec.f k a0_1).bind fun t846=>(if t846.size+1≤9223372036854775807 then (if 0 < (l0_3.length:Int) then ((spec_l1Text.f k ((rd_TDoc l0_3 0).f0) ((rd_TDoc l0_3 0).f1) ((rd_TDoc l0_3 0).f2) ((rd_TDoc l0_3 0).f3)).bind fun t848=>(if (t846++(⟨#[60]⟩:ByteArray)).size+t848.size≤9223372036854775807 then (if ((t846++(⟨#[60]⟩:ByteArray))++t848).size+1≤9223372036854775807 then (some (((t846++(⟨#[60]⟩:ByteArray))++t848)++(⟨#[62]⟩:ByteArray))) else (none)) else (none))) else (none)) else (none))) else (if a0_0=7 then (if 0 < (l0_3.length:Int) then ((spec_l1Text.f k ((rd_TDoc l0_3 0).f0) ((rd_TDoc l0_3 0).f1) ((rd_TDoc l0_3 0).f2) ((rd_TDoc l0_3 0).f3)).bind fun t850=>(if 1+t850.size≤9223372036854775807 then (if 1 < (l0_3.length:Int) then ((spec_l1Text.f k ((rd_TDoc l0_3 1).f0) ((rd_TDoc l0_3 1).f1) ((rd_TDoc l0_3 1).f2) ((rd_TDoc l0_3 1).f3)).bind fun t852=>(if ((⟨#[40]⟩:ByteArray)++t850).size+t852.size≤9223372036854775807 then (if (((⟨#[40]⟩:ByteArray)++t850)++t852).size+1≤9223372036854775807 then (some ((((⟨#[40]⟩:ByteArray)++t850)++t852)++(⟨#[41]⟩:ByteArray))) else (none)) else (none))) else (none)) else (none))) else (none)) else (if 0 < (l0_3.length:Int) then ((spec_l1Text.f k ((rd_TDoc l0_3 0).f0) ((rd_TDoc l0_3 0).f1) ((rd_TDoc l0_3 0).f2) ((rd_TDoc l0_3 0).f3)).bind fun t854=>(if 1+t854.size≤9223372036854775807 then (if ((⟨#[91]⟩:ByteArray)++t854).size+1≤9223372036854775807 then (some (((⟨#[91]⟩:ByteArray)++t854)++(⟨#[93]⟩:ByteArray))) else (none)) else (none))) else (none))))))))
def spec_l1Text.T13:Bool × List (List Nat × List Nat):=(true,[([],[]),([0],[0]),([1],[1]),([2],[2]),([],[]),([4],[4]),([5],[5]),([6],[6]),([7,2],[7]),([3,8],[3,8]),([9],[9]),([10,8,0,1,2,3,4,5,6,7,8,9,10],[10])])
def spec_l1Text.B13:List Nat:=[0,1,3,7,0,16,48,112,247,511,1023,2047]
theorem spec_l1Text.tab13:rtab .any (opsOf Try.f63 13)=spec_l1Text.T13:=by kernel_rfl
theorem spec_l1Text.bits13:waitsOk spec_l1Text.T13.2 spec_l1Text.B13=true:=by kernel_rfl
def spec_l1Text.T15:Bool × List (List Nat × List Nat):=(true,[([],[]),([0],[0]),([1],[1]),([2],[2]),([3],[3]),([4],[4]),([],[]),([6],[6]),([7],[7]),([8],[8]),([9,4],[9]),([5,10],[5,10]),([11],[11]),([12,10,0,1,2,3,4,5,6,7,8,9,10,11,12],[12])])
def spec_l1Text.B15:List Nat:=[0,1,3,7,15,31,0,64,192,448,991,2047,4095,8191]
theorem spec_l1Text.tab15:rtab .any (opsOf Try.f63 15)=spec_l1Text.T15:=by kernel_rfl
theorem spec_l1Text.bits15:waitsOk spec_l1Text.T15.2 spec_l1Text.B15=true:=by kernel_rfl
end Go.Proofs.Ytdhdfmmefghijaa.P
namespace Go.Proofs.Ytdhdfmmefghijaa.P
open Go.RowKit Go.Proofs.YtdhdfmmefghijaaW.PrintWords Go.Proofs.YtdhdfmmefghijaaW.PrintLast Go.Proofs.YtdhdfmmefghijaaW.PrintMore
attribute [local go_sem] max2_int min2_int max_two min_two max_three min_three max_four min_four
set_option linter.unusedVariables false
set_option linter.unusedSimpArgs false
def spec_FormatDoc.f (k:Nat) (a0_0:Int) (a0_1:Int) (a0_2:ByteArray) (l0_3:List (SDoc)):Option (ByteArray):=(spec_DocValid.f k a0_0 a0_1 a0_2 l0_3).bind fun t856=>(if t856=true then ((spec_l1Text.f k a0_0 a0_1 a0_2 l0_3).bind fun t857=>(some t857)) else (some (⟨#[]⟩:ByteArray)))
end Go.Proofs.Ytdhdfmmefghijaa.P
namespace Go.Proofs.Ytdhdfmmefghijaa.P
open Go.RowKit Go.Proofs.YtdhdfmmefghijaaW.PrintWords Go.Proofs.YtdhdfmmefghijaaW.PrintLast Go.Proofs.YtdhdfmmefghijaaW.PrintMore
attribute [local go_sem] max2_int min2_int max_two min_two max_three min_three max_four min_four
set_option linter.unusedVariables false
set_option linter.unusedSimpArgs false
def impl_formatDoc.f:Nat→Int→Int→ByteArray→List (SDoc)→Option (ByteArray)
 | 0,_,_,_,_=>none
 | k+1,a0_0,a0_1,a0_2,l0_3=>if a0_0=1 then (some (⟨#[126]⟩:ByteArray)) else (if a0_0=2 then (if 1+a0_2.size≤9223372036854775807 then (if ((⟨#[34]⟩:ByteArray)++a0_2).size+1≤9223372036854775807 then (some (((⟨#[34]⟩:ByteArray)++a0_2)++(⟨#[34]⟩:ByteArray))) else (none)) else (none)) else (if a0_0=3 then (some (⟨#[95]⟩:ByteArray)) else (if a0_0=4 then (some (⟨#[46]⟩:ByteArray)) else (if a0_0=5 then (some (⟨#[33]⟩:ByteArray)) else (if a0_0=6 then ((some (([(wrap64 (48+a0_1)) % 256]:List Int):List Int)).bind fun y607=>(if (strOfNums y607).size+1≤9223372036854775807 then (if 0 < (l0_3.length:Int) then ((impl_formatDoc.f k ((rd_TDoc l0_3 0).f0) ((rd_TDoc l0_3 0).f1) ((rd_TDoc l0_3 0).f2) ((rd_TDoc l0_3 0).f3)).bind fun t611=>(if ((strOfNums y607)++(⟨#[60]⟩:ByteArray)).size+t611.size≤9223372036854775807 then (if (((strOfNums y607)++(⟨#[60]⟩:ByteArray))++t611).size+1≤9223372036854775807 then (some ((((strOfNums y607)++(⟨#[60]⟩:ByteArray))++t611)++(⟨#[62]⟩:ByteArray))) else (none)) else (none))) else (none)) else (none))) else (if a0_0=7 then (if 0 < (l0_3.length:Int) then ((impl_formatDoc.f k ((rd_TDoc l0_3 0).f0) ((rd_TDoc l0_3 0).f1) ((rd_TDoc l0_3 0).f2) ((rd_TDoc l0_3 0).f3)).bind fun t613=>(if 1+t613.size≤9223372036854775807 then (if 1 < (l0_3.length:Int) then ((impl_formatDoc.f k ((rd_TDoc l0_3 1).f0) ((rd_TDoc l0_3 1).f1) ((rd_TDoc l0_3 1).f2) ((rd_TDoc l0_3 1).f3)).bind fun t615=>(if ((⟨#[40]⟩:ByteArray)++t613).size+t615.size≤9223372036854775807 then (if (((⟨#[40]⟩:ByteArray)++t613)++t615).size+1≤9223372036854775807 then (some ((((⟨#[40]⟩:ByteArray)++t613)++t615)++(⟨#[41]⟩:ByteArray))) else (none)) else (none))) else (none)) else (none))) else (none)) else (if 0 < (l0_3.length:Int) then ((impl_formatDoc.f k ((rd_TDoc l0_3 0).f0) ((rd_TDoc l0_3 0).f1) ((rd_TDoc l0_3 0).f2) ((rd_TDoc l0_3 0).f3)).bind fun t617=>(if 1+t617.size≤9223372036854775807 then (if ((⟨#[91]⟩:ByteArray)++t617).size+1≤9223372036854775807 then (some (((⟨#[91]⟩:ByteArray)++t617)++(⟨#[93]⟩:ByteArray))) else (none)) else (none))) else (none))))))))
def impl_formatDoc.T13:Bool × List (List Nat × List Nat):=(true,[([],[]),([0],[0]),([1],[1]),([2],[2]),([3],[3]),([4],[4]),([5],[5]),([],[]),([7],[7]),([8],[8]),([9],[9]),([10],[10]),([6,11],[6,11]),([12],[12]),([13,11,0,1,2,3,4,5,6,7,8,9,10,11,12,13],[13])])
def impl_formatDoc.B13:List Nat:=[0,1,3,7,15,31,63,0,128,384,896,1920,4095,8191,16383]
theorem impl_formatDoc.tab13:rtab .any (opsOf Try.f60 13)=impl_formatDoc.T13:=by kernel_rfl
theorem impl_formatDoc.bits13:waitsOk impl_formatDoc.T13.2 impl_formatDoc.B13=true:=by kernel_rfl
def impl_formatDoc.T15:Bool × List (List Nat × List Nat):=(true,[([],[]),([0],[0]),([1],[1]),([2],[2]),([3],[3]),([4],[4]),([],[]),([6],[6]),([7],[7]),([8],[8]),([9,4],[9]),([5,10],[5,10]),([11],[11]),([12,10,0,1,2,3,4,5,6,7,8,9,10,11,12],[12])])
def impl_formatDoc.B15:List Nat:=[0,1,3,7,15,31,0,64,192,448,991,2047,4095,8191]
theorem impl_formatDoc.tab15:rtab .any (opsOf Try.f60 15)=impl_formatDoc.T15:=by kernel_rfl
theorem impl_formatDoc.bits15:waitsOk impl_formatDoc.T15.2 impl_formatDoc.B15=true:=by kernel_rfl
end Go.Proofs.Ytdhdfmmefghijaa.P
namespace Go.Proofs.Ytdhdfmmefghijaa.P
open Go.RowKit Go.Proofs.YtdhdfmmefghijaaW.PrintWords Go.Proofs.YtdhdfmmefghijaaW.PrintLast Go.Proofs.YtdhdfmmefghijaaW.PrintMore
attribute [local go_sem] max2_int min2_int max_two min_two max_three min_three max_four min_four
set_option linter.unusedVariables false
set_option linter.unusedSimpArgs false
def impl_FormatDoc.f (k:Nat) (a0_0:Int) (a0_1:Int) (a0_2:ByteArray) (l0_3:List (SDoc)):Option (ByteArray):=(impl_DocValid.f k a0_0 a0_1 a0_2 l0_3).bind fun t619=>(if t619=true then ((impl_formatDoc.f k a0_0 a0_1 a0_2 l0_3).bind fun t620=>(some t620)) else (some (⟨#[]⟩:ByteArray)))
end Go.Proofs.Ytdhdfmmefghijaa.P
namespace Go.Proofs.Ytdhdfmmefghijaa.Pure
open Go.RowKit Go.Proofs.Ytdhdfmmefghijaa.P Go.Proofs.YtdhdfmmefghijaaW.PrintWords Go.Proofs.YtdhdfmmefghijaaW.PrintLast Go.Proofs.YtdhdfmmefghijaaW.PrintMore
set_option linter.unusedVariables false
set_option linter.unusedSimpArgs false
end Go.Proofs.Ytdhdfmmefghijaa.Pure
namespace Go.Proofs.Ytdhdfmmefghijaa.P
open Go.RowKit Go.Proofs.YtdhdfmmefghijaaW.PrintWords Go.Proofs.YtdhdfmmefghijaaW.PrintLast Go.Proofs.YtdhdfmmefghijaaW.PrintMore
attribute [local go_sem] max2_int min2_int max_two min_two max_three min_three max_four min_four
set_option linter.unusedVariables false
set_option linter.unusedSimpArgs false
def spec_DrawParseDoc.f (k:Nat) (l0:List Int):Option (ByteArray):=(spec_l15Open.f l0).bind fun bt870=>((spec_l1Draw.f k bt870.1 bt870.2).bind fun bt873=>((spec_l1Text.f k bt873.1 bt873.2.1 bt873.2.2.1 bt873.2.2.2.1).bind fun t880=>((spec_l1Bend.f k bt870.1 bt873.2.2.2.2 t880 (([(⟨#[]⟩:ByteArray),(⟨#[40]⟩:ByteArray),(⟨#[41]⟩:ByteArray),(⟨#[91]⟩:ByteArray),(⟨#[95]⟩:ByteArray),(⟨#[46]⟩:ByteArray),(⟨#[34]⟩:ByteArray),(⟨#[126]⟩:ByteArray),(⟨#[50,60]⟩:ByteArray),(⟨#[97]⟩:ByteArray)]:List ByteArray))).bind fun bt884=>(some bt884.1))))
end Go.Proofs.Ytdhdfmmefghijaa.P
namespace Go.Proofs.Ytdhdfmmefghijaa.Pure
open Go.RowKit Go.Proofs.Ytdhdfmmefghijaa.P Go.Proofs.YtdhdfmmefghijaaW.PrintWords Go.Proofs.YtdhdfmmefghijaaW.PrintLast Go.Proofs.YtdhdfmmefghijaaW.PrintMore
set_option linter.unusedVariables false
set_option linter.unusedSimpArgs false
theorem drawText_ev (l:List Int) (hl:l.length≤maxLen) (h:∀ x ∈ l,(Lit.int .u8 x).wf=true):∃ s:ByteArray,Ev (fun k=>spec_DrawTextValid.f k l) s∧s.size≤40:=by
 obtain ⟨b,hb,e⟩:=open_ev l hl h
 obtain ⟨s,hs,g⟩:=word2_ev hb 0 (by omega) (by omega)
 have hz:=(tv_size hs).2
 obtain ⟨s',q,g',hz'⟩:=bend_ev hb s (by omega) [(⟨#[]⟩:ByteArray),(⟨#[65]⟩:ByteArray),(⟨#[97,98,99,100,101,102,103,104,105,106,107,108]⟩:ByteArray),(⟨#[32]⟩:ByteArray),(⟨#[55]⟩:ByteArray),(⟨#[195,169]⟩:ByteArray)] (by simp) (by decide +kernel) (0+1) (by omega) (by omega)
 refine ⟨s',Ev.congr (fun k=>by rw [spec_DrawTextValid.f,e]) ?_,by omega⟩
 simp only [Option.bind_some]
 exact Ev.bind g (Ev.bind g' (Ev.now _))
end Go.Proofs.Ytdhdfmmefghijaa.Pure
namespace Go.Proofs.Ytdhdfmmefghijaa.Pure
open Go.RowKit Go.Proofs.Ytdhdfmmefghijaa.P Go.Proofs.YtdhdfmmefghijaaW.PrintWords Go.Proofs.YtdhdfmmefghijaaW.PrintLast Go.Proofs.YtdhdfmmefghijaaW.PrintMore
set_option linter.unusedVariables false
set_option linter.unusedSimpArgs false
theorem u8_eq (c:UInt8) (m:Nat) (hm:m < 256):(c == UInt8.ofNat m)=decide ((c.toNat:Int)=(m:Int)):=by
 have h:(c=UInt8.ofNat m) ↔ ((c.toNat:Int)=(m:Int)):=by
  constructor
  ·rintro rfl
   rw [UInt8.toNat_ofNat_of_lt' hm]
  ·intro h
   apply UInt8.toNat_inj.1
   rw [UInt8.toNat_ofNat_of_lt' hm]
   omega
 by_cases e:c=UInt8.ofNat m
 ·rw [decide_eq_true (h.1 e),e];simp
 ·rw [decide_eq_false (fun x=>e (h.2 x))];simpa using e
theorem leaf_idx:∀ n:Nat,n < 256→Lib.indexByte [126,95,46,33] (UInt8.ofNat n)=(if (n:Int)=126 then 0 else if (n:Int)=95 then 1 else if (n:Int)=46 then 2 else if (n:Int)=33 then 3 else -1):=by decide +kernel
theorem leaf_ev (c:UInt8):strings_IndexByte.f (⟨#[126,95,46,33]⟩:ByteArray) (c.toNat:Int)=some (if (c.toNat:Int)=126 then 0 else if (c.toNat:Int)=95 then 1 else if (c.toNat:Int)=46 then 2 else if (c.toNat:Int)=33 then 3 else -1):=by
 rw [strings_IndexByte.f]
 have h:=leaf_idx c.toNat (UInt8.toNat_lt c)
 rw [← h]
 simp
theorem indexByte_pW:∀ s:List UInt8,Lib.indexByte s 34=(match pW s with|some q=>(q.1.length:Int)|none=>-1)
 | []=>rfl
 | c :: s=>by
  rw [Lib.indexByte,indexByte_pW s,pW]
  have e:=u8_eq c 34 (by omega)
  rw [show (UInt8.ofNat 34)=(34:UInt8) from rfl] at e
  rw [e]
  by_cases h:(c.toNat:Int)=34
  ·rw [if_pos h,decide_eq_true (by simpa using h)]
   rfl
  ·rw [if_neg h,decide_eq_false (by simpa using h)]
   cases pW s with
   | none=>rfl
   | some q =>
    have:¬ ((q.1.length:Int) == -1)=true:=by simp
    simp [this]
theorem pW_split:∀ {s a r:List UInt8},pW s=some (a,r)→s.take a.length=a∧s.drop (a.length+1)=r∧s.length=a.length+1+r.length:=by
 intro s a r h
 obtain ⟨c,_,rfl⟩:=pW_is h
 refine ⟨by simp,?_,by simp;omega⟩
 rw [show a++c :: r=(a++[c])++r by simp,List.drop_left' (by simp)]
theorem cut_eq (l:List UInt8) (hl:l.length≤1099511627776):strings_Cut.f (ba l) (⟨#[34]⟩:ByteArray)=some (match pW l with|some q=>(ba q.1,ba q.2,true)|none=>(ba l,⟨#[]⟩,false)):=by
 have hi:stringslite_Index.f (ba l) (⟨#[34]⟩:ByteArray)=some (Lib.indexByte l 34):=by
  rw [stringslite_Index.f]
  simp only [ba_data]
 rw [strings_Cut.f,stringslite_Cut.f,hi,indexByte_pW]
 cases h:pW l with
 | none=>simp
 | some q =>
  obtain ⟨a,r⟩:=q
  obtain ⟨h1,h2,h3⟩:=pW_split h
  have w1:wrap64 ((a.length:Int)+(((⟨#[34]⟩:ByteArray).size:Nat):Int))=((a.length+1:Nat):Int):=by
   rw [show (((⟨#[34]⟩:ByteArray).size:Nat):Int)=1 from rfl,w64 (by omega) (by omega)]
   omega
  simp only [Option.bind_some,ba_size,w1,if_pos (show (a.length:Int) ≥ 0 by omega),if_pos (show (0:Int)≤(a.length:Int) by omega),if_pos (show (a.length:Int)≤(l.length:Int) by omega),
   if_pos (show (0:Int)≤((a.length+1:Nat):Int) by omega),if_pos (show ((a.length+1:Nat):Int)≤(l.length:Int) by omega),Int.toNat_natCast]
  have e1:(ba l).extract 0 a.length=ba a:=by rw [ba_extract,List.drop_zero,Nat.sub_zero,h1]
  have e2:(ba l).extract (a.length+1) l.length=ba r:=by rw [ba_extract,h2,List.take_of_length_le (by omega)]
  rw [e1,e2]
theorem pre_eq (l:List UInt8) (m:Nat) (hm:m < 256):stringslite_HasPrefix.f (ba l) (⟨#[UInt8.ofNat m]⟩:ByteArray)=some (match l with | []=>false|c :: _=>decide ((c.toNat:Int)=(m:Int))):=by
 rw [stringslite_HasPrefix.f]
 have z:(((⟨#[UInt8.ofNat m]⟩:ByteArray).size:Nat):Int)=1:=rfl
 simp only [z,ba_size]
 cases l with
 | nil=>simp
 | cons c r =>
  have e:(ba (c :: r)).extract 0 (1:Int).toNat=ba [c]:=by rw [ba_extract];rfl
  simp only [List.length_cons,if_pos (show ((r.length+1:Nat):Int) ≥ 1 by omega),if_pos (show (0:Int)≤1 by omega),if_pos (show (1:Int)≤((r.length+1:Nat):Int) by omega),e,ba_toList]
  rw [show (⟨#[UInt8.ofNat m]⟩:ByteArray)=ba [UInt8.ofNat m] from rfl,ba_toList,← u8_eq c m hm]
  simp
theorem cutpre_eq (l:List UInt8) (m:Nat) (hm:m < 256):strings_CutPrefix.f (ba l) (⟨#[UInt8.ofNat m]⟩:ByteArray)=some (match l with | []=>(ba [],false)|c :: r=>if (c.toNat:Int)=(m:Int) then (ba r,true) else (ba (c :: r),false)):=by
 rw [strings_CutPrefix.f,stringslite_CutPrefix.f,pre_eq l m hm]
 have z:(((⟨#[UInt8.ofNat m]⟩:ByteArray).size:Nat):Int)=1:=rfl
 cases l with
 | nil=>simp
 | cons c r =>
  simp only [Option.bind_some,z,ba_size]
  by_cases h:(c.toNat:Int)=(m:Int)
  ·rw [decide_eq_true h,if_pos h]
   have e:(ba (c :: r)).extract (1:Int).toNat (c :: r).length=ba r:=by
    have:=ba_tail (c :: r) 1
    rw [ba_size] at this
    exact this
   simp only [if_true,if_pos (show (0:Int)≤1 by omega),if_pos (show (1:Int)≤((c :: r).length:Int) by simp;omega),Option.bind_some,e]
  ·rw [decide_eq_false h,if_neg h]
   simp
theorem extract1 (c:UInt8) (s:List UInt8):(ba (c :: s)).extract 1 (s.length+1)=ba s:=by
 have:=ba_tail (c :: s) 1
 rw [ba_size] at this
 exact this
def RdI (n:Nat) (s:List UInt8):Prop:=∃ (d:SDoc) (r:List UInt8),Ev (fun k=>impl_parseDoc.f k (ba s) (n:Int)) (d.f0,d.f1,d.f2,d.f3,ba r,(pD n s).isSome)∧∀ d' r',pD n s=some (d',r')→d'=d∧r'=r
theorem implInner_loop {n:Nat} (hn:n+1≤40) (N:Nat) (hN:N≤1099511627776) (IH:∀ s:List UInt8,s.length≤N→RdI n s) (e:Nat) (he:e < 256) (x2:Nat) (hx2:x2≤2) (o c:Int):∀ (m:Nat),m≤x2→∀ (s:List UInt8) (out:List SDoc),s.length≤N→out.length+m=x2 →
  ∃ (d:SDoc) (r:List UInt8),Ev (fun k=>impl_parseDoc.l0 k (ba s) ((n+1:Nat):Int) (⟨#[UInt8.ofNat e]⟩:ByteArray) (x2:Int) (out.length:Int) o c (ba []) out) (d.f0,d.f1,d.f2,d.f3,ba r,(pK (pD n) m (e:Int) s).isSome)∧∀ ks r',pK (pD n) m (e:Int) s=some (ks,r')→d=⟨o,c,ba [],out++ks⟩∧r'=r:=by
 intro m
 induction m with
 | zero =>
  intro _ s out hs ho
  have hc:=cutpre_eq s e he
  match s,hs,hc with
  | [],_,hc =>
   refine ⟨⟨o,c,ba [],out⟩,[],Ev.step (fun k=>by rw [impl_parseDoc.l0]) ?_,fun ks r' hk=>by simp [pK] at hk⟩
   simp only [if_neg (show ¬ ((out.length:Int) < (x2:Int)) by omega),hc,Option.bind_some,pK]
   exact Ev.now _
  | q :: s,_,hc =>
   by_cases h:(q.toNat:Int)=(e:Int)
   ·refine ⟨⟨o,c,ba [],out⟩,s,Ev.step (fun k=>by rw [impl_parseDoc.l0]) ?_,fun ks r' hk=>?_⟩
    ·simp only [if_neg (show ¬ ((out.length:Int) < (x2:Int)) by omega),hc,Option.bind_some,pK,if_pos h]
     exact Ev.now _
    ·rw [pK,if_pos h] at hk
     obtain ⟨rfl,rfl⟩:=Prod.mk.inj (Option.some.inj hk)
     exact ⟨by rw [List.append_nil],rfl⟩
   ·refine ⟨⟨o,c,ba [],out⟩,q :: s,Ev.step (fun k=>by rw [impl_parseDoc.l0]) ?_,fun ks r' hk=>by rw [pK,if_neg h] at hk;cases hk⟩
    simp only [if_neg (show ¬ ((out.length:Int) < (x2:Int)) by omega),hc,Option.bind_some,pK,if_neg h]
    exact Ev.now _
 | succ m ih =>
  intro hm s out hs ho
  obtain ⟨d,r,hd,hd'⟩:=IH s hs
  have w1:wrap64 (((n+1:Nat):Int) - 1)=(n:Int):=by rw [w64 (by omega) (by omega)];omega
  have c1:(out.length:Int) < (x2:Int):=by omega
  cases hp:pD n s with
  | none =>
   rw [hp] at hd
   refine ⟨⟨0,0,⟨#[]⟩,[]⟩,s,Ev.step (fun k=>by rw [impl_parseDoc.l0]) ?_,fun ks r' hk=>by rw [pK,hp] at hk;cases hk⟩
   simp only [if_pos c1,w1]
   refine Ev.bind hd ?_
   simp only [Option.isSome_none,Bool.false_eq_true,if_false]
   rw [pK,hp]
   exact Ev.now _
  | some q =>
   obtain ⟨d1,r1⟩:=q
   obtain ⟨rfl,rfl⟩:=hd' d1 r1 hp
   obtain ⟨_,u,rfl⟩:=pD_good n _ _ _ hp
   obtain ⟨d2,r2,h1,h2⟩:=ih (by omega) r1 (out++[d1]) (by simp at hs;omega) (by simp;omega)
   rw [hp] at hd
   refine ⟨d2,r2,Ev.step (fun k=>by rw [impl_parseDoc.l0]) ?_,fun ks r' hk=>?_⟩
   ·simp only [if_pos c1,w1]
    refine Ev.bind hd ?_
    simp only [Option.isSome_some,if_true,if_pos (show out.length < 2513169434916 by omega),SDoc_eta]
    rw [w64 (by omega) (by omega),show (out.length:Int)+1=((out++[d1]).length:Int) by simp]
    rw [pK,hp]
    have e2:(((some (d1,r1)).bind fun q=>(pK (pD n) m (e:Int) q.2).map fun p=>(q.1 :: p.1,p.2)):Option (List SDoc × List UInt8)).isSome=(pK (pD n) m (e:Int) r1).isSome:=by
     simp only [Option.bind_some]
     cases pK (pD n) m (e:Int) r1 <;> rfl
    rw [e2]
    exact h1
   ·rw [pK,hp] at hk
    simp only [Option.bind_some] at hk
    obtain ⟨⟨l2,r3⟩,h3,h4⟩:=Option.map_eq_some_iff.1 hk
    obtain ⟨rfl,rfl⟩:=Prod.mk.inj h4
    obtain ⟨e3,e4⟩:=h2 l2 r3 h3
    exact ⟨by rw [e3];simp,e4⟩
theorem implRead_ev:∀ n:Nat,n≤40→∀ s:List UInt8,s.length≤1099511627776→RdI n s:=by
 intro n
 induction n with
 | zero =>
  intro _ s hs
  have J:Ev (fun k=>impl_parseDoc.j0 k (ba s) ((0:Nat):Int) true) (0,0,(⟨#[]⟩:ByteArray),([]:List SDoc),ba s,false):=by
   refine Ev.step (fun k=>by rw [impl_parseDoc.j0]) ?_
   simp only [if_true]
   exact Ev.now _
  exact ⟨⟨0,0,⟨#[]⟩,[]⟩,s,Ev.step (fun k=>by rw [impl_parseDoc.f,show (((0:Nat):Int) == 0)=true from rfl]) (Ev.iff (c:=(ba s).toList=[]) (fun _=>J) (fun _=>J)),fun d' r' hp=>by simp [pD] at hp⟩
 | succ n ih =>
  intro hn s hs
  have IH:=ih (by omega)
  match s,hs with
  | [],_ =>
   refine ⟨⟨0,0,⟨#[]⟩,[]⟩,[],Ev.step (fun k=>by rw [impl_parseDoc.f]) ?_,fun d' r' hp=>by simp [pD,pN] at hp⟩
   simp only [if_pos (show (ba []).toList=([]:List UInt8) from ba_toList [])]
   refine Ev.step (fun k=>by rw [impl_parseDoc.j0]) ?_
   simp only [if_true]
   exact Ev.now _
  | c :: s,hs =>
   simp only [List.length_cons] at hs
   have start:∀ R,Ev (fun k=>impl_parseDoc.j0 k (ba (c :: s)) ((n+1:Nat):Int) false) R→Ev (fun k=>impl_parseDoc.f k (ba (c :: s)) ((n+1:Nat):Int)) R:=by
    intro R hR
    refine Ev.step (fun k=>by rw [impl_parseDoc.f]) ?_
    simp only [if_neg (show ¬ (ba (c :: s)).toList=([]:List UInt8) by rw [ba_toList];simp)]
    rw [show (((n+1:Nat):Int) == 0)=false by simp;omega]
    exact hR
   have inner:∀ (s':List UInt8) (m:Nat) (e:Nat) (o q:Int),s'.length≤s.length→m≤2→e < 256→∃ (d:SDoc) (r:List UInt8),Ev (fun k=>impl_parseDoc.j2 k (ba s') ((n+1:Nat):Int) (m:Int) (⟨#[UInt8.ofNat e]⟩:ByteArray) o q (ba [])) (d.f0,d.f1,d.f2,d.f3,ba r,(pK (pD n) m (e:Int) s').isSome)∧∀ ks r',pK (pD n) m (e:Int) s'=some (ks,r')→d=⟨o,q,ba [],ks⟩∧r'=r:=by
    intro s' m e o q hl hm he
    obtain ⟨d,r,h1,h2⟩:=implInner_loop (n:=n) (by omega) 1099511627776 (Nat.le_refl _) IH e he m hm o q m (Nat.le_refl _) s' [] (by omega) (by simp)
    exact ⟨d,r,Ev.step (fun k=>by rw [impl_parseDoc.j2];rfl) h1,fun ks r' hk=>by simpa using h2 ks r' hk⟩
   have hsz:((ba (c :: s)).size:Int)=(s.length:Int)+1:=by rw [ba_size];simp
   have hsz':(ba (c :: s)).size=s.length+1:=by rw [ba_size];simp
   have J:∀ R,(Ev (fun k=>if (if (c.toNat:Int)=126 then (0:Int) else if (c.toNat:Int)=95 then 1 else if (c.toNat:Int)=46 then 2 else if (c.toNat:Int)=33 then 3 else -1) ≥ 0 then
      (if 0≤(if (c.toNat:Int)=126 then (0:Int) else if (c.toNat:Int)=95 then 1 else if (c.toNat:Int)=46 then 2 else if (c.toNat:Int)=33 then 3 else -1) then (if (if (c.toNat:Int)=126 then (0:Int) else if (c.toNat:Int)=95 then 1 else if (c.toNat:Int)=46 then 2 else if (c.toNat:Int)=33 then 3 else -1) < ((([1,3,4,5]:List Int).length:Nat):Int) then
       (some (rd ([1,3,4,5]:List Int) (if (c.toNat:Int)=126 then (0:Int) else if (c.toNat:Int)=95 then 1 else if (c.toNat:Int)=46 then 2 else if (c.toNat:Int)=33 then 3 else -1),(0:Int),(⟨#[]⟩:ByteArray),([]:List SDoc),ba s,true)) else (none)) else (none))
     else (if (c.toNat:Int)=34 then ((strings_Cut.f (ba s) (⟨#[34]⟩:ByteArray)).bind fun bt640=>((impl_word.f bt640.1).bind fun bt643=>(some (bt643.1,bt643.2.1,bt643.2.2.1,bt643.2.2.2,bt640.2.1,bt640.2.2)))) else (if (c.toNat:Int) ≥ 48 then (if (c.toNat:Int)≤57 then ((strings_HasPrefix.f (ba s) (⟨#[60]⟩:ByteArray)).bind fun t649=>(impl_parseDoc.j1 k (ba s) ((n+1:Nat):Int) (c.toNat:Int) 1 t649 0 0 (⟨#[]⟩:ByteArray))) else (impl_parseDoc.j1 k (ba s) ((n+1:Nat):Int) (c.toNat:Int) 1 false 0 0 (⟨#[]⟩:ByteArray))) else (impl_parseDoc.j1 k (ba s) ((n+1:Nat):Int) (c.toNat:Int) 1 false 0 0 (⟨#[]⟩:ByteArray))))) R) →
     Ev (fun k=>impl_parseDoc.j0 k (ba (c :: s)) ((n+1:Nat):Int) false) R:=by
    intro R hR
    refine Ev.step (fun k=>by rw [impl_parseDoc.j0]) ?_
    simp only [Bool.false_eq_true,if_false,hsz',if_pos (show (0:Int) < ((s.length+1:Nat):Int) by omega),if_pos (show (1:Int)≤((s.length+1:Nat):Int) by omega),ba_bt,leaf_ev,Option.bind_some,extract1,impl_leaf.f]
    exact hR
   have leafs:∀ (o i:Int),pD (n+1) (c :: s)=some (⟨o,0,ba [],[]⟩,s)→(if (c.toNat:Int)=126 then (0:Int) else if (c.toNat:Int)=95 then 1 else if (c.toNat:Int)=46 then 2 else if (c.toNat:Int)=33 then 3 else -1)=i→0≤i→i < 4→rd ([1,3,4,5]:List Int) i=o→RdI (n+1) (c :: s):=by
    intro o i hp hi h0 h4 ho
    refine ⟨⟨o,0,ba [],[]⟩,s,start _ (J _ ?_),fun d' r' hd=>by rw [hp] at hd;obtain ⟨e1,e2⟩:=Prod.mk.inj (Option.some.inj hd);exact ⟨e1.symm,e2.symm⟩⟩
    simp only [hi,if_pos (show i ≥ 0 from h0),if_pos h0,if_pos (show i < ((([1,3,4,5]:List Int).length:Nat):Int) from h4),ho,hp]
    exact Ev.now _
   by_cases c1:(c.toNat:Int)=126
   ·exact leafs 1 0 (by rw [pD,pN,if_pos c1]) (by rw [if_pos c1]) (by omega) (by omega) rfl
   by_cases c2:(c.toNat:Int)=95
   ·exact leafs 3 1 (by rw [pD,pN,if_neg c1,if_pos c2]) (by rw [if_neg c1,if_pos c2]) (by omega) (by omega) rfl
   by_cases c3:(c.toNat:Int)=46
   ·exact leafs 4 2 (by rw [pD,pN,if_neg c1,if_neg c2,if_pos c3]) (by rw [if_neg c1,if_neg c2,if_pos c3]) (by omega) (by omega) rfl
   by_cases c4:(c.toNat:Int)=33
   ·exact leafs 5 3 (by rw [pD,pN,if_neg c1,if_neg c2,if_neg c3,if_pos c4]) (by rw [if_neg c1,if_neg c2,if_neg c3,if_pos c4]) (by omega) (by omega) rfl
   have J':∀ R,(Ev (fun k=>if (c.toNat:Int)=34 then ((strings_Cut.f (ba s) (⟨#[34]⟩:ByteArray)).bind fun bt640=>((impl_word.f bt640.1).bind fun bt643=>(some (bt643.1,bt643.2.1,bt643.2.2.1,bt643.2.2.2,bt640.2.1,bt640.2.2)))) else (if (c.toNat:Int) ≥ 48 then (if (c.toNat:Int)≤57 then ((strings_HasPrefix.f (ba s) (⟨#[60]⟩:ByteArray)).bind fun t649=>(impl_parseDoc.j1 k (ba s) ((n+1:Nat):Int) (c.toNat:Int) 1 t649 0 0 (⟨#[]⟩:ByteArray))) else (impl_parseDoc.j1 k (ba s) ((n+1:Nat):Int) (c.toNat:Int) 1 false 0 0 (⟨#[]⟩:ByteArray))) else (impl_parseDoc.j1 k (ba s) ((n+1:Nat):Int) (c.toNat:Int) 1 false 0 0 (⟨#[]⟩:ByteArray)))) R)→Ev (fun k=>impl_parseDoc.f k (ba (c :: s)) ((n+1:Nat):Int)) R:=by
    intro R hR
    refine start _ (J _ ?_)
    simp only [if_neg c1,if_neg c2,if_neg c3,if_neg c4,if_neg (show ¬ ((-1:Int) ≥ 0) by omega)]
    exact hR
   by_cases c5:(c.toNat:Int)=34
   ·have hp:pD (n+1) (c :: s)=(pW s).map fun q=>(⟨2,0,ba q.1,[]⟩,q.2):=by rw [pD,pN,if_neg c1,if_neg c2,if_neg c3,if_neg c4,if_pos c5]
    have hc:=cut_eq s (by omega)
    unfold RdI
    rw [hp]
    cases hq:pW s with
    | none =>
     rw [hq] at hc
     refine ⟨⟨2,0,ba s,[]⟩,[],J' _ ?_,fun d' r' hd=>by cases hd⟩
     simp only [if_pos c5,hc,Option.bind_some,impl_word.f]
     exact Ev.now _
    | some q =>
     rw [hq] at hc
     refine ⟨⟨2,0,ba q.1,[]⟩,q.2,J' _ ?_,fun d' r' hd=>by obtain ⟨e1,e2⟩:=Prod.mk.inj (Option.some.inj hd);exact ⟨e1.symm,e2.symm⟩⟩
     simp only [if_pos c5,hc,Option.bind_some,impl_word.f]
     exact Ev.now _
   have J1:∀ (R:Int × Int × ByteArray × List SDoc × ByteArray × Bool) (b:Bool),b=(decide ((c.toNat:Int) ≥ 48) && (decide ((c.toNat:Int)≤57) && hd60 s))→Ev (fun k=>impl_parseDoc.j1 k (ba s) ((n+1:Nat):Int) (c.toNat:Int) 1 b 0 0 (⟨#[]⟩:ByteArray)) R→Ev (fun k=>impl_parseDoc.f k (ba (c :: s)) ((n+1:Nat):Int)) R:=by
    intro R b hb hR
    refine J' _ ?_
    simp only [if_neg c5]
    refine Ev.iff (fun h1=>Ev.iff (fun h2=>?_) (fun h2=>?_)) (fun h1=>?_)
    ·have hh:strings_HasPrefix.f (ba s) (⟨#[60]⟩:ByteArray)=some (hd60 s):=by
      rw [strings_HasPrefix.f]
      have:=pre_eq s 60 (by omega)
      rw [show (UInt8.ofNat 60)=(60:UInt8) from rfl] at this
      rw [this]
      cases s with
      | nil=>rfl
      | cons q s=>simp only [Option.bind_some,hd60];rfl
     rw [decide_eq_true h1,decide_eq_true h2] at hb
     simp only [hh,Option.bind_some]
     rw [show hd60 s=b by rw [hb];simp]
     exact hR
    ·rw [decide_eq_true h1,decide_eq_false h2] at hb
     simp only [Bool.false_and,Bool.and_false] at hb
     subst hb;exact hR
    ·rw [decide_eq_false h1] at hb
     simp only [Bool.false_and] at hb
     subst hb;exact hR
   by_cases c6:(c.toNat:Int)=40
   ·have hp:pD (n+1) (c :: s)=(pK (pD n) 2 41 s).map fun q=>(⟨7,0,ba [],q.1⟩,q.2):=by rw [pD,pN,if_neg c1,if_neg c2,if_neg c3,if_neg c4,if_neg c5,if_pos c6]
    obtain ⟨d,r,h1,h2⟩:=inner s 2 41 7 0 (Nat.le_refl _) (by omega) (by omega)
    refine ⟨d,r,J1 _ false (by rw [decide_eq_false (show ¬ ((c.toNat:Int) ≥ 48) by omega)];rfl) (Ev.step (fun k=>by rw [impl_parseDoc.j1]) ?_),fun d' r' hd=>?_⟩
    ·simp only [Bool.false_eq_true,if_false,if_pos c6]
     rw [hp,show ((pK (pD n) 2 41 s).map fun q=>((⟨7,0,ba [],q.1⟩:SDoc),q.2)).isSome=(pK (pD n) 2 41 s).isSome by cases pK (pD n) 2 41 s <;> rfl]
     exact h1
    ·rw [hp] at hd
     obtain ⟨⟨ks,r2⟩,e1,e2⟩:=Option.map_eq_some_iff.1 hd
     obtain ⟨rfl,rfl⟩:=Prod.mk.inj e2
     obtain ⟨e3,e4⟩:=h2 ks r2 e1
     exact ⟨e3.symm,e4⟩
   by_cases c7:(c.toNat:Int)=91
   ·have hp:pD (n+1) (c :: s)=(pK (pD n) 1 93 s).map fun q=>(⟨8,0,ba [],q.1⟩,q.2):=by rw [pD,pN,if_neg c1,if_neg c2,if_neg c3,if_neg c4,if_neg c5,if_neg c6,if_pos c7]
    obtain ⟨d,r,h1,h2⟩:=inner s 1 93 8 0 (Nat.le_refl _) (by omega) (by omega)
    refine ⟨d,r,J1 _ false (by rw [decide_eq_false (show ¬ ((c.toNat:Int)≤57) by omega)];simp) (Ev.step (fun k=>by rw [impl_parseDoc.j1]) ?_),fun d' r' hd=>?_⟩
    ·simp only [Bool.false_eq_true,if_false,if_neg c6,if_pos c7]
     rw [hp,show ((pK (pD n) 1 93 s).map fun q=>((⟨8,0,ba [],q.1⟩:SDoc),q.2)).isSome=(pK (pD n) 1 93 s).isSome by cases pK (pD n) 1 93 s <;> rfl]
     exact h1
    ·rw [hp] at hd
     obtain ⟨⟨ks,r2⟩,e1,e2⟩:=Option.map_eq_some_iff.1 hd
     obtain ⟨rfl,rfl⟩:=Prod.mk.inj e2
     obtain ⟨e3,e4⟩:=h2 ks r2 e1
     exact ⟨e3.symm,e4⟩
   by_cases c8:48≤(c.toNat:Int)∧(c.toNat:Int)≤57∧hd60 s=true
   ·have hp:pD (n+1) (c :: s)=(pK (pD n) 1 62 s.tail).map fun q=>(⟨6,(c.toNat:Int) - 48,ba [],q.1⟩,q.2):=by rw [pD,pN,if_neg c1,if_neg c2,if_neg c3,if_neg c4,if_neg c5,if_neg c6,if_neg c7,if_pos c8]
    obtain ⟨c80,c81,c82⟩:=c8
    match s,hs,inner,J1,hp,c82 with
    | q :: s,hs,inner,J1,hp,c82 =>
     simp only [List.length_cons] at hs
     obtain ⟨d,r,h1,h2⟩:=inner s 1 62 6 ((c.toNat:Int) - 48) (by simp) (by omega) (by omega)
     refine ⟨d,r,J1 _ true (by rw [decide_eq_true (show (c.toNat:Int) ≥ 48 from c80),decide_eq_true c81,c82];rfl) (Ev.step (fun k=>by rw [impl_parseDoc.j1]) ?_),fun d' r' hd=>?_⟩
     ·have z1:((ba (q :: s)).size:Int)=(s.length:Int)+1:=by rw [ba_size];simp
      have z2:(ba (q :: s)).size=s.length+1:=by rw [ba_size];simp
      simp only [if_true,z2,if_pos (show (1:Int)≤((s.length+1:Nat):Int) by omega),extract1]
      rw [show ((c.toNat:Int) - 48) % 256=(c.toNat:Int) - 48 by omega,hp]
      simp only [List.tail_cons]
      rw [show ((pK (pD n) 1 62 s).map fun p=>((⟨6,(c.toNat:Int) - 48,ba [],p.1⟩:SDoc),p.2)).isSome=(pK (pD n) 1 62 s).isSome by cases pK (pD n) 1 62 s <;> rfl]
      exact h1
     ·rw [hp] at hd
      simp only [List.tail_cons] at hd
      obtain ⟨⟨ks,r2⟩,e1,e2⟩:=Option.map_eq_some_iff.1 hd
      obtain ⟨rfl,rfl⟩:=Prod.mk.inj e2
      obtain ⟨e3,e4⟩:=h2 ks r2 e1
      exact ⟨e3.symm,e4⟩
    | [],_,_,_,_,c82=>simp [hd60] at c82
   ·have hp:pD (n+1) (c :: s)=none:=by rw [pD,pN,if_neg c1,if_neg c2,if_neg c3,if_neg c4,if_neg c5,if_neg c6,if_neg c7,if_neg c8]
    unfold RdI
    rw [hp]
    refine ⟨⟨0,0,⟨#[]⟩,[]⟩,s,J1 _ false ?_ (Ev.step (fun k=>by rw [impl_parseDoc.j1]) ?_),fun d' r' hd=>by cases hd⟩
    ·symm
     rw [Bool.eq_false_iff]
     intro h
     simp only [Bool.and_eq_true,decide_eq_true_eq] at h
     exact c8 ⟨h.1,h.2.1,h.2.2⟩
    ·simp only [Bool.false_eq_true,if_false,if_neg c6,if_neg c7]
     exact Ev.now _
theorem implParse_ev (s:ByteArray) (hs:s.size≤1099511627776):Ev (fun k=>impl_ParseDoc.f k s) (docR (parseR s.data.toList)):=by
 have hs':s.data.toList.length≤1099511627776:=by rw [← size_data];exact hs
 obtain ⟨d,r,h1,h2⟩:=implRead_ev 40 (Nat.le_refl _) s.data.toList hs'
 rw [ba_of] at h1
 have h1:Ev (fun k=>impl_parseDoc.f k s 40) (d.f0,d.f1,d.f2,d.f3,ba r,(pD 40 s.data.toList).isSome):=h1
 have J:∀ (o n:Int) (t:ByteArray) (ks:List SDoc) (w:Bool),Ev (fun k=>impl_ParseDoc.j0 k w o n t ks) (if w=true then ((0:Int),(0:Int),(⟨#[]⟩:ByteArray),([]:List SDoc),false) else (o,n,t,ks,true)):=by
  intro o n t ks w
  refine Ev.step (fun k=>by rw [impl_ParseDoc.j0]) ?_
  cases w with
  | true=>simp only [if_true];exact Ev.now _
  | false=>simp only [Bool.false_eq_true,if_false];exact Ev.now _
 refine Ev.congr (fun k=>by rw [impl_ParseDoc.f]) (Ev.bind h1 ?_)
 unfold parseR
 cases hp:pD 40 s.data.toList with
 | none =>
  simp only [Option.isSome_none,Bool.false_eq_true,if_false]
  exact J _ _ _ _ true
 | some q =>
  obtain ⟨d',r'⟩:=q
  obtain ⟨rfl,rfl⟩:=h2 d' r' hp
  obtain ⟨hm,u,hu⟩:=pD_good 40 _ _ _ hp
  simp only [Option.isSome_some,if_true]
  match r',hp,hm,hu with
  | [],hp,hm,hu =>
   simp only [if_pos (show (ba []).toList=([]:List UInt8) from ba_toList [])]
   refine Ev.bind (implValid_ev d' (by omega)) ?_
   have:=J d'.f0 d'.f1 d'.f2 d'.f3 (!docV d')
   by_cases hv:docV d'=true
   ·rw [hv] at this ⊢
    simpa [docR] using this
   ·have hv':docV d'=false:=by simpa using hv
    rw [hv'] at this ⊢
    simpa [docR] using this
  | c :: r',hp,hm,hu =>
   simp only [if_neg (show ¬ (ba (c :: r')).toList=([]:List UInt8) by rw [ba_toList];simp)]
   exact J _ _ _ _ true
end Go.Proofs.Ytdhdfmmefghijaa.Pure
namespace Go.Proofs.Ytdhdfmmefghijaa.Pure
open Go.RowKit Go.Proofs.Ytdhdfmmefghijaa.P Go.Proofs.YtdhdfmmefghijaaW.PrintWords Go.Proofs.YtdhdfmmefghijaaW.PrintLast Go.Proofs.YtdhdfmmefghijaaW.PrintMore
set_option linter.unusedVariables false
set_option linter.unusedSimpArgs false
theorem d1 (c:UInt8):(⟨#[c]⟩:ByteArray)=ba [c]:=rfl
theorem pW_app:∀ {a r:List UInt8} {c:UInt8},(∀ b ∈ a,(b.toNat:Int) ≠ 34)→(c.toNat:Int)=34→pW (a++c :: r)=some (a,r)
 | [],r,c,_,hc=>by simp [pW,hc]
 | b :: a,r,c,ha,hc=>by
  rw [List.cons_append,pW,if_neg (ha b (by simp)),pW_app (fun x hx=>ha x (by simp [hx])) hc]
  rfl
theorem good_no34 {b:UInt8} (h:goodB b=true):(b.toNat:Int) ≠ 34:=by
 intro e
 simp only [goodB,goodC,e] at h
 revert h
 decide
theorem tv_no34 {t:ByteArray} (h:tv t=true):∀ b ∈ t.data.toList,(b.toNat:Int) ≠ 34:=by
 simp only [tv,Bool.and_eq_true,decide_eq_true_eq] at h
 exact fun b hb=>good_no34 (List.all_eq_true.1 h.2.2 b hb)
end Go.Proofs.Ytdhdfmmefghijaa.Pure
namespace Go.Proofs.Ytdhdfmmefghijaa.Pure
open Go.RowKit Go.Proofs.Ytdhdfmmefghijaa.P Go.Proofs.YtdhdfmmefghijaaW.PrintWords Go.Proofs.YtdhdfmmefghijaaW.PrintLast Go.Proofs.YtdhdfmmefghijaaW.PrintMore
set_option linter.unusedVariables false
set_option linter.unusedSimpArgs false
theorem docV_text (s:ByteArray):docV ⟨2,0,s,[]⟩=tv s:=by
 rw [Bool.eq_iff_iff,docV_iff,wf_mk,nodeOk_iff]
 simp [wfL,dsz,dszL,docKids]
theorem parse_quote (s:ByteArray):parseR (34 :: (s.data.toList++[34]))=if tv s=true then some ⟨2,0,s,[]⟩ else none:=by
 have e:pD 40 (34 :: (s.data.toList++[34]))=(pW (s.data.toList++[34])).map fun q=>(⟨2,0,ba q.1,[]⟩,q.2):=by
  rw [pD,pN,if_neg (by decide),if_neg (by decide),if_neg (by decide),if_neg (by decide),if_pos (by decide)]
 rw [parseR,e]
 by_cases h:tv s=true
 ·rw [pW_app (tv_no34 h) rfl,if_pos h]
  simp only [Option.map_some,ba_of,docV_text,if_pos h]
 ·rw [if_neg h]
  cases hp:pW (s.data.toList++[34]) with
  | none=>rfl
  | some q =>
   obtain ⟨a,r⟩:=q
   obtain ⟨c,_,hs⟩:=pW_is hp
   cases r with
   | cons x r=>rfl
   | nil =>
    have:s.data.toList=a:=(List.append_inj' hs rfl).1
    subst this
    simp only [Option.map_some,ba_of,docV_text,if_neg h]
theorem FnTextValid:laws_FnTextValid.Pure:=by
 intro l hl _ hw
 refine Ev.rounds (g:=fun k=>laws_FnTextValid.f k l) (Ev.congr (fun k=>by rw [laws_FnTextValid.f]) (big_or ?_))
 obtain ⟨s,hs,hz⟩:=drawText_ev l hl hw
 have hq:((⟨#[34]⟩:ByteArray)++s).size=1+s.size:=by rw [ByteArray.size_append];rfl
 have hq':(((⟨#[34]⟩:ByteArray)++s)++(⟨#[34]⟩:ByteArray)).size=1+s.size+1:=by rw [ByteArray.size_append,hq];rfl
 refine Ev.bind hs (Ev.bind (implText_ev s (by omega)) ?_)
 refine Ev.iff (fun _=>Ev.iff (fun _=>?_) (fun c=>absurd (by omega) c)) (fun c=>absurd (by omega) c)
 refine Ev.bind (implParse_ev _ (by omega)) (Ev.bind (specText_ev s (by omega)) ?_)
 rw [show (((⟨#[34]⟩:ByteArray)++s)++(⟨#[34]⟩:ByteArray)).data.toList=34 :: (s.data.toList++[34]) by simp,parse_quote]
 simp only [beq_self_eq_true,if_true]
 cases h:tv s with
 | true =>
  simp only [if_true,docR,beq_self_eq_true]
  exact Ev.now _
 | false =>
  simp only [Bool.false_eq_true,if_false,docR,beq_self_eq_true,if_true]
  exact Ev.now _
end Go.Proofs.Ytdhdfmmefghijaa.Pure
namespace Go.Proofs.Ytdhdfmmefghijaa
theorem closed3:laidOutB Try.prog=true∧mapsRowed Try.prog=true∧Try.prog.plainKeys=true:=Go.ClosedOfChecked.closed_of_checked Try.checked (by kernel_rfl) (by kernel_rfl) (by kernel_rfl)
def edgesL:List (List Nat):=[[],[],[1],[15,16,17,18],[19,20,21,20,22,22],[23,24,25,25,24,22,22,26,26],[27,26,28,24,28,26],[19,20,21,22,29,24,21,22,29,20,22],[30,31,32,33,34,34,32,34,34,34],[31,34,35,34,34,24,24,36,36],[30,32,33,34,34,24,22,22,22,26,26,26],[37,38,39,38],[40,36,41,41,22,20],[42,17,43,34,34,17,17,24],[40,36,17,24,41,25,34,42,17,43,34,36],[44,46,45],[47],[48,24],[],[23,44,49],[20],[21],[22],[44,51,50,50],[52],[53,54],[24,20],[23],[25,21],[54],[44,51,50,51,50],[44,51,55,51,50,50],[57,56],[58,25,59],[34],[35],[24,60],[44,51,55,50,50],[26,61],[28,62],[23],[25,63],[44,51,63,45],[64,25],[],[55,55,65,55],[65],[66],[47,67,68,69,70,48,71],[55],[59,55,55,50,55,49,49,65],[55,55,43,49,72,25,54,72],[16,52],[73,18,53],[54],[],[24,74],[],[],[59],[60,60,60,60],[61],[62],[75,63,63,63,63],[76,77,77,77],[55],[78],[],[79],[],[80],[81],[55,46,55,72,49,72,72,55,72,72,58,58,72,72,58,58,72,72,58],[],[74],[75],[],[64],[],[82],[],[80],[66,83,66,84,83,85],[],[],[86],[],[],[],[],[],[],[],[],[],[],[],[],[],[],[],[],[],[]]
theorem edges:Try.prog.funcs.toList.map Try.prog.leadsTo=edgesL:=by kernel_rfl
def clo (E:List (List Nat)):Nat→List Nat→List Nat→List Nat
 | 0,_,seen=>seen.reverse
 | _,[],seen=>seen.reverse
 | n+1,f :: todo,seen=>if seen.contains f then clo E n todo seen else clo E n ((E[f]?).getD []++todo) (f :: seen)
set_option maxRecDepth 100000 in
theorem elim_edges (f:Nat):(Try.prog.funcs[f]?).elim [] Try.prog.leadsTo=(edgesL[f]?).getD []:=by
 rw [← edges,List.getElem?_map,Array.getElem?_toList]
 cases Try.prog.funcs[f]? <;> rfl
theorem closureVia_clo:∀ (n:Nat) (todo seen:List Nat),Try.prog.closureVia n todo seen=clo edgesL n todo seen
 | 0,_,_=>by simp [Program.closureVia,clo]
 | n+1,[],_=>by simp [Program.closureVia,clo]
 | n+1,f :: todo,seen=>by
  rw [Program.closureVia,clo,elim_edges,closureVia_clo n,closureVia_clo n]
def fuelE:Nat:=1+(edgesL.map fun l=>l.length+1).sum
set_option maxRecDepth 100000 in
theorem fuel_eq:1+(Try.prog.funcs.toList.map fun g=>(Try.prog.leadsTo g).length+1).sum=fuelE:=by
 rw [fuelE,← edges,List.map_map]
 rfl
theorem closure_clo (f:Nat):Try.prog.closure f=clo edgesL fuelE [f] []:=by
 rw [Program.closure,fuel_eq,closureVia_clo]
noncomputable def unfB (fn:Func):Bool:=match fn.body with|some c=>c.unfollowed|none=>entryCalls fn
noncomputable def unfL:List Bool:=Try.prog.funcs.toList.map unfB
set_option maxRecDepth 100000 in
theorem any_unf (f:Nat):((Try.prog.funcs[f]?).any fun fn=>match fn.body with|some c=>c.unfollowed|none=>entryCalls fn)=(unfL[f]?).getD false:=by
 rw [unfL,List.getElem?_map,Array.getElem?_toList]
 cases Try.prog.funcs[f]? <;> rfl
set_option maxRecDepth 100000 in
theorem unfollowed_of {f:Nat} {L:List Nat} (h:clo edgesL fuelE [f] []=L):Try.prog.unfollowed f=L.any fun g=>(unfL[g]?).getD false:=by
 rw [Program.unfollowed,closure_clo,h]
 congr 1
 funext g
 exact any_unf g
set_option maxRecDepth 100000 in
theorem recurses_of {f:Nat} {L:List Nat} (h:clo edgesL fuelE [f] []=L):Try.prog.recurses f=((L.any fun g=>(unfL[g]?).getD false) || L.any fun g=>((edgesL[g]?).getD []).any fun h=>(clo edgesL fuelE [h] []).contains g):=by
 rw [Program.recurses,unfollowed_of h,closure_clo,h]
 congr 1
 congr 1
 funext g
 rw [elim_edges]
 congr 1
 funext h
 rw [closure_clo]
def signs:List Char:=([104,97,114,110,101,115,115,32,50,54,100,52,101,52,102,53,97,56,53,54,57,100,98,57,98,55,99,101,48,57,101,101,51,49,51,101,50,53,49,57,55,102,56,55,99,52,55,52,53,50,49,49,99,101,55,101,101,51,100,102,53,102,102,53,52,98,98,54,51,49,102,55,32,99,117,116,32,97,116,32,108,111,111,112,46,101,120,97,109,112,108,101,47,100,111,99,97,108,103,101,98,114,97,47,108,97,119,115,46,70,110,84,101,120,116,86,97,108,105,100,32,108,111,111,112,46,101,120,97,109,112,108,101,47,100,111,99,97,108,103,101,98,114,97,47,108,97,119,115,46,70,110,67,111,117,110,116,80,97,114,116,115,32,108,111,111,112,46,101,120,97,109,112,108,101,47,100,111,99,97,108,103,101,98,114,97,47,108,97,119,115,46,70,110,68,111,99,80,97,114,116,115,32,108,111,111,112,46,101,120,97,109,112,108,101,47,100,111,99,97,108,103,101,98,114,97,47,108,97,119,115,46,70,110,70,108,97,116,116,101,110,80,97,114,116,115,32,108,111,111,112,46,101,120,97,109,112,108,101,47,100,111,99,97,108,103,101,98,114,97,47,108,97,119,115,46,70,110,67,111,117,110,116,79,112,115,32,108,111,111,112,46,101,120,97,109,112,108,101,47,100,111,99,97,108,103,101,98,114,97,47,108,97,119,115,46,70,110,67,97,116,83,97,109,101,32,108,111,111,112,46,101,120,97,109,112,108,101,47,100,111,99,97,108,103,101,98,114,97,47,108,97,119,115,46,70,110,68,111,99,83,97,109,101,32,108,111,111,112,46,101,120,97,109,112,108,101,47,100,111,99,97,108,103,101,98,114,97,47,108,97,119,115,46,70,110,67,97,116,68,111,99,115,32,108,111,111,112,46,101,120,97,109,112,108,101,47,100,111,99,97,108,103,101,98,114,97,47,108,97,119,115,46,70,110,70,108,97,116,84,101,120,116,32,108,111,111,112,46,101,120,97,109,112,108,101,47,100,111,99,97,108,103,101,98,114,97,47,108,97,119,115,46,70,110,68,111,99,66,121,116,101,115,32,108,111,111,112,46,101,120,97,109,112,108,101,47,100,111,99,97,108,103,101,98,114,97,47,108,97,119,115,46,70,110,80,97,114,115,101,83,105,122,101,32,108,111,111,112,46,101,120,97,109,112,108,101,47,100,111,99,97,108,103,101,98,114,97,47,108,97,119,115,46,70,110,68,111,99,84,101,120,116]:List Nat).map Char.ofNat
def wordsL:List (List Char):=([[104,97,114,110,101,115,115],[50,54,100,52,101,52,102,53,97,56,53,54,57,100,98,57,98,55,99,101,48,57,101,101,51,49,51,101,50,53,49,57,55,102,56,55,99,52,55,52,53,50,49,49,99,101,55,101,101,51,100,102,53,102,102,53,52,98,98,54,51,49,102,55],[99,117,116],[97,116],[108,111,111,112,46,101,120,97,109,112,108,101,47,100,111,99,97,108,103,101,98,114,97,47,108,97,119,115,46,70,110,84,101,120,116,86,97,108,105,100],[108,111,111,112,46,101,120,97,109,112,108,101,47,100,111,99,97,108,103,101,98,114,97,47,108,97,119,115,46,70,110,67,111,117,110,116,80,97,114,116,115],[108,111,111,112,46,101,120,97,109,112,108,101,47,100,111,99,97,108,103,101,98,114,97,47,108,97,119,115,46,70,110,68,111,99,80,97,114,116,115],[108,111,111,112,46,101,120,97,109,112,108,101,47,100,111,99,97,108,103,101,98,114,97,47,108,97,119,115,46,70,110,70,108,97,116,116,101,110,80,97,114,116,115],[108,111,111,112,46,101,120,97,109,112,108,101,47,100,111,99,97,108,103,101,98,114,97,47,108,97,119,115,46,70,110,67,111,117,110,116,79,112,115],[108,111,111,112,46,101,120,97,109,112,108,101,47,100,111,99,97,108,103,101,98,114,97,47,108,97,119,115,46,70,110,67,97,116,83,97,109,101],[108,111,111,112,46,101,120,97,109,112,108,101,47,100,111,99,97,108,103,101,98,114,97,47,108,97,119,115,46,70,110,68,111,99,83,97,109,101],[108,111,111,112,46,101,120,97,109,112,108,101,47,100,111,99,97,108,103,101,98,114,97,47,108,97,119,115,46,70,110,67,97,116,68,111,99,115],[108,111,111,112,46,101,120,97,109,112,108,101,47,100,111,99,97,108,103,101,98,114,97,47,108,97,119,115,46,70,110,70,108,97,116,84,101,120,116],[108,111,111,112,46,101,120,97,109,112,108,101,47,100,111,99,97,108,103,101,98,114,97,47,108,97,119,115,46,70,110,68,111,99,66,121,116,101,115],[108,111,111,112,46,101,120,97,109,112,108,101,47,100,111,99,97,108,103,101,98,114,97,47,108,97,119,115,46,70,110,80,97,114,115,101,83,105,122,101],[108,111,111,112,46,101,120,97,109,112,108,101,47,100,111,99,97,108,103,101,98,114,97,47,108,97,119,115,46,70,110,68,111,99,84,101,120,116]]:List (List Nat)).map (List.map Char.ofNat)
theorem headI:Try.prog.initOrder=String.ofList signs:=by kernel_rfl
theorem headS:wordsSigns Try.prog.initOrder.toList=wordsL:=by
 rw [headI,String.toList_ofList]
 kernel_rfl
theorem headLifts_of {P : Program} {ws} (h : wordsSigns P.initOrder.toList = ws) : P.headLifts = if ((stripLifts liftWords (behindMainWord ws)).2.head? == some "cut".toList) = true then (stripLifts liftWords (behindMainWord ws)).1 else [] := by
 subst h;rfl
theorem headL:Try.prog.headLifts=[]:=(headLifts_of headS).trans (by kernel_rfl)
theorem liftsFinal_of {P : Program} {ws l} (h : wordsSigns P.initOrder.toList = ws) (hl : P.headLifts = l) : P.liftsFinal = (((behindMainWord ws).head? == some "carried".toList && (behindMainWord ws).take 3 != ["carried".toList, "gc".toList, "cut".toList]) || l.contains "finals") := by
 subst h;subst hl;rfl
theorem liftsF:Try.prog.liftsFinal=false:=(liftsFinal_of headS headL).trans (by kernel_rfl)
theorem mayEnter_of {P:Program} (h:wordsSigns P.initOrder.toList=wordsL) (h1:P.laysLater=false) (h2:P.bearsReflect=false):P.mayEnter=P.doorFits []:=by
 delta Program.mayEnter
 rw [h,h1,h2]
 kernel_rfl
theorem mayE:Try.prog.mayEnter=true:=(mayEnter_of headS (by kernel_rfl) (by kernel_rfl)).trans (by kernel_rfl)
theorem make_of {P:Program} (h:wordsSigns P.initOrder.toList=wordsL):P.make=some .cut:=by
 delta Program.make
 rw [h]
 kernel_rfl
theorem makeC:Try.prog.make=some .cut:=make_of headS
end Go.Proofs.Ytdhdfmmefghijaa
