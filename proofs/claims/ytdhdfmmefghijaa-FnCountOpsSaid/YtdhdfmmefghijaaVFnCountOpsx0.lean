/- CONTRACTS and lemmas for the law FnCountOps. -/
import Derived.Test.YtdhdfmmefghijaaVLc8
namespace Go.Proofs.Ytdhdfmmefghijaa.P
open Go.RowKit Go.Proofs.YtdhdfmmefghijaaW.PrintWords Go.Proofs.YtdhdfmmefghijaaW.PrintLast Go.Proofs.YtdhdfmmefghijaaW.PrintMore
attribute [local go_sem] max2_int min2_int max_two min_two max_three min_three max_four min_four
set_option linter.unusedVariables false
set_option linter.unusedSimpArgs false
mutual
def laws_FnCountOps.j0:Nat→Int→Int→Bool→Int→Int→ByteArray→List (SDoc)→Option (Bool)
 | 0,_,_,_,_,_,_,_=>none
 | k+1,x4,x5,x35,x452000,x452001,x452002,x452003=>if x35=true then ((spec_CountOps.f k x452000 x452001 x452002 x452003 x4).bind fun t457=>(if x5=t457 then ((impl_DocSize.f k x452000 x452001 x452002 x452003).bind fun t458=>((spec_DocSize.f k x452000 x452001 x452002 x452003).bind fun t459=>(some (t458 == t459)))) else (none))) else (laws_FnCountOps.l0 k x5 0 1 x452000 x452001 x452002 x452003)
def laws_FnCountOps.l0:Nat→Int→Int→Int→Int→Int→ByteArray→List (SDoc)→Option (Bool)
 | 0,_,_,_,_,_,_,_=>none
 | k+1,x5,x6,x7,x452000,x452001,x452002,x452003=>if x7≤8 then ((impl_CountOps.f k x452000 x452001 x452002 x452003 x7).bind fun t460=>(laws_FnCountOps.l0 k x5 (wrap64 (x6+t460)) (wrap64 (x7+1)) x452000 x452001 x452002 x452003)) else ((impl_DocSize.f k x452000 x452001 x452002 x452003).bind fun t461=>(if x6=t461 then (some (decide (x5≤x6))) else (none)))
end
def laws_FnCountOps.f (k:Nat) (l0:List Int):Option (Bool):=if (l0.length:Int)>1048576 then (some true) else ((spec_DrawCountOps.f k l0).bind fun bt444=>((impl_CountOps.f k bt444.1 bt444.2.1 bt444.2.2.1 bt444.2.2.2.1 bt444.2.2.2.2).bind fun t452=>((spec_CountOps.f k bt444.1 bt444.2.1 bt444.2.2.1 bt444.2.2.2.1 bt444.2.2.2.2).bind fun t453=>(if t452=t453 then ((impl_DocSize.f k bt444.1 bt444.2.1 bt444.2.2.1 bt444.2.2.2.1).bind fun t454=>((spec_DocSize.f k bt444.1 bt444.2.1 bt444.2.2.1 bt444.2.2.2.1).bind fun t455=>(if t454=t455 then ((impl_DocValid.f k bt444.1 bt444.2.1 bt444.2.2.1 bt444.2.2.2.1).bind fun t456=>(laws_FnCountOps.j0 k bt444.2.2.2.2 t452 (!t456) bt444.1 bt444.2.1 bt444.2.2.1 bt444.2.2.2.1)) else (laws_FnCountOps.j0 k bt444.2.2.2.2 t452 true bt444.1 bt444.2.1 bt444.2.2.1 bt444.2.2.2.1)))) else (laws_FnCountOps.j0 k bt444.2.2.2.2 t452 true bt444.1 bt444.2.1 bt444.2.2.1 bt444.2.2.2.1)))))
def laws_FnCountOps.T5:Bool×List (List Nat×List Nat):=(true,[([],[]),([],[]),([],[]),([1,2],[1,2]),([0,3],[0,3]),([4,3],[4]),([5],[5]),([6,5,5],[5,6]),([5],[5]),([8,7,5],[5,8]),([7,9,5],[5,7,9]),([5,10],[5,10]),([11,9],[11]),([12],[12]),([13,12,12],[12,13]),([14,12],[12,14]),([12,15],[12,15])])
def laws_FnCountOps.B5:List Nat:=[0,0,0,6,15,31,63,127,63,511,1023,2047,4095,8191,16383,32767,65535]
theorem laws_FnCountOps.tab5:rtab .any (opsOf Try.f7 5)=laws_FnCountOps.T5:=by kernel_rfl
theorem laws_FnCountOps.bits5:waitsOk laws_FnCountOps.T5.2 laws_FnCountOps.B5=true:=by kernel_rfl
def laws_FnCountOps.T6:Bool×List (List Nat×List Nat):=(true,[([],[]),([],[]),([],[]),([1,2],[1,2]),([0,3],[0,3]),([4,3],[4]),([5],[5]),([6,5,5],[5,6]),([5],[5]),([8,7,5],[5,8]),([7,9,5],[5,7,9]),([5,10],[5,10]),([11,9,0,1,2,3,4,5,6,7,8,9,10,11],[11])])
def laws_FnCountOps.B6:List Nat:=[0,0,0,6,15,31,63,127,63,511,1023,2047,4095]
theorem laws_FnCountOps.tab6:rtab .any (opsOf Try.f7 6)=laws_FnCountOps.T6:=by kernel_rfl
theorem laws_FnCountOps.bits6:waitsOk laws_FnCountOps.T6.2 laws_FnCountOps.B6=true:=by kernel_rfl
set_option maxHeartbeats 8000000 in
set_option maxRecDepth 100000 in
theorem laws_FnCountOps.calls (k:Nat) (A0:Option Addr) (c0:Nat) (l0:List Int) (r:Bool) (w:World) (hr0:Kd.C (Kd.int .u8) w A0 l0.length l0) (hc0:l0.length≤c0) (h:laws_FnCountOps.f k l0=some r) :
  Calls Try.prog 7 #[.slice A0 l0.length c0] w fun e w'=>e=.returned (.bool r)∧Below w.heap.size w w':=by
 have hu27:=Try.underlying27
 have HR0:=Aside0.mk hr0
 have HC0:=Aside0.mk hc0
 clear hr0 hc0
 have HB:=Aside0.mk (Below.refl w.heap.size w)
 have H:(if (l0.length:Int)>1048576 then (some true) else ((spec_DrawCountOps.f k l0).bind fun bt444=>((impl_CountOps.f k bt444.1 bt444.2.1 bt444.2.2.1 bt444.2.2.2.1 bt444.2.2.2.2).bind fun t452=>((spec_CountOps.f k bt444.1 bt444.2.1 bt444.2.2.1 bt444.2.2.2.1 bt444.2.2.2.2).bind fun t453=>(if t452=t453 then ((impl_DocSize.f k bt444.1 bt444.2.1 bt444.2.2.1 bt444.2.2.2.1).bind fun t454=>((spec_DocSize.f k bt444.1 bt444.2.1 bt444.2.2.1 bt444.2.2.2.1).bind fun t455=>(if t454=t455 then ((impl_DocValid.f k bt444.1 bt444.2.1 bt444.2.2.1 bt444.2.2.2.1).bind fun t456=>(laws_FnCountOps.j0 k bt444.2.2.2.2 t452 (!t456) bt444.1 bt444.2.1 bt444.2.2.1 bt444.2.2.2.1)) else (laws_FnCountOps.j0 k bt444.2.2.2.2 t452 true bt444.1 bt444.2.1 bt444.2.2.1 bt444.2.2.2.1)))) else (laws_FnCountOps.j0 k bt444.2.2.2.2 t452 true bt444.1 bt444.2.1 bt444.2.2.1 bt444.2.2.2.1))))))=some r:=h
 clear h
 by_cases c2:(l0.length:Int)>1048576
 ·rw [if_pos c2] at H
  have c2b0:decide (1048576<(l0.length:Int))=true:=decide_eq_true c2
  have c2b1:decide (1048576<l0.length)=true:=decide_eq_true (by omega)
  clear c2
  obtain rfl:=Option.some.inj H
  go_enter Try.func7,Try.ntmps7
  go_wp2
  go_ret
  exact ⟨by first|rfl|(simp [errW_none,errW_some] <;> rfl)|(simp [*,errW_none,errW_some] <;> rfl),by repeat (first|(with_reducible first|exact HB.out|apply below_alloc|apply pw_below_drewN|apply below_drew1)|exact HB.out)⟩
 ·rw [if_neg c2] at H
  have c2b0:decide (1048576<(l0.length:Int))=false:=decide_eq_false c2
  have c2b1:decide (1048576<l0.length)=false:=decide_eq_false (by omega)
  clear c2
  replace H:=Option.bind_eq_some_iff.mp H
  obtain ⟨⟨t444,t445,t446,t447,t450⟩,A30,H⟩:=H
  replace H:((impl_CountOps.f k t444 t445 t446 t447 t450).bind fun t452=>((spec_CountOps.f k t444 t445 t446 t447 t450).bind fun t453=>(if t452=t453 then ((impl_DocSize.f k t444 t445 t446 t447).bind fun t454=>((spec_DocSize.f k t444 t445 t446 t447).bind fun t455=>(if t454=t455 then ((impl_DocValid.f k t444 t445 t446 t447).bind fun t456=>(laws_FnCountOps.j0 k t450 t452 (!t456) t444 t445 t446 t447)) else (laws_FnCountOps.j0 k t450 t452 true t444 t445 t446 t447)))) else (laws_FnCountOps.j0 k t450 t452 true t444 t445 t446 t447))))=some r:=H
  have A3:=Aside0.mk A30
  clear A30
  replace H:=Option.bind_eq_some_iff.mp H
  obtain ⟨t452,A40,H⟩:=H
  replace H:((spec_CountOps.f k t444 t445 t446 t447 t450).bind fun t453=>(if t452=t453 then ((impl_DocSize.f k t444 t445 t446 t447).bind fun t454=>((spec_DocSize.f k t444 t445 t446 t447).bind fun t455=>(if t454=t455 then ((impl_DocValid.f k t444 t445 t446 t447).bind fun t456=>(laws_FnCountOps.j0 k t450 t452 (!t456) t444 t445 t446 t447)) else (laws_FnCountOps.j0 k t450 t452 true t444 t445 t446 t447)))) else (laws_FnCountOps.j0 k t450 t452 true t444 t445 t446 t447)))=some r:=H
  have A4:=Aside0.mk A40
  clear A40
  have HC5:=Aside0.mk H
  clear H
  go_enter Try.func7,Try.ntmps7
  go_upto_region 5 with (first|((with_reducible refine gate_callee (f:=19) rfl ?_);refine goesL_ (some 13) rfl rfl Try.func19 (by kernel_rfl) rfl #[.slice A0 l0.length c0] rfl (by (try simp only [List.map_toArray,List.map_cons,List.map_nil]);first|done|rfl|(simp only [List.length_drop,List.length_take];rfl)) ?_;(with_reducible refine (spec_DrawCountOps.calls k _ _ l0 t444 t445 t446 t447 t450 _ ?side1 ?side2 A3.out).mono ?_);(case side1=>repeat (first|exact HR0.out|(with_reducible refine Kd.C_alloc ?_ _)|(with_reducible refine Kd.C_drewN ?_ _)|(with_reducible refine Kd.C_drew ?_)));(case side2=>exact HC0.out);rintro e w6 ⟨v448,rfl,ho0,hb⟩;refine ⟨_,rfl,?_⟩;have n0_:=Aside0.mk (Kd.N_lower (Kd.N_mono (ok':=fun k_=>True) ho0 (fun k_ hk_=>trivial)) (below_size (by repeat (first|(with_reducible first|exact HB.out|apply below_alloc|apply pw_below_drewN|apply below_drew1)|exact HB.out))));have n1_:=Aside0.mk (below_step (by repeat (first|(with_reducible first|exact HB.out|apply below_alloc|apply pw_below_drewN|apply below_drew1)|exact HB.out)) hb);clear HB;have HO449:=n0_;have HB:=n1_;clear n0_ n1_;(try clear hb);(try clear hb2);(try clear hk);(try clear hi);(try clear ho0))|((with_reducible refine gate_dst (N:=3) rfl ?_);refine box_event ?hg (N:=3) ?hd (cs:=#[.int .i64 0,.int .i64 0,.string (⟨#[]⟩:ByteArray),.slice none 0 0]) (t:=27) ?hr ?_;(case hd=>rfl);(case hg=>rfl);(case hr=>first|(go_simp;done)|(go_simp;rfl));intro gb451 hg w7 hbox hb;have n0_:=Aside0.mk (Kd.N_below (Kd.N_elderB (by (with_reducible repeat (first|apply Kd.N_alloc|apply Kd.N_drewN|apply Kd.N_drew));exact HO449.out) gb451 (Nat.le_of_eq hg.symm)) hb);have n1_:=Aside0.mk (below_step (by repeat (first|(with_reducible first|exact HB.out|apply below_alloc|apply pw_below_drewN|apply below_drew1)|exact HB.out)) hb);have n2_:=Aside0.mk (hbox);have n3_:=Aside0.mk ((by rw [hg];exact (below_size (by repeat (first|(with_reducible first|exact HB.out|apply below_alloc|apply pw_below_drewN|apply below_drew1)|exact HB.out))):w.heap.size≤gb451));have n4_:=Aside0.mk ((by rw [hg];exact (below_size (by repeat (first|(with_reducible first|exact HB.out|apply below_alloc|apply pw_below_drewN|apply below_drew1)|exact HB.out))):w.heap.size≤gb451));clear HO449;clear HB;have HO449:=n0_;have HB:=n1_;have BK451:=n2_;have GW451:=n3_;have GE451:=n4_;clear n0_ n1_ n2_ n3_ n4_;clear hb hbox hg;have hcz8_0:w7.cell? ⟨gb451,0,none⟩=some (.int .i64 0):=(blk_cell BK451.out 0).trans rfl;have hcz8_1:w7.cell? ⟨gb451,1,none⟩=some (.int .i64 0):=(blk_cell BK451.out 1).trans rfl;have hcz8_2:w7.cell? ⟨gb451,2,none⟩=some (.string (⟨#[]⟩:ByteArray)):=(blk_cell BK451.out 2).trans rfl;have hcz8_3:w7.cell? ⟨gb451,3,none⟩=some (.slice none 0 0):=(blk_cell BK451.out 3).trans rfl;have hfz8_0:=blk_frozen BK451.out 0;have hfz8_1:=blk_frozen BK451.out 1;have hfz8_2:=blk_frozen BK451.out 2;have hfz8_3:=blk_frozen BK451.out 3;obtain ⟨Ao9,co9,eo9⟩:=Kd.N_slice HO449.out;subst eo9)|((with_reducible refine gate_callee (f:=20) rfl ?_);refine goesL_ (some 18) rfl rfl Try.func20 (by kernel_rfl) rfl #[.agg #[.int .i64 t444,.int .i64 t445,.string t446,.slice Ao9 t447.length co9],.int .i64 t450] rfl (by (try simp only [List.map_toArray,List.map_cons,List.map_nil]);first|done|rfl|(simp only [List.length_drop,List.length_take];rfl)) ?_;(with_reducible refine (impl_CountOps.calls k t444 t445 t446 _ _ t447 t450 t452 _ ?side1 ?side2 A4.out).mono ?_);(case side1=>exact (Kd.N_reads' (e:=27) (base:=w.heap.size) (n:=t447.length) (c:=co9) (by (with_reducible repeat (first|apply Kd.N_alloc|apply Kd.N_drewN|apply Kd.N_drew));exact (Kd.N_mono (Kd.N_far (p:=⟨gb451,3,none⟩) (Kd.N_far (p:=⟨gb451,2,none⟩) (Kd.N_far (p:=⟨gb451,1,none⟩) (Kd.N_far (p:=⟨gb451,0,none⟩) (Kd.N_mono HO449.out (fun k_ hk=>(⟨hk,hk.2⟩:_∧k_≠gb451))) (fun _ hk=>hk.2) (.int .i64 t444)) (fun _ hk=>hk.2) (.int .i64 t445)) (fun _ hk=>hk.2) (.string t446)) (fun _ hk=>hk.2) (.slice Ao9 t447.length co9)) (fun _ h_=>h_.1)))).2.2);(case side2=>exact (Kd.N_reads' HO449.out).2.1);rintro e w10 ⟨rfl,hb⟩;refine ⟨_,rfl,?_⟩;have n0_:=Aside0.mk (Kd.N_below (by (with_reducible repeat (first|apply Kd.N_alloc|apply Kd.N_drewN|apply Kd.N_drew));exact (Kd.N_mono (Kd.N_far (p:=⟨gb451,3,none⟩) (Kd.N_far (p:=⟨gb451,2,none⟩) (Kd.N_far (p:=⟨gb451,1,none⟩) (Kd.N_far (p:=⟨gb451,0,none⟩) (Kd.N_mono HO449.out (fun k_ hk=>(⟨hk,hk.2⟩:_∧k_≠gb451))) (fun _ hk=>hk.2) (.int .i64 t444)) (fun _ hk=>hk.2) (.int .i64 t445)) (fun _ hk=>hk.2) (.string t446)) (fun _ hk=>hk.2) (.slice Ao9 t447.length co9)) (fun _ h_=>h_.1))) hb);have n1_:=Aside0.mk (blk_below (g:=gb451) (o:=.cells #[.int .i64 t444,.int .i64 t445,.string t446,.slice Ao9 t447.length co9] 27 (0,0)) (by (with_reducible repeat (first|refine blk_drewN ?_ _|refine blk_drew ?_|refine blk_alloc ?_ _));refine blk_put (cs:=#[.int .i64 t444,.int .i64 t445,.string t446,.slice none 0 0]) ?_ 3 _ rfl;(with_reducible repeat (first|refine blk_drewN ?_ _|refine blk_drew ?_|refine blk_alloc ?_ _));refine blk_put (cs:=#[.int .i64 t444,.int .i64 t445,.string (⟨#[]⟩:ByteArray),.slice none 0 0]) ?_ 2 _ rfl;(with_reducible repeat (first|refine blk_drewN ?_ _|refine blk_drew ?_|refine blk_alloc ?_ _));refine blk_put (cs:=#[.int .i64 t444,.int .i64 0,.string (⟨#[]⟩:ByteArray),.slice none 0 0]) ?_ 1 _ rfl;(with_reducible repeat (first|refine blk_drewN ?_ _|refine blk_drew ?_|refine blk_alloc ?_ _));refine blk_put (cs:=#[.int .i64 0,.int .i64 0,.string (⟨#[]⟩:ByteArray),.slice none 0 0]) ?_ 0 _ rfl;(with_reducible repeat (first|refine blk_drewN ?_ _|refine blk_drew ?_|refine blk_alloc ?_ _));exact BK451.out) hb);have n2_:=Aside0.mk (below_step (by repeat (first|(with_reducible first|exact HB.out|apply below_alloc|apply pw_below_drewN|apply below_drew1|refine below_set ?_ GE451.out)|exact HB.out)) hb);clear HO449;clear BK451;clear HB;have HO449:=n0_;have BK451:=n1_;have HB:=n2_;clear n0_ n1_ n2_;(try clear hb);(try clear hb2);(try clear hk);(try clear hi)))
  (try simp only [Act.put,List.setIfInBounds_toArray,List.set_cons_zero,List.set_cons_succ])
  go_cut [35] (fun v35 wc=>∃ (kq:Nat) (x35_4:Bool),v35=.bool x35_4∧Aside0 (laws_FnCountOps.j0 kq t450 t452 x35_4 t444 t445 t446 t447=some r)∧Aside0 (kq≤k)∧Aside0 (Kd.N k27 27 wc w.heap.size (fun k_=>k_≠gb451) (.slice Ao9 t447.length co9) t447)∧Aside0 (wc.heap[gb451]?=some (.cells #[.int .i64 t444,.int .i64 t445,.string t446,(.slice Ao9 t447.length co9)] 27 (0,0)))∧Aside0 (Below w.heap.size w wc))
  case first =>
   have H:=HC5.out
   clear HC5
   replace H:=Option.bind_eq_some_iff.mp H
   obtain ⟨t453,A110,H⟩:=H
   replace H:(if t452=t453 then ((impl_DocSize.f k t444 t445 t446 t447).bind fun t454=>((spec_DocSize.f k t444 t445 t446 t447).bind fun t455=>(if t454=t455 then ((impl_DocValid.f k t444 t445 t446 t447).bind fun t456=>(laws_FnCountOps.j0 k t450 t452 (!t456) t444 t445 t446 t447)) else (laws_FnCountOps.j0 k t450 t452 true t444 t445 t446 t447)))) else (laws_FnCountOps.j0 k t450 t452 true t444 t445 t446 t447))=some r:=H
   have A11:=Aside0.mk A110
   clear A110
   by_cases c12:t452=t453
   ·rw [if_pos c12] at H
    have c12b0:(t452 == t453)=true:=beq_iff_eq.mpr c12
    have c12b1:(t452 != t453)=false:=bne_eq_false_iff_eq.mpr c12
    clear c12
    (first|rw [c12b0]|(simp only [i64_w,i32_w];rw [c12b0])|skip)
    replace H:=Option.bind_eq_some_iff.mp H
    obtain ⟨t454,A130,H⟩:=H
    replace H:((spec_DocSize.f k t444 t445 t446 t447).bind fun t455=>(if t454=t455 then ((impl_DocValid.f k t444 t445 t446 t447).bind fun t456=>(laws_FnCountOps.j0 k t450 t452 (!t456) t444 t445 t446 t447)) else (laws_FnCountOps.j0 k t450 t452 true t444 t445 t446 t447)))=some r:=H
    have A13:=Aside0.mk A130
    clear A130
    replace H:=Option.bind_eq_some_iff.mp H
    obtain ⟨t455,A140,H⟩:=H
    replace H:(if t454=t455 then ((impl_DocValid.f k t444 t445 t446 t447).bind fun t456=>(laws_FnCountOps.j0 k t450 t452 (!t456) t444 t445 t446 t447)) else (laws_FnCountOps.j0 k t450 t452 true t444 t445 t446 t447))=some r:=H
    have A14:=Aside0.mk A140
    clear A140
    by_cases c15:t454=t455
    ·rw [if_pos c15] at H
     have c15b0:(t454 == t455)=true:=beq_iff_eq.mpr c15
     have c15b1:(t454 != t455)=false:=bne_eq_false_iff_eq.mpr c15
     clear c15
     replace H:=Option.bind_eq_some_iff.mp H
     obtain ⟨t456,A160,H⟩:=H
     replace H:(laws_FnCountOps.j0 k t450 t452 (!t456) t444 t445 t446 t447)=some r:=H
     have A16:=Aside0.mk A160
     clear A160
     have H':=Aside0.mk H
     clear H
     try go_wp2
     have n0_:=Aside0.mk (Kd.N_drew HO449.out)
     have n1_:=Aside0.mk (blk_drew BK451.out)
     have n2_:=Aside0.mk (below_drew1 HB.out)
     clear HO449
     clear BK451
     clear HB
     have HO449:=n0_
     have BK451:=n1_
     have HB:=n2_
     clear n0_ n1_ n2_
     refine start_ (n:=17) (S:=fun w'=>w'.cell? ⟨gb451,0,none⟩=some (.int .i64 t444)∧w'.cell? ⟨gb451,1,none⟩=some (.int .i64 t445)∧w'.cell? ⟨gb451,2,none⟩=some (.string t446)∧w'.cell? ⟨gb451,3,none⟩=some (.slice Ao9 t447.length co9)) (ds:=[]) #[false,false,false,false,false,false,false,false,false,false,false,false,false,false,false,false,false] (by kernel_rfl) rfl rfl ⟨(blk_cell BK451.out 0).trans rfl,(blk_cell BK451.out 1).trans rfl,(blk_cell BK451.out 2).trans rfl,(blk_cell BK451.out 3).trans rfl⟩ (fun hHeld=>?_);refine with_tabW laws_FnCountOps.tab5 laws_FnCountOps.bits5 (fun HT_ HW_=>?_)
     generalize w10.drew=w17 at HO449 BK451 HB hHeld ⊢
     refine pure_ (i:=0) (N:=some 19) (v:=?_) (a':=?_) #[true,false,false,false,false,false,false,false,false,false,false,false,false,false,false,false,false] rfl rfl (any_of HT_.out (by kernel_rfl)) (fun _ _ _ h=>h) (Or.inl ⟨by rfl,?_⟩) ?_ ?_
     rotate_left
     ·intro w'
      go_simp
      with_reducible rfl
     rotate_left
     ·simp only [Act.put,List.setIfInBounds_toArray,List.set_cons_zero,List.set_cons_succ,i64_w,i32_w]
      rfl
     refine pure_ (i:=2) (N:=some 21) (v:=?_) (a':=?_) #[true,false,true,false,false,false,false,false,false,false,false,false,false,false,false,false,false] rfl rfl (any_of HT_.out (by kernel_rfl)) (fun _ _ _ h=>h) (Or.inl ⟨by rfl,?_⟩) ?_ ?_
     rotate_left
     ·intro w'
      go_simp
      with_reducible rfl
     rotate_left
     ·simp only [Act.put,List.setIfInBounds_toArray,List.set_cons_zero,List.set_cons_succ,i64_w,i32_w]
      rfl
     refine take_ (i:=1) (N:=some 20) (v:=?_) (a':=?_) #[true,true,true,false,false,false,false,false,false,false,false,false,false,false,false,false,false] rfl rfl (take_ofW HT_.out HW_.out (by kernel_rfl)) (fun _ _ _ h=>h) (Or.inl ⟨by rfl,?_⟩) hHeld ?_ ?_
     rotate_left
     ·rintro w' ⟨s0,s1,s2,s3⟩
      go_simp
      with_reducible rfl
     rotate_left
     ·simp only [Act.put,List.setIfInBounds_toArray,List.set_cons_zero,List.set_cons_succ,i64_w,i32_w]
      rfl
     refine one_ (i:=3) (N:=some 22) #[true,true,true,true,false,false,false,false,false,false,false,false,false,false,false,false,false] rfl rfl (one_of HT_.out (by kernel_rfl)) (by decide) (fun K hK=>?_)
     refine goes_ Try.func21 (by kernel_rfl) rfl #[.agg #[.int .i64 t444,.int .i64 t445,.string t446,.slice Ao9 t447.length co9],.int .i64 t450] (by rfl) rfl rfl (by (try simp only [List.map_toArray,List.map_cons,List.map_nil]);first|done|rfl|(simp only [List.length_drop,List.length_take];rfl)) ?_
     with_reducible refine (spec_CountOps.calls k t444 t445 t446 _ _ t447 t450 t453 _ ?side1 ?side2 A11.out).mono ?_
     (case side1=>repeat (first|exact (Kd.N_reads' HO449.out).2.2|(with_reducible refine Kd.C_alloc ?_ _)|(with_reducible refine Kd.C_drewN ?_ _)|(with_reducible refine Kd.C_drew ?_)))
     (case side2=>exact (Kd.N_reads' HO449.out).2.1)
     rintro e w18 ⟨rfl,hb⟩
     refine ⟨_,rfl,?_⟩
     have n0_:=Aside0.mk (Kd.N_below (by (with_reducible repeat (first|apply Kd.N_alloc|apply Kd.N_drewN|apply Kd.N_drew));exact HO449.out) hb)
     have n1_:=Aside0.mk (blk_below (g:=gb451) (o:=.cells #[.int .i64 t444,.int .i64 t445,.string t446,.slice Ao9 t447.length co9] 27 (0,0)) (by (with_reducible repeat (first|refine blk_drewN ?_ _|refine blk_drew ?_|refine blk_alloc ?_ _));exact BK451.out) hb)
     have n2_:=Aside0.mk (below_step (by repeat (first|(with_reducible first|exact HB.out|apply below_alloc|apply pw_below_drewN|apply below_drew1|refine below_set ?_ GE451.out)|exact HB.out)) hb)
     clear HO449
     clear BK451
     clear HB
     have HO449:=n0_
     have BK451:=n1_
     have HB:=n2_
     clear n0_ n1_ n2_
     (try clear hb)
     (try clear hb2)
     (try clear hk)
     (try clear hi)
     refine hK.out _ _ ⟨(blk_cell BK451.out 0).trans rfl,(blk_cell BK451.out 1).trans rfl,(blk_cell BK451.out 2).trans rfl,(blk_cell BK451.out 3).trans rfl⟩ (fun hHeld=>?_)
     clear hK K
     refine norm_ (a':=?_) ?_ ?_
     rotate_left
     ·show Act.put _ (some 22) _=_
      simp only [Act.put,List.setIfInBounds_toArray,List.set_cons_zero,List.set_cons_succ,i64_w,i32_w]
      rfl
     refine pure_ (i:=4) (N:=some 23) (v:=?_) (a':=?_) #[true,true,true,true,true,false,false,false,false,false,false,false,false,false,false,false,false] rfl rfl (any_of HT_.out (by kernel_rfl)) (fun _ _ _ h=>h) (Or.inl ⟨by rfl,?_⟩) ?_ ?_
     rotate_left
     ·intro w'
      go_simp
      with_reducible rfl
     rotate_left
     ·simp only [Act.put,List.setIfInBounds_toArray,List.set_cons_zero,List.set_cons_succ,i64_w,i32_w]
      rfl
     refine pure_ (i:=5) (N:=some 24) (v:=?_) (a':=?_) #[true,true,true,true,true,true,false,false,false,false,false,false,false,false,false,false,false] rfl rfl (any_of HT_.out (by kernel_rfl)) (fun _ _ _ h=>h) (Or.inl ⟨by rfl,?_⟩) ?_ ?_
     rotate_left
     ·intro w'
      go_simp
      with_reducible rfl
     rotate_left
     ·simp only [Act.put,List.setIfInBounds_toArray,List.set_cons_zero,List.set_cons_succ,i64_w,i32_w]
      rfl
     refine take_ (i:=6) (N:=some 25) (v:=?_) (a':=?_) #[true,true,true,true,true,true,true,false,false,false,false,false,false,false,false,false,false] rfl rfl (take_ofW HT_.out HW_.out (by kernel_rfl)) (fun _ _ _ h=>h) (Or.inl ⟨by rfl,?_⟩) hHeld ?_ ?_
     rotate_left
     ·rintro w' ⟨s0,s1,s2,s3⟩
      go_simp
      with_reducible rfl
     rotate_left
     ·simp only [Act.put,List.setIfInBounds_toArray,List.set_cons_zero,List.set_cons_succ,i64_w,i32_w]
      rfl
     refine take_ (i:=8) (N:=some 27) (v:=?_) (a':=?_) #[true,true,true,true,true,true,true,false,true,false,false,false,false,false,false,false,false] rfl rfl (take_ofW HT_.out HW_.out (by kernel_rfl)) (fun _ _ _ h=>h) (Or.inl ⟨by rfl,?_⟩) hHeld ?_ ?_
     rotate_left
     ·rintro w' ⟨s0,s1,s2,s3⟩
      go_simp
      with_reducible rfl
     rotate_left
     ·simp only [Act.put,List.setIfInBounds_toArray,List.set_cons_zero,List.set_cons_succ,i64_w,i32_w]
      rfl
     refine one_ (i:=7) (N:=some 26) #[true,true,true,true,true,true,true,true,true,false,false,false,false,false,false,false,false] rfl rfl (one_of HT_.out (by kernel_rfl)) (by decide) (fun K hK=>?_)
     refine goes_ Try.func22 (by kernel_rfl) rfl #[.agg #[.int .i64 t444,.int .i64 t445,.string t446,.slice Ao9 t447.length co9]] (by rfl) rfl rfl (by (try simp only [List.map_toArray,List.map_cons,List.map_nil]);first|done|rfl|(simp only [List.length_drop,List.length_take];rfl)) ?_
     with_reducible refine (impl_DocSize.calls k t444 t445 t446 _ _ t447 t454 _ ?side1 ?side2 A13.out).mono ?_
     (case side1=>repeat (first|exact (Kd.N_reads' HO449.out).2.2|(with_reducible refine Kd.C_alloc ?_ _)|(with_reducible refine Kd.C_drewN ?_ _)|(with_reducible refine Kd.C_drew ?_)))
     (case side2=>exact (Kd.N_reads' HO449.out).2.1)
     rintro e w19 ⟨rfl,hb⟩
     refine ⟨_,rfl,?_⟩
     have n0_:=Aside0.mk (Kd.N_below (by (with_reducible repeat (first|apply Kd.N_alloc|apply Kd.N_drewN|apply Kd.N_drew));exact HO449.out) hb)
     have n1_:=Aside0.mk (blk_below (g:=gb451) (o:=.cells #[.int .i64 t444,.int .i64 t445,.string t446,.slice Ao9 t447.length co9] 27 (0,0)) (by (with_reducible repeat (first|refine blk_drewN ?_ _|refine blk_drew ?_|refine blk_alloc ?_ _));exact BK451.out) hb)
     have n2_:=Aside0.mk (below_step (by repeat (first|(with_reducible first|exact HB.out|apply below_alloc|apply pw_below_drewN|apply below_drew1|refine below_set ?_ GE451.out)|exact HB.out)) hb)
     clear HO449
     clear BK451
     clear HB
     have HO449:=n0_
     have BK451:=n1_
     have HB:=n2_
     clear n0_ n1_ n2_
     (try clear hb)
     (try clear hb2)
     (try clear hk)
     (try clear hi)
     refine hK.out _ _ ⟨(blk_cell BK451.out 0).trans rfl,(blk_cell BK451.out 1).trans rfl,(blk_cell BK451.out 2).trans rfl,(blk_cell BK451.out 3).trans rfl⟩ (fun hHeld=>?_)
     clear hK K
     refine norm_ (a':=?_) ?_ ?_
     rotate_left
     ·show Act.put _ (some 26) _=_
      simp only [Act.put,List.setIfInBounds_toArray,List.set_cons_zero,List.set_cons_succ,i64_w,i32_w]
      rfl
     refine one_ (i:=9) (N:=some 28) #[true,true,true,true,true,true,true,true,true,true,false,false,false,false,false,false,false] rfl rfl (one_of HT_.out (by kernel_rfl)) (by decide) (fun K hK=>?_)
     refine goes_ Try.func29 (by kernel_rfl) rfl #[.agg #[.int .i64 t444,.int .i64 t445,.string t446,.slice Ao9 t447.length co9]] (by rfl) rfl rfl (by (try simp only [List.map_toArray,List.map_cons,List.map_nil]);first|done|rfl|(simp only [List.length_drop,List.length_take];rfl)) ?_
     with_reducible refine (spec_DocSize.calls k t444 t445 t446 _ _ t447 t455 _ ?side1 ?side2 A14.out).mono ?_
     (case side1=>repeat (first|exact (Kd.N_reads' HO449.out).2.2|(with_reducible refine Kd.C_alloc ?_ _)|(with_reducible refine Kd.C_drewN ?_ _)|(with_reducible refine Kd.C_drew ?_)))
     (case side2=>exact (Kd.N_reads' HO449.out).2.1)
     rintro e w20 ⟨rfl,hb⟩
     refine ⟨_,rfl,?_⟩
     have n0_:=Aside0.mk (Kd.N_below (by (with_reducible repeat (first|apply Kd.N_alloc|apply Kd.N_drewN|apply Kd.N_drew));exact HO449.out) hb)
     have n1_:=Aside0.mk (blk_below (g:=gb451) (o:=.cells #[.int .i64 t444,.int .i64 t445,.string t446,.slice Ao9 t447.length co9] 27 (0,0)) (by (with_reducible repeat (first|refine blk_drewN ?_ _|refine blk_drew ?_|refine blk_alloc ?_ _));exact BK451.out) hb)
     have n2_:=Aside0.mk (below_step (by repeat (first|(with_reducible first|exact HB.out|apply below_alloc|apply pw_below_drewN|apply below_drew1|refine below_set ?_ GE451.out)|exact HB.out)) hb)
     clear HO449
     clear BK451
     clear HB
     have HO449:=n0_
     have BK451:=n1_
     have HB:=n2_
     clear n0_ n1_ n2_
     (try clear hb)
     (try clear hb2)
     (try clear hk)
     (try clear hi)
     refine hK.out _ _ ⟨(blk_cell BK451.out 0).trans rfl,(blk_cell BK451.out 1).trans rfl,(blk_cell BK451.out 2).trans rfl,(blk_cell BK451.out 3).trans rfl⟩ (fun hHeld=>?_)
     clear hK K
     refine norm_ (a':=?_) ?_ ?_
     rotate_left
     ·show Act.put _ (some 28) _=_
      simp only [Act.put,List.setIfInBounds_toArray,List.set_cons_zero,List.set_cons_succ,i64_w,i32_w]
      rfl
     refine pure_ (i:=10) (N:=some 29) (v:=?_) (a':=?_) #[true,true,true,true,true,true,true,true,true,true,true,false,false,false,false,false,false] rfl rfl (any_of HT_.out (by kernel_rfl)) (fun _ _ _ h=>h) (Or.inl ⟨by rfl,?_⟩) ?_ ?_
     rotate_left
     ·intro w'
      go_simp
      with_reducible rfl
     rotate_left
     ·simp only [Act.put,List.setIfInBounds_toArray,List.set_cons_zero,List.set_cons_succ,i64_w,i32_w]
      rfl
     refine pure_ (i:=11) (N:=some 30) (v:=?_) (a':=?_) #[true,true,true,true,true,true,true,true,true,true,true,true,false,false,false,false,false] rfl rfl (any_of HT_.out (by kernel_rfl)) (fun _ _ _ h=>h) (Or.inl ⟨by rfl,?_⟩) ?_ ?_
     rotate_left
     ·intro w'
      go_simp
      with_reducible rfl
     rotate_left
     ·simp only [Act.put,List.setIfInBounds_toArray,List.set_cons_zero,List.set_cons_succ,i64_w,i32_w]
      rfl
     refine pure_ (i:=12) (N:=some 31) (v:=?_) (a':=?_) #[true,true,true,true,true,true,true,true,true,true,true,true,true,false,false,false,false] rfl rfl (any_of HT_.out (by kernel_rfl)) (fun _ _ _ h=>h) (Or.inl ⟨by rfl,?_⟩) ?_ ?_
     rotate_left
     ·intro w'
      go_simp
      with_reducible rfl
     rotate_left
     ·simp only [Act.put,List.setIfInBounds_toArray,List.set_cons_zero,List.set_cons_succ,i64_w,i32_w]
      rfl
     refine take_ (i:=13) (N:=some 32) (v:=?_) (a':=?_) #[true,true,true,true,true,true,true,true,true,true,true,true,true,true,false,false,false] rfl rfl (take_ofW HT_.out HW_.out (by kernel_rfl)) (fun _ _ _ h=>h) (Or.inl ⟨by rfl,?_⟩) hHeld ?_ ?_
     rotate_left
     ·rintro w' ⟨s0,s1,s2,s3⟩
      go_simp
      with_reducible rfl
     rotate_left
     ·simp only [Act.put,List.setIfInBounds_toArray,List.set_cons_zero,List.set_cons_succ,i64_w,i32_w]
      rfl
     refine one_ (i:=14) (N:=some 33) #[true,true,true,true,true,true,true,true,true,true,true,true,true,true,true,false,false] rfl rfl (one_of HT_.out (by kernel_rfl)) (by decide) (fun K hK=>?_)
     refine goes_ Try.func24 (by kernel_rfl) rfl #[.agg #[.int .i64 t444,.int .i64 t445,.string t446,.slice Ao9 t447.length co9]] (by rfl) rfl rfl (by (try simp only [List.map_toArray,List.map_cons,List.map_nil]);first|done|rfl|(simp only [List.length_drop,List.length_take];rfl)) ?_
     with_reducible refine (impl_DocValid.calls k t444 t445 t446 _ _ t447 t456 _ ?side1 ?side2 A16.out).mono ?_
     (case side1=>repeat (first|exact (Kd.N_reads' HO449.out).2.2|(with_reducible refine Kd.C_alloc ?_ _)|(with_reducible refine Kd.C_drewN ?_ _)|(with_reducible refine Kd.C_drew ?_)))
     (case side2=>exact (Kd.N_reads' HO449.out).2.1)
     rintro e w21 ⟨rfl,hb⟩
     refine ⟨_,rfl,?_⟩
     have n0_:=Aside0.mk (Kd.N_below (by (with_reducible repeat (first|apply Kd.N_alloc|apply Kd.N_drewN|apply Kd.N_drew));exact HO449.out) hb)
     have n1_:=Aside0.mk (blk_below (g:=gb451) (o:=.cells #[.int .i64 t444,.int .i64 t445,.string t446,.slice Ao9 t447.length co9] 27 (0,0)) (by (with_reducible repeat (first|refine blk_drewN ?_ _|refine blk_drew ?_|refine blk_alloc ?_ _));exact BK451.out) hb)
     have n2_:=Aside0.mk (below_step (by repeat (first|(with_reducible first|exact HB.out|apply below_alloc|apply pw_below_drewN|apply below_drew1|refine below_set ?_ GE451.out)|exact HB.out)) hb)
     clear HO449
     clear BK451
     clear HB
     have HO449:=n0_
     have BK451:=n1_
     have HB:=n2_
     clear n0_ n1_ n2_
     (try clear hb)
     (try clear hb2)
     (try clear hk)
     (try clear hi)
     refine hK.out _ _ ⟨(blk_cell BK451.out 0).trans rfl,(blk_cell BK451.out 1).trans rfl,(blk_cell BK451.out 2).trans rfl,(blk_cell BK451.out 3).trans rfl⟩ (fun hHeld=>?_)
     clear hK K
     refine norm_ (a':=?_) ?_ ?_
     rotate_left
     ·show Act.put _ (some 33) _=_
      simp only [Act.put,List.setIfInBounds_toArray,List.set_cons_zero,List.set_cons_succ,i64_w,i32_w]
      rfl
     refine pure_ (i:=15) (N:=some 34) (v:=?_) (a':=?_) #[true,true,true,true,true,true,true,true,true,true,true,true,true,true,true,true,false] rfl rfl (any_of HT_.out (by kernel_rfl)) (fun _ _ _ h=>h) (Or.inl ⟨by rfl,?_⟩) ?_ ?_
     rotate_left
     ·intro w'
      go_simp
      with_reducible rfl
     rotate_left
     ·simp only [Act.put,List.setIfInBounds_toArray,List.set_cons_zero,List.set_cons_succ,i64_w,i32_w]
      rfl
     refine pure_ (i:=16) (N:=some 35) (v:=?_) (a':=?_) #[true,true,true,true,true,true,true,true,true,true,true,true,true,true,true,true,true] rfl rfl (any_of HT_.out (by kernel_rfl)) (fun _ _ _ h=>h) (Or.inl ⟨by rfl,?_⟩) ?_ ?_
     rotate_left
     ·intro w'
      go_simp
      with_reducible rfl
     rotate_left
     ·simp only [Act.put,List.setIfInBounds_toArray,List.set_cons_zero,List.set_cons_succ,i64_w,i32_w]
      rfl
     refine done_ (done_of HT_.out (by kernel_rfl)) ?_
     try go_wp2
     go_meet
     case rel=>exact ⟨_,(!t456),(by first|rfl|(simp;done)|(simp [*];done)),H',⟨by first|omega|exact Nat.le_refl _⟩,⟨by (with_reducible repeat (first|apply Kd.N_alloc|apply Kd.N_drewN|apply Kd.N_drew));exact Kd.N_mono HO449.out (fun _ hk=>hk.2)⟩,⟨by (with_reducible repeat (first|refine blk_drewN ?_ _|refine blk_drew ?_|refine blk_alloc ?_ _));exact BK451.out⟩,⟨by repeat (first|(with_reducible first|exact HB.out|apply below_alloc|apply pw_below_drewN|apply below_drew1|refine below_set ?_ GE451.out)|exact HB.out)⟩⟩
    ·rw [if_neg c15] at H
     have c15b0:(t454 == t455)=false:=beq_eq_false_iff_ne.mpr c15
     have c15b1:(t454 != t455)=true:=bne_iff_ne.mpr c15
     have H':=Aside0.mk H
     clear H
     try go_wp2
     have n0_:=Aside0.mk (Kd.N_drew HO449.out)
     have n1_:=Aside0.mk (blk_drew BK451.out)
     have n2_:=Aside0.mk (below_drew1 HB.out)
     clear HO449
     clear BK451
     clear HB
     have HO449:=n0_
     have BK451:=n1_
     have HB:=n2_
     clear n0_ n1_ n2_
     refine start_ (n:=17) (S:=fun w'=>w'.cell? ⟨gb451,0,none⟩=some (.int .i64 t444)∧w'.cell? ⟨gb451,1,none⟩=some (.int .i64 t445)∧w'.cell? ⟨gb451,2,none⟩=some (.string t446)∧w'.cell? ⟨gb451,3,none⟩=some (.slice Ao9 t447.length co9)) (ds:=[]) #[false,false,false,false,false,false,false,false,false,false,false,false,false,false,false,false,false] (by kernel_rfl) rfl rfl ⟨(blk_cell BK451.out 0).trans rfl,(blk_cell BK451.out 1).trans rfl,(blk_cell BK451.out 2).trans rfl,(blk_cell BK451.out 3).trans rfl⟩ (fun hHeld=>?_);refine with_tabW laws_FnCountOps.tab5 laws_FnCountOps.bits5 (fun HT_ HW_=>?_)
     generalize w10.drew=w22 at HO449 BK451 HB hHeld ⊢
     refine pure_ (i:=0) (N:=some 19) (v:=?_) (a':=?_) #[true,false,false,false,false,false,false,false,false,false,false,false,false,false,false,false,false] rfl rfl (any_of HT_.out (by kernel_rfl)) (fun _ _ _ h=>h) (Or.inl ⟨by rfl,?_⟩) ?_ ?_
     rotate_left
     ·intro w'
      go_simp
      with_reducible rfl
     rotate_left
     ·simp only [Act.put,List.setIfInBounds_toArray,List.set_cons_zero,List.set_cons_succ,i64_w,i32_w]
      rfl
     refine pure_ (i:=2) (N:=some 21) (v:=?_) (a':=?_) #[true,false,true,false,false,false,false,false,false,false,false,false,false,false,false,false,false] rfl rfl (any_of HT_.out (by kernel_rfl)) (fun _ _ _ h=>h) (Or.inl ⟨by rfl,?_⟩) ?_ ?_
     rotate_left
     ·intro w'
      go_simp
      with_reducible rfl
     rotate_left
     ·simp only [Act.put,List.setIfInBounds_toArray,List.set_cons_zero,List.set_cons_succ,i64_w,i32_w]
      rfl
     refine take_ (i:=1) (N:=some 20) (v:=?_) (a':=?_) #[true,true,true,false,false,false,false,false,false,false,false,false,false,false,false,false,false] rfl rfl (take_ofW HT_.out HW_.out (by kernel_rfl)) (fun _ _ _ h=>h) (Or.inl ⟨by rfl,?_⟩) hHeld ?_ ?_
     rotate_left
     ·rintro w' ⟨s0,s1,s2,s3⟩
      go_simp
      with_reducible rfl
     rotate_left
     ·simp only [Act.put,List.setIfInBounds_toArray,List.set_cons_zero,List.set_cons_succ,i64_w,i32_w]
      rfl
     refine one_ (i:=3) (N:=some 22) #[true,true,true,true,false,false,false,false,false,false,false,false,false,false,false,false,false] rfl rfl (one_of HT_.out (by kernel_rfl)) (by decide) (fun K hK=>?_)
     refine goes_ Try.func21 (by kernel_rfl) rfl #[.agg #[.int .i64 t444,.int .i64 t445,.string t446,.slice Ao9 t447.length co9],.int .i64 t450] (by rfl) rfl rfl (by (try simp only [List.map_toArray,List.map_cons,List.map_nil]);first|done|rfl|(simp only [List.length_drop,List.length_take];rfl)) ?_
     with_reducible refine (spec_CountOps.calls k t444 t445 t446 _ _ t447 t450 t453 _ ?side1 ?side2 A11.out).mono ?_
     (case side1=>repeat (first|exact (Kd.N_reads' HO449.out).2.2|(with_reducible refine Kd.C_alloc ?_ _)|(with_reducible refine Kd.C_drewN ?_ _)|(with_reducible refine Kd.C_drew ?_)))
     (case side2=>exact (Kd.N_reads' HO449.out).2.1)
     rintro e w23 ⟨rfl,hb⟩
     refine ⟨_,rfl,?_⟩
     have n0_:=Aside0.mk (Kd.N_below (by (with_reducible repeat (first|apply Kd.N_alloc|apply Kd.N_drewN|apply Kd.N_drew));exact HO449.out) hb)
     have n1_:=Aside0.mk (blk_below (g:=gb451) (o:=.cells #[.int .i64 t444,.int .i64 t445,.string t446,.slice Ao9 t447.length co9] 27 (0,0)) (by (with_reducible repeat (first|refine blk_drewN ?_ _|refine blk_drew ?_|refine blk_alloc ?_ _));exact BK451.out) hb)
     have n2_:=Aside0.mk (below_step (by repeat (first|(with_reducible first|exact HB.out|apply below_alloc|apply pw_below_drewN|apply below_drew1|refine below_set ?_ GE451.out)|exact HB.out)) hb)
     clear HO449
     clear BK451
     clear HB
     have HO449:=n0_
     have BK451:=n1_
     have HB:=n2_
     clear n0_ n1_ n2_
     (try clear hb)
     (try clear hb2)
     (try clear hk)
     (try clear hi)
     refine hK.out _ _ ⟨(blk_cell BK451.out 0).trans rfl,(blk_cell BK451.out 1).trans rfl,(blk_cell BK451.out 2).trans rfl,(blk_cell BK451.out 3).trans rfl⟩ (fun hHeld=>?_)
     clear hK K
     refine norm_ (a':=?_) ?_ ?_
     rotate_left
     ·show Act.put _ (some 22) _=_
      simp only [Act.put,List.setIfInBounds_toArray,List.set_cons_zero,List.set_cons_succ,i64_w,i32_w]
      rfl
     refine pure_ (i:=4) (N:=some 23) (v:=?_) (a':=?_) #[true,true,true,true,true,false,false,false,false,false,false,false,false,false,false,false,false] rfl rfl (any_of HT_.out (by kernel_rfl)) (fun _ _ _ h=>h) (Or.inl ⟨by rfl,?_⟩) ?_ ?_
     rotate_left
     ·intro w'
      go_simp
      with_reducible rfl
     rotate_left
     ·simp only [Act.put,List.setIfInBounds_toArray,List.set_cons_zero,List.set_cons_succ,i64_w,i32_w]
      rfl
     refine pure_ (i:=5) (N:=some 24) (v:=?_) (a':=?_) #[true,true,true,true,true,true,false,false,false,false,false,false,false,false,false,false,false] rfl rfl (any_of HT_.out (by kernel_rfl)) (fun _ _ _ h=>h) (Or.inl ⟨by rfl,?_⟩) ?_ ?_
     rotate_left
     ·intro w'
      go_simp
      with_reducible rfl
     rotate_left
     ·simp only [Act.put,List.setIfInBounds_toArray,List.set_cons_zero,List.set_cons_succ,i64_w,i32_w]
      rfl
     refine take_ (i:=6) (N:=some 25) (v:=?_) (a':=?_) #[true,true,true,true,true,true,true,false,false,false,false,false,false,false,false,false,false] rfl rfl (take_ofW HT_.out HW_.out (by kernel_rfl)) (fun _ _ _ h=>h) (Or.inl ⟨by rfl,?_⟩) hHeld ?_ ?_
     rotate_left
     ·rintro w' ⟨s0,s1,s2,s3⟩
      go_simp
      with_reducible rfl
     rotate_left
     ·simp only [Act.put,List.setIfInBounds_toArray,List.set_cons_zero,List.set_cons_succ,i64_w,i32_w]
      rfl
     refine take_ (i:=8) (N:=some 27) (v:=?_) (a':=?_) #[true,true,true,true,true,true,true,false,true,false,false,false,false,false,false,false,false] rfl rfl (take_ofW HT_.out HW_.out (by kernel_rfl)) (fun _ _ _ h=>h) (Or.inl ⟨by rfl,?_⟩) hHeld ?_ ?_
     rotate_left
     ·rintro w' ⟨s0,s1,s2,s3⟩
      go_simp
      with_reducible rfl
     rotate_left
     ·simp only [Act.put,List.setIfInBounds_toArray,List.set_cons_zero,List.set_cons_succ,i64_w,i32_w]
      rfl
     refine one_ (i:=7) (N:=some 26) #[true,true,true,true,true,true,true,true,true,false,false,false,false,false,false,false,false] rfl rfl (one_of HT_.out (by kernel_rfl)) (by decide) (fun K hK=>?_)
     refine goes_ Try.func22 (by kernel_rfl) rfl #[.agg #[.int .i64 t444,.int .i64 t445,.string t446,.slice Ao9 t447.length co9]] (by rfl) rfl rfl (by (try simp only [List.map_toArray,List.map_cons,List.map_nil]);first|done|rfl|(simp only [List.length_drop,List.length_take];rfl)) ?_
     with_reducible refine (impl_DocSize.calls k t444 t445 t446 _ _ t447 t454 _ ?side1 ?side2 A13.out).mono ?_
     (case side1=>repeat (first|exact (Kd.N_reads' HO449.out).2.2|(with_reducible refine Kd.C_alloc ?_ _)|(with_reducible refine Kd.C_drewN ?_ _)|(with_reducible refine Kd.C_drew ?_)))
     (case side2=>exact (Kd.N_reads' HO449.out).2.1)
     rintro e w24 ⟨rfl,hb⟩
     refine ⟨_,rfl,?_⟩
     have n0_:=Aside0.mk (Kd.N_below (by (with_reducible repeat (first|apply Kd.N_alloc|apply Kd.N_drewN|apply Kd.N_drew));exact HO449.out) hb)
     have n1_:=Aside0.mk (blk_below (g:=gb451) (o:=.cells #[.int .i64 t444,.int .i64 t445,.string t446,.slice Ao9 t447.length co9] 27 (0,0)) (by (with_reducible repeat (first|refine blk_drewN ?_ _|refine blk_drew ?_|refine blk_alloc ?_ _));exact BK451.out) hb)
     have n2_:=Aside0.mk (below_step (by repeat (first|(with_reducible first|exact HB.out|apply below_alloc|apply pw_below_drewN|apply below_drew1|refine below_set ?_ GE451.out)|exact HB.out)) hb)
     clear HO449
     clear BK451
     clear HB
     have HO449:=n0_
     have BK451:=n1_
     have HB:=n2_
     clear n0_ n1_ n2_
     (try clear hb)
     (try clear hb2)
     (try clear hk)
     (try clear hi)
     refine hK.out _ _ ⟨(blk_cell BK451.out 0).trans rfl,(blk_cell BK451.out 1).trans rfl,(blk_cell BK451.out 2).trans rfl,(blk_cell BK451.out 3).trans rfl⟩ (fun hHeld=>?_)
     clear hK K
     refine norm_ (a':=?_) ?_ ?_
     rotate_left
     ·show Act.put _ (some 26) _=_
      simp only [Act.put,List.setIfInBounds_toArray,List.set_cons_zero,List.set_cons_succ,i64_w,i32_w]
      rfl
     refine one_ (i:=9) (N:=some 28) #[true,true,true,true,true,true,true,true,true,true,false,false,false,false,false,false,false] rfl rfl (one_of HT_.out (by kernel_rfl)) (by decide) (fun K hK=>?_)
     refine goes_ Try.func29 (by kernel_rfl) rfl #[.agg #[.int .i64 t444,.int .i64 t445,.string t446,.slice Ao9 t447.length co9]] (by rfl) rfl rfl (by (try simp only [List.map_toArray,List.map_cons,List.map_nil]);first|done|rfl|(simp only [List.length_drop,List.length_take];rfl)) ?_
     with_reducible refine (spec_DocSize.calls k t444 t445 t446 _ _ t447 t455 _ ?side1 ?side2 A14.out).mono ?_
     (case side1=>repeat (first|exact (Kd.N_reads' HO449.out).2.2|(with_reducible refine Kd.C_alloc ?_ _)|(with_reducible refine Kd.C_drewN ?_ _)|(with_reducible refine Kd.C_drew ?_)))
     (case side2=>exact (Kd.N_reads' HO449.out).2.1)
     rintro e w25 ⟨rfl,hb⟩
     refine ⟨_,rfl,?_⟩
     have n0_:=Aside0.mk (Kd.N_below (by (with_reducible repeat (first|apply Kd.N_alloc|apply Kd.N_drewN|apply Kd.N_drew));exact HO449.out) hb)
     have n1_:=Aside0.mk (blk_below (g:=gb451) (o:=.cells #[.int .i64 t444,.int .i64 t445,.string t446,.slice Ao9 t447.length co9] 27 (0,0)) (by (with_reducible repeat (first|refine blk_drewN ?_ _|refine blk_drew ?_|refine blk_alloc ?_ _));exact BK451.out) hb)
     have n2_:=Aside0.mk (below_step (by repeat (first|(with_reducible first|exact HB.out|apply below_alloc|apply pw_below_drewN|apply below_drew1|refine below_set ?_ GE451.out)|exact HB.out)) hb)
     clear HO449
     clear BK451
     clear HB
     have HO449:=n0_
     have BK451:=n1_
     have HB:=n2_
     clear n0_ n1_ n2_
     (try clear hb)
     (try clear hb2)
     (try clear hk)
     (try clear hi)
     refine hK.out _ _ ⟨(blk_cell BK451.out 0).trans rfl,(blk_cell BK451.out 1).trans rfl,(blk_cell BK451.out 2).trans rfl,(blk_cell BK451.out 3).trans rfl⟩ (fun hHeld=>?_)
     clear hK K
     refine norm_ (a':=?_) ?_ ?_
     rotate_left
     ·show Act.put _ (some 28) _=_
      simp only [Act.put,List.setIfInBounds_toArray,List.set_cons_zero,List.set_cons_succ,i64_w,i32_w]
      rfl
     refine pure_ (i:=10) (N:=some 29) (v:=?_) (a':=?_) #[true,true,true,true,true,true,true,true,true,true,true,false,false,false,false,false,false] rfl rfl (any_of HT_.out (by kernel_rfl)) (fun _ _ _ h=>h) (Or.inl ⟨by rfl,?_⟩) ?_ ?_
     rotate_left
     ·intro w'
      go_simp
      with_reducible rfl
     rotate_left
     ·simp only [Act.put,List.setIfInBounds_toArray,List.set_cons_zero,List.set_cons_succ,i64_w,i32_w]
      rfl
     refine pure_ (i:=11) (N:=some 30) (v:=?_) (a':=?_) #[true,true,true,true,true,true,true,true,true,true,true,true,false,false,false,false,false] rfl rfl (any_of HT_.out (by kernel_rfl)) (fun _ _ _ h=>h) (Or.inl ⟨by rfl,?_⟩) ?_ ?_
     rotate_left
     ·intro w'
      go_simp
      with_reducible rfl
     rotate_left
     ·simp only [Act.put,List.setIfInBounds_toArray,List.set_cons_zero,List.set_cons_succ,i64_w,i32_w]
      rfl
     refine pure_ (i:=12) (N:=some 31) (v:=?_) (a':=?_) #[true,true,true,true,true,true,true,true,true,true,true,true,true,false,false,false,false] rfl rfl (any_of HT_.out (by kernel_rfl)) (fun _ _ _ h=>h) (Or.inl ⟨by rfl,?_⟩) ?_ ?_
     rotate_left
     ·intro w'
      go_simp
      with_reducible rfl
     rotate_left
     ·simp only [Act.put,List.setIfInBounds_toArray,List.set_cons_zero,List.set_cons_succ,i64_w,i32_w]
      rfl
     refine pure_ (i:=13) (N:=some 32) (v:=undef) (a':=?_) #[true,true,true,true,true,true,true,true,true,true,true,true,true,true,false,false,false] rfl rfl (any_of HT_.out (by kernel_rfl)) (fun _ _ _ h=>h) (Or.inr ⟨by rfl,rfl⟩) ?_ ?_
     rotate_left
     ·simp only [Act.put,List.setIfInBounds_toArray,List.set_cons_zero,List.set_cons_succ,i64_w,i32_w]
      rfl
     refine pure_ (i:=14) (N:=some 33) (v:=undef) (a':=?_) #[true,true,true,true,true,true,true,true,true,true,true,true,true,true,true,false,false] rfl rfl (any_of HT_.out (by kernel_rfl)) (fun _ _ _ h=>h) (Or.inr ⟨by rfl,rfl⟩) ?_ ?_
     rotate_left
     ·simp only [Act.put,List.setIfInBounds_toArray,List.set_cons_zero,List.set_cons_succ,i64_w,i32_w]
      rfl
     refine pure_ (i:=15) (N:=some 34) (v:=undef) (a':=?_) #[true,true,true,true,true,true,true,true,true,true,true,true,true,true,true,true,false] rfl rfl (any_of HT_.out (by kernel_rfl)) (fun _ _ _ h=>h) (Or.inr ⟨by rfl,rfl⟩) ?_ ?_
     rotate_left
     ·simp only [Act.put,List.setIfInBounds_toArray,List.set_cons_zero,List.set_cons_succ,i64_w,i32_w]
      rfl
     refine pure_ (i:=16) (N:=some 35) (v:=?_) (a':=?_) #[true,true,true,true,true,true,true,true,true,true,true,true,true,true,true,true,true] rfl rfl (any_of HT_.out (by kernel_rfl)) (fun _ _ _ h=>h) (Or.inl ⟨by rfl,?_⟩) ?_ ?_
     rotate_left
     ·intro w'
      go_simp
      with_reducible rfl
     rotate_left
     ·simp only [Act.put,List.setIfInBounds_toArray,List.set_cons_zero,List.set_cons_succ,i64_w,i32_w]
      rfl
     refine done_ (done_of HT_.out (by kernel_rfl)) ?_
     try go_wp2
     go_meet
     case rel=>exact ⟨_,(true),(by first|rfl|(simp;done)|(simp [*];done)),H',⟨by first|omega|exact Nat.le_refl _⟩,⟨by (with_reducible repeat (first|apply Kd.N_alloc|apply Kd.N_drewN|apply Kd.N_drew));exact Kd.N_mono HO449.out (fun _ hk=>hk.2)⟩,⟨by (with_reducible repeat (first|refine blk_drewN ?_ _|refine blk_drew ?_|refine blk_alloc ?_ _));exact BK451.out⟩,⟨by repeat (first|(with_reducible first|exact HB.out|apply below_alloc|apply pw_below_drewN|apply below_drew1|refine below_set ?_ GE451.out)|exact HB.out)⟩⟩
   ·rw [if_neg c12] at H
    have c12b0:(t452 == t453)=false:=beq_eq_false_iff_ne.mpr c12
    have c12b1:(t452 != t453)=true:=bne_iff_ne.mpr c12
    (first|rw [c12b0]|(simp only [i64_w,i32_w];rw [c12b0])|skip)
    have H':=Aside0.mk H
    clear H
    try go_wp2
    have n0_:=Aside0.mk (Kd.N_drew HO449.out)
    have n1_:=Aside0.mk (blk_drew BK451.out)
    have n2_:=Aside0.mk (below_drew1 HB.out)
    clear HO449
    clear BK451
    clear HB
    have HO449:=n0_
    have BK451:=n1_
    have HB:=n2_
    clear n0_ n1_ n2_
    refine start_ (n:=17) (S:=fun w'=>w'.cell? ⟨gb451,0,none⟩=some (.int .i64 t444)∧w'.cell? ⟨gb451,1,none⟩=some (.int .i64 t445)∧w'.cell? ⟨gb451,2,none⟩=some (.string t446)∧w'.cell? ⟨gb451,3,none⟩=some (.slice Ao9 t447.length co9)) (ds:=[]) #[false,false,false,false,false,false,false,false,false,false,false,false,false,false,false,false,false] (by kernel_rfl) rfl rfl ⟨(blk_cell BK451.out 0).trans rfl,(blk_cell BK451.out 1).trans rfl,(blk_cell BK451.out 2).trans rfl,(blk_cell BK451.out 3).trans rfl⟩ (fun hHeld=>?_);refine with_tabW laws_FnCountOps.tab5 laws_FnCountOps.bits5 (fun HT_ HW_=>?_)
    generalize w10.drew=w26 at HO449 BK451 HB hHeld ⊢
    refine pure_ (i:=0) (N:=some 19) (v:=?_) (a':=?_) #[true,false,false,false,false,false,false,false,false,false,false,false,false,false,false,false,false] rfl rfl (any_of HT_.out (by kernel_rfl)) (fun _ _ _ h=>h) (Or.inl ⟨by rfl,?_⟩) ?_ ?_
    rotate_left
    ·intro w'
     go_simp
     with_reducible rfl
    rotate_left
    ·simp only [Act.put,List.setIfInBounds_toArray,List.set_cons_zero,List.set_cons_succ,i64_w,i32_w]
     rfl
    refine pure_ (i:=2) (N:=some 21) (v:=?_) (a':=?_) #[true,false,true,false,false,false,false,false,false,false,false,false,false,false,false,false,false] rfl rfl (any_of HT_.out (by kernel_rfl)) (fun _ _ _ h=>h) (Or.inl ⟨by rfl,?_⟩) ?_ ?_
    rotate_left
    ·intro w'
     go_simp
     with_reducible rfl
    rotate_left
    ·simp only [Act.put,List.setIfInBounds_toArray,List.set_cons_zero,List.set_cons_succ,i64_w,i32_w]
     rfl
    refine take_ (i:=1) (N:=some 20) (v:=?_) (a':=?_) #[true,true,true,false,false,false,false,false,false,false,false,false,false,false,false,false,false] rfl rfl (take_ofW HT_.out HW_.out (by kernel_rfl)) (fun _ _ _ h=>h) (Or.inl ⟨by rfl,?_⟩) hHeld ?_ ?_
    rotate_left
    ·rintro w' ⟨s0,s1,s2,s3⟩
     go_simp
     with_reducible rfl
    rotate_left
    ·simp only [Act.put,List.setIfInBounds_toArray,List.set_cons_zero,List.set_cons_succ,i64_w,i32_w]
     rfl
    refine one_ (i:=3) (N:=some 22) #[true,true,true,true,false,false,false,false,false,false,false,false,false,false,false,false,false] rfl rfl (one_of HT_.out (by kernel_rfl)) (by decide) (fun K hK=>?_)
    refine goes_ Try.func21 (by kernel_rfl) rfl #[.agg #[.int .i64 t444,.int .i64 t445,.string t446,.slice Ao9 t447.length co9],.int .i64 t450] (by rfl) rfl rfl (by (try simp only [List.map_toArray,List.map_cons,List.map_nil]);first|done|rfl|(simp only [List.length_drop,List.length_take];rfl)) ?_
    with_reducible refine (spec_CountOps.calls k t444 t445 t446 _ _ t447 t450 t453 _ ?side1 ?side2 A11.out).mono ?_
    (case side1=>repeat (first|exact (Kd.N_reads' HO449.out).2.2|(with_reducible refine Kd.C_alloc ?_ _)|(with_reducible refine Kd.C_drewN ?_ _)|(with_reducible refine Kd.C_drew ?_)))
    (case side2=>exact (Kd.N_reads' HO449.out).2.1)
    rintro e w27 ⟨rfl,hb⟩
    refine ⟨_,rfl,?_⟩
    have n0_:=Aside0.mk (Kd.N_below (by (with_reducible repeat (first|apply Kd.N_alloc|apply Kd.N_drewN|apply Kd.N_drew));exact HO449.out) hb)
    have n1_:=Aside0.mk (blk_below (g:=gb451) (o:=.cells #[.int .i64 t444,.int .i64 t445,.string t446,.slice Ao9 t447.length co9] 27 (0,0)) (by (with_reducible repeat (first|refine blk_drewN ?_ _|refine blk_drew ?_|refine blk_alloc ?_ _));exact BK451.out) hb)
    have n2_:=Aside0.mk (below_step (by repeat (first|(with_reducible first|exact HB.out|apply below_alloc|apply pw_below_drewN|apply below_drew1|refine below_set ?_ GE451.out)|exact HB.out)) hb)
    clear HO449
    clear BK451
    clear HB
    have HO449:=n0_
    have BK451:=n1_
    have HB:=n2_
    clear n0_ n1_ n2_
    (try clear hb)
    (try clear hb2)
    (try clear hk)
    (try clear hi)
    refine hK.out _ _ ⟨(blk_cell BK451.out 0).trans rfl,(blk_cell BK451.out 1).trans rfl,(blk_cell BK451.out 2).trans rfl,(blk_cell BK451.out 3).trans rfl⟩ (fun hHeld=>?_)
    clear hK K
    refine norm_ (a':=?_) ?_ ?_
    rotate_left
    ·show Act.put _ (some 22) _=_
     simp only [Act.put,List.setIfInBounds_toArray,List.set_cons_zero,List.set_cons_succ,i64_w,i32_w]
     rfl
    refine pure_ (i:=4) (N:=some 23) (v:=?_) (a':=?_) #[true,true,true,true,true,false,false,false,false,false,false,false,false,false,false,false,false] rfl rfl (any_of HT_.out (by kernel_rfl)) (fun _ _ _ h=>h) (Or.inl ⟨by rfl,?_⟩) ?_ ?_
    rotate_left
    ·intro w'
     go_simp
     with_reducible rfl
    rotate_left
    ·simp only [Act.put,List.setIfInBounds_toArray,List.set_cons_zero,List.set_cons_succ,i64_w,i32_w]
     rfl
    refine pure_ (i:=5) (N:=some 24) (v:=?_) (a':=?_) #[true,true,true,true,true,true,false,false,false,false,false,false,false,false,false,false,false] rfl rfl (any_of HT_.out (by kernel_rfl)) (fun _ _ _ h=>h) (Or.inl ⟨by rfl,?_⟩) ?_ ?_
    rotate_left
    ·intro w'
     go_simp
     with_reducible rfl
    rotate_left
    ·simp only [Act.put,List.setIfInBounds_toArray,List.set_cons_zero,List.set_cons_succ,i64_w,i32_w]
     rfl
    refine pure_ (i:=6) (N:=some 25) (v:=undef) (a':=?_) #[true,true,true,true,true,true,true,false,false,false,false,false,false,false,false,false,false] rfl rfl (any_of HT_.out (by kernel_rfl)) (fun _ _ _ h=>h) (Or.inr ⟨by rfl,rfl⟩) ?_ ?_
    rotate_left
    ·simp only [Act.put,List.setIfInBounds_toArray,List.set_cons_zero,List.set_cons_succ,i64_w,i32_w]
     rfl
    refine pure_ (i:=7) (N:=some 26) (v:=undef) (a':=?_) #[true,true,true,true,true,true,true,true,false,false,false,false,false,false,false,false,false] rfl rfl (any_of HT_.out (by kernel_rfl)) (fun _ _ _ h=>h) (Or.inr ⟨by rfl,rfl⟩) ?_ ?_
    rotate_left
    ·simp only [Act.put,List.setIfInBounds_toArray,List.set_cons_zero,List.set_cons_succ,i64_w,i32_w]
     rfl
    refine pure_ (i:=8) (N:=some 27) (v:=undef) (a':=?_) #[true,true,true,true,true,true,true,true,true,false,false,false,false,false,false,false,false] rfl rfl (any_of HT_.out (by kernel_rfl)) (fun _ _ _ h=>h) (Or.inr ⟨by rfl,rfl⟩) ?_ ?_
    rotate_left
    ·simp only [Act.put,List.setIfInBounds_toArray,List.set_cons_zero,List.set_cons_succ,i64_w,i32_w]
     rfl
    refine pure_ (i:=9) (N:=some 28) (v:=undef) (a':=?_) #[true,true,true,true,true,true,true,true,true,true,false,false,false,false,false,false,false] rfl rfl (any_of HT_.out (by kernel_rfl)) (fun _ _ _ h=>h) (Or.inr ⟨by rfl,rfl⟩) ?_ ?_
    rotate_left
    ·simp only [Act.put,List.setIfInBounds_toArray,List.set_cons_zero,List.set_cons_succ,i64_w,i32_w]
     rfl
    refine pure_ (i:=10) (N:=some 29) (v:=undef) (a':=?_) #[true,true,true,true,true,true,true,true,true,true,true,false,false,false,false,false,false] rfl rfl (any_of HT_.out (by kernel_rfl)) (fun _ _ _ h=>h) (Or.inr ⟨by rfl,rfl⟩) ?_ ?_
    rotate_left
    ·simp only [Act.put,List.setIfInBounds_toArray,List.set_cons_zero,List.set_cons_succ,i64_w,i32_w]
     rfl
    refine pure_ (i:=11) (N:=some 30) (v:=?_) (a':=?_) #[true,true,true,true,true,true,true,true,true,true,true,true,false,false,false,false,false] rfl rfl (any_of HT_.out (by kernel_rfl)) (fun _ _ _ h=>h) (Or.inl ⟨by rfl,?_⟩) ?_ ?_
    rotate_left
    ·intro w'
     go_simp
     with_reducible rfl
    rotate_left
    ·simp only [Act.put,List.setIfInBounds_toArray,List.set_cons_zero,List.set_cons_succ,i64_w,i32_w]
     rfl
    refine pure_ (i:=12) (N:=some 31) (v:=?_) (a':=?_) #[true,true,true,true,true,true,true,true,true,true,true,true,true,false,false,false,false] rfl rfl (any_of HT_.out (by kernel_rfl)) (fun _ _ _ h=>h) (Or.inl ⟨by rfl,?_⟩) ?_ ?_
    rotate_left
    ·intro w'
     go_simp
     with_reducible rfl
    rotate_left
    ·simp only [Act.put,List.setIfInBounds_toArray,List.set_cons_zero,List.set_cons_succ,i64_w,i32_w]
     rfl
    refine pure_ (i:=13) (N:=some 32) (v:=undef) (a':=?_) #[true,true,true,true,true,true,true,true,true,true,true,true,true,true,false,false,false] rfl rfl (any_of HT_.out (by kernel_rfl)) (fun _ _ _ h=>h) (Or.inr ⟨by rfl,rfl⟩) ?_ ?_
    rotate_left
    ·simp only [Act.put,List.setIfInBounds_toArray,List.set_cons_zero,List.set_cons_succ,i64_w,i32_w]
     rfl
    refine pure_ (i:=14) (N:=some 33) (v:=undef) (a':=?_) #[true,true,true,true,true,true,true,true,true,true,true,true,true,true,true,false,false] rfl rfl (any_of HT_.out (by kernel_rfl)) (fun _ _ _ h=>h) (Or.inr ⟨by rfl,rfl⟩) ?_ ?_
    rotate_left
    ·simp only [Act.put,List.setIfInBounds_toArray,List.set_cons_zero,List.set_cons_succ,i64_w,i32_w]
     rfl
    refine pure_ (i:=15) (N:=some 34) (v:=undef) (a':=?_) #[true,true,true,true,true,true,true,true,true,true,true,true,true,true,true,true,false] rfl rfl (any_of HT_.out (by kernel_rfl)) (fun _ _ _ h=>h) (Or.inr ⟨by rfl,rfl⟩) ?_ ?_
    rotate_left
    ·simp only [Act.put,List.setIfInBounds_toArray,List.set_cons_zero,List.set_cons_succ,i64_w,i32_w]
     rfl
    refine pure_ (i:=16) (N:=some 35) (v:=?_) (a':=?_) #[true,true,true,true,true,true,true,true,true,true,true,true,true,true,true,true,true] rfl rfl (any_of HT_.out (by kernel_rfl)) (fun _ _ _ h=>h) (Or.inl ⟨by rfl,?_⟩) ?_ ?_
    rotate_left
    ·intro w'
     go_simp
     with_reducible rfl
    rotate_left
    ·simp only [Act.put,List.setIfInBounds_toArray,List.set_cons_zero,List.set_cons_succ,i64_w,i32_w]
     rfl
    refine done_ (done_of HT_.out (by kernel_rfl)) ?_
    try go_wp2
    go_meet
    case rel=>exact ⟨_,(true),(by first|rfl|(simp;done)|(simp [*];done)),H',⟨by first|omega|exact Nat.le_refl _⟩,⟨by (with_reducible repeat (first|apply Kd.N_alloc|apply Kd.N_drewN|apply Kd.N_drew));exact Kd.N_mono HO449.out (fun _ hk=>hk.2)⟩,⟨by (with_reducible repeat (first|refine blk_drewN ?_ _|refine blk_drew ?_|refine blk_alloc ?_ _));exact BK451.out⟩,⟨by repeat (first|(with_reducible first|exact HB.out|apply below_alloc|apply pw_below_drewN|apply below_drew1|refine below_set ?_ GE451.out)|exact HB.out)⟩⟩
  case rest =>
   clear HC5
   try clear c1 c2 p2 c12 c12b0 c12b1 c15 c15b0 c15b1 c21 c22 c24
   obtain ⟨kq,x35_4,rfl,HA,HJ4,HO_452003,BK451,HB⟩:=hcut
   cases kq with
   | zero=>exact absurd HA.out (by simp [laws_FnCountOps.j0])
   | succ kj4 =>
    have H:=HA.out
    clear HA
    simp only [laws_FnCountOps.j0] at H
    by_cases c28:x35_4=true
    ·subst c28
     have H1:((spec_CountOps.f kj4 t444 t445 t446 t447 t450).bind fun t457=>(if t452=t457 then ((impl_DocSize.f kj4 t444 t445 t446 t447).bind fun t458=>((spec_DocSize.f kj4 t444 t445 t446 t447).bind fun t459=>(some (t458 == t459)))) else (none)))=some r:=by rw [if_pos rfl] at H;exact H
     clear H
     have H:=H1
     clear H1
     replace H:=Option.bind_eq_some_iff.mp H
     obtain ⟨t457,A290,H⟩:=H
     replace H:(if t452=t457 then ((impl_DocSize.f kj4 t444 t445 t446 t447).bind fun t458=>((spec_DocSize.f kj4 t444 t445 t446 t447).bind fun t459=>(some (t458 == t459)))) else (none))=some r:=H
     have A29:=Aside0.mk A290
     clear A290
     by_cases c30:t452=t457
     ·rw [if_pos c30] at H
      have c30b0:(t452 == t457)=true:=beq_iff_eq.mpr c30
      have c30b1:(t452 != t457)=false:=bne_eq_false_iff_eq.mpr c30
      clear c30
      replace H:=Option.bind_eq_some_iff.mp H
      obtain ⟨t458,A310,H⟩:=H
      replace H:((spec_DocSize.f kj4 t444 t445 t446 t447).bind fun t459=>(some (t458 == t459)))=some r:=H
      have A31:=Aside0.mk A310
      clear A310
      replace H:=Option.bind_eq_some_iff.mp H
      obtain ⟨t459,A320,H⟩:=H
      replace H:(some (t458 == t459))=some r:=H
      have A32:=Aside0.mk A320
      clear A320
      obtain rfl:=Option.some.inj H
      try go_wp2
      have n0_:=Aside0.mk (Kd.N_drew HO_452003.out)
      have n1_:=Aside0.mk (blk_drew BK451.out)
      have n2_:=Aside0.mk (below_drew1 HB.out)
      clear HO_452003
      clear BK451
      clear HB
      have HO_452003:=n0_
      have BK451:=n1_
      have HB:=n2_
      clear n0_ n1_ n2_
      refine start_ (n:=13) (S:=fun w'=>w'.cell? ⟨gb451,0,none⟩=some (.int .i64 t444)∧w'.cell? ⟨gb451,1,none⟩=some (.int .i64 t445)∧w'.cell? ⟨gb451,2,none⟩=some (.string t446)∧w'.cell? ⟨gb451,3,none⟩=some (.slice Ao9 t447.length co9)) (ds:=[]) #[false,false,false,false,false,false,false,false,false,false,false,false,false] (by kernel_rfl) rfl rfl ⟨(blk_cell BK451.out 0).trans rfl,(blk_cell BK451.out 1).trans rfl,(blk_cell BK451.out 2).trans rfl,(blk_cell BK451.out 3).trans rfl⟩ (fun hHeld=>?_);refine with_tabW laws_FnCountOps.tab6 laws_FnCountOps.bits6 (fun HT_ HW_=>?_)
      generalize wc.drew=w33 at HO_452003 BK451 HB hHeld ⊢
      refine pure_ (i:=0) (N:=some 36) (v:=?_) (a':=?_) #[true,false,false,false,false,false,false,false,false,false,false,false,false] rfl rfl (any_of HT_.out (by kernel_rfl)) (fun _ _ _ h=>h) (Or.inl ⟨by rfl,?_⟩) ?_ ?_
      rotate_left
      ·intro w'
       go_simp
       with_reducible rfl
      rotate_left
      ·simp only [Act.put,List.setIfInBounds_toArray,List.set_cons_zero,List.set_cons_succ,i64_w,i32_w]
       rfl
      refine pure_ (i:=2) (N:=some 38) (v:=?_) (a':=?_) #[true,false,true,false,false,false,false,false,false,false,false,false,false] rfl rfl (any_of HT_.out (by kernel_rfl)) (fun _ _ _ h=>h) (Or.inl ⟨by rfl,?_⟩) ?_ ?_
      rotate_left
      ·intro w'
       go_simp
       with_reducible rfl
      rotate_left
      ·simp only [Act.put,List.setIfInBounds_toArray,List.set_cons_zero,List.set_cons_succ,i64_w,i32_w]
       rfl
      refine take_ (i:=1) (N:=some 37) (v:=?_) (a':=?_) #[true,true,true,false,false,false,false,false,false,false,false,false,false] rfl rfl (take_ofW HT_.out HW_.out (by kernel_rfl)) (fun _ _ _ h=>h) (Or.inl ⟨by rfl,?_⟩) hHeld ?_ ?_
      rotate_left
      ·rintro w' ⟨s0,s1,s2,s3⟩
       go_simp
       with_reducible rfl
      rotate_left
      ·simp only [Act.put,List.setIfInBounds_toArray,List.set_cons_zero,List.set_cons_succ,i64_w,i32_w]
       rfl
      refine one_ (i:=3) (N:=some 39) #[true,true,true,true,false,false,false,false,false,false,false,false,false] rfl rfl (one_of HT_.out (by kernel_rfl)) (by decide) (fun K hK=>?_)
      refine goes_ Try.func21 (by kernel_rfl) rfl #[.agg #[.int .i64 t444,.int .i64 t445,.string t446,.slice Ao9 t447.length co9],.int .i64 t450] (by rfl) rfl rfl (by (try simp only [List.map_toArray,List.map_cons,List.map_nil]);first|done|rfl|(simp only [List.length_drop,List.length_take];rfl)) ?_
      with_reducible refine (spec_CountOps.calls kj4 t444 t445 t446 _ _ t447 t450 t457 _ ?side1 ?side2 A29.out).mono ?_
      (case side1=>repeat (first|exact (Kd.N_reads' HO_452003.out).2.2|(with_reducible refine Kd.C_alloc ?_ _)|(with_reducible refine Kd.C_drewN ?_ _)|(with_reducible refine Kd.C_drew ?_)))
      (case side2=>exact (Kd.N_reads' HO_452003.out).2.1)
      rintro e w34 ⟨rfl,hb⟩
      refine ⟨_,rfl,?_⟩
      have n0_:=Aside0.mk (Kd.N_below (by (with_reducible repeat (first|apply Kd.N_alloc|apply Kd.N_drewN|apply Kd.N_drew));exact HO_452003.out) hb)
      have n1_:=Aside0.mk (blk_below (g:=gb451) (o:=.cells #[.int .i64 t444,.int .i64 t445,.string t446,.slice Ao9 t447.length co9] 27 (0,0)) (by (with_reducible repeat (first|refine blk_drewN ?_ _|refine blk_drew ?_|refine blk_alloc ?_ _));exact BK451.out) hb)
      have n2_:=Aside0.mk (below_step (by repeat (first|(with_reducible first|exact HB.out|apply below_alloc|apply pw_below_drewN|apply below_drew1|refine below_set ?_ GE451.out)|exact HB.out)) hb)
      clear HO_452003
      clear BK451
      clear HB
      have HO_452003:=n0_
      have BK451:=n1_
      have HB:=n2_
      clear n0_ n1_ n2_
      (try clear hb)
      (try clear hb2)
      (try clear hk)
      (try clear hi)
      refine hK.out _ _ ⟨(blk_cell BK451.out 0).trans rfl,(blk_cell BK451.out 1).trans rfl,(blk_cell BK451.out 2).trans rfl,(blk_cell BK451.out 3).trans rfl⟩ (fun hHeld=>?_)
      clear hK K
      refine norm_ (a':=?_) ?_ ?_
      rotate_left
      ·show Act.put _ (some 39) _=_
       simp only [Act.put,List.setIfInBounds_toArray,List.set_cons_zero,List.set_cons_succ,i64_w,i32_w]
       rfl
      refine pure_ (i:=4) (N:=some 40) (v:=?_) (a':=?_) #[true,true,true,true,true,false,false,false,false,false,false,false,false] rfl rfl (any_of HT_.out (by kernel_rfl)) (fun _ _ _ h=>h) (Or.inl ⟨by rfl,?_⟩) ?_ ?_
      rotate_left
      ·intro w'
       go_simp
       with_reducible rfl
      rotate_left
      ·simp only [Act.put,List.setIfInBounds_toArray,List.set_cons_zero,List.set_cons_succ,i64_w,i32_w]
       rfl
      refine pure_ (i:=5) (N:=some 41) (v:=?_) (a':=?_) #[true,true,true,true,true,true,false,false,false,false,false,false,false] rfl rfl (any_of HT_.out (by kernel_rfl)) (fun _ _ _ h=>h) (Or.inl ⟨by rfl,?_⟩) ?_ ?_
      rotate_left
      ·intro w'
       go_simp
       with_reducible rfl
      rotate_left
      ·simp only [Act.put,List.setIfInBounds_toArray,List.set_cons_zero,List.set_cons_succ,i64_w,i32_w]
       rfl
      refine take_ (i:=6) (N:=some 42) (v:=?_) (a':=?_) #[true,true,true,true,true,true,true,false,false,false,false,false,false] rfl rfl (take_ofW HT_.out HW_.out (by kernel_rfl)) (fun _ _ _ h=>h) (Or.inl ⟨by rfl,?_⟩) hHeld ?_ ?_
      rotate_left
      ·rintro w' ⟨s0,s1,s2,s3⟩
       go_simp
       with_reducible rfl
      rotate_left
      ·simp only [Act.put,List.setIfInBounds_toArray,List.set_cons_zero,List.set_cons_succ,i64_w,i32_w]
       rfl
      refine take_ (i:=8) (N:=some 44) (v:=?_) (a':=?_) #[true,true,true,true,true,true,true,false,true,false,false,false,false] rfl rfl (take_ofW HT_.out HW_.out (by kernel_rfl)) (fun _ _ _ h=>h) (Or.inl ⟨by rfl,?_⟩) hHeld ?_ ?_
      rotate_left
      ·rintro w' ⟨s0,s1,s2,s3⟩
       go_simp
       with_reducible rfl
      rotate_left
      ·simp only [Act.put,List.setIfInBounds_toArray,List.set_cons_zero,List.set_cons_succ,i64_w,i32_w]
       rfl
      refine one_ (i:=7) (N:=some 43) #[true,true,true,true,true,true,true,true,true,false,false,false,false] rfl rfl (one_of HT_.out (by kernel_rfl)) (by decide) (fun K hK=>?_)
      refine goes_ Try.func22 (by kernel_rfl) rfl #[.agg #[.int .i64 t444,.int .i64 t445,.string t446,.slice Ao9 t447.length co9]] (by rfl) rfl rfl (by (try simp only [List.map_toArray,List.map_cons,List.map_nil]);first|done|rfl|(simp only [List.length_drop,List.length_take];rfl)) ?_
      with_reducible refine (impl_DocSize.calls kj4 t444 t445 t446 _ _ t447 t458 _ ?side1 ?side2 A31.out).mono ?_
      (case side1=>repeat (first|exact (Kd.N_reads' HO_452003.out).2.2|(with_reducible refine Kd.C_alloc ?_ _)|(with_reducible refine Kd.C_drewN ?_ _)|(with_reducible refine Kd.C_drew ?_)))
      (case side2=>exact (Kd.N_reads' HO_452003.out).2.1)
      rintro e w35 ⟨rfl,hb⟩
      refine ⟨_,rfl,?_⟩
      have n0_:=Aside0.mk (Kd.N_below (by (with_reducible repeat (first|apply Kd.N_alloc|apply Kd.N_drewN|apply Kd.N_drew));exact HO_452003.out) hb)
      have n1_:=Aside0.mk (blk_below (g:=gb451) (o:=.cells #[.int .i64 t444,.int .i64 t445,.string t446,.slice Ao9 t447.length co9] 27 (0,0)) (by (with_reducible repeat (first|refine blk_drewN ?_ _|refine blk_drew ?_|refine blk_alloc ?_ _));exact BK451.out) hb)
      have n2_:=Aside0.mk (below_step (by repeat (first|(with_reducible first|exact HB.out|apply below_alloc|apply pw_below_drewN|apply below_drew1|refine below_set ?_ GE451.out)|exact HB.out)) hb)
      clear HO_452003
      clear BK451
      clear HB
      have HO_452003:=n0_
      have BK451:=n1_
      have HB:=n2_
      clear n0_ n1_ n2_
      (try clear hb)
      (try clear hb2)
      (try clear hk)
      (try clear hi)
      refine hK.out _ _ ⟨(blk_cell BK451.out 0).trans rfl,(blk_cell BK451.out 1).trans rfl,(blk_cell BK451.out 2).trans rfl,(blk_cell BK451.out 3).trans rfl⟩ (fun hHeld=>?_)
      clear hK K
      refine norm_ (a':=?_) ?_ ?_
      rotate_left
      ·show Act.put _ (some 43) _=_
       simp only [Act.put,List.setIfInBounds_toArray,List.set_cons_zero,List.set_cons_succ,i64_w,i32_w]
       rfl
      refine one_ (i:=9) (N:=some 45) #[true,true,true,true,true,true,true,true,true,true,false,false,false] rfl rfl (one_of HT_.out (by kernel_rfl)) (by decide) (fun K hK=>?_)
      refine goes_ Try.func29 (by kernel_rfl) rfl #[.agg #[.int .i64 t444,.int .i64 t445,.string t446,.slice Ao9 t447.length co9]] (by rfl) rfl rfl (by (try simp only [List.map_toArray,List.map_cons,List.map_nil]);first|done|rfl|(simp only [List.length_drop,List.length_take];rfl)) ?_
      with_reducible refine (spec_DocSize.calls kj4 t444 t445 t446 _ _ t447 t459 _ ?side1 ?side2 A32.out).mono ?_
      (case side1=>repeat (first|exact (Kd.N_reads' HO_452003.out).2.2|(with_reducible refine Kd.C_alloc ?_ _)|(with_reducible refine Kd.C_drewN ?_ _)|(with_reducible refine Kd.C_drew ?_)))
      (case side2=>exact (Kd.N_reads' HO_452003.out).2.1)
      rintro e w36 ⟨rfl,hb⟩
      refine ⟨_,rfl,?_⟩
      have n0_:=Aside0.mk (Kd.N_below (by (with_reducible repeat (first|apply Kd.N_alloc|apply Kd.N_drewN|apply Kd.N_drew));exact HO_452003.out) hb)
      have n1_:=Aside0.mk (blk_below (g:=gb451) (o:=.cells #[.int .i64 t444,.int .i64 t445,.string t446,.slice Ao9 t447.length co9] 27 (0,0)) (by (with_reducible repeat (first|refine blk_drewN ?_ _|refine blk_drew ?_|refine blk_alloc ?_ _));exact BK451.out) hb)
      have n2_:=Aside0.mk (below_step (by repeat (first|(with_reducible first|exact HB.out|apply below_alloc|apply pw_below_drewN|apply below_drew1|refine below_set ?_ GE451.out)|exact HB.out)) hb)
      clear HO_452003
      clear BK451
      clear HB
      have HO_452003:=n0_
      have BK451:=n1_
      have HB:=n2_
      clear n0_ n1_ n2_
      (try clear hb)
      (try clear hb2)
      (try clear hk)
      (try clear hi)
      refine hK.out _ _ ⟨(blk_cell BK451.out 0).trans rfl,(blk_cell BK451.out 1).trans rfl,(blk_cell BK451.out 2).trans rfl,(blk_cell BK451.out 3).trans rfl⟩ (fun hHeld=>?_)
      clear hK K
      refine norm_ (a':=?_) ?_ ?_
      rotate_left
      ·show Act.put _ (some 45) _=_
       simp only [Act.put,List.setIfInBounds_toArray,List.set_cons_zero,List.set_cons_succ,i64_w,i32_w]
       rfl
      refine pure_ (i:=10) (N:=some 46) (v:=?_) (a':=?_) #[true,true,true,true,true,true,true,true,true,true,true,false,false] rfl rfl (any_of HT_.out (by kernel_rfl)) (fun _ _ _ h=>h) (Or.inl ⟨by rfl,?_⟩) ?_ ?_
      rotate_left
      ·intro w'
       go_simp
       with_reducible rfl
      rotate_left
      ·simp only [Act.put,List.setIfInBounds_toArray,List.set_cons_zero,List.set_cons_succ,i64_w,i32_w]
       rfl
      refine pure_ (i:=11) (N:=some 47) (v:=?_) (a':=?_) #[true,true,true,true,true,true,true,true,true,true,true,true,false] rfl rfl (any_of HT_.out (by kernel_rfl)) (fun _ _ _ h=>h) (Or.inl ⟨by rfl,?_⟩) ?_ ?_
      rotate_left
      ·intro w'
       go_simp
       with_reducible rfl
      rotate_left
      ·simp only [Act.put,List.setIfInBounds_toArray,List.set_cons_zero,List.set_cons_succ,i64_w,i32_w]
       rfl
      refine pure_ (i:=12) (N:=some 2) (v:=?_) (a':=?_) #[true,true,true,true,true,true,true,true,true,true,true,true,true] rfl rfl (any_of HT_.out (by kernel_rfl)) (fun _ _ _ h=>h) (Or.inl ⟨by rfl,?_⟩) ?_ ?_
      rotate_left
      ·intro w'
       go_simp
       with_reducible rfl
      rotate_left
      ·simp only [Act.put,List.setIfInBounds_toArray,List.set_cons_zero,List.set_cons_succ,i64_w,i32_w]
       rfl
      refine done_ (done_of HT_.out (by kernel_rfl)) ?_
      try go_wp2
      go_ret
      exact ⟨by first|rfl|(simp [errW_none,errW_some] <;> rfl)|(simp [*,errW_none,errW_some] <;> rfl),by repeat (first|(with_reducible first|exact HB.out|apply below_alloc|apply pw_below_drewN|apply below_drew1|refine below_set ?_ GE451.out)|exact HB.out)⟩
     ·rw [if_neg c30] at H
      have c30b0:(t452 == t457)=false:=beq_eq_false_iff_ne.mpr c30
      have c30b1:(t452 != t457)=true:=bne_iff_ne.mpr c30
      exact absurd H (by simp)
    ·replace c28:=Bool.eq_false_iff.mpr c28
     subst c28
     have H1:(laws_FnCountOps.l0 kj4 t452 0 1 t444 t445 t446 t447)=some r:=by rw [if_neg (show ¬ (false=true) by decide)] at H;exact H
     clear H
     have H:=H1
     clear H1
     have H':=Aside0.mk H
     clear H
     go_wp2
     go_loopg [6,7] kj4 (fun kq v6 v7 w'=>∃ (x6_2:Int) (x7_2:Int),v6=.int .i64 x6_2∧v7=.int .i64 x7_2∧Aside0 (laws_FnCountOps.l0 kq t452 x6_2 x7_2 t444 t445 t446 t447=some r)∧Aside0 (kq≤kj4)∧Aside0 (Kd.N k27 27 w' w.heap.size (fun k_=>k_≠gb451) (.slice Ao9 t447.length co9) t447)∧Aside0 (w'.heap[gb451]?=some (.cells #[.int .i64 t444,.int .i64 t445,.string t446,(.slice Ao9 t447.length co9)] 27 (0,0)))∧Aside0 (Below w.heap.size w w'))
     case atStart=>exact ⟨(0),(1),(by first|rfl|(simp;done)|(simp [*];done)),(by first|rfl|(simp;done)|(simp [*];done)),H',⟨Nat.le_refl _⟩,⟨by (with_reducible repeat (first|apply Kd.N_alloc|apply Kd.N_drewN|apply Kd.N_drew));exact HO_452003.out⟩,⟨by (with_reducible repeat (first|refine blk_drewN ?_ _|refine blk_drew ?_|refine blk_alloc ?_ _));exact BK451.out⟩,⟨by repeat (first|(with_reducible first|exact HB.out|apply below_alloc|apply pw_below_drewN|apply below_drew1|refine below_set ?_ GE451.out)|exact HB.out)⟩⟩
     case round =>
      clear H'
      try clear c1 c2 p2 c3 c12 c12b0 c12b1 c15 c15b0 c15b1 c21 c22 c24 c28 c29 c30 c30b0 c30b1 p2
      (try clear HO_452003);(try clear BK451);(try clear HB)
      obtain ⟨x6_2,x7_2,rfl,rfl,HA,HK2,HO_452003,BK451,HB⟩:=hrel
      cases gk with
      | zero=>exact absurd HA.out (by simp [laws_FnCountOps.l0])
      | succ k2 =>
       have H:=HA.out
       clear HA
       simp only [laws_FnCountOps.l0] at H
       by_cases c37:x7_2≤8
       ·rw [if_pos c37] at H
        have c37b0:decide (x7_2≤8)=true:=decide_eq_true c37
        clear c37
        replace H:=Option.bind_eq_some_iff.mp H
        obtain ⟨t460,A380,H⟩:=H
        replace H:(laws_FnCountOps.l0 k2 t452 (wrap64 (x6_2+t460)) (wrap64 (x7_2+1)) t444 t445 t446 t447)=some r:=H
        have A38:=Aside0.mk A380
        clear A380
        have H':=Aside0.mk H
        clear H
        have hcz39_0:wr.cell? ⟨gb451,0,none⟩=some (.int .i64 t444):=(blk_cell BK451.out 0).trans rfl
        have hcz39_1:wr.cell? ⟨gb451,1,none⟩=some (.int .i64 t445):=(blk_cell BK451.out 1).trans rfl
        have hcz39_2:wr.cell? ⟨gb451,2,none⟩=some (.string t446):=(blk_cell BK451.out 2).trans rfl
        have hcz39_3:wr.cell? ⟨gb451,3,none⟩=some (.slice Ao9 t447.length co9):=(blk_cell BK451.out 3).trans rfl
        have hfz39_0:=blk_frozen BK451.out 0
        have hfz39_1:=blk_frozen BK451.out 1
        have hfz39_2:=blk_frozen BK451.out 2
        have hfz39_3:=blk_frozen BK451.out 3
        go_wp2_with (first|((with_reducible refine gate_callee (f:=20) rfl ?_);refine goesL_ (some 55) rfl rfl Try.func20 (by kernel_rfl) rfl #[.agg #[.int .i64 t444,.int .i64 t445,.string t446,.slice Ao9 t447.length co9],.int .i64 x7_2] rfl (by (try simp only [List.map_toArray,List.map_cons,List.map_nil]);first|done|rfl|(simp only [List.length_drop,List.length_take];rfl)) ?_;(with_reducible refine (impl_CountOps.calls k2 t444 t445 t446 _ _ t447 x7_2 t460 _ ?side1 ?side2 A38.out).mono ?_);(case side1=>repeat (first|exact (Kd.N_reads' HO_452003.out).2.2|(with_reducible refine Kd.C_alloc ?_ _)|(with_reducible refine Kd.C_drewN ?_ _)|(with_reducible refine Kd.C_drew ?_)));(case side2=>exact (Kd.N_reads' HO_452003.out).2.1);rintro e w40 ⟨rfl,hb⟩;refine ⟨_,rfl,?_⟩;have n0_:=Aside0.mk (Kd.N_below (by (with_reducible repeat (first|apply Kd.N_alloc|apply Kd.N_drewN|apply Kd.N_drew));exact HO_452003.out) hb);have n1_:=Aside0.mk (blk_below (g:=gb451) (o:=.cells #[.int .i64 t444,.int .i64 t445,.string t446,.slice Ao9 t447.length co9] 27 (0,0)) (by (with_reducible repeat (first|refine blk_drewN ?_ _|refine blk_drew ?_|refine blk_alloc ?_ _));exact BK451.out) hb);have n2_:=Aside0.mk (below_step (by repeat (first|(with_reducible first|exact HB.out|apply below_alloc|apply pw_below_drewN|apply below_drew1|refine below_set ?_ GE451.out)|exact HB.out)) hb);clear HO_452003;clear BK451;clear HB;have HO_452003:=n0_;have BK451:=n1_;have HB:=n2_;clear n0_ n1_ n2_;(try clear hb);(try clear hb2);(try clear hk);(try clear hi)))
        go_roundg k2
        case measure=>have:=HJ4.out;have:=HK2.out;omega
        case rel=>exact ⟨(wrap64 (x6_2+t460)),(wrap64 (x7_2+1)),(by first|rfl|(simp;done)|(simp [*];done)),(by first|rfl|(simp;done)|(simp [*];done)),H',⟨by have:=HJ4.out;have:=HK2.out;omega⟩,⟨by (with_reducible repeat (first|apply Kd.N_alloc|apply Kd.N_drewN|apply Kd.N_drew));exact HO_452003.out⟩,⟨by (with_reducible repeat (first|refine blk_drewN ?_ _|refine blk_drew ?_|refine blk_alloc ?_ _));exact BK451.out⟩,⟨by repeat (first|(with_reducible first|exact HB.out|apply below_alloc|apply pw_below_drewN|apply below_drew1|refine below_set ?_ GE451.out)|exact HB.out)⟩⟩
       ·rw [if_neg c37] at H
        have c37b0:decide (x7_2≤8)=false:=decide_eq_false c37
        clear c37
        replace H:=Option.bind_eq_some_iff.mp H
        obtain ⟨t461,A410,H⟩:=H
        replace H:(if x6_2=t461 then (some (decide (t452≤x6_2))) else (none))=some r:=H
        have A41:=Aside0.mk A410
        clear A410
        by_cases c42:x6_2=t461
        ·rw [if_pos c42] at H
         have c42b0:(x6_2 == t461)=true:=beq_iff_eq.mpr c42
         have c42b1:(x6_2 != t461)=false:=bne_eq_false_iff_eq.mpr c42
         clear c42
         obtain rfl:=Option.some.inj H
         have hcz43_0:wr.cell? ⟨gb451,0,none⟩=some (.int .i64 t444):=(blk_cell BK451.out 0).trans rfl
         have hcz43_1:wr.cell? ⟨gb451,1,none⟩=some (.int .i64 t445):=(blk_cell BK451.out 1).trans rfl
         have hcz43_2:wr.cell? ⟨gb451,2,none⟩=some (.string t446):=(blk_cell BK451.out 2).trans rfl
         have hcz43_3:wr.cell? ⟨gb451,3,none⟩=some (.slice Ao9 t447.length co9):=(blk_cell BK451.out 3).trans rfl
         have hfz43_0:=blk_frozen BK451.out 0
         have hfz43_1:=blk_frozen BK451.out 1
         have hfz43_2:=blk_frozen BK451.out 2
         have hfz43_3:=blk_frozen BK451.out 3
         go_wp2_with (first|((with_reducible refine gate_callee (f:=22) rfl ?_);refine goesL_ (some 59) rfl rfl Try.func22 (by kernel_rfl) rfl #[.agg #[.int .i64 t444,.int .i64 t445,.string t446,.slice Ao9 t447.length co9]] rfl (by (try simp only [List.map_toArray,List.map_cons,List.map_nil]);first|done|rfl|(simp only [List.length_drop,List.length_take];rfl)) ?_;(with_reducible refine (impl_DocSize.calls k2 t444 t445 t446 _ _ t447 t461 _ ?side1 ?side2 A41.out).mono ?_);(case side1=>repeat (first|exact (Kd.N_reads' HO_452003.out).2.2|(with_reducible refine Kd.C_alloc ?_ _)|(with_reducible refine Kd.C_drewN ?_ _)|(with_reducible refine Kd.C_drew ?_)));(case side2=>exact (Kd.N_reads' HO_452003.out).2.1);rintro e w44 ⟨rfl,hb⟩;refine ⟨_,rfl,?_⟩;have n0_:=Aside0.mk (Kd.N_below (by (with_reducible repeat (first|apply Kd.N_alloc|apply Kd.N_drewN|apply Kd.N_drew));exact HO_452003.out) hb);have n1_:=Aside0.mk (blk_below (g:=gb451) (o:=.cells #[.int .i64 t444,.int .i64 t445,.string t446,.slice Ao9 t447.length co9] 27 (0,0)) (by (with_reducible repeat (first|refine blk_drewN ?_ _|refine blk_drew ?_|refine blk_alloc ?_ _));exact BK451.out) hb);have n2_:=Aside0.mk (below_step (by repeat (first|(with_reducible first|exact HB.out|apply below_alloc|apply pw_below_drewN|apply below_drew1|refine below_set ?_ GE451.out)|exact HB.out)) hb);clear HO_452003;clear BK451;clear HB;have HO_452003:=n0_;have BK451:=n1_;have HB:=n2_;clear n0_ n1_ n2_;(try clear hb);(try clear hb2);(try clear hk);(try clear hi)))
         go_ret
         exact ⟨by first|rfl|(simp [errW_none,errW_some] <;> rfl)|(simp [*,errW_none,errW_some] <;> rfl),by repeat (first|(with_reducible first|exact HB.out|apply below_alloc|apply pw_below_drewN|apply below_drew1|refine below_set ?_ GE451.out)|exact HB.out)⟩
        ·rw [if_neg c42] at H
         exact absurd H (by simp)
def laws_FnCountOps.Pure:Prop:=∀ (l0:List Int),l0.length≤maxLen→l0.length * 1≤140737488351232→(∀ x∈l0,(Lit.int .u8 x).wf=true)→∃ k,laws_FnCountOps.f k l0=some true
theorem laws_FnCountOps.walk (P:laws_FnCountOps.Pure) (a0:Option Addr) (len0 cap0:Nat) (z0:List Int) (w:World) (w0:(a0=none∧len0=0∧cap0=0∧z0=[]) ∨ ∃ x,a0=some x∧len0≤cap0∧cap0≤maxLen∧z0.length=cap0∧(∀ i,i<z0.length→w.cell? (x.add i)=some (.int .u8 (z0.getD i 0)))∧∀ n∈z0,(Lit.int .u8 n).wf=true) (y0:len0 * 1≤140737488351232) :
  Calls Try.prog 7 #[.slice a0 len0 cap0] w fun e w'=>e=.returned (.bool true)∧Below w.heap.size w w':=by
 obtain ⟨l0,rfl,hr0,hm0,hw0,hc0⟩:=ReadsInt.ofRowC w0
 obtain ⟨k,h⟩:=P l0 hm0 y0 hw0
 refine (laws_FnCountOps.calls k _ _ l0 true w (Kd.C_of_reads (d:=(0:Int)) (h1:=fun _=>rfl) hr0) hc0 h).mono ?_
 rintro e w' ⟨rfl,hd⟩
 exact ⟨rfl,hd⟩
end Go.Proofs.Ytdhdfmmefghijaa.P
namespace Go.Proofs.Ytdhdfmmefghijaa.Pure
open Go.RowKit Go.Proofs.Ytdhdfmmefghijaa.P Go.Proofs.YtdhdfmmefghijaaW.PrintWords Go.Proofs.YtdhdfmmefghijaaW.PrintLast Go.Proofs.YtdhdfmmefghijaaW.PrintMore
set_option linter.unusedVariables false
set_option linter.unusedSimpArgs false
def cs (d:SDoc):Nat→Nat
  | 0=>0
  | i+1=>cs d i+cnt ((i:Int)+1) d
def csL (l:List SDoc):Nat→Nat
  | 0=>0
  | i+1=>csL l i+cntL ((i:Int)+1) l
theorem csL_cons (y:SDoc) (l:List SDoc):∀ i,csL (y :: l) i=cs y i+csL l i
  | 0=>rfl
  | i+1=>by rw [csL,csL_cons y l i,cs,csL,cntL_cons];omega
theorem csL_nil:∀ i,csL [] i=0
  | 0=>rfl
  | i+1=>by rw [csL,csL_nil i];rfl
theorem csL_all (l:List SDoc) (h:∀ y ∈ l,cs y 8=dsz y):csL l 8=dszL l:=by
  induction l with
  | nil=>exact csL_nil 8
  | cons y l ih=>rw [csL_cons,h y List.mem_cons_self,ih (fun z hz=>h z (List.mem_cons_of_mem _ hz)),dszL]
theorem cs_kid (o n:Int) (t:ByteArray) (ks:List SDoc):∀ i:Nat,cs ⟨o,n,t,ks⟩ i=csL ks i+(if 1≤o∧o≤(i:Int) then 1 else 0)
  | 0=>by
    have:¬ (1≤o∧o≤((0:Nat):Int)):=by omega
    rw [if_neg this];rfl
  | i+1=>by
    rw [cs,csL,cs_kid o n t ks i,cnt]
    by_cases c:o=(i:Int)+1
    · rw [if_pos c,if_neg (by omega),if_pos (by omega)];omega
    · rw [if_neg c]
      by_cases c':1≤o∧o≤(i:Int)
      · rw [if_pos c',if_pos (by omega)];omega
      · rw [if_neg c',if_neg (by omega)];omega
theorem cs_all:∀ (d:SDoc) (deep:Nat),wf d deep=true→cs d 8=dsz d:=by
  intro d
  induction d using SDoc.ind with
  | h o n t ks ih =>
    intro deep hw
    obtain ⟨h1,h8,_⟩:=wf_node hw
    have hks:=wf_kids hw
    rw [cs_kid,csL_all ks (fun y hy=>ih y hy _ (hks y hy)),if_pos (by omega),dsz]
    omega
theorem cs_le (d:SDoc):∀ i,cs d i≤i * dsz d
  | 0=>by simp [cs]
  | i+1=>by
    have:=cs_le d i
    have:=cnt_le ((i:Int)+1) d
    rw [cs,Nat.add_mul]
    omega
theorem cops_loop (d:SDoc) (hd:dsz d≤1000000) (hs:cs d 8=dsz d) (x5:Int) (h5:x5≤(dsz d:Int)):∀ (m i:Nat),i+m=8→Ev (fun k=>laws_FnCountOps.l0 k x5 (cs d i:Int) ((i:Int)+1) d.f0 d.f1 d.f2 d.f3) true:=by
  intro m
  induction m with
  | zero =>
    intro i hi
    obtain rfl:i=8:=by omega
    refine Ev.step (fun k=>by rw [laws_FnCountOps.l0]) ?_
    simp only [if_neg (show ¬ (((8:Nat):Int)+1≤8) by omega)]
    refine Ev.bind (implSize_ev d (by omega)) ?_
    rw [hs]
    simp only [if_true,decide_eq_true h5]
    exact Ev.now _
  | succ m ih =>
    intro i hi
    refine Ev.step (fun k=>by rw [laws_FnCountOps.l0]) ?_
    simp only [if_pos (show (i:Int)+1≤8 by omega)]
    refine Ev.bind (implCnt_ev ((i:Int)+1) d (by omega)) ?_
    have hc:=cnt_le ((i:Int)+1) d
    have hl:=cs_le d i
    have hl':i * dsz d≤8 * dsz d:=Nat.mul_le_mul_right _ (by omega)
    have e1:wrap64 ((cs d i:Int)+(cnt ((i:Int)+1) d:Int))=((cs d (i+1):Nat):Int):=by rw [w64 (by omega) (by omega),cs];omega
    have e2:wrap64 ((i:Int)+1+1)=((i+1:Nat):Int)+1:=by rw [w64 (by omega) (by omega)];omega
    rw [e1,e2]
    exact ih (i+1) (by omega)
theorem FnCountOps:laws_FnCountOps.Pure:=by
  intro l hl _ hw
  refine Ev.rounds (g:=fun k=>laws_FnCountOps.f k l) (Ev.congr (fun k=>by rw [laws_FnCountOps.f]) (big_or ?_))
  obtain ⟨d,op,hd,hm⟩:=drawOps_ev l hl hw
  have hz:=dsz_msz d
  refine Ev.bind hd (Ev.bind (implCnt_ev op d (by omega)) (Ev.bind (specCnt_ev op d (by omega)) ?_))
  simp only [if_true]
  refine Ev.bind (implSize_ev d (by omega)) (Ev.bind (specSize_ev d (by omega)) ?_)
  simp only [if_true]
  refine Ev.bind (implValid_ev d (by omega)) ?_
  refine Ev.step (fun k=>by rw [laws_FnCountOps.j0]) ?_
  cases hv:docV d with
  | false =>
    simp only [Bool.not_false,if_true]
    refine Ev.bind (specCnt_ev op d (by omega)) ?_
    simp only [if_true]
    refine Ev.bind (implSize_ev d (by omega)) (Ev.bind (specSize_ev d (by omega)) ?_)
    rw [beq_self_eq_true]
    exact Ev.now _
  | true =>
    simp only [Bool.not_true,Bool.false_eq_true,if_false]
    have hc:=cnt_le op d
    exact cops_loop d (by omega) (cs_all d 40 (docV_wf hv)) (cnt op d:Int) (by omega) 8 0 rfl
end Go.Proofs.Ytdhdfmmefghijaa.Pure
