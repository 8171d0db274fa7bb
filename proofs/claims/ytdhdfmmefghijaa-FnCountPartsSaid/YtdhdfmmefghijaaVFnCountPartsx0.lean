/- CONTRACTS and lemmas for the law FnCountParts. -/
import Derived.Test.YtdhdfmmefghijaaVLc8
namespace Go.Proofs.Ytdhdfmmefghijaa.P
open Go.RowKit Go.Proofs.YtdhdfmmefghijaaW.PrintWords Go.Proofs.YtdhdfmmefghijaaW.PrintLast Go.Proofs.YtdhdfmmefghijaaW.PrintMore
attribute [local go_sem] max2_int min2_int max_two min_two max_three min_three max_four min_four
set_option linter.unusedVariables false
set_option linter.unusedSimpArgs false
mutual
def laws_FnCountParts.j0:Nat→Int→Int→Int→Int→Int→ByteArray→List (SDoc)→Option (Bool)
 | 0,_,_,_,_,_,_,_=>none
 | k+1,x4,x5,x6,x470000,x470001,x470002,x470003=>laws_FnCountParts.l0 k x4 x5 x6 1 0 x470000 x470001 x470002 x470003
def laws_FnCountParts.l0:Nat→Int→Int→Int→Int→Int→Int→Int→ByteArray→List (SDoc)→Option (Bool)
 | 0,_,_,_,_,_,_,_,_,_=>none
 | k+1,x4,x5,x6,x7,x8,x470000,x470001,x470002,x470003=>if x8<(x470003.length:Int) then (if 0≤x8 then ((impl_CountOps.f k ((rd_TDoc x470003 x8).f0) ((rd_TDoc x470003 x8).f1) ((rd_TDoc x470003 x8).f2) ((rd_TDoc x470003 x8).f3) x4).bind fun t473=>((impl_DocSize.f k ((rd_TDoc x470003 x8).f0) ((rd_TDoc x470003 x8).f1) ((rd_TDoc x470003 x8).f2) ((rd_TDoc x470003 x8).f3)).bind fun t475=>(laws_FnCountParts.l0 k x4 x5 (wrap64 (x6+t473)) (wrap64 (x7+t475)) (wrap64 (x8+1)) x470000 x470001 x470002 x470003))) else (none)) else (if x5=x6 then ((impl_DocSize.f k x470000 x470001 x470002 x470003).bind fun t476=>(some (t476 == x7))) else (none))
end
def laws_FnCountParts.f (k:Nat) (l0:List Int):Option (Bool):=if (l0.length:Int)>1048576 then (some true) else ((spec_DrawCountOps.f k l0).bind fun bt462=>((impl_CountOps.f k bt462.1 bt462.2.1 bt462.2.2.1 bt462.2.2.2.1 bt462.2.2.2.2).bind fun t470=>((spec_CountOps.f k bt462.1 bt462.2.1 bt462.2.2.1 bt462.2.2.2.1 bt462.2.2.2.2).bind fun t471=>(if t470=t471 then (if bt462.1=bt462.2.2.2.2 then (laws_FnCountParts.j0 k bt462.2.2.2.2 t470 1 bt462.1 bt462.2.1 bt462.2.2.1 bt462.2.2.2.1) else (laws_FnCountParts.j0 k bt462.2.2.2.2 t470 0 bt462.1 bt462.2.1 bt462.2.2.1 bt462.2.2.2.1)) else (none)))))
set_option maxHeartbeats 8000000 in
set_option maxRecDepth 100000 in
theorem laws_FnCountParts.calls (k:Nat) (A0:Option Addr) (c0:Nat) (l0:List Int) (r:Bool) (w:World) (hr0:Kd.C (Kd.int .u8) w A0 l0.length l0) (hc0:l0.length≤c0) (h:laws_FnCountParts.f k l0=some r) :
  Calls Try.prog 4 #[.slice A0 l0.length c0] w fun e w'=>e=.returned (.bool r)∧Below w.heap.size w w':=by
 have hu27:=Try.underlying27
 have HR0:=Aside0.mk hr0
 have HC0:=Aside0.mk hc0
 clear hr0 hc0
 have HB:=Aside0.mk (Below.refl w.heap.size w)
 have H:(if (l0.length:Int)>1048576 then (some true) else ((spec_DrawCountOps.f k l0).bind fun bt462=>((impl_CountOps.f k bt462.1 bt462.2.1 bt462.2.2.1 bt462.2.2.2.1 bt462.2.2.2.2).bind fun t470=>((spec_CountOps.f k bt462.1 bt462.2.1 bt462.2.2.1 bt462.2.2.2.1 bt462.2.2.2.2).bind fun t471=>(if t470=t471 then (if bt462.1=bt462.2.2.2.2 then (laws_FnCountParts.j0 k bt462.2.2.2.2 t470 1 bt462.1 bt462.2.1 bt462.2.2.1 bt462.2.2.2.1) else (laws_FnCountParts.j0 k bt462.2.2.2.2 t470 0 bt462.1 bt462.2.1 bt462.2.2.1 bt462.2.2.2.1)) else (none))))))=some r:=h
 clear h
 by_cases c2:(l0.length:Int)>1048576
 ·rw [if_pos c2] at H
  have c2b0:decide (1048576<(l0.length:Int))=true:=decide_eq_true c2
  have c2b1:decide (1048576<l0.length)=true:=decide_eq_true (by omega)
  clear c2
  obtain rfl:=Option.some.inj H
  go_enter Try.func4,Try.ntmps4
  go_wp2
  go_ret
  exact ⟨by first|rfl|(simp [errW_none,errW_some] <;> rfl)|(simp [*,errW_none,errW_some] <;> rfl),by repeat (first|(with_reducible first|exact HB.out|apply below_alloc|apply pw_below_drewN|apply below_drew1)|exact HB.out)⟩
 ·rw [if_neg c2] at H
  have c2b0:decide (1048576<(l0.length:Int))=false:=decide_eq_false c2
  have c2b1:decide (1048576<l0.length)=false:=decide_eq_false (by omega)
  clear c2
  replace H:=Option.bind_eq_some_iff.mp H
  obtain ⟨⟨t462,t463,t464,t465,t468⟩,A30,H⟩:=H
  replace H:((impl_CountOps.f k t462 t463 t464 t465 t468).bind fun t470=>((spec_CountOps.f k t462 t463 t464 t465 t468).bind fun t471=>(if t470=t471 then (if t462=t468 then (laws_FnCountParts.j0 k t468 t470 1 t462 t463 t464 t465) else (laws_FnCountParts.j0 k t468 t470 0 t462 t463 t464 t465)) else (none))))=some r:=H
  have A3:=Aside0.mk A30
  clear A30
  replace H:=Option.bind_eq_some_iff.mp H
  obtain ⟨t470,A40,H⟩:=H
  replace H:((spec_CountOps.f k t462 t463 t464 t465 t468).bind fun t471=>(if t470=t471 then (if t462=t468 then (laws_FnCountParts.j0 k t468 t470 1 t462 t463 t464 t465) else (laws_FnCountParts.j0 k t468 t470 0 t462 t463 t464 t465)) else (none)))=some r:=H
  have A4:=Aside0.mk A40
  clear A40
  replace H:=Option.bind_eq_some_iff.mp H
  obtain ⟨t471,A50,H⟩:=H
  replace H:(if t470=t471 then (if t462=t468 then (laws_FnCountParts.j0 k t468 t470 1 t462 t463 t464 t465) else (laws_FnCountParts.j0 k t468 t470 0 t462 t463 t464 t465)) else (none))=some r:=H
  have A5:=Aside0.mk A50
  clear A50
  by_cases c6:t470=t471
  ·rw [if_pos c6] at H
   have c6b0:(t470 == t471)=true:=beq_iff_eq.mpr c6
   have c6b1:(t470 != t471)=false:=bne_eq_false_iff_eq.mpr c6
   clear c6
   have HC7:=Aside0.mk H
   clear H
   go_enter Try.func4,Try.ntmps4
   go_upto_if 28 with (first|((with_reducible refine gate_callee (f:=19) rfl ?_);refine goesL_ (some 14) rfl rfl Try.func19 (by kernel_rfl) rfl #[.slice A0 l0.length c0] rfl (by (try simp only [List.map_toArray,List.map_cons,List.map_nil]);first|done|rfl|(simp only [List.length_drop,List.length_take];rfl)) ?_;(with_reducible refine (spec_DrawCountOps.calls k _ _ l0 t462 t463 t464 t465 t468 _ ?side1 ?side2 A3.out).mono ?_);(case side1=>repeat (first|exact HR0.out|(with_reducible refine Kd.C_alloc ?_ _)|(with_reducible refine Kd.C_drewN ?_ _)|(with_reducible refine Kd.C_drew ?_)));(case side2=>exact HC0.out);rintro e w8 ⟨v466,rfl,ho0,hb⟩;refine ⟨_,rfl,?_⟩;have n0_:=Aside0.mk (Kd.N_lower (Kd.N_mono (ok':=fun k_=>True) ho0 (fun k_ hk_=>trivial)) (below_size (by repeat (first|(with_reducible first|exact HB.out|apply below_alloc|apply pw_below_drewN|apply below_drew1)|exact HB.out))));have n1_:=Aside0.mk (below_step (by repeat (first|(with_reducible first|exact HB.out|apply below_alloc|apply pw_below_drewN|apply below_drew1)|exact HB.out)) hb);clear HB;have HO467:=n0_;have HB:=n1_;clear n0_ n1_;(try clear hb);(try clear hb2);(try clear hk);(try clear hi);(try clear ho0))|((with_reducible refine gate_dst (N:=3) rfl ?_);refine box_event ?hg (N:=3) ?hd (cs:=#[.int .i64 0,.int .i64 0,.string (⟨#[]⟩:ByteArray),.slice none 0 0]) (t:=27) ?hr ?_;(case hd=>rfl);(case hg=>rfl);(case hr=>first|(go_simp;done)|(go_simp;rfl));intro gb469 hg w9 hbox hb;have n0_:=Aside0.mk (Kd.N_below (Kd.N_elderB (by (with_reducible repeat (first|apply Kd.N_alloc|apply Kd.N_drewN|apply Kd.N_drew));exact HO467.out) gb469 (Nat.le_of_eq hg.symm)) hb);have n1_:=Aside0.mk (below_step (by repeat (first|(with_reducible first|exact HB.out|apply below_alloc|apply pw_below_drewN|apply below_drew1)|exact HB.out)) hb);have n2_:=Aside0.mk (hbox);have n3_:=Aside0.mk ((by rw [hg];exact (below_size (by repeat (first|(with_reducible first|exact HB.out|apply below_alloc|apply pw_below_drewN|apply below_drew1)|exact HB.out))):w.heap.size≤gb469));have n4_:=Aside0.mk ((by rw [hg];exact (below_size (by repeat (first|(with_reducible first|exact HB.out|apply below_alloc|apply pw_below_drewN|apply below_drew1)|exact HB.out))):w.heap.size≤gb469));clear HO467;clear HB;have HO467:=n0_;have HB:=n1_;have BK469:=n2_;have GW469:=n3_;have GE469:=n4_;clear n0_ n1_ n2_ n3_ n4_;clear hb hbox hg;have hcz10_0:w9.cell? ⟨gb469,0,none⟩=some (.int .i64 0):=(blk_cell BK469.out 0).trans rfl;have hcz10_1:w9.cell? ⟨gb469,1,none⟩=some (.int .i64 0):=(blk_cell BK469.out 1).trans rfl;have hcz10_2:w9.cell? ⟨gb469,2,none⟩=some (.string (⟨#[]⟩:ByteArray)):=(blk_cell BK469.out 2).trans rfl;have hcz10_3:w9.cell? ⟨gb469,3,none⟩=some (.slice none 0 0):=(blk_cell BK469.out 3).trans rfl;have hfz10_0:=blk_frozen BK469.out 0;have hfz10_1:=blk_frozen BK469.out 1;have hfz10_2:=blk_frozen BK469.out 2;have hfz10_3:=blk_frozen BK469.out 3;obtain ⟨Ao11,co11,eo11⟩:=Kd.N_slice HO467.out;subst eo11)|((with_reducible refine gate_callee (f:=20) rfl ?_);refine goesL_ (some 19) rfl rfl Try.func20 (by kernel_rfl) rfl #[.agg #[.int .i64 t462,.int .i64 t463,.string t464,.slice Ao11 t465.length co11],.int .i64 t468] rfl (by (try simp only [List.map_toArray,List.map_cons,List.map_nil]);first|done|rfl|(simp only [List.length_drop,List.length_take];rfl)) ?_;(with_reducible refine (impl_CountOps.calls k t462 t463 t464 _ _ t465 t468 t470 _ ?side1 ?side2 A4.out).mono ?_);(case side1=>exact (Kd.N_reads' (e:=27) (base:=w.heap.size) (n:=t465.length) (c:=co11) (by (with_reducible repeat (first|apply Kd.N_alloc|apply Kd.N_drewN|apply Kd.N_drew));exact (Kd.N_mono (Kd.N_far (p:=⟨gb469,3,none⟩) (Kd.N_far (p:=⟨gb469,2,none⟩) (Kd.N_far (p:=⟨gb469,1,none⟩) (Kd.N_far (p:=⟨gb469,0,none⟩) (Kd.N_mono HO467.out (fun k_ hk=>(⟨hk,hk.2⟩:_∧k_≠gb469))) (fun _ hk=>hk.2) (.int .i64 t462)) (fun _ hk=>hk.2) (.int .i64 t463)) (fun _ hk=>hk.2) (.string t464)) (fun _ hk=>hk.2) (.slice Ao11 t465.length co11)) (fun _ h_=>h_.1)))).2.2);(case side2=>exact (Kd.N_reads' HO467.out).2.1);rintro e w12 ⟨rfl,hb⟩;refine ⟨_,rfl,?_⟩;have n0_:=Aside0.mk (Kd.N_below (by (with_reducible repeat (first|apply Kd.N_alloc|apply Kd.N_drewN|apply Kd.N_drew));exact (Kd.N_mono (Kd.N_far (p:=⟨gb469,3,none⟩) (Kd.N_far (p:=⟨gb469,2,none⟩) (Kd.N_far (p:=⟨gb469,1,none⟩) (Kd.N_far (p:=⟨gb469,0,none⟩) (Kd.N_mono HO467.out (fun k_ hk=>(⟨hk,hk.2⟩:_∧k_≠gb469))) (fun _ hk=>hk.2) (.int .i64 t462)) (fun _ hk=>hk.2) (.int .i64 t463)) (fun _ hk=>hk.2) (.string t464)) (fun _ hk=>hk.2) (.slice Ao11 t465.length co11)) (fun _ h_=>h_.1))) hb);have n1_:=Aside0.mk (blk_below (g:=gb469) (o:=.cells #[.int .i64 t462,.int .i64 t463,.string t464,.slice Ao11 t465.length co11] 27 (0,0)) (by (with_reducible repeat (first|refine blk_drewN ?_ _|refine blk_drew ?_|refine blk_alloc ?_ _));refine blk_put (cs:=#[.int .i64 t462,.int .i64 t463,.string t464,.slice none 0 0]) ?_ 3 _ rfl;(with_reducible repeat (first|refine blk_drewN ?_ _|refine blk_drew ?_|refine blk_alloc ?_ _));refine blk_put (cs:=#[.int .i64 t462,.int .i64 t463,.string (⟨#[]⟩:ByteArray),.slice none 0 0]) ?_ 2 _ rfl;(with_reducible repeat (first|refine blk_drewN ?_ _|refine blk_drew ?_|refine blk_alloc ?_ _));refine blk_put (cs:=#[.int .i64 t462,.int .i64 0,.string (⟨#[]⟩:ByteArray),.slice none 0 0]) ?_ 1 _ rfl;(with_reducible repeat (first|refine blk_drewN ?_ _|refine blk_drew ?_|refine blk_alloc ?_ _));refine blk_put (cs:=#[.int .i64 0,.int .i64 0,.string (⟨#[]⟩:ByteArray),.slice none 0 0]) ?_ 0 _ rfl;(with_reducible repeat (first|refine blk_drewN ?_ _|refine blk_drew ?_|refine blk_alloc ?_ _));exact BK469.out) hb);have n2_:=Aside0.mk (below_step (by repeat (first|(with_reducible first|exact HB.out|apply below_alloc|apply pw_below_drewN|apply below_drew1|refine below_set ?_ GE469.out)|exact HB.out)) hb);clear HO467;clear BK469;clear HB;have HO467:=n0_;have BK469:=n1_;have HB:=n2_;clear n0_ n1_ n2_;(try clear hb);(try clear hb2);(try clear hk);(try clear hi);have hcz13_0:w12.cell? ⟨gb469,0,none⟩=some (.int .i64 t462):=(blk_cell BK469.out 0).trans rfl;have hcz13_1:w12.cell? ⟨gb469,1,none⟩=some (.int .i64 t463):=(blk_cell BK469.out 1).trans rfl;have hcz13_2:w12.cell? ⟨gb469,2,none⟩=some (.string t464):=(blk_cell BK469.out 2).trans rfl;have hcz13_3:w12.cell? ⟨gb469,3,none⟩=some (.slice Ao11 t465.length co11):=(blk_cell BK469.out 3).trans rfl;have hfz13_0:=blk_frozen BK469.out 0;have hfz13_1:=blk_frozen BK469.out 1;have hfz13_2:=blk_frozen BK469.out 2;have hfz13_3:=blk_frozen BK469.out 3)|((with_reducible refine gate_callee (f:=21) rfl ?_);refine goesL_ (some 23) rfl rfl Try.func21 (by kernel_rfl) rfl #[.agg #[.int .i64 t462,.int .i64 t463,.string t464,.slice Ao11 t465.length co11],.int .i64 t468] rfl (by (try simp only [List.map_toArray,List.map_cons,List.map_nil]);first|done|rfl|(simp only [List.length_drop,List.length_take];rfl)) ?_;(with_reducible refine (spec_CountOps.calls k t462 t463 t464 _ _ t465 t468 t471 _ ?side1 ?side2 A5.out).mono ?_);(case side1=>repeat (first|exact (Kd.N_reads' HO467.out).2.2|(with_reducible refine Kd.C_alloc ?_ _)|(with_reducible refine Kd.C_drewN ?_ _)|(with_reducible refine Kd.C_drew ?_)));(case side2=>exact (Kd.N_reads' HO467.out).2.1);rintro e w14 ⟨rfl,hb⟩;refine ⟨_,rfl,?_⟩;have n0_:=Aside0.mk (Kd.N_below (by (with_reducible repeat (first|apply Kd.N_alloc|apply Kd.N_drewN|apply Kd.N_drew));exact HO467.out) hb);have n1_:=Aside0.mk (blk_below (g:=gb469) (o:=.cells #[.int .i64 t462,.int .i64 t463,.string t464,.slice Ao11 t465.length co11] 27 (0,0)) (by (with_reducible repeat (first|refine blk_drewN ?_ _|refine blk_drew ?_|refine blk_alloc ?_ _));exact BK469.out) hb);have n2_:=Aside0.mk (below_step (by repeat (first|(with_reducible first|exact HB.out|apply below_alloc|apply pw_below_drewN|apply below_drew1|refine below_set ?_ GE469.out)|exact HB.out)) hb);clear HO467;clear BK469;clear HB;have HO467:=n0_;have BK469:=n1_;have HB:=n2_;clear n0_ n1_ n2_;(try clear hb);(try clear hb2);(try clear hk);(try clear hi);have hcz15_0:w14.cell? ⟨gb469,0,none⟩=some (.int .i64 t462):=(blk_cell BK469.out 0).trans rfl;have hcz15_1:w14.cell? ⟨gb469,1,none⟩=some (.int .i64 t463):=(blk_cell BK469.out 1).trans rfl;have hcz15_2:w14.cell? ⟨gb469,2,none⟩=some (.string t464):=(blk_cell BK469.out 2).trans rfl;have hcz15_3:w14.cell? ⟨gb469,3,none⟩=some (.slice Ao11 t465.length co11):=(blk_cell BK469.out 3).trans rfl;have hfz15_0:=blk_frozen BK469.out 0;have hfz15_1:=blk_frozen BK469.out 1;have hfz15_2:=blk_frozen BK469.out 2;have hfz15_3:=blk_frozen BK469.out 3))
   (try simp only [Act.put,List.setIfInBounds_toArray,List.set_cons_zero,List.set_cons_succ])
   go_cut [6] (fun v6 wc=>∃ (kq:Nat) (x6_6:Int),v6=.int .i64 x6_6∧Aside0 (laws_FnCountParts.j0 kq t468 t470 x6_6 t462 t463 t464 t465=some r)∧Aside0 (kq≤k)∧Aside0 (Kd.N k27 27 wc w.heap.size (fun k_=>k_≠gb469) (.slice Ao11 t465.length co11) t465)∧Aside0 (wc.heap[gb469]?=some (.cells #[.int .i64 t462,.int .i64 t463,.string t464,(.slice Ao11 t465.length co11)] 27 (0,0)))∧Aside0 (Below w.heap.size w wc))
   case first =>
    have H:=HC7.out
    clear HC7
    by_cases c16:t462=t468
    ·rw [if_pos c16] at H
     have c16b0:(t462 == t468)=true:=beq_iff_eq.mpr c16
     have c16b1:(t462 != t468)=false:=bne_eq_false_iff_eq.mpr c16
     clear c16
     (first|rw [c16b0]|(simp only [i64_w,i32_w];rw [c16b0])|skip)
     have H':=Aside0.mk H
     clear H
     go_wp2
     go_meet
     case rel=>exact ⟨_,(1),(by first|rfl|(simp;done)|(simp [*];done)),H',⟨by first|omega|exact Nat.le_refl _⟩,⟨by (with_reducible repeat (first|apply Kd.N_alloc|apply Kd.N_drewN|apply Kd.N_drew));exact Kd.N_mono HO467.out (fun _ hk=>hk.2)⟩,⟨by (with_reducible repeat (first|refine blk_drewN ?_ _|refine blk_drew ?_|refine blk_alloc ?_ _));exact BK469.out⟩,⟨by repeat (first|(with_reducible first|exact HB.out|apply below_alloc|apply pw_below_drewN|apply below_drew1|refine below_set ?_ GE469.out)|exact HB.out)⟩⟩
    ·rw [if_neg c16] at H
     have c16b0:(t462 == t468)=false:=beq_eq_false_iff_ne.mpr c16
     have c16b1:(t462 != t468)=true:=bne_iff_ne.mpr c16
     (first|rw [c16b0]|(simp only [i64_w,i32_w];rw [c16b0])|skip)
     have H':=Aside0.mk H
     clear H
     go_wp2
     go_meet
     case rel=>exact ⟨_,(0),(by first|rfl|(simp;done)|(simp [*];done)),H',⟨by first|omega|exact Nat.le_refl _⟩,⟨by (with_reducible repeat (first|apply Kd.N_alloc|apply Kd.N_drewN|apply Kd.N_drew));exact Kd.N_mono HO467.out (fun _ hk=>hk.2)⟩,⟨by (with_reducible repeat (first|refine blk_drewN ?_ _|refine blk_drew ?_|refine blk_alloc ?_ _));exact BK469.out⟩,⟨by repeat (first|(with_reducible first|exact HB.out|apply below_alloc|apply pw_below_drewN|apply below_drew1|refine below_set ?_ GE469.out)|exact HB.out)⟩⟩
   case rest =>
    clear HC7
    try clear c1 c2 c2b0 c2b1 p2 c4 c6 c6b0 c6b1 c16 c16b0 c16b1 hcz10_0 hcz10_1 hcz10_2 hcz10_3 hcz13_0 hcz13_1 hcz13_2 hcz13_3 hcz15_0 hcz15_1 hcz15_2 hcz15_3 hfz10_0 hfz10_1 hfz10_2 hfz10_3 hfz13_0 hfz13_1 hfz13_2 hfz13_3 hfz15_0 hfz15_1 hfz15_2 hfz15_3
    obtain ⟨kq,x6_6,rfl,HA,HJ6,HO_470003,BK469,HB⟩:=hcut
    cases kq with
    | zero=>exact absurd HA.out (by simp [laws_FnCountParts.j0])
    | succ kj6 =>
     have H:=HA.out
     clear HA
     simp only [laws_FnCountParts.j0] at H
     have H':=Aside0.mk H
     clear H
     go_wp2
     go_loopg [6,7,8] kj6 (fun kq v6 v7 v8 w'=>∃ (x6_2:Int) (x7_2:Int) (x8_2:Int),v6=.int .i64 x6_2∧v7=.int .i64 x7_2∧v8=.int .i64 x8_2∧Aside0 (laws_FnCountParts.l0 kq t468 t470 x6_2 x7_2 x8_2 t462 t463 t464 t465=some r)∧Aside0 (kq≤kj6)∧Aside0 (Kd.N k27 27 w' w.heap.size (fun k_=>k_≠gb469) (.slice Ao11 t465.length co11) t465)∧Aside0 (w'.heap[gb469]?=some (.cells #[.int .i64 t462,.int .i64 t463,.string t464,(.slice Ao11 t465.length co11)] 27 (0,0)))∧Aside0 (Below w.heap.size w w'))
     case atStart=>exact ⟨(x6_6),(1),(0),(by first|rfl|(simp;done)|(simp [*];done)),(by first|rfl|(simp;done)|(simp [*];done)),(by first|rfl|(simp;done)|(simp [*];done)),H',⟨Nat.le_refl _⟩,⟨by (with_reducible repeat (first|apply Kd.N_alloc|apply Kd.N_drewN|apply Kd.N_drew));exact HO_470003.out⟩,⟨by (with_reducible repeat (first|refine blk_drewN ?_ _|refine blk_drew ?_|refine blk_alloc ?_ _));exact BK469.out⟩,⟨by repeat (first|(with_reducible first|exact HB.out|apply below_alloc|apply pw_below_drewN|apply below_drew1|refine below_set ?_ GE469.out)|exact HB.out)⟩⟩
     case round =>
      clear H'
      try clear c1 c2 c2b0 c2b1 p2 c4 c6 c6b0 c6b1 c16 c16b0 c16b1 hcz10_0 hcz10_1 hcz10_2 hcz10_3 hcz13_0 hcz13_1 hcz13_2 hcz13_3 hcz15_0 hcz15_1 hcz15_2 hcz15_3 hfz10_0 hfz10_1 hfz10_2 hfz10_3 hfz13_0 hfz13_1 hfz13_2 hfz13_3 hfz15_0 hfz15_1 hfz15_2 hfz15_3 p2
      (try clear HO_470003);(try clear BK469);(try clear HB)
      obtain ⟨x6_2,x7_2,x8_2,rfl,rfl,rfl,HA,HK2,HO_470003,BK469,HB⟩:=hrel
      cases gk with
      | zero=>exact absurd HA.out (by simp [laws_FnCountParts.l0])
      | succ k2 =>
       have H:=HA.out
       clear HA
       simp only [laws_FnCountParts.l0] at H
       by_cases c17:x8_2<(t465.length:Int)
       ·rw [if_pos c17] at H
        have c17b0:decide (x8_2<(t465.length:Int))=true:=decide_eq_true c17
        clear c17
        by_cases c18:0≤x8_2
        ·rw [if_pos c18] at H
         have c18b0:decide (0≤x8_2)=true:=decide_eq_true c18
         clear c18
         replace H:=Option.bind_eq_some_iff.mp H
         obtain ⟨t473,A190,H⟩:=H
         replace H:((impl_DocSize.f k2 ((rd_TDoc t465 x8_2).f0) ((rd_TDoc t465 x8_2).f1) ((rd_TDoc t465 x8_2).f2) ((rd_TDoc t465 x8_2).f3)).bind fun t475=>(laws_FnCountParts.l0 k2 t468 t470 (wrap64 (x6_2+t473)) (wrap64 (x7_2+t475)) (wrap64 (x8_2+1)) t462 t463 t464 t465))=some r:=H
         have A19:=Aside0.mk A190
         clear A190
         replace H:=Option.bind_eq_some_iff.mp H
         obtain ⟨t475,A200,H⟩:=H
         replace H:(laws_FnCountParts.l0 k2 t468 t470 (wrap64 (x6_2+t473)) (wrap64 (x7_2+t475)) (wrap64 (x8_2+1)) t462 t463 t464 t465)=some r:=H
         have A20:=Aside0.mk A200
         clear A200
         have H':=Aside0.mk H
         clear H
         have hcz21_0:wr.cell? ⟨gb469,0,none⟩=some (.int .i64 t462):=(blk_cell BK469.out 0).trans rfl
         have hcz21_1:wr.cell? ⟨gb469,1,none⟩=some (.int .i64 t463):=(blk_cell BK469.out 1).trans rfl
         have hcz21_2:wr.cell? ⟨gb469,2,none⟩=some (.string t464):=(blk_cell BK469.out 2).trans rfl
         have hcz21_3:wr.cell? ⟨gb469,3,none⟩=some (.slice Ao11 t465.length co11):=(blk_cell BK469.out 3).trans rfl
         have hfz21_0:=blk_frozen BK469.out 0
         have hfz21_1:=blk_frozen BK469.out 1
         have hfz21_2:=blk_frozen BK469.out 2
         have hfz21_3:=blk_frozen BK469.out 3
         have p472:0≤(x8_2:Int):=of_decide_eq_true (by first|(with_reducible assumption)|assumption)
         have q472:x8_2<(t465.length:Int):=of_decide_eq_true (by first|(with_reducible assumption)|assumption)
         obtain ⟨ad472,A472_3,c472_3,e472,hx472_0,hx472_1,hx472_2,hx472_3,hl472_3,hi472_3⟩:=at_TDoc (Kd.N_reads' HO_470003.out).2.2 x8_2 p472 q472
         cases e472
         obtain ⟨ce472,hce472,hMe472,hcc472⟩:=Kd.N_get HO_470003.out zDoc x8_2 p472 (by first|exact q472|exact of_decide_eq_true (by first|(with_reducible assumption)|assumption)|(have e_:=(Kd.N_reads' HO_470003.out).1;omega))
         obtain ⟨ua472_3,uc472_3,rfl,ul472_3,ge472_3⟩:=k27_openF hMe472
         have hv472_3:=hcc472 3 _ rfl
         rw [add_field _ _ 3 (by omega)] at hv472_3
         replace hv472_3:=Option.some.inj (hv472_3.symm.trans hx472_3)
         injection hv472_3 with hva_ hvn_ hvc_
         rw [hva_] at ge472_3
         rw [hvc_] at ul472_3
         have HL472_3:=Aside0.mk (show Kd.V k27 27 _ w.heap.size _ _ ((rd_TDoc t465 x8_2).f3) from Kd.V_mk ul472_3 ge472_3)
         clear hva_ hvn_ hvc_ ge472_3 ul472_3
         clear hcc472 hce472
         have HR472_3:=Aside0.mk hi472_3
         have HC472_3:=Aside0.mk hl472_3
         clear hi472_3 hl472_3
         replace p472:=eq_true p472
         replace q472:=eq_true q472
         go_wp2_with (first|((with_reducible refine gate_callee (f:=20) rfl ?_);refine goesL_ (some 43) rfl rfl Try.func20 (by kernel_rfl) rfl #[.agg #[.int .i64 ((rd_TDoc t465 x8_2).f0),.int .i64 ((rd_TDoc t465 x8_2).f1),.string ((rd_TDoc t465 x8_2).f2),.slice A472_3 ((rd_TDoc t465 x8_2).f3).length c472_3],.int .i64 t468] rfl (by (try simp only [List.map_toArray,List.map_cons,List.map_nil]);first|done|rfl|(simp only [List.length_drop,List.length_take];rfl)) ?_;(with_reducible refine (impl_CountOps.calls k2 ((rd_TDoc t465 x8_2).f0) ((rd_TDoc t465 x8_2).f1) ((rd_TDoc t465 x8_2).f2) _ _ ((rd_TDoc t465 x8_2).f3) t468 t473 _ ?side1 ?side2 A19.out).mono ?_);(case side1=>repeat (first|exact (by repeat (first|(with_reducible exact HR472_3.out)|(with_reducible refine Kd.C_alloc ?_ _)|(with_reducible refine Kd.C_drewN ?_ _)|(with_reducible refine Kd.C_drew ?_)|exact HR472_3.out))|(with_reducible refine Kd.C_alloc ?_ _)|(with_reducible refine Kd.C_drewN ?_ _)|(with_reducible refine Kd.C_drew ?_)));(case side2=>exact HC472_3.out);rintro e w22 ⟨rfl,hb⟩;refine ⟨_,rfl,?_⟩;have n0_:=Aside0.mk (Kd.N_below (by (with_reducible repeat (first|apply Kd.N_alloc|apply Kd.N_drewN|apply Kd.N_drew));exact HO_470003.out) hb);have n1_:=Aside0.mk (Kd.V_below (by (with_reducible repeat (first|apply Kd.V_alloc|apply Kd.V_drewN|apply Kd.V_drew));exact HL472_3.out) hb);have n2_:=Aside0.mk (blk_below (g:=gb469) (o:=.cells #[.int .i64 t462,.int .i64 t463,.string t464,.slice (some ad472) t465.length co11] 27 (0,0)) (by (with_reducible repeat (first|refine blk_drewN ?_ _|refine blk_drew ?_|refine blk_alloc ?_ _));exact BK469.out) hb);have n3_:=Aside0.mk (Kd.C_below (by repeat (first|(with_reducible exact HR472_3.out)|(with_reducible refine Kd.C_alloc ?_ _)|(with_reducible refine Kd.C_drewN ?_ _)|(with_reducible refine Kd.C_drew ?_)|exact HR472_3.out)) hb);have n4_:=Aside0.mk (below_step (by repeat (first|(with_reducible first|exact HB.out|apply below_alloc|apply pw_below_drewN|apply below_drew1|refine below_set ?_ GE469.out)|exact HB.out)) hb);clear HO_470003;clear HL472_3;clear BK469;clear HR472_3;clear HB;have HO_470003:=n0_;have HL472_3:=n1_;have BK469:=n2_;have HR472_3:=n3_;have HB:=n4_;clear n0_ n1_ n2_ n3_ n4_;(try clear hb);(try clear hb2);(try clear hk);(try clear hi);have hcz23_0:w22.cell? ⟨gb469,0,none⟩=some (.int .i64 t462):=(blk_cell BK469.out 0).trans rfl;have hcz23_1:w22.cell? ⟨gb469,1,none⟩=some (.int .i64 t463):=(blk_cell BK469.out 1).trans rfl;have hcz23_2:w22.cell? ⟨gb469,2,none⟩=some (.string t464):=(blk_cell BK469.out 2).trans rfl;have hcz23_3:w22.cell? ⟨gb469,3,none⟩=some (.slice (some ad472) t465.length co11):=(blk_cell BK469.out 3).trans rfl;have hfz23_0:=blk_frozen BK469.out 0;have hfz23_1:=blk_frozen BK469.out 1;have hfz23_2:=blk_frozen BK469.out 2;have hfz23_3:=blk_frozen BK469.out 3;have p474:0≤(x8_2:Int):=of_decide_eq_true (by first|(with_reducible assumption)|assumption);have q474:x8_2<(t465.length:Int):=of_decide_eq_true (by first|(with_reducible assumption)|assumption);obtain ⟨ad474,A474_3,c474_3,e474,hx474_0,hx474_1,hx474_2,hx474_3,hl474_3,hi474_3⟩:=at_TDoc (Kd.N_reads' HO_470003.out).2.2 x8_2 p474 q474;obtain rfl:ad472=ad474:=(by injection e474);obtain ⟨ce474,hce474,hMe474,hcc474⟩:=Kd.N_get HO_470003.out zDoc x8_2 p474 (by first|exact q474|exact of_decide_eq_true (by first|(with_reducible assumption)|assumption)|(have e_:=(Kd.N_reads' HO_470003.out).1;omega));obtain ⟨ua474_3,uc474_3,rfl,ul474_3,ge474_3⟩:=k27_openF hMe474;have hv474_3:=hcc474 3 _ rfl;rw [add_field _ _ 3 (by omega)] at hv474_3;replace hv474_3:=Option.some.inj (hv474_3.symm.trans hx474_3);injection hv474_3 with hva_ hvn_ hvc_;rw [hva_] at ge474_3;rw [hvc_] at ul474_3;have HL474_3:=Aside0.mk (show Kd.V k27 27 _ w.heap.size _ _ ((rd_TDoc t465 x8_2).f3) from Kd.V_mk ul474_3 ge474_3);clear hva_ hvn_ hvc_ ge474_3 ul474_3;clear hcc474 hce474;have HR474_3:=Aside0.mk hi474_3;have HC474_3:=Aside0.mk hl474_3;clear hi474_3 hl474_3;replace p474:=eq_true p474;replace q474:=eq_true q474)|((with_reducible refine gate_callee (f:=22) rfl ?_);refine goesL_ (some 51) rfl rfl Try.func22 (by kernel_rfl) rfl #[.agg #[.int .i64 ((rd_TDoc t465 x8_2).f0),.int .i64 ((rd_TDoc t465 x8_2).f1),.string ((rd_TDoc t465 x8_2).f2),.slice A474_3 ((rd_TDoc t465 x8_2).f3).length c474_3]] rfl (by (try simp only [List.map_toArray,List.map_cons,List.map_nil]);first|done|rfl|(simp only [List.length_drop,List.length_take];rfl)) ?_;(with_reducible refine (impl_DocSize.calls k2 ((rd_TDoc t465 x8_2).f0) ((rd_TDoc t465 x8_2).f1) ((rd_TDoc t465 x8_2).f2) _ _ ((rd_TDoc t465 x8_2).f3) t475 _ ?side1 ?side2 A20.out).mono ?_);(case side1=>repeat (first|exact (by repeat (first|(with_reducible exact HR474_3.out)|(with_reducible refine Kd.C_alloc ?_ _)|(with_reducible refine Kd.C_drewN ?_ _)|(with_reducible refine Kd.C_drew ?_)|exact HR474_3.out))|(with_reducible refine Kd.C_alloc ?_ _)|(with_reducible refine Kd.C_drewN ?_ _)|(with_reducible refine Kd.C_drew ?_)));(case side2=>exact HC474_3.out);rintro e w24 ⟨rfl,hb⟩;refine ⟨_,rfl,?_⟩;have n0_:=Aside0.mk (Kd.N_below (by (with_reducible repeat (first|apply Kd.N_alloc|apply Kd.N_drewN|apply Kd.N_drew));exact HO_470003.out) hb);have n1_:=Aside0.mk (Kd.V_below (by (with_reducible repeat (first|apply Kd.V_alloc|apply Kd.V_drewN|apply Kd.V_drew));exact HL472_3.out) hb);have n2_:=Aside0.mk (Kd.V_below (by (with_reducible repeat (first|apply Kd.V_alloc|apply Kd.V_drewN|apply Kd.V_drew));exact HL474_3.out) hb);have n3_:=Aside0.mk (blk_below (g:=gb469) (o:=.cells #[.int .i64 t462,.int .i64 t463,.string t464,.slice (some ad472) t465.length co11] 27 (0,0)) (by (with_reducible repeat (first|refine blk_drewN ?_ _|refine blk_drew ?_|refine blk_alloc ?_ _));exact BK469.out) hb);have n4_:=Aside0.mk (Kd.C_below (by repeat (first|(with_reducible exact HR472_3.out)|(with_reducible refine Kd.C_alloc ?_ _)|(with_reducible refine Kd.C_drewN ?_ _)|(with_reducible refine Kd.C_drew ?_)|exact HR472_3.out)) hb);have n5_:=Aside0.mk (Kd.C_below (by repeat (first|(with_reducible exact HR474_3.out)|(with_reducible refine Kd.C_alloc ?_ _)|(with_reducible refine Kd.C_drewN ?_ _)|(with_reducible refine Kd.C_drew ?_)|exact HR474_3.out)) hb);have n6_:=Aside0.mk (below_step (by repeat (first|(with_reducible first|exact HB.out|apply below_alloc|apply pw_below_drewN|apply below_drew1|refine below_set ?_ GE469.out)|exact HB.out)) hb);clear HO_470003;clear HL472_3;clear HL474_3;clear BK469;clear HR472_3;clear HR474_3;clear HB;have HO_470003:=n0_;have HL472_3:=n1_;have HL474_3:=n2_;have BK469:=n3_;have HR472_3:=n4_;have HR474_3:=n5_;have HB:=n6_;clear n0_ n1_ n2_ n3_ n4_ n5_ n6_;(try clear hb);(try clear hb2);(try clear hk);(try clear hi)))
         go_roundg k2
         case measure=>have:=HJ6.out;have:=HK2.out;omega
         case rel=>exact ⟨(wrap64 (x6_2+t473)),(wrap64 (x7_2+t475)),(wrap64 (x8_2+1)),(by first|rfl|(simp;done)|(simp [*];done)),(by first|rfl|(simp;done)|(simp [*];done)),(by first|rfl|(simp;done)|(simp [*];done)),H',⟨by have:=HJ6.out;have:=HK2.out;omega⟩,⟨by (with_reducible repeat (first|apply Kd.N_alloc|apply Kd.N_drewN|apply Kd.N_drew));exact HO_470003.out⟩,⟨by (with_reducible repeat (first|refine blk_drewN ?_ _|refine blk_drew ?_|refine blk_alloc ?_ _));exact BK469.out⟩,⟨by repeat (first|(with_reducible first|exact HB.out|apply below_alloc|apply pw_below_drewN|apply below_drew1|refine below_set ?_ GE469.out)|exact HB.out)⟩⟩
        ·rw [if_neg c18] at H
         exact absurd H (by simp)
       ·rw [if_neg c17] at H
        have c17b0:decide (x8_2<(t465.length:Int))=false:=decide_eq_false c17
        clear c17
        by_cases c25:t470=x6_2
        ·rw [if_pos c25] at H
         have c25b0:(t470 == x6_2)=true:=beq_iff_eq.mpr c25
         have c25b1:(t470 != x6_2)=false:=bne_eq_false_iff_eq.mpr c25
         clear c25
         replace H:=Option.bind_eq_some_iff.mp H
         obtain ⟨t476,A260,H⟩:=H
         replace H:(some (t476 == x7_2))=some r:=H
         have A26:=Aside0.mk A260
         clear A260
         obtain rfl:=Option.some.inj H
         have hcz27_0:wr.cell? ⟨gb469,0,none⟩=some (.int .i64 t462):=(blk_cell BK469.out 0).trans rfl
         have hcz27_1:wr.cell? ⟨gb469,1,none⟩=some (.int .i64 t463):=(blk_cell BK469.out 1).trans rfl
         have hcz27_2:wr.cell? ⟨gb469,2,none⟩=some (.string t464):=(blk_cell BK469.out 2).trans rfl
         have hcz27_3:wr.cell? ⟨gb469,3,none⟩=some (.slice Ao11 t465.length co11):=(blk_cell BK469.out 3).trans rfl
         have hfz27_0:=blk_frozen BK469.out 0
         have hfz27_1:=blk_frozen BK469.out 1
         have hfz27_2:=blk_frozen BK469.out 2
         have hfz27_3:=blk_frozen BK469.out 3
         go_wp2_with (first|(go_at_call 22;(with_reducible refine (impl_DocSize.calls k2 t462 t463 t464 _ _ t465 t476 _ ?side1 ?side2 A26.out).mono ?_);(case side1=>repeat (first|exact (Kd.N_reads' HO_470003.out).2.2|(with_reducible refine Kd.C_alloc ?_ _)|(with_reducible refine Kd.C_drewN ?_ _)|(with_reducible refine Kd.C_drew ?_)));(case side2=>exact (Kd.N_reads' HO_470003.out).2.1);rintro e w28 ⟨rfl,hb⟩;have n0_:=Aside0.mk (Kd.N_below (by (with_reducible repeat (first|apply Kd.N_alloc|apply Kd.N_drewN|apply Kd.N_drew));exact HO_470003.out) hb);have n1_:=Aside0.mk (blk_below (g:=gb469) (o:=.cells #[.int .i64 t462,.int .i64 t463,.string t464,.slice Ao11 t465.length co11] 27 (0,0)) (by (with_reducible repeat (first|refine blk_drewN ?_ _|refine blk_drew ?_|refine blk_alloc ?_ _));exact BK469.out) hb);have n2_:=Aside0.mk (below_step (by repeat (first|(with_reducible first|exact HB.out|apply below_alloc|apply pw_below_drewN|apply below_drew1|refine below_set ?_ GE469.out)|exact HB.out)) hb);clear HO_470003;clear BK469;clear HB;have HO_470003:=n0_;have BK469:=n1_;have HB:=n2_;clear n0_ n1_ n2_;(try clear hb);(try clear hb2);(try clear hk);(try clear hi)))
         go_ret
         exact ⟨by first|rfl|(simp [errW_none,errW_some] <;> rfl)|(simp [*,errW_none,errW_some] <;> rfl),by repeat (first|(with_reducible first|exact HB.out|apply below_alloc|apply pw_below_drewN|apply below_drew1|refine below_set ?_ GE469.out)|exact HB.out)⟩
        ·rw [if_neg c25] at H
         exact absurd H (by simp)
  ·rw [if_neg c6] at H
   exact absurd H (by simp)
def laws_FnCountParts.Pure:Prop:=∀ (l0:List Int),l0.length≤maxLen→l0.length * 1≤140737488351232→(∀ x∈l0,(Lit.int .u8 x).wf=true)→∃ k,laws_FnCountParts.f k l0=some true
theorem laws_FnCountParts.walk (P:laws_FnCountParts.Pure) (a0:Option Addr) (len0 cap0:Nat) (z0:List Int) (w:World) (w0:(a0=none∧len0=0∧cap0=0∧z0=[]) ∨ ∃ x,a0=some x∧len0≤cap0∧cap0≤maxLen∧z0.length=cap0∧(∀ i,i<z0.length→w.cell? (x.add i)=some (.int .u8 (z0.getD i 0)))∧∀ n∈z0,(Lit.int .u8 n).wf=true) (y0:len0 * 1≤140737488351232) :
  Calls Try.prog 4 #[.slice a0 len0 cap0] w fun e w'=>e=.returned (.bool true)∧Below w.heap.size w w':=by
 obtain ⟨l0,rfl,hr0,hm0,hw0,hc0⟩:=ReadsInt.ofRowC w0
 obtain ⟨k,h⟩:=P l0 hm0 y0 hw0
 refine (laws_FnCountParts.calls k _ _ l0 true w (Kd.C_of_reads (d:=(0:Int)) (h1:=fun _=>rfl) hr0) hc0 h).mono ?_
 rintro e w' ⟨rfl,hd⟩
 exact ⟨rfl,hd⟩
end Go.Proofs.Ytdhdfmmefghijaa.P
namespace Go.Proofs.Ytdhdfmmefghijaa.Pure
open Go.RowKit Go.Proofs.Ytdhdfmmefghijaa.P Go.Proofs.YtdhdfmmefghijaaW.PrintWords Go.Proofs.YtdhdfmmefghijaaW.PrintLast Go.Proofs.YtdhdfmmefghijaaW.PrintMore
set_option linter.unusedVariables false
set_option linter.unusedSimpArgs false
theorem cparts_loop (op o n:Int) (t:ByteArray) (suf:List SDoc):∀ (pre:List SDoc) (a b:Nat),a+cntL op suf=cnt op ⟨o,n,t,pre ++ suf⟩→b+dszL suf=dsz ⟨o,n,t,pre ++ suf⟩→dsz ⟨o,n,t,pre ++ suf⟩≤1000000 →
    Ev (fun k=>laws_FnCountParts.l0 k op (cnt op ⟨o,n,t,pre ++ suf⟩:Int) (a:Int) (b:Int) (pre.length:Int) o n t (pre ++ suf)) true:=by
  induction suf with
  | nil =>
    intro pre a b ha hb hd
    refine Ev.step (fun k=>by rw [laws_FnCountParts.l0]) ?_
    simp only [cntL,dszL,Nat.add_zero] at ha hb
    rw [List.append_nil] at ha hb hd ⊢
    simp only [Int.lt_irrefl,if_false,if_pos (show (cnt op ⟨o,n,t,pre⟩:Int)=(a:Int) by omega)]
    refine Ev.bind (implSize_ev ⟨o,n,t,pre⟩ (by omega)) ?_
    rw [hb,beq_self_eq_true]
    exact Ev.now _
  | cons y suf ih =>
    intro pre a b ha hb hd
    refine Ev.step (fun k=>by rw [laws_FnCountParts.l0]) ?_
    have c1:(pre.length:Int) < ((pre ++ y :: suf).length:Int):=by simp;omega
    have c2:(0:Int)≤(pre.length:Int):=by omega
    rw [cntL_cons] at ha
    rw [dszL] at hb
    have hl:=dszL_len (pre ++ y :: suf)
    have hm:dsz ⟨o,n,t,pre ++ y :: suf⟩=1+dszL (pre ++ y :: suf):=by rw [dsz]
    have hc:=cnt_le op ⟨o,n,t,pre ++ y :: suf⟩
    have hll:pre.length≤(pre ++ y :: suf).length:=by simp
    simp only [if_pos c1,if_pos c2,rdD]
    refine Ev.bind (implCnt_ev op y (by omega)) (Ev.bind (implSize_ev y (by omega)) ?_)
    have e1:wrap64 ((a:Int)+(cnt op y:Int))=((a+cnt op y:Nat):Int):=by rw [w64 (by omega) (by omega)];omega
    have e2:wrap64 ((b:Int)+(dsz y:Int))=((b+dsz y:Nat):Int):=by rw [w64 (by omega) (by omega)];omega
    have e3:wrap64 ((pre.length:Int)+1)=(pre.length:Int)+1:=w64 (by omega) (by omega)
    rw [e1,e2,e3]
    have ea:(pre ++ [y]) ++ suf=pre ++ y :: suf:=by simp
    have:=ih (pre ++ [y]) (a+cnt op y) (b+dsz y) (by rw [ea];omega) (by rw [ea];omega) (by rw [ea];omega)
    rw [ea,show ((pre ++ [y]).length:Int)=(pre.length:Int)+1 by simp] at this
    exact this
theorem FnCountParts:laws_FnCountParts.Pure:=by
  intro l hl _ hw
  refine Ev.rounds (g:=fun k=>laws_FnCountParts.f k l) (Ev.congr (fun k=>by rw [laws_FnCountParts.f]) (big_or ?_))
  obtain ⟨d,op,hd,hm⟩:=drawOps_ev l hl hw
  have hz:=dsz_msz d
  refine Ev.bind hd (Ev.bind (implCnt_ev op d (by omega)) (Ev.bind (specCnt_ev op d (by omega)) ?_))
  simp only [if_true]
  obtain ⟨o,n,t,ks⟩:=d
  have key:∀ a:Nat,a+cntL op ks=cnt op ⟨o,n,t,ks⟩→Ev (fun k=>laws_FnCountParts.j0 k op (cnt op ⟨o,n,t,ks⟩:Int) (a:Int) o n t ks) true:=by
    intro a ha
    refine Ev.step (fun k=>by rw [laws_FnCountParts.j0]) ?_
    exact cparts_loop op o n t ks [] a 1 ha rfl (by show dsz _≤_;simp only [List.nil_append];omega)
  refine Ev.iff (fun c=>?_) (fun c=>?_)
  · have c:o=op:=c
    exact key 1 (by rw [cnt,if_pos c])
  · have c:¬ o=op:=c
    exact key 0 (by rw [cnt,if_neg c])
end Go.Proofs.Ytdhdfmmefghijaa.Pure
