/- CONTRACTS and lemmas for the law FnFlattenParts. -/
import Derived.Test.YtdhdfmmefghijaaVLa9
namespace Go.Proofs.Ytdhdfmmefghijaa.P
open Go.RowKit Go.Proofs.YtdhdfmmefghijaaW.PrintWords Go.Proofs.YtdhdfmmefghijaaW.PrintLast Go.Proofs.YtdhdfmmefghijaaW.PrintMore
attribute [local go_sem] max2_int min2_int max_two min_two max_three min_three max_four min_four
set_option linter.unusedVariables false
set_option linter.unusedSimpArgs false
mutual
def laws_FnFlattenParts.j0:Nat→Bool→Bool→Int→Int→ByteArray→List (SDoc)→Option (Bool)
 | 0,_,_,_,_,_,_=>none
 | k+1,x4,x22,x554000,x554001,x554002,x554003=>if x22=true then ((spec_CanFlatten.f k x554000 x554001 x554002 x554003).bind fun t557=>(if (x4 == t557)=true then (some (!x4)) else (none))) else (laws_FnFlattenParts.l0 k x4 (x554000 != 5) 0 x554000 x554001 x554002 x554003)
def laws_FnFlattenParts.l0:Nat→Bool→Bool→Int→Int→Int→ByteArray→List (SDoc)→Option (Bool)
 | 0,_,_,_,_,_,_,_=>none
 | k+1,x4,x5,x6,x554000,x554001,x554002,x554003=>if x6 < (x554003.length:Int) then (if x5=true then (if 0≤x6 then ((impl_CanFlatten.f k ((rd_TDoc x554003 x6).f0) ((rd_TDoc x554003 x6).f1) ((rd_TDoc x554003 x6).f2) ((rd_TDoc x554003 x6).f3)).bind fun t559=>(laws_FnFlattenParts.l0 k x4 t559 (wrap64 (x6+1)) x554000 x554001 x554002 x554003)) else (none)) else (laws_FnFlattenParts.l0 k x4 false (wrap64 (x6+1)) x554000 x554001 x554002 x554003)) else (some (x4 == x5))
end
def laws_FnFlattenParts.f (k:Nat) (l0:List Int):Option (Bool):=if (l0.length:Int) > 1048576 then (some true) else ((spec_DrawCanFlatten.f k l0).bind fun bt547=>((impl_CanFlatten.f k bt547.1 bt547.2.1 bt547.2.2.1 bt547.2.2.2).bind fun t554=>((spec_CanFlatten.f k bt547.1 bt547.2.1 bt547.2.2.1 bt547.2.2.2).bind fun t555=>(if (t554 != t555)=true then (laws_FnFlattenParts.j0 k t554 true bt547.1 bt547.2.1 bt547.2.2.1 bt547.2.2.2) else ((impl_DocValid.f k bt547.1 bt547.2.1 bt547.2.2.1 bt547.2.2.2).bind fun t556=>(laws_FnFlattenParts.j0 k t554 (!t556) bt547.1 bt547.2.1 bt547.2.2.1 bt547.2.2.2))))))
set_option maxHeartbeats 8000000 in
set_option maxRecDepth 100000 in
theorem laws_FnFlattenParts.calls (k:Nat) (A0:Option Addr) (c0:Nat) (l0:List Int) (r:Bool) (w:World) (hr0:Kd.C (Kd.int .u8) w A0 l0.length l0) (hc0:l0.length≤c0) (h:laws_FnFlattenParts.f k l0=some r) :
  Calls Try.prog 6 #[.slice A0 l0.length c0] w fun e w'=>e=.returned (.bool r)∧Below w.heap.size w w':=by
 have hu27:=Try.underlying27
 have HR0:=Aside0.mk hr0
 have HC0:=Aside0.mk hc0
 clear hr0 hc0
 have HB:=Aside0.mk (Below.refl w.heap.size w)
 have H:(if (l0.length:Int) > 1048576 then (some true) else ((spec_DrawCanFlatten.f k l0).bind fun bt547=>((impl_CanFlatten.f k bt547.1 bt547.2.1 bt547.2.2.1 bt547.2.2.2).bind fun t554=>((spec_CanFlatten.f k bt547.1 bt547.2.1 bt547.2.2.1 bt547.2.2.2).bind fun t555=>(if (t554 != t555)=true then (laws_FnFlattenParts.j0 k t554 true bt547.1 bt547.2.1 bt547.2.2.1 bt547.2.2.2) else ((impl_DocValid.f k bt547.1 bt547.2.1 bt547.2.2.1 bt547.2.2.2).bind fun t556=>(laws_FnFlattenParts.j0 k t554 (!t556) bt547.1 bt547.2.1 bt547.2.2.1 bt547.2.2.2)))))))=some r:=h
 clear h
 by_cases c2:(l0.length:Int) > 1048576
 ·rw [if_pos c2] at H
  have c2b0:decide (1048576 < (l0.length:Int))=true:=decide_eq_true c2
  have c2b1:decide (1048576 < l0.length)=true:=decide_eq_true (by omega)
  clear c2
  obtain rfl:=Option.some.inj H
  go_enter Try.func6,Try.ntmps6
  go_wp2
  go_ret
  exact ⟨by first|rfl|(simp [errW_none,errW_some] <;> rfl)|(simp [*,errW_none,errW_some] <;> rfl),gB HB⟩
 ·rw [if_neg c2] at H
  have c2b0:decide (1048576 < (l0.length:Int))=false:=decide_eq_false c2
  have c2b1:decide (1048576 < l0.length)=false:=decide_eq_false (by omega)
  clear c2
  replace H:=Option.bind_eq_some_iff.mp H
  obtain ⟨⟨t547,t548,t549,t550⟩,A30,H⟩:=H
  replace H:((impl_CanFlatten.f k t547 t548 t549 t550).bind fun t554=>((spec_CanFlatten.f k t547 t548 t549 t550).bind fun t555=>(if (t554 != t555)=true then (laws_FnFlattenParts.j0 k t554 true t547 t548 t549 t550) else ((impl_DocValid.f k t547 t548 t549 t550).bind fun t556=>(laws_FnFlattenParts.j0 k t554 (!t556) t547 t548 t549 t550)))))=some r:=H
  have A3:=Aside0.mk A30
  clear A30
  replace H:=Option.bind_eq_some_iff.mp H
  obtain ⟨t554,A40,H⟩:=H
  replace H:((spec_CanFlatten.f k t547 t548 t549 t550).bind fun t555=>(if (t554 != t555)=true then (laws_FnFlattenParts.j0 k t554 true t547 t548 t549 t550) else ((impl_DocValid.f k t547 t548 t549 t550).bind fun t556=>(laws_FnFlattenParts.j0 k t554 (!t556) t547 t548 t549 t550))))=some r:=H
  have A4:=Aside0.mk A40
  clear A40
  have HC5:=Aside0.mk H
  clear H
  go_enter Try.func6,Try.ntmps6
  go_upto_region 5 with (first|((with_reducible refine gate_callee (f:=27) rfl ?_);refine goesL_ (some 11) rfl rfl Try.func27 (by kernel_rfl) rfl #[.slice A0 l0.length c0] rfl (by (try simp only [List.map_toArray,List.map_cons,List.map_nil]);first|done|rfl|(simp only [List.length_drop,List.length_take];rfl)) ?_;(with_reducible refine (spec_DrawCanFlatten.calls k _ _ l0 t547 t548 t549 t550 _ ?side1 ?side2 A3.out).mono ?_);(case side1=>repeat (first|exact HR0.out|(with_reducible refine Kd.C_alloc ?_ _)|(with_reducible refine Kd.C_drewN ?_ _)|(with_reducible refine Kd.C_drew ?_)));(case side2=>exact HC0.out);rintro e w6 ⟨v551,rfl,ho0,hb⟩;refine ⟨_,rfl,?_⟩;have n0_:=Aside0.mk (Kd.N_lower (Kd.N_mono (ok':=fun k_=>True) ho0 (fun k_ hk_=>trivial)) (below_size (gB HB)));have n1_:=Aside0.mk (below_step (gB HB) hb);clear HB;have HO552:=n0_;have HB:=n1_;clear n0_ n1_;(try clear hb);(try clear hb2);(try clear hk);(try clear hi);(try clear ho0))|((with_reducible refine gate_dst (N:=3) rfl ?_);refine box_event ?hg (N:=3) ?hd (cs:=#[.int .i64 0,.int .i64 0,.string (⟨#[]⟩:ByteArray),.slice none 0 0]) (t:=27) ?hr ?_;(case hd=>rfl);(case hg=>rfl);(case hr=>first|(go_simp;done)|(go_simp;rfl));intro gb553 hg w7 hbox hb;have n0_:=Aside0.mk (Kd.N_below (Kd.N_elderB (gN HO552) gb553 (Nat.le_of_eq hg.symm)) hb);have n1_:=Aside0.mk (below_step (gB HB) hb);have n2_:=Aside0.mk (hbox);have n3_:=Aside0.mk ((by rw [hg];exact (below_size (gB HB)):w.heap.size≤gb553));have n4_:=Aside0.mk ((by rw [hg];exact (below_size (gB HB)):w.heap.size≤gb553));clear HO552;clear HB;have HO552:=n0_;have HB:=n1_;have BK553:=n2_;have GW553:=n3_;have GE553:=n4_;clear n0_ n1_ n2_ n3_ n4_;clear hb hbox hg;have hcz8_0:w7.cell? ⟨gb553,0,none⟩=some (.int .i64 0):=(blk_cell BK553.out 0).trans rfl;have hcz8_1:w7.cell? ⟨gb553,1,none⟩=some (.int .i64 0):=(blk_cell BK553.out 1).trans rfl;have hcz8_2:w7.cell? ⟨gb553,2,none⟩=some (.string (⟨#[]⟩:ByteArray)):=(blk_cell BK553.out 2).trans rfl;have hcz8_3:w7.cell? ⟨gb553,3,none⟩=some (.slice none 0 0):=(blk_cell BK553.out 3).trans rfl;have hfz8_0:=blk_frozen BK553.out 0;have hfz8_1:=blk_frozen BK553.out 1;have hfz8_2:=blk_frozen BK553.out 2;have hfz8_3:=blk_frozen BK553.out 3;obtain ⟨Ao9,co9,eo9⟩:=Kd.N_slice HO552.out;subst eo9)|((with_reducible refine gate_callee (f:=26) rfl ?_);refine goesL_ (some 13) rfl rfl Try.func26 (by kernel_rfl) rfl #[.agg #[.int .i64 t547,.int .i64 t548,.string t549,.slice Ao9 t550.length co9]] rfl (by (try simp only [List.map_toArray,List.map_cons,List.map_nil]);first|done|rfl|(simp only [List.length_drop,List.length_take];rfl)) ?_;(with_reducible refine (impl_CanFlatten.calls k t547 t548 t549 _ _ t550 t554 _ ?side1 ?side2 A4.out).mono ?_);(case side1=>exact (Kd.N_reads' (e:=27) (base:=w.heap.size) (n:=t550.length) (c:=co9) (by (with_reducible repeat (first|apply Kd.N_alloc|apply Kd.N_drewN|apply Kd.N_drew));exact (Kd.N_mono (Kd.N_far (p:=⟨gb553,3,none⟩) (Kd.N_far (p:=⟨gb553,2,none⟩) (Kd.N_far (p:=⟨gb553,1,none⟩) (Kd.N_far (p:=⟨gb553,0,none⟩) (Kd.N_mono HO552.out (fun k_ hk=>(⟨hk,hk.2⟩:_∧k_ ≠ gb553))) (fun _ hk=>hk.2) (.int .i64 t547)) (fun _ hk=>hk.2) (.int .i64 t548)) (fun _ hk=>hk.2) (.string t549)) (fun _ hk=>hk.2) (.slice Ao9 t550.length co9)) (fun _ h_=>h_.1)))).2.2);(case side2=>exact (Kd.N_reads' HO552.out).2.1);rintro e w10 ⟨rfl,hb⟩;refine ⟨_,rfl,?_⟩;have n0_:=Aside0.mk (Kd.N_below (by (with_reducible repeat (first|apply Kd.N_alloc|apply Kd.N_drewN|apply Kd.N_drew));exact (Kd.N_mono (Kd.N_far (p:=⟨gb553,3,none⟩) (Kd.N_far (p:=⟨gb553,2,none⟩) (Kd.N_far (p:=⟨gb553,1,none⟩) (Kd.N_far (p:=⟨gb553,0,none⟩) (Kd.N_mono HO552.out (fun k_ hk=>(⟨hk,hk.2⟩:_∧k_ ≠ gb553))) (fun _ hk=>hk.2) (.int .i64 t547)) (fun _ hk=>hk.2) (.int .i64 t548)) (fun _ hk=>hk.2) (.string t549)) (fun _ hk=>hk.2) (.slice Ao9 t550.length co9)) (fun _ h_=>h_.1))) hb);have n1_:=Aside0.mk (blk_below (g:=gb553) (o:=.cells #[.int .i64 t547,.int .i64 t548,.string t549,.slice Ao9 t550.length co9] 27 (0,0)) (by (with_reducible repeat (first|refine blk_drewN ?_ _|refine blk_drew ?_|refine blk_alloc ?_ _));refine blk_put (cs:=#[.int .i64 t547,.int .i64 t548,.string t549,.slice none 0 0]) ?_ 3 _ rfl;(with_reducible repeat (first|refine blk_drewN ?_ _|refine blk_drew ?_|refine blk_alloc ?_ _));refine blk_put (cs:=#[.int .i64 t547,.int .i64 t548,.string (⟨#[]⟩:ByteArray),.slice none 0 0]) ?_ 2 _ rfl;(with_reducible repeat (first|refine blk_drewN ?_ _|refine blk_drew ?_|refine blk_alloc ?_ _));refine blk_put (cs:=#[.int .i64 t547,.int .i64 0,.string (⟨#[]⟩:ByteArray),.slice none 0 0]) ?_ 1 _ rfl;(with_reducible repeat (first|refine blk_drewN ?_ _|refine blk_drew ?_|refine blk_alloc ?_ _));refine blk_put (cs:=#[.int .i64 0,.int .i64 0,.string (⟨#[]⟩:ByteArray),.slice none 0 0]) ?_ 0 _ rfl;(with_reducible repeat (first|refine blk_drewN ?_ _|refine blk_drew ?_|refine blk_alloc ?_ _));exact BK553.out) hb);have n2_:=Aside0.mk (below_step (by repeat (first|exact gB HB|refine below_set ?_ GE553.out)) hb);clear HO552;clear BK553;clear HB;have HO552:=n0_;have BK553:=n1_;have HB:=n2_;clear n0_ n1_ n2_;(try clear hb);(try clear hb2);(try clear hk);(try clear hi)))
  (try simp only [Act.put,List.setIfInBounds_toArray,List.set_cons_zero,List.set_cons_succ])
  go_cut [22] (fun v22 wc=>∃ (kq:Nat) (x22_4:Bool),v22=.bool x22_4∧Aside0 (laws_FnFlattenParts.j0 kq t554 x22_4 t547 t548 t549 t550=some r)∧Aside0 (kq≤k)∧Aside0 (Kd.N k27 27 wc w.heap.size (fun k_=>k_ ≠ gb553) (.slice Ao9 t550.length co9) t550)∧Aside0 (wc.heap[gb553]?=some (.cells #[.int .i64 t547,.int .i64 t548,.string t549,(.slice Ao9 t550.length co9)] 27 (0,0)))∧Aside0 (Below w.heap.size w wc))
  case first =>
   have H:=HC5.out
   clear HC5
   replace H:=Option.bind_eq_some_iff.mp H
   obtain ⟨t555,A110,H⟩:=H
   replace H:(if (t554 != t555)=true then (laws_FnFlattenParts.j0 k t554 true t547 t548 t549 t550) else ((impl_DocValid.f k t547 t548 t549 t550).bind fun t556=>(laws_FnFlattenParts.j0 k t554 (!t556) t547 t548 t549 t550)))=some r:=H
   have A11:=Aside0.mk A110
   clear A110
   by_cases c12:(t554 != t555)=true
   ·rw [if_pos c12] at H
    have c12b0:(t554 != t555)=true:=c12
    (try (have c12b1:decide (t554=t555)=false:=by simpa using c12))
    (try (have c12b2:(t554 == t555)=false:=by simpa using c12))
    (try (have c12b3:¬ (t554=t555):=by simpa using c12))
    clear c12
    (first|rw [c12b0]|(simp only [i64_w,i32_w];rw [c12b0])|skip)
    have H':=Aside0.mk H
    clear H
    have hcz13_0:w10.cell? ⟨gb553,0,none⟩=some (.int .i64 t547):=(blk_cell BK553.out 0).trans rfl
    have hcz13_1:w10.cell? ⟨gb553,1,none⟩=some (.int .i64 t548):=(blk_cell BK553.out 1).trans rfl
    have hcz13_2:w10.cell? ⟨gb553,2,none⟩=some (.string t549):=(blk_cell BK553.out 2).trans rfl
    have hcz13_3:w10.cell? ⟨gb553,3,none⟩=some (.slice Ao9 t550.length co9):=(blk_cell BK553.out 3).trans rfl
    have hfz13_0:=blk_frozen BK553.out 0
    have hfz13_1:=blk_frozen BK553.out 1
    have hfz13_2:=blk_frozen BK553.out 2
    have hfz13_3:=blk_frozen BK553.out 3
    go_wp2_with (first|((with_reducible refine gate_callee (f:=28) rfl ?_);refine goesL_ (some 16) rfl rfl Try.func28 (by kernel_rfl) rfl #[.agg #[.int .i64 t547,.int .i64 t548,.string t549,.slice Ao9 t550.length co9]] rfl (by (try simp only [List.map_toArray,List.map_cons,List.map_nil]);first|done|rfl|(simp only [List.length_drop,List.length_take];rfl)) ?_;(with_reducible refine (spec_CanFlatten.calls k t547 t548 t549 _ _ t550 t555 _ ?side1 ?side2 A11.out).mono ?_);(case side1=>exact gC ((Kd.N_reads' HO552.out).2.2));(case side2=>exact (Kd.N_reads' HO552.out).2.1);rintro e w14 ⟨rfl,hb⟩;refine ⟨_,rfl,?_⟩;have n0_:=Aside0.mk (Kd.N_below (gN HO552) hb);have n1_:=Aside0.mk (blk_below (g:=gb553) (o:=.cells #[.int .i64 t547,.int .i64 t548,.string t549,.slice Ao9 t550.length co9] 27 (0,0)) (gK BK553) hb);have n2_:=Aside0.mk (below_step (by repeat (first|exact gB HB|refine below_set ?_ GE553.out)) hb);clear HO552;clear BK553;clear HB;have HO552:=n0_;have BK553:=n1_;have HB:=n2_;clear n0_ n1_ n2_;(try clear hb);(try clear hb2);(try clear hk);(try clear hi)))
    go_meet
    case rel=>exact ⟨_,(true),(by first|rfl|(simp;done)|(simp [*];done)),H',⟨by first|omega|exact Nat.le_refl _⟩,⟨by (with_reducible repeat (first|apply Kd.N_alloc|apply Kd.N_drewN|apply Kd.N_drew));exact Kd.N_mono HO552.out (fun _ hk=>hk.2)⟩,⟨gK BK553⟩,⟨by repeat (first|exact gB HB|refine below_set ?_ GE553.out)⟩⟩
   ·rw [if_neg c12] at H
    have c12b0:(t554 != t555)=false:=by simpa using c12
    (try (have c12b1:decide (t554=t555)=true:=by simpa using c12))
    (try (have c12b2:(t554 == t555)=true:=by simpa using c12))
    clear c12
    (first|rw [c12b0]|(simp only [i64_w,i32_w];rw [c12b0])|skip)
    replace H:=Option.bind_eq_some_iff.mp H
    obtain ⟨t556,A150,H⟩:=H
    replace H:(laws_FnFlattenParts.j0 k t554 (!t556) t547 t548 t549 t550)=some r:=H
    have A15:=Aside0.mk A150
    clear A150
    have H':=Aside0.mk H
    clear H
    have hcz16_0:w10.cell? ⟨gb553,0,none⟩=some (.int .i64 t547):=(blk_cell BK553.out 0).trans rfl
    have hcz16_1:w10.cell? ⟨gb553,1,none⟩=some (.int .i64 t548):=(blk_cell BK553.out 1).trans rfl
    have hcz16_2:w10.cell? ⟨gb553,2,none⟩=some (.string t549):=(blk_cell BK553.out 2).trans rfl
    have hcz16_3:w10.cell? ⟨gb553,3,none⟩=some (.slice Ao9 t550.length co9):=(blk_cell BK553.out 3).trans rfl
    have hfz16_0:=blk_frozen BK553.out 0
    have hfz16_1:=blk_frozen BK553.out 1
    have hfz16_2:=blk_frozen BK553.out 2
    have hfz16_3:=blk_frozen BK553.out 3
    go_wp2_with (first|((with_reducible refine gate_callee (f:=28) rfl ?_);refine goesL_ (some 16) rfl rfl Try.func28 (by kernel_rfl) rfl #[.agg #[.int .i64 t547,.int .i64 t548,.string t549,.slice Ao9 t550.length co9]] rfl (by (try simp only [List.map_toArray,List.map_cons,List.map_nil]);first|done|rfl|(simp only [List.length_drop,List.length_take];rfl)) ?_;(with_reducible refine (spec_CanFlatten.calls k t547 t548 t549 _ _ t550 t555 _ ?side1 ?side2 A11.out).mono ?_);(case side1=>exact gC ((Kd.N_reads' HO552.out).2.2));(case side2=>exact (Kd.N_reads' HO552.out).2.1);rintro e w17 ⟨rfl,hb⟩;refine ⟨_,rfl,?_⟩;have n0_:=Aside0.mk (Kd.N_below (gN HO552) hb);have n1_:=Aside0.mk (blk_below (g:=gb553) (o:=.cells #[.int .i64 t547,.int .i64 t548,.string t549,.slice Ao9 t550.length co9] 27 (0,0)) (gK BK553) hb);have n2_:=Aside0.mk (below_step (by repeat (first|exact gB HB|refine below_set ?_ GE553.out)) hb);clear HO552;clear BK553;clear HB;have HO552:=n0_;have BK553:=n1_;have HB:=n2_;clear n0_ n1_ n2_;(try clear hb);(try clear hb2);(try clear hk);(try clear hi);have hcz18_0:w17.cell? ⟨gb553,0,none⟩=some (.int .i64 t547):=(blk_cell BK553.out 0).trans rfl;have hcz18_1:w17.cell? ⟨gb553,1,none⟩=some (.int .i64 t548):=(blk_cell BK553.out 1).trans rfl;have hcz18_2:w17.cell? ⟨gb553,2,none⟩=some (.string t549):=(blk_cell BK553.out 2).trans rfl;have hcz18_3:w17.cell? ⟨gb553,3,none⟩=some (.slice Ao9 t550.length co9):=(blk_cell BK553.out 3).trans rfl;have hfz18_0:=blk_frozen BK553.out 0;have hfz18_1:=blk_frozen BK553.out 1;have hfz18_2:=blk_frozen BK553.out 2;have hfz18_3:=blk_frozen BK553.out 3)|(go_at_call 24;(with_reducible refine (impl_DocValid.calls k t547 t548 t549 _ _ t550 t556 _ ?side1 ?side2 A15.out).mono ?_);(case side1=>exact gC ((Kd.N_reads' HO552.out).2.2));(case side2=>exact (Kd.N_reads' HO552.out).2.1);rintro e w19 ⟨rfl,hb⟩;have n0_:=Aside0.mk (Kd.N_below (gN HO552) hb);have n1_:=Aside0.mk (blk_below (g:=gb553) (o:=.cells #[.int .i64 t547,.int .i64 t548,.string t549,.slice Ao9 t550.length co9] 27 (0,0)) (gK BK553) hb);have n2_:=Aside0.mk (below_step (by repeat (first|exact gB HB|refine below_set ?_ GE553.out)) hb);clear HO552;clear BK553;clear HB;have HO552:=n0_;have BK553:=n1_;have HB:=n2_;clear n0_ n1_ n2_;(try clear hb);(try clear hb2);(try clear hk);(try clear hi)))
    go_meet
    case rel=>exact ⟨_,(!t556),(by first|rfl|(simp;done)|(simp [*];done)),H',⟨by first|omega|exact Nat.le_refl _⟩,⟨by (with_reducible repeat (first|apply Kd.N_alloc|apply Kd.N_drewN|apply Kd.N_drew));exact Kd.N_mono HO552.out (fun _ hk=>hk.2)⟩,⟨gK BK553⟩,⟨by repeat (first|exact gB HB|refine below_set ?_ GE553.out)⟩⟩
  case rest =>
   clear HC5
   try clear c1 c2 c2b0 c2b1 p2 c6 c12 c12b0 c12b1 c12b2 hcz13_0 hcz13_1 hcz13_2 hcz13_3 hcz16_0 hcz16_1 hcz16_2 hcz16_3 hcz18_0 hcz18_1 hcz18_2 hcz18_3 hcz8_0 hcz8_1 hcz8_2 hcz8_3 hfz13_0 hfz13_1 hfz13_2 hfz13_3 hfz16_0 hfz16_1 hfz16_2 hfz16_3 hfz18_0 hfz18_1 hfz18_2 hfz18_3 hfz8_0 hfz8_1 hfz8_2 hfz8_3
   obtain ⟨kq,x22_4,rfl,HA,HJ4,HO_554003,BK553,HB⟩:=hcut
   cases kq with
   | zero=>exact absurd HA.out (by simp [laws_FnFlattenParts.j0])
   | succ kj4 =>
    have H:=HA.out
    clear HA
    simp only [laws_FnFlattenParts.j0] at H
    by_cases c20:x22_4=true
    ·subst c20
     have H1:((spec_CanFlatten.f kj4 t547 t548 t549 t550).bind fun t557=>(if (t554 == t557)=true then (some (!t554)) else (none)))=some r:=by rw [if_pos rfl] at H;exact H
     clear H
     have H:=H1
     clear H1
     replace H:=Option.bind_eq_some_iff.mp H
     obtain ⟨t557,A210,H⟩:=H
     replace H:(if (t554 == t557)=true then (some (!t554)) else (none))=some r:=H
     have A21:=Aside0.mk A210
     clear A210
     by_cases c22:(t554 == t557)=true
     ·rw [if_pos c22] at H
      have c22b0:(t554 == t557)=true:=c22
      (try (have c22b1:decide (t554=t557)=true:=by simpa using c22))
      (try (have c22b2:(t554 == t557)=true:=by simpa using c22))
      clear c22
      obtain rfl:=Option.some.inj H
      have hcz23_0:wc.cell? ⟨gb553,0,none⟩=some (.int .i64 t547):=(blk_cell BK553.out 0).trans rfl
      have hcz23_1:wc.cell? ⟨gb553,1,none⟩=some (.int .i64 t548):=(blk_cell BK553.out 1).trans rfl
      have hcz23_2:wc.cell? ⟨gb553,2,none⟩=some (.string t549):=(blk_cell BK553.out 2).trans rfl
      have hcz23_3:wc.cell? ⟨gb553,3,none⟩=some (.slice Ao9 t550.length co9):=(blk_cell BK553.out 3).trans rfl
      have hfz23_0:=blk_frozen BK553.out 0
      have hfz23_1:=blk_frozen BK553.out 1
      have hfz23_2:=blk_frozen BK553.out 2
      have hfz23_3:=blk_frozen BK553.out 3
      go_wp2_with (first|((with_reducible refine gate_callee (f:=28) rfl ?_);refine goesL_ (some 25) rfl rfl Try.func28 (by kernel_rfl) rfl #[.agg #[.int .i64 t547,.int .i64 t548,.string t549,.slice Ao9 t550.length co9]] rfl (by (try simp only [List.map_toArray,List.map_cons,List.map_nil]);first|done|rfl|(simp only [List.length_drop,List.length_take];rfl)) ?_;(with_reducible refine (spec_CanFlatten.calls kj4 t547 t548 t549 _ _ t550 t557 _ ?side1 ?side2 A21.out).mono ?_);(case side1=>exact gC ((Kd.N_reads' HO_554003.out).2.2));(case side2=>exact (Kd.N_reads' HO_554003.out).2.1);rintro e w24 ⟨rfl,hb⟩;refine ⟨_,rfl,?_⟩;have n0_:=Aside0.mk (Kd.N_below (gN HO_554003) hb);have n1_:=Aside0.mk (blk_below (g:=gb553) (o:=.cells #[.int .i64 t547,.int .i64 t548,.string t549,.slice Ao9 t550.length co9] 27 (0,0)) (gK BK553) hb);have n2_:=Aside0.mk (below_step (by repeat (first|exact gB HB|refine below_set ?_ GE553.out)) hb);clear HO_554003;clear BK553;clear HB;have HO_554003:=n0_;have BK553:=n1_;have HB:=n2_;clear n0_ n1_ n2_;(try clear hb);(try clear hb2);(try clear hk);(try clear hi)))
      go_ret
      exact ⟨by first|rfl|(simp [errW_none,errW_some] <;> rfl)|(simp [*,errW_none,errW_some] <;> rfl),by repeat (first|exact gB HB|refine below_set ?_ GE553.out)⟩
     ·rw [if_neg c22] at H
      exact absurd H (by simp)
    ·replace c20:=Bool.eq_false_iff.mpr c20
     subst c20
     have H1:(laws_FnFlattenParts.l0 kj4 t554 (t547 != 5) 0 t547 t548 t549 t550)=some r:=by rw [if_neg (show ¬ (false=true) by decide)] at H;exact H
     clear H
     have H:=H1
     clear H1
     have H':=Aside0.mk H
     clear H
     have hcz25_0:wc.cell? ⟨gb553,0,none⟩=some (.int .i64 t547):=(blk_cell BK553.out 0).trans rfl
     have hcz25_1:wc.cell? ⟨gb553,1,none⟩=some (.int .i64 t548):=(blk_cell BK553.out 1).trans rfl
     have hcz25_2:wc.cell? ⟨gb553,2,none⟩=some (.string t549):=(blk_cell BK553.out 2).trans rfl
     have hcz25_3:wc.cell? ⟨gb553,3,none⟩=some (.slice Ao9 t550.length co9):=(blk_cell BK553.out 3).trans rfl
     have hfz25_0:=blk_frozen BK553.out 0
     have hfz25_1:=blk_frozen BK553.out 1
     have hfz25_2:=blk_frozen BK553.out 2
     have hfz25_3:=blk_frozen BK553.out 3
     go_wp2
     go_loopg [5,6] kj4 (fun kq v5 v6 w'=>∃ (x5_2:Bool) (x6_2:Int),v5=.bool x5_2∧v6=.int .i64 x6_2∧Aside0 (laws_FnFlattenParts.l0 kq t554 x5_2 x6_2 t547 t548 t549 t550=some r)∧Aside0 (kq≤kj4)∧Aside0 (Kd.N k27 27 w' w.heap.size (fun k_=>k_ ≠ gb553) (.slice Ao9 t550.length co9) t550)∧Aside0 (w'.heap[gb553]?=some (.cells #[.int .i64 t547,.int .i64 t548,.string t549,(.slice Ao9 t550.length co9)] 27 (0,0)))∧Aside0 (Below w.heap.size w w'))
     case atStart=>exact ⟨((t547 != 5)),(0),(by first|rfl|(simp;done)|(simp [*];done)),(by first|rfl|(simp;done)|(simp [*];done)),H',⟨Nat.le_refl _⟩,⟨gN HO_554003⟩,⟨gK BK553⟩,⟨by repeat (first|exact gB HB|refine below_set ?_ GE553.out)⟩⟩
     case round =>
      clear H'
      try clear c1 c2 c2b0 c2b1 p2 c6 c12 c12b0 c12b1 c12b2 c20 c22 c22b0 c22b1 c22b2 hcz13_0 hcz13_1 hcz13_2 hcz13_3 hcz16_0 hcz16_1 hcz16_2 hcz16_3 hcz18_0 hcz18_1 hcz18_2 hcz18_3 hcz23_0 hcz23_1 hcz23_2 hcz23_3 hcz25_0 hcz25_1 hcz25_2 hcz25_3 hcz8_0 hcz8_1 hcz8_2 hcz8_3 hfz13_0 hfz13_1 hfz13_2 hfz13_3 hfz16_0 hfz16_1 hfz16_2 hfz16_3 hfz18_0 hfz18_1 hfz18_2 hfz18_3 hfz23_0 hfz23_1 hfz23_2 hfz23_3 hfz25_0 hfz25_1 hfz25_2 hfz25_3 hfz8_0 hfz8_1 hfz8_2 hfz8_3 p2
      (try clear HO_554003);(try clear BK553);(try clear HB)
      obtain ⟨x5_2,x6_2,rfl,rfl,HA,HK2,HO_554003,BK553,HB⟩:=hrel
      cases gk with
      | zero=>exact absurd HA.out (by simp [laws_FnFlattenParts.l0])
      | succ k2 =>
       have H:=HA.out
       clear HA
       simp only [laws_FnFlattenParts.l0] at H
       by_cases c26:x6_2 < (t550.length:Int)
       ·rw [if_pos c26] at H
        have c26b0:decide (x6_2 < (t550.length:Int))=true:=decide_eq_true c26
        clear c26
        by_cases c27:x5_2=true
        ·subst c27
         have H1:(if 0≤x6_2 then ((impl_CanFlatten.f k2 ((rd_TDoc t550 x6_2).f0) ((rd_TDoc t550 x6_2).f1) ((rd_TDoc t550 x6_2).f2) ((rd_TDoc t550 x6_2).f3)).bind fun t559=>(laws_FnFlattenParts.l0 k2 t554 t559 (wrap64 (x6_2+1)) t547 t548 t549 t550)) else (none))=some r:=by rw [if_pos rfl] at H;exact H
         clear H
         have H:=H1
         clear H1
         by_cases c28:0≤x6_2
         ·rw [if_pos c28] at H
          have c28b0:decide (0≤x6_2)=true:=decide_eq_true c28
          clear c28
          replace H:=Option.bind_eq_some_iff.mp H
          obtain ⟨t559,A290,H⟩:=H
          replace H:(laws_FnFlattenParts.l0 k2 t554 t559 (wrap64 (x6_2+1)) t547 t548 t549 t550)=some r:=H
          have A29:=Aside0.mk A290
          clear A290
          have H':=Aside0.mk H
          clear H
          have hcz30_0:wr.cell? ⟨gb553,0,none⟩=some (.int .i64 t547):=(blk_cell BK553.out 0).trans rfl
          have hcz30_1:wr.cell? ⟨gb553,1,none⟩=some (.int .i64 t548):=(blk_cell BK553.out 1).trans rfl
          have hcz30_2:wr.cell? ⟨gb553,2,none⟩=some (.string t549):=(blk_cell BK553.out 2).trans rfl
          have hcz30_3:wr.cell? ⟨gb553,3,none⟩=some (.slice Ao9 t550.length co9):=(blk_cell BK553.out 3).trans rfl
          have hfz30_0:=blk_frozen BK553.out 0
          have hfz30_1:=blk_frozen BK553.out 1
          have hfz30_2:=blk_frozen BK553.out 2
          have hfz30_3:=blk_frozen BK553.out 3
          have p558:0≤(x6_2:Int):=of_decide_eq_true (by first|(with_reducible assumption)|assumption)
          have q558:x6_2 < (t550.length:Int):=of_decide_eq_true (by first|(with_reducible assumption)|assumption)
          obtain ⟨ad558,A558_3,c558_3,e558,hx558_0,hx558_1,hx558_2,hx558_3,hl558_3,hi558_3⟩:=at_TDoc (Kd.N_reads' HO_554003.out).2.2 x6_2 p558 q558
          cases e558
          obtain ⟨ce558,hce558,hMe558,hcc558⟩:=Kd.N_get HO_554003.out zDoc x6_2 p558 (by first|exact q558|exact of_decide_eq_true (by first|(with_reducible assumption)|assumption)|(have e_:=(Kd.N_reads' HO_554003.out).1;omega))
          obtain ⟨ua558_3,uc558_3,rfl,ul558_3,ge558_3⟩:=k27_openF hMe558
          have hv558_3:=hcc558 3 _ rfl
          rw [add_field _ _ 3 (by omega)] at hv558_3
          replace hv558_3:=Option.some.inj (hv558_3.symm.trans hx558_3)
          injection hv558_3 with hva_ hvn_ hvc_
          rw [hva_] at ge558_3
          rw [hvc_] at ul558_3
          have HL558_3:=Aside0.mk (show Kd.V k27 27 _ w.heap.size _ _ ((rd_TDoc t550 x6_2).f3) from Kd.V_mk ul558_3 ge558_3)
          clear hva_ hvn_ hvc_ ge558_3 ul558_3
          clear hcc558 hce558
          have HR558_3:=Aside0.mk hi558_3
          have HC558_3:=Aside0.mk hl558_3
          clear hi558_3 hl558_3
          replace p558:=eq_true p558
          replace q558:=eq_true q558
          go_wp2_with (first|(go_at_call 26;(with_reducible refine (impl_CanFlatten.calls k2 ((rd_TDoc t550 x6_2).f0) ((rd_TDoc t550 x6_2).f1) ((rd_TDoc t550 x6_2).f2) _ _ ((rd_TDoc t550 x6_2).f3) t559 _ ?side1 ?side2 A29.out).mono ?_);(case side1=>exact gC (by repeat (first|(with_reducible exact HR558_3.out)|(with_reducible refine Kd.C_alloc ?_ _)|(with_reducible refine Kd.C_drewN ?_ _)|(with_reducible refine Kd.C_drew ?_)|exact HR558_3.out)));(case side2=>exact HC558_3.out);rintro e w31 ⟨rfl,hb⟩;have n0_:=Aside0.mk (Kd.N_below (gN HO_554003) hb);have n1_:=Aside0.mk (Kd.V_below (gV HL558_3) hb);have n2_:=Aside0.mk (blk_below (g:=gb553) (o:=.cells #[.int .i64 t547,.int .i64 t548,.string t549,.slice (some ad558) t550.length co9] 27 (0,0)) (gK BK553) hb);have n3_:=Aside0.mk (Kd.C_below (by repeat (first|(with_reducible exact HR558_3.out)|(with_reducible refine Kd.C_alloc ?_ _)|(with_reducible refine Kd.C_drewN ?_ _)|(with_reducible refine Kd.C_drew ?_)|exact HR558_3.out)) hb);have n4_:=Aside0.mk (below_step (by repeat (first|exact gB HB|refine below_set ?_ GE553.out)) hb);clear HO_554003;clear HL558_3;clear BK553;clear HR558_3;clear HB;have HO_554003:=n0_;have HL558_3:=n1_;have BK553:=n2_;have HR558_3:=n3_;have HB:=n4_;clear n0_ n1_ n2_ n3_ n4_;(try clear hb);(try clear hb2);(try clear hk);(try clear hi)))
          go_roundg k2
          case measure=>have:=HJ4.out;have:=HK2.out;omega
          case rel=>exact ⟨(t559),(wrap64 (x6_2+1)),(by first|rfl|(simp;done)|(simp [*];done)),(by first|rfl|(simp;done)|(simp [*];done)),H',⟨by have:=HJ4.out;have:=HK2.out;omega⟩,⟨gN HO_554003⟩,⟨gK BK553⟩,⟨by repeat (first|exact gB HB|refine below_set ?_ GE553.out)⟩⟩
         ·rw [if_neg c28] at H
          exact absurd H (by simp)
        ·replace c27:=Bool.eq_false_iff.mpr c27
         subst c27
         have H1:(laws_FnFlattenParts.l0 k2 t554 false (wrap64 (x6_2+1)) t547 t548 t549 t550)=some r:=by rw [if_neg (show ¬ (false=true) by decide)] at H;exact H
         clear H
         have H:=H1
         clear H1
         have H':=Aside0.mk H
         clear H
         have hcz32_0:wr.cell? ⟨gb553,0,none⟩=some (.int .i64 t547):=(blk_cell BK553.out 0).trans rfl
         have hcz32_1:wr.cell? ⟨gb553,1,none⟩=some (.int .i64 t548):=(blk_cell BK553.out 1).trans rfl
         have hcz32_2:wr.cell? ⟨gb553,2,none⟩=some (.string t549):=(blk_cell BK553.out 2).trans rfl
         have hcz32_3:wr.cell? ⟨gb553,3,none⟩=some (.slice Ao9 t550.length co9):=(blk_cell BK553.out 3).trans rfl
         have hfz32_0:=blk_frozen BK553.out 0
         have hfz32_1:=blk_frozen BK553.out 1
         have hfz32_2:=blk_frozen BK553.out 2
         have hfz32_3:=blk_frozen BK553.out 3
         go_wp2
         go_roundg k2
         case measure=>have:=HJ4.out;have:=HK2.out;omega
         case rel=>exact ⟨(false),(wrap64 (x6_2+1)),(by first|rfl|(simp;done)|(simp [*];done)),(by first|rfl|(simp;done)|(simp [*];done)),H',⟨by have:=HJ4.out;have:=HK2.out;omega⟩,⟨gN HO_554003⟩,⟨gK BK553⟩,⟨by repeat (first|exact gB HB|refine below_set ?_ GE553.out)⟩⟩
       ·rw [if_neg c26] at H
        have c26b0:decide (x6_2 < (t550.length:Int))=false:=decide_eq_false c26
        clear c26
        obtain rfl:=Option.some.inj H
        have hcz33_0:wr.cell? ⟨gb553,0,none⟩=some (.int .i64 t547):=(blk_cell BK553.out 0).trans rfl
        have hcz33_1:wr.cell? ⟨gb553,1,none⟩=some (.int .i64 t548):=(blk_cell BK553.out 1).trans rfl
        have hcz33_2:wr.cell? ⟨gb553,2,none⟩=some (.string t549):=(blk_cell BK553.out 2).trans rfl
        have hcz33_3:wr.cell? ⟨gb553,3,none⟩=some (.slice Ao9 t550.length co9):=(blk_cell BK553.out 3).trans rfl
        have hfz33_0:=blk_frozen BK553.out 0
        have hfz33_1:=blk_frozen BK553.out 1
        have hfz33_2:=blk_frozen BK553.out 2
        have hfz33_3:=blk_frozen BK553.out 3
        go_wp2
        go_ret
        exact ⟨by first|rfl|(simp [errW_none,errW_some] <;> rfl)|(simp [*,errW_none,errW_some] <;> rfl),by repeat (first|exact gB HB|refine below_set ?_ GE553.out)⟩
def laws_FnFlattenParts.Pure:Prop:=∀ (l0:List Int),l0.length≤maxLen→l0.length * 1≤140737488351232→(∀ x ∈ l0,(Lit.int .u8 x).wf=true)→∃ k,laws_FnFlattenParts.f k l0=some true
theorem laws_FnFlattenParts.walk (P:laws_FnFlattenParts.Pure) (a0:Option Addr) (len0 cap0:Nat) (z0:List Int) (w:World) (w0:(a0=none∧len0=0∧cap0=0∧z0=[]) ∨ ∃ x,a0=some x∧len0≤cap0∧cap0≤maxLen∧z0.length=cap0∧(∀ i,i < z0.length→w.cell? (x.add i)=some (.int .u8 (z0.getD i 0)))∧∀ n ∈ z0,(Lit.int .u8 n).wf=true) (y0:len0 * 1≤140737488351232) :
  Calls Try.prog 6 #[.slice a0 len0 cap0] w fun e w'=>e=.returned (.bool true)∧Below w.heap.size w w':=by
 obtain ⟨l0,rfl,hr0,hm0,hw0,hc0⟩:=ReadsInt.ofRowC w0
 obtain ⟨k,h⟩:=P l0 hm0 y0 hw0
 refine (laws_FnFlattenParts.calls k _ _ l0 true w (Kd.C_of_reads (d:=(0:Int)) (h1:=fun _=>rfl) hr0) hc0 h).mono ?_
 rintro e w' ⟨rfl,hd⟩
 exact ⟨rfl,hd⟩
end Go.Proofs.Ytdhdfmmefghijaa.P
namespace Go.Proofs.Ytdhdfmmefghijaa.Pure
open Go.RowKit Go.Proofs.Ytdhdfmmefghijaa.P Go.Proofs.YtdhdfmmefghijaaW.PrintWords Go.Proofs.YtdhdfmmefghijaaW.PrintLast Go.Proofs.YtdhdfmmefghijaaW.PrintMore
set_option linter.unusedVariables false
set_option linter.unusedSimpArgs false
theorem parts_loop (x4 : Bool) (o n : Int) (t : ByteArray) (suf : List SDoc) : ∀ (pre : List SDoc) (x5 : Bool), (∀ y, y ∈ suf → msz y ≤ 1099511627776) → pre.length + suf.length ≤ 1099511627776 →
    Ev (fun k => laws_FnFlattenParts.l0 k x4 x5 (pre.length : Int) o n t (pre ++ suf)) (x4 == (x5 && suf.all canF)) := by
  induction suf with
  | nil =>
    intro pre x5 _ hm
    refine Ev.step (fun k => by rw [laws_FnFlattenParts.l0]) ?_
    simp only [List.append_nil, Int.lt_irrefl, if_false, List.all_nil, Bool.and_true]
    exact Ev.now _
  | cons y suf ih =>
    intro pre x5 hy hm
    simp only [List.length_cons] at hm
    refine Ev.step (fun k => by rw [laws_FnFlattenParts.l0]) ?_
    have c1 : (pre.length : Int) < ((pre ++ y :: suf).length : Int) := by simp; omega
    have c2 : (0 : Int) ≤ (pre.length : Int) := by omega
    have step : ∀ z : Bool, Ev (fun k => laws_FnFlattenParts.l0 k x4 z (wrap64 ((pre.length : Int) + 1)) o n t (pre ++ y :: suf)) (x4 == (z && suf.all canF)) := by
      intro z
      rw [w64 (by omega) (by omega)]
      have := ih (pre ++ [y]) z (fun u hu => hy u (List.mem_cons_of_mem _ hu)) (by simp; omega)
      rw [List.append_assoc, show ((pre ++ [y]).length : Int) = (pre.length : Int) + 1 by simp] at this
      exact this
    simp only [if_pos c1, if_pos c2, rdD]
    cases x5 with
    | false =>
      simp only [Bool.false_eq_true, if_false, Bool.false_and]
      exact step false
    | true =>
      simp only [if_true, Bool.true_and, List.all_cons]
      exact Ev.bind (implCan_ev y (hy y List.mem_cons_self)) (step (canF y))
theorem FnFlattenParts : laws_FnFlattenParts.Pure := by
  intro l hl _ hw
  refine Ev.rounds (g := fun k => laws_FnFlattenParts.f k l) (Ev.congr (fun k => by rw [laws_FnFlattenParts.f]) (big_or ?_))
  obtain ⟨d, hd, hm⟩ := drawCan_ev l hl hw
  refine Ev.bind hd (Ev.bind (implCan_ev d (by omega)) (Ev.bind (specCan_ev d (by omega)) ?_))
  simp only [bne_self_eq_false, Bool.false_eq_true, if_false]
  refine Ev.bind (implValid_ev d (by omega)) ?_
  refine Ev.step (fun k => by rw [laws_FnFlattenParts.j0]) ?_
  cases hv : docV d with
  | false =>
    simp only [Bool.not_false, if_true]
    refine Ev.bind (specCan_ev d (by omega)) ?_
    rw [canF_docV hv]
    simp only [beq_self_eq_true, if_true, Bool.not_false]
    exact Ev.now _
  | true =>
    simp only [Bool.not_true, Bool.false_eq_true, if_false]
    obtain ⟨o, n, t, ks⟩ := d
    simp only [msz] at hm
    have hk := mszL_len ks
    have := parts_loop (canF ⟨o, n, t, ks⟩) o n t ks [] (o != 5) (fun y hy => by have := mszL_mem hy; omega) (by simp; omega)
    rw [canF_kids hv] at this ⊢
    simpa using this
end Go.Proofs.Ytdhdfmmefghijaa.Pure
