/- CONTRACTS and lemmas for the law FnFlatText. -/
import Derived.Test.YtdhdfmmefghijaaVLa9
namespace Go.Proofs.Ytdhdfmmefghijaa.P
open Go.RowKit Go.Proofs.YtdhdfmmefghijaaW.PrintWords Go.Proofs.YtdhdfmmefghijaaW.PrintLast Go.Proofs.YtdhdfmmefghijaaW.PrintMore
attribute [local go_sem] max2_int min2_int max_two min_two max_three min_three max_four min_four
set_option linter.unusedVariables false
set_option linter.unusedSimpArgs false
mutual
def impl_flat.l0:Nat→ByteArray→List (SDoc)→Int→Int→Option (ByteArray)
 | 0,_,_,_,_=>none
 | k+1,x3,x15,x16,x17=>if x17 < x16 then (if 0≤x17 then (if x17 < (x15.length:Int) then ((impl_flat.f k ((rd_TDoc x15 x17).f0) ((rd_TDoc x15 x17).f1) ((rd_TDoc x15 x17).f2) ((rd_TDoc x15 x17).f3)).bind fun t807=>(if x3.size+t807.size≤9223372036854775807 then (impl_flat.l0 k (x3++t807) x15 x16 (wrap64 (x17+1))) else (none))) else (none)) else (none)) else (some x3)
def impl_flat.f:Nat→Int→Int→ByteArray→List (SDoc)→Option (ByteArray)
 | 0,_,_,_,_=>none
 | k+1,a0_0,a0_1,a0_2,l0_3=>if a0_0=2 then (some a0_2) else (if a0_0=3 then (some (⟨#[32]⟩:ByteArray)) else (impl_flat.l0 k (⟨#[]⟩:ByteArray) l0_3 (l0_3.length:Int) 0))
end
set_option maxHeartbeats 8000000 in
set_option maxRecDepth 100000 in
theorem impl_flat.calls (k:Nat):∀ (a0_0:Int) (a0_1:Int) (a0_2:ByteArray) (A0_3:Option Addr) (c0_3:Nat) (l0_3:List (SDoc)) (r:ByteArray) (w:World) (hr0_3:Kd.C k27 w A0_3 l0_3.length l0_3) (hc0_3:l0_3.length≤c0_3) (h:impl_flat.f k a0_0 a0_1 a0_2 l0_3=some r),
  Calls Try.prog 61 #[.agg #[.int .i64 a0_0,.int .i64 a0_1,.string a0_2,.slice A0_3 l0_3.length c0_3]] w fun e w'=>e=.returned (.string r)∧Below w.heap.size w w':=by
 induction k using Nat.strongRecOn with
 | _ k ih =>
 intro a0_0 a0_1 a0_2 A0_3 c0_3 l0_3 r w hr0_3 hc0_3 h
 cases k with
 | zero=>exact absurd h (by simp [impl_flat.f])
 | succ k =>
 simp only [impl_flat.f] at h
 have hu27:=Try.underlying27
 have HR0_3:=Aside0.mk hr0_3
 have HC0_3:=Aside0.mk hc0_3
 clear hr0_3 hc0_3
 have HB:=Aside0.mk (Below.refl w.heap.size w)
 have H:(if a0_0=2 then (some a0_2) else (if a0_0=3 then (some (⟨#[32]⟩:ByteArray)) else (impl_flat.l0 k (⟨#[]⟩:ByteArray) l0_3 (l0_3.length:Int) 0)))=some r:=h
 clear h
 by_cases c2:a0_0=2
 ·rw [if_pos c2] at H
  have c2b0:(a0_0 == 2)=true:=beq_iff_eq.mpr c2
  have c2b1:(a0_0 != 2)=false:=bne_eq_false_iff_eq.mpr c2
  clear c2
  obtain rfl:=Option.some.inj H
  go_enter Try.func61,Try.ntmps61
  go_wp2_with (first|((with_reducible refine gate_dst (N:=1) rfl ?_);refine box_event ?hg (N:=1) ?hd (cs:=#[.int .i64 a0_0,.int .i64 a0_1,.string a0_2,.slice A0_3 l0_3.length c0_3]) (t:=27) ?hr ?_;(case hd=>rfl);(case hg=>rfl);(case hr=>first|(go_simp;done)|(go_simp;rfl));intro gb804 hg w3 hbox hb;have n0_:=Aside0.mk (below_step (gB HB) hb);have n1_:=Aside0.mk (hbox);have n2_:=Aside0.mk ((by rw [hg];exact (below_size (gB HB)):w.heap.size≤gb804));have n3_:=Aside0.mk ((by rw [hg];exact (below_size (gB HB)):w.heap.size≤gb804));clear HB;have HB:=n0_;have BK804:=n1_;have GW804:=n2_;have GE804:=n3_;clear n0_ n1_ n2_ n3_;clear hb hbox hg;have hcz4_0:w3.cell? ⟨gb804,0,none⟩=some (.int .i64 a0_0):=(blk_cell BK804.out 0).trans rfl;have hcz4_1:w3.cell? ⟨gb804,1,none⟩=some (.int .i64 a0_1):=(blk_cell BK804.out 1).trans rfl;have hcz4_2:w3.cell? ⟨gb804,2,none⟩=some (.string a0_2):=(blk_cell BK804.out 2).trans rfl;have hcz4_3:w3.cell? ⟨gb804,3,none⟩=some (.slice A0_3 l0_3.length c0_3):=(blk_cell BK804.out 3).trans rfl;have hfz4_0:=blk_frozen BK804.out 0;have hfz4_1:=blk_frozen BK804.out 1;have hfz4_2:=blk_frozen BK804.out 2;have hfz4_3:=blk_frozen BK804.out 3))
  go_ret
  exact ⟨by first|rfl|(simp [errW_none,errW_some] <;> rfl)|(simp [*,errW_none,errW_some] <;> rfl),by repeat (first|exact gB HB|refine below_set ?_ GE804.out)⟩
 ·rw [if_neg c2] at H
  have c2b0:(a0_0 == 2)=false:=beq_eq_false_iff_ne.mpr c2
  have c2b1:(a0_0 != 2)=true:=bne_iff_ne.mpr c2
  by_cases c5:a0_0=3
  ·rw [if_pos c5] at H
   have c5b0:(a0_0 == 3)=true:=beq_iff_eq.mpr c5
   have c5b1:(a0_0 != 3)=false:=bne_eq_false_iff_eq.mpr c5
   clear c5
   obtain rfl:=Option.some.inj H
   go_enter Try.func61,Try.ntmps61
   go_wp2_with (first|((with_reducible refine gate_dst (N:=1) rfl ?_);refine box_event ?hg (N:=1) ?hd (cs:=#[.int .i64 a0_0,.int .i64 a0_1,.string a0_2,.slice A0_3 l0_3.length c0_3]) (t:=27) ?hr ?_;(case hd=>rfl);(case hg=>rfl);(case hr=>first|(go_simp;done)|(go_simp;rfl));intro gb804 hg w6 hbox hb;have n0_:=Aside0.mk (below_step (gB HB) hb);have n1_:=Aside0.mk (hbox);have n2_:=Aside0.mk ((by rw [hg];exact (below_size (gB HB)):w.heap.size≤gb804));have n3_:=Aside0.mk ((by rw [hg];exact (below_size (gB HB)):w.heap.size≤gb804));clear HB;have HB:=n0_;have BK804:=n1_;have GW804:=n2_;have GE804:=n3_;clear n0_ n1_ n2_ n3_;clear hb hbox hg;have hcz7_0:w6.cell? ⟨gb804,0,none⟩=some (.int .i64 a0_0):=(blk_cell BK804.out 0).trans rfl;have hcz7_1:w6.cell? ⟨gb804,1,none⟩=some (.int .i64 a0_1):=(blk_cell BK804.out 1).trans rfl;have hcz7_2:w6.cell? ⟨gb804,2,none⟩=some (.string a0_2):=(blk_cell BK804.out 2).trans rfl;have hcz7_3:w6.cell? ⟨gb804,3,none⟩=some (.slice A0_3 l0_3.length c0_3):=(blk_cell BK804.out 3).trans rfl;have hfz7_0:=blk_frozen BK804.out 0;have hfz7_1:=blk_frozen BK804.out 1;have hfz7_2:=blk_frozen BK804.out 2;have hfz7_3:=blk_frozen BK804.out 3))
   go_ret
   exact ⟨by first|rfl|(simp [errW_none,errW_some] <;> rfl)|(simp [*,errW_none,errW_some] <;> rfl),by repeat (first|exact gB HB|refine below_set ?_ GE804.out)⟩
  ·rw [if_neg c5] at H
   have c5b0:(a0_0 == 3)=false:=beq_eq_false_iff_ne.mpr c5
   have c5b1:(a0_0 != 3)=true:=bne_iff_ne.mpr c5
   have H':=Aside0.mk H
   clear H
   go_enter Try.func61,Try.ntmps61
   go_wp2_with (first|((with_reducible refine gate_dst (N:=1) rfl ?_);refine box_event ?hg (N:=1) ?hd (cs:=#[.int .i64 a0_0,.int .i64 a0_1,.string a0_2,.slice A0_3 l0_3.length c0_3]) (t:=27) ?hr ?_;(case hd=>rfl);(case hg=>rfl);(case hr=>first|(go_simp;done)|(go_simp;rfl));intro gb804 hg w8 hbox hb;have n0_:=Aside0.mk (below_step (gB HB) hb);have n1_:=Aside0.mk (hbox);have n2_:=Aside0.mk ((by rw [hg];exact (below_size (gB HB)):w.heap.size≤gb804));have n3_:=Aside0.mk ((by rw [hg];exact (below_size (gB HB)):w.heap.size≤gb804));clear HB;have HB:=n0_;have BK804:=n1_;have GW804:=n2_;have GE804:=n3_;clear n0_ n1_ n2_ n3_;clear hb hbox hg;have hcz9_0:w8.cell? ⟨gb804,0,none⟩=some (.int .i64 a0_0):=(blk_cell BK804.out 0).trans rfl;have hcz9_1:w8.cell? ⟨gb804,1,none⟩=some (.int .i64 a0_1):=(blk_cell BK804.out 1).trans rfl;have hcz9_2:w8.cell? ⟨gb804,2,none⟩=some (.string a0_2):=(blk_cell BK804.out 2).trans rfl;have hcz9_3:w8.cell? ⟨gb804,3,none⟩=some (.slice A0_3 l0_3.length c0_3):=(blk_cell BK804.out 3).trans rfl;have hfz9_0:=blk_frozen BK804.out 0;have hfz9_1:=blk_frozen BK804.out 1;have hfz9_2:=blk_frozen BK804.out 2;have hfz9_3:=blk_frozen BK804.out 3))
   go_loopg [3,17] k (fun kq v3 v17 w'=>∃ (x3_1:ByteArray) (x17_1:Int),v3=.string x3_1∧v17=.int .i64 x17_1∧Aside0 (impl_flat.l0 kq x3_1 l0_3 (l0_3.length:Int) x17_1=some r)∧Aside0 (kq≤k)∧Aside0 (w'.heap[gb804]?=some (.cells #[.int .i64 a0_0,.int .i64 a0_1,.string a0_2,(.slice A0_3 l0_3.length c0_3)] 27 (0,0)))∧Aside0 (Below w.heap.size w w'))
   case atStart=>exact ⟨((⟨#[]⟩:ByteArray)),(0),(by first|rfl|(simp;done)|(simp [*];done)),(by first|rfl|(simp;done)|(simp [*];done)),H',⟨Nat.le_refl _⟩,⟨gK BK804⟩,⟨by repeat (first|exact gB HB|refine below_set ?_ GE804.out)⟩⟩
   case round =>
    clear H'
    try clear c2 c2b0 c2b1 p2 c5 c5b0 c5b1 c6 hcz4_0 hcz4_1 hcz4_2 hcz4_3 hcz7_0 hcz7_1 hcz7_2 hcz7_3 hcz9_0 hcz9_1 hcz9_2 hcz9_3 hfz4_0 hfz4_1 hfz4_2 hfz4_3 hfz7_0 hfz7_1 hfz7_2 hfz7_3 hfz9_0 hfz9_1 hfz9_2 hfz9_3
    (try clear BK804);(try clear HB)
    obtain ⟨x3_1,x17_1,rfl,rfl,HA,HK1,BK804,HB⟩:=hrel
    cases gk with
    | zero=>exact absurd HA.out (by simp [impl_flat.l0])
    | succ k1 =>
     have H:=HA.out
     clear HA
     simp only [impl_flat.l0] at H
     by_cases c10:x17_1 < (l0_3.length:Int)
     ·rw [if_pos c10] at H
      have c10b0:decide (x17_1 < (l0_3.length:Int))=true:=decide_eq_true c10
      clear c10
      by_cases c11:0≤x17_1
      ·rw [if_pos c11] at H
       have c11b0:decide (0≤x17_1)=true:=decide_eq_true c11
       clear c11
       by_cases c12:x17_1 < (l0_3.length:Int)
       ·rw [if_pos c12] at H
        have c12b0:decide (x17_1 < (l0_3.length:Int))=true:=decide_eq_true c12
        clear c12
        replace H:=Option.bind_eq_some_iff.mp H
        obtain ⟨t807,A130,H⟩:=H
        replace H:(if x3_1.size+t807.size≤9223372036854775807 then (impl_flat.l0 k1 (x3_1++t807) l0_3 (l0_3.length:Int) (wrap64 (x17_1+1))) else (none))=some r:=H
        have A13:=Aside0.mk A130
        clear A130
        by_cases c14:x3_1.size+t807.size≤9223372036854775807
        ·rw [if_pos c14] at H
         have c14b0:=eq_true c14
         have c14b1:decide (x3_1.size+t807.size≤9223372036854775807)=true:=decide_eq_true c14
         try have c14b2:(9223372036854775807 < x3_1.size+t807.size)=False:=eq_false (Nat.not_lt.2 c14)
         have H':=Aside0.mk H
         clear H
         have p805:0≤(x17_1:Int):=of_decide_eq_true (by first|(with_reducible assumption)|assumption)
         have q805:x17_1 < (l0_3.length:Int):=of_decide_eq_true (by first|(with_reducible assumption)|assumption)
         obtain ⟨ad805,A805_3,c805_3,e805,hx805_0,hx805_1,hx805_2,hx805_3,hl805_3,hi805_3⟩:=at_TDoc HR0_3.out x17_1 p805 q805
         cases e805
         replace hx805_0:=(HB.out.cell (World.block_lt_of_cell? w _ hx805_0)).trans hx805_0
         replace hx805_1:=(HB.out.cell (World.block_lt_of_cell? w _ hx805_1)).trans hx805_1
         replace hx805_2:=(HB.out.cell (World.block_lt_of_cell? w _ hx805_2)).trans hx805_2
         replace hx805_3:=(HB.out.cell (World.block_lt_of_cell? w _ hx805_3)).trans hx805_3
         have HR805_3:=Aside0.mk hi805_3
         have HC805_3:=Aside0.mk hl805_3
         clear hi805_3 hl805_3
         replace p805:=eq_true p805
         replace q805:=eq_true q805
         go_wp2_with (first|((with_reducible refine gate_dst (N:=5) rfl ?_);refine box_event ?hg (N:=5) ?hd (cs:=#[.int .i64 0,.int .i64 0,.string (⟨#[]⟩:ByteArray),.slice none 0 0]) (t:=27) ?hr ?_;(case hd=>rfl);(case hg=>rfl);(case hr=>first|(go_simp;done)|(go_simp;rfl));intro gb806 hg w15 hbox hb;have n0_:=Aside0.mk (blk_below (g:=gb804) (o:=.cells #[.int .i64 a0_0,.int .i64 a0_1,.string a0_2,.slice (some ad805) l0_3.length c0_3] 27 (0,0)) (gK BK804) hb);have n1_:=Aside0.mk (below_step (by repeat (first|exact gB HB|refine below_set ?_ GE804.out)) hb);have n2_:=Aside0.mk (hbox);have n3_:=Aside0.mk ((by rw [hg];exact (below_size (by repeat (first|exact gB HB|refine below_set ?_ GE804.out))):w.heap.size≤gb806));have n4_:=Aside0.mk ((by rw [hg];exact (below_size (by repeat (first|exact gB HB|refine below_set ?_ GE804.out))):w.heap.size≤gb806));have n5_:=Aside0.mk ((by rw [hg];exact Nat.ne_of_lt (blk_lt (g:=gb804) (o:=.cells #[.int .i64 a0_0,.int .i64 a0_1,.string a0_2,.slice (some ad805) l0_3.length c0_3] 27 (0,0)) (gK BK804)):gb804 ≠ gb806));have n6_:=Aside0.mk ((by rw [hg];exact Nat.ne_of_gt (blk_lt (g:=gb804) (o:=.cells #[.int .i64 a0_0,.int .i64 a0_1,.string a0_2,.slice (some ad805) l0_3.length c0_3] 27 (0,0)) (gK BK804)):gb806 ≠ gb804));clear BK804;clear HB;have BK804:=n0_;have HB:=n1_;have BK806:=n2_;have GW806:=n3_;have GE806:=n4_;have NB804_806:=n5_;have NB806_804:=n6_;clear n0_ n1_ n2_ n3_ n4_ n5_ n6_;clear hb hbox hg;have hnb16:=NB806_804.out;have hnc16:=NB804_806.out;have hcz17_0:w15.cell? ⟨gb806,0,none⟩=some (.int .i64 0):=(blk_cell BK806.out 0).trans rfl;have hcz17_1:w15.cell? ⟨gb806,1,none⟩=some (.int .i64 0):=(blk_cell BK806.out 1).trans rfl;have hcz17_2:w15.cell? ⟨gb806,2,none⟩=some (.string (⟨#[]⟩:ByteArray)):=(blk_cell BK806.out 2).trans rfl;have hcz17_3:w15.cell? ⟨gb806,3,none⟩=some (.slice none 0 0):=(blk_cell BK806.out 3).trans rfl;have hfz17_0:=blk_frozen BK806.out 0;have hfz17_1:=blk_frozen BK806.out 1;have hfz17_2:=blk_frozen BK806.out 2;have hfz17_3:=blk_frozen BK806.out 3)|((with_reducible refine gate_callee (f:=61) rfl ?_);refine goesL_ (some 23) rfl rfl Try.func61 (by kernel_rfl) rfl #[.agg #[.int .i64 ((rd_TDoc l0_3 x17_1).f0),.int .i64 ((rd_TDoc l0_3 x17_1).f1),.string ((rd_TDoc l0_3 x17_1).f2),.slice A805_3 ((rd_TDoc l0_3 x17_1).f3).length c805_3]] rfl (by (try simp only [List.map_toArray,List.map_cons,List.map_nil]);first|done|rfl|(simp only [List.length_drop,List.length_take];rfl)) ?_;(with_reducible refine (ih k1 (by have:=HK1.out;omega) ((rd_TDoc l0_3 x17_1).f0) ((rd_TDoc l0_3 x17_1).f1) ((rd_TDoc l0_3 x17_1).f2) _ _ ((rd_TDoc l0_3 x17_1).f3) t807 _ ?side1 ?side2 A13.out).mono ?_);(case side1=>exact Kd.C_below HR805_3.out (by repeat (first|exact gB HB|refine below_set ?_ GE804.out|refine below_set ?_ GE806.out)));(case side2=>exact HC805_3.out);rintro e w18 ⟨rfl,hb⟩;refine ⟨_,rfl,?_⟩;have n0_:=Aside0.mk (blk_below (g:=gb804) (o:=.cells #[.int .i64 a0_0,.int .i64 a0_1,.string a0_2,.slice (some ad805) l0_3.length c0_3] 27 (0,0)) (by (with_reducible repeat (first|refine blk_drewN ?_ _|refine blk_drew ?_|refine blk_alloc ?_ _));refine blk_far ?_ NB804_806.out _;(with_reducible repeat (first|refine blk_drewN ?_ _|refine blk_drew ?_|refine blk_alloc ?_ _));refine blk_far ?_ NB804_806.out _;(with_reducible repeat (first|refine blk_drewN ?_ _|refine blk_drew ?_|refine blk_alloc ?_ _));refine blk_far ?_ NB804_806.out _;(with_reducible repeat (first|refine blk_drewN ?_ _|refine blk_drew ?_|refine blk_alloc ?_ _));refine blk_far ?_ NB804_806.out _;(with_reducible repeat (first|refine blk_drewN ?_ _|refine blk_drew ?_|refine blk_alloc ?_ _));exact BK804.out) hb);have n1_:=Aside0.mk (blk_below (g:=gb806) (o:=.cells #[.int .i64 ((rd_TDoc l0_3 x17_1).f0),.int .i64 ((rd_TDoc l0_3 x17_1).f1),.string ((rd_TDoc l0_3 x17_1).f2),.slice A805_3 ((rd_TDoc l0_3 x17_1).f3).length c805_3] 27 (0,0)) (by (with_reducible repeat (first|refine blk_drewN ?_ _|refine blk_drew ?_|refine blk_alloc ?_ _));refine blk_put (cs:=#[.int .i64 ((rd_TDoc l0_3 x17_1).f0),.int .i64 ((rd_TDoc l0_3 x17_1).f1),.string ((rd_TDoc l0_3 x17_1).f2),.slice none 0 0]) ?_ 3 _ rfl;(with_reducible repeat (first|refine blk_drewN ?_ _|refine blk_drew ?_|refine blk_alloc ?_ _));refine blk_put (cs:=#[.int .i64 ((rd_TDoc l0_3 x17_1).f0),.int .i64 ((rd_TDoc l0_3 x17_1).f1),.string (⟨#[]⟩:ByteArray),.slice none 0 0]) ?_ 2 _ rfl;(with_reducible repeat (first|refine blk_drewN ?_ _|refine blk_drew ?_|refine blk_alloc ?_ _));refine blk_put (cs:=#[.int .i64 ((rd_TDoc l0_3 x17_1).f0),.int .i64 0,.string (⟨#[]⟩:ByteArray),.slice none 0 0]) ?_ 1 _ rfl;(with_reducible repeat (first|refine blk_drewN ?_ _|refine blk_drew ?_|refine blk_alloc ?_ _));refine blk_put (cs:=#[.int .i64 0,.int .i64 0,.string (⟨#[]⟩:ByteArray),.slice none 0 0]) ?_ 0 _ rfl;(with_reducible repeat (first|refine blk_drewN ?_ _|refine blk_drew ?_|refine blk_alloc ?_ _));exact BK806.out) hb);have n2_:=Aside0.mk (below_step (by repeat (first|exact gB HB|refine below_set ?_ GE804.out|refine below_set ?_ GE806.out)) hb);clear BK804;clear BK806;clear HB;have BK804:=n0_;have BK806:=n1_;have HB:=n2_;clear n0_ n1_ n2_;(try clear hb);(try clear hb2);(try clear hk);(try clear hi)))
         go_roundg k1
         case measure=>have:=HK1.out;omega
         case rel=>exact ⟨(x3_1++t807),(wrap64 (x17_1+1)),(by first|rfl|(simp;done)|(simp [*];done)),(by first|rfl|(simp;done)|(simp [*];done)),H',⟨by have:=HK1.out;omega⟩,⟨gK BK804⟩,⟨by repeat (first|exact gB HB|refine below_set ?_ GE804.out|refine below_set ?_ GE806.out)⟩⟩
        ·rw [if_neg c14] at H
         exact absurd H (by simp)
       ·rw [if_neg c12] at H
        exact absurd H (by simp)
      ·rw [if_neg c11] at H
       exact absurd H (by simp)
     ·rw [if_neg c10] at H
      have c10b0:decide (x17_1 < (l0_3.length:Int))=false:=decide_eq_false c10
      clear c10
      obtain rfl:=Option.some.inj H
      go_wp2
      go_ret
      exact ⟨by first|rfl|(simp [errW_none,errW_some] <;> rfl)|(simp [*,errW_none,errW_some] <;> rfl),by repeat (first|exact gB HB|refine below_set ?_ GE804.out)⟩
end Go.Proofs.Ytdhdfmmefghijaa.P
namespace Go.Proofs.Ytdhdfmmefghijaa.P
open Go.RowKit Go.Proofs.YtdhdfmmefghijaaW.PrintWords Go.Proofs.YtdhdfmmefghijaaW.PrintLast Go.Proofs.YtdhdfmmefghijaaW.PrintMore
attribute [local go_sem] max2_int min2_int max_two min_two max_three min_three max_four min_four
set_option linter.unusedVariables false
set_option linter.unusedSimpArgs false
def impl_FlatText.f (k:Nat) (a0_0:Int) (a0_1:Int) (a0_2:ByteArray) (l0_3:List (SDoc)):Option (ByteArray × Bool):=(impl_CanFlatten.f k a0_0 a0_1 a0_2 l0_3).bind fun t809=>(if t809=true then ((impl_flat.f k a0_0 a0_1 a0_2 l0_3).bind fun t810=>(some (t810,true))) else (some ((⟨#[]⟩:ByteArray),false)))
set_option maxHeartbeats 8000000 in
set_option maxRecDepth 100000 in
theorem impl_FlatText.calls (k:Nat) (a0_0:Int) (a0_1:Int) (a0_2:ByteArray) (A0_3:Option Addr) (c0_3:Nat) (l0_3:List (SDoc)) (r1:ByteArray) (r2:Bool) (w:World) (hr0_3:Kd.C k27 w A0_3 l0_3.length l0_3) (hc0_3:l0_3.length≤c0_3) (h:impl_FlatText.f k a0_0 a0_1 a0_2 l0_3=some (r1,r2)) :
  Calls Try.prog 38 #[.agg #[.int .i64 a0_0,.int .i64 a0_1,.string a0_2,.slice A0_3 l0_3.length c0_3]] w fun e w'=>e=.returned (.tuple #[.string r1,.bool r2])∧Below w.heap.size w w':=by
 have hu27:=Try.underlying27
 have HR0_3:=Aside0.mk hr0_3
 have HC0_3:=Aside0.mk hc0_3
 clear hr0_3 hc0_3
 have HB:=Aside0.mk (Below.refl w.heap.size w)
 have H:((impl_CanFlatten.f k a0_0 a0_1 a0_2 l0_3).bind fun t809=>(if t809=true then ((impl_flat.f k a0_0 a0_1 a0_2 l0_3).bind fun t810=>(some (t810,true))) else (some ((⟨#[]⟩:ByteArray),false))))=some (r1,r2):=h
 clear h
 replace H:=Option.bind_eq_some_iff.mp H
 obtain ⟨t809,A20,H⟩:=H
 replace H:(if t809=true then ((impl_flat.f k a0_0 a0_1 a0_2 l0_3).bind fun t810=>(some (t810,true))) else (some ((⟨#[]⟩:ByteArray),false)))=some (r1,r2):=H
 have A2:=Aside0.mk A20
 clear A20
 by_cases c3:t809=true
 ·subst c3
  have H1:((impl_flat.f k a0_0 a0_1 a0_2 l0_3).bind fun t810=>(some (t810,true)))=some (r1,r2):=by rw [if_pos rfl] at H;exact H
  clear H
  have H:=H1
  clear H1
  replace H:=Option.bind_eq_some_iff.mp H
  obtain ⟨t810,A40,H⟩:=H
  replace H:(some (t810,true))=some (r1,r2):=H
  have A4:=Aside0.mk A40
  clear A40
  simp only [Option.some.injEq,Prod.mk.injEq] at H
  obtain ⟨rfl,rfl⟩:=H
  go_enter Try.func38,Try.ntmps38
  go_wp2_with (first|((with_reducible refine gate_dst (N:=1) rfl ?_);refine box_event ?hg (N:=1) ?hd (cs:=#[.int .i64 a0_0,.int .i64 a0_1,.string a0_2,.slice A0_3 l0_3.length c0_3]) (t:=27) ?hr ?_;(case hd=>rfl);(case hg=>rfl);(case hr=>first|(go_simp;done)|(go_simp;rfl));intro gb808 hg w5 hbox hb;have n0_:=Aside0.mk (below_step (by repeat (first|(with_reducible first|exact HB.out|apply below_alloc|apply pw_below_drewN|apply below_drew1)|exact HB.out)) hb);have n1_:=Aside0.mk (hbox);have n2_:=Aside0.mk ((by rw [hg];exact (below_size (by repeat (first|(with_reducible first|exact HB.out|apply below_alloc|apply pw_below_drewN|apply below_drew1)|exact HB.out))):w.heap.size≤gb808));have n3_:=Aside0.mk ((by rw [hg];exact (below_size (by repeat (first|(with_reducible first|exact HB.out|apply below_alloc|apply pw_below_drewN|apply below_drew1)|exact HB.out))):w.heap.size≤gb808));clear HB;have HB:=n0_;have BK808:=n1_;have GW808:=n2_;have GE808:=n3_;clear n0_ n1_ n2_ n3_;clear hb hbox hg;have hcz6_0:w5.cell? ⟨gb808,0,none⟩=some (.int .i64 a0_0):=(blk_cell BK808.out 0).trans rfl;have hcz6_1:w5.cell? ⟨gb808,1,none⟩=some (.int .i64 a0_1):=(blk_cell BK808.out 1).trans rfl;have hcz6_2:w5.cell? ⟨gb808,2,none⟩=some (.string a0_2):=(blk_cell BK808.out 2).trans rfl;have hcz6_3:w5.cell? ⟨gb808,3,none⟩=some (.slice A0_3 l0_3.length c0_3):=(blk_cell BK808.out 3).trans rfl;have hfz6_0:=blk_frozen BK808.out 0;have hfz6_1:=blk_frozen BK808.out 1;have hfz6_2:=blk_frozen BK808.out 2;have hfz6_3:=blk_frozen BK808.out 3)|((with_reducible refine gate_callee (f:=26) rfl ?_);refine goesL_ (some 5) rfl rfl Try.func26 (by kernel_rfl) rfl #[.agg #[.int .i64 a0_0,.int .i64 a0_1,.string a0_2,.slice A0_3 l0_3.length c0_3]] rfl (by (try simp only [List.map_toArray,List.map_cons,List.map_nil]);first|done|rfl|(simp only [List.length_drop,List.length_take];rfl)) ?_;(with_reducible refine (impl_CanFlatten.calls k a0_0 a0_1 a0_2 _ _ l0_3 true _ ?side1 ?side2 A2.out).mono ?_);(case side1=>repeat (first|exact (Kd.C_below HR0_3.out HB.out)|(with_reducible refine Kd.C_alloc ?_ _)|(with_reducible refine Kd.C_drewN ?_ _)|(with_reducible refine Kd.C_drew ?_)));(case side2=>exact HC0_3.out);rintro e w7 ⟨rfl,hb⟩;refine ⟨_,rfl,?_⟩;have n0_:=Aside0.mk (blk_below (g:=gb808) (o:=.cells #[.int .i64 a0_0,.int .i64 a0_1,.string a0_2,.slice A0_3 l0_3.length c0_3] 27 (0,0)) (by (with_reducible repeat (first|refine blk_drewN ?_ _|refine blk_drew ?_|refine blk_alloc ?_ _));exact BK808.out) hb);have n1_:=Aside0.mk (below_step (by repeat (first|(with_reducible first|exact HB.out|apply below_alloc|apply pw_below_drewN|apply below_drew1|refine below_set ?_ GE808.out)|exact HB.out)) hb);clear BK808;clear HB;have BK808:=n0_;have HB:=n1_;clear n0_ n1_;(try clear hb);(try clear hb2);(try clear hk);(try clear hi);have hcz8_0:w7.cell? ⟨gb808,0,none⟩=some (.int .i64 a0_0):=(blk_cell BK808.out 0).trans rfl;have hcz8_1:w7.cell? ⟨gb808,1,none⟩=some (.int .i64 a0_1):=(blk_cell BK808.out 1).trans rfl;have hcz8_2:w7.cell? ⟨gb808,2,none⟩=some (.string a0_2):=(blk_cell BK808.out 2).trans rfl;have hcz8_3:w7.cell? ⟨gb808,3,none⟩=some (.slice A0_3 l0_3.length c0_3):=(blk_cell BK808.out 3).trans rfl;have hfz8_0:=blk_frozen BK808.out 0;have hfz8_1:=blk_frozen BK808.out 1;have hfz8_2:=blk_frozen BK808.out 2;have hfz8_3:=blk_frozen BK808.out 3)|((with_reducible refine gate_callee (f:=61) rfl ?_);refine goesL_ (some 8) rfl rfl Try.func61 (by kernel_rfl) rfl #[.agg #[.int .i64 a0_0,.int .i64 a0_1,.string a0_2,.slice A0_3 l0_3.length c0_3]] rfl (by (try simp only [List.map_toArray,List.map_cons,List.map_nil]);first|done|rfl|(simp only [List.length_drop,List.length_take];rfl)) ?_;(with_reducible refine (impl_flat.calls k a0_0 a0_1 a0_2 _ _ l0_3 t810 _ ?side1 ?side2 A4.out).mono ?_);(case side1=>repeat (first|exact (Kd.C_below HR0_3.out HB.out)|(with_reducible refine Kd.C_alloc ?_ _)|(with_reducible refine Kd.C_drewN ?_ _)|(with_reducible refine Kd.C_drew ?_)));(case side2=>exact HC0_3.out);rintro e w9 ⟨rfl,hb⟩;refine ⟨_,rfl,?_⟩;have n0_:=Aside0.mk (blk_below (g:=gb808) (o:=.cells #[.int .i64 a0_0,.int .i64 a0_1,.string a0_2,.slice A0_3 l0_3.length c0_3] 27 (0,0)) (by (with_reducible repeat (first|refine blk_drewN ?_ _|refine blk_drew ?_|refine blk_alloc ?_ _));exact BK808.out) hb);have n1_:=Aside0.mk (below_step (by repeat (first|(with_reducible first|exact HB.out|apply below_alloc|apply pw_below_drewN|apply below_drew1|refine below_set ?_ GE808.out)|exact HB.out)) hb);clear BK808;clear HB;have BK808:=n0_;have HB:=n1_;clear n0_ n1_;(try clear hb);(try clear hb2);(try clear hk);(try clear hi)))
  go_ret2
  exact ⟨by first|rfl|(simp [errW_none,errW_some] <;> rfl)|(simp [*,errW_none,errW_some] <;> rfl),by repeat (first|(with_reducible first|exact HB.out|apply below_alloc|apply pw_below_drewN|apply below_drew1|refine below_set ?_ GE808.out)|exact HB.out)⟩
 ·replace c3:=Bool.eq_false_iff.mpr c3
  subst c3
  have H1:(some ((⟨#[]⟩:ByteArray),false))=some (r1,r2):=by rw [if_neg (show ¬ (false=true) by decide)] at H;exact H
  clear H
  have H:=H1
  clear H1
  simp only [Option.some.injEq,Prod.mk.injEq] at H
  obtain ⟨rfl,rfl⟩:=H
  go_enter Try.func38,Try.ntmps38
  go_wp2_with (first|((with_reducible refine gate_dst (N:=1) rfl ?_);refine box_event ?hg (N:=1) ?hd (cs:=#[.int .i64 a0_0,.int .i64 a0_1,.string a0_2,.slice A0_3 l0_3.length c0_3]) (t:=27) ?hr ?_;(case hd=>rfl);(case hg=>rfl);(case hr=>first|(go_simp;done)|(go_simp;rfl));intro gb808 hg w10 hbox hb;have n0_:=Aside0.mk (below_step (by repeat (first|(with_reducible first|exact HB.out|apply below_alloc|apply pw_below_drewN|apply below_drew1)|exact HB.out)) hb);have n1_:=Aside0.mk (hbox);have n2_:=Aside0.mk ((by rw [hg];exact (below_size (by repeat (first|(with_reducible first|exact HB.out|apply below_alloc|apply pw_below_drewN|apply below_drew1)|exact HB.out))):w.heap.size≤gb808));have n3_:=Aside0.mk ((by rw [hg];exact (below_size (by repeat (first|(with_reducible first|exact HB.out|apply below_alloc|apply pw_below_drewN|apply below_drew1)|exact HB.out))):w.heap.size≤gb808));clear HB;have HB:=n0_;have BK808:=n1_;have GW808:=n2_;have GE808:=n3_;clear n0_ n1_ n2_ n3_;clear hb hbox hg;have hcz11_0:w10.cell? ⟨gb808,0,none⟩=some (.int .i64 a0_0):=(blk_cell BK808.out 0).trans rfl;have hcz11_1:w10.cell? ⟨gb808,1,none⟩=some (.int .i64 a0_1):=(blk_cell BK808.out 1).trans rfl;have hcz11_2:w10.cell? ⟨gb808,2,none⟩=some (.string a0_2):=(blk_cell BK808.out 2).trans rfl;have hcz11_3:w10.cell? ⟨gb808,3,none⟩=some (.slice A0_3 l0_3.length c0_3):=(blk_cell BK808.out 3).trans rfl;have hfz11_0:=blk_frozen BK808.out 0;have hfz11_1:=blk_frozen BK808.out 1;have hfz11_2:=blk_frozen BK808.out 2;have hfz11_3:=blk_frozen BK808.out 3)|((with_reducible refine gate_callee (f:=26) rfl ?_);refine goesL_ (some 5) rfl rfl Try.func26 (by kernel_rfl) rfl #[.agg #[.int .i64 a0_0,.int .i64 a0_1,.string a0_2,.slice A0_3 l0_3.length c0_3]] rfl (by (try simp only [List.map_toArray,List.map_cons,List.map_nil]);first|done|rfl|(simp only [List.length_drop,List.length_take];rfl)) ?_;(with_reducible refine (impl_CanFlatten.calls k a0_0 a0_1 a0_2 _ _ l0_3 false _ ?side1 ?side2 A2.out).mono ?_);(case side1=>repeat (first|exact (Kd.C_below HR0_3.out HB.out)|(with_reducible refine Kd.C_alloc ?_ _)|(with_reducible refine Kd.C_drewN ?_ _)|(with_reducible refine Kd.C_drew ?_)));(case side2=>exact HC0_3.out);rintro e w12 ⟨rfl,hb⟩;refine ⟨_,rfl,?_⟩;have n0_:=Aside0.mk (blk_below (g:=gb808) (o:=.cells #[.int .i64 a0_0,.int .i64 a0_1,.string a0_2,.slice A0_3 l0_3.length c0_3] 27 (0,0)) (by (with_reducible repeat (first|refine blk_drewN ?_ _|refine blk_drew ?_|refine blk_alloc ?_ _));exact BK808.out) hb);have n1_:=Aside0.mk (below_step (by repeat (first|(with_reducible first|exact HB.out|apply below_alloc|apply pw_below_drewN|apply below_drew1|refine below_set ?_ GE808.out)|exact HB.out)) hb);clear BK808;clear HB;have BK808:=n0_;have HB:=n1_;clear n0_ n1_;(try clear hb);(try clear hb2);(try clear hk);(try clear hi)))
  go_ret2
  exact ⟨by first|rfl|(simp [errW_none,errW_some] <;> rfl)|(simp [*,errW_none,errW_some] <;> rfl),by repeat (first|(with_reducible first|exact HB.out|apply below_alloc|apply pw_below_drewN|apply below_drew1|refine below_set ?_ GE808.out)|exact HB.out)⟩
end Go.Proofs.Ytdhdfmmefghijaa.P
namespace Go.Proofs.Ytdhdfmmefghijaa.P
open Go.RowKit Go.Proofs.YtdhdfmmefghijaaW.PrintWords Go.Proofs.YtdhdfmmefghijaaW.PrintLast Go.Proofs.YtdhdfmmefghijaaW.PrintMore
attribute [local go_sem] max2_int min2_int max_two min_two max_three min_three max_four min_four
set_option linter.unusedVariables false
set_option linter.unusedSimpArgs false
mutual
def spec_l2Flat.l0:Nat→ByteArray→Int→Int→Int→ByteArray→List (SDoc)→Option (ByteArray)
 | 0,_,_,_,_,_,_=>none
 | k+1,x3,x4,x812000,x812001,x812002,x812003=>if x4 < (x812003.length:Int) then (if 0≤x4 then ((spec_l2Flat.f k ((rd_TDoc x812003 x4).f0) ((rd_TDoc x812003 x4).f1) ((rd_TDoc x812003 x4).f2) ((rd_TDoc x812003 x4).f3)).bind fun t813=>(if x3.size+t813.size≤9223372036854775807 then (spec_l2Flat.l0 k (x3++t813) (wrap64 (x4+1)) x812000 x812001 x812002 x812003) else (none))) else (none)) else (some x3)
def spec_l2Flat.f:Nat→Int→Int→ByteArray→List (SDoc)→Option (ByteArray)
 | 0,_,_,_,_=>none
 | k+1,a0_0,a0_1,a0_2,l0_3=>if a0_0=3 then (some (⟨#[32]⟩:ByteArray)) else (spec_l2Flat.l0 k a0_2 0 a0_0 a0_1 a0_2 l0_3)
end
set_option maxHeartbeats 8000000 in
set_option maxRecDepth 100000 in
theorem spec_l2Flat.calls (k:Nat):∀ (a0_0:Int) (a0_1:Int) (a0_2:ByteArray) (A0_3:Option Addr) (c0_3:Nat) (l0_3:List (SDoc)) (r:ByteArray) (w:World) (hr0_3:Kd.C k27 w A0_3 l0_3.length l0_3) (hc0_3:l0_3.length≤c0_3) (h:spec_l2Flat.f k a0_0 a0_1 a0_2 l0_3=some r),
  Calls Try.prog 62 #[.agg #[.int .i64 a0_0,.int .i64 a0_1,.string a0_2,.slice A0_3 l0_3.length c0_3]] w fun e w'=>e=.returned (.string r)∧Below w.heap.size w w':=by
 induction k using Nat.strongRecOn with
 | _ k ih =>
 intro a0_0 a0_1 a0_2 A0_3 c0_3 l0_3 r w hr0_3 hc0_3 h
 cases k with
 | zero=>exact absurd h (by simp [spec_l2Flat.f])
 | succ k =>
 simp only [spec_l2Flat.f] at h
 have hu27:=Try.underlying27
 have HR0_3:=Aside0.mk hr0_3
 have HC0_3:=Aside0.mk hc0_3
 clear hr0_3 hc0_3
 have HB:=Aside0.mk (Below.refl w.heap.size w)
 have H:(if a0_0=3 then (some (⟨#[32]⟩:ByteArray)) else (spec_l2Flat.l0 k a0_2 0 a0_0 a0_1 a0_2 l0_3))=some r:=h
 clear h
 by_cases c2:a0_0=3
 ·rw [if_pos c2] at H
  have c2b0:(a0_0 == 3)=true:=beq_iff_eq.mpr c2
  have c2b1:(a0_0 != 3)=false:=bne_eq_false_iff_eq.mpr c2
  clear c2
  obtain rfl:=Option.some.inj H
  go_enter Try.func62,Try.ntmps62
  go_wp2_with (first|((with_reducible refine gate_dst (N:=1) rfl ?_);refine box_event ?hg (N:=1) ?hd (cs:=#[.int .i64 a0_0,.int .i64 a0_1,.string a0_2,.slice A0_3 l0_3.length c0_3]) (t:=27) ?hr ?_;(case hd=>rfl);(case hg=>rfl);(case hr=>first|(go_simp;done)|(go_simp;rfl));intro gb811 hg w3 hbox hb;have n0_:=Aside0.mk (below_step (gB HB) hb);have n1_:=Aside0.mk (hbox);have n2_:=Aside0.mk ((by rw [hg];exact (below_size (gB HB)):w.heap.size≤gb811));have n3_:=Aside0.mk ((by rw [hg];exact (below_size (gB HB)):w.heap.size≤gb811));clear HB;have HB:=n0_;have BK811:=n1_;have GW811:=n2_;have GE811:=n3_;clear n0_ n1_ n2_ n3_;clear hb hbox hg;have hcz4_0:w3.cell? ⟨gb811,0,none⟩=some (.int .i64 a0_0):=(blk_cell BK811.out 0).trans rfl;have hcz4_1:w3.cell? ⟨gb811,1,none⟩=some (.int .i64 a0_1):=(blk_cell BK811.out 1).trans rfl;have hcz4_2:w3.cell? ⟨gb811,2,none⟩=some (.string a0_2):=(blk_cell BK811.out 2).trans rfl;have hcz4_3:w3.cell? ⟨gb811,3,none⟩=some (.slice A0_3 l0_3.length c0_3):=(blk_cell BK811.out 3).trans rfl;have hfz4_0:=blk_frozen BK811.out 0;have hfz4_1:=blk_frozen BK811.out 1;have hfz4_2:=blk_frozen BK811.out 2;have hfz4_3:=blk_frozen BK811.out 3))
  go_ret
  exact ⟨by first|rfl|(simp [errW_none,errW_some] <;> rfl)|(simp [*,errW_none,errW_some] <;> rfl),by repeat (first|exact gB HB|refine below_set ?_ GE811.out)⟩
 ·rw [if_neg c2] at H
  have c2b0:(a0_0 == 3)=false:=beq_eq_false_iff_ne.mpr c2
  have c2b1:(a0_0 != 3)=true:=bne_iff_ne.mpr c2
  have H':=Aside0.mk H
  clear H
  go_enter Try.func62,Try.ntmps62
  go_wp2_with (first|((with_reducible refine gate_dst (N:=1) rfl ?_);refine box_event ?hg (N:=1) ?hd (cs:=#[.int .i64 a0_0,.int .i64 a0_1,.string a0_2,.slice A0_3 l0_3.length c0_3]) (t:=27) ?hr ?_;(case hd=>rfl);(case hg=>rfl);(case hr=>first|(go_simp;done)|(go_simp;rfl));intro gb811 hg w5 hbox hb;have n0_:=Aside0.mk (below_step (gB HB) hb);have n1_:=Aside0.mk (hbox);have n2_:=Aside0.mk ((by rw [hg];exact (below_size (gB HB)):w.heap.size≤gb811));have n3_:=Aside0.mk ((by rw [hg];exact (below_size (gB HB)):w.heap.size≤gb811));clear HB;have HB:=n0_;have BK811:=n1_;have GW811:=n2_;have GE811:=n3_;clear n0_ n1_ n2_ n3_;clear hb hbox hg;have hcz6_0:w5.cell? ⟨gb811,0,none⟩=some (.int .i64 a0_0):=(blk_cell BK811.out 0).trans rfl;have hcz6_1:w5.cell? ⟨gb811,1,none⟩=some (.int .i64 a0_1):=(blk_cell BK811.out 1).trans rfl;have hcz6_2:w5.cell? ⟨gb811,2,none⟩=some (.string a0_2):=(blk_cell BK811.out 2).trans rfl;have hcz6_3:w5.cell? ⟨gb811,3,none⟩=some (.slice A0_3 l0_3.length c0_3):=(blk_cell BK811.out 3).trans rfl;have hfz6_0:=blk_frozen BK811.out 0;have hfz6_1:=blk_frozen BK811.out 1;have hfz6_2:=blk_frozen BK811.out 2;have hfz6_3:=blk_frozen BK811.out 3))
  go_loopg [3,4] k (fun kq v3 v4 w'=>∃ (x3_1:ByteArray) (x4_1:Int),v3=.string x3_1∧v4=.int .i64 x4_1∧Aside0 (spec_l2Flat.l0 kq x3_1 x4_1 a0_0 a0_1 a0_2 l0_3=some r)∧Aside0 (kq≤k)∧Aside0 (w'.heap[gb811]?=some (.cells #[.int .i64 a0_0,.int .i64 a0_1,.string a0_2,(.slice A0_3 l0_3.length c0_3)] 27 (0,0)))∧Aside0 (Below w.heap.size w w'))
  case atStart=>exact ⟨(a0_2),(0),(by first|rfl|(simp;done)|(simp [*];done)),(by first|rfl|(simp;done)|(simp [*];done)),H',⟨Nat.le_refl _⟩,⟨gK BK811⟩,⟨by repeat (first|exact gB HB|refine below_set ?_ GE811.out)⟩⟩
  case round =>
   clear H'
   try clear c2 c2b0 c2b1 p2 c6 hcz4_0 hcz4_1 hcz4_2 hcz4_3 hcz6_0 hcz6_1 hcz6_2 hcz6_3 hfz4_0 hfz4_1 hfz4_2 hfz4_3 hfz6_0 hfz6_1 hfz6_2 hfz6_3
   (try clear BK811);(try clear HB)
   obtain ⟨x3_1,x4_1,rfl,rfl,HA,HK1,BK811,HB⟩:=hrel
   cases gk with
   | zero=>exact absurd HA.out (by simp [spec_l2Flat.l0])
   | succ k1 =>
    have H:=HA.out
    clear HA
    simp only [spec_l2Flat.l0] at H
    by_cases c7:x4_1 < (l0_3.length:Int)
    ·rw [if_pos c7] at H
     have c7b0:decide (x4_1 < (l0_3.length:Int))=true:=decide_eq_true c7
     clear c7
     by_cases c8:0≤x4_1
     ·rw [if_pos c8] at H
      have c8b0:decide (0≤x4_1)=true:=decide_eq_true c8
      clear c8
      replace H:=Option.bind_eq_some_iff.mp H
      obtain ⟨t813,A90,H⟩:=H
      replace H:(if x3_1.size+t813.size≤9223372036854775807 then (spec_l2Flat.l0 k1 (x3_1++t813) (wrap64 (x4_1+1)) a0_0 a0_1 a0_2 l0_3) else (none))=some r:=H
      have A9:=Aside0.mk A90
      clear A90
      by_cases c10:x3_1.size+t813.size≤9223372036854775807
      ·rw [if_pos c10] at H
       have c10b0:=eq_true c10
       have c10b1:decide (x3_1.size+t813.size≤9223372036854775807)=true:=decide_eq_true c10
       try have c10b2:(9223372036854775807 < x3_1.size+t813.size)=False:=eq_false (Nat.not_lt.2 c10)
       have H':=Aside0.mk H
       clear H
       have hcz11_0:wr.cell? ⟨gb811,0,none⟩=some (.int .i64 a0_0):=(blk_cell BK811.out 0).trans rfl
       have hcz11_1:wr.cell? ⟨gb811,1,none⟩=some (.int .i64 a0_1):=(blk_cell BK811.out 1).trans rfl
       have hcz11_2:wr.cell? ⟨gb811,2,none⟩=some (.string a0_2):=(blk_cell BK811.out 2).trans rfl
       have hcz11_3:wr.cell? ⟨gb811,3,none⟩=some (.slice A0_3 l0_3.length c0_3):=(blk_cell BK811.out 3).trans rfl
       have hfz11_0:=blk_frozen BK811.out 0
       have hfz11_1:=blk_frozen BK811.out 1
       have hfz11_2:=blk_frozen BK811.out 2
       have hfz11_3:=blk_frozen BK811.out 3
       have p812:0≤(x4_1:Int):=of_decide_eq_true (by first|(with_reducible assumption)|assumption)
       have q812:x4_1 < (l0_3.length:Int):=of_decide_eq_true (by first|(with_reducible assumption)|assumption)
       obtain ⟨ad812,A812_3,c812_3,e812,hx812_0,hx812_1,hx812_2,hx812_3,hl812_3,hi812_3⟩:=at_TDoc HR0_3.out x4_1 p812 q812
       cases e812
       replace hx812_0:=(HB.out.cell (World.block_lt_of_cell? w _ hx812_0)).trans hx812_0
       replace hx812_1:=(HB.out.cell (World.block_lt_of_cell? w _ hx812_1)).trans hx812_1
       replace hx812_2:=(HB.out.cell (World.block_lt_of_cell? w _ hx812_2)).trans hx812_2
       replace hx812_3:=(HB.out.cell (World.block_lt_of_cell? w _ hx812_3)).trans hx812_3
       have HR812_3:=Aside0.mk hi812_3
       have HC812_3:=Aside0.mk hl812_3
       clear hi812_3 hl812_3
       replace p812:=eq_true p812
       replace q812:=eq_true q812
       go_wp2_with (first|((with_reducible refine gate_callee (f:=62) rfl ?_);refine goesL_ (some 23) rfl rfl Try.func62 (by kernel_rfl) rfl #[.agg #[.int .i64 ((rd_TDoc l0_3 x4_1).f0),.int .i64 ((rd_TDoc l0_3 x4_1).f1),.string ((rd_TDoc l0_3 x4_1).f2),.slice A812_3 ((rd_TDoc l0_3 x4_1).f3).length c812_3]] rfl (by (try simp only [List.map_toArray,List.map_cons,List.map_nil]);first|done|rfl|(simp only [List.length_drop,List.length_take];rfl)) ?_;(with_reducible refine (ih k1 (by have:=HK1.out;omega) ((rd_TDoc l0_3 x4_1).f0) ((rd_TDoc l0_3 x4_1).f1) ((rd_TDoc l0_3 x4_1).f2) _ _ ((rd_TDoc l0_3 x4_1).f3) t813 _ ?side1 ?side2 A9.out).mono ?_);(case side1=>exact gC (Kd.C_below HR812_3.out HB.out));(case side2=>exact HC812_3.out);rintro e w12 ⟨rfl,hb⟩;refine ⟨_,rfl,?_⟩;have n0_:=Aside0.mk (blk_below (g:=gb811) (o:=.cells #[.int .i64 a0_0,.int .i64 a0_1,.string a0_2,.slice (some ad812) l0_3.length c0_3] 27 (0,0)) (gK BK811) hb);have n1_:=Aside0.mk (below_step (by repeat (first|exact gB HB|refine below_set ?_ GE811.out)) hb);clear BK811;clear HB;have BK811:=n0_;have HB:=n1_;clear n0_ n1_;(try clear hb);(try clear hb2);(try clear hk);(try clear hi)))
       go_roundg k1
       case measure=>have:=HK1.out;omega
       case rel=>exact ⟨(x3_1++t813),(wrap64 (x4_1+1)),(by first|rfl|(simp;done)|(simp [*];done)),(by first|rfl|(simp;done)|(simp [*];done)),H',⟨by have:=HK1.out;omega⟩,⟨gK BK811⟩,⟨by repeat (first|exact gB HB|refine below_set ?_ GE811.out)⟩⟩
      ·rw [if_neg c10] at H
       exact absurd H (by simp)
     ·rw [if_neg c8] at H
      exact absurd H (by simp)
    ·rw [if_neg c7] at H
     have c7b0:decide (x4_1 < (l0_3.length:Int))=false:=decide_eq_false c7
     clear c7
     obtain rfl:=Option.some.inj H
     have hcz13_0:wr.cell? ⟨gb811,0,none⟩=some (.int .i64 a0_0):=(blk_cell BK811.out 0).trans rfl
     have hcz13_1:wr.cell? ⟨gb811,1,none⟩=some (.int .i64 a0_1):=(blk_cell BK811.out 1).trans rfl
     have hcz13_2:wr.cell? ⟨gb811,2,none⟩=some (.string a0_2):=(blk_cell BK811.out 2).trans rfl
     have hcz13_3:wr.cell? ⟨gb811,3,none⟩=some (.slice A0_3 l0_3.length c0_3):=(blk_cell BK811.out 3).trans rfl
     have hfz13_0:=blk_frozen BK811.out 0
     have hfz13_1:=blk_frozen BK811.out 1
     have hfz13_2:=blk_frozen BK811.out 2
     have hfz13_3:=blk_frozen BK811.out 3
     go_wp2
     go_ret
     exact ⟨by first|rfl|(simp [errW_none,errW_some] <;> rfl)|(simp [*,errW_none,errW_some] <;> rfl),by repeat (first|exact gB HB|refine below_set ?_ GE811.out)⟩
end Go.Proofs.Ytdhdfmmefghijaa.P
namespace Go.Proofs.Ytdhdfmmefghijaa.P
open Go.RowKit Go.Proofs.YtdhdfmmefghijaaW.PrintWords Go.Proofs.YtdhdfmmefghijaaW.PrintLast Go.Proofs.YtdhdfmmefghijaaW.PrintMore
attribute [local go_sem] max2_int min2_int max_two min_two max_three min_three max_four min_four
set_option linter.unusedVariables false
set_option linter.unusedSimpArgs false
def spec_FlatText.f (k:Nat) (a0_0:Int) (a0_1:Int) (a0_2:ByteArray) (l0_3:List (SDoc)):Option (ByteArray × Bool):=(spec_CanFlatten.f k a0_0 a0_1 a0_2 l0_3).bind fun t815=>(if t815=true then ((spec_l2Flat.f k a0_0 a0_1 a0_2 l0_3).bind fun t816=>(some (t816,true))) else (some ((⟨#[]⟩:ByteArray),false)))
set_option maxHeartbeats 8000000 in
set_option maxRecDepth 100000 in
theorem spec_FlatText.calls (k:Nat) (a0_0:Int) (a0_1:Int) (a0_2:ByteArray) (A0_3:Option Addr) (c0_3:Nat) (l0_3:List (SDoc)) (r1:ByteArray) (r2:Bool) (w:World) (hr0_3:Kd.C k27 w A0_3 l0_3.length l0_3) (hc0_3:l0_3.length≤c0_3) (h:spec_FlatText.f k a0_0 a0_1 a0_2 l0_3=some (r1,r2)) :
  Calls Try.prog 39 #[.agg #[.int .i64 a0_0,.int .i64 a0_1,.string a0_2,.slice A0_3 l0_3.length c0_3]] w fun e w'=>e=.returned (.tuple #[.string r1,.bool r2])∧Below w.heap.size w w':=by
 have hu27:=Try.underlying27
 have HR0_3:=Aside0.mk hr0_3
 have HC0_3:=Aside0.mk hc0_3
 clear hr0_3 hc0_3
 have HB:=Aside0.mk (Below.refl w.heap.size w)
 have H:((spec_CanFlatten.f k a0_0 a0_1 a0_2 l0_3).bind fun t815=>(if t815=true then ((spec_l2Flat.f k a0_0 a0_1 a0_2 l0_3).bind fun t816=>(some (t816,true))) else (some ((⟨#[]⟩:ByteArray),false))))=some (r1,r2):=h
 clear h
 replace H:=Option.bind_eq_some_iff.mp H
 obtain ⟨t815,A20,H⟩:=H
 replace H:(if t815=true then ((spec_l2Flat.f k a0_0 a0_1 a0_2 l0_3).bind fun t816=>(some (t816,true))) else (some ((⟨#[]⟩:ByteArray),false)))=some (r1,r2):=H
 have A2:=Aside0.mk A20
 clear A20
 by_cases c3:t815=true
 ·subst c3
  have H1:((spec_l2Flat.f k a0_0 a0_1 a0_2 l0_3).bind fun t816=>(some (t816,true)))=some (r1,r2):=by rw [if_pos rfl] at H;exact H
  clear H
  have H:=H1
  clear H1
  replace H:=Option.bind_eq_some_iff.mp H
  obtain ⟨t816,A40,H⟩:=H
  replace H:(some (t816,true))=some (r1,r2):=H
  have A4:=Aside0.mk A40
  clear A40
  simp only [Option.some.injEq,Prod.mk.injEq] at H
  obtain ⟨rfl,rfl⟩:=H
  go_enter Try.func39,Try.ntmps39
  go_wp2_with (first|((with_reducible refine gate_dst (N:=1) rfl ?_);refine box_event ?hg (N:=1) ?hd (cs:=#[.int .i64 a0_0,.int .i64 a0_1,.string a0_2,.slice A0_3 l0_3.length c0_3]) (t:=27) ?hr ?_;(case hd=>rfl);(case hg=>rfl);(case hr=>first|(go_simp;done)|(go_simp;rfl));intro gb814 hg w5 hbox hb;have n0_:=Aside0.mk (below_step (gB HB) hb);have n1_:=Aside0.mk (hbox);have n2_:=Aside0.mk ((by rw [hg];exact (below_size (gB HB)):w.heap.size≤gb814));have n3_:=Aside0.mk ((by rw [hg];exact (below_size (gB HB)):w.heap.size≤gb814));clear HB;have HB:=n0_;have BK814:=n1_;have GW814:=n2_;have GE814:=n3_;clear n0_ n1_ n2_ n3_;clear hb hbox hg;have hcz6_0:w5.cell? ⟨gb814,0,none⟩=some (.int .i64 a0_0):=(blk_cell BK814.out 0).trans rfl;have hcz6_1:w5.cell? ⟨gb814,1,none⟩=some (.int .i64 a0_1):=(blk_cell BK814.out 1).trans rfl;have hcz6_2:w5.cell? ⟨gb814,2,none⟩=some (.string a0_2):=(blk_cell BK814.out 2).trans rfl;have hcz6_3:w5.cell? ⟨gb814,3,none⟩=some (.slice A0_3 l0_3.length c0_3):=(blk_cell BK814.out 3).trans rfl;have hfz6_0:=blk_frozen BK814.out 0;have hfz6_1:=blk_frozen BK814.out 1;have hfz6_2:=blk_frozen BK814.out 2;have hfz6_3:=blk_frozen BK814.out 3)|((with_reducible refine gate_callee (f:=28) rfl ?_);refine goesL_ (some 5) rfl rfl Try.func28 (by kernel_rfl) rfl #[.agg #[.int .i64 a0_0,.int .i64 a0_1,.string a0_2,.slice A0_3 l0_3.length c0_3]] rfl (by (try simp only [List.map_toArray,List.map_cons,List.map_nil]);first|done|rfl|(simp only [List.length_drop,List.length_take];rfl)) ?_;(with_reducible refine (spec_CanFlatten.calls k a0_0 a0_1 a0_2 _ _ l0_3 true _ ?side1 ?side2 A2.out).mono ?_);(case side1=>exact gC (Kd.C_below HR0_3.out HB.out));(case side2=>exact HC0_3.out);rintro e w7 ⟨rfl,hb⟩;refine ⟨_,rfl,?_⟩;have n0_:=Aside0.mk (blk_below (g:=gb814) (o:=.cells #[.int .i64 a0_0,.int .i64 a0_1,.string a0_2,.slice A0_3 l0_3.length c0_3] 27 (0,0)) (gK BK814) hb);have n1_:=Aside0.mk (below_step (by repeat (first|exact gB HB|refine below_set ?_ GE814.out)) hb);clear BK814;clear HB;have BK814:=n0_;have HB:=n1_;clear n0_ n1_;(try clear hb);(try clear hb2);(try clear hk);(try clear hi);have hcz8_0:w7.cell? ⟨gb814,0,none⟩=some (.int .i64 a0_0):=(blk_cell BK814.out 0).trans rfl;have hcz8_1:w7.cell? ⟨gb814,1,none⟩=some (.int .i64 a0_1):=(blk_cell BK814.out 1).trans rfl;have hcz8_2:w7.cell? ⟨gb814,2,none⟩=some (.string a0_2):=(blk_cell BK814.out 2).trans rfl;have hcz8_3:w7.cell? ⟨gb814,3,none⟩=some (.slice A0_3 l0_3.length c0_3):=(blk_cell BK814.out 3).trans rfl;have hfz8_0:=blk_frozen BK814.out 0;have hfz8_1:=blk_frozen BK814.out 1;have hfz8_2:=blk_frozen BK814.out 2;have hfz8_3:=blk_frozen BK814.out 3)|((with_reducible refine gate_callee (f:=62) rfl ?_);refine goesL_ (some 8) rfl rfl Try.func62 (by kernel_rfl) rfl #[.agg #[.int .i64 a0_0,.int .i64 a0_1,.string a0_2,.slice A0_3 l0_3.length c0_3]] rfl (by (try simp only [List.map_toArray,List.map_cons,List.map_nil]);first|done|rfl|(simp only [List.length_drop,List.length_take];rfl)) ?_;(with_reducible refine (spec_l2Flat.calls k a0_0 a0_1 a0_2 _ _ l0_3 t816 _ ?side1 ?side2 A4.out).mono ?_);(case side1=>exact gC (Kd.C_below HR0_3.out HB.out));(case side2=>exact HC0_3.out);rintro e w9 ⟨rfl,hb⟩;refine ⟨_,rfl,?_⟩;have n0_:=Aside0.mk (blk_below (g:=gb814) (o:=.cells #[.int .i64 a0_0,.int .i64 a0_1,.string a0_2,.slice A0_3 l0_3.length c0_3] 27 (0,0)) (gK BK814) hb);have n1_:=Aside0.mk (below_step (by repeat (first|exact gB HB|refine below_set ?_ GE814.out)) hb);clear BK814;clear HB;have BK814:=n0_;have HB:=n1_;clear n0_ n1_;(try clear hb);(try clear hb2);(try clear hk);(try clear hi)))
  go_ret2
  exact ⟨by first|rfl|(simp [errW_none,errW_some] <;> rfl)|(simp [*,errW_none,errW_some] <;> rfl),by repeat (first|exact gB HB|refine below_set ?_ GE814.out)⟩
 ·replace c3:=Bool.eq_false_iff.mpr c3
  subst c3
  have H1:(some ((⟨#[]⟩:ByteArray),false))=some (r1,r2):=by rw [if_neg (show ¬ (false=true) by decide)] at H;exact H
  clear H
  have H:=H1
  clear H1
  simp only [Option.some.injEq,Prod.mk.injEq] at H
  obtain ⟨rfl,rfl⟩:=H
  go_enter Try.func39,Try.ntmps39
  go_wp2_with (first|((with_reducible refine gate_dst (N:=1) rfl ?_);refine box_event ?hg (N:=1) ?hd (cs:=#[.int .i64 a0_0,.int .i64 a0_1,.string a0_2,.slice A0_3 l0_3.length c0_3]) (t:=27) ?hr ?_;(case hd=>rfl);(case hg=>rfl);(case hr=>first|(go_simp;done)|(go_simp;rfl));intro gb814 hg w10 hbox hb;have n0_:=Aside0.mk (below_step (gB HB) hb);have n1_:=Aside0.mk (hbox);have n2_:=Aside0.mk ((by rw [hg];exact (below_size (gB HB)):w.heap.size≤gb814));have n3_:=Aside0.mk ((by rw [hg];exact (below_size (gB HB)):w.heap.size≤gb814));clear HB;have HB:=n0_;have BK814:=n1_;have GW814:=n2_;have GE814:=n3_;clear n0_ n1_ n2_ n3_;clear hb hbox hg;have hcz11_0:w10.cell? ⟨gb814,0,none⟩=some (.int .i64 a0_0):=(blk_cell BK814.out 0).trans rfl;have hcz11_1:w10.cell? ⟨gb814,1,none⟩=some (.int .i64 a0_1):=(blk_cell BK814.out 1).trans rfl;have hcz11_2:w10.cell? ⟨gb814,2,none⟩=some (.string a0_2):=(blk_cell BK814.out 2).trans rfl;have hcz11_3:w10.cell? ⟨gb814,3,none⟩=some (.slice A0_3 l0_3.length c0_3):=(blk_cell BK814.out 3).trans rfl;have hfz11_0:=blk_frozen BK814.out 0;have hfz11_1:=blk_frozen BK814.out 1;have hfz11_2:=blk_frozen BK814.out 2;have hfz11_3:=blk_frozen BK814.out 3)|((with_reducible refine gate_callee (f:=28) rfl ?_);refine goesL_ (some 5) rfl rfl Try.func28 (by kernel_rfl) rfl #[.agg #[.int .i64 a0_0,.int .i64 a0_1,.string a0_2,.slice A0_3 l0_3.length c0_3]] rfl (by (try simp only [List.map_toArray,List.map_cons,List.map_nil]);first|done|rfl|(simp only [List.length_drop,List.length_take];rfl)) ?_;(with_reducible refine (spec_CanFlatten.calls k a0_0 a0_1 a0_2 _ _ l0_3 false _ ?side1 ?side2 A2.out).mono ?_);(case side1=>exact gC (Kd.C_below HR0_3.out HB.out));(case side2=>exact HC0_3.out);rintro e w12 ⟨rfl,hb⟩;refine ⟨_,rfl,?_⟩;have n0_:=Aside0.mk (blk_below (g:=gb814) (o:=.cells #[.int .i64 a0_0,.int .i64 a0_1,.string a0_2,.slice A0_3 l0_3.length c0_3] 27 (0,0)) (gK BK814) hb);have n1_:=Aside0.mk (below_step (by repeat (first|exact gB HB|refine below_set ?_ GE814.out)) hb);clear BK814;clear HB;have BK814:=n0_;have HB:=n1_;clear n0_ n1_;(try clear hb);(try clear hb2);(try clear hk);(try clear hi)))
  go_ret2
  exact ⟨by first|rfl|(simp [errW_none,errW_some] <;> rfl)|(simp [*,errW_none,errW_some] <;> rfl),by repeat (first|exact gB HB|refine below_set ?_ GE814.out)⟩
end Go.Proofs.Ytdhdfmmefghijaa.P
namespace Go.Proofs.Ytdhdfmmefghijaa.P
open Go.RowKit Go.Proofs.YtdhdfmmefghijaaW.PrintWords Go.Proofs.YtdhdfmmefghijaaW.PrintLast Go.Proofs.YtdhdfmmefghijaaW.PrintMore
attribute [local go_sem] max2_int min2_int max_two min_two max_three min_three max_four min_four
set_option linter.unusedVariables false
set_option linter.unusedSimpArgs false
mutual
def laws_FnFlatText.j0:Nat→ByteArray→Bool→ByteArray→Bool→Bool→Int→Int→ByteArray→List (SDoc)→Option (Bool)
 | 0,_,_,_,_,_,_,_,_,_=>none
 | k+1,x4,x5,x6,x7,x38,x824000,x824001,x824002,x824003=>if x38=true then (if x4.toList=x6.toList then (some (x5 == x7)) else (none)) else (if x824000=3 then (some (x4.toList == ([32]:List UInt8))) else (laws_FnFlatText.l0 k x4 x824002 0 x824000 x824001 x824002 x824003))
def laws_FnFlatText.l0:Nat→ByteArray→ByteArray→Int→Int→Int→ByteArray→List (SDoc)→Option (Bool)
 | 0,_,_,_,_,_,_,_=>none
 | k+1,x4,x8,x9,x824000,x824001,x824002,x824003=>if x9 < (x824003.length:Int) then (if 0≤x9 then ((impl_FlatText.f k ((rd_TDoc x824003 x9).f0) ((rd_TDoc x824003 x9).f1) ((rd_TDoc x824003 x9).f2) ((rd_TDoc x824003 x9).f3)).bind fun bt829=>(if bt829.2=true then (if x8.size+bt829.1.size≤9223372036854775807 then (laws_FnFlatText.l0 k x4 (x8++bt829.1) (wrap64 (x9+1)) x824000 x824001 x824002 x824003) else (none)) else (none))) else (none)) else (some (x8.toList == x4.toList))
end
def laws_FnFlatText.f (k:Nat) (l0:List Int):Option (Bool):=if (l0.length:Int) > 1048576 then (some true) else ((spec_DrawFlatText.f k l0).bind fun bt817=>((impl_FlatText.f k bt817.1 bt817.2.1 bt817.2.2.1 bt817.2.2.2).bind fun bt824=>((spec_FlatText.f k bt817.1 bt817.2.1 bt817.2.2.1 bt817.2.2.2).bind fun bt826=>(if bt824.1.toList=bt826.1.toList then (if (bt824.2 != bt826.2)=true then (laws_FnFlatText.j0 k bt824.1 bt824.2 bt826.1 bt826.2 true bt817.1 bt817.2.1 bt817.2.2.1 bt817.2.2.2) else (laws_FnFlatText.j0 k bt824.1 bt824.2 bt826.1 bt826.2 (!bt824.2) bt817.1 bt817.2.1 bt817.2.2.1 bt817.2.2.2)) else (laws_FnFlatText.j0 k bt824.1 bt824.2 bt826.1 bt826.2 true bt817.1 bt817.2.1 bt817.2.2.1 bt817.2.2.2)))))
set_option maxHeartbeats 8000000 in
set_option maxRecDepth 100000 in
theorem laws_FnFlatText.calls (k:Nat) (A0:Option Addr) (c0:Nat) (l0:List Int) (r:Bool) (w:World) (hr0:Kd.C (Kd.int .u8) w A0 l0.length l0) (hc0:l0.length≤c0) (h:laws_FnFlatText.f k l0=some r) :
  Calls Try.prog 11 #[.slice A0 l0.length c0] w fun e w'=>e=.returned (.bool r)∧Below w.heap.size w w':=by
 have hu27:=Try.underlying27
 have HR0:=Aside0.mk hr0
 have HC0:=Aside0.mk hc0
 clear hr0 hc0
 have HB:=Aside0.mk (Below.refl w.heap.size w)
 have H:(if (l0.length:Int) > 1048576 then (some true) else ((spec_DrawFlatText.f k l0).bind fun bt817=>((impl_FlatText.f k bt817.1 bt817.2.1 bt817.2.2.1 bt817.2.2.2).bind fun bt824=>((spec_FlatText.f k bt817.1 bt817.2.1 bt817.2.2.1 bt817.2.2.2).bind fun bt826=>(if bt824.1.toList=bt826.1.toList then (if (bt824.2 != bt826.2)=true then (laws_FnFlatText.j0 k bt824.1 bt824.2 bt826.1 bt826.2 true bt817.1 bt817.2.1 bt817.2.2.1 bt817.2.2.2) else (laws_FnFlatText.j0 k bt824.1 bt824.2 bt826.1 bt826.2 (!bt824.2) bt817.1 bt817.2.1 bt817.2.2.1 bt817.2.2.2)) else (laws_FnFlatText.j0 k bt824.1 bt824.2 bt826.1 bt826.2 true bt817.1 bt817.2.1 bt817.2.2.1 bt817.2.2.2))))))=some r:=h
 clear h
 by_cases c2:(l0.length:Int) > 1048576
 ·rw [if_pos c2] at H
  have c2b0:decide (1048576 < (l0.length:Int))=true:=decide_eq_true c2
  have c2b1:decide (1048576 < l0.length)=true:=decide_eq_true (by omega)
  clear c2
  obtain rfl:=Option.some.inj H
  go_enter Try.func11,Try.ntmps11
  go_wp2
  go_ret
  exact ⟨by first|rfl|(simp [errW_none,errW_some] <;> rfl)|(simp [*,errW_none,errW_some] <;> rfl),gB HB⟩
 ·rw [if_neg c2] at H
  have c2b0:decide (1048576 < (l0.length:Int))=false:=decide_eq_false c2
  have c2b1:decide (1048576 < l0.length)=false:=decide_eq_false (by omega)
  clear c2
  replace H:=Option.bind_eq_some_iff.mp H
  obtain ⟨⟨t817,t818,t819,t820⟩,A30,H⟩:=H
  replace H:((impl_FlatText.f k t817 t818 t819 t820).bind fun bt824=>((spec_FlatText.f k t817 t818 t819 t820).bind fun bt826=>(if bt824.1.toList=bt826.1.toList then (if (bt824.2 != bt826.2)=true then (laws_FnFlatText.j0 k bt824.1 bt824.2 bt826.1 bt826.2 true t817 t818 t819 t820) else (laws_FnFlatText.j0 k bt824.1 bt824.2 bt826.1 bt826.2 (!bt824.2) t817 t818 t819 t820)) else (laws_FnFlatText.j0 k bt824.1 bt824.2 bt826.1 bt826.2 true t817 t818 t819 t820))))=some r:=H
  have A3:=Aside0.mk A30
  clear A30
  replace H:=Option.bind_eq_some_iff.mp H
  obtain ⟨⟨t824,t825⟩,A40,H⟩:=H
  replace H:((spec_FlatText.f k t817 t818 t819 t820).bind fun bt826=>(if t824.toList=bt826.1.toList then (if (t825 != bt826.2)=true then (laws_FnFlatText.j0 k t824 t825 bt826.1 bt826.2 true t817 t818 t819 t820) else (laws_FnFlatText.j0 k t824 t825 bt826.1 bt826.2 (!t825) t817 t818 t819 t820)) else (laws_FnFlatText.j0 k t824 t825 bt826.1 bt826.2 true t817 t818 t819 t820)))=some r:=H
  have A4:=Aside0.mk A40
  clear A40
  replace H:=Option.bind_eq_some_iff.mp H
  obtain ⟨⟨t826,t827⟩,A50,H⟩:=H
  replace H:(if t824.toList=t826.toList then (if (t825 != t827)=true then (laws_FnFlatText.j0 k t824 t825 t826 t827 true t817 t818 t819 t820) else (laws_FnFlatText.j0 k t824 t825 t826 t827 (!t825) t817 t818 t819 t820)) else (laws_FnFlatText.j0 k t824 t825 t826 t827 true t817 t818 t819 t820))=some r:=H
  have A5:=Aside0.mk A50
  clear A50
  have HC6:=Aside0.mk H
  clear H
  go_enter Try.func11,Try.ntmps11
  go_upto_region 6 with (first|((with_reducible refine gate_callee (f:=37) rfl ?_);refine goesL_ (some 16) rfl rfl Try.func37 (by kernel_rfl) rfl #[.slice A0 l0.length c0] rfl (by (try simp only [List.map_toArray,List.map_cons,List.map_nil]);first|done|rfl|(simp only [List.length_drop,List.length_take];rfl)) ?_;(with_reducible refine (spec_DrawFlatText.calls k _ _ l0 t817 t818 t819 t820 _ ?side1 ?side2 A3.out).mono ?_);(case side1=>repeat (first|exact HR0.out|(with_reducible refine Kd.C_alloc ?_ _)|(with_reducible refine Kd.C_drewN ?_ _)|(with_reducible refine Kd.C_drew ?_)));(case side2=>exact HC0.out);rintro e w7 ⟨v821,rfl,ho0,hb⟩;refine ⟨_,rfl,?_⟩;have n0_:=Aside0.mk (Kd.N_lower (Kd.N_mono (ok':=fun k_=>True) ho0 (fun k_ hk_=>trivial)) (below_size (gB HB)));have n1_:=Aside0.mk (below_step (gB HB) hb);clear HB;have HO822:=n0_;have HB:=n1_;clear n0_ n1_;(try clear hb);(try clear hb2);(try clear hk);(try clear hi);(try clear ho0))|((with_reducible refine gate_dst (N:=3) rfl ?_);refine box_event ?hg (N:=3) ?hd (cs:=#[.int .i64 0,.int .i64 0,.string (⟨#[]⟩:ByteArray),.slice none 0 0]) (t:=27) ?hr ?_;(case hd=>rfl);(case hg=>rfl);(case hr=>first|(go_simp;done)|(go_simp;rfl));intro gb823 hg w8 hbox hb;have n0_:=Aside0.mk (Kd.N_below (Kd.N_elderB (gN HO822) gb823 (Nat.le_of_eq hg.symm)) hb);have n1_:=Aside0.mk (below_step (gB HB) hb);have n2_:=Aside0.mk (hbox);have n3_:=Aside0.mk ((by rw [hg];exact (below_size (gB HB)):w.heap.size≤gb823));have n4_:=Aside0.mk ((by rw [hg];exact (below_size (gB HB)):w.heap.size≤gb823));clear HO822;clear HB;have HO822:=n0_;have HB:=n1_;have BK823:=n2_;have GW823:=n3_;have GE823:=n4_;clear n0_ n1_ n2_ n3_ n4_;clear hb hbox hg;have hcz9_0:w8.cell? ⟨gb823,0,none⟩=some (.int .i64 0):=(blk_cell BK823.out 0).trans rfl;have hcz9_1:w8.cell? ⟨gb823,1,none⟩=some (.int .i64 0):=(blk_cell BK823.out 1).trans rfl;have hcz9_2:w8.cell? ⟨gb823,2,none⟩=some (.string (⟨#[]⟩:ByteArray)):=(blk_cell BK823.out 2).trans rfl;have hcz9_3:w8.cell? ⟨gb823,3,none⟩=some (.slice none 0 0):=(blk_cell BK823.out 3).trans rfl;have hfz9_0:=blk_frozen BK823.out 0;have hfz9_1:=blk_frozen BK823.out 1;have hfz9_2:=blk_frozen BK823.out 2;have hfz9_3:=blk_frozen BK823.out 3;obtain ⟨Ao10,co10,eo10⟩:=Kd.N_slice HO822.out;subst eo10)|((with_reducible refine gate_callee (f:=38) rfl ?_);refine goesL_ (some 19) rfl rfl Try.func38 (by kernel_rfl) rfl #[.agg #[.int .i64 t817,.int .i64 t818,.string t819,.slice Ao10 t820.length co10]] rfl (by (try simp only [List.map_toArray,List.map_cons,List.map_nil]);first|done|rfl|(simp only [List.length_drop,List.length_take];rfl)) ?_;(with_reducible refine (impl_FlatText.calls k t817 t818 t819 _ _ t820 t824 t825 _ ?side1 ?side2 A4.out).mono ?_);(case side1=>exact (Kd.N_reads' (e:=27) (base:=w.heap.size) (n:=t820.length) (c:=co10) (by (with_reducible repeat (first|apply Kd.N_alloc|apply Kd.N_drewN|apply Kd.N_drew));exact (Kd.N_mono (Kd.N_far (p:=⟨gb823,3,none⟩) (Kd.N_far (p:=⟨gb823,2,none⟩) (Kd.N_far (p:=⟨gb823,1,none⟩) (Kd.N_far (p:=⟨gb823,0,none⟩) (Kd.N_mono HO822.out (fun k_ hk=>(⟨hk,hk.2⟩:_∧k_ ≠ gb823))) (fun _ hk=>hk.2) (.int .i64 t817)) (fun _ hk=>hk.2) (.int .i64 t818)) (fun _ hk=>hk.2) (.string t819)) (fun _ hk=>hk.2) (.slice Ao10 t820.length co10)) (fun _ h_=>h_.1)))).2.2);(case side2=>exact (Kd.N_reads' HO822.out).2.1);rintro e w11 ⟨rfl,hb⟩;refine ⟨_,rfl,?_⟩;have n0_:=Aside0.mk (Kd.N_below (by (with_reducible repeat (first|apply Kd.N_alloc|apply Kd.N_drewN|apply Kd.N_drew));exact (Kd.N_mono (Kd.N_far (p:=⟨gb823,3,none⟩) (Kd.N_far (p:=⟨gb823,2,none⟩) (Kd.N_far (p:=⟨gb823,1,none⟩) (Kd.N_far (p:=⟨gb823,0,none⟩) (Kd.N_mono HO822.out (fun k_ hk=>(⟨hk,hk.2⟩:_∧k_ ≠ gb823))) (fun _ hk=>hk.2) (.int .i64 t817)) (fun _ hk=>hk.2) (.int .i64 t818)) (fun _ hk=>hk.2) (.string t819)) (fun _ hk=>hk.2) (.slice Ao10 t820.length co10)) (fun _ h_=>h_.1))) hb);have n1_:=Aside0.mk (blk_below (g:=gb823) (o:=.cells #[.int .i64 t817,.int .i64 t818,.string t819,.slice Ao10 t820.length co10] 27 (0,0)) (by (with_reducible repeat (first|refine blk_drewN ?_ _|refine blk_drew ?_|refine blk_alloc ?_ _));refine blk_put (cs:=#[.int .i64 t817,.int .i64 t818,.string t819,.slice none 0 0]) ?_ 3 _ rfl;(with_reducible repeat (first|refine blk_drewN ?_ _|refine blk_drew ?_|refine blk_alloc ?_ _));refine blk_put (cs:=#[.int .i64 t817,.int .i64 t818,.string (⟨#[]⟩:ByteArray),.slice none 0 0]) ?_ 2 _ rfl;(with_reducible repeat (first|refine blk_drewN ?_ _|refine blk_drew ?_|refine blk_alloc ?_ _));refine blk_put (cs:=#[.int .i64 t817,.int .i64 0,.string (⟨#[]⟩:ByteArray),.slice none 0 0]) ?_ 1 _ rfl;(with_reducible repeat (first|refine blk_drewN ?_ _|refine blk_drew ?_|refine blk_alloc ?_ _));refine blk_put (cs:=#[.int .i64 0,.int .i64 0,.string (⟨#[]⟩:ByteArray),.slice none 0 0]) ?_ 0 _ rfl;(with_reducible repeat (first|refine blk_drewN ?_ _|refine blk_drew ?_|refine blk_alloc ?_ _));exact BK823.out) hb);have n2_:=Aside0.mk (below_step (by repeat (first|exact gB HB|refine below_set ?_ GE823.out)) hb);clear HO822;clear BK823;clear HB;have HO822:=n0_;have BK823:=n1_;have HB:=n2_;clear n0_ n1_ n2_;(try clear hb);(try clear hb2);(try clear hk);(try clear hi);have hcz12_0:w11.cell? ⟨gb823,0,none⟩=some (.int .i64 t817):=(blk_cell BK823.out 0).trans rfl;have hcz12_1:w11.cell? ⟨gb823,1,none⟩=some (.int .i64 t818):=(blk_cell BK823.out 1).trans rfl;have hcz12_2:w11.cell? ⟨gb823,2,none⟩=some (.string t819):=(blk_cell BK823.out 2).trans rfl;have hcz12_3:w11.cell? ⟨gb823,3,none⟩=some (.slice Ao10 t820.length co10):=(blk_cell BK823.out 3).trans rfl;have hfz12_0:=blk_frozen BK823.out 0;have hfz12_1:=blk_frozen BK823.out 1;have hfz12_2:=blk_frozen BK823.out 2;have hfz12_3:=blk_frozen BK823.out 3)|((with_reducible refine gate_callee (f:=39) rfl ?_);refine goesL_ (some 24) rfl rfl Try.func39 (by kernel_rfl) rfl #[.agg #[.int .i64 t817,.int .i64 t818,.string t819,.slice Ao10 t820.length co10]] rfl (by (try simp only [List.map_toArray,List.map_cons,List.map_nil]);first|done|rfl|(simp only [List.length_drop,List.length_take];rfl)) ?_;(with_reducible refine (spec_FlatText.calls k t817 t818 t819 _ _ t820 t826 t827 _ ?side1 ?side2 A5.out).mono ?_);(case side1=>exact gC ((Kd.N_reads' HO822.out).2.2));(case side2=>exact (Kd.N_reads' HO822.out).2.1);rintro e w13 ⟨rfl,hb⟩;refine ⟨_,rfl,?_⟩;have n0_:=Aside0.mk (Kd.N_below (gN HO822) hb);have n1_:=Aside0.mk (blk_below (g:=gb823) (o:=.cells #[.int .i64 t817,.int .i64 t818,.string t819,.slice Ao10 t820.length co10] 27 (0,0)) (gK BK823) hb);have n2_:=Aside0.mk (below_step (by repeat (first|exact gB HB|refine below_set ?_ GE823.out)) hb);clear HO822;clear BK823;clear HB;have HO822:=n0_;have BK823:=n1_;have HB:=n2_;clear n0_ n1_ n2_;(try clear hb);(try clear hb2);(try clear hk);(try clear hi)))
  (try simp only [Act.put,List.setIfInBounds_toArray,List.set_cons_zero,List.set_cons_succ])
  go_cut [38] (fun v38 wc=>∃ (kq:Nat) (x38_5:Bool),v38=.bool x38_5∧Aside0 (laws_FnFlatText.j0 kq t824 t825 t826 t827 x38_5 t817 t818 t819 t820=some r)∧Aside0 (kq≤k)∧Aside0 (Kd.N k27 27 wc w.heap.size (fun k_=>k_ ≠ gb823) (.slice Ao10 t820.length co10) t820)∧Aside0 (wc.heap[gb823]?=some (.cells #[.int .i64 t817,.int .i64 t818,.string t819,(.slice Ao10 t820.length co10)] 27 (0,0)))∧Aside0 (Below w.heap.size w wc))
  case first =>
   have H:=HC6.out
   clear HC6
   by_cases c14:t824.toList=t826.toList
   ·rw [if_pos c14] at H
    have c14b0:(t824.toList == t826.toList)=true:=beq_iff_eq.mpr c14
    have c14b1:(t824.toList != t826.toList)=false:=bne_eq_false_iff_eq.mpr c14
    clear c14
    (first|rw [c14b0]|(simp only [i64_w,i32_w];rw [c14b0])|skip)
    by_cases c15:(t825 != t827)=true
    ·rw [if_pos c15] at H
     have c15b0:(t825 != t827)=true:=c15
     (try (have c15b1:decide (t825=t827)=false:=by simpa using c15))
     (try (have c15b2:(t825 == t827)=false:=by simpa using c15))
     (try (have c15b3:¬ (t825=t827):=by simpa using c15))
     clear c15
     have H':=Aside0.mk H
     clear H
     go_wp2
     go_meet
     case rel=>exact ⟨_,(true),(by first|rfl|(simp;done)|(simp [*];done)),H',⟨by first|omega|exact Nat.le_refl _⟩,⟨by (with_reducible repeat (first|apply Kd.N_alloc|apply Kd.N_drewN|apply Kd.N_drew));exact Kd.N_mono HO822.out (fun _ hk=>hk.2)⟩,⟨gK BK823⟩,⟨by repeat (first|exact gB HB|refine below_set ?_ GE823.out)⟩⟩
    ·rw [if_neg c15] at H
     have c15b0:(t825 != t827)=false:=by simpa using c15
     (try (have c15b1:decide (t825=t827)=true:=by simpa using c15))
     (try (have c15b2:(t825 == t827)=true:=by simpa using c15))
     clear c15
     have H':=Aside0.mk H
     clear H
     go_wp2
     go_meet
     case rel=>exact ⟨_,(!t825),(by first|rfl|(simp;done)|(simp [*];done)),H',⟨by first|omega|exact Nat.le_refl _⟩,⟨by (with_reducible repeat (first|apply Kd.N_alloc|apply Kd.N_drewN|apply Kd.N_drew));exact Kd.N_mono HO822.out (fun _ hk=>hk.2)⟩,⟨gK BK823⟩,⟨by repeat (first|exact gB HB|refine below_set ?_ GE823.out)⟩⟩
   ·rw [if_neg c14] at H
    have c14b0:(t824.toList == t826.toList)=false:=beq_eq_false_iff_ne.mpr c14
    have c14b1:(t824.toList != t826.toList)=true:=bne_iff_ne.mpr c14
    (first|rw [c14b0]|(simp only [i64_w,i32_w];rw [c14b0])|skip)
    have H':=Aside0.mk H
    clear H
    go_wp2
    go_meet
    case rel=>exact ⟨_,(true),(by first|rfl|(simp;done)|(simp [*];done)),H',⟨by first|omega|exact Nat.le_refl _⟩,⟨by (with_reducible repeat (first|apply Kd.N_alloc|apply Kd.N_drewN|apply Kd.N_drew));exact Kd.N_mono HO822.out (fun _ hk=>hk.2)⟩,⟨gK BK823⟩,⟨by repeat (first|exact gB HB|refine below_set ?_ GE823.out)⟩⟩
  case rest =>
   clear HC6
   try clear c1 c2 c2b0 c2b1 p2 c3 c11 c14 c14b0 c14b1 c15 c15b0 c15b1 c15b2 hcz12_0 hcz12_1 hcz12_2 hcz12_3 hcz9_0 hcz9_1 hcz9_2 hcz9_3 hfz12_0 hfz12_1 hfz12_2 hfz12_3 hfz9_0 hfz9_1 hfz9_2 hfz9_3
   obtain ⟨kq,x38_5,rfl,HA,HJ5,HO_824003,BK823,HB⟩:=hcut
   cases kq with
   | zero=>exact absurd HA.out (by simp [laws_FnFlatText.j0])
   | succ kj5 =>
    have H:=HA.out
    clear HA
    simp only [laws_FnFlatText.j0] at H
    by_cases c16:x38_5=true
    ·subst c16
     have H1:(if t824.toList=t826.toList then (some (t825 == t827)) else (none))=some r:=by rw [if_pos rfl] at H;exact H
     clear H
     have H:=H1
     clear H1
     by_cases c17:t824.toList=t826.toList
     ·rw [if_pos c17] at H
      have c17b0:(t824.toList == t826.toList)=true:=beq_iff_eq.mpr c17
      have c17b1:(t824.toList != t826.toList)=false:=bne_eq_false_iff_eq.mpr c17
      clear c17
      obtain rfl:=Option.some.inj H
      go_wp2
      go_ret
      exact ⟨by first|rfl|(simp [errW_none,errW_some] <;> rfl)|(simp [*,errW_none,errW_some] <;> rfl),by repeat (first|exact gB HB|refine below_set ?_ GE823.out)⟩
     ·rw [if_neg c17] at H
      exact absurd H (by simp)
    ·replace c16:=Bool.eq_false_iff.mpr c16
     subst c16
     have H1:(if t817=3 then (some (t824.toList == ([32]:List UInt8))) else (laws_FnFlatText.l0 kj5 t824 t819 0 t817 t818 t819 t820))=some r:=by rw [if_neg (show ¬ (false=true) by decide)] at H;exact H
     clear H
     have H:=H1
     clear H1
     by_cases c18:t817=3
     ·rw [if_pos c18] at H
      have c18b0:(t817 == 3)=true:=beq_iff_eq.mpr c18
      have c18b1:(t817 != 3)=false:=bne_eq_false_iff_eq.mpr c18
      clear c18
      obtain rfl:=Option.some.inj H
      have hcz19_0:wc.cell? ⟨gb823,0,none⟩=some (.int .i64 t817):=(blk_cell BK823.out 0).trans rfl
      have hcz19_1:wc.cell? ⟨gb823,1,none⟩=some (.int .i64 t818):=(blk_cell BK823.out 1).trans rfl
      have hcz19_2:wc.cell? ⟨gb823,2,none⟩=some (.string t819):=(blk_cell BK823.out 2).trans rfl
      have hcz19_3:wc.cell? ⟨gb823,3,none⟩=some (.slice Ao10 t820.length co10):=(blk_cell BK823.out 3).trans rfl
      have hfz19_0:=blk_frozen BK823.out 0
      have hfz19_1:=blk_frozen BK823.out 1
      have hfz19_2:=blk_frozen BK823.out 2
      have hfz19_3:=blk_frozen BK823.out 3
      go_wp2
      go_ret
      exact ⟨by first|rfl|(simp [errW_none,errW_some] <;> rfl)|(simp [*,errW_none,errW_some] <;> rfl),by repeat (first|exact gB HB|refine below_set ?_ GE823.out)⟩
     ·rw [if_neg c18] at H
      have c18b0:(t817 == 3)=false:=beq_eq_false_iff_ne.mpr c18
      have c18b1:(t817 != 3)=true:=bne_iff_ne.mpr c18
      have H':=Aside0.mk H
      clear H
      have hcz20_0:wc.cell? ⟨gb823,0,none⟩=some (.int .i64 t817):=(blk_cell BK823.out 0).trans rfl
      have hcz20_1:wc.cell? ⟨gb823,1,none⟩=some (.int .i64 t818):=(blk_cell BK823.out 1).trans rfl
      have hcz20_2:wc.cell? ⟨gb823,2,none⟩=some (.string t819):=(blk_cell BK823.out 2).trans rfl
      have hcz20_3:wc.cell? ⟨gb823,3,none⟩=some (.slice Ao10 t820.length co10):=(blk_cell BK823.out 3).trans rfl
      have hfz20_0:=blk_frozen BK823.out 0
      have hfz20_1:=blk_frozen BK823.out 1
      have hfz20_2:=blk_frozen BK823.out 2
      have hfz20_3:=blk_frozen BK823.out 3
      go_wp2
      go_loopg [8,9] kj5 (fun kq v8 v9 w'=>∃ (x8_2:ByteArray) (x9_2:Int),v8=.string x8_2∧v9=.int .i64 x9_2∧Aside0 (laws_FnFlatText.l0 kq t824 x8_2 x9_2 t817 t818 t819 t820=some r)∧Aside0 (kq≤kj5)∧Aside0 (Kd.N k27 27 w' w.heap.size (fun k_=>k_ ≠ gb823) (.slice Ao10 t820.length co10) t820)∧Aside0 (w'.heap[gb823]?=some (.cells #[.int .i64 t817,.int .i64 t818,.string t819,(.slice Ao10 t820.length co10)] 27 (0,0)))∧Aside0 (Below w.heap.size w w'))
      case atStart=>exact ⟨(t819),(0),(by first|rfl|(simp;done)|(simp [*];done)),(by first|rfl|(simp;done)|(simp [*];done)),H',⟨Nat.le_refl _⟩,⟨gN HO_824003⟩,⟨gK BK823⟩,⟨by repeat (first|exact gB HB|refine below_set ?_ GE823.out)⟩⟩
      case round =>
       clear H'
       try clear c1 c2 c2b0 c2b1 p2 c3 c11 c14 c14b0 c14b1 c15 c15b0 c15b1 c15b2 c16 c17 c17b0 c17b1 c18 c18b0 c18b1 hcz12_0 hcz12_1 hcz12_2 hcz12_3 hcz19_0 hcz19_1 hcz19_2 hcz19_3 hcz20_0 hcz20_1 hcz20_2 hcz20_3 hcz9_0 hcz9_1 hcz9_2 hcz9_3 hfz12_0 hfz12_1 hfz12_2 hfz12_3 hfz19_0 hfz19_1 hfz19_2 hfz19_3 hfz20_0 hfz20_1 hfz20_2 hfz20_3 hfz9_0 hfz9_1 hfz9_2 hfz9_3 p2
       (try clear HO_824003);(try clear BK823);(try clear HB)
       obtain ⟨x8_2,x9_2,rfl,rfl,HA,HK2,HO_824003,BK823,HB⟩:=hrel
       cases gk with
       | zero=>exact absurd HA.out (by simp [laws_FnFlatText.l0])
       | succ k2 =>
        have H:=HA.out
        clear HA
        simp only [laws_FnFlatText.l0] at H
        by_cases c21:x9_2 < (t820.length:Int)
        ·rw [if_pos c21] at H
         have c21b0:decide (x9_2 < (t820.length:Int))=true:=decide_eq_true c21
         clear c21
         by_cases c22:0≤x9_2
         ·rw [if_pos c22] at H
          have c22b0:decide (0≤x9_2)=true:=decide_eq_true c22
          clear c22
          replace H:=Option.bind_eq_some_iff.mp H
          obtain ⟨⟨t829,t830⟩,A230,H⟩:=H
          replace H:(if t830=true then (if x8_2.size+t829.size≤9223372036854775807 then (laws_FnFlatText.l0 k2 t824 (x8_2++t829) (wrap64 (x9_2+1)) t817 t818 t819 t820) else (none)) else (none))=some r:=H
          have A23:=Aside0.mk A230
          clear A230
          by_cases c24:t830=true
          ·subst c24
           have H1:(if x8_2.size+t829.size≤9223372036854775807 then (laws_FnFlatText.l0 k2 t824 (x8_2++t829) (wrap64 (x9_2+1)) t817 t818 t819 t820) else (none))=some r:=by rw [if_pos rfl] at H;exact H
           clear H
           have H:=H1
           clear H1
           by_cases c25:x8_2.size+t829.size≤9223372036854775807
           ·rw [if_pos c25] at H
            have c25b0:=eq_true c25
            have c25b1:decide (x8_2.size+t829.size≤9223372036854775807)=true:=decide_eq_true c25
            try have c25b2:(9223372036854775807 < x8_2.size+t829.size)=False:=eq_false (Nat.not_lt.2 c25)
            have H':=Aside0.mk H
            clear H
            have hcz26_0:wr.cell? ⟨gb823,0,none⟩=some (.int .i64 t817):=(blk_cell BK823.out 0).trans rfl
            have hcz26_1:wr.cell? ⟨gb823,1,none⟩=some (.int .i64 t818):=(blk_cell BK823.out 1).trans rfl
            have hcz26_2:wr.cell? ⟨gb823,2,none⟩=some (.string t819):=(blk_cell BK823.out 2).trans rfl
            have hcz26_3:wr.cell? ⟨gb823,3,none⟩=some (.slice Ao10 t820.length co10):=(blk_cell BK823.out 3).trans rfl
            have hfz26_0:=blk_frozen BK823.out 0
            have hfz26_1:=blk_frozen BK823.out 1
            have hfz26_2:=blk_frozen BK823.out 2
            have hfz26_3:=blk_frozen BK823.out 3
            have p828:0≤(x9_2:Int):=of_decide_eq_true (by first|(with_reducible assumption)|assumption)
            have q828:x9_2 < (t820.length:Int):=of_decide_eq_true (by first|(with_reducible assumption)|assumption)
            obtain ⟨ad828,A828_3,c828_3,e828,hx828_0,hx828_1,hx828_2,hx828_3,hl828_3,hi828_3⟩:=at_TDoc (Kd.N_reads' HO_824003.out).2.2 x9_2 p828 q828
            cases e828
            obtain ⟨ce828,hce828,hMe828,hcc828⟩:=Kd.N_get HO_824003.out zDoc x9_2 p828 (by first|exact q828|exact of_decide_eq_true (by first|(with_reducible assumption)|assumption)|(have e_:=(Kd.N_reads' HO_824003.out).1;omega))
            obtain ⟨ua828_3,uc828_3,rfl,ul828_3,ge828_3⟩:=k27_openF hMe828
            have hv828_3:=hcc828 3 _ rfl
            rw [add_field _ _ 3 (by omega)] at hv828_3
            replace hv828_3:=Option.some.inj (hv828_3.symm.trans hx828_3)
            injection hv828_3 with hva_ hvn_ hvc_
            rw [hva_] at ge828_3
            rw [hvc_] at ul828_3
            have HL828_3:=Aside0.mk (show Kd.V k27 27 _ w.heap.size _ _ ((rd_TDoc t820 x9_2).f3) from Kd.V_mk ul828_3 ge828_3)
            clear hva_ hvn_ hvc_ ge828_3 ul828_3
            clear hcc828 hce828
            have HR828_3:=Aside0.mk hi828_3
            have HC828_3:=Aside0.mk hl828_3
            clear hi828_3 hl828_3
            replace p828:=eq_true p828
            replace q828:=eq_true q828
            go_wp2_with (first|((with_reducible refine gate_callee (f:=38) rfl ?_);refine goesL_ (some 67) rfl rfl Try.func38 (by kernel_rfl) rfl #[.agg #[.int .i64 ((rd_TDoc t820 x9_2).f0),.int .i64 ((rd_TDoc t820 x9_2).f1),.string ((rd_TDoc t820 x9_2).f2),.slice A828_3 ((rd_TDoc t820 x9_2).f3).length c828_3]] rfl (by (try simp only [List.map_toArray,List.map_cons,List.map_nil]);first|done|rfl|(simp only [List.length_drop,List.length_take];rfl)) ?_;(with_reducible refine (impl_FlatText.calls k2 ((rd_TDoc t820 x9_2).f0) ((rd_TDoc t820 x9_2).f1) ((rd_TDoc t820 x9_2).f2) _ _ ((rd_TDoc t820 x9_2).f3) t829 true _ ?side1 ?side2 A23.out).mono ?_);(case side1=>exact gC (by repeat (first|(with_reducible exact HR828_3.out)|(with_reducible refine Kd.C_alloc ?_ _)|(with_reducible refine Kd.C_drewN ?_ _)|(with_reducible refine Kd.C_drew ?_)|exact HR828_3.out)));(case side2=>exact HC828_3.out);rintro e w27 ⟨rfl,hb⟩;refine ⟨_,rfl,?_⟩;have n0_:=Aside0.mk (Kd.N_below (gN HO_824003) hb);have n1_:=Aside0.mk (Kd.V_below (gV HL828_3) hb);have n2_:=Aside0.mk (blk_below (g:=gb823) (o:=.cells #[.int .i64 t817,.int .i64 t818,.string t819,.slice (some ad828) t820.length co10] 27 (0,0)) (gK BK823) hb);have n3_:=Aside0.mk (Kd.C_below (by repeat (first|(with_reducible exact HR828_3.out)|(with_reducible refine Kd.C_alloc ?_ _)|(with_reducible refine Kd.C_drewN ?_ _)|(with_reducible refine Kd.C_drew ?_)|exact HR828_3.out)) hb);have n4_:=Aside0.mk (below_step (by repeat (first|exact gB HB|refine below_set ?_ GE823.out)) hb);clear HO_824003;clear HL828_3;clear BK823;clear HR828_3;clear HB;have HO_824003:=n0_;have HL828_3:=n1_;have BK823:=n2_;have HR828_3:=n3_;have HB:=n4_;clear n0_ n1_ n2_ n3_ n4_;(try clear hb);(try clear hb2);(try clear hk);(try clear hi)))
            go_roundg k2
            case measure=>have:=HJ5.out;have:=HK2.out;omega
            case rel=>exact ⟨(x8_2++t829),(wrap64 (x9_2+1)),(by first|rfl|(simp;done)|(simp [*];done)),(by first|rfl|(simp;done)|(simp [*];done)),H',⟨by have:=HJ5.out;have:=HK2.out;omega⟩,⟨gN HO_824003⟩,⟨gK BK823⟩,⟨by repeat (first|exact gB HB|refine below_set ?_ GE823.out)⟩⟩
           ·rw [if_neg c25] at H
            exact absurd H (by simp)
          ·replace c24:=Bool.eq_false_iff.mpr c24
           subst c24
           have H1:(none)=some r:=by rw [if_neg (show ¬ (false=true) by decide)] at H;exact H
           clear H
           have H:=H1
           clear H1
           exact absurd H (by simp)
         ·rw [if_neg c22] at H
          exact absurd H (by simp)
        ·rw [if_neg c21] at H
         have c21b0:decide (x9_2 < (t820.length:Int))=false:=decide_eq_false c21
         clear c21
         obtain rfl:=Option.some.inj H
         have hcz28_0:wr.cell? ⟨gb823,0,none⟩=some (.int .i64 t817):=(blk_cell BK823.out 0).trans rfl
         have hcz28_1:wr.cell? ⟨gb823,1,none⟩=some (.int .i64 t818):=(blk_cell BK823.out 1).trans rfl
         have hcz28_2:wr.cell? ⟨gb823,2,none⟩=some (.string t819):=(blk_cell BK823.out 2).trans rfl
         have hcz28_3:wr.cell? ⟨gb823,3,none⟩=some (.slice Ao10 t820.length co10):=(blk_cell BK823.out 3).trans rfl
         have hfz28_0:=blk_frozen BK823.out 0
         have hfz28_1:=blk_frozen BK823.out 1
         have hfz28_2:=blk_frozen BK823.out 2
         have hfz28_3:=blk_frozen BK823.out 3
         go_wp2
         go_ret
         exact ⟨by first|rfl|(simp [errW_none,errW_some] <;> rfl)|(simp [*,errW_none,errW_some] <;> rfl),by repeat (first|exact gB HB|refine below_set ?_ GE823.out)⟩
def laws_FnFlatText.Pure:Prop:=∀ (l0:List Int),l0.length≤maxLen→l0.length * 1≤140737488351232→(∀ x ∈ l0,(Lit.int .u8 x).wf=true)→∃ k,laws_FnFlatText.f k l0=some true
theorem laws_FnFlatText.walk (P:laws_FnFlatText.Pure) (a0:Option Addr) (len0 cap0:Nat) (z0:List Int) (w:World) (w0:(a0=none∧len0=0∧cap0=0∧z0=[]) ∨ ∃ x,a0=some x∧len0≤cap0∧cap0≤maxLen∧z0.length=cap0∧(∀ i,i < z0.length→w.cell? (x.add i)=some (.int .u8 (z0.getD i 0)))∧∀ n ∈ z0,(Lit.int .u8 n).wf=true) (y0:len0 * 1≤140737488351232) :
  Calls Try.prog 11 #[.slice a0 len0 cap0] w fun e w'=>e=.returned (.bool true)∧Below w.heap.size w w':=by
 obtain ⟨l0,rfl,hr0,hm0,hw0,hc0⟩:=ReadsInt.ofRowC w0
 obtain ⟨k,h⟩:=P l0 hm0 y0 hw0
 refine (laws_FnFlatText.calls k _ _ l0 true w (Kd.C_of_reads (d:=(0:Int)) (h1:=fun _=>rfl) hr0) hc0 h).mono ?_
 rintro e w' ⟨rfl,hd⟩
 exact ⟨rfl,hd⟩
end Go.Proofs.Ytdhdfmmefghijaa.P
namespace Go.Proofs.Ytdhdfmmefghijaa.Pure
open Go.RowKit Go.Proofs.Ytdhdfmmefghijaa.P Go.Proofs.YtdhdfmmefghijaaW.PrintWords Go.Proofs.YtdhdfmmefghijaaW.PrintLast Go.Proofs.YtdhdfmmefghijaaW.PrintMore
set_option linter.unusedVariables false
set_option linter.unusedSimpArgs false
mutual
def flatB : SDoc → ByteArray
  | ⟨o, _, t, ks⟩ => if o = 3 then ⟨#[32]⟩ else flatL t ks
def flatL : ByteArray → List SDoc → ByteArray
  | acc, [] => acc
  | acc, k :: ks => flatL (acc ++ flatB k) ks
end
theorem flatL_size (ks : List SDoc) : (∀ k, k ∈ ks → (flatB k).size ≤ msz k) → ∀ acc : ByteArray, (flatL acc ks).size ≤ acc.size + mszL ks := by
  induction ks with
  | nil => intro _ acc; simp [flatL, mszL]
  | cons y l ih =>
    intro h acc
    have h1 := h y List.mem_cons_self
    have h2 := ih (fun k hk => h k (List.mem_cons_of_mem _ hk)) (acc ++ flatB y)
    rw [ByteArray.size_append] at h2
    simp only [flatL, mszL]
    omega
theorem flatB_size : ∀ d : SDoc, (flatB d).size ≤ msz d := by
  intro d
  induction d using SDoc.ind with
  | h o n t ks ih =>
    have := flatL_size ks ih t
    simp only [flatB, msz]
    split
    · show 1 ≤ _
      omega
    · omega
theorem specFlat_loop (o n : Int) (t : ByteArray) (suf : List SDoc) : ∀ (pre : List SDoc) (acc : ByteArray),
    (∀ y, y ∈ suf → Ev (fun k => spec_l2Flat.f k y.f0 y.f1 y.f2 y.f3) (flatB y)) → acc.size + mszL suf ≤ 1099511627776 → pre.length + suf.length ≤ 1099511627776 →
    Ev (fun k => spec_l2Flat.l0 k acc (pre.length : Int) o n t (pre ++ suf)) (flatL acc suf) := by
  induction suf with
  | nil =>
    intro pre acc _ hs hm
    refine Ev.step (fun k => by rw [spec_l2Flat.l0]) ?_
    simp only [List.append_nil, Int.lt_irrefl, if_false, flatL]
    exact Ev.now _
  | cons y suf ih =>
    intro pre acc hy hs hm
    simp only [List.length_cons, mszL] at hm hs
    have hz := flatB_size y
    refine Ev.step (fun k => by rw [spec_l2Flat.l0]) ?_
    have c1 : (pre.length : Int) < ((pre ++ y :: suf).length : Int) := by simp; omega
    have c2 : (0 : Int) ≤ (pre.length : Int) := by omega
    simp only [if_pos c1, if_pos c2, rdD]
    refine Ev.bind (hy y List.mem_cons_self) ?_
    simp only [if_pos (show acc.size + (flatB y).size ≤ 9223372036854775807 by omega)]
    rw [w64 (by omega) (by omega), flatL]
    have := ih (pre ++ [y]) (acc ++ flatB y) (fun z hz => hy z (List.mem_cons_of_mem _ hz)) (by rw [ByteArray.size_append]; omega) (by simp; omega)
    rw [List.append_assoc, show ((pre ++ [y]).length : Int) = (pre.length : Int) + 1 by simp] at this
    exact this
theorem specFlat_ev : ∀ (d : SDoc), msz d ≤ 1099511627776 → Ev (fun k => spec_l2Flat.f k d.f0 d.f1 d.f2 d.f3) (flatB d) := by
  intro d
  induction d using SDoc.ind with
  | h o n t ks ih =>
    intro hd
    simp only [msz] at hd
    have hl := mszL_len ks
    refine Ev.step (fun k => by rw [spec_l2Flat.f]) ?_
    rw [flatB]
    by_cases c : o = 3
    · simp only [if_pos c]; exact Ev.now _
    · simp only [if_neg c]
      exact specFlat_loop o n t ks [] t (fun y hy => ih y hy (by have := mszL_mem hy; omega)) (by omega) (by simp; omega)
theorem implFlat_loop (suf : List SDoc) : ∀ (pre : List SDoc) (acc : ByteArray),
    (∀ y, y ∈ suf → Ev (fun k => impl_flat.f k y.f0 y.f1 y.f2 y.f3) (flatB y)) → acc.size + mszL suf ≤ 1099511627776 → pre.length + suf.length ≤ 1099511627776 →
    Ev (fun k => impl_flat.l0 k acc (pre ++ suf) ((pre ++ suf).length : Int) (pre.length : Int)) (flatL acc suf) := by
  induction suf with
  | nil =>
    intro pre acc _ hs hm
    refine Ev.step (fun k => by rw [impl_flat.l0]) ?_
    simp only [List.append_nil, Int.lt_irrefl, if_false, flatL]
    exact Ev.now _
  | cons y suf ih =>
    intro pre acc hy hs hm
    simp only [List.length_cons, mszL] at hm hs
    have hz := flatB_size y
    refine Ev.step (fun k => by rw [impl_flat.l0]) ?_
    have c1 : (pre.length : Int) < ((pre ++ y :: suf).length : Int) := by simp; omega
    have c2 : (0 : Int) ≤ (pre.length : Int) := by omega
    simp only [if_pos c1, if_pos c2, rdD]
    refine Ev.bind (hy y List.mem_cons_self) ?_
    simp only [if_pos (show acc.size + (flatB y).size ≤ 9223372036854775807 by omega)]
    rw [w64 (by omega) (by omega), flatL]
    have := ih (pre ++ [y]) (acc ++ flatB y) (fun z hz => hy z (List.mem_cons_of_mem _ hz)) (by rw [ByteArray.size_append]; omega) (by simp; omega)
    rw [List.append_assoc, show ((pre ++ [y]).length : Int) = (pre.length : Int) + 1 by simp] at this
    exact this
theorem implFlat_ev : ∀ (d : SDoc) (deep : Nat), wf d deep = true → msz d ≤ 1099511627776 → Ev (fun k => impl_flat.f k d.f0 d.f1 d.f2 d.f3) (flatB d) := by
  intro d
  induction d using SDoc.ind with
  | h o n t ks ih =>
    intro deep hw hd
    simp only [msz] at hd
    have hl := mszL_len ks
    obtain ⟨_, _, hk, _, _, _, _, ht⟩ := wf_node hw
    refine Ev.step (fun k => by rw [impl_flat.f]) ?_
    rw [flatB]
    refine Ev.iff (fun c => ?_) (fun c => ?_)
    · have c : o = 2 := c
      subst c
      have : ks = [] := List.length_eq_zero_iff.1 (by have : docKids 2 = 0 := rfl; omega)
      subst this
      exact Ev.now _
    · have c : o ≠ 2 := c
      refine Ev.iff (fun c3 => ?_) (fun c3 => ?_)
      · have c3 : o = 3 := c3
        rw [if_pos c3]; exact Ev.now _
      · have c3 : ¬ o = 3 := c3
        rw [if_neg c3, ht c]
        exact implFlat_loop ks [] ⟨#[]⟩ (fun y hy => ih y hy (deep - 1) (wf_kids hw y hy) (by have := mszL_mem hy; omega)) (by show 0 + _ ≤ _; omega) (by simp; omega)
def flatT (d : SDoc) : ByteArray × Bool := if canF d = true then (flatB d, true) else (⟨#[]⟩, false)
theorem specFlatT_ev (d : SDoc) (hd : msz d ≤ 1099511627776) : Ev (fun k => spec_FlatText.f k d.f0 d.f1 d.f2 d.f3) (flatT d) := by
  refine Ev.congr (fun k => by rw [spec_FlatText.f]) ?_
  refine Ev.bind (specCan_ev d hd) ?_
  unfold flatT
  by_cases c : canF d = true
  · simp only [if_pos c]
    refine Ev.bind (specFlat_ev d hd) ?_
    exact Ev.now _
  · simp only [if_neg c]; exact Ev.now _
theorem implFlatT_ev (d : SDoc) (hd : msz d ≤ 1099511627776) : Ev (fun k => impl_FlatText.f k d.f0 d.f1 d.f2 d.f3) (flatT d) := by
  refine Ev.congr (fun k => by rw [impl_FlatText.f]) ?_
  refine Ev.bind (implCan_ev d hd) ?_
  unfold flatT
  by_cases c : canF d = true
  · simp only [if_pos c]
    have hv : docV d = true := by
      rw [canF, Bool.and_eq_true] at c
      exact c.1
    refine Ev.bind (implFlat_ev d 40 (docV_wf hv) hd) ?_
    exact Ev.now _
  · simp only [if_neg c]; exact Ev.now _
end Go.Proofs.Ytdhdfmmefghijaa.Pure
namespace Go.Proofs.Ytdhdfmmefghijaa.Pure
open Go.RowKit Go.Proofs.Ytdhdfmmefghijaa.P Go.Proofs.YtdhdfmmefghijaaW.PrintWords Go.Proofs.YtdhdfmmefghijaaW.PrintLast Go.Proofs.YtdhdfmmefghijaaW.PrintMore
set_option linter.unusedVariables false
set_option linter.unusedSimpArgs false
theorem flt_loop (x4 : ByteArray) (o n : Int) (t : ByteArray) (suf : List SDoc) : ∀ (pre : List SDoc) (acc : ByteArray), (∀ y, y ∈ suf → canF y = true) → acc.size + mszL suf ≤ 1099511627776 → pre.length + suf.length ≤ 1099511627776 →
    Ev (fun k => laws_FnFlatText.l0 k x4 acc (pre.length : Int) o n t (pre ++ suf)) ((flatL acc suf).toList == x4.toList) := by
  induction suf with
  | nil =>
    intro pre acc _ hs hm
    refine Ev.step (fun k => by rw [laws_FnFlatText.l0]) ?_
    simp only [List.append_nil, Int.lt_irrefl, if_false, flatL]
    exact Ev.now _
  | cons y suf ih =>
    intro pre acc hy hs hm
    simp only [List.length_cons, mszL] at hm hs
    have hz := flatB_size y
    refine Ev.step (fun k => by rw [laws_FnFlatText.l0]) ?_
    have c1 : (pre.length : Int) < ((pre ++ y :: suf).length : Int) := by simp; omega
    have c2 : (0 : Int) ≤ (pre.length : Int) := by omega
    simp only [if_pos c1, if_pos c2, rdD]
    refine Ev.bind (implFlatT_ev y (by omega)) ?_
    rw [flatT, if_pos (hy y List.mem_cons_self)]
    simp only [if_true, if_pos (show acc.size + (flatB y).size ≤ 9223372036854775807 by omega)]
    rw [w64 (by omega) (by omega), flatL]
    have := ih (pre ++ [y]) (acc ++ flatB y) (fun z hz => hy z (List.mem_cons_of_mem _ hz)) (by rw [ByteArray.size_append]; omega) (by simp; omega)
    rw [List.append_assoc, show ((pre ++ [y]).length : Int) = (pre.length : Int) + 1 by simp] at this
    exact this
theorem FnFlatText : laws_FnFlatText.Pure := by
  intro l hl _ hw
  refine Ev.rounds (g := fun k => laws_FnFlatText.f k l) (Ev.congr (fun k => by rw [laws_FnFlatText.f]) (big_or ?_))
  obtain ⟨d, hd, hm⟩ := drawFlat_ev l hl hw
  refine Ev.bind hd (Ev.bind (implFlatT_ev d (by omega)) (Ev.bind (specFlatT_ev d (by omega)) ?_))
  simp only [if_true, bne_self_eq_false, Bool.false_eq_true, if_false]
  refine Ev.step (fun k => by rw [laws_FnFlatText.j0]) ?_
  by_cases hc : canF d = true
  · rw [flatT, if_pos hc]
    simp only [Bool.not_true, Bool.false_eq_true, if_false]
    obtain ⟨o, n, t, ks⟩ := d
    have hv : docV ⟨o, n, t, ks⟩ = true := by rw [canF, Bool.and_eq_true] at hc; exact hc.1
    rw [flatB]
    by_cases c3 : o = 3
    · simp only [if_pos c3]
      rw [show ((⟨#[32]⟩ : ByteArray).toList == ([32] : List UInt8)) = true from by decide +kernel]
      exact Ev.now _
    · simp only [if_neg c3]
      rw [canF_kids hv, Bool.and_eq_true, List.all_eq_true] at hc
      simp only [msz] at hm
      have hk := mszL_len ks
      have := flt_loop (flatL t ks) o n t ks [] t hc.2 (by omega) (by simp; omega)
      simpa using this
  · rw [flatT, if_neg hc]
    simp only [Bool.not_false, if_true, beq_self_eq_true]
    exact Ev.now _
end Go.Proofs.Ytdhdfmmefghijaa.Pure
