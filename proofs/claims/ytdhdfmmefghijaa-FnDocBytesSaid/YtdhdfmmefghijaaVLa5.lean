/- CONTRACTS and lemmas: each contract says that a Go function of the program, called over the translation under the theorem's own hypotheses, returns what the Lean function beside it computes. -/
import Derived.Test.YtdhdfmmefghijaaVLa4
namespace Go.Proofs.Ytdhdfmmefghijaa.P
open Go.RowKit Go.Proofs.YtdhdfmmefghijaaW.PrintWords Go.Proofs.YtdhdfmmefghijaaW.PrintLast Go.Proofs.YtdhdfmmefghijaaW.PrintMore
attribute [local go_sem] max2_int min2_int max_two min_two max_three min_three max_four min_four
set_option linter.unusedVariables false
set_option linter.unusedSimpArgs false
mutual
def spec_l1Mutate.j0:Nat→Bool→List Int→Int→Int→Int→ByteArray→List (SDoc)→Option (Int × Int × ByteArray × (List (SDoc)) × Int)
 | 0,_,_,_,_,_,_,_=>none
 | k+1,x17,x1000,x1001,x237000,x237001,x237002,x237003=>if x17=true then ((spec_l15Rd_pick.f k x1000 x1001 (x237003.length:Int)).bind fun bt239=>(if 0≤bt239.1 then (if bt239.1 < (x237003.length:Int) then ((spec_l1Mutate.f k x1000 bt239.2 ((rd_TDoc x237003 bt239.1).f0) ((rd_TDoc x237003 bt239.1).f1) ((rd_TDoc x237003 bt239.1).f2) ((rd_TDoc x237003 bt239.1).f3)).bind fun bt242=>(some (x237000,x237001,x237002,(x237003.set (bt239.1:Int).toNat (⟨bt242.1,bt242.2.1,bt242.2.2.1,bt242.2.2.2.1⟩:SDoc)),bt242.2.2.2.2))) else (none)) else (none))) else ((spec_l15Rd_pick.f k x1000 x1001 14).bind fun bt250=>(if bt250.1=0 then ((spec_l15Rd_num.f k x1000 bt250.2 (([0,9,1,3,7]:List Int))).bind fun bt255=>(some (bt255.1,x237001,x237002,x237003,bt255.2))) else (if bt250.1=1 then ((spec_l15Rd_num.f k x1000 bt250.2 (([10,(-1),1]:List Int))).bind fun bt260=>(some (x237000,bt260.1,x237002,x237003,bt260.2))) else (if bt250.1=2 then ((spec_l15Rd_of.f k x1000 bt250.2 (([(⟨#[]⟩:ByteArray),(⟨#[65]⟩:ByteArray),(⟨#[97,98,99,100,101,102,103,104,105,106,107,108,109]⟩:ByteArray),(⟨#[120,32,121]⟩:ByteArray),(⟨#[122]⟩:ByteArray)]:List ByteArray))).bind fun bt265=>(some (x237000,x237001,bt265.1,x237003,bt265.2))) else (if bt250.1=3 then (if x237003.length < 2513169434916 then (some (x237000,x237001,x237002,(x237003++[(⟨1,0,(⟨#[]⟩:ByteArray),([]:List (SDoc))⟩:SDoc)]),bt250.2)) else (none)) else (some (x237000,x237001,x237002,x237003,bt250.2)))))))
def spec_l1Mutate.f:Nat→List Int→Int→Int→Int→ByteArray→List (SDoc)→Option (Int × Int × ByteArray × (List (SDoc)) × Int)
 | 0,_,_,_,_,_,_=>none
 | k+1,s0_0,s0_1,a1_0,a1_1,a1_2,l1_3=>(spec_l1Copy.f k a1_0 a1_1 a1_2 l1_3).bind fun bt230=>(if (bt230.2.2.2.length:Int) > 0 then ((spec_l15Rd_pick.f k s0_0 s0_1 2).bind fun bt237=>(spec_l1Mutate.j0 k (decide (bt237.1 > 0)) s0_0 bt237.2 bt230.1 bt230.2.1 bt230.2.2.1 bt230.2.2.2)) else (spec_l1Mutate.j0 k false s0_0 s0_1 bt230.1 bt230.2.1 bt230.2.2.1 bt230.2.2.2))
end
def spec_l1Mutate.T4:Bool × List (List Nat × List Nat):=(true,[([],[]),([0],[0]),([],[]),([],[]),([],[]),([4],[4]),([],[]),([5,6],[5,6]),([7],[7]),([3,8],[3,8]),([1,2,0,1,2,3,4,5,6,7,8,9],[1,2]),([10,9,9,0,1,2,3,4,5,6,7,8,9],[9,10])])
def spec_l1Mutate.B4:List Nat:=[0,1,0,0,0,16,0,112,240,504,1023,2047]
theorem spec_l1Mutate.tab4:rtab .any (opsOf Try.f50 4)=spec_l1Mutate.T4:=by kernel_rfl
theorem spec_l1Mutate.bits4:waitsOk spec_l1Mutate.T4.2 spec_l1Mutate.B4=true:=by kernel_rfl
set_option maxHeartbeats 8000000 in
set_option maxRecDepth 100000 in
theorem spec_l1Mutate.calls (k:Nat):∀ (g:Nat) (s0_0:List Int) (s0_1:Int) (a1_0:Int) (a1_1:Int) (a1_2:ByteArray) (A1_3:Option Addr) (c1_3:Nat) (l1_3:List (SDoc)) (r1:Int) (r2:Int) (r3:ByteArray) (r4:List (SDoc)) (r5:Int) (w0 w:World) (hI:IsS66 w0 w g s0_0 s0_1) (hB:Below w0.heap.size w0 w) (hr1_3:∀ W_,KeepBut w W_ g none→Kd.C k27 W_ A1_3 l1_3.length l1_3) (hc1_3:l1_3.length≤c1_3) (h:spec_l1Mutate.f k s0_0 s0_1 a1_0 a1_1 a1_2 l1_3=some (r1,r2,r3,r4,r5)),
  Calls Try.prog 50 #[.pointer (some ⟨g,0,none⟩),.agg #[.int .i64 a1_0,.int .i64 a1_1,.string a1_2,.slice A1_3 l1_3.length c1_3]] w fun e w'=>∃ v3_:Value,e=.returned (.agg #[.int .i64 r1,.int .i64 r2,.string r3,v3_])∧Kd.N k27 27 w' w.heap.size (fun k_=>(w.heap.size≤k_)) v3_ r4∧IsS66 w0 w' g s0_0 r5∧Below w0.heap.size w0 w'∧KeepBut w w' g none:=by
 induction k using Nat.strongRecOn with
 | _ k ih =>
 intro g s0_0 s0_1 a1_0 a1_1 a1_2 A1_3 c1_3 l1_3 r1 r2 r3 r4 r5 w0 w hI hB hr1_3 hc1_3 h
 cases k with
 | zero=>exact absurd h (by simp [spec_l1Mutate.f])
 | succ k =>
 simp only [spec_l1Mutate.f] at h
 have hu27:=Try.underlying27
 have HR1_3:=Aside0.mk hr1_3
 have HC1_3:=Aside0.mk hc1_3
 clear hr1_3 hc1_3
 have HI0:=Aside0.mk hI
 have HK:=Aside0.mk (KeepBut.refl w g none)
 have HL:=Aside0.mk hB.size
 clear hI
 have HW0:=Aside0.mk hB.size
 have HB:=Aside0.mk hB
 clear hB
 have H:((spec_l1Copy.f k a1_0 a1_1 a1_2 l1_3).bind fun bt230=>(if (bt230.2.2.2.length:Int) > 0 then ((spec_l15Rd_pick.f k s0_0 s0_1 2).bind fun bt237=>(spec_l1Mutate.j0 k (decide (bt237.1 > 0)) s0_0 bt237.2 bt230.1 bt230.2.1 bt230.2.2.1 bt230.2.2.2)) else (spec_l1Mutate.j0 k false s0_0 s0_1 bt230.1 bt230.2.1 bt230.2.2.1 bt230.2.2.2)))=some (r1,r2,r3,r4,r5):=h
 clear h
 replace H:=Option.bind_eq_some_iff.mp H
 obtain ⟨⟨t230,t231,t232,t233⟩,A30,H⟩:=H
 replace H:(if (t233.length:Int) > 0 then ((spec_l15Rd_pick.f k s0_0 s0_1 2).bind fun bt237=>(spec_l1Mutate.j0 k (decide (bt237.1 > 0)) s0_0 bt237.2 t230 t231 t232 t233)) else (spec_l1Mutate.j0 k false s0_0 s0_1 t230 t231 t232 t233))=some (r1,r2,r3,r4,r5):=H
 have A3:=Aside0.mk A30
 clear A30
 have HC4:=Aside0.mk H
 clear H
 go_enter Try.func50,Try.ntmps50
 go_upto_region 2 with (first|((with_reducible refine gate_dst (N:=3) rfl ?_);refine box_event ?hg (N:=3) ?hd (cs:=#[.int .i64 a1_0,.int .i64 a1_1,.string a1_2,.slice A1_3 l1_3.length c1_3]) (t:=27) ?hr ?_;(case hd=>rfl);(case hg=>rfl);(case hr=>first|(go_simp;done)|(go_simp;rfl));intro gb228 hg w5 hbox hb;have n0_:=Aside0.mk (IsS66.below (by repeat (first|(with_reducible first|exact HI0.out|apply IsS66.alloc|apply IsS66.drewN|apply IsS66.drew|apply IsS66.set_1)|exact HI0.out)) hb);have n1_:=Aside0.mk (KeepBut.trans (by repeat (first|(with_reducible first|exact HK.out|apply KeepBut.set_|apply keep_drewN|apply keep_drew|apply keep_alloc)|exact HK.out)) (KeepBut.of_below hb g none) (.inl rfl));have n2_:=Aside0.mk (below_step (by repeat (first|(with_reducible first|exact HB.out|apply below_alloc|apply pw_below_drewN|apply below_drew1|refine below_set ?_ (IsS66.ge HI0.out))|exact HB.out)) hb);have n3_:=Aside0.mk (hbox);have n4_:=Aside0.mk ((by rw [hg];exact (keep_size (w:=w) (g:=g) (row:=none) (by repeat (first|(with_reducible first|exact HK.out|apply KeepBut.set_|apply keep_drewN|apply keep_drew|apply keep_alloc)|exact HK.out))):w.heap.size≤gb228));have n5_:=Aside0.mk ((Nat.le_trans HW0.out (by rw [hg];exact (keep_size (w:=w) (g:=g) (row:=none) (by repeat (first|(with_reducible first|exact HK.out|apply KeepBut.set_|apply keep_drewN|apply keep_drew|apply keep_alloc)|exact HK.out))):w.heap.size≤gb228):w0.heap.size≤gb228));have n6_:=Aside0.mk ((by rw [hg];exact Nat.ne_of_lt (IsS66.lt (show IsS66 w0 _ g s0_0 s0_1 from by repeat (first|(with_reducible first|exact HI0.out|apply IsS66.alloc|apply IsS66.drewN|apply IsS66.drew|apply IsS66.set_1)|exact HI0.out))):g ≠ gb228));have n7_:=Aside0.mk ((by rw [hg];exact Nat.ne_of_gt (IsS66.lt (show IsS66 w0 _ g s0_0 s0_1 from by repeat (first|(with_reducible first|exact HI0.out|apply IsS66.alloc|apply IsS66.drewN|apply IsS66.drew|apply IsS66.set_1)|exact HI0.out))):gb228 ≠ g));clear HI0;clear HK;clear HB;have HI0:=n0_;have HK:=n1_;have HB:=n2_;have BK228:=n3_;have GW228:=n4_;have GE228:=n5_;have NB0_228:=n6_;have NB228_0:=n7_;clear n0_ n1_ n2_ n3_ n4_ n5_ n6_ n7_;clear hb hbox hg)|((with_reducible refine gate_dst (N:=4) rfl ?_);refine box_event ?hg (N:=4) ?hd (cs:=#[.int .i64 0,.int .i64 0,.string (⟨#[]⟩:ByteArray),.slice none 0 0]) (t:=27) ?hr ?_;(case hd=>rfl);(case hg=>rfl);(case hr=>first|(go_simp;done)|(go_simp;rfl));intro gb229 hg w6 hbox hb;have n0_:=Aside0.mk (IsS66.below (by repeat (first|(with_reducible first|exact HI0.out|apply IsS66.alloc|apply IsS66.drewN|apply IsS66.drew|apply IsS66.set_1|refine IsS66.far ?_ NB0_228.out _)|exact HI0.out)) hb);have n1_:=Aside0.mk (blk_below (g:=gb228) (o:=.cells #[.int .i64 a1_0,.int .i64 a1_1,.string a1_2,.slice A1_3 l1_3.length c1_3] 27 (0,0)) (by (with_reducible repeat (first|refine blk_drewN ?_ _|refine blk_drew ?_|refine blk_alloc ?_ _));exact BK228.out) hb);have n2_:=Aside0.mk (KeepBut.trans (by repeat (first|(with_reducible first|exact HK.out|apply KeepBut.set_|apply keep_drewN|apply keep_drew|apply keep_alloc|refine keep_far ?_ GW228.out _)|exact HK.out)) (KeepBut.of_below hb g none) (.inl rfl));have n3_:=Aside0.mk (below_step (by repeat (first|(with_reducible first|exact HB.out|apply below_alloc|apply pw_below_drewN|apply below_drew1|refine below_set ?_ (IsS66.ge HI0.out)|refine below_set ?_ GE228.out)|exact HB.out)) hb);have n4_:=Aside0.mk (hbox);have n5_:=Aside0.mk ((by rw [hg];exact (keep_size (w:=w) (g:=g) (row:=none) (by repeat (first|(with_reducible first|exact HK.out|apply KeepBut.set_|apply keep_drewN|apply keep_drew|apply keep_alloc|refine keep_far ?_ GW228.out _)|exact HK.out))):w.heap.size≤gb229));have n6_:=Aside0.mk ((Nat.le_trans HW0.out (by rw [hg];exact (keep_size (w:=w) (g:=g) (row:=none) (by repeat (first|(with_reducible first|exact HK.out|apply KeepBut.set_|apply keep_drewN|apply keep_drew|apply keep_alloc|refine keep_far ?_ GW228.out _)|exact HK.out))):w.heap.size≤gb229):w0.heap.size≤gb229));have n7_:=Aside0.mk ((by rw [hg];exact Nat.ne_of_lt (blk_lt (g:=gb228) (o:=.cells #[.int .i64 a1_0,.int .i64 a1_1,.string a1_2,.slice A1_3 l1_3.length c1_3] 27 (0,0)) (by (with_reducible repeat (first|refine blk_drewN ?_ _|refine blk_drew ?_|refine blk_alloc ?_ _));exact BK228.out)):gb228 ≠ gb229));have n8_:=Aside0.mk ((by rw [hg];exact Nat.ne_of_gt (blk_lt (g:=gb228) (o:=.cells #[.int .i64 a1_0,.int .i64 a1_1,.string a1_2,.slice A1_3 l1_3.length c1_3] 27 (0,0)) (by (with_reducible repeat (first|refine blk_drewN ?_ _|refine blk_drew ?_|refine blk_alloc ?_ _));exact BK228.out)):gb229 ≠ gb228));have n9_:=Aside0.mk ((by rw [hg];exact Nat.ne_of_lt (IsS66.lt (show IsS66 w0 _ g s0_0 s0_1 from by repeat (first|(with_reducible first|exact HI0.out|apply IsS66.alloc|apply IsS66.drewN|apply IsS66.drew|apply IsS66.set_1|refine IsS66.far ?_ NB0_228.out _)|exact HI0.out))):g ≠ gb229));have n10_:=Aside0.mk ((by rw [hg];exact Nat.ne_of_gt (IsS66.lt (show IsS66 w0 _ g s0_0 s0_1 from by repeat (first|(with_reducible first|exact HI0.out|apply IsS66.alloc|apply IsS66.drewN|apply IsS66.drew|apply IsS66.set_1|refine IsS66.far ?_ NB0_228.out _)|exact HI0.out))):gb229 ≠ g));clear HI0;clear BK228;clear HK;clear HB;have HI0:=n0_;have BK228:=n1_;have HK:=n2_;have HB:=n3_;have BK229:=n4_;have GW229:=n5_;have GE229:=n6_;have NB228_229:=n7_;have NB229_228:=n8_;have NB0_229:=n9_;have NB229_0:=n10_;clear n0_ n1_ n2_ n3_ n4_ n5_ n6_ n7_ n8_ n9_ n10_;clear hb hbox hg;have hnb7:=NB228_229.out;have hnc7:=NB229_228.out;have hnb8:=NB228_0.out;have hnc8:=NB0_228.out;have hcz9_0:w6.cell? ⟨gb228,0,none⟩=some (.int .i64 a1_0):=(blk_cell BK228.out 0).trans rfl;have hcz9_1:w6.cell? ⟨gb228,1,none⟩=some (.int .i64 a1_1):=(blk_cell BK228.out 1).trans rfl;have hcz9_2:w6.cell? ⟨gb228,2,none⟩=some (.string a1_2):=(blk_cell BK228.out 2).trans rfl;have hcz9_3:w6.cell? ⟨gb228,3,none⟩=some (.slice A1_3 l1_3.length c1_3):=(blk_cell BK228.out 3).trans rfl;have hfz9_0:=blk_frozen BK228.out 0;have hfz9_1:=blk_frozen BK228.out 1;have hfz9_2:=blk_frozen BK228.out 2;have hfz9_3:=blk_frozen BK228.out 3)|((with_reducible refine gate_callee (f:=59) rfl ?_);refine goesL_ (some 8) rfl rfl Try.func59 (by kernel_rfl) rfl #[.agg #[.int .i64 a1_0,.int .i64 a1_1,.string a1_2,.slice A1_3 l1_3.length c1_3]] rfl (by (try simp only [List.map_toArray,List.map_cons,List.map_nil]);first|done|rfl|(simp only [List.length_drop,List.length_take];rfl)) ?_;(with_reducible refine (spec_l1Copy.calls k a1_0 a1_1 a1_2 _ _ l1_3 t230 t231 t232 t233 _ ?side1 ?side2 A3.out).mono ?_);(case side1=>exact Kd.C_foot_now HR1_3.out (by repeat (first|(with_reducible first|exact HK.out|apply KeepBut.set_|apply keep_drewN|apply keep_drew|apply keep_alloc|refine keep_far ?_ GW228.out _|refine keep_far ?_ GW229.out _)|exact HK.out)));(case side2=>exact HC1_3.out);rintro e w10 ⟨v234,rfl,ho0,hb⟩;refine ⟨_,rfl,?_⟩;have n0_:=Aside0.mk (Kd.N_lower (Kd.N_mono (ok':=fun k_=>(w.heap.size≤k_)∧k_ ≠ gb228∧k_ ≠ gb229∧k_ ≠ g) (Kd.R_N (Kd.R_bound ho0)) (fun k_ hk_=>⟨(Nat.le_trans (keep_size (w:=w) (g:=g) (row:=none) (by repeat (first|(with_reducible first|exact HK.out|apply KeepBut.set_|apply keep_drewN|apply keep_drew|apply keep_alloc|refine keep_far ?_ GW228.out _|refine keep_far ?_ GW229.out _)|exact HK.out))) hk_.2.1),(Kd.freshB (g:=gb228) (o:=.cells #[.int .i64 a1_0,.int .i64 a1_1,.string a1_2,.slice A1_3 l1_3.length c1_3] 27 (0,0)) (by (with_reducible repeat (first|refine blk_drewN ?_ _|refine blk_drew ?_|refine blk_alloc ?_ _));exact BK228.out) k_ hk_.2.1),(Kd.freshB (g:=gb229) (o:=.cells #[.int .i64 0,.int .i64 0,.string (⟨#[]⟩:ByteArray),.slice none 0 0] 27 (0,0)) (by (with_reducible repeat (first|refine blk_drewN ?_ _|refine blk_drew ?_|refine blk_alloc ?_ _));exact BK229.out) k_ hk_.2.1),(IsS66.fresh (by repeat (first|(with_reducible first|exact HI0.out|apply IsS66.alloc|apply IsS66.drewN|apply IsS66.drew|apply IsS66.set_1|refine IsS66.far ?_ NB0_228.out _|refine IsS66.far ?_ NB0_229.out _)|exact HI0.out)) k_ hk_.2.1)⟩)) (keep_size (w:=w) (g:=g) (row:=none) (by repeat (first|(with_reducible first|exact HK.out|apply KeepBut.set_|apply keep_drewN|apply keep_drew|apply keep_alloc|refine keep_far ?_ GW228.out _|refine keep_far ?_ GW229.out _)|exact HK.out))));have n1_:=Aside0.mk (IsS66.below (by repeat (first|(with_reducible first|exact HI0.out|apply IsS66.alloc|apply IsS66.drewN|apply IsS66.drew|apply IsS66.set_1|refine IsS66.far ?_ NB0_228.out _|refine IsS66.far ?_ NB0_229.out _)|exact HI0.out)) hb);have n2_:=Aside0.mk (blk_below (g:=gb228) (o:=.cells #[.int .i64 a1_0,.int .i64 a1_1,.string a1_2,.slice A1_3 l1_3.length c1_3] 27 (0,0)) (by (with_reducible repeat (first|refine blk_drewN ?_ _|refine blk_drew ?_|refine blk_alloc ?_ _));exact BK228.out) hb);have n3_:=Aside0.mk (blk_below (g:=gb229) (o:=.cells #[.int .i64 0,.int .i64 0,.string (⟨#[]⟩:ByteArray),.slice none 0 0] 27 (0,0)) (by (with_reducible repeat (first|refine blk_drewN ?_ _|refine blk_drew ?_|refine blk_alloc ?_ _));exact BK229.out) hb);have n4_:=Aside0.mk (KeepBut.trans (by repeat (first|(with_reducible first|exact HK.out|apply KeepBut.set_|apply keep_drewN|apply keep_drew|apply keep_alloc|refine keep_far ?_ GW228.out _|refine keep_far ?_ GW229.out _)|exact HK.out)) (KeepBut.of_below hb g none) (.inl rfl));have n5_:=Aside0.mk (below_step (by repeat (first|(with_reducible first|exact HB.out|apply below_alloc|apply pw_below_drewN|apply below_drew1|refine below_set ?_ (IsS66.ge HI0.out)|refine below_set ?_ GE228.out|refine below_set ?_ GE229.out)|exact HB.out)) hb);clear HI0;clear BK228;clear BK229;clear HK;clear HB;have HO235:=n0_;have HI0:=n1_;have BK228:=n2_;have BK229:=n3_;have HK:=n4_;have HB:=n5_;clear n0_ n1_ n2_ n3_ n4_ n5_;(try clear hb);(try clear hb2);(try clear hk);(try clear hi);(try clear ho0))|((with_reducible refine gate_dst (N:=5) rfl ?_);refine box_event ?hg (N:=5) ?hd (cs:=#[.int .i64 0,.int .i64 0,.string (⟨#[]⟩:ByteArray),.slice none 0 0]) (t:=27) ?hr ?_;(case hd=>rfl);(case hg=>rfl);(case hr=>first|(go_simp;done)|(go_simp;rfl));intro gb236 hg w11 hbox hb;have n0_:=Aside0.mk (Kd.N_below (Kd.N_elderB (by (with_reducible repeat (first|apply Kd.N_alloc|apply Kd.N_drewN|apply Kd.N_drew));exact HO235.out) gb236 (Nat.le_of_eq hg.symm)) hb);have n1_:=Aside0.mk (IsS66.below (by repeat (first|(with_reducible first|exact HI0.out|apply IsS66.alloc|apply IsS66.drewN|apply IsS66.drew|apply IsS66.set_1|refine IsS66.far ?_ NB0_228.out _|refine IsS66.far ?_ NB0_229.out _)|exact HI0.out)) hb);have n2_:=Aside0.mk (blk_below (g:=gb228) (o:=.cells #[.int .i64 a1_0,.int .i64 a1_1,.string a1_2,.slice A1_3 l1_3.length c1_3] 27 (0,0)) (by (with_reducible repeat (first|refine blk_drewN ?_ _|refine blk_drew ?_|refine blk_alloc ?_ _));exact BK228.out) hb);have n3_:=Aside0.mk (blk_below (g:=gb229) (o:=.cells #[.int .i64 0,.int .i64 0,.string (⟨#[]⟩:ByteArray),.slice none 0 0] 27 (0,0)) (by (with_reducible repeat (first|refine blk_drewN ?_ _|refine blk_drew ?_|refine blk_alloc ?_ _));exact BK229.out) hb);have n4_:=Aside0.mk (KeepBut.trans (by repeat (first|(with_reducible first|exact HK.out|apply KeepBut.set_|apply keep_drewN|apply keep_drew|apply keep_alloc|refine keep_far ?_ GW228.out _|refine keep_far ?_ GW229.out _)|exact HK.out)) (KeepBut.of_below hb g none) (.inl rfl));have n5_:=Aside0.mk (below_step (by repeat (first|(with_reducible first|exact HB.out|apply below_alloc|apply pw_below_drewN|apply below_drew1|refine below_set ?_ (IsS66.ge HI0.out)|refine below_set ?_ GE228.out|refine below_set ?_ GE229.out)|exact HB.out)) hb);have n6_:=Aside0.mk (hbox);have n7_:=Aside0.mk ((by rw [hg];exact (keep_size (w:=w) (g:=g) (row:=none) (by repeat (first|(with_reducible first|exact HK.out|apply KeepBut.set_|apply keep_drewN|apply keep_drew|apply keep_alloc|refine keep_far ?_ GW228.out _|refine keep_far ?_ GW229.out _)|exact HK.out))):w.heap.size≤gb236));have n8_:=Aside0.mk ((Nat.le_trans HW0.out (by rw [hg];exact (keep_size (w:=w) (g:=g) (row:=none) (by repeat (first|(with_reducible first|exact HK.out|apply KeepBut.set_|apply keep_drewN|apply keep_drew|apply keep_alloc|refine keep_far ?_ GW228.out _|refine keep_far ?_ GW229.out _)|exact HK.out))):w.heap.size≤gb236):w0.heap.size≤gb236));have n9_:=Aside0.mk ((by rw [hg];exact Nat.ne_of_lt (blk_lt (g:=gb228) (o:=.cells #[.int .i64 a1_0,.int .i64 a1_1,.string a1_2,.slice A1_3 l1_3.length c1_3] 27 (0,0)) (by (with_reducible repeat (first|refine blk_drewN ?_ _|refine blk_drew ?_|refine blk_alloc ?_ _));exact BK228.out)):gb228 ≠ gb236));have n10_:=Aside0.mk ((by rw [hg];exact Nat.ne_of_gt (blk_lt (g:=gb228) (o:=.cells #[.int .i64 a1_0,.int .i64 a1_1,.string a1_2,.slice A1_3 l1_3.length c1_3] 27 (0,0)) (by (with_reducible repeat (first|refine blk_drewN ?_ _|refine blk_drew ?_|refine blk_alloc ?_ _));exact BK228.out)):gb236 ≠ gb228));have n11_:=Aside0.mk ((by rw [hg];exact Nat.ne_of_lt (blk_lt (g:=gb229) (o:=.cells #[.int .i64 0,.int .i64 0,.string (⟨#[]⟩:ByteArray),.slice none 0 0] 27 (0,0)) (by (with_reducible repeat (first|refine blk_drewN ?_ _|refine blk_drew ?_|refine blk_alloc ?_ _));exact BK229.out)):gb229 ≠ gb236));have n12_:=Aside0.mk ((by rw [hg];exact Nat.ne_of_gt (blk_lt (g:=gb229) (o:=.cells #[.int .i64 0,.int .i64 0,.string (⟨#[]⟩:ByteArray),.slice none 0 0] 27 (0,0)) (by (with_reducible repeat (first|refine blk_drewN ?_ _|refine blk_drew ?_|refine blk_alloc ?_ _));exact BK229.out)):gb236 ≠ gb229));have n13_:=Aside0.mk ((by rw [hg];exact Nat.ne_of_lt (IsS66.lt (show IsS66 w0 _ g s0_0 s0_1 from by repeat (first|(with_reducible first|exact HI0.out|apply IsS66.alloc|apply IsS66.drewN|apply IsS66.drew|apply IsS66.set_1|refine IsS66.far ?_ NB0_228.out _|refine IsS66.far ?_ NB0_229.out _)|exact HI0.out))):g ≠ gb236));have n14_:=Aside0.mk ((by rw [hg];exact Nat.ne_of_gt (IsS66.lt (show IsS66 w0 _ g s0_0 s0_1 from by repeat (first|(with_reducible first|exact HI0.out|apply IsS66.alloc|apply IsS66.drewN|apply IsS66.drew|apply IsS66.set_1|refine IsS66.far ?_ NB0_228.out _|refine IsS66.far ?_ NB0_229.out _)|exact HI0.out))):gb236 ≠ g));clear HO235;clear HI0;clear BK228;clear BK229;clear HK;clear HB;have HO235:=n0_;have HI0:=n1_;have BK228:=n2_;have BK229:=n3_;have HK:=n4_;have HB:=n5_;have BK236:=n6_;have GW236:=n7_;have GE236:=n8_;have NB228_236:=n9_;have NB236_228:=n10_;have NB229_236:=n11_;have NB236_229:=n12_;have NB0_236:=n13_;have NB236_0:=n14_;clear n0_ n1_ n2_ n3_ n4_ n5_ n6_ n7_ n8_ n9_ n10_ n11_ n12_ n13_ n14_;clear hb hbox hg;have hnb12:=NB236_228.out;have hnc12:=NB228_236.out;have hnb13:=NB236_229.out;have hnc13:=NB229_236.out;have hnb14:=NB236_0.out;have hnc14:=NB0_236.out;have hcz15_0:w11.cell? ⟨gb236,0,none⟩=some (.int .i64 0):=(blk_cell BK236.out 0).trans rfl;have hcz15_1:w11.cell? ⟨gb236,1,none⟩=some (.int .i64 0):=(blk_cell BK236.out 1).trans rfl;have hcz15_2:w11.cell? ⟨gb236,2,none⟩=some (.string (⟨#[]⟩:ByteArray)):=(blk_cell BK236.out 2).trans rfl;have hcz15_3:w11.cell? ⟨gb236,3,none⟩=some (.slice none 0 0):=(blk_cell BK236.out 3).trans rfl;have hfz15_0:=blk_frozen BK236.out 0;have hfz15_1:=blk_frozen BK236.out 1;have hfz15_2:=blk_frozen BK236.out 2;have hfz15_3:=blk_frozen BK236.out 3;obtain ⟨Ao16,co16,eo16⟩:=Kd.N_slice HO235.out;subst eo16))
 (try simp only [Act.put,List.setIfInBounds_toArray,List.set_cons_zero,List.set_cons_succ])
 go_cut [17] (fun v17 wc=>∃ (kq:Nat) (x17_3:Bool) (x1001_3:Int),v17=.bool x17_3∧Aside0 (spec_l1Mutate.j0 kq x17_3 s0_0 x1001_3 t230 t231 t232 t233=some (r1,r2,r3,r4,r5))∧Aside0 (kq≤k)∧Aside0 (Kd.N k27 27 wc w.heap.size (fun k_=>(w.heap.size≤k_)∧k_ ≠ gb228∧k_ ≠ gb229∧k_ ≠ gb236∧k_ ≠ g) (.slice Ao16 t233.length co16) t233)∧Aside0 (wc.heap[gb228]?=some (.cells #[.int .i64 a1_0,.int .i64 a1_1,.string a1_2,(.slice A1_3 l1_3.length c1_3)] 27 (0,0)))∧Aside0 (wc.heap[gb229]?=some (.cells #[.int .i64 0,.int .i64 0,.string (⟨#[]⟩:ByteArray),(.slice none 0 0)] 27 (0,0)))∧Aside0 (wc.heap[gb236]?=some (.cells #[.int .i64 t230,.int .i64 t231,.string t232,(.slice Ao16 t233.length co16)] 27 (0,0)))∧Aside0 (IsS66 w0 wc g s0_0 x1001_3)∧Aside0 (KeepBut w wc g none)∧Aside0 (Below w0.heap.size w0 wc))
 case first =>
  have H:=HC4.out
  clear HC4
  by_cases c17:(t233.length:Int) > 0
  ·rw [if_pos c17] at H
   have c17b0:decide (0 < (t233.length:Int))=true:=decide_eq_true c17
   have c17b1:decide (0 < t233.length)=true:=decide_eq_true (by omega)
   clear c17
   (first|rw [c17b0]|(simp only [i64_w,i32_w];rw [c17b0])|skip)
   replace H:=Option.bind_eq_some_iff.mp H
   obtain ⟨⟨t237,t238⟩,A180,H⟩:=H
   replace H:(spec_l1Mutate.j0 k (decide (t237 > 0)) s0_0 t238 t230 t231 t232 t233)=some (r1,r2,r3,r4,r5):=H
   have A18:=Aside0.mk A180
   clear A180
   have H':=Aside0.mk H
   clear H
   have hnb19:=NB236_228.out
   have hnc19:=NB228_236.out
   have hnb20:=NB236_229.out
   have hnc20:=NB229_236.out
   have hnb21:=NB236_0.out
   have hnc21:=NB0_236.out
   have hcz22_0:w11.cell? ⟨gb236,0,none⟩=some (.int .i64 0):=(blk_cell BK236.out 0).trans rfl
   have hcz22_1:w11.cell? ⟨gb236,1,none⟩=some (.int .i64 0):=(blk_cell BK236.out 1).trans rfl
   have hcz22_2:w11.cell? ⟨gb236,2,none⟩=some (.string (⟨#[]⟩:ByteArray)):=(blk_cell BK236.out 2).trans rfl
   have hcz22_3:w11.cell? ⟨gb236,3,none⟩=some (.slice none 0 0):=(blk_cell BK236.out 3).trans rfl
   have hfz22_0:=blk_frozen BK236.out 0
   have hfz22_1:=blk_frozen BK236.out 1
   have hfz22_2:=blk_frozen BK236.out 2
   have hfz22_3:=blk_frozen BK236.out 3
   go_wp2_with (first|(go_at_call 55;(with_reducible refine (spec_l15Rd_pick.calls k g s0_0 s0_1 2 t237 t238 w0 _ ?side1 ?side2 A18.out).mono ?_);(case side1=>repeat (first|(with_reducible first|exact HI0.out|apply IsS66.alloc|apply IsS66.drewN|apply IsS66.drew|apply IsS66.set_1|refine IsS66.far ?_ NB0_228.out _|refine IsS66.far ?_ NB0_229.out _|refine IsS66.far ?_ NB0_236.out _)|exact HI0.out));(case side2=>repeat (first|(with_reducible first|exact HB.out|apply below_alloc|apply pw_below_drewN|apply below_drew1|refine below_set ?_ (IsS66.ge HI0.out)|refine below_set ?_ GE228.out|refine below_set ?_ GE229.out|refine below_set ?_ GE236.out)|exact HB.out));rintro e w23 ⟨rfl,hi,hb,hk⟩;have n0_:=Aside0.mk (KeepBut.blk hk (g':=gb228) (o:=.cells #[.int .i64 a1_0,.int .i64 a1_1,.string a1_2,.slice A1_3 l1_3.length c1_3] 27 (0,0)) (by (with_reducible repeat (first|refine blk_drewN ?_ _|refine blk_drew ?_|refine blk_alloc ?_ _));refine blk_far ?_ NB228_236.out _;(with_reducible repeat (first|refine blk_drewN ?_ _|refine blk_drew ?_|refine blk_alloc ?_ _));refine blk_far ?_ NB228_236.out _;(with_reducible repeat (first|refine blk_drewN ?_ _|refine blk_drew ?_|refine blk_alloc ?_ _));refine blk_far ?_ NB228_236.out _;(with_reducible repeat (first|refine blk_drewN ?_ _|refine blk_drew ?_|refine blk_alloc ?_ _));refine blk_far ?_ NB228_236.out _;(with_reducible repeat (first|refine blk_drewN ?_ _|refine blk_drew ?_|refine blk_alloc ?_ _));exact BK228.out) NB228_0.out (by simp));have n1_:=Aside0.mk (KeepBut.blk hk (g':=gb229) (o:=.cells #[.int .i64 0,.int .i64 0,.string (⟨#[]⟩:ByteArray),.slice none 0 0] 27 (0,0)) (by (with_reducible repeat (first|refine blk_drewN ?_ _|refine blk_drew ?_|refine blk_alloc ?_ _));refine blk_far ?_ NB229_236.out _;(with_reducible repeat (first|refine blk_drewN ?_ _|refine blk_drew ?_|refine blk_alloc ?_ _));refine blk_far ?_ NB229_236.out _;(with_reducible repeat (first|refine blk_drewN ?_ _|refine blk_drew ?_|refine blk_alloc ?_ _));refine blk_far ?_ NB229_236.out _;(with_reducible repeat (first|refine blk_drewN ?_ _|refine blk_drew ?_|refine blk_alloc ?_ _));refine blk_far ?_ NB229_236.out _;(with_reducible repeat (first|refine blk_drewN ?_ _|refine blk_drew ?_|refine blk_alloc ?_ _));exact BK229.out) NB229_0.out (by simp));have n2_:=Aside0.mk (Kd.N_mono (Kd.N_keep (Kd.N_mono (ok:=fun k_=>((((w.heap.size≤k_))∧(k_ ≠ gb228∧(k_ ≠ gb229∧k_ ≠ g)))∧k_ ≠ gb236)) (by (with_reducible repeat (first|apply Kd.N_alloc|apply Kd.N_drewN|apply Kd.N_drew));exact (Kd.N_mono (Kd.N_far (p:=⟨gb236,3,none⟩) (Kd.N_far (p:=⟨gb236,2,none⟩) (Kd.N_far (p:=⟨gb236,1,none⟩) (Kd.N_far (p:=⟨gb236,0,none⟩) (Kd.N_mono HO235.out (fun k_ hk=>(⟨hk,hk.2⟩:_∧k_ ≠ gb236))) (fun _ hk=>hk.2) (.int .i64 t230)) (fun _ hk=>hk.2) (.int .i64 t231)) (fun _ hk=>hk.2) (.string t232)) (fun _ hk=>hk.2) (.slice Ao16 t233.length co16)) (fun _ h_=>h_.1))) (fun k_ hk_=>(⟨hk_,hk_.1.2.2.2⟩:_∧k_ ≠ g))) hk (fun _ h=>h.2)) (fun _ h=>h.1));have n3_:=Aside0.mk (KeepBut.blk hk (g':=gb236) (o:=.cells #[.int .i64 t230,.int .i64 t231,.string t232,.slice Ao16 t233.length co16] 27 (0,0)) (by (with_reducible repeat (first|refine blk_drewN ?_ _|refine blk_drew ?_|refine blk_alloc ?_ _));refine blk_put (cs:=#[.int .i64 t230,.int .i64 t231,.string t232,.slice none 0 0]) ?_ 3 _ rfl;(with_reducible repeat (first|refine blk_drewN ?_ _|refine blk_drew ?_|refine blk_alloc ?_ _));refine blk_put (cs:=#[.int .i64 t230,.int .i64 t231,.string (⟨#[]⟩:ByteArray),.slice none 0 0]) ?_ 2 _ rfl;(with_reducible repeat (first|refine blk_drewN ?_ _|refine blk_drew ?_|refine blk_alloc ?_ _));refine blk_put (cs:=#[.int .i64 t230,.int .i64 0,.string (⟨#[]⟩:ByteArray),.slice none 0 0]) ?_ 1 _ rfl;(with_reducible repeat (first|refine blk_drewN ?_ _|refine blk_drew ?_|refine blk_alloc ?_ _));refine blk_put (cs:=#[.int .i64 0,.int .i64 0,.string (⟨#[]⟩:ByteArray),.slice none 0 0]) ?_ 0 _ rfl;(with_reducible repeat (first|refine blk_drewN ?_ _|refine blk_drew ?_|refine blk_alloc ?_ _));exact BK236.out) NB236_0.out (by simp));have n4_:=Aside0.mk (KeepBut.trans (by repeat (first|(with_reducible first|exact HK.out|apply KeepBut.set_|apply keep_drewN|apply keep_drew|apply keep_alloc|refine keep_far ?_ GW228.out _|refine keep_far ?_ GW229.out _|refine keep_far ?_ GW236.out _)|exact HK.out)) hk (.inl rfl));have n5_:=Aside0.mk (hb);have n6_:=Aside0.mk (hi);clear BK228;clear BK229;clear HO235;clear BK236;clear HK;clear HB;clear HI0;have BK228:=n0_;have BK229:=n1_;have HO235:=n2_;have BK236:=n3_;have HK:=n4_;have HB:=n5_;have HI0:=n6_;clear n0_ n1_ n2_ n3_ n4_ n5_ n6_;(try clear hb);(try clear hb2);(try clear hk);(try clear hi)))
   go_meet
   case rel=>exact ⟨_,(decide (t237 > 0)),(t238),(by first|rfl|(simp;done)|(simp [*];done)),H',⟨by first|omega|exact Nat.le_refl _⟩,⟨by (with_reducible repeat (first|apply Kd.N_alloc|apply Kd.N_drewN|apply Kd.N_drew));exact Kd.N_mono HO235.out (fun _ hk=>⟨hk.1.1,⟨hk.1.2.1,⟨hk.1.2.2.1,⟨hk.2,hk.1.2.2.2⟩⟩⟩⟩)⟩,⟨by (with_reducible repeat (first|refine blk_drewN ?_ _|refine blk_drew ?_|refine blk_alloc ?_ _));exact BK228.out⟩,⟨by (with_reducible repeat (first|refine blk_drewN ?_ _|refine blk_drew ?_|refine blk_alloc ?_ _));exact BK229.out⟩,⟨by (with_reducible repeat (first|refine blk_drewN ?_ _|refine blk_drew ?_|refine blk_alloc ?_ _));exact BK236.out⟩,⟨by repeat (first|(with_reducible first|exact HI0.out|apply IsS66.alloc|apply IsS66.drewN|apply IsS66.drew|apply IsS66.set_1|refine IsS66.far ?_ NB0_228.out _|refine IsS66.far ?_ NB0_229.out _|refine IsS66.far ?_ NB0_236.out _)|exact HI0.out)⟩,⟨by repeat (first|(with_reducible first|exact HK.out|apply KeepBut.set_|apply keep_drewN|apply keep_drew|apply keep_alloc|refine keep_far ?_ GW228.out _|refine keep_far ?_ GW229.out _|refine keep_far ?_ GW236.out _)|exact HK.out)⟩,⟨by repeat (first|(with_reducible first|exact HB.out|apply below_alloc|apply pw_below_drewN|apply below_drew1|refine below_set ?_ (IsS66.ge HI0.out)|refine below_set ?_ GE228.out|refine below_set ?_ GE229.out|refine below_set ?_ GE236.out)|exact HB.out)⟩⟩
  ·rw [if_neg c17] at H
   have c17b0:decide (0 < (t233.length:Int))=false:=decide_eq_false c17
   have c17b1:decide (0 < t233.length)=false:=decide_eq_false (by omega)
   clear c17
   (first|rw [c17b0]|(simp only [i64_w,i32_w];rw [c17b0])|skip)
   have H':=Aside0.mk H
   clear H
   have hnb24:=NB236_228.out
   have hnc24:=NB228_236.out
   have hnb25:=NB236_229.out
   have hnc25:=NB229_236.out
   have hnb26:=NB236_0.out
   have hnc26:=NB0_236.out
   have hcz27_0:w11.cell? ⟨gb236,0,none⟩=some (.int .i64 0):=(blk_cell BK236.out 0).trans rfl
   have hcz27_1:w11.cell? ⟨gb236,1,none⟩=some (.int .i64 0):=(blk_cell BK236.out 1).trans rfl
   have hcz27_2:w11.cell? ⟨gb236,2,none⟩=some (.string (⟨#[]⟩:ByteArray)):=(blk_cell BK236.out 2).trans rfl
   have hcz27_3:w11.cell? ⟨gb236,3,none⟩=some (.slice none 0 0):=(blk_cell BK236.out 3).trans rfl
   have hfz27_0:=blk_frozen BK236.out 0
   have hfz27_1:=blk_frozen BK236.out 1
   have hfz27_2:=blk_frozen BK236.out 2
   have hfz27_3:=blk_frozen BK236.out 3
   go_wp2
   go_meet
   case rel=>exact ⟨_,(false),(s0_1),(by first|rfl|(simp;done)|(simp [*];done)),H',⟨by first|omega|exact Nat.le_refl _⟩,⟨by (with_reducible repeat (first|apply Kd.N_alloc|apply Kd.N_drewN|apply Kd.N_drew));exact Kd.N_mono (Kd.N_far (p:=⟨gb236,3,none⟩) (Kd.N_far (p:=⟨gb236,2,none⟩) (Kd.N_far (p:=⟨gb236,1,none⟩) (Kd.N_far (p:=⟨gb236,0,none⟩) (Kd.N_mono HO235.out (fun k_ hk=>(⟨hk,hk.2⟩:_∧k_ ≠ gb236))) (fun _ hk=>hk.2) (.int .i64 t230)) (fun _ hk=>hk.2) (.int .i64 t231)) (fun _ hk=>hk.2) (.string t232)) (fun _ hk=>hk.2) (.slice Ao16 t233.length co16)) (fun _ hk=>⟨hk.1.1.1,⟨hk.1.1.2.1,⟨hk.1.1.2.2.1,⟨hk.1.2,hk.1.1.2.2.2⟩⟩⟩⟩)⟩,⟨by (with_reducible repeat (first|refine blk_drewN ?_ _|refine blk_drew ?_|refine blk_alloc ?_ _));refine blk_far ?_ NB228_236.out _;(with_reducible repeat (first|refine blk_drewN ?_ _|refine blk_drew ?_|refine blk_alloc ?_ _));refine blk_far ?_ NB228_236.out _;(with_reducible repeat (first|refine blk_drewN ?_ _|refine blk_drew ?_|refine blk_alloc ?_ _));refine blk_far ?_ NB228_236.out _;(with_reducible repeat (first|refine blk_drewN ?_ _|refine blk_drew ?_|refine blk_alloc ?_ _));refine blk_far ?_ NB228_236.out _;(with_reducible repeat (first|refine blk_drewN ?_ _|refine blk_drew ?_|refine blk_alloc ?_ _));exact BK228.out⟩,⟨by (with_reducible repeat (first|refine blk_drewN ?_ _|refine blk_drew ?_|refine blk_alloc ?_ _));refine blk_far ?_ NB229_236.out _;(with_reducible repeat (first|refine blk_drewN ?_ _|refine blk_drew ?_|refine blk_alloc ?_ _));refine blk_far ?_ NB229_236.out _;(with_reducible repeat (first|refine blk_drewN ?_ _|refine blk_drew ?_|refine blk_alloc ?_ _));refine blk_far ?_ NB229_236.out _;(with_reducible repeat (first|refine blk_drewN ?_ _|refine blk_drew ?_|refine blk_alloc ?_ _));refine blk_far ?_ NB229_236.out _;(with_reducible repeat (first|refine blk_drewN ?_ _|refine blk_drew ?_|refine blk_alloc ?_ _));exact BK229.out⟩,⟨by (with_reducible repeat (first|refine blk_drewN ?_ _|refine blk_drew ?_|refine blk_alloc ?_ _));refine blk_put (cs:=#[.int .i64 t230,.int .i64 t231,.string t232,.slice none 0 0]) ?_ 3 _ rfl;(with_reducible repeat (first|refine blk_drewN ?_ _|refine blk_drew ?_|refine blk_alloc ?_ _));refine blk_put (cs:=#[.int .i64 t230,.int .i64 t231,.string (⟨#[]⟩:ByteArray),.slice none 0 0]) ?_ 2 _ rfl;(with_reducible repeat (first|refine blk_drewN ?_ _|refine blk_drew ?_|refine blk_alloc ?_ _));refine blk_put (cs:=#[.int .i64 t230,.int .i64 0,.string (⟨#[]⟩:ByteArray),.slice none 0 0]) ?_ 1 _ rfl;(with_reducible repeat (first|refine blk_drewN ?_ _|refine blk_drew ?_|refine blk_alloc ?_ _));refine blk_put (cs:=#[.int .i64 0,.int .i64 0,.string (⟨#[]⟩:ByteArray),.slice none 0 0]) ?_ 0 _ rfl;(with_reducible repeat (first|refine blk_drewN ?_ _|refine blk_drew ?_|refine blk_alloc ?_ _));exact BK236.out⟩,⟨by repeat (first|(with_reducible first|exact HI0.out|apply IsS66.alloc|apply IsS66.drewN|apply IsS66.drew|apply IsS66.set_1|refine IsS66.far ?_ NB0_228.out _|refine IsS66.far ?_ NB0_229.out _|refine IsS66.far ?_ NB0_236.out _)|exact HI0.out)⟩,⟨by repeat (first|(with_reducible first|exact HK.out|apply KeepBut.set_|apply keep_drewN|apply keep_drew|apply keep_alloc|refine keep_far ?_ GW228.out _|refine keep_far ?_ GW229.out _|refine keep_far ?_ GW236.out _)|exact HK.out)⟩,⟨by repeat (first|(with_reducible first|exact HB.out|apply below_alloc|apply pw_below_drewN|apply below_drew1|refine below_set ?_ (IsS66.ge HI0.out)|refine below_set ?_ GE228.out|refine below_set ?_ GE229.out|refine below_set ?_ GE236.out)|exact HB.out)⟩⟩
 case rest =>
  clear HC4
  try clear c1 c2 p2 c5 c7 c8 c12 c13 c14 c17 c17b0 c17b1 c19 c20 c21 c24 c25 c26 hcz15_0 hcz15_1 hcz15_2 hcz15_3 hcz22_0 hcz22_1 hcz22_2 hcz22_3 hcz27_0 hcz27_1 hcz27_2 hcz27_3 hcz9_0 hcz9_1 hcz9_2 hcz9_3 hfz15_0 hfz15_1 hfz15_2 hfz15_3 hfz22_0 hfz22_1 hfz22_2 hfz22_3 hfz27_0 hfz27_1 hfz27_2 hfz27_3 hfz9_0 hfz9_1 hfz9_2 hfz9_3
  obtain ⟨kq,x17_3,x1001_3,rfl,HA,HJ3,HO_237003,BK228,BK229,BK236,HI0,HK,HB⟩:=hcut
  cases kq with
  | zero=>exact absurd HA.out (by simp [spec_l1Mutate.j0])
  | succ kj3 =>
   have H:=HA.out
   clear HA
   simp only [spec_l1Mutate.j0] at H
   by_cases c28:x17_3=true
   ·subst c28
    have H1:((spec_l15Rd_pick.f kj3 s0_0 x1001_3 (t233.length:Int)).bind fun bt239=>(if 0≤bt239.1 then (if bt239.1 < (t233.length:Int) then ((spec_l1Mutate.f kj3 s0_0 bt239.2 ((rd_TDoc t233 bt239.1).f0) ((rd_TDoc t233 bt239.1).f1) ((rd_TDoc t233 bt239.1).f2) ((rd_TDoc t233 bt239.1).f3)).bind fun bt242=>(some (t230,t231,t232,(t233.set (bt239.1:Int).toNat (⟨bt242.1,bt242.2.1,bt242.2.2.1,bt242.2.2.2.1⟩:SDoc)),bt242.2.2.2.2))) else (none)) else (none)))=some (r1,r2,r3,r4,r5):=by rw [if_pos rfl] at H;exact H
    clear H
    have H:=H1
    clear H1
    replace H:=Option.bind_eq_some_iff.mp H
    obtain ⟨⟨t239,t240⟩,A290,H⟩:=H
    replace H:(if 0≤t239 then (if t239 < (t233.length:Int) then ((spec_l1Mutate.f kj3 s0_0 t240 ((rd_TDoc t233 t239).f0) ((rd_TDoc t233 t239).f1) ((rd_TDoc t233 t239).f2) ((rd_TDoc t233 t239).f3)).bind fun bt242=>(some (t230,t231,t232,(t233.set (t239:Int).toNat (⟨bt242.1,bt242.2.1,bt242.2.2.1,bt242.2.2.2.1⟩:SDoc)),bt242.2.2.2.2))) else (none)) else (none))=some (r1,r2,r3,r4,r5):=H
    have A29:=Aside0.mk A290
    clear A290
    by_cases c30:0≤t239
    ·rw [if_pos c30] at H
     have c30b0:decide (0≤t239)=true:=decide_eq_true c30
     clear c30
     by_cases c31:t239 < (t233.length:Int)
     ·rw [if_pos c31] at H
      have c31b0:decide (t239 < (t233.length:Int))=true:=decide_eq_true c31
      clear c31
      replace H:=Option.bind_eq_some_iff.mp H
      obtain ⟨⟨t242,t243,t244,t245,t248⟩,A320,H⟩:=H
      replace H:(some (t230,t231,t232,(t233.set (t239:Int).toNat (⟨t242,t243,t244,t245⟩:SDoc)),t248))=some (r1,r2,r3,r4,r5):=H
      have A32:=Aside0.mk A320
      clear A320
      obtain ⟨y249,hy249⟩:∃ y_:List (SDoc),y_=(t233.set (t239:Int).toNat (⟨t242,t243,t244,t245⟩:SDoc)):=⟨_,rfl⟩
      replace H:(some (t230,t231,t232,y249,t248))=some (r1,r2,r3,r4,r5):=by first|(rw [hy249];with_reducible exact H)|(have H2_:=(Option.bind_some _ _).symm.trans H;rw [hy249];with_reducible exact H2_)|(have H2_:=(Option.bind_some _ _).symm.trans H;with_reducible exact H2_)|with_reducible exact H|(rw [hy249];exact H)|exact H
      have Ny249:=Aside0.mk hy249
      clear hy249
      simp only [Option.some.injEq,Prod.mk.injEq] at H
      obtain ⟨rfl,rfl,rfl,rfl,rfl⟩:=H
      have hnb34:=NB236_228.out
      have hnc34:=NB228_236.out
      have hnb35:=NB236_229.out
      have hnc35:=NB229_236.out
      have hnb36:=NB236_0.out
      have hnc36:=NB0_236.out
      have hcz37_0:wc.cell? ⟨gb236,0,none⟩=some (.int .i64 t230):=(blk_cell BK236.out 0).trans rfl
      have hcz37_1:wc.cell? ⟨gb236,1,none⟩=some (.int .i64 t231):=(blk_cell BK236.out 1).trans rfl
      have hcz37_2:wc.cell? ⟨gb236,2,none⟩=some (.string t232):=(blk_cell BK236.out 2).trans rfl
      have hcz37_3:wc.cell? ⟨gb236,3,none⟩=some (.slice Ao16 t233.length co16):=(blk_cell BK236.out 3).trans rfl
      have hfz37_0:=blk_frozen BK236.out 0
      have hfz37_1:=blk_frozen BK236.out 1
      have hfz37_2:=blk_frozen BK236.out 2
      have hfz37_3:=blk_frozen BK236.out 3
      try go_wp2_with (first|((with_reducible refine gate_callee (f:=55) rfl ?_);refine goesL_ (some 22) rfl rfl Try.func55 (by kernel_rfl) rfl #[.pointer (some ⟨g,0,none⟩),.int .i64 (t233.length:Int)] rfl (by (try simp only [List.map_toArray,List.map_cons,List.map_nil]);first|done|rfl|(simp only [List.length_drop,List.length_take];rfl)) ?_;(with_reducible refine (spec_l15Rd_pick.calls kj3 g s0_0 x1001_3 (t233.length:Int) t239 t240 w0 _ ?side1 ?side2 A29.out).mono ?_);(case side1=>repeat (first|(with_reducible first|exact HI0.out|apply IsS66.alloc|apply IsS66.drewN|apply IsS66.drew|apply IsS66.set_1|refine IsS66.far ?_ NB0_228.out _|refine IsS66.far ?_ NB0_229.out _|refine IsS66.far ?_ NB0_236.out _)|exact HI0.out));(case side2=>repeat (first|(with_reducible first|exact HB.out|apply below_alloc|apply pw_below_drewN|apply below_drew1|refine below_set ?_ (IsS66.ge HI0.out)|refine below_set ?_ GE228.out|refine below_set ?_ GE229.out|refine below_set ?_ GE236.out)|exact HB.out));rintro e w38 ⟨rfl,hi,hb,hk⟩;refine ⟨_,rfl,?_⟩;have n0_:=Aside0.mk (Kd.N_mono (Kd.N_keep (Kd.N_mono (ok:=fun k_=>(((w.heap.size≤k_))∧(k_ ≠ gb228∧(k_ ≠ gb229∧(k_ ≠ gb236∧k_ ≠ g))))) (by (with_reducible repeat (first|apply Kd.N_alloc|apply Kd.N_drewN|apply Kd.N_drew));exact HO_237003.out) (fun k_ hk_=>(⟨hk_,hk_.2.2.2.2⟩:_∧k_ ≠ g))) hk (fun _ h=>h.2)) (fun _ h=>h.1));have n1_:=Aside0.mk (KeepBut.blk hk (g':=gb228) (o:=.cells #[.int .i64 a1_0,.int .i64 a1_1,.string a1_2,.slice A1_3 l1_3.length c1_3] 27 (0,0)) (by (with_reducible repeat (first|refine blk_drewN ?_ _|refine blk_drew ?_|refine blk_alloc ?_ _));exact BK228.out) NB228_0.out (by simp));have n2_:=Aside0.mk (KeepBut.blk hk (g':=gb229) (o:=.cells #[.int .i64 0,.int .i64 0,.string (⟨#[]⟩:ByteArray),.slice none 0 0] 27 (0,0)) (by (with_reducible repeat (first|refine blk_drewN ?_ _|refine blk_drew ?_|refine blk_alloc ?_ _));exact BK229.out) NB229_0.out (by simp));have n3_:=Aside0.mk (KeepBut.blk hk (g':=gb236) (o:=.cells #[.int .i64 t230,.int .i64 t231,.string t232,.slice Ao16 t233.length co16] 27 (0,0)) (by (with_reducible repeat (first|refine blk_drewN ?_ _|refine blk_drew ?_|refine blk_alloc ?_ _));exact BK236.out) NB236_0.out (by simp));have n4_:=Aside0.mk (KeepBut.trans (by repeat (first|(with_reducible first|exact HK.out|apply KeepBut.set_|apply keep_drewN|apply keep_drew|apply keep_alloc|refine keep_far ?_ GW228.out _|refine keep_far ?_ GW229.out _|refine keep_far ?_ GW236.out _)|exact HK.out)) hk (.inl rfl));have n5_:=Aside0.mk (hb);have n6_:=Aside0.mk (hi);clear HO_237003;clear BK228;clear BK229;clear BK236;clear HK;clear HB;clear HI0;have HO_237003:=n0_;have BK228:=n1_;have BK229:=n2_;have BK236:=n3_;have HK:=n4_;have HB:=n5_;have HI0:=n6_;clear n0_ n1_ n2_ n3_ n4_ n5_ n6_;(try clear hb);(try clear hb2);(try clear hk);(try clear hi)))
      have n0_:=Aside0.mk (Kd.N_drew HO_237003.out)
      have n1_:=Aside0.mk (blk_drew BK228.out)
      have n2_:=Aside0.mk (blk_drew BK229.out)
      have n3_:=Aside0.mk (blk_drew BK236.out)
      have n4_:=Aside0.mk (IsS66.drew HI0.out)
      have n5_:=Aside0.mk (keep_drew HK.out)
      have n6_:=Aside0.mk (below_drew1 HB.out)
      clear HO_237003
      clear BK228
      clear BK229
      clear BK236
      clear HI0
      clear HK
      clear HB
      have HO_237003:=n0_
      have BK228:=n1_
      have BK229:=n2_
      have BK236:=n3_
      have HI0:=n4_
      have HK:=n5_
      have HB:=n6_
      clear n0_ n1_ n2_ n3_ n4_ n5_ n6_
      have p241:0≤(t239:Int):=of_decide_eq_true (by first|(with_reducible assumption)|assumption)
      have q241:t239 < (t233.length:Int):=of_decide_eq_true (by first|(with_reducible assumption)|assumption)
      obtain ⟨ad241,A241_3,c241_3,e241,hx241_0,hx241_1,hx241_2,hx241_3,hl241_3,hi241_3⟩:=at_TDoc (Kd.N_reads' HO_237003.out).2.2 t239 p241 q241
      cases e241
      obtain ⟨ce241,hce241,hMe241,hcc241⟩:=Kd.N_get HO_237003.out zDoc t239 p241 (by first|exact q241|exact of_decide_eq_true (by first|(with_reducible assumption)|assumption)|(have e_:=(Kd.N_reads' HO_237003.out).1;omega))
      obtain ⟨ua241_3,uc241_3,rfl,ul241_3,ge241_3⟩:=k27_openF hMe241
      have hv241_3:=hcc241 3 _ rfl
      rw [add_field _ _ 3 (by omega)] at hv241_3
      replace hv241_3:=Option.some.inj (hv241_3.symm.trans hx241_3)
      injection hv241_3 with hva_ hvn_ hvc_
      rw [hva_] at ge241_3
      rw [hvc_] at ul241_3
      have HL241_3:=Aside0.mk (show Kd.V k27 27 _ w.heap.size _ _ ((rd_TDoc t233 t239).f3) from Kd.V_mk ul241_3 ge241_3)
      clear hva_ hvn_ hvc_ ge241_3 ul241_3
      clear hcc241 hce241
      have HR241_3:=Aside0.mk hi241_3
      have HC241_3:=Aside0.mk hl241_3
      clear hi241_3 hl241_3
      replace p241:=eq_true p241
      replace q241:=eq_true q241
      refine start_ (n:=12) (S:=fun w'=>w'.cell? ⟨gb236,0,none⟩=some (.int .i64 t230)∧w'.cell? ⟨gb236,1,none⟩=some (.int .i64 t231)∧w'.cell? ⟨gb236,2,none⟩=some (.string t232)∧w'.cell? ⟨gb236,3,none⟩=some (.slice (some ad241) t233.length co16)∧w'.cell? (ad241.add ((t239).toNat * 4))=some (.int .i64 ((rd_TDoc t233 t239).f0))∧w'.cell? ⟨(ad241.add ((t239).toNat * 4)).block,(ad241.add ((t239).toNat * 4)).off+1,none⟩=some (.int .i64 ((rd_TDoc t233 t239).f1))∧w'.cell? ⟨(ad241.add ((t239).toNat * 4)).block,(ad241.add ((t239).toNat * 4)).off+2,none⟩=some (.string ((rd_TDoc t233 t239).f2))∧w'.cell? ⟨(ad241.add ((t239).toNat * 4)).block,(ad241.add ((t239).toNat * 4)).off+3,none⟩=some (.slice A241_3 ((rd_TDoc t233 t239).f3).length c241_3)) (ds:=[11]) #[false,false,false,false,false,false,false,false,false,false,false,false] (by kernel_rfl) rfl rfl ⟨(blk_cell BK236.out 0).trans rfl,(blk_cell BK236.out 1).trans rfl,(blk_cell BK236.out 2).trans rfl,(blk_cell BK236.out 3).trans rfl,hx241_0,hx241_1,hx241_2,hx241_3⟩ (fun hHeld=>?_);refine with_tabW spec_l1Mutate.tab4 spec_l1Mutate.bits4 (fun HT_ HW_=>?_)
      generalize w38.drew=w39 at HO_237003 BK228 BK229 BK236 HI0 HK HB HL241_3 HR241_3 hx241_0 hx241_1 hx241_2 hx241_3 hHeld ⊢
      refine pure_ (i:=0) (N:=some 23) (v:=?_) (a':=?_) #[true,false,false,false,false,false,false,false,false,false,false,false] rfl rfl (any_of HT_.out (by kernel_rfl)) (fun _ _ _ h=>h) (Or.inl ⟨by rfl,?_⟩) ?_ ?_
      rotate_left
      ·intro w'
       go_simp
       with_reducible rfl
      rotate_left
      ·simp only [Act.put,List.setIfInBounds_toArray,List.set_cons_zero,List.set_cons_succ,i64_w,i32_w]
       rfl
      refine pure_ (i:=2) (N:=some 25) (v:=?_) (a':=?_) #[true,false,true,false,false,false,false,false,false,false,false,false] rfl rfl (any_of HT_.out (by kernel_rfl)) (fun _ _ _ h=>h) (Or.inl ⟨by rfl,?_⟩) ?_ ?_
      rotate_left
      ·intro w'
       go_simp
       with_reducible rfl
      rotate_left
      ·simp only [Act.put,List.setIfInBounds_toArray,List.set_cons_zero,List.set_cons_succ,i64_w,i32_w]
       rfl
      refine pure_ (i:=3) (N:=some 26) (v:=?_) (a':=?_) #[true,false,true,true,false,false,false,false,false,false,false,false] rfl rfl (any_of HT_.out (by kernel_rfl)) (fun _ _ _ h=>h) (Or.inl ⟨by rfl,?_⟩) ?_ ?_
      rotate_left
      ·intro w'
       go_simp
       with_reducible rfl
      rotate_left
      ·simp only [Act.put,List.setIfInBounds_toArray,List.set_cons_zero,List.set_cons_succ,i64_w,i32_w]
       rfl
      refine pure_ (i:=4) (N:=some 27) (v:=?_) (a':=?_) #[true,false,true,true,true,false,false,false,false,false,false,false] rfl rfl (any_of HT_.out (by kernel_rfl)) (fun _ _ _ h=>h) (Or.inl ⟨by rfl,?_⟩) ?_ ?_
      rotate_left
      ·intro w'
       go_simp
       with_reducible rfl
      rotate_left
      ·simp only [Act.put,List.setIfInBounds_toArray,List.set_cons_zero,List.set_cons_succ,i64_w,i32_w]
       rfl
      refine pure_ (i:=6) (N:=some 29) (v:=?_) (a':=?_) #[true,false,true,true,true,false,true,false,false,false,false,false] rfl rfl (any_of HT_.out (by kernel_rfl)) (fun _ _ _ h=>h) (Or.inl ⟨by rfl,?_⟩) ?_ ?_
      rotate_left
      ·intro w'
       go_simp
       with_reducible rfl
      rotate_left
      ·simp only [Act.put,List.setIfInBounds_toArray,List.set_cons_zero,List.set_cons_succ,i64_w,i32_w]
       rfl
      refine take_ (i:=1) (N:=some 24) (v:=?_) (a':=?_) #[true,true,true,true,true,false,true,false,false,false,false,false] rfl rfl (take_ofW HT_.out HW_.out (by kernel_rfl)) (fun _ _ _ h=>h) (Or.inl ⟨by rfl,?_⟩) hHeld ?_ ?_
      rotate_left
      ·rintro w' ⟨s0,s1,s2,s3,s4,s5,s6,s7⟩
       go_simp
       with_reducible rfl
      rotate_left
      ·simp only [Act.put,List.setIfInBounds_toArray,List.set_cons_zero,List.set_cons_succ,i64_w,i32_w]
       rfl
      refine take_ (i:=5) (N:=some 28) (v:=?_) (a':=?_) #[true,true,true,true,true,true,true,false,false,false,false,false] rfl rfl (take_ofW HT_.out HW_.out (by kernel_rfl)) (fun _ _ _ h=>h) (Or.inl ⟨by rfl,?_⟩) hHeld ?_ ?_
      rotate_left
      ·rintro w' ⟨s0,s1,s2,s3,s4,s5,s6,s7⟩
       go_simp
       with_reducible rfl
      rotate_left
      ·simp only [Act.put,List.setIfInBounds_toArray,List.set_cons_zero,List.set_cons_succ,i64_w,i32_w]
       rfl
      refine pure_ (i:=7) (N:=some 30) (v:=?_) (a':=?_) #[true,true,true,true,true,true,true,true,false,false,false,false] rfl rfl (any_of HT_.out (by kernel_rfl)) (fun _ _ _ h=>h) (Or.inl ⟨by rfl,?_⟩) ?_ ?_
      rotate_left
      ·intro w'
       go_simp
       with_reducible rfl
      rotate_left
      ·simp only [Act.put,List.setIfInBounds_toArray,List.set_cons_zero,List.set_cons_succ,i64_w,i32_w]
       rfl
      refine take_ (i:=8) (N:=some 31) (v:=?_) (a':=?_) #[true,true,true,true,true,true,true,true,true,false,false,false] rfl rfl (take_ofW HT_.out HW_.out (by kernel_rfl)) (fun _ _ _ h=>h) (Or.inl ⟨by rfl,?_⟩) hHeld ?_ ?_
      rotate_left
      ·rintro w' ⟨s0,s1,s2,s3,s4,s5,s6,s7⟩
       go_simp
       with_reducible rfl
      rotate_left
      ·simp only [Act.put,List.setIfInBounds_toArray,List.set_cons_zero,List.set_cons_succ,i64_w,i32_w]
       rfl
      refine one_ (i:=9) (N:=some 32) #[true,true,true,true,true,true,true,true,true,true,false,false] rfl rfl (one_of HT_.out (by kernel_rfl)) (by decide) (fun K hK=>?_)
      refine goes_ Try.func50 (by kernel_rfl) rfl #[.pointer (some ⟨g,0,none⟩),.agg #[.int .i64 ((rd_TDoc t233 t239).f0),.int .i64 ((rd_TDoc t233 t239).f1),.string ((rd_TDoc t233 t239).f2),.slice A241_3 ((rd_TDoc t233 t239).f3).length c241_3]] (by rfl) rfl rfl (by (try simp only [List.map_toArray,List.map_cons,List.map_nil]);first|done|rfl|(simp only [List.length_drop,List.length_take];rfl)) ?_
      with_reducible refine (ih kj3 (by have:=HJ3.out;omega) g s0_0 t240 ((rd_TDoc t233 t239).f0) ((rd_TDoc t233 t239).f1) ((rd_TDoc t233 t239).f2) _ _ ((rd_TDoc t233 t239).f3) t242 t243 t244 t245 t248 w0 _ ?side1 ?side2 ?side3 ?side4 A32.out).mono ?_
      (case side1=>repeat (first|(with_reducible first|exact HI0.out|apply IsS66.alloc|apply IsS66.drewN|apply IsS66.drew|apply IsS66.set_1|refine IsS66.far ?_ NB0_228.out _|refine IsS66.far ?_ NB0_229.out _|refine IsS66.far ?_ NB0_236.out _)|exact HI0.out))
      (case side2=>repeat (first|(with_reducible first|exact HB.out|apply below_alloc|apply pw_below_drewN|apply below_drew1|refine below_set ?_ (IsS66.ge HI0.out)|refine below_set ?_ GE228.out|refine below_set ?_ GE229.out|refine below_set ?_ GE236.out)|exact HB.out))
      (case side3=>exact Kd.C_foot_ownV (e:=0) (base:=0) (Kd.V_mono (ok:=fun k_=>((((w.heap.size≤k_))∧(k_ ≠ gb228∧(k_ ≠ gb229∧(k_ ≠ gb236∧k_ ≠ g))))∧some k_ ≠ (.slice (some ad241) t233.length co16:Value).ownBlock)) (by (with_reducible repeat (first|apply Kd.V_alloc|apply Kd.V_drewN|apply Kd.V_drew));exact HL241_3.out) (fun k_ hk_=>(⟨hk_,hk_.1.2.2.2.2⟩:_∧k_ ≠ g))) (fun _ h_=>h_.2))
      (case side4=>exact HC241_3.out)
      rintro e w40 ⟨v246,rfl,ho0,hi,hb,hk⟩
      have HS4_:=keep_cell hk (hHeld.2.2.2.2.1) (by first|(rw [add_block];exact Kd.own_blk (IsS66.own_neN HI0.out HO_237003.out (by decide)))|(show (Addr.add _ _).block ≠ _;rw [add_block];exact Kd.own_blk (IsS66.own_neN HI0.out HO_237003.out (by decide)))|exact Kd.own_blk (IsS66.own_neN HI0.out HO_237003.out (by decide)))
      have HS5_:=keep_cell hk (hHeld.2.2.2.2.2.1) (by first|(rw [add_block];exact Kd.own_blk (IsS66.own_neN HI0.out HO_237003.out (by decide)))|(show (Addr.add _ _).block ≠ _;rw [add_block];exact Kd.own_blk (IsS66.own_neN HI0.out HO_237003.out (by decide)))|exact Kd.own_blk (IsS66.own_neN HI0.out HO_237003.out (by decide)))
      have HS6_:=keep_cell hk (hHeld.2.2.2.2.2.2.1) (by first|(rw [add_block];exact Kd.own_blk (IsS66.own_neN HI0.out HO_237003.out (by decide)))|(show (Addr.add _ _).block ≠ _;rw [add_block];exact Kd.own_blk (IsS66.own_neN HI0.out HO_237003.out (by decide)))|exact Kd.own_blk (IsS66.own_neN HI0.out HO_237003.out (by decide)))
      have HS7_:=keep_cell hk (hHeld.2.2.2.2.2.2.2) (by first|(rw [add_block];exact Kd.own_blk (IsS66.own_neN HI0.out HO_237003.out (by decide)))|(show (Addr.add _ _).block ≠ _;rw [add_block];exact Kd.own_blk (IsS66.own_neN HI0.out HO_237003.out (by decide)))|exact Kd.own_blk (IsS66.own_neN HI0.out HO_237003.out (by decide)))
      refine ⟨_,rfl,?_⟩
      have n0_:=Aside0.mk (Kd.N_mono (Kd.N_told (Kd.N_oldK (Kd.N_mono (ok:=fun k_=>(((w.heap.size≤k_))∧(k_ ≠ gb228∧(k_ ≠ gb229∧(k_ ≠ gb236∧k_ ≠ g))))) (by (with_reducible repeat (first|apply Kd.N_alloc|apply Kd.N_drewN|apply Kd.N_drew));exact HO_237003.out) (fun k_ hk_=>(⟨hk_,hk_.2.2.2.2⟩:_∧k_ ≠ g))) hk) (Kd.N_base ho0)) (fun _ h_=>h_.1))
      have n1_:=Aside0.mk (KeepBut.blk hk (g':=gb228) (o:=.cells #[.int .i64 a1_0,.int .i64 a1_1,.string a1_2,.slice A1_3 l1_3.length c1_3] 27 (0,0)) (by (with_reducible repeat (first|refine blk_drewN ?_ _|refine blk_drew ?_|refine blk_alloc ?_ _));exact BK228.out) NB228_0.out (by simp))
      have n2_:=Aside0.mk (KeepBut.blk hk (g':=gb229) (o:=.cells #[.int .i64 0,.int .i64 0,.string (⟨#[]⟩:ByteArray),.slice none 0 0] 27 (0,0)) (by (with_reducible repeat (first|refine blk_drewN ?_ _|refine blk_drew ?_|refine blk_alloc ?_ _));exact BK229.out) NB229_0.out (by simp))
      have n3_:=Aside0.mk (KeepBut.blk hk (g':=gb236) (o:=.cells #[.int .i64 t230,.int .i64 t231,.string t232,.slice (some ad241) t233.length co16] 27 (0,0)) (by (with_reducible repeat (first|refine blk_drewN ?_ _|refine blk_drew ?_|refine blk_alloc ?_ _));exact BK236.out) NB236_0.out (by simp))
      have n4_:=Aside0.mk (Kd.V_mono (Kd.V_told (Kd.V_oldK (Kd.V_mono (ok:=fun k_=>((((w.heap.size≤k_))∧(k_ ≠ gb228∧(k_ ≠ gb229∧(k_ ≠ gb236∧k_ ≠ g))))∧some k_ ≠ (.slice (some ad241) t233.length co16:Value).ownBlock)) (by (with_reducible repeat (first|apply Kd.V_alloc|apply Kd.V_drewN|apply Kd.V_drew));exact HL241_3.out) (fun k_ hk_=>(⟨hk_,hk_.1.2.2.2.2⟩:_∧k_ ≠ g))) hk) (Kd.N_base ho0)) (fun _ h_=>h_.1))
      have n5_:=Aside0.mk (Kd.N_lower (Kd.N_mono (ok':=fun k_=>(w.heap.size≤k_)∧some k_ ≠ (.slice (some ad241) t233.length co16:Value).ownBlock∧k_ ≠ gb228∧k_ ≠ gb229∧k_ ≠ gb236∧k_ ≠ g) ho0 (fun k_ hk_=>⟨(Nat.le_trans (keep_size (w:=w) (g:=g) (row:=none) (by repeat (first|(with_reducible first|exact HK.out|apply KeepBut.set_|apply keep_drewN|apply keep_drew|apply keep_alloc|refine keep_far ?_ GW228.out _|refine keep_far ?_ GW229.out _|refine keep_far ?_ GW236.out _)|exact HK.out))) hk_),(Kd.fresh' (Kd.N_lt (by (with_reducible repeat (first|apply Kd.N_alloc|apply Kd.N_drewN|apply Kd.N_drew));exact HO_237003.out)) k_ hk_),(Kd.freshB (g:=gb228) (o:=.cells #[.int .i64 a1_0,.int .i64 a1_1,.string a1_2,.slice A1_3 l1_3.length c1_3] 27 (0,0)) (by (with_reducible repeat (first|refine blk_drewN ?_ _|refine blk_drew ?_|refine blk_alloc ?_ _));exact BK228.out) k_ hk_),(Kd.freshB (g:=gb229) (o:=.cells #[.int .i64 0,.int .i64 0,.string (⟨#[]⟩:ByteArray),.slice none 0 0] 27 (0,0)) (by (with_reducible repeat (first|refine blk_drewN ?_ _|refine blk_drew ?_|refine blk_alloc ?_ _));exact BK229.out) k_ hk_),(Kd.freshB (g:=gb236) (o:=.cells #[.int .i64 t230,.int .i64 t231,.string t232,.slice (some ad241) t233.length co16] 27 (0,0)) (by (with_reducible repeat (first|refine blk_drewN ?_ _|refine blk_drew ?_|refine blk_alloc ?_ _));exact BK236.out) k_ hk_),(IsS66.fresh (by repeat (first|(with_reducible first|exact HI0.out|apply IsS66.alloc|apply IsS66.drewN|apply IsS66.drew|apply IsS66.set_1|refine IsS66.far ?_ NB0_228.out _|refine IsS66.far ?_ NB0_229.out _|refine IsS66.far ?_ NB0_236.out _)|exact HI0.out)) k_ hk_)⟩)) (keep_size (w:=w) (g:=g) (row:=none) (by repeat (first|(with_reducible first|exact HK.out|apply KeepBut.set_|apply keep_drewN|apply keep_drew|apply keep_alloc|refine keep_far ?_ GW228.out _|refine keep_far ?_ GW229.out _|refine keep_far ?_ GW236.out _)|exact HK.out))))
      have n6_:=Aside0.mk (KeepBut.trans (by repeat (first|(with_reducible first|exact HK.out|apply KeepBut.set_|apply keep_drewN|apply keep_drew|apply keep_alloc|refine keep_far ?_ GW228.out _|refine keep_far ?_ GW229.out _|refine keep_far ?_ GW236.out _)|exact HK.out)) hk (.inl rfl))
      have n7_:=Aside0.mk (hb)
      have n8_:=Aside0.mk (hi)
      clear HO_237003
      clear BK228
      clear BK229
      clear BK236
      clear HL241_3
      clear HK
      clear HB
      clear HI0
      have HO_237003:=n0_
      have BK228:=n1_
      have BK229:=n2_
      have BK236:=n3_
      have HL241_3:=n4_
      have HO247:=n5_
      have HK:=n6_
      have HB:=n7_
      have HI0:=n8_
      clear n0_ n1_ n2_ n3_ n4_ n5_ n6_ n7_ n8_
      (try clear hb)
      (try clear hb2)
      (try clear hk)
      (try clear hi)
      (try clear ho0)
      have p33:0≤(t239:Int):=of_decide_eq_true (by first|(with_reducible assumption)|assumption)
      have q33:(t239:Int) < ((t233.length:Int):Int):=of_decide_eq_true (by first|(with_reducible assumption)|assumption)
      obtain ⟨go33,co33,eo33,gb33,gl33,cl33,HG33⟩:=Kd.N_form HO_237003.out (by omega)
      (first|cases eo33|(injection eo33 with ea_ en_ ec_;(first|subst ea_|(injection ea_ with ea_;subst ea_));subst ec_;clear en_))
      have GB33:=Aside0.mk gb33
      have GG33:=Aside0.mk HG33
      clear gb33 gl33 HG33
      (first|simp only [add_plain] at hx241_0|skip)
      (first|simp only [add_plain] at hx241_1|skip)
      (first|simp only [add_plain] at hx241_2|skip)
      (first|simp only [add_plain] at hx241_3|skip)
      obtain ⟨ce33,hcl33,hM33,hcc33,hfr33⟩:=Kd.N_elem HO_237003.out zDoc (t239:Int) p33 q33
      obtain ⟨ua33_3,uc33_3,rfl,ul33_3,ge33_3⟩:=k27_openF hM33
      have hx33_0:World.cell? _ ⟨go33,(t239:Int).toNat * 4,none⟩=some (.int .i64 ((rd_TDoc t233 t239).f0)):=hcc33 0 _ rfl
      have hx33_1:World.cell? _ ⟨go33,(t239:Int).toNat * 4+1,none⟩=some (.int .i64 ((rd_TDoc t233 t239).f1)):=hcc33 1 _ rfl
      have hx33_2:World.cell? _ ⟨go33,(t239:Int).toNat * 4+2,none⟩=some (.string ((rd_TDoc t233 t239).f2)):=hcc33 2 _ rfl
      have hx33_3:World.cell? _ ⟨go33,(t239:Int).toNat * 4+3,none⟩=some (.slice ua33_3 ((rd_TDoc t233 t239).f3).length uc33_3):=hcc33 3 _ rfl
      have hf33_0:World.frozen? _ ⟨go33,(t239:Int).toNat * 4,none⟩=false:=hfr33 0
      have hf33_1:World.frozen? _ ⟨go33,(t239:Int).toNat * 4+1,none⟩=false:=hfr33 1
      have hf33_2:World.frozen? _ ⟨go33,(t239:Int).toNat * 4+2,none⟩=false:=hfr33 2
      have hf33_3:World.frozen? _ ⟨go33,(t239:Int).toNat * 4+3,none⟩=false:=hfr33 3
      clear hcl33 hcc33 hfr33 hM33
      replace p33:=eq_true p33
      replace q33:=eq_true q33
      obtain ⟨Ao41,co41,eo41⟩:=Kd.N_slice HO247.out
      (first|subst eo41|(injection eo41 with f1_ f2_ f3_;have f4_:=f1_.symm;have f5_:=f3_.symm;clear f1_ f2_ f3_;subst f4_;subst f5_))
      have HN0_go33:=Aside0.mk (show g ≠ go33 from by have h_:=IsS66.own_neN HI0.out HO_237003.out (by decide);intro e_;exact h_ (by rw [e_];rfl))
      have HX42:=Aside0.mk (show Kd.N k27 27 _ w.heap.size (fun k_=>(w.heap.size≤k_)∧some k_ ≠ (.slice Ao41 t245.length co41:Value).ownBlock∧k_ ≠ gb228∧k_ ≠ gb229∧k_ ≠ gb236∧k_ ≠ g) (.slice (some ⟨go33,0,none⟩) t233.length co16) t233 from (Kd.N_mono (HO_237003.out) (fun k_ hk=>⟨hk.1.1,⟨hk.2,⟨hk.1.2.1,⟨hk.1.2.2.1,⟨hk.1.2.2.2.1,hk.1.2.2.2.2⟩⟩⟩⟩⟩)))
      replace HX42:=Aside0.mk (show Kd.N k27 27 _ w.heap.size (fun k_=>(w.heap.size≤k_)∧k_ ≠ gb228∧k_ ≠ gb229∧k_ ≠ gb236∧k_ ≠ g) (.slice (some ⟨go33,0,none⟩) t233.length co16) t233 from Kd.N_mono HX42.out (fun k_ hk=>⟨hk.1,⟨hk.2.2.1,⟨hk.2.2.2.1,⟨hk.2.2.2.2.1,hk.2.2.2.2.2⟩⟩⟩⟩))
      obtain ⟨ce42,hcl42,hM42,hcc42,hfr42⟩:=Kd.N_elem HX42.out zDoc (t239:Int) (of_decide_eq_true (by first|(with_reducible assumption)|assumption)) (by have h_:(t239:Int) < ((t233.length:Int):Int):=of_decide_eq_true (by first|(with_reducible assumption)|assumption);first|exact h_|(have e_:=(Kd.N_reads' HO_237003.out).1;omega)|simpa using h_)
      obtain ⟨ua42_3,uc42_3,rfl,ul42_3,ge42_3⟩:=k27_openF hM42
      have HP42:=(Kd.N_seg HX42.out (t239:Int) (of_decide_eq_true (by first|(with_reducible assumption)|assumption)) (by have h_:(t239:Int) < ((t233.length:Int):Int):=of_decide_eq_true (by first|(with_reducible assumption)|assumption);first|exact h_|(have e_:=(Kd.N_reads' HO_237003.out).1;omega)|simpa using h_) (seg:=[.int .i64 t242,.int .i64 t243,.string t244,.slice Ao41 t245.length co41]) (j:=0) hcl42 hcc42 (show 4≤4 from by decide) (x':=(⟨t242,t243,t244,t245⟩:SDoc)) (k27_mkF _ _ (⟨t242,t243,t244,t245⟩:SDoc) (Kd.N_reads' (Kd.N_mono (ok':=(fun k_=>((fun k_=>(w.heap.size≤k_)∧k_ ≠ gb228∧k_ ≠ gb229∧k_ ≠ gb236∧k_ ≠ g)) k_∧k_ ≠ go33)) (HO247.out) (fun k_ hk=>⟨⟨hk.1,⟨hk.2.2.1,⟨hk.2.2.2.1,⟨hk.2.2.2.2.1,hk.2.2.2.2.2⟩⟩⟩⟩,fun e_=>(hk.2.1) (by rw [e_];rfl)⟩))).2.1 (Kd.N_F (Kd.N_mono (ok':=(fun k_=>((fun k_=>(w.heap.size≤k_)∧k_ ≠ gb228∧k_ ≠ gb229∧k_ ≠ gb236∧k_ ≠ g)) k_∧k_ ≠ go33)) (HO247.out) (fun k_ hk=>⟨⟨hk.1,⟨hk.2.2.1,⟨hk.2.2.2.1,⟨hk.2.2.2.2.1,hk.2.2.2.2.2⟩⟩⟩⟩,fun e_=>(hk.2.1) (by rw [e_];rfl)⟩)))) (fun _ hk=>hk)).1
      rw [← Ny249.out] at HP42
      have HQ42:=Aside0.mk HP42
      clear hcl42 hcc42 hfr42 hM42 HP42
      refine hK.out _ _ ⟨(blk_cell BK236.out 0).trans rfl,(blk_cell BK236.out 1).trans rfl,(blk_cell BK236.out 2).trans rfl,(blk_cell BK236.out 3).trans rfl,HS4_,HS5_,HS6_,HS7_⟩ (fun hHeld=>?_)
      clear hK K
      refine norm_ (a':=?_) ?_ ?_
      rotate_left
      ·show Act.put _ (some 32) _=_
       simp only [Act.put,List.setIfInBounds_toArray,List.set_cons_zero,List.set_cons_succ,i64_w,i32_w]
       rfl
      refine pure_ (i:=10) (N:=some 33) (v:=?_) (a':=?_) #[true,true,true,true,true,true,true,true,true,true,true,false] rfl rfl (any_of HT_.out (by kernel_rfl)) (fun _ _ _ h=>h) (Or.inl ⟨by rfl,?_⟩) ?_ ?_
      rotate_left
      ·intro w'
       go_simp
       with_reducible rfl
      rotate_left
      ·simp only [Act.put,List.setIfInBounds_toArray,List.set_cons_zero,List.set_cons_succ,i64_w,i32_w]
       rfl
      refine last_ (i:=11) (N:=none) #[true,true,true,true,true,true,true,true,true,true,true,true] rfl rfl (one_of HT_.out (by kernel_rfl)) (by decide) (fun K hK=>?_)
      refine skip_ (w1:=?_) (by rfl) rfl ?_ ?_
      rotate_left
      ·go_simp
       rfl
      refine hK.out _ _ ?_
      clear hK K
      refine done_ (done_of HT_.out (by kernel_rfl)) ?_
      have n0_:Aside0 (Kd.N k27 27 ((((w40.setCell ⟨go33,(t239:Int).toNat * 4,none⟩ (.int .i64 t242)).setCell ⟨go33,(t239:Int).toNat * 4+1,none⟩ (.int .i64 t243)).setCell ⟨go33,(t239:Int).toNat * 4+2,none⟩ (.string t244)).setCell ⟨go33,(t239:Int).toNat * 4+3,none⟩ (.slice Ao41 t245.length co41)) w.heap.size (fun k_=>(w.heap.size≤k_)∧k_ ≠ gb228∧k_ ≠ gb229∧k_ ≠ gb236∧k_ ≠ g) (.slice (some ⟨go33,0,none⟩) t233.length co16) y249):=⟨by (with_reducible repeat (first|apply Kd.N_alloc|apply Kd.N_drewN|apply Kd.N_drew));exact HQ42.out⟩
      have n1_:Aside0 (Kd.V k27 27 ((((w40.setCell ⟨go33,(t239:Int).toNat * 4,none⟩ (.int .i64 t242)).setCell ⟨go33,(t239:Int).toNat * 4+1,none⟩ (.int .i64 t243)).setCell ⟨go33,(t239:Int).toNat * 4+2,none⟩ (.string t244)).setCell ⟨go33,(t239:Int).toNat * 4+3,none⟩ (.slice Ao41 t245.length co41)) w.heap.size (fun k_=>(w.heap.size≤k_)∧some k_ ≠ (.slice (some ⟨go33,0,none⟩) t233.length co16:Value).ownBlock∧k_ ≠ gb228∧k_ ≠ gb229∧k_ ≠ gb236∧k_ ≠ g) (.slice A241_3 ((rd_TDoc t233 t239).f3).length c241_3) ((rd_TDoc t233 t239).f3)):=⟨by (with_reducible repeat (first|apply Kd.V_alloc|apply Kd.V_drewN|apply Kd.V_drew));exact Kd.V_mono (Kd.V_far (p:=⟨go33,(t239:Int).toNat * 4+3,none⟩) (Kd.V_far (p:=⟨go33,(t239:Int).toNat * 4+2,none⟩) (Kd.V_far (p:=⟨go33,(t239:Int).toNat * 4+1,none⟩) (Kd.V_far (p:=⟨go33,(t239:Int).toNat * 4,none⟩) (Kd.V_mono HL241_3.out (fun k_ hk=>(⟨hk,fun e_=>hk.1.2 (by rw [e_];rfl)⟩:_∧k_ ≠ go33))) (fun _ hk=>hk.2) (.int .i64 t242)) (fun _ hk=>hk.2) (.int .i64 t243)) (fun _ hk=>hk.2) (.string t244)) (fun _ hk=>hk.2) (.slice Ao41 t245.length co41)) (fun _ hk=>⟨hk.1.1.1.1,⟨hk.1.1.2,⟨hk.1.1.1.2.1,⟨hk.1.1.1.2.2.1,⟨hk.1.1.1.2.2.2.1,hk.1.1.1.2.2.2.2⟩⟩⟩⟩⟩)⟩
      have n2_:Aside0 (((((w40.setCell ⟨go33,(t239:Int).toNat * 4,none⟩ (.int .i64 t242)).setCell ⟨go33,(t239:Int).toNat * 4+1,none⟩ (.int .i64 t243)).setCell ⟨go33,(t239:Int).toNat * 4+2,none⟩ (.string t244)).setCell ⟨go33,(t239:Int).toNat * 4+3,none⟩ (.slice Ao41 t245.length co41)).heap[gb228]?=some (.cells #[.int .i64 a1_0,.int .i64 a1_1,.string a1_2,.slice A1_3 l1_3.length c1_3] 27 (0,0))):=⟨by (with_reducible repeat (first|refine blk_drewN ?_ _|refine blk_drew ?_|refine blk_alloc ?_ _));refine blk_far ?_ (by have h_:=Kd.N_away HO_237003.out (fun _ hk=>by first|exact hk.2.1|exact hk.1.2.1|exact hk.1.1.2.1);intro e_;exact h_ (by rw [e_];rfl)) _;(with_reducible repeat (first|refine blk_drewN ?_ _|refine blk_drew ?_|refine blk_alloc ?_ _));refine blk_far ?_ (by have h_:=Kd.N_away HO_237003.out (fun _ hk=>by first|exact hk.2.1|exact hk.1.2.1|exact hk.1.1.2.1);intro e_;exact h_ (by rw [e_];rfl)) _;(with_reducible repeat (first|refine blk_drewN ?_ _|refine blk_drew ?_|refine blk_alloc ?_ _));refine blk_far ?_ (by have h_:=Kd.N_away HO_237003.out (fun _ hk=>by first|exact hk.2.1|exact hk.1.2.1|exact hk.1.1.2.1);intro e_;exact h_ (by rw [e_];rfl)) _;(with_reducible repeat (first|refine blk_drewN ?_ _|refine blk_drew ?_|refine blk_alloc ?_ _));refine blk_far ?_ (by have h_:=Kd.N_away HO_237003.out (fun _ hk=>by first|exact hk.2.1|exact hk.1.2.1|exact hk.1.1.2.1);intro e_;exact h_ (by rw [e_];rfl)) _;(with_reducible repeat (first|refine blk_drewN ?_ _|refine blk_drew ?_|refine blk_alloc ?_ _));exact BK228.out⟩
      have n3_:Aside0 (((((w40.setCell ⟨go33,(t239:Int).toNat * 4,none⟩ (.int .i64 t242)).setCell ⟨go33,(t239:Int).toNat * 4+1,none⟩ (.int .i64 t243)).setCell ⟨go33,(t239:Int).toNat * 4+2,none⟩ (.string t244)).setCell ⟨go33,(t239:Int).toNat * 4+3,none⟩ (.slice Ao41 t245.length co41)).heap[gb229]?=some (.cells #[.int .i64 0,.int .i64 0,.string (⟨#[]⟩:ByteArray),.slice none 0 0] 27 (0,0))):=⟨by (with_reducible repeat (first|refine blk_drewN ?_ _|refine blk_drew ?_|refine blk_alloc ?_ _));refine blk_far ?_ (by have h_:=Kd.N_away HO_237003.out (fun _ hk=>by first|exact hk.2.2.1|exact hk.1.2.2.1|exact hk.1.1.2.2.1);intro e_;exact h_ (by rw [e_];rfl)) _;(with_reducible repeat (first|refine blk_drewN ?_ _|refine blk_drew ?_|refine blk_alloc ?_ _));refine blk_far ?_ (by have h_:=Kd.N_away HO_237003.out (fun _ hk=>by first|exact hk.2.2.1|exact hk.1.2.2.1|exact hk.1.1.2.2.1);intro e_;exact h_ (by rw [e_];rfl)) _;(with_reducible repeat (first|refine blk_drewN ?_ _|refine blk_drew ?_|refine blk_alloc ?_ _));refine blk_far ?_ (by have h_:=Kd.N_away HO_237003.out (fun _ hk=>by first|exact hk.2.2.1|exact hk.1.2.2.1|exact hk.1.1.2.2.1);intro e_;exact h_ (by rw [e_];rfl)) _;(with_reducible repeat (first|refine blk_drewN ?_ _|refine blk_drew ?_|refine blk_alloc ?_ _));refine blk_far ?_ (by have h_:=Kd.N_away HO_237003.out (fun _ hk=>by first|exact hk.2.2.1|exact hk.1.2.2.1|exact hk.1.1.2.2.1);intro e_;exact h_ (by rw [e_];rfl)) _;(with_reducible repeat (first|refine blk_drewN ?_ _|refine blk_drew ?_|refine blk_alloc ?_ _));exact BK229.out⟩
      have n4_:Aside0 (((((w40.setCell ⟨go33,(t239:Int).toNat * 4,none⟩ (.int .i64 t242)).setCell ⟨go33,(t239:Int).toNat * 4+1,none⟩ (.int .i64 t243)).setCell ⟨go33,(t239:Int).toNat * 4+2,none⟩ (.string t244)).setCell ⟨go33,(t239:Int).toNat * 4+3,none⟩ (.slice Ao41 t245.length co41)).heap[gb236]?=some (.cells #[.int .i64 t230,.int .i64 t231,.string t232,.slice (some ⟨go33,0,none⟩) t233.length co16] 27 (0,0))):=⟨by (with_reducible repeat (first|refine blk_drewN ?_ _|refine blk_drew ?_|refine blk_alloc ?_ _));refine blk_far ?_ (by have h_:=Kd.N_away HO_237003.out (fun _ hk=>by first|exact hk.2.2.2.1|exact hk.1.2.2.2.1|exact hk.1.1.2.2.2.1);intro e_;exact h_ (by rw [e_];rfl)) _;(with_reducible repeat (first|refine blk_drewN ?_ _|refine blk_drew ?_|refine blk_alloc ?_ _));refine blk_far ?_ (by have h_:=Kd.N_away HO_237003.out (fun _ hk=>by first|exact hk.2.2.2.1|exact hk.1.2.2.2.1|exact hk.1.1.2.2.2.1);intro e_;exact h_ (by rw [e_];rfl)) _;(with_reducible repeat (first|refine blk_drewN ?_ _|refine blk_drew ?_|refine blk_alloc ?_ _));refine blk_far ?_ (by have h_:=Kd.N_away HO_237003.out (fun _ hk=>by first|exact hk.2.2.2.1|exact hk.1.2.2.2.1|exact hk.1.1.2.2.2.1);intro e_;exact h_ (by rw [e_];rfl)) _;(with_reducible repeat (first|refine blk_drewN ?_ _|refine blk_drew ?_|refine blk_alloc ?_ _));refine blk_far ?_ (by have h_:=Kd.N_away HO_237003.out (fun _ hk=>by first|exact hk.2.2.2.1|exact hk.1.2.2.2.1|exact hk.1.1.2.2.2.1);intro e_;exact h_ (by rw [e_];rfl)) _;(with_reducible repeat (first|refine blk_drewN ?_ _|refine blk_drew ?_|refine blk_alloc ?_ _));exact BK236.out⟩
      have n5_:Aside0 (IsS66 w0 ((((w40.setCell ⟨go33,(t239:Int).toNat * 4,none⟩ (.int .i64 t242)).setCell ⟨go33,(t239:Int).toNat * 4+1,none⟩ (.int .i64 t243)).setCell ⟨go33,(t239:Int).toNat * 4+2,none⟩ (.string t244)).setCell ⟨go33,(t239:Int).toNat * 4+3,none⟩ (.slice Ao41 t245.length co41)) g s0_0 t248):=⟨by repeat (first|(with_reducible first|exact HI0.out|apply IsS66.alloc|apply IsS66.drewN|apply IsS66.drew|apply IsS66.set_1|refine IsS66.far ?_ HN0_go33.out _|refine IsS66.far ?_ HN0_go33.out _|refine IsS66.far ?_ HN0_go33.out _|refine IsS66.far ?_ HN0_go33.out _|refine IsS66.far ?_ NB0_228.out _|refine IsS66.far ?_ NB0_229.out _|refine IsS66.far ?_ NB0_236.out _)|exact HI0.out)⟩
      have n6_:Aside0 (KeepBut w ((((w40.setCell ⟨go33,(t239:Int).toNat * 4,none⟩ (.int .i64 t242)).setCell ⟨go33,(t239:Int).toNat * 4+1,none⟩ (.int .i64 t243)).setCell ⟨go33,(t239:Int).toNat * 4+2,none⟩ (.string t244)).setCell ⟨go33,(t239:Int).toNat * 4+3,none⟩ (.slice Ao41 t245.length co41)) g none):=⟨by repeat (first|(with_reducible first|exact HK.out|apply KeepBut.set_|apply keep_drewN|apply keep_drew|apply keep_alloc|refine keep_far ?_ GB33.out _|refine keep_far ?_ GB33.out _|refine keep_far ?_ GB33.out _|refine keep_far ?_ GB33.out _|refine keep_far ?_ GW228.out _|refine keep_far ?_ GW229.out _|refine keep_far ?_ GW236.out _)|exact HK.out)⟩
      have n7_:Aside0 (Below w0.heap.size w0 ((((w40.setCell ⟨go33,(t239:Int).toNat * 4,none⟩ (.int .i64 t242)).setCell ⟨go33,(t239:Int).toNat * 4+1,none⟩ (.int .i64 t243)).setCell ⟨go33,(t239:Int).toNat * 4+2,none⟩ (.string t244)).setCell ⟨go33,(t239:Int).toNat * 4+3,none⟩ (.slice Ao41 t245.length co41))):=⟨by repeat (first|(with_reducible first|exact HB.out|apply below_alloc|apply pw_below_drewN|apply below_drew1|refine below_set ?_ (Nat.le_trans HL.out GB33.out)|refine below_set ?_ (Nat.le_trans HL.out GB33.out)|refine below_set ?_ (Nat.le_trans HL.out GB33.out)|refine below_set ?_ (Nat.le_trans HL.out GB33.out)|refine below_set ?_ (IsS66.ge HI0.out)|refine below_set ?_ GE228.out|refine below_set ?_ GE229.out|refine below_set ?_ GE236.out)|exact HB.out)⟩
      (try clear HO_237003)
      (try clear HL241_3)
      (try clear BK228)
      (try clear BK229)
      (try clear BK236)
      (try clear HI0)
      (try clear HK)
      (try clear HB)
      generalize ((((w40.setCell ⟨go33,(t239:Int).toNat * 4,none⟩ (.int .i64 t242)).setCell ⟨go33,(t239:Int).toNat * 4+1,none⟩ (.int .i64 t243)).setCell ⟨go33,(t239:Int).toNat * 4+2,none⟩ (.string t244)).setCell ⟨go33,(t239:Int).toNat * 4+3,none⟩ (.slice Ao41 t245.length co41))=w43 at n0_ n1_ n2_ n3_ n4_ n5_ n6_ n7_ ⊢
      have HO_237003:=n0_
      have HL241_3:=n1_
      have BK228:=n2_
      have BK229:=n3_
      have BK236:=n4_
      have HI0:=n5_
      have HK:=n6_
      have HB:=n7_
      clear n0_ n1_ n2_ n3_ n4_ n5_ n6_ n7_
      have hcz44_0:w43.cell? ⟨gb236,0,none⟩=some (.int .i64 t230):=(blk_cell BK236.out 0).trans rfl
      have hcz44_1:w43.cell? ⟨gb236,1,none⟩=some (.int .i64 t231):=(blk_cell BK236.out 1).trans rfl
      have hcz44_2:w43.cell? ⟨gb236,2,none⟩=some (.string t232):=(blk_cell BK236.out 2).trans rfl
      have hcz44_3:w43.cell? ⟨gb236,3,none⟩=some (.slice (some ⟨go33,0,none⟩) t233.length co16):=(blk_cell BK236.out 3).trans rfl
      have hfz44_0:=blk_frozen BK236.out 0
      have hfz44_1:=blk_frozen BK236.out 1
      have hfz44_2:=blk_frozen BK236.out 2
      have hfz44_3:=blk_frozen BK236.out 3
      have hnb45:=NB229_228.out
      have hnc45:=NB228_229.out
      have hnb46:=NB229_0.out
      have hnc46:=NB0_229.out
      have hcz47_0:w43.cell? ⟨gb229,0,none⟩=some (.int .i64 0):=(blk_cell BK229.out 0).trans rfl
      have hcz47_1:w43.cell? ⟨gb229,1,none⟩=some (.int .i64 0):=(blk_cell BK229.out 1).trans rfl
      have hcz47_2:w43.cell? ⟨gb229,2,none⟩=some (.string (⟨#[]⟩:ByteArray)):=(blk_cell BK229.out 2).trans rfl
      have hcz47_3:w43.cell? ⟨gb229,3,none⟩=some (.slice none 0 0):=(blk_cell BK229.out 3).trans rfl
      have hfz47_0:=blk_frozen BK229.out 0
      have hfz47_1:=blk_frozen BK229.out 1
      have hfz47_2:=blk_frozen BK229.out 2
      have hfz47_3:=blk_frozen BK229.out 3
      try go_wp2
      refine bodyPost_ret (results_cell_row rfl _ _ gb229 27 #[.int .i64 t230,.int .i64 t231,.string t232,.slice (some ⟨go33,0,none⟩) t233.length co16] (0,0) _ rfl (by (with_reducible repeat (first|refine blk_drewN ?_ _|refine blk_drew ?_|refine blk_alloc ?_ _));refine blk_put (cs:=#[.int .i64 t230,.int .i64 t231,.string t232,.slice none 0 0]) ?_ 3 _ rfl;(with_reducible repeat (first|refine blk_drewN ?_ _|refine blk_drew ?_|refine blk_alloc ?_ _));refine blk_put (cs:=#[.int .i64 t230,.int .i64 t231,.string (⟨#[]⟩:ByteArray),.slice none 0 0]) ?_ 2 _ rfl;(with_reducible repeat (first|refine blk_drewN ?_ _|refine blk_drew ?_|refine blk_alloc ?_ _));refine blk_put (cs:=#[.int .i64 t230,.int .i64 0,.string (⟨#[]⟩:ByteArray),.slice none 0 0]) ?_ 1 _ rfl;(with_reducible repeat (first|refine blk_drewN ?_ _|refine blk_drew ?_|refine blk_alloc ?_ _));refine blk_put (cs:=#[.int .i64 0,.int .i64 0,.string (⟨#[]⟩:ByteArray),.slice none 0 0]) ?_ 0 _ rfl;(with_reducible repeat (first|refine blk_drewN ?_ _|refine blk_drew ?_|refine blk_alloc ?_ _));exact BK229.out) Try.underlying27 rfl (by kernel_rfl)) rfl ?_
      exact ⟨_,by first|rfl|(simp [errW_none,errW_some] <;> rfl)|(simp [*,errW_none,errW_some] <;> rfl),by (with_reducible repeat (first|apply Kd.N_alloc|apply Kd.N_drewN|apply Kd.N_drew));exact Kd.N_mono (Kd.N_far (p:=⟨gb229,3,none⟩) (Kd.N_far (p:=⟨gb229,2,none⟩) (Kd.N_far (p:=⟨gb229,1,none⟩) (Kd.N_far (p:=⟨gb229,0,none⟩) (Kd.N_mono HO_237003.out (fun k_ hk=>(⟨hk,hk.2.2.1⟩:_∧k_ ≠ gb229))) (fun _ hk=>hk.2) (.int .i64 t230)) (fun _ hk=>hk.2) (.int .i64 t231)) (fun _ hk=>hk.2) (.string t232)) (fun _ hk=>hk.2) (.slice (some ⟨go33,0,none⟩) t233.length co16)) (fun _ hk=>hk.1.1),by repeat (first|(with_reducible first|exact HI0.out|apply IsS66.alloc|apply IsS66.drewN|apply IsS66.drew|apply IsS66.set_1|refine IsS66.far ?_ NB0_228.out _|refine IsS66.far ?_ NB0_229.out _|refine IsS66.far ?_ NB0_236.out _)|exact HI0.out),by repeat (first|(with_reducible first|exact HB.out|apply below_alloc|apply pw_below_drewN|apply below_drew1|refine below_set ?_ (IsS66.ge HI0.out)|refine below_set ?_ GE228.out|refine below_set ?_ GE229.out|refine below_set ?_ GE236.out)|exact HB.out),by repeat (first|(with_reducible first|exact HK.out|apply KeepBut.set_|apply keep_drewN|apply keep_drew|apply keep_alloc|refine keep_far ?_ GW228.out _|refine keep_far ?_ GW229.out _|refine keep_far ?_ GW236.out _)|exact HK.out)⟩
     ·rw [if_neg c31] at H
      exact absurd H (by simp)
    ·rw [if_neg c30] at H
     exact absurd H (by simp)
   ·replace c28:=Bool.eq_false_iff.mpr c28
    subst c28
    have H1:((spec_l15Rd_pick.f kj3 s0_0 x1001_3 14).bind fun bt250=>(if bt250.1=0 then ((spec_l15Rd_num.f kj3 s0_0 bt250.2 (([0,9,1,3,7]:List Int))).bind fun bt255=>(some (bt255.1,t231,t232,t233,bt255.2))) else (if bt250.1=1 then ((spec_l15Rd_num.f kj3 s0_0 bt250.2 (([10,(-1),1]:List Int))).bind fun bt260=>(some (t230,bt260.1,t232,t233,bt260.2))) else (if bt250.1=2 then ((spec_l15Rd_of.f kj3 s0_0 bt250.2 (([(⟨#[]⟩:ByteArray),(⟨#[65]⟩:ByteArray),(⟨#[97,98,99,100,101,102,103,104,105,106,107,108,109]⟩:ByteArray),(⟨#[120,32,121]⟩:ByteArray),(⟨#[122]⟩:ByteArray)]:List ByteArray))).bind fun bt265=>(some (t230,t231,bt265.1,t233,bt265.2))) else (if bt250.1=3 then (if t233.length < 2513169434916 then (some (t230,t231,t232,(t233++[(⟨1,0,(⟨#[]⟩:ByteArray),([]:List (SDoc))⟩:SDoc)]),bt250.2)) else (none)) else (some (t230,t231,t232,t233,bt250.2)))))))=some (r1,r2,r3,r4,r5):=by rw [if_neg (show ¬ (false=true) by decide)] at H;exact H
    clear H
    have H:=H1
    clear H1
    replace H:=Option.bind_eq_some_iff.mp H
    obtain ⟨⟨t250,t251⟩,A480,H⟩:=H
    replace H:(if t250=0 then ((spec_l15Rd_num.f kj3 s0_0 t251 (([0,9,1,3,7]:List Int))).bind fun bt255=>(some (bt255.1,t231,t232,t233,bt255.2))) else (if t250=1 then ((spec_l15Rd_num.f kj3 s0_0 t251 (([10,(-1),1]:List Int))).bind fun bt260=>(some (t230,bt260.1,t232,t233,bt260.2))) else (if t250=2 then ((spec_l15Rd_of.f kj3 s0_0 t251 (([(⟨#[]⟩:ByteArray),(⟨#[65]⟩:ByteArray),(⟨#[97,98,99,100,101,102,103,104,105,106,107,108,109]⟩:ByteArray),(⟨#[120,32,121]⟩:ByteArray),(⟨#[122]⟩:ByteArray)]:List ByteArray))).bind fun bt265=>(some (t230,t231,bt265.1,t233,bt265.2))) else (if t250=3 then (if t233.length < 2513169434916 then (some (t230,t231,t232,(t233++[(⟨1,0,(⟨#[]⟩:ByteArray),([]:List (SDoc))⟩:SDoc)]),t251)) else (none)) else (some (t230,t231,t232,t233,t251))))))=some (r1,r2,r3,r4,r5):=H
    have A48:=Aside0.mk A480
    clear A480
    by_cases c49:t250=0
    ·rw [if_pos c49] at H
     have c49b0:(t250 == 0)=true:=beq_iff_eq.mpr c49
     have c49b1:(t250 != 0)=false:=bne_eq_false_iff_eq.mpr c49
     clear c49
     obtain ⟨y252,hy252⟩:∃ y_:List Int,y_=(([0,9,1,3,7]:List Int)):=⟨_,rfl⟩
     replace H:((spec_l15Rd_num.f kj3 s0_0 t251 y252).bind fun bt255=>(some (bt255.1,t231,t232,t233,bt255.2)))=some (r1,r2,r3,r4,r5):=by first|(rw [hy252];with_reducible exact H)|(have H2_:=(Option.bind_some _ _).symm.trans H;rw [hy252];with_reducible exact H2_)|(have H2_:=(Option.bind_some _ _).symm.trans H;with_reducible exact H2_)|with_reducible exact H|(rw [hy252];exact H)|exact H
     have Ny252:=Aside0.mk hy252
     clear hy252
     replace H:=Option.bind_eq_some_iff.mp H
     obtain ⟨⟨t255,t256⟩,A500,H⟩:=H
     replace H:(some (t255,t231,t232,t233,t256))=some (r1,r2,r3,r4,r5):=H
     have A50:=Aside0.mk A500
     clear A500
     simp only [Option.some.injEq,Prod.mk.injEq] at H
     obtain ⟨rfl,rfl,rfl,rfl,rfl⟩:=H
     go_wp2_with (first|((with_reducible refine gate_callee (f:=55) rfl ?_);refine goesL_ (some 36) rfl rfl Try.func55 (by kernel_rfl) rfl #[.pointer (some ⟨g,0,none⟩),.int .i64 14] rfl (by (try simp only [List.map_toArray,List.map_cons,List.map_nil]);first|done|rfl|(simp only [List.length_drop,List.length_take];rfl)) ?_;(with_reducible refine (spec_l15Rd_pick.calls kj3 g s0_0 x1001_3 14 t250 t251 w0 _ ?side1 ?side2 A48.out).mono ?_);(case side1=>repeat (first|(with_reducible first|exact HI0.out|apply IsS66.alloc|apply IsS66.drewN|apply IsS66.drew|apply IsS66.set_1|refine IsS66.far ?_ NB0_228.out _|refine IsS66.far ?_ NB0_229.out _|refine IsS66.far ?_ NB0_236.out _)|exact HI0.out));(case side2=>repeat (first|(with_reducible first|exact HB.out|apply below_alloc|apply pw_below_drewN|apply below_drew1|refine below_set ?_ (IsS66.ge HI0.out)|refine below_set ?_ GE228.out|refine below_set ?_ GE229.out|refine below_set ?_ GE236.out)|exact HB.out));rintro e w51 ⟨rfl,hi,hb,hk⟩;refine ⟨_,rfl,?_⟩;have n0_:=Aside0.mk (Kd.N_mono (Kd.N_keep (Kd.N_mono (ok:=fun k_=>(((w.heap.size≤k_))∧(k_ ≠ gb228∧(k_ ≠ gb229∧(k_ ≠ gb236∧k_ ≠ g))))) (by (with_reducible repeat (first|apply Kd.N_alloc|apply Kd.N_drewN|apply Kd.N_drew));exact HO_237003.out) (fun k_ hk_=>(⟨hk_,hk_.2.2.2.2⟩:_∧k_ ≠ g))) hk (fun _ h=>h.2)) (fun _ h=>h.1));have n1_:=Aside0.mk (KeepBut.blk hk (g':=gb228) (o:=.cells #[.int .i64 a1_0,.int .i64 a1_1,.string a1_2,.slice A1_3 l1_3.length c1_3] 27 (0,0)) (by (with_reducible repeat (first|refine blk_drewN ?_ _|refine blk_drew ?_|refine blk_alloc ?_ _));exact BK228.out) NB228_0.out (by simp));have n2_:=Aside0.mk (KeepBut.blk hk (g':=gb229) (o:=.cells #[.int .i64 0,.int .i64 0,.string (⟨#[]⟩:ByteArray),.slice none 0 0] 27 (0,0)) (by (with_reducible repeat (first|refine blk_drewN ?_ _|refine blk_drew ?_|refine blk_alloc ?_ _));exact BK229.out) NB229_0.out (by simp));have n3_:=Aside0.mk (KeepBut.blk hk (g':=gb236) (o:=.cells #[.int .i64 t230,.int .i64 t231,.string t232,.slice Ao16 t233.length co16] 27 (0,0)) (by (with_reducible repeat (first|refine blk_drewN ?_ _|refine blk_drew ?_|refine blk_alloc ?_ _));exact BK236.out) NB236_0.out (by simp));have n4_:=Aside0.mk (KeepBut.trans (by repeat (first|(with_reducible first|exact HK.out|apply KeepBut.set_|apply keep_drewN|apply keep_drew|apply keep_alloc|refine keep_far ?_ GW228.out _|refine keep_far ?_ GW229.out _|refine keep_far ?_ GW236.out _)|exact HK.out)) hk (.inl rfl));have n5_:=Aside0.mk (hb);have n6_:=Aside0.mk (hi);clear HO_237003;clear BK228;clear BK229;clear BK236;clear HK;clear HB;clear HI0;have HO_237003:=n0_;have BK228:=n1_;have BK229:=n2_;have BK236:=n3_;have HK:=n4_;have HB:=n5_;have HI0:=n6_;clear n0_ n1_ n2_ n3_ n4_ n5_ n6_;(try clear hb);(try clear hb2);(try clear hk);(try clear hi))|((with_reducible refine gate_dst (N:=40) rfl ?_);refine Kd.R_lit (Kd.int .i64) _ 3 ?hg (N:=40) ?hd (xs:=([0,9,1,3,7]:List Int)) (inner:=[.int .i64 0,.int .i64 9,.int .i64 1,.int .i64 3,.int .i64 7]) (ok:=fun _=>True) (okp:=fun _=>True) ?hr ?hp (fun _ hk=>hk) trivial (Below.refl _ _) (Nat.le_refl _) (by simp) ?_;(case hd=>rfl);(case hg=>rfl);(case hr=>first|(go_simp;done)|(go_simp;rfl));(case hp=>exact (Reps.one (show Kd.M (Kd.int .i64) _ _ _ 0 [.int .i64 0] from rfl) (Reps.one (show Kd.M (Kd.int .i64) _ _ _ 9 [.int .i64 9] from rfl) (Reps.one (show Kd.M (Kd.int .i64) _ _ _ 1 [.int .i64 1] from rfl) (Reps.one (show Kd.M (Kd.int .i64) _ _ _ 3 [.int .i64 3] from rfl) (Reps.one (show Kd.M (Kd.int .i64) _ _ _ 7 [.int .i64 7] from rfl) (Reps.none _ _)))))));intro v253 w52 ho53 hb hg_ hnew_;clear hg_ hnew_;(first|rw [← Ny252.out] at ho53|(simp only [Int.reduceToNat] at ho53;rw [← Ny252.out] at ho53));have n0_:=Aside0.mk (Kd.N_elder' (by (with_reducible repeat (first|apply Kd.N_alloc|apply Kd.N_drewN|apply Kd.N_drew));exact HO_237003.out) (Kd.R_base ho53) hb);have n1_:=Aside0.mk (Kd.R_lower (Kd.R_newM (M:=fun k_=>(w.heap.size≤k_)) ho53 (keep_size (w:=w) (g:=g) (row:=none) (by repeat (first|(with_reducible first|exact HK.out|apply KeepBut.set_|apply keep_drewN|apply keep_drew|apply keep_alloc|refine keep_far ?_ GW228.out _|refine keep_far ?_ GW229.out _|refine keep_far ?_ GW236.out _)|exact HK.out))) (fun k_ h_=>h_)) (keep_size (w:=w) (g:=g) (row:=none) (by repeat (first|(with_reducible first|exact HK.out|apply KeepBut.set_|apply keep_drewN|apply keep_drew|apply keep_alloc|refine keep_far ?_ GW228.out _|refine keep_far ?_ GW229.out _|refine keep_far ?_ GW236.out _)|exact HK.out))));have n2_:=Aside0.mk (blk_below (g:=gb228) (o:=.cells #[.int .i64 a1_0,.int .i64 a1_1,.string a1_2,.slice A1_3 l1_3.length c1_3] 27 (0,0)) (by (with_reducible repeat (first|refine blk_drewN ?_ _|refine blk_drew ?_|refine blk_alloc ?_ _));exact BK228.out) hb);have n3_:=Aside0.mk (blk_below (g:=gb229) (o:=.cells #[.int .i64 0,.int .i64 0,.string (⟨#[]⟩:ByteArray),.slice none 0 0] 27 (0,0)) (by (with_reducible repeat (first|refine blk_drewN ?_ _|refine blk_drew ?_|refine blk_alloc ?_ _));exact BK229.out) hb);have n4_:=Aside0.mk (blk_below (g:=gb236) (o:=.cells #[.int .i64 t230,.int .i64 t231,.string t232,.slice Ao16 t233.length co16] 27 (0,0)) (by (with_reducible repeat (first|refine blk_drewN ?_ _|refine blk_drew ?_|refine blk_alloc ?_ _));exact BK236.out) hb);have n5_:=Aside0.mk (IsS66.below (by repeat (first|(with_reducible first|exact HI0.out|apply IsS66.alloc|apply IsS66.drewN|apply IsS66.drew|apply IsS66.set_1|refine IsS66.far ?_ NB0_228.out _|refine IsS66.far ?_ NB0_229.out _|refine IsS66.far ?_ NB0_236.out _)|exact HI0.out)) hb);have n6_:=Aside0.mk (KeepBut.trans (by repeat (first|(with_reducible first|exact HK.out|apply KeepBut.set_|apply keep_drewN|apply keep_drew|apply keep_alloc|refine keep_far ?_ GW228.out _|refine keep_far ?_ GW229.out _|refine keep_far ?_ GW236.out _)|exact HK.out)) (KeepBut.of_below hb g none) (.inl rfl));have n7_:=Aside0.mk (below_step (by repeat (first|(with_reducible first|exact HB.out|apply below_alloc|apply pw_below_drewN|apply below_drew1|refine below_set ?_ (IsS66.ge HI0.out)|refine below_set ?_ GE228.out|refine below_set ?_ GE229.out|refine below_set ?_ GE236.out)|exact HB.out)) hb);clear HO_237003;clear BK228;clear BK229;clear BK236;clear HI0;clear HK;clear HB;have HO_237003:=n0_;have HO254:=n1_;have BK228:=n2_;have BK229:=n3_;have BK236:=n4_;have HI0:=n5_;have HK:=n6_;have HB:=n7_;clear n0_ n1_ n2_ n3_ n4_ n5_ n6_ n7_;clear hb ho53;obtain ⟨Ao54,co54,eo54⟩:=Kd.R_slice HO254.out;subst eo54)|((with_reducible refine gate_callee (f:=49) rfl ?_);refine goesL_ (some 41) rfl rfl Try.func49 (by kernel_rfl) rfl #[.pointer (some ⟨g,0,none⟩),.slice Ao54 y252.length co54] rfl (by (try simp only [List.map_toArray,List.map_cons,List.map_nil]);first|done|rfl|(simp only [List.length_drop,List.length_take];rfl)) ?_;(with_reducible refine (spec_l15Rd_num.calls kj3 g s0_0 t251 _ _ y252 t255 t256 w0 _ ?side1 ?side2 ?side3 ?side4 ?side5 A50.out).mono ?_);(case side1=>repeat (first|(with_reducible first|exact HI0.out|apply IsS66.alloc|apply IsS66.drewN|apply IsS66.drew|apply IsS66.set_1|refine IsS66.far ?_ NB0_228.out _|refine IsS66.far ?_ NB0_229.out _|refine IsS66.far ?_ NB0_236.out _)|exact HI0.out));(case side2=>repeat (first|(with_reducible first|exact HB.out|apply below_alloc|apply pw_below_drewN|apply below_drew1|refine below_set ?_ (IsS66.ge HI0.out)|refine below_set ?_ GE228.out|refine below_set ?_ GE229.out|refine below_set ?_ GE236.out)|exact HB.out));(case side3=>repeat (first|exact (Kd.R_reads' HO254.out).2.2|(with_reducible refine Kd.C_alloc ?_ _)|(with_reducible refine Kd.C_drewN ?_ _)|(with_reducible refine Kd.C_drew ?_)));(case side4=>exact (Kd.R_reads' HO254.out).2.1);(case side5=>exact far_slice (IsS66.own_ne HI0.out HO254.out (by decide)));rintro e w55 ⟨rfl,hi,hb,hk⟩;refine ⟨_,rfl,?_⟩;have n0_:=Aside0.mk (Kd.N_mono (Kd.N_keep (Kd.N_mono (ok:=fun k_=>((((w.heap.size≤k_))∧(k_ ≠ gb228∧(k_ ≠ gb229∧(k_ ≠ gb236∧k_ ≠ g))))∧some k_ ≠ (.slice Ao54 y252.length co54:Value).ownBlock)) (by (with_reducible repeat (first|apply Kd.N_alloc|apply Kd.N_drewN|apply Kd.N_drew));exact HO_237003.out) (fun k_ hk_=>(⟨hk_,hk_.1.2.2.2.2⟩:_∧k_ ≠ g))) hk (fun _ h=>h.2)) (fun _ h=>h.1));have n1_:=Aside0.mk (KeepBut.blk hk (g':=gb228) (o:=.cells #[.int .i64 a1_0,.int .i64 a1_1,.string a1_2,.slice A1_3 l1_3.length c1_3] 27 (0,0)) (by (with_reducible repeat (first|refine blk_drewN ?_ _|refine blk_drew ?_|refine blk_alloc ?_ _));exact BK228.out) NB228_0.out (by simp));have n2_:=Aside0.mk (KeepBut.blk hk (g':=gb229) (o:=.cells #[.int .i64 0,.int .i64 0,.string (⟨#[]⟩:ByteArray),.slice none 0 0] 27 (0,0)) (by (with_reducible repeat (first|refine blk_drewN ?_ _|refine blk_drew ?_|refine blk_alloc ?_ _));exact BK229.out) NB229_0.out (by simp));have n3_:=Aside0.mk (KeepBut.blk hk (g':=gb236) (o:=.cells #[.int .i64 t230,.int .i64 t231,.string t232,.slice Ao16 t233.length co16] 27 (0,0)) (by (with_reducible repeat (first|refine blk_drewN ?_ _|refine blk_drew ?_|refine blk_alloc ?_ _));exact BK236.out) NB236_0.out (by simp));have n4_:=Aside0.mk (Kd.R_mono (Kd.R_keep (IsS66.apart (show IsS66 w0 _ g s0_0 t251 from by repeat (first|(with_reducible first|exact HI0.out|apply IsS66.alloc|apply IsS66.drewN|apply IsS66.drew|apply IsS66.set_1|refine IsS66.far ?_ NB0_228.out _|refine IsS66.far ?_ NB0_229.out _|refine IsS66.far ?_ NB0_236.out _)|exact HI0.out)) (by (with_reducible repeat (first|apply Kd.R_alloc|apply Kd.R_drewN|apply Kd.R_drew));exact HO254.out) (by decide)) hk (fun _ h=>h.2)) (fun _ h=>h.1));have n5_:=Aside0.mk (KeepBut.trans (by repeat (first|(with_reducible first|exact HK.out|apply KeepBut.set_|apply keep_drewN|apply keep_drew|apply keep_alloc|refine keep_far ?_ GW228.out _|refine keep_far ?_ GW229.out _|refine keep_far ?_ GW236.out _)|exact HK.out)) hk (.inl rfl));have n6_:=Aside0.mk (hb);have n7_:=Aside0.mk (hi);clear HO_237003;clear BK228;clear BK229;clear BK236;clear HO254;clear HK;clear HB;clear HI0;have HO_237003:=n0_;have BK228:=n1_;have BK229:=n2_;have BK236:=n3_;have HO254:=n4_;have HK:=n5_;have HB:=n6_;have HI0:=n7_;clear n0_ n1_ n2_ n3_ n4_ n5_ n6_ n7_;(try clear hb);(try clear hb2);(try clear hk);(try clear hi);have hnb56:=NB236_228.out;have hnc56:=NB228_236.out;have hnb57:=NB236_229.out;have hnc57:=NB229_236.out;have hnb58:=NB236_0.out;have hnc58:=NB0_236.out;have hcz59_0:w55.cell? ⟨gb236,0,none⟩=some (.int .i64 t230):=(blk_cell BK236.out 0).trans rfl;have hcz59_1:w55.cell? ⟨gb236,1,none⟩=some (.int .i64 t231):=(blk_cell BK236.out 1).trans rfl;have hcz59_2:w55.cell? ⟨gb236,2,none⟩=some (.string t232):=(blk_cell BK236.out 2).trans rfl;have hcz59_3:w55.cell? ⟨gb236,3,none⟩=some (.slice Ao16 t233.length co16):=(blk_cell BK236.out 3).trans rfl;have hfz59_0:=blk_frozen BK236.out 0;have hfz59_1:=blk_frozen BK236.out 1;have hfz59_2:=blk_frozen BK236.out 2;have hfz59_3:=blk_frozen BK236.out 3;have hnb60:=NB229_228.out;have hnc60:=NB228_229.out;have hnb61:=NB229_0.out;have hnc61:=NB0_229.out;have hcz62_0:w55.cell? ⟨gb229,0,none⟩=some (.int .i64 0):=(blk_cell BK229.out 0).trans rfl;have hcz62_1:w55.cell? ⟨gb229,1,none⟩=some (.int .i64 0):=(blk_cell BK229.out 1).trans rfl;have hcz62_2:w55.cell? ⟨gb229,2,none⟩=some (.string (⟨#[]⟩:ByteArray)):=(blk_cell BK229.out 2).trans rfl;have hcz62_3:w55.cell? ⟨gb229,3,none⟩=some (.slice none 0 0):=(blk_cell BK229.out 3).trans rfl;have hfz62_0:=blk_frozen BK229.out 0;have hfz62_1:=blk_frozen BK229.out 1;have hfz62_2:=blk_frozen BK229.out 2;have hfz62_3:=blk_frozen BK229.out 3))
     refine bodyPost_ret (results_cell_row rfl _ _ gb229 27 #[.int .i64 t255,.int .i64 t231,.string t232,.slice Ao16 t233.length co16] (0,0) _ rfl (by (with_reducible repeat (first|refine blk_drewN ?_ _|refine blk_drew ?_|refine blk_alloc ?_ _));refine blk_put (cs:=#[.int .i64 t255,.int .i64 t231,.string t232,.slice none 0 0]) ?_ 3 _ rfl;(with_reducible repeat (first|refine blk_drewN ?_ _|refine blk_drew ?_|refine blk_alloc ?_ _));refine blk_put (cs:=#[.int .i64 t255,.int .i64 t231,.string (⟨#[]⟩:ByteArray),.slice none 0 0]) ?_ 2 _ rfl;(with_reducible repeat (first|refine blk_drewN ?_ _|refine blk_drew ?_|refine blk_alloc ?_ _));refine blk_put (cs:=#[.int .i64 t255,.int .i64 0,.string (⟨#[]⟩:ByteArray),.slice none 0 0]) ?_ 1 _ rfl;(with_reducible repeat (first|refine blk_drewN ?_ _|refine blk_drew ?_|refine blk_alloc ?_ _));refine blk_put (cs:=#[.int .i64 0,.int .i64 0,.string (⟨#[]⟩:ByteArray),.slice none 0 0]) ?_ 0 _ rfl;(with_reducible repeat (first|refine blk_drewN ?_ _|refine blk_drew ?_|refine blk_alloc ?_ _));refine blk_far ?_ NB229_236.out _;(with_reducible repeat (first|refine blk_drewN ?_ _|refine blk_drew ?_|refine blk_alloc ?_ _));exact BK229.out) Try.underlying27 rfl (by kernel_rfl)) rfl ?_
     exact ⟨_,by first|rfl|(simp [errW_none,errW_some] <;> rfl)|(simp [*,errW_none,errW_some] <;> rfl),by (with_reducible repeat (first|apply Kd.N_alloc|apply Kd.N_drewN|apply Kd.N_drew));exact Kd.N_mono (Kd.N_far (p:=⟨gb229,3,none⟩) (Kd.N_far (p:=⟨gb229,2,none⟩) (Kd.N_far (p:=⟨gb229,1,none⟩) (Kd.N_far (p:=⟨gb229,0,none⟩) (Kd.N_far (p:=⟨gb236,0,none⟩) (Kd.N_mono (Kd.N_mono HO_237003.out (fun k_ hk=>(⟨hk,hk.1.2.2.2.1⟩:_∧k_ ≠ gb236))) (fun k_ hk=>(⟨hk,hk.1.1.2.2.1⟩:_∧k_ ≠ gb229))) (fun _ hk=>hk.1.2) (.int .i64 t255)) (fun _ hk=>hk.2) (.int .i64 t255)) (fun _ hk=>hk.2) (.int .i64 t231)) (fun _ hk=>hk.2) (.string t232)) (fun _ hk=>hk.2) (.slice Ao16 t233.length co16)) (fun _ hk=>hk.1.1.1.1),by repeat (first|(with_reducible first|exact HI0.out|apply IsS66.alloc|apply IsS66.drewN|apply IsS66.drew|apply IsS66.set_1|refine IsS66.far ?_ NB0_228.out _|refine IsS66.far ?_ NB0_229.out _|refine IsS66.far ?_ NB0_236.out _)|exact HI0.out),by repeat (first|(with_reducible first|exact HB.out|apply below_alloc|apply pw_below_drewN|apply below_drew1|refine below_set ?_ (IsS66.ge HI0.out)|refine below_set ?_ GE228.out|refine below_set ?_ GE229.out|refine below_set ?_ GE236.out)|exact HB.out),by repeat (first|(with_reducible first|exact HK.out|apply KeepBut.set_|apply keep_drewN|apply keep_drew|apply keep_alloc|refine keep_far ?_ GW228.out _|refine keep_far ?_ GW229.out _|refine keep_far ?_ GW236.out _)|exact HK.out)⟩
    ·rw [if_neg c49] at H
     have c49b0:(t250 == 0)=false:=beq_eq_false_iff_ne.mpr c49
     have c49b1:(t250 != 0)=true:=bne_iff_ne.mpr c49
     by_cases c63:t250=1
     ·rw [if_pos c63] at H
      have c63b0:(t250 == 1)=true:=beq_iff_eq.mpr c63
      have c63b1:(t250 != 1)=false:=bne_eq_false_iff_eq.mpr c63
      clear c63
      obtain ⟨y257,hy257⟩:∃ y_:List Int,y_=(([10,(-1),1]:List Int)):=⟨_,rfl⟩
      replace H:((spec_l15Rd_num.f kj3 s0_0 t251 y257).bind fun bt260=>(some (t230,bt260.1,t232,t233,bt260.2)))=some (r1,r2,r3,r4,r5):=by first|(rw [hy257];with_reducible exact H)|(have H2_:=(Option.bind_some _ _).symm.trans H;rw [hy257];with_reducible exact H2_)|(have H2_:=(Option.bind_some _ _).symm.trans H;with_reducible exact H2_)|with_reducible exact H|(rw [hy257];exact H)|exact H
      have Ny257:=Aside0.mk hy257
      clear hy257
      replace H:=Option.bind_eq_some_iff.mp H
      obtain ⟨⟨t260,t261⟩,A640,H⟩:=H
      replace H:(some (t230,t260,t232,t233,t261))=some (r1,r2,r3,r4,r5):=H
      have A64:=Aside0.mk A640
      clear A640
      simp only [Option.some.injEq,Prod.mk.injEq] at H
      obtain ⟨rfl,rfl,rfl,rfl,rfl⟩:=H
      go_wp2_with (first|((with_reducible refine gate_callee (f:=55) rfl ?_);refine goesL_ (some 36) rfl rfl Try.func55 (by kernel_rfl) rfl #[.pointer (some ⟨g,0,none⟩),.int .i64 14] rfl (by (try simp only [List.map_toArray,List.map_cons,List.map_nil]);first|done|rfl|(simp only [List.length_drop,List.length_take];rfl)) ?_;(with_reducible refine (spec_l15Rd_pick.calls kj3 g s0_0 x1001_3 14 t250 t251 w0 _ ?side1 ?side2 A48.out).mono ?_);(case side1=>repeat (first|(with_reducible first|exact HI0.out|apply IsS66.alloc|apply IsS66.drewN|apply IsS66.drew|apply IsS66.set_1|refine IsS66.far ?_ NB0_228.out _|refine IsS66.far ?_ NB0_229.out _|refine IsS66.far ?_ NB0_236.out _)|exact HI0.out));(case side2=>repeat (first|(with_reducible first|exact HB.out|apply below_alloc|apply pw_below_drewN|apply below_drew1|refine below_set ?_ (IsS66.ge HI0.out)|refine below_set ?_ GE228.out|refine below_set ?_ GE229.out|refine below_set ?_ GE236.out)|exact HB.out));rintro e w65 ⟨rfl,hi,hb,hk⟩;refine ⟨_,rfl,?_⟩;have n0_:=Aside0.mk (Kd.N_mono (Kd.N_keep (Kd.N_mono (ok:=fun k_=>(((w.heap.size≤k_))∧(k_ ≠ gb228∧(k_ ≠ gb229∧(k_ ≠ gb236∧k_ ≠ g))))) (by (with_reducible repeat (first|apply Kd.N_alloc|apply Kd.N_drewN|apply Kd.N_drew));exact HO_237003.out) (fun k_ hk_=>(⟨hk_,hk_.2.2.2.2⟩:_∧k_ ≠ g))) hk (fun _ h=>h.2)) (fun _ h=>h.1));have n1_:=Aside0.mk (KeepBut.blk hk (g':=gb228) (o:=.cells #[.int .i64 a1_0,.int .i64 a1_1,.string a1_2,.slice A1_3 l1_3.length c1_3] 27 (0,0)) (by (with_reducible repeat (first|refine blk_drewN ?_ _|refine blk_drew ?_|refine blk_alloc ?_ _));exact BK228.out) NB228_0.out (by simp));have n2_:=Aside0.mk (KeepBut.blk hk (g':=gb229) (o:=.cells #[.int .i64 0,.int .i64 0,.string (⟨#[]⟩:ByteArray),.slice none 0 0] 27 (0,0)) (by (with_reducible repeat (first|refine blk_drewN ?_ _|refine blk_drew ?_|refine blk_alloc ?_ _));exact BK229.out) NB229_0.out (by simp));have n3_:=Aside0.mk (KeepBut.blk hk (g':=gb236) (o:=.cells #[.int .i64 t230,.int .i64 t231,.string t232,.slice Ao16 t233.length co16] 27 (0,0)) (by (with_reducible repeat (first|refine blk_drewN ?_ _|refine blk_drew ?_|refine blk_alloc ?_ _));exact BK236.out) NB236_0.out (by simp));have n4_:=Aside0.mk (KeepBut.trans (by repeat (first|(with_reducible first|exact HK.out|apply KeepBut.set_|apply keep_drewN|apply keep_drew|apply keep_alloc|refine keep_far ?_ GW228.out _|refine keep_far ?_ GW229.out _|refine keep_far ?_ GW236.out _)|exact HK.out)) hk (.inl rfl));have n5_:=Aside0.mk (hb);have n6_:=Aside0.mk (hi);clear HO_237003;clear BK228;clear BK229;clear BK236;clear HK;clear HB;clear HI0;have HO_237003:=n0_;have BK228:=n1_;have BK229:=n2_;have BK236:=n3_;have HK:=n4_;have HB:=n5_;have HI0:=n6_;clear n0_ n1_ n2_ n3_ n4_ n5_ n6_;(try clear hb);(try clear hb2);(try clear hk);(try clear hi))|((with_reducible refine gate_dst (N:=46) rfl ?_);refine Kd.R_lit (Kd.int .i64) _ 3 ?hg (N:=46) ?hd (xs:=([10,(-1),1]:List Int)) (inner:=[.int .i64 10,.int .i64 (-1),.int .i64 1]) (ok:=fun _=>True) (okp:=fun _=>True) ?hr ?hp (fun _ hk=>hk) trivial (Below.refl _ _) (Nat.le_refl _) (by simp) ?_;(case hd=>rfl);(case hg=>rfl);(case hr=>first|(go_simp;done)|(go_simp;rfl));(case hp=>exact (Reps.one (show Kd.M (Kd.int .i64) _ _ _ 10 [.int .i64 10] from rfl) (Reps.one (show Kd.M (Kd.int .i64) _ _ _ (-1) [.int .i64 (-1)] from rfl) (Reps.one (show Kd.M (Kd.int .i64) _ _ _ 1 [.int .i64 1] from rfl) (Reps.none _ _)))));intro v258 w66 ho67 hb hg_ hnew_;clear hg_ hnew_;(first|rw [← Ny257.out] at ho67|(simp only [Int.reduceToNat] at ho67;rw [← Ny257.out] at ho67));have n0_:=Aside0.mk (Kd.N_elder' (by (with_reducible repeat (first|apply Kd.N_alloc|apply Kd.N_drewN|apply Kd.N_drew));exact HO_237003.out) (Kd.R_base ho67) hb);have n1_:=Aside0.mk (Kd.R_lower (Kd.R_newM (M:=fun k_=>(w.heap.size≤k_)) ho67 (keep_size (w:=w) (g:=g) (row:=none) (by repeat (first|(with_reducible first|exact HK.out|apply KeepBut.set_|apply keep_drewN|apply keep_drew|apply keep_alloc|refine keep_far ?_ GW228.out _|refine keep_far ?_ GW229.out _|refine keep_far ?_ GW236.out _)|exact HK.out))) (fun k_ h_=>h_)) (keep_size (w:=w) (g:=g) (row:=none) (by repeat (first|(with_reducible first|exact HK.out|apply KeepBut.set_|apply keep_drewN|apply keep_drew|apply keep_alloc|refine keep_far ?_ GW228.out _|refine keep_far ?_ GW229.out _|refine keep_far ?_ GW236.out _)|exact HK.out))));have n2_:=Aside0.mk (blk_below (g:=gb228) (o:=.cells #[.int .i64 a1_0,.int .i64 a1_1,.string a1_2,.slice A1_3 l1_3.length c1_3] 27 (0,0)) (by (with_reducible repeat (first|refine blk_drewN ?_ _|refine blk_drew ?_|refine blk_alloc ?_ _));exact BK228.out) hb);have n3_:=Aside0.mk (blk_below (g:=gb229) (o:=.cells #[.int .i64 0,.int .i64 0,.string (⟨#[]⟩:ByteArray),.slice none 0 0] 27 (0,0)) (by (with_reducible repeat (first|refine blk_drewN ?_ _|refine blk_drew ?_|refine blk_alloc ?_ _));exact BK229.out) hb);have n4_:=Aside0.mk (blk_below (g:=gb236) (o:=.cells #[.int .i64 t230,.int .i64 t231,.string t232,.slice Ao16 t233.length co16] 27 (0,0)) (by (with_reducible repeat (first|refine blk_drewN ?_ _|refine blk_drew ?_|refine blk_alloc ?_ _));exact BK236.out) hb);have n5_:=Aside0.mk (IsS66.below (by repeat (first|(with_reducible first|exact HI0.out|apply IsS66.alloc|apply IsS66.drewN|apply IsS66.drew|apply IsS66.set_1|refine IsS66.far ?_ NB0_228.out _|refine IsS66.far ?_ NB0_229.out _|refine IsS66.far ?_ NB0_236.out _)|exact HI0.out)) hb);have n6_:=Aside0.mk (KeepBut.trans (by repeat (first|(with_reducible first|exact HK.out|apply KeepBut.set_|apply keep_drewN|apply keep_drew|apply keep_alloc|refine keep_far ?_ GW228.out _|refine keep_far ?_ GW229.out _|refine keep_far ?_ GW236.out _)|exact HK.out)) (KeepBut.of_below hb g none) (.inl rfl));have n7_:=Aside0.mk (below_step (by repeat (first|(with_reducible first|exact HB.out|apply below_alloc|apply pw_below_drewN|apply below_drew1|refine below_set ?_ (IsS66.ge HI0.out)|refine below_set ?_ GE228.out|refine below_set ?_ GE229.out|refine below_set ?_ GE236.out)|exact HB.out)) hb);clear HO_237003;clear BK228;clear BK229;clear BK236;clear HI0;clear HK;clear HB;have HO_237003:=n0_;have HO259:=n1_;have BK228:=n2_;have BK229:=n3_;have BK236:=n4_;have HI0:=n5_;have HK:=n6_;have HB:=n7_;clear n0_ n1_ n2_ n3_ n4_ n5_ n6_ n7_;clear hb ho67;obtain ⟨Ao68,co68,eo68⟩:=Kd.R_slice HO259.out;subst eo68)|((with_reducible refine gate_callee (f:=49) rfl ?_);refine goesL_ (some 47) rfl rfl Try.func49 (by kernel_rfl) rfl #[.pointer (some ⟨g,0,none⟩),.slice Ao68 y257.length co68] rfl (by (try simp only [List.map_toArray,List.map_cons,List.map_nil]);first|done|rfl|(simp only [List.length_drop,List.length_take];rfl)) ?_;(with_reducible refine (spec_l15Rd_num.calls kj3 g s0_0 t251 _ _ y257 t260 t261 w0 _ ?side1 ?side2 ?side3 ?side4 ?side5 A64.out).mono ?_);(case side1=>repeat (first|(with_reducible first|exact HI0.out|apply IsS66.alloc|apply IsS66.drewN|apply IsS66.drew|apply IsS66.set_1|refine IsS66.far ?_ NB0_228.out _|refine IsS66.far ?_ NB0_229.out _|refine IsS66.far ?_ NB0_236.out _)|exact HI0.out));(case side2=>repeat (first|(with_reducible first|exact HB.out|apply below_alloc|apply pw_below_drewN|apply below_drew1|refine below_set ?_ (IsS66.ge HI0.out)|refine below_set ?_ GE228.out|refine below_set ?_ GE229.out|refine below_set ?_ GE236.out)|exact HB.out));(case side3=>repeat (first|exact (Kd.R_reads' HO259.out).2.2|(with_reducible refine Kd.C_alloc ?_ _)|(with_reducible refine Kd.C_drewN ?_ _)|(with_reducible refine Kd.C_drew ?_)));(case side4=>exact (Kd.R_reads' HO259.out).2.1);(case side5=>exact far_slice (IsS66.own_ne HI0.out HO259.out (by decide)));rintro e w69 ⟨rfl,hi,hb,hk⟩;refine ⟨_,rfl,?_⟩;have n0_:=Aside0.mk (Kd.N_mono (Kd.N_keep (Kd.N_mono (ok:=fun k_=>((((w.heap.size≤k_))∧(k_ ≠ gb228∧(k_ ≠ gb229∧(k_ ≠ gb236∧k_ ≠ g))))∧some k_ ≠ (.slice Ao68 y257.length co68:Value).ownBlock)) (by (with_reducible repeat (first|apply Kd.N_alloc|apply Kd.N_drewN|apply Kd.N_drew));exact HO_237003.out) (fun k_ hk_=>(⟨hk_,hk_.1.2.2.2.2⟩:_∧k_ ≠ g))) hk (fun _ h=>h.2)) (fun _ h=>h.1));have n1_:=Aside0.mk (KeepBut.blk hk (g':=gb228) (o:=.cells #[.int .i64 a1_0,.int .i64 a1_1,.string a1_2,.slice A1_3 l1_3.length c1_3] 27 (0,0)) (by (with_reducible repeat (first|refine blk_drewN ?_ _|refine blk_drew ?_|refine blk_alloc ?_ _));exact BK228.out) NB228_0.out (by simp));have n2_:=Aside0.mk (KeepBut.blk hk (g':=gb229) (o:=.cells #[.int .i64 0,.int .i64 0,.string (⟨#[]⟩:ByteArray),.slice none 0 0] 27 (0,0)) (by (with_reducible repeat (first|refine blk_drewN ?_ _|refine blk_drew ?_|refine blk_alloc ?_ _));exact BK229.out) NB229_0.out (by simp));have n3_:=Aside0.mk (KeepBut.blk hk (g':=gb236) (o:=.cells #[.int .i64 t230,.int .i64 t231,.string t232,.slice Ao16 t233.length co16] 27 (0,0)) (by (with_reducible repeat (first|refine blk_drewN ?_ _|refine blk_drew ?_|refine blk_alloc ?_ _));exact BK236.out) NB236_0.out (by simp));have n4_:=Aside0.mk (Kd.R_mono (Kd.R_keep (IsS66.apart (show IsS66 w0 _ g s0_0 t251 from by repeat (first|(with_reducible first|exact HI0.out|apply IsS66.alloc|apply IsS66.drewN|apply IsS66.drew|apply IsS66.set_1|refine IsS66.far ?_ NB0_228.out _|refine IsS66.far ?_ NB0_229.out _|refine IsS66.far ?_ NB0_236.out _)|exact HI0.out)) (by (with_reducible repeat (first|apply Kd.R_alloc|apply Kd.R_drewN|apply Kd.R_drew));exact HO259.out) (by decide)) hk (fun _ h=>h.2)) (fun _ h=>h.1));have n5_:=Aside0.mk (KeepBut.trans (by repeat (first|(with_reducible first|exact HK.out|apply KeepBut.set_|apply keep_drewN|apply keep_drew|apply keep_alloc|refine keep_far ?_ GW228.out _|refine keep_far ?_ GW229.out _|refine keep_far ?_ GW236.out _)|exact HK.out)) hk (.inl rfl));have n6_:=Aside0.mk (hb);have n7_:=Aside0.mk (hi);clear HO_237003;clear BK228;clear BK229;clear BK236;clear HO259;clear HK;clear HB;clear HI0;have HO_237003:=n0_;have BK228:=n1_;have BK229:=n2_;have BK236:=n3_;have HO259:=n4_;have HK:=n5_;have HB:=n6_;have HI0:=n7_;clear n0_ n1_ n2_ n3_ n4_ n5_ n6_ n7_;(try clear hb);(try clear hb2);(try clear hk);(try clear hi);have hnb70:=NB236_228.out;have hnc70:=NB228_236.out;have hnb71:=NB236_229.out;have hnc71:=NB229_236.out;have hnb72:=NB236_0.out;have hnc72:=NB0_236.out;have hcz73_0:w69.cell? ⟨gb236,0,none⟩=some (.int .i64 t230):=(blk_cell BK236.out 0).trans rfl;have hcz73_1:w69.cell? ⟨gb236,1,none⟩=some (.int .i64 t231):=(blk_cell BK236.out 1).trans rfl;have hcz73_2:w69.cell? ⟨gb236,2,none⟩=some (.string t232):=(blk_cell BK236.out 2).trans rfl;have hcz73_3:w69.cell? ⟨gb236,3,none⟩=some (.slice Ao16 t233.length co16):=(blk_cell BK236.out 3).trans rfl;have hfz73_0:=blk_frozen BK236.out 0;have hfz73_1:=blk_frozen BK236.out 1;have hfz73_2:=blk_frozen BK236.out 2;have hfz73_3:=blk_frozen BK236.out 3;have hnb74:=NB229_228.out;have hnc74:=NB228_229.out;have hnb75:=NB229_0.out;have hnc75:=NB0_229.out;have hcz76_0:w69.cell? ⟨gb229,0,none⟩=some (.int .i64 0):=(blk_cell BK229.out 0).trans rfl;have hcz76_1:w69.cell? ⟨gb229,1,none⟩=some (.int .i64 0):=(blk_cell BK229.out 1).trans rfl;have hcz76_2:w69.cell? ⟨gb229,2,none⟩=some (.string (⟨#[]⟩:ByteArray)):=(blk_cell BK229.out 2).trans rfl;have hcz76_3:w69.cell? ⟨gb229,3,none⟩=some (.slice none 0 0):=(blk_cell BK229.out 3).trans rfl;have hfz76_0:=blk_frozen BK229.out 0;have hfz76_1:=blk_frozen BK229.out 1;have hfz76_2:=blk_frozen BK229.out 2;have hfz76_3:=blk_frozen BK229.out 3))
      refine bodyPost_ret (results_cell_row rfl _ _ gb229 27 #[.int .i64 t230,.int .i64 t260,.string t232,.slice Ao16 t233.length co16] (0,0) _ rfl (by (with_reducible repeat (first|refine blk_drewN ?_ _|refine blk_drew ?_|refine blk_alloc ?_ _));refine blk_put (cs:=#[.int .i64 t230,.int .i64 t260,.string t232,.slice none 0 0]) ?_ 3 _ rfl;(with_reducible repeat (first|refine blk_drewN ?_ _|refine blk_drew ?_|refine blk_alloc ?_ _));refine blk_put (cs:=#[.int .i64 t230,.int .i64 t260,.string (⟨#[]⟩:ByteArray),.slice none 0 0]) ?_ 2 _ rfl;(with_reducible repeat (first|refine blk_drewN ?_ _|refine blk_drew ?_|refine blk_alloc ?_ _));refine blk_put (cs:=#[.int .i64 t230,.int .i64 0,.string (⟨#[]⟩:ByteArray),.slice none 0 0]) ?_ 1 _ rfl;(with_reducible repeat (first|refine blk_drewN ?_ _|refine blk_drew ?_|refine blk_alloc ?_ _));refine blk_put (cs:=#[.int .i64 0,.int .i64 0,.string (⟨#[]⟩:ByteArray),.slice none 0 0]) ?_ 0 _ rfl;(with_reducible repeat (first|refine blk_drewN ?_ _|refine blk_drew ?_|refine blk_alloc ?_ _));refine blk_far ?_ NB229_236.out _;(with_reducible repeat (first|refine blk_drewN ?_ _|refine blk_drew ?_|refine blk_alloc ?_ _));exact BK229.out) Try.underlying27 rfl (by kernel_rfl)) rfl ?_
      exact ⟨_,by first|rfl|(simp [errW_none,errW_some] <;> rfl)|(simp [*,errW_none,errW_some] <;> rfl),by (with_reducible repeat (first|apply Kd.N_alloc|apply Kd.N_drewN|apply Kd.N_drew));exact Kd.N_mono (Kd.N_far (p:=⟨gb229,3,none⟩) (Kd.N_far (p:=⟨gb229,2,none⟩) (Kd.N_far (p:=⟨gb229,1,none⟩) (Kd.N_far (p:=⟨gb229,0,none⟩) (Kd.N_far (p:=⟨gb236,1,none⟩) (Kd.N_mono (Kd.N_mono HO_237003.out (fun k_ hk=>(⟨hk,hk.1.2.2.2.1⟩:_∧k_ ≠ gb236))) (fun k_ hk=>(⟨hk,hk.1.1.2.2.1⟩:_∧k_ ≠ gb229))) (fun _ hk=>hk.1.2) (.int .i64 t260)) (fun _ hk=>hk.2) (.int .i64 t230)) (fun _ hk=>hk.2) (.int .i64 t260)) (fun _ hk=>hk.2) (.string t232)) (fun _ hk=>hk.2) (.slice Ao16 t233.length co16)) (fun _ hk=>hk.1.1.1.1),by repeat (first|(with_reducible first|exact HI0.out|apply IsS66.alloc|apply IsS66.drewN|apply IsS66.drew|apply IsS66.set_1|refine IsS66.far ?_ NB0_228.out _|refine IsS66.far ?_ NB0_229.out _|refine IsS66.far ?_ NB0_236.out _)|exact HI0.out),by repeat (first|(with_reducible first|exact HB.out|apply below_alloc|apply pw_below_drewN|apply below_drew1|refine below_set ?_ (IsS66.ge HI0.out)|refine below_set ?_ GE228.out|refine below_set ?_ GE229.out|refine below_set ?_ GE236.out)|exact HB.out),by repeat (first|(with_reducible first|exact HK.out|apply KeepBut.set_|apply keep_drewN|apply keep_drew|apply keep_alloc|refine keep_far ?_ GW228.out _|refine keep_far ?_ GW229.out _|refine keep_far ?_ GW236.out _)|exact HK.out)⟩
     ·rw [if_neg c63] at H
      have c63b0:(t250 == 1)=false:=beq_eq_false_iff_ne.mpr c63
      have c63b1:(t250 != 1)=true:=bne_iff_ne.mpr c63
      by_cases c77:t250=2
      ·rw [if_pos c77] at H
       have c77b0:(t250 == 2)=true:=beq_iff_eq.mpr c77
       have c77b1:(t250 != 2)=false:=bne_eq_false_iff_eq.mpr c77
       clear c77
       obtain ⟨y262,hy262⟩:∃ y_:List ByteArray,y_=(([(⟨#[]⟩:ByteArray),(⟨#[65]⟩:ByteArray),(⟨#[97,98,99,100,101,102,103,104,105,106,107,108,109]⟩:ByteArray),(⟨#[120,32,121]⟩:ByteArray),(⟨#[122]⟩:ByteArray)]:List ByteArray)):=⟨_,rfl⟩
       replace H:((spec_l15Rd_of.f kj3 s0_0 t251 y262).bind fun bt265=>(some (t230,t231,bt265.1,t233,bt265.2)))=some (r1,r2,r3,r4,r5):=by first|(rw [hy262];with_reducible exact H)|(have H2_:=(Option.bind_some _ _).symm.trans H;rw [hy262];with_reducible exact H2_)|(have H2_:=(Option.bind_some _ _).symm.trans H;with_reducible exact H2_)|with_reducible exact H|(rw [hy262];exact H)|exact H
       have Ny262:=Aside0.mk hy262
       clear hy262
       replace H:=Option.bind_eq_some_iff.mp H
       obtain ⟨⟨t265,t266⟩,A780,H⟩:=H
       replace H:(some (t230,t231,t265,t233,t266))=some (r1,r2,r3,r4,r5):=H
       have A78:=Aside0.mk A780
       clear A780
       simp only [Option.some.injEq,Prod.mk.injEq] at H
       obtain ⟨rfl,rfl,rfl,rfl,rfl⟩:=H
       go_wp2_with (first|((with_reducible refine gate_callee (f:=55) rfl ?_);refine goesL_ (some 36) rfl rfl Try.func55 (by kernel_rfl) rfl #[.pointer (some ⟨g,0,none⟩),.int .i64 14] rfl (by (try simp only [List.map_toArray,List.map_cons,List.map_nil]);first|done|rfl|(simp only [List.length_drop,List.length_take];rfl)) ?_;(with_reducible refine (spec_l15Rd_pick.calls kj3 g s0_0 x1001_3 14 t250 t251 w0 _ ?side1 ?side2 A48.out).mono ?_);(case side1=>repeat (first|(with_reducible first|exact HI0.out|apply IsS66.alloc|apply IsS66.drewN|apply IsS66.drew|apply IsS66.set_1|refine IsS66.far ?_ NB0_228.out _|refine IsS66.far ?_ NB0_229.out _|refine IsS66.far ?_ NB0_236.out _)|exact HI0.out));(case side2=>repeat (first|(with_reducible first|exact HB.out|apply below_alloc|apply pw_below_drewN|apply below_drew1|refine below_set ?_ (IsS66.ge HI0.out)|refine below_set ?_ GE228.out|refine below_set ?_ GE229.out|refine below_set ?_ GE236.out)|exact HB.out));rintro e w79 ⟨rfl,hi,hb,hk⟩;refine ⟨_,rfl,?_⟩;have n0_:=Aside0.mk (Kd.N_mono (Kd.N_keep (Kd.N_mono (ok:=fun k_=>(((w.heap.size≤k_))∧(k_ ≠ gb228∧(k_ ≠ gb229∧(k_ ≠ gb236∧k_ ≠ g))))) (by (with_reducible repeat (first|apply Kd.N_alloc|apply Kd.N_drewN|apply Kd.N_drew));exact HO_237003.out) (fun k_ hk_=>(⟨hk_,hk_.2.2.2.2⟩:_∧k_ ≠ g))) hk (fun _ h=>h.2)) (fun _ h=>h.1));have n1_:=Aside0.mk (KeepBut.blk hk (g':=gb228) (o:=.cells #[.int .i64 a1_0,.int .i64 a1_1,.string a1_2,.slice A1_3 l1_3.length c1_3] 27 (0,0)) (by (with_reducible repeat (first|refine blk_drewN ?_ _|refine blk_drew ?_|refine blk_alloc ?_ _));exact BK228.out) NB228_0.out (by simp));have n2_:=Aside0.mk (KeepBut.blk hk (g':=gb229) (o:=.cells #[.int .i64 0,.int .i64 0,.string (⟨#[]⟩:ByteArray),.slice none 0 0] 27 (0,0)) (by (with_reducible repeat (first|refine blk_drewN ?_ _|refine blk_drew ?_|refine blk_alloc ?_ _));exact BK229.out) NB229_0.out (by simp));have n3_:=Aside0.mk (KeepBut.blk hk (g':=gb236) (o:=.cells #[.int .i64 t230,.int .i64 t231,.string t232,.slice Ao16 t233.length co16] 27 (0,0)) (by (with_reducible repeat (first|refine blk_drewN ?_ _|refine blk_drew ?_|refine blk_alloc ?_ _));exact BK236.out) NB236_0.out (by simp));have n4_:=Aside0.mk (KeepBut.trans (by repeat (first|(with_reducible first|exact HK.out|apply KeepBut.set_|apply keep_drewN|apply keep_drew|apply keep_alloc|refine keep_far ?_ GW228.out _|refine keep_far ?_ GW229.out _|refine keep_far ?_ GW236.out _)|exact HK.out)) hk (.inl rfl));have n5_:=Aside0.mk (hb);have n6_:=Aside0.mk (hi);clear HO_237003;clear BK228;clear BK229;clear BK236;clear HK;clear HB;clear HI0;have HO_237003:=n0_;have BK228:=n1_;have BK229:=n2_;have BK236:=n3_;have HK:=n4_;have HB:=n5_;have HI0:=n6_;clear n0_ n1_ n2_ n3_ n4_ n5_ n6_;(try clear hb);(try clear hb2);(try clear hk);(try clear hi))|((with_reducible refine gate_dst (N:=52) rfl ?_);refine Kd.R_lit Kd.string _ 9 ?hg (N:=52) ?hd (xs:=([(⟨#[]⟩:ByteArray),(⟨#[65]⟩:ByteArray),(⟨#[97,98,99,100,101,102,103,104,105,106,107,108,109]⟩:ByteArray),(⟨#[120,32,121]⟩:ByteArray),(⟨#[122]⟩:ByteArray)]:List ByteArray)) (inner:=[.string (⟨#[]⟩:ByteArray),.string (⟨#[65]⟩:ByteArray),.string (⟨#[97,98,99,100,101,102,103,104,105,106,107,108,109]⟩:ByteArray),.string (⟨#[120,32,121]⟩:ByteArray),.string (⟨#[122]⟩:ByteArray)]) (ok:=fun _=>True) (okp:=fun _=>True) ?hr ?hp (fun _ hk=>hk) trivial (Below.refl _ _) (Nat.le_refl _) (by simp) ?_;(case hd=>rfl);(case hg=>rfl);(case hr=>first|(go_simp;done)|(go_simp;rfl));(case hp=>exact (Reps.one (show Kd.M Kd.string _ _ _ (⟨#[]⟩:ByteArray) [.string (⟨#[]⟩:ByteArray)] from rfl) (Reps.one (show Kd.M Kd.string _ _ _ (⟨#[65]⟩:ByteArray) [.string (⟨#[65]⟩:ByteArray)] from rfl) (Reps.one (show Kd.M Kd.string _ _ _ (⟨#[97,98,99,100,101,102,103,104,105,106,107,108,109]⟩:ByteArray) [.string (⟨#[97,98,99,100,101,102,103,104,105,106,107,108,109]⟩:ByteArray)] from rfl) (Reps.one (show Kd.M Kd.string _ _ _ (⟨#[120,32,121]⟩:ByteArray) [.string (⟨#[120,32,121]⟩:ByteArray)] from rfl) (Reps.one (show Kd.M Kd.string _ _ _ (⟨#[122]⟩:ByteArray) [.string (⟨#[122]⟩:ByteArray)] from rfl) (Reps.none _ _)))))));intro v263 w80 ho81 hb hg_ hnew_;clear hg_ hnew_;(first|rw [← Ny262.out] at ho81|(simp only [Int.reduceToNat] at ho81;rw [← Ny262.out] at ho81));have n0_:=Aside0.mk (Kd.N_elder' (by (with_reducible repeat (first|apply Kd.N_alloc|apply Kd.N_drewN|apply Kd.N_drew));exact HO_237003.out) (Kd.R_base ho81) hb);have n1_:=Aside0.mk (Kd.R_lower (Kd.R_newM (M:=fun k_=>(w.heap.size≤k_)) ho81 (keep_size (w:=w) (g:=g) (row:=none) (by repeat (first|(with_reducible first|exact HK.out|apply KeepBut.set_|apply keep_drewN|apply keep_drew|apply keep_alloc|refine keep_far ?_ GW228.out _|refine keep_far ?_ GW229.out _|refine keep_far ?_ GW236.out _)|exact HK.out))) (fun k_ h_=>h_)) (keep_size (w:=w) (g:=g) (row:=none) (by repeat (first|(with_reducible first|exact HK.out|apply KeepBut.set_|apply keep_drewN|apply keep_drew|apply keep_alloc|refine keep_far ?_ GW228.out _|refine keep_far ?_ GW229.out _|refine keep_far ?_ GW236.out _)|exact HK.out))));have n2_:=Aside0.mk (blk_below (g:=gb228) (o:=.cells #[.int .i64 a1_0,.int .i64 a1_1,.string a1_2,.slice A1_3 l1_3.length c1_3] 27 (0,0)) (by (with_reducible repeat (first|refine blk_drewN ?_ _|refine blk_drew ?_|refine blk_alloc ?_ _));exact BK228.out) hb);have n3_:=Aside0.mk (blk_below (g:=gb229) (o:=.cells #[.int .i64 0,.int .i64 0,.string (⟨#[]⟩:ByteArray),.slice none 0 0] 27 (0,0)) (by (with_reducible repeat (first|refine blk_drewN ?_ _|refine blk_drew ?_|refine blk_alloc ?_ _));exact BK229.out) hb);have n4_:=Aside0.mk (blk_below (g:=gb236) (o:=.cells #[.int .i64 t230,.int .i64 t231,.string t232,.slice Ao16 t233.length co16] 27 (0,0)) (by (with_reducible repeat (first|refine blk_drewN ?_ _|refine blk_drew ?_|refine blk_alloc ?_ _));exact BK236.out) hb);have n5_:=Aside0.mk (IsS66.below (by repeat (first|(with_reducible first|exact HI0.out|apply IsS66.alloc|apply IsS66.drewN|apply IsS66.drew|apply IsS66.set_1|refine IsS66.far ?_ NB0_228.out _|refine IsS66.far ?_ NB0_229.out _|refine IsS66.far ?_ NB0_236.out _)|exact HI0.out)) hb);have n6_:=Aside0.mk (KeepBut.trans (by repeat (first|(with_reducible first|exact HK.out|apply KeepBut.set_|apply keep_drewN|apply keep_drew|apply keep_alloc|refine keep_far ?_ GW228.out _|refine keep_far ?_ GW229.out _|refine keep_far ?_ GW236.out _)|exact HK.out)) (KeepBut.of_below hb g none) (.inl rfl));have n7_:=Aside0.mk (below_step (by repeat (first|(with_reducible first|exact HB.out|apply below_alloc|apply pw_below_drewN|apply below_drew1|refine below_set ?_ (IsS66.ge HI0.out)|refine below_set ?_ GE228.out|refine below_set ?_ GE229.out|refine below_set ?_ GE236.out)|exact HB.out)) hb);clear HO_237003;clear BK228;clear BK229;clear BK236;clear HI0;clear HK;clear HB;have HO_237003:=n0_;have HO264:=n1_;have BK228:=n2_;have BK229:=n3_;have BK236:=n4_;have HI0:=n5_;have HK:=n6_;have HB:=n7_;clear n0_ n1_ n2_ n3_ n4_ n5_ n6_ n7_;clear hb ho81;obtain ⟨Ao82,co82,eo82⟩:=Kd.R_slice HO264.out;subst eo82)|((with_reducible refine gate_callee (f:=65) rfl ?_);refine goesL_ (some 53) rfl rfl Try.func65 (by kernel_rfl) rfl #[.pointer (some ⟨g,0,none⟩),.slice Ao82 y262.length co82] rfl (by (try simp only [List.map_toArray,List.map_cons,List.map_nil]);first|done|rfl|(simp only [List.length_drop,List.length_take];rfl)) ?_;(with_reducible refine (spec_l15Rd_of.calls kj3 g s0_0 t251 _ _ y262 t265 t266 w0 _ ?side1 ?side2 ?side3 ?side4 ?side5 A78.out).mono ?_);(case side1=>repeat (first|(with_reducible first|exact HI0.out|apply IsS66.alloc|apply IsS66.drewN|apply IsS66.drew|apply IsS66.set_1|refine IsS66.far ?_ NB0_228.out _|refine IsS66.far ?_ NB0_229.out _|refine IsS66.far ?_ NB0_236.out _)|exact HI0.out));(case side2=>repeat (first|(with_reducible first|exact HB.out|apply below_alloc|apply pw_below_drewN|apply below_drew1|refine below_set ?_ (IsS66.ge HI0.out)|refine below_set ?_ GE228.out|refine below_set ?_ GE229.out|refine below_set ?_ GE236.out)|exact HB.out));(case side3=>repeat (first|exact (Kd.R_reads' HO264.out).2.2|(with_reducible refine Kd.C_alloc ?_ _)|(with_reducible refine Kd.C_drewN ?_ _)|(with_reducible refine Kd.C_drew ?_)));(case side4=>exact (Kd.R_reads' HO264.out).2.1);(case side5=>exact far_slice (IsS66.own_ne HI0.out HO264.out (by decide)));rintro e w83 ⟨rfl,hi,hb,hk⟩;refine ⟨_,rfl,?_⟩;have n0_:=Aside0.mk (Kd.N_mono (Kd.N_keep (Kd.N_mono (ok:=fun k_=>((((w.heap.size≤k_))∧(k_ ≠ gb228∧(k_ ≠ gb229∧(k_ ≠ gb236∧k_ ≠ g))))∧some k_ ≠ (.slice Ao82 y262.length co82:Value).ownBlock)) (by (with_reducible repeat (first|apply Kd.N_alloc|apply Kd.N_drewN|apply Kd.N_drew));exact HO_237003.out) (fun k_ hk_=>(⟨hk_,hk_.1.2.2.2.2⟩:_∧k_ ≠ g))) hk (fun _ h=>h.2)) (fun _ h=>h.1));have n1_:=Aside0.mk (KeepBut.blk hk (g':=gb228) (o:=.cells #[.int .i64 a1_0,.int .i64 a1_1,.string a1_2,.slice A1_3 l1_3.length c1_3] 27 (0,0)) (by (with_reducible repeat (first|refine blk_drewN ?_ _|refine blk_drew ?_|refine blk_alloc ?_ _));exact BK228.out) NB228_0.out (by simp));have n2_:=Aside0.mk (KeepBut.blk hk (g':=gb229) (o:=.cells #[.int .i64 0,.int .i64 0,.string (⟨#[]⟩:ByteArray),.slice none 0 0] 27 (0,0)) (by (with_reducible repeat (first|refine blk_drewN ?_ _|refine blk_drew ?_|refine blk_alloc ?_ _));exact BK229.out) NB229_0.out (by simp));have n3_:=Aside0.mk (KeepBut.blk hk (g':=gb236) (o:=.cells #[.int .i64 t230,.int .i64 t231,.string t232,.slice Ao16 t233.length co16] 27 (0,0)) (by (with_reducible repeat (first|refine blk_drewN ?_ _|refine blk_drew ?_|refine blk_alloc ?_ _));exact BK236.out) NB236_0.out (by simp));have n4_:=Aside0.mk (Kd.R_mono (Kd.R_keep (IsS66.apart (show IsS66 w0 _ g s0_0 t251 from by repeat (first|(with_reducible first|exact HI0.out|apply IsS66.alloc|apply IsS66.drewN|apply IsS66.drew|apply IsS66.set_1|refine IsS66.far ?_ NB0_228.out _|refine IsS66.far ?_ NB0_229.out _|refine IsS66.far ?_ NB0_236.out _)|exact HI0.out)) (by (with_reducible repeat (first|apply Kd.R_alloc|apply Kd.R_drewN|apply Kd.R_drew));exact HO264.out) (by decide)) hk (fun _ h=>h.2)) (fun _ h=>h.1));have n5_:=Aside0.mk (KeepBut.trans (by repeat (first|(with_reducible first|exact HK.out|apply KeepBut.set_|apply keep_drewN|apply keep_drew|apply keep_alloc|refine keep_far ?_ GW228.out _|refine keep_far ?_ GW229.out _|refine keep_far ?_ GW236.out _)|exact HK.out)) hk (.inl rfl));have n6_:=Aside0.mk (hb);have n7_:=Aside0.mk (hi);clear HO_237003;clear BK228;clear BK229;clear BK236;clear HO264;clear HK;clear HB;clear HI0;have HO_237003:=n0_;have BK228:=n1_;have BK229:=n2_;have BK236:=n3_;have HO264:=n4_;have HK:=n5_;have HB:=n6_;have HI0:=n7_;clear n0_ n1_ n2_ n3_ n4_ n5_ n6_ n7_;(try clear hb);(try clear hb2);(try clear hk);(try clear hi);have hnb84:=NB236_228.out;have hnc84:=NB228_236.out;have hnb85:=NB236_229.out;have hnc85:=NB229_236.out;have hnb86:=NB236_0.out;have hnc86:=NB0_236.out;have hcz87_0:w83.cell? ⟨gb236,0,none⟩=some (.int .i64 t230):=(blk_cell BK236.out 0).trans rfl;have hcz87_1:w83.cell? ⟨gb236,1,none⟩=some (.int .i64 t231):=(blk_cell BK236.out 1).trans rfl;have hcz87_2:w83.cell? ⟨gb236,2,none⟩=some (.string t232):=(blk_cell BK236.out 2).trans rfl;have hcz87_3:w83.cell? ⟨gb236,3,none⟩=some (.slice Ao16 t233.length co16):=(blk_cell BK236.out 3).trans rfl;have hfz87_0:=blk_frozen BK236.out 0;have hfz87_1:=blk_frozen BK236.out 1;have hfz87_2:=blk_frozen BK236.out 2;have hfz87_3:=blk_frozen BK236.out 3;have hnb88:=NB229_228.out;have hnc88:=NB228_229.out;have hnb89:=NB229_0.out;have hnc89:=NB0_229.out;have hcz90_0:w83.cell? ⟨gb229,0,none⟩=some (.int .i64 0):=(blk_cell BK229.out 0).trans rfl;have hcz90_1:w83.cell? ⟨gb229,1,none⟩=some (.int .i64 0):=(blk_cell BK229.out 1).trans rfl;have hcz90_2:w83.cell? ⟨gb229,2,none⟩=some (.string (⟨#[]⟩:ByteArray)):=(blk_cell BK229.out 2).trans rfl;have hcz90_3:w83.cell? ⟨gb229,3,none⟩=some (.slice none 0 0):=(blk_cell BK229.out 3).trans rfl;have hfz90_0:=blk_frozen BK229.out 0;have hfz90_1:=blk_frozen BK229.out 1;have hfz90_2:=blk_frozen BK229.out 2;have hfz90_3:=blk_frozen BK229.out 3))
       refine bodyPost_ret (results_cell_row rfl _ _ gb229 27 #[.int .i64 t230,.int .i64 t231,.string t265,.slice Ao16 t233.length co16] (0,0) _ rfl (by (with_reducible repeat (first|refine blk_drewN ?_ _|refine blk_drew ?_|refine blk_alloc ?_ _));refine blk_put (cs:=#[.int .i64 t230,.int .i64 t231,.string t265,.slice none 0 0]) ?_ 3 _ rfl;(with_reducible repeat (first|refine blk_drewN ?_ _|refine blk_drew ?_|refine blk_alloc ?_ _));refine blk_put (cs:=#[.int .i64 t230,.int .i64 t231,.string (⟨#[]⟩:ByteArray),.slice none 0 0]) ?_ 2 _ rfl;(with_reducible repeat (first|refine blk_drewN ?_ _|refine blk_drew ?_|refine blk_alloc ?_ _));refine blk_put (cs:=#[.int .i64 t230,.int .i64 0,.string (⟨#[]⟩:ByteArray),.slice none 0 0]) ?_ 1 _ rfl;(with_reducible repeat (first|refine blk_drewN ?_ _|refine blk_drew ?_|refine blk_alloc ?_ _));refine blk_put (cs:=#[.int .i64 0,.int .i64 0,.string (⟨#[]⟩:ByteArray),.slice none 0 0]) ?_ 0 _ rfl;(with_reducible repeat (first|refine blk_drewN ?_ _|refine blk_drew ?_|refine blk_alloc ?_ _));refine blk_far ?_ NB229_236.out _;(with_reducible repeat (first|refine blk_drewN ?_ _|refine blk_drew ?_|refine blk_alloc ?_ _));exact BK229.out) Try.underlying27 rfl (by kernel_rfl)) rfl ?_
       exact ⟨_,by first|rfl|(simp [errW_none,errW_some] <;> rfl)|(simp [*,errW_none,errW_some] <;> rfl),by (with_reducible repeat (first|apply Kd.N_alloc|apply Kd.N_drewN|apply Kd.N_drew));exact Kd.N_mono (Kd.N_far (p:=⟨gb229,3,none⟩) (Kd.N_far (p:=⟨gb229,2,none⟩) (Kd.N_far (p:=⟨gb229,1,none⟩) (Kd.N_far (p:=⟨gb229,0,none⟩) (Kd.N_far (p:=⟨gb236,2,none⟩) (Kd.N_mono (Kd.N_mono HO_237003.out (fun k_ hk=>(⟨hk,hk.1.2.2.2.1⟩:_∧k_ ≠ gb236))) (fun k_ hk=>(⟨hk,hk.1.1.2.2.1⟩:_∧k_ ≠ gb229))) (fun _ hk=>hk.1.2) (.string t265)) (fun _ hk=>hk.2) (.int .i64 t230)) (fun _ hk=>hk.2) (.int .i64 t231)) (fun _ hk=>hk.2) (.string t265)) (fun _ hk=>hk.2) (.slice Ao16 t233.length co16)) (fun _ hk=>hk.1.1.1.1),by repeat (first|(with_reducible first|exact HI0.out|apply IsS66.alloc|apply IsS66.drewN|apply IsS66.drew|apply IsS66.set_1|refine IsS66.far ?_ NB0_228.out _|refine IsS66.far ?_ NB0_229.out _|refine IsS66.far ?_ NB0_236.out _)|exact HI0.out),by repeat (first|(with_reducible first|exact HB.out|apply below_alloc|apply pw_below_drewN|apply below_drew1|refine below_set ?_ (IsS66.ge HI0.out)|refine below_set ?_ GE228.out|refine below_set ?_ GE229.out|refine below_set ?_ GE236.out)|exact HB.out),by repeat (first|(with_reducible first|exact HK.out|apply KeepBut.set_|apply keep_drewN|apply keep_drew|apply keep_alloc|refine keep_far ?_ GW228.out _|refine keep_far ?_ GW229.out _|refine keep_far ?_ GW236.out _)|exact HK.out)⟩
      ·rw [if_neg c77] at H
       have c77b0:(t250 == 2)=false:=beq_eq_false_iff_ne.mpr c77
       have c77b1:(t250 != 2)=true:=bne_iff_ne.mpr c77
       by_cases c91:t250=3
       ·rw [if_pos c91] at H
        have c91b0:(t250 == 3)=true:=beq_iff_eq.mpr c91
        have c91b1:(t250 != 3)=false:=bne_eq_false_iff_eq.mpr c91
        clear c91
        by_cases c92:t233.length < 2513169434916
        ·rw [if_pos c92] at H
         have LMc92:=Aside0.mk c92
         clear c92
         obtain ⟨y267,hy267⟩:∃ y_:List (SDoc),y_=(t233++[(⟨1,0,(⟨#[]⟩:ByteArray),([]:List (SDoc))⟩:SDoc)]):=⟨_,rfl⟩
         replace H:(some (t230,t231,t232,y267,t251))=some (r1,r2,r3,r4,r5):=by first|(rw [hy267];with_reducible exact H)|(have H2_:=(Option.bind_some _ _).symm.trans H;rw [hy267];with_reducible exact H2_)|(have H2_:=(Option.bind_some _ _).symm.trans H;with_reducible exact H2_)|with_reducible exact H|(rw [hy267];exact H)|exact H
         have Ny267:=Aside0.mk hy267
         clear hy267
         simp only [Option.some.injEq,Prod.mk.injEq] at H
         obtain ⟨rfl,rfl,rfl,rfl,rfl⟩:=H
         go_wp2_with (first|((with_reducible refine gate_callee (f:=55) rfl ?_);refine goesL_ (some 36) rfl rfl Try.func55 (by kernel_rfl) rfl #[.pointer (some ⟨g,0,none⟩),.int .i64 14] rfl (by (try simp only [List.map_toArray,List.map_cons,List.map_nil]);first|done|rfl|(simp only [List.length_drop,List.length_take];rfl)) ?_;(with_reducible refine (spec_l15Rd_pick.calls kj3 g s0_0 x1001_3 14 t250 t251 w0 _ ?side1 ?side2 A48.out).mono ?_);(case side1=>repeat (first|(with_reducible first|exact HI0.out|apply IsS66.alloc|apply IsS66.drewN|apply IsS66.drew|apply IsS66.set_1|refine IsS66.far ?_ NB0_228.out _|refine IsS66.far ?_ NB0_229.out _|refine IsS66.far ?_ NB0_236.out _)|exact HI0.out));(case side2=>repeat (first|(with_reducible first|exact HB.out|apply below_alloc|apply pw_below_drewN|apply below_drew1|refine below_set ?_ (IsS66.ge HI0.out)|refine below_set ?_ GE228.out|refine below_set ?_ GE229.out|refine below_set ?_ GE236.out)|exact HB.out));rintro e w93 ⟨rfl,hi,hb,hk⟩;refine ⟨_,rfl,?_⟩;have n0_:=Aside0.mk (Kd.N_mono (Kd.N_keep (Kd.N_mono (ok:=fun k_=>(((w.heap.size≤k_))∧(k_ ≠ gb228∧(k_ ≠ gb229∧(k_ ≠ gb236∧k_ ≠ g))))) (by (with_reducible repeat (first|apply Kd.N_alloc|apply Kd.N_drewN|apply Kd.N_drew));exact HO_237003.out) (fun k_ hk_=>(⟨hk_,hk_.2.2.2.2⟩:_∧k_ ≠ g))) hk (fun _ h=>h.2)) (fun _ h=>h.1));have n1_:=Aside0.mk (KeepBut.blk hk (g':=gb228) (o:=.cells #[.int .i64 a1_0,.int .i64 a1_1,.string a1_2,.slice A1_3 l1_3.length c1_3] 27 (0,0)) (by (with_reducible repeat (first|refine blk_drewN ?_ _|refine blk_drew ?_|refine blk_alloc ?_ _));exact BK228.out) NB228_0.out (by simp));have n2_:=Aside0.mk (KeepBut.blk hk (g':=gb229) (o:=.cells #[.int .i64 0,.int .i64 0,.string (⟨#[]⟩:ByteArray),.slice none 0 0] 27 (0,0)) (by (with_reducible repeat (first|refine blk_drewN ?_ _|refine blk_drew ?_|refine blk_alloc ?_ _));exact BK229.out) NB229_0.out (by simp));have n3_:=Aside0.mk (KeepBut.blk hk (g':=gb236) (o:=.cells #[.int .i64 t230,.int .i64 t231,.string t232,.slice Ao16 t233.length co16] 27 (0,0)) (by (with_reducible repeat (first|refine blk_drewN ?_ _|refine blk_drew ?_|refine blk_alloc ?_ _));exact BK236.out) NB236_0.out (by simp));have n4_:=Aside0.mk (KeepBut.trans (by repeat (first|(with_reducible first|exact HK.out|apply KeepBut.set_|apply keep_drewN|apply keep_drew|apply keep_alloc|refine keep_far ?_ GW228.out _|refine keep_far ?_ GW229.out _|refine keep_far ?_ GW236.out _)|exact HK.out)) hk (.inl rfl));have n5_:=Aside0.mk (hb);have n6_:=Aside0.mk (hi);clear HO_237003;clear BK228;clear BK229;clear BK236;clear HK;clear HB;clear HI0;have HO_237003:=n0_;have BK228:=n1_;have BK229:=n2_;have BK236:=n3_;have HK:=n4_;have HB:=n5_;have HI0:=n6_;clear n0_ n1_ n2_ n3_ n4_ n5_ n6_;(try clear hb);(try clear hb2);(try clear hk);(try clear hi);have hnb94:=NB236_228.out;have hnc94:=NB228_236.out;have hnb95:=NB236_229.out;have hnc95:=NB229_236.out;have hnb96:=NB236_0.out;have hnc96:=NB0_236.out;have hcz97_0:w93.cell? ⟨gb236,0,none⟩=some (.int .i64 t230):=(blk_cell BK236.out 0).trans rfl;have hcz97_1:w93.cell? ⟨gb236,1,none⟩=some (.int .i64 t231):=(blk_cell BK236.out 1).trans rfl;have hcz97_2:w93.cell? ⟨gb236,2,none⟩=some (.string t232):=(blk_cell BK236.out 2).trans rfl;have hcz97_3:w93.cell? ⟨gb236,3,none⟩=some (.slice Ao16 t233.length co16):=(blk_cell BK236.out 3).trans rfl;have hfz97_0:=blk_frozen BK236.out 0;have hfz97_1:=blk_frozen BK236.out 1;have hfz97_2:=blk_frozen BK236.out 2;have hfz97_3:=blk_frozen BK236.out 3)|((with_reducible refine gate_builtin (b:=.append) (xs:=#[.tmp 58,.tmp 60]) rfl ?_);at_builtin;refine Kd.N_append k27 w.heap.size rfl (.tmp 58) (.tmp 60) 25 27 (.agg #[(.int .i64 0),(.int .i64 0),(.string ⟨#[]⟩),(.slice none 0 0)]) 56 rfl Try.underlying25 info27 rfl (by decide) (by omega) (.slice Ao16 t233.length co16) t233 (⟨1,0,(⟨#[]⟩:ByteArray),([]:List (SDoc))⟩:SDoc) [.int .i64 1,.int .i64 0,.string (⟨#[]⟩:ByteArray),.slice none 0 0] (fun k_=>(w.heap.size≤k_)∧k_ ≠ gb228∧k_ ≠ gb229∧k_ ≠ gb236∧k_ ≠ g) (fun k_=>((fun k_=>(w.heap.size≤k_)∧k_ ≠ gb228∧k_ ≠ gb229∧k_ ≠ gb236∧k_ ≠ g)) k_∧some k_ ≠ (.slice Ao16 t233.length co16:Value).ownBlock) rfl rfl ?aP (fun _ hk=>hk) ?aF ?aO (Below.refl _ _) ?aS ?aL ?_;(case aP=>exact (k27_mkF _ _ (⟨1,0,(⟨#[]⟩:ByteArray),([]:List (SDoc))⟩:SDoc) (Nat.le_refl _) (Kd.F_nil _ _ _)));(case aF=>exact (fun k_ hk=>⟨(Nat.le_trans (keep_size (w:=w) (g:=g) (row:=none) (by repeat (first|(with_reducible first|exact HK.out|apply KeepBut.set_|apply keep_drewN|apply keep_drew|apply keep_alloc|refine keep_far ?_ GW228.out _|refine keep_far ?_ GW229.out _|refine keep_far ?_ GW236.out _)|exact HK.out))) hk),Kd.freshB (g:=gb228) (o:=.cells #[.int .i64 a1_0,.int .i64 a1_1,.string a1_2,.slice A1_3 l1_3.length c1_3] 27 (0,0)) (by (with_reducible repeat (first|refine blk_drewN ?_ _|refine blk_drew ?_|refine blk_alloc ?_ _));exact BK228.out) k_ hk,Kd.freshB (g:=gb229) (o:=.cells #[.int .i64 0,.int .i64 0,.string (⟨#[]⟩:ByteArray),.slice none 0 0] 27 (0,0)) (by (with_reducible repeat (first|refine blk_drewN ?_ _|refine blk_drew ?_|refine blk_alloc ?_ _));exact BK229.out) k_ hk,Kd.freshB (g:=gb236) (o:=.cells #[.int .i64 t230,.int .i64 t231,.string t232,.slice Ao16 t233.length co16] 27 (0,0)) (by (with_reducible repeat (first|refine blk_drewN ?_ _|refine blk_drew ?_|refine blk_alloc ?_ _));exact BK236.out) k_ hk,IsS66.fresh (by repeat (first|(with_reducible first|exact HI0.out|apply IsS66.alloc|apply IsS66.drewN|apply IsS66.drew|apply IsS66.set_1|refine IsS66.far ?_ NB0_228.out _|refine IsS66.far ?_ NB0_229.out _|refine IsS66.far ?_ NB0_236.out _)|exact HI0.out)) k_ hk⟩));(case aO=>exact (by (with_reducible repeat (first|apply Kd.N_alloc|apply Kd.N_drewN|apply Kd.N_drew));exact HO_237003.out));(case aS=>exact (keep_size (w:=w) (g:=g) (row:=none) (by repeat (first|(with_reducible first|exact HK.out|apply KeepBut.set_|apply keep_drewN|apply keep_drew|apply keep_alloc|refine keep_far ?_ GW228.out _|refine keep_far ?_ GW229.out _|refine keep_far ?_ GW236.out _)|exact HK.out))));(case aL=>have:=LMc92.out;omega);intro v268 w98 ho hb hg hat;rw [← Ny267.out] at ho;have n0_:=Aside0.mk (blk_grown (g:=gb228) (o:=.cells #[.int .i64 a1_0,.int .i64 a1_1,.string a1_2,.slice A1_3 l1_3.length c1_3] 27 (0,0)) (by (with_reducible repeat (first|refine blk_drewN ?_ _|refine blk_drew ?_|refine blk_alloc ?_ _));exact BK228.out) hg (Kd.N_away HO_237003.out (fun _ hk=>by first|exact hk.2.1|exact hk.1.2.1|exact hk.1.1.2.1)));have n1_:=Aside0.mk (blk_grown (g:=gb229) (o:=.cells #[.int .i64 0,.int .i64 0,.string (⟨#[]⟩:ByteArray),.slice none 0 0] 27 (0,0)) (by (with_reducible repeat (first|refine blk_drewN ?_ _|refine blk_drew ?_|refine blk_alloc ?_ _));exact BK229.out) hg (Kd.N_away HO_237003.out (fun _ hk=>by first|exact hk.2.2.1|exact hk.1.2.2.1|exact hk.1.1.2.2.1)));have n2_:=Aside0.mk (blk_grown (g:=gb236) (o:=.cells #[.int .i64 t230,.int .i64 t231,.string t232,.slice Ao16 t233.length co16] 27 (0,0)) (by (with_reducible repeat (first|refine blk_drewN ?_ _|refine blk_drew ?_|refine blk_alloc ?_ _));exact BK236.out) hg (Kd.N_away HO_237003.out (fun _ hk=>by first|exact hk.2.2.2.1|exact hk.1.2.2.2.1|exact hk.1.1.2.2.2.1)));have n3_:=Aside0.mk (IsS66.grown (by repeat (first|(with_reducible first|exact HI0.out|apply IsS66.alloc|apply IsS66.drewN|apply IsS66.drew|apply IsS66.set_1|refine IsS66.far ?_ NB0_228.out _|refine IsS66.far ?_ NB0_229.out _|refine IsS66.far ?_ NB0_236.out _)|exact HI0.out)) hg (IsS66.own_neN HI0.out HO_237003.out (by decide)));have n4_:=Aside0.mk (below_weaken (by repeat (first|(with_reducible first|exact HB.out|apply below_alloc|apply pw_below_drewN|apply below_drew1|refine below_set ?_ (IsS66.ge HI0.out)|refine below_set ?_ GE228.out|refine below_set ?_ GE229.out|refine below_set ?_ GE236.out)|exact HB.out)) HL.out hb);have n5_:=Aside0.mk (KeepBut.trans (by repeat (first|(with_reducible first|exact HK.out|apply KeepBut.set_|apply keep_drewN|apply keep_drew|apply keep_alloc|refine keep_far ?_ GW228.out _|refine keep_far ?_ GW229.out _|refine keep_far ?_ GW236.out _)|exact HK.out)) (KeepBut.of_grown hg g) (Kd.N_base2 HO_237003.out));have n6_:=Aside0.mk (ho);clear BK228;clear BK229;clear BK236;clear HI0;clear HB;clear HK;clear HO_237003;have BK228:=n0_;have BK229:=n1_;have BK236:=n2_;have HI0:=n3_;have HB:=n4_;have HK:=n5_;have HO269:=n6_;clear n0_ n1_ n2_ n3_ n4_ n5_ n6_;clear ho hb hg hat;obtain ⟨Ao99,co99,eo99⟩:=Kd.N_slice HO269.out;subst eo99;have hcz100_0:w98.cell? ⟨gb236,0,none⟩=some (.int .i64 t230):=(blk_cell BK236.out 0).trans rfl;have hcz100_1:w98.cell? ⟨gb236,1,none⟩=some (.int .i64 t231):=(blk_cell BK236.out 1).trans rfl;have hcz100_2:w98.cell? ⟨gb236,2,none⟩=some (.string t232):=(blk_cell BK236.out 2).trans rfl;have hcz100_3:w98.cell? ⟨gb236,3,none⟩=some (.slice Ao16 t233.length co16):=(blk_cell BK236.out 3).trans rfl;have hfz100_0:=blk_frozen BK236.out 0;have hfz100_1:=blk_frozen BK236.out 1;have hfz100_2:=blk_frozen BK236.out 2;have hfz100_3:=blk_frozen BK236.out 3;have hnb101:=NB229_228.out;have hnc101:=NB228_229.out;have hnb102:=NB229_0.out;have hnc102:=NB0_229.out;have hcz103_0:w98.cell? ⟨gb229,0,none⟩=some (.int .i64 0):=(blk_cell BK229.out 0).trans rfl;have hcz103_1:w98.cell? ⟨gb229,1,none⟩=some (.int .i64 0):=(blk_cell BK229.out 1).trans rfl;have hcz103_2:w98.cell? ⟨gb229,2,none⟩=some (.string (⟨#[]⟩:ByteArray)):=(blk_cell BK229.out 2).trans rfl;have hcz103_3:w98.cell? ⟨gb229,3,none⟩=some (.slice none 0 0):=(blk_cell BK229.out 3).trans rfl;have hfz103_0:=blk_frozen BK229.out 0;have hfz103_1:=blk_frozen BK229.out 1;have hfz103_2:=blk_frozen BK229.out 2;have hfz103_3:=blk_frozen BK229.out 3))
         refine bodyPost_ret (results_cell_row rfl _ _ gb229 27 #[.int .i64 t230,.int .i64 t231,.string t232,.slice Ao99 y267.length co99] (0,0) _ rfl (by (with_reducible repeat (first|refine blk_drewN ?_ _|refine blk_drew ?_|refine blk_alloc ?_ _));refine blk_put (cs:=#[.int .i64 t230,.int .i64 t231,.string t232,.slice none 0 0]) ?_ 3 _ rfl;(with_reducible repeat (first|refine blk_drewN ?_ _|refine blk_drew ?_|refine blk_alloc ?_ _));refine blk_put (cs:=#[.int .i64 t230,.int .i64 t231,.string (⟨#[]⟩:ByteArray),.slice none 0 0]) ?_ 2 _ rfl;(with_reducible repeat (first|refine blk_drewN ?_ _|refine blk_drew ?_|refine blk_alloc ?_ _));refine blk_put (cs:=#[.int .i64 t230,.int .i64 0,.string (⟨#[]⟩:ByteArray),.slice none 0 0]) ?_ 1 _ rfl;(with_reducible repeat (first|refine blk_drewN ?_ _|refine blk_drew ?_|refine blk_alloc ?_ _));refine blk_put (cs:=#[.int .i64 0,.int .i64 0,.string (⟨#[]⟩:ByteArray),.slice none 0 0]) ?_ 0 _ rfl;(with_reducible repeat (first|refine blk_drewN ?_ _|refine blk_drew ?_|refine blk_alloc ?_ _));refine blk_far ?_ NB229_236.out _;(with_reducible repeat (first|refine blk_drewN ?_ _|refine blk_drew ?_|refine blk_alloc ?_ _));exact BK229.out) Try.underlying27 rfl (by kernel_rfl)) rfl ?_
         exact ⟨_,by first|rfl|(simp [errW_none,errW_some] <;> rfl)|(simp [*,errW_none,errW_some] <;> rfl),by (with_reducible repeat (first|apply Kd.N_alloc|apply Kd.N_drewN|apply Kd.N_drew));exact Kd.N_mono (Kd.N_far (p:=⟨gb229,3,none⟩) (Kd.N_far (p:=⟨gb229,2,none⟩) (Kd.N_far (p:=⟨gb229,1,none⟩) (Kd.N_far (p:=⟨gb229,0,none⟩) (Kd.N_far (p:=⟨gb236,3,none⟩) (Kd.N_mono (Kd.N_mono HO269.out (fun k_ hk=>(⟨hk,hk.2.2.2.1⟩:_∧k_ ≠ gb236))) (fun k_ hk=>(⟨hk,hk.1.2.2.1⟩:_∧k_ ≠ gb229))) (fun _ hk=>hk.1.2) (.slice Ao99 y267.length co99)) (fun _ hk=>hk.2) (.int .i64 t230)) (fun _ hk=>hk.2) (.int .i64 t231)) (fun _ hk=>hk.2) (.string t232)) (fun _ hk=>hk.2) (.slice Ao99 y267.length co99)) (fun _ hk=>hk.1.1.1),by repeat (first|(with_reducible first|exact HI0.out|apply IsS66.alloc|apply IsS66.drewN|apply IsS66.drew|apply IsS66.set_1|refine IsS66.far ?_ NB0_228.out _|refine IsS66.far ?_ NB0_229.out _|refine IsS66.far ?_ NB0_236.out _)|exact HI0.out),by repeat (first|(with_reducible first|exact HB.out|apply below_alloc|apply pw_below_drewN|apply below_drew1|refine below_set ?_ (IsS66.ge HI0.out)|refine below_set ?_ GE228.out|refine below_set ?_ GE229.out|refine below_set ?_ GE236.out)|exact HB.out),by repeat (first|(with_reducible first|exact HK.out|apply KeepBut.set_|apply keep_drewN|apply keep_drew|apply keep_alloc|refine keep_far ?_ GW228.out _|refine keep_far ?_ GW229.out _|refine keep_far ?_ GW236.out _)|exact HK.out)⟩
        ·rw [if_neg c92] at H
         exact absurd H (by simp)
       ·rw [if_neg c91] at H
        have c91b0:(t250 == 3)=false:=beq_eq_false_iff_ne.mpr c91
        have c91b1:(t250 != 3)=true:=bne_iff_ne.mpr c91
        simp only [Option.some.injEq,Prod.mk.injEq] at H
        obtain ⟨rfl,rfl,rfl,rfl,rfl⟩:=H
        go_wp2_with (first|((with_reducible refine gate_callee (f:=55) rfl ?_);refine goesL_ (some 36) rfl rfl Try.func55 (by kernel_rfl) rfl #[.pointer (some ⟨g,0,none⟩),.int .i64 14] rfl (by (try simp only [List.map_toArray,List.map_cons,List.map_nil]);first|done|rfl|(simp only [List.length_drop,List.length_take];rfl)) ?_;(with_reducible refine (spec_l15Rd_pick.calls kj3 g s0_0 x1001_3 14 t250 t251 w0 _ ?side1 ?side2 A48.out).mono ?_);(case side1=>repeat (first|(with_reducible first|exact HI0.out|apply IsS66.alloc|apply IsS66.drewN|apply IsS66.drew|apply IsS66.set_1|refine IsS66.far ?_ NB0_228.out _|refine IsS66.far ?_ NB0_229.out _|refine IsS66.far ?_ NB0_236.out _)|exact HI0.out));(case side2=>repeat (first|(with_reducible first|exact HB.out|apply below_alloc|apply pw_below_drewN|apply below_drew1|refine below_set ?_ (IsS66.ge HI0.out)|refine below_set ?_ GE228.out|refine below_set ?_ GE229.out|refine below_set ?_ GE236.out)|exact HB.out));rintro e w104 ⟨rfl,hi,hb,hk⟩;refine ⟨_,rfl,?_⟩;have n0_:=Aside0.mk (Kd.N_mono (Kd.N_keep (Kd.N_mono (ok:=fun k_=>(((w.heap.size≤k_))∧(k_ ≠ gb228∧(k_ ≠ gb229∧(k_ ≠ gb236∧k_ ≠ g))))) (by (with_reducible repeat (first|apply Kd.N_alloc|apply Kd.N_drewN|apply Kd.N_drew));exact HO_237003.out) (fun k_ hk_=>(⟨hk_,hk_.2.2.2.2⟩:_∧k_ ≠ g))) hk (fun _ h=>h.2)) (fun _ h=>h.1));have n1_:=Aside0.mk (KeepBut.blk hk (g':=gb228) (o:=.cells #[.int .i64 a1_0,.int .i64 a1_1,.string a1_2,.slice A1_3 l1_3.length c1_3] 27 (0,0)) (by (with_reducible repeat (first|refine blk_drewN ?_ _|refine blk_drew ?_|refine blk_alloc ?_ _));exact BK228.out) NB228_0.out (by simp));have n2_:=Aside0.mk (KeepBut.blk hk (g':=gb229) (o:=.cells #[.int .i64 0,.int .i64 0,.string (⟨#[]⟩:ByteArray),.slice none 0 0] 27 (0,0)) (by (with_reducible repeat (first|refine blk_drewN ?_ _|refine blk_drew ?_|refine blk_alloc ?_ _));exact BK229.out) NB229_0.out (by simp));have n3_:=Aside0.mk (KeepBut.blk hk (g':=gb236) (o:=.cells #[.int .i64 t230,.int .i64 t231,.string t232,.slice Ao16 t233.length co16] 27 (0,0)) (by (with_reducible repeat (first|refine blk_drewN ?_ _|refine blk_drew ?_|refine blk_alloc ?_ _));exact BK236.out) NB236_0.out (by simp));have n4_:=Aside0.mk (KeepBut.trans (by repeat (first|(with_reducible first|exact HK.out|apply KeepBut.set_|apply keep_drewN|apply keep_drew|apply keep_alloc|refine keep_far ?_ GW228.out _|refine keep_far ?_ GW229.out _|refine keep_far ?_ GW236.out _)|exact HK.out)) hk (.inl rfl));have n5_:=Aside0.mk (hb);have n6_:=Aside0.mk (hi);clear HO_237003;clear BK228;clear BK229;clear BK236;clear HK;clear HB;clear HI0;have HO_237003:=n0_;have BK228:=n1_;have BK229:=n2_;have BK236:=n3_;have HK:=n4_;have HB:=n5_;have HI0:=n6_;clear n0_ n1_ n2_ n3_ n4_ n5_ n6_;(try clear hb);(try clear hb2);(try clear hk);(try clear hi);have hnb105:=NB236_228.out;have hnc105:=NB228_236.out;have hnb106:=NB236_229.out;have hnc106:=NB229_236.out;have hnb107:=NB236_0.out;have hnc107:=NB0_236.out;have hcz108_0:w104.cell? ⟨gb236,0,none⟩=some (.int .i64 t230):=(blk_cell BK236.out 0).trans rfl;have hcz108_1:w104.cell? ⟨gb236,1,none⟩=some (.int .i64 t231):=(blk_cell BK236.out 1).trans rfl;have hcz108_2:w104.cell? ⟨gb236,2,none⟩=some (.string t232):=(blk_cell BK236.out 2).trans rfl;have hcz108_3:w104.cell? ⟨gb236,3,none⟩=some (.slice Ao16 t233.length co16):=(blk_cell BK236.out 3).trans rfl;have hfz108_0:=blk_frozen BK236.out 0;have hfz108_1:=blk_frozen BK236.out 1;have hfz108_2:=blk_frozen BK236.out 2;have hfz108_3:=blk_frozen BK236.out 3;have hnb109:=NB229_228.out;have hnc109:=NB228_229.out;have hnb110:=NB229_0.out;have hnc110:=NB0_229.out;have hcz111_0:w104.cell? ⟨gb229,0,none⟩=some (.int .i64 0):=(blk_cell BK229.out 0).trans rfl;have hcz111_1:w104.cell? ⟨gb229,1,none⟩=some (.int .i64 0):=(blk_cell BK229.out 1).trans rfl;have hcz111_2:w104.cell? ⟨gb229,2,none⟩=some (.string (⟨#[]⟩:ByteArray)):=(blk_cell BK229.out 2).trans rfl;have hcz111_3:w104.cell? ⟨gb229,3,none⟩=some (.slice none 0 0):=(blk_cell BK229.out 3).trans rfl;have hfz111_0:=blk_frozen BK229.out 0;have hfz111_1:=blk_frozen BK229.out 1;have hfz111_2:=blk_frozen BK229.out 2;have hfz111_3:=blk_frozen BK229.out 3))
        refine bodyPost_ret (results_cell_row rfl _ _ gb229 27 #[.int .i64 t230,.int .i64 t231,.string t232,.slice Ao16 t233.length co16] (0,0) _ rfl (by (with_reducible repeat (first|refine blk_drewN ?_ _|refine blk_drew ?_|refine blk_alloc ?_ _));refine blk_put (cs:=#[.int .i64 t230,.int .i64 t231,.string t232,.slice none 0 0]) ?_ 3 _ rfl;(with_reducible repeat (first|refine blk_drewN ?_ _|refine blk_drew ?_|refine blk_alloc ?_ _));refine blk_put (cs:=#[.int .i64 t230,.int .i64 t231,.string (⟨#[]⟩:ByteArray),.slice none 0 0]) ?_ 2 _ rfl;(with_reducible repeat (first|refine blk_drewN ?_ _|refine blk_drew ?_|refine blk_alloc ?_ _));refine blk_put (cs:=#[.int .i64 t230,.int .i64 0,.string (⟨#[]⟩:ByteArray),.slice none 0 0]) ?_ 1 _ rfl;(with_reducible repeat (first|refine blk_drewN ?_ _|refine blk_drew ?_|refine blk_alloc ?_ _));refine blk_put (cs:=#[.int .i64 0,.int .i64 0,.string (⟨#[]⟩:ByteArray),.slice none 0 0]) ?_ 0 _ rfl;(with_reducible repeat (first|refine blk_drewN ?_ _|refine blk_drew ?_|refine blk_alloc ?_ _));exact BK229.out) Try.underlying27 rfl (by kernel_rfl)) rfl ?_
        exact ⟨_,by first|rfl|(simp [errW_none,errW_some] <;> rfl)|(simp [*,errW_none,errW_some] <;> rfl),by (with_reducible repeat (first|apply Kd.N_alloc|apply Kd.N_drewN|apply Kd.N_drew));exact Kd.N_mono (Kd.N_far (p:=⟨gb229,3,none⟩) (Kd.N_far (p:=⟨gb229,2,none⟩) (Kd.N_far (p:=⟨gb229,1,none⟩) (Kd.N_far (p:=⟨gb229,0,none⟩) (Kd.N_mono HO_237003.out (fun k_ hk=>(⟨hk,hk.2.2.1⟩:_∧k_ ≠ gb229))) (fun _ hk=>hk.2) (.int .i64 t230)) (fun _ hk=>hk.2) (.int .i64 t231)) (fun _ hk=>hk.2) (.string t232)) (fun _ hk=>hk.2) (.slice Ao16 t233.length co16)) (fun _ hk=>hk.1.1),by repeat (first|(with_reducible first|exact HI0.out|apply IsS66.alloc|apply IsS66.drewN|apply IsS66.drew|apply IsS66.set_1|refine IsS66.far ?_ NB0_228.out _|refine IsS66.far ?_ NB0_229.out _|refine IsS66.far ?_ NB0_236.out _)|exact HI0.out),by repeat (first|(with_reducible first|exact HB.out|apply below_alloc|apply pw_below_drewN|apply below_drew1|refine below_set ?_ (IsS66.ge HI0.out)|refine below_set ?_ GE228.out|refine below_set ?_ GE229.out|refine below_set ?_ GE236.out)|exact HB.out),by repeat (first|(with_reducible first|exact HK.out|apply KeepBut.set_|apply keep_drewN|apply keep_drew|apply keep_alloc|refine keep_far ?_ GW228.out _|refine keep_far ?_ GW229.out _|refine keep_far ?_ GW236.out _)|exact HK.out)⟩
end Go.Proofs.Ytdhdfmmefghijaa.P
namespace Go.Proofs.Ytdhdfmmefghijaa.P
open Go.RowKit Go.Proofs.YtdhdfmmefghijaaW.PrintWords Go.Proofs.YtdhdfmmefghijaaW.PrintLast Go.Proofs.YtdhdfmmefghijaaW.PrintMore
attribute [local go_sem] max2_int min2_int max_two min_two max_three min_three max_four min_four
set_option linter.unusedVariables false
set_option linter.unusedSimpArgs false
mutual
def spec_l1Count.l0:Nat→Int→Int→Int→Int→ByteArray→List (SDoc)→Option (Int)
 | 0,_,_,_,_,_,_=>none
 | k+1,x3,x4,x276000,x276001,x276002,x276003=>if x4 < (x276003.length:Int) then (if 0≤x4 then ((spec_l1Count.f k ((rd_TDoc x276003 x4).f0) ((rd_TDoc x276003 x4).f1) ((rd_TDoc x276003 x4).f2) ((rd_TDoc x276003 x4).f3)).bind fun t277=>(spec_l1Count.l0 k (wrap64 (x3+t277)) (wrap64 (x4+1)) x276000 x276001 x276002 x276003)) else (none)) else (some x3)
def spec_l1Count.f:Nat→Int→Int→ByteArray→List (SDoc)→Option (Int)
 | 0,_,_,_,_=>none
 | k+1,a0_0,a0_1,a0_2,l0_3=>spec_l1Count.l0 k 1 0 a0_0 a0_1 a0_2 l0_3
end
set_option maxHeartbeats 8000000 in
set_option maxRecDepth 100000 in
theorem spec_l1Count.calls (k:Nat):∀ (a0_0:Int) (a0_1:Int) (a0_2:ByteArray) (A0_3:Option Addr) (c0_3:Nat) (l0_3:List (SDoc)) (r:Int) (w:World) (hr0_3:Kd.C k27 w A0_3 l0_3.length l0_3) (hc0_3:l0_3.length≤c0_3) (h:spec_l1Count.f k a0_0 a0_1 a0_2 l0_3=some r),
  Calls Try.prog 54 #[.agg #[.int .i64 a0_0,.int .i64 a0_1,.string a0_2,.slice A0_3 l0_3.length c0_3]] w fun e w'=>e=.returned (.int .i64 r)∧Below w.heap.size w w':=by
 induction k using Nat.strongRecOn with
 | _ k ih =>
 intro a0_0 a0_1 a0_2 A0_3 c0_3 l0_3 r w hr0_3 hc0_3 h
 cases k with
 | zero=>exact absurd h (by simp [spec_l1Count.f])
 | succ k =>
 simp only [spec_l1Count.f] at h
 have hu27:=Try.underlying27
 have HR0_3:=Aside0.mk hr0_3
 have HC0_3:=Aside0.mk hc0_3
 clear hr0_3 hc0_3
 have HB:=Aside0.mk (Below.refl w.heap.size w)
 have H:(spec_l1Count.l0 k 1 0 a0_0 a0_1 a0_2 l0_3)=some r:=h
 clear h
 have H':=Aside0.mk H
 clear H
 go_enter Try.func54,Try.ntmps54
 go_wp2_with (first|((with_reducible refine gate_dst (N:=1) rfl ?_);refine box_event ?hg (N:=1) ?hd (cs:=#[.int .i64 a0_0,.int .i64 a0_1,.string a0_2,.slice A0_3 l0_3.length c0_3]) (t:=27) ?hr ?_;(case hd=>rfl);(case hg=>rfl);(case hr=>first|(go_simp;done)|(go_simp;rfl));intro gb275 hg w2 hbox hb;have n0_:=Aside0.mk (below_step (by repeat (first|(with_reducible first|exact HB.out|apply below_alloc|apply pw_below_drewN|apply below_drew1)|exact HB.out)) hb);have n1_:=Aside0.mk (hbox);have n2_:=Aside0.mk ((by rw [hg];exact (below_size (by repeat (first|(with_reducible first|exact HB.out|apply below_alloc|apply pw_below_drewN|apply below_drew1)|exact HB.out))):w.heap.size≤gb275));have n3_:=Aside0.mk ((by rw [hg];exact (below_size (by repeat (first|(with_reducible first|exact HB.out|apply below_alloc|apply pw_below_drewN|apply below_drew1)|exact HB.out))):w.heap.size≤gb275));clear HB;have HB:=n0_;have BK275:=n1_;have GW275:=n2_;have GE275:=n3_;clear n0_ n1_ n2_ n3_;clear hb hbox hg))
 go_loopg [3,4] k (fun kq v3 v4 w'=>∃ (x3_1:Int) (x4_1:Int),v3=.int .i64 x3_1∧v4=.int .i64 x4_1∧Aside0 (spec_l1Count.l0 kq x3_1 x4_1 a0_0 a0_1 a0_2 l0_3=some r)∧Aside0 (kq≤k)∧Aside0 (w'.heap[gb275]?=some (.cells #[.int .i64 a0_0,.int .i64 a0_1,.string a0_2,(.slice A0_3 l0_3.length c0_3)] 27 (0,0)))∧Aside0 (Below w.heap.size w w'))
 case atStart=>exact ⟨(1),(0),(by first|rfl|(simp;done)|(simp [*];done)),(by first|rfl|(simp;done)|(simp [*];done)),H',⟨Nat.le_refl _⟩,⟨by (with_reducible repeat (first|refine blk_drewN ?_ _|refine blk_drew ?_|refine blk_alloc ?_ _));exact BK275.out⟩,⟨by repeat (first|(with_reducible first|exact HB.out|apply below_alloc|apply pw_below_drewN|apply below_drew1|refine below_set ?_ GE275.out)|exact HB.out)⟩⟩
 case round =>
  clear H'
  try clear p2
  (try clear BK275);(try clear HB)
  obtain ⟨x3_1,x4_1,rfl,rfl,HA,HK1,BK275,HB⟩:=hrel
  cases gk with
  | zero=>exact absurd HA.out (by simp [spec_l1Count.l0])
  | succ k1 =>
   have H:=HA.out
   clear HA
   simp only [spec_l1Count.l0] at H
   by_cases c3:x4_1 < (l0_3.length:Int)
   ·rw [if_pos c3] at H
    have c3b0:decide (x4_1 < (l0_3.length:Int))=true:=decide_eq_true c3
    clear c3
    by_cases c4:0≤x4_1
    ·rw [if_pos c4] at H
     have c4b0:decide (0≤x4_1)=true:=decide_eq_true c4
     clear c4
     replace H:=Option.bind_eq_some_iff.mp H
     obtain ⟨t277,A50,H⟩:=H
     replace H:(spec_l1Count.l0 k1 (wrap64 (x3_1+t277)) (wrap64 (x4_1+1)) a0_0 a0_1 a0_2 l0_3)=some r:=H
     have A5:=Aside0.mk A50
     clear A50
     have H':=Aside0.mk H
     clear H
     have hcz6_0:wr.cell? ⟨gb275,0,none⟩=some (.int .i64 a0_0):=(blk_cell BK275.out 0).trans rfl
     have hcz6_1:wr.cell? ⟨gb275,1,none⟩=some (.int .i64 a0_1):=(blk_cell BK275.out 1).trans rfl
     have hcz6_2:wr.cell? ⟨gb275,2,none⟩=some (.string a0_2):=(blk_cell BK275.out 2).trans rfl
     have hcz6_3:wr.cell? ⟨gb275,3,none⟩=some (.slice A0_3 l0_3.length c0_3):=(blk_cell BK275.out 3).trans rfl
     have hfz6_0:=blk_frozen BK275.out 0
     have hfz6_1:=blk_frozen BK275.out 1
     have hfz6_2:=blk_frozen BK275.out 2
     have hfz6_3:=blk_frozen BK275.out 3
     have p276:0≤(x4_1:Int):=of_decide_eq_true (by first|(with_reducible assumption)|assumption)
     have q276:x4_1 < (l0_3.length:Int):=of_decide_eq_true (by first|(with_reducible assumption)|assumption)
     obtain ⟨ad276,A276_3,c276_3,e276,hx276_0,hx276_1,hx276_2,hx276_3,hl276_3,hi276_3⟩:=at_TDoc HR0_3.out x4_1 p276 q276
     cases e276
     replace hx276_0:=(HB.out.cell (World.block_lt_of_cell? w _ hx276_0)).trans hx276_0
     replace hx276_1:=(HB.out.cell (World.block_lt_of_cell? w _ hx276_1)).trans hx276_1
     replace hx276_2:=(HB.out.cell (World.block_lt_of_cell? w _ hx276_2)).trans hx276_2
     replace hx276_3:=(HB.out.cell (World.block_lt_of_cell? w _ hx276_3)).trans hx276_3
     have HR276_3:=Aside0.mk hi276_3
     have HC276_3:=Aside0.mk hl276_3
     clear hi276_3 hl276_3
     replace p276:=eq_true p276
     replace q276:=eq_true q276
     go_wp2_with (first|((with_reducible refine gate_callee (f:=54) rfl ?_);refine goesL_ (some 18) rfl rfl Try.func54 (by kernel_rfl) rfl #[.agg #[.int .i64 ((rd_TDoc l0_3 x4_1).f0),.int .i64 ((rd_TDoc l0_3 x4_1).f1),.string ((rd_TDoc l0_3 x4_1).f2),.slice A276_3 ((rd_TDoc l0_3 x4_1).f3).length c276_3]] rfl (by (try simp only [List.map_toArray,List.map_cons,List.map_nil]);first|done|rfl|(simp only [List.length_drop,List.length_take];rfl)) ?_;(with_reducible refine (ih k1 (by have:=HK1.out;omega) ((rd_TDoc l0_3 x4_1).f0) ((rd_TDoc l0_3 x4_1).f1) ((rd_TDoc l0_3 x4_1).f2) _ _ ((rd_TDoc l0_3 x4_1).f3) t277 _ ?side1 ?side2 A5.out).mono ?_);(case side1=>repeat (first|exact (Kd.C_below HR276_3.out HB.out)|(with_reducible refine Kd.C_alloc ?_ _)|(with_reducible refine Kd.C_drewN ?_ _)|(with_reducible refine Kd.C_drew ?_)));(case side2=>exact HC276_3.out);rintro e w7 ⟨rfl,hb⟩;refine ⟨_,rfl,?_⟩;have n0_:=Aside0.mk (blk_below (g:=gb275) (o:=.cells #[.int .i64 a0_0,.int .i64 a0_1,.string a0_2,.slice (some ad276) l0_3.length c0_3] 27 (0,0)) (by (with_reducible repeat (first|refine blk_drewN ?_ _|refine blk_drew ?_|refine blk_alloc ?_ _));exact BK275.out) hb);have n1_:=Aside0.mk (below_step (by repeat (first|(with_reducible first|exact HB.out|apply below_alloc|apply pw_below_drewN|apply below_drew1|refine below_set ?_ GE275.out)|exact HB.out)) hb);clear BK275;clear HB;have BK275:=n0_;have HB:=n1_;clear n0_ n1_;(try clear hb);(try clear hb2);(try clear hk);(try clear hi)))
     go_roundg k1
     case measure=>have:=HK1.out;omega
     case rel=>exact ⟨(wrap64 (x3_1+t277)),(wrap64 (x4_1+1)),(by first|rfl|(simp;done)|(simp [*];done)),(by first|rfl|(simp;done)|(simp [*];done)),H',⟨by have:=HK1.out;omega⟩,⟨by (with_reducible repeat (first|refine blk_drewN ?_ _|refine blk_drew ?_|refine blk_alloc ?_ _));exact BK275.out⟩,⟨by repeat (first|(with_reducible first|exact HB.out|apply below_alloc|apply pw_below_drewN|apply below_drew1|refine below_set ?_ GE275.out)|exact HB.out)⟩⟩
    ·rw [if_neg c4] at H
     exact absurd H (by simp)
   ·rw [if_neg c3] at H
    have c3b0:decide (x4_1 < (l0_3.length:Int))=false:=decide_eq_false c3
    clear c3
    obtain rfl:=Option.some.inj H
    have hcz8_0:wr.cell? ⟨gb275,0,none⟩=some (.int .i64 a0_0):=(blk_cell BK275.out 0).trans rfl
    have hcz8_1:wr.cell? ⟨gb275,1,none⟩=some (.int .i64 a0_1):=(blk_cell BK275.out 1).trans rfl
    have hcz8_2:wr.cell? ⟨gb275,2,none⟩=some (.string a0_2):=(blk_cell BK275.out 2).trans rfl
    have hcz8_3:wr.cell? ⟨gb275,3,none⟩=some (.slice A0_3 l0_3.length c0_3):=(blk_cell BK275.out 3).trans rfl
    have hfz8_0:=blk_frozen BK275.out 0
    have hfz8_1:=blk_frozen BK275.out 1
    have hfz8_2:=blk_frozen BK275.out 2
    have hfz8_3:=blk_frozen BK275.out 3
    go_wp2
    go_ret
    exact ⟨by first|rfl|(simp [errW_none,errW_some] <;> rfl)|(simp [*,errW_none,errW_some] <;> rfl),by repeat (first|(with_reducible first|exact HB.out|apply below_alloc|apply pw_below_drewN|apply below_drew1|refine below_set ?_ GE275.out)|exact HB.out)⟩
end Go.Proofs.Ytdhdfmmefghijaa.P
namespace Go.Proofs.Ytdhdfmmefghijaa.P
open Go.RowKit Go.Proofs.YtdhdfmmefghijaaW.PrintWords Go.Proofs.YtdhdfmmefghijaaW.PrintLast Go.Proofs.YtdhdfmmefghijaaW.PrintMore
attribute [local go_sem] max2_int min2_int max_two min_two max_three min_three max_four min_four
set_option linter.unusedVariables false
set_option linter.unusedSimpArgs false
mutual
def spec_TextValid.j0:Nat→ByteArray→Bool→Option (Bool)
 | 0,_,_=>none
 | k+1,x0,x14=>if x14=true then (some false) else (spec_TextValid.l0 k x0 0)
def spec_TextValid.l0:Nat→ByteArray→Int→Option (Bool)
 | 0,_,_=>none
 | k+1,x0,x3=>if x3 < (x0.size:Int) then (if 0≤x3 then (if (bt x0 x3) ≥ 97 then (if (bt x0 x3)≤122 then (spec_TextValid.j2 k x0 x3 (bt x0 x3) true) else (if (bt x0 x3) ≥ 48 then (spec_TextValid.j2 k x0 x3 (bt x0 x3) (decide ((bt x0 x3)≤57))) else (spec_TextValid.j2 k x0 x3 (bt x0 x3) false))) else (if (bt x0 x3) ≥ 48 then (spec_TextValid.j2 k x0 x3 (bt x0 x3) (decide ((bt x0 x3)≤57))) else (spec_TextValid.j2 k x0 x3 (bt x0 x3) false))) else (none)) else (some true)
def spec_TextValid.j2:Nat→ByteArray→Int→Int→Bool→Option (Bool)
 | 0,_,_,_,_=>none
 | k+1,x0,x3,x4,x5=>if x4=44 then (spec_TextValid.j3 k x0 x3 x5 true) else (if x4=58 then (spec_TextValid.j3 k x0 x3 x5 true) else (if x4=61 then (spec_TextValid.j3 k x0 x3 x5 true) else (if x4=123 then (spec_TextValid.j3 k x0 x3 x5 true) else (if x4=125 then (spec_TextValid.j3 k x0 x3 x5 true) else (if x4=40 then (spec_TextValid.j3 k x0 x3 x5 true) else (if x4=41 then (spec_TextValid.j3 k x0 x3 x5 true) else (if x4=91 then (spec_TextValid.j3 k x0 x3 x5 true) else (spec_TextValid.j3 k x0 x3 x5 (x4 == 93)))))))))
def spec_TextValid.j3:Nat→ByteArray→Int→Bool→Bool→Option (Bool)
 | 0,_,_,_,_=>none
 | k+1,x0,x3,x5,x6=>if x5=true then (spec_TextValid.l0 k x0 (wrap64 (x3+1))) else (if x6=true then (spec_TextValid.l0 k x0 (wrap64 (x3+1))) else (some false))
end
def spec_TextValid.f (k:Nat) (a0:ByteArray):Option (Bool):=if (a0.size:Int) < 1 then (spec_TextValid.j0 k a0 true) else (spec_TextValid.j0 k a0 (decide ((a0.size:Int) > 12)))
set_option maxHeartbeats 8000000 in
set_option maxRecDepth 100000 in
theorem spec_TextValid.calls (k:Nat) (a0:ByteArray) (r:Bool) (w:World) (h:spec_TextValid.f k a0=some r) :
  Calls Try.prog 18 #[.string a0] w fun e w'=>e=.returned (.bool r)∧Drawn0 w w':=by
 have H:(if (a0.size:Int) < 1 then (spec_TextValid.j0 k a0 true) else (spec_TextValid.j0 k a0 (decide ((a0.size:Int) > 12))))=some r:=h
 clear h
 have HC2:=Aside0.mk H
 clear H
 go_enter Try.func18,Try.ntmps18
 go_upto_region 1 with (fail)
 go_cut [14] (fun v14 wc=>∃ (kq:Nat) (x14_1:Bool),v14=.bool x14_1∧Aside0 (spec_TextValid.j0 kq a0 x14_1=some r)∧Aside0 (kq≤k)∧Drawn0 w wc)
 case first =>
  have H:=HC2.out
  clear HC2
  by_cases c3:(a0.size:Int) < 1
  ·rw [if_pos c3] at H
   have c3b0:decide ((a0.size:Int) < 1)=true:=decide_eq_true c3
   have c3b1:decide (a0.size < 1)=true:=decide_eq_true (by omega)
   clear c3
   (first|rw [c3b0]|(simp only [i64_w,i32_w];rw [c3b0])|skip)
   have H':=Aside0.mk H
   clear H
   go_wp2
   go_meet
   case rel=>exact ⟨_,(true),(by first|rfl|(simp;done)|(simp [*];done)),H',⟨by first|omega|exact Nat.le_refl _⟩,by repeat (first|exact Drawn0.refl _|apply Drawn0.step)⟩
  ·rw [if_neg c3] at H
   have c3b0:decide ((a0.size:Int) < 1)=false:=decide_eq_false c3
   have c3b1:decide (a0.size < 1)=false:=decide_eq_false (by omega)
   clear c3
   (first|rw [c3b0]|(simp only [i64_w,i32_w];rw [c3b0])|skip)
   have H':=Aside0.mk H
   clear H
   go_wp2
   go_meet
   case rel=>exact ⟨_,(decide ((a0.size:Int) > 12)),(by first|rfl|(simp;done)|(simp [*];done)),H',⟨by first|omega|exact Nat.le_refl _⟩,by repeat (first|exact Drawn0.refl _|apply Drawn0.step)⟩
 case rest =>
  clear HC2
  try clear c1 p2 c3 c3b0 c3b1
  obtain ⟨kq,x14_1,rfl,HA,HJ1,⟨mc1,rfl⟩⟩:=hcut
  cases kq with
  | zero=>exact absurd HA.out (by simp [spec_TextValid.j0])
  | succ kj1 =>
   have H:=HA.out
   clear HA
   simp only [spec_TextValid.j0] at H
   by_cases c4:x14_1=true
   ·subst c4
    have H1:(some false)=some r:=by rw [if_pos rfl] at H;exact H
    clear H
    have H:=H1
    clear H1
    obtain rfl:=Option.some.inj H
    go_wp2
    go_ret
    exact ⟨by first|rfl|(simp;done)|(simp [*];done),by repeat (first|exact Drawn0.refl _|apply Drawn0.step)⟩
   ·replace c4:=Bool.eq_false_iff.mpr c4
    subst c4
    have H1:(spec_TextValid.l0 kj1 a0 0)=some r:=by rw [if_neg (show ¬ (false=true) by decide)] at H;exact H
    clear H
    have H:=H1
    clear H1
    have H':=Aside0.mk H
    clear H
    go_wp2
    go_loopg [3] kj1 (fun kq v3 w'=>∃ (x3_2:Int),v3=.int .i64 x3_2∧Aside0 (spec_TextValid.l0 kq a0 x3_2=some r)∧Aside0 (kq≤kj1)∧Drawn0 w w')
    case atStart=>exact ⟨(0),(by first|rfl|(simp;done)|(simp [*];done)),H',⟨Nat.le_refl _⟩,by repeat (first|exact Drawn0.refl _|apply Drawn0.step)⟩
    case round =>
     clear H'
     try clear c1 p2 c3 c3b0 c3b1 c4 p2
     obtain ⟨x3_2,rfl,HA,HK2,⟨m2,rfl⟩⟩:=hrel
     cases gk with
     | zero=>exact absurd HA.out (by simp [spec_TextValid.l0])
     | succ k2 =>
      have H:=HA.out
      clear HA
      simp only [spec_TextValid.l0] at H
      by_cases c5:x3_2 < (a0.size:Int)
      ·rw [if_pos c5] at H
       have c5b0:decide (x3_2 < (a0.size:Int))=true:=decide_eq_true c5
       clear c5
       by_cases c6:0≤x3_2
       ·rw [if_pos c6] at H
        have c6b0:decide (0≤x3_2)=true:=decide_eq_true c6
        clear c6
        have HC8:=Aside0.mk H
        clear H
        have p7:0≤(x3_2:Int):=of_decide_eq_true (by first|(with_reducible assumption)|assumption)
        have q7:x3_2 < (a0.size:Int):=of_decide_eq_true (by first|(with_reducible assumption)|assumption)
        have hx7:=bt_at a0 x3_2
        replace p7:=eq_true p7
        replace q7:=eq_true q7
        go_upto_region 7 with (fail)
        go_cut [5] (fun v5 wc=>∃ (kq:Nat) (x5_7:Bool),v5=.bool x5_7∧Aside0 (spec_TextValid.j2 kq a0 x3_2 (bt a0 x3_2) x5_7=some r)∧Aside0 (kq≤k2)∧Drawn0 w wc)
        case first =>
         have H:=HC8.out
         clear HC8
         by_cases c9:(bt a0 x3_2) ≥ 97
         ·rw [if_pos c9] at H
          have c9b0:decide (97≤(bt a0 x3_2))=true:=decide_eq_true c9
          clear c9
          (first|rw [c9b0]|(simp only [i64_w,i32_w];rw [c9b0])|skip)
          by_cases c10:(bt a0 x3_2)≤122
          ·rw [if_pos c10] at H
           have c10b0:decide ((bt a0 x3_2)≤122)=true:=decide_eq_true c10
           clear c10
           have H':=Aside0.mk H
           clear H
           go_wp2
           go_meet
           case rel=>exact ⟨_,(true),(by first|rfl|(simp;done)|(simp [*];done)),H',⟨by have:=HJ1.out;have:=HK2.out;first|omega|exact Nat.le_refl _⟩,by repeat (first|exact Drawn0.refl _|apply Drawn0.step)⟩
          ·rw [if_neg c10] at H
           have c10b0:decide ((bt a0 x3_2)≤122)=false:=decide_eq_false c10
           clear c10
           by_cases c11:(bt a0 x3_2) ≥ 48
           ·rw [if_pos c11] at H
            have c11b0:decide (48≤(bt a0 x3_2))=true:=decide_eq_true c11
            clear c11
            have H':=Aside0.mk H
            clear H
            go_wp2
            go_meet
            case rel=>exact ⟨_,(decide ((bt a0 x3_2)≤57)),(by first|rfl|(simp;done)|(simp [*];done)),H',⟨by have:=HJ1.out;have:=HK2.out;first|omega|exact Nat.le_refl _⟩,by repeat (first|exact Drawn0.refl _|apply Drawn0.step)⟩
           ·rw [if_neg c11] at H
            have c11b0:decide (48≤(bt a0 x3_2))=false:=decide_eq_false c11
            clear c11
            have H':=Aside0.mk H
            clear H
            go_wp2
            go_meet
            case rel=>exact ⟨_,(false),(by first|rfl|(simp;done)|(simp [*];done)),H',⟨by have:=HJ1.out;have:=HK2.out;first|omega|exact Nat.le_refl _⟩,by repeat (first|exact Drawn0.refl _|apply Drawn0.step)⟩
         ·rw [if_neg c9] at H
          have c9b0:decide (97≤(bt a0 x3_2))=false:=decide_eq_false c9
          clear c9
          (first|rw [c9b0]|(simp only [i64_w,i32_w];rw [c9b0])|skip)
          by_cases c12:(bt a0 x3_2) ≥ 48
          ·rw [if_pos c12] at H
           have c12b0:decide (48≤(bt a0 x3_2))=true:=decide_eq_true c12
           clear c12
           have H':=Aside0.mk H
           clear H
           go_wp2
           go_meet
           case rel=>exact ⟨_,(decide ((bt a0 x3_2)≤57)),(by first|rfl|(simp;done)|(simp [*];done)),H',⟨by have:=HJ1.out;have:=HK2.out;first|omega|exact Nat.le_refl _⟩,by repeat (first|exact Drawn0.refl _|apply Drawn0.step)⟩
          ·rw [if_neg c12] at H
           have c12b0:decide (48≤(bt a0 x3_2))=false:=decide_eq_false c12
           clear c12
           have H':=Aside0.mk H
           clear H
           go_wp2
           go_meet
           case rel=>exact ⟨_,(false),(by first|rfl|(simp;done)|(simp [*];done)),H',⟨by have:=HJ1.out;have:=HK2.out;first|omega|exact Nat.le_refl _⟩,by repeat (first|exact Drawn0.refl _|apply Drawn0.step)⟩
        case rest =>
         clear HC8
         try clear c1 p2 c3 c3b0 c3b1 c4 c5 c5b0 c6 c6b0 p7 q7 hx7 c9 c9b0 c10 c10b0 c11 c11b0 c12 c12b0 p2 p7 q7
         obtain ⟨kq,x5_7,rfl,HA,HJ7,⟨mc7,rfl⟩⟩:=hcut
         cases kq with
         | zero=>exact absurd HA.out (by simp [spec_TextValid.j2])
         | succ kj7 =>
          have H:=HA.out
          clear HA
          simp only [spec_TextValid.j2] at H
          have HC13:=Aside0.mk H
          clear H
          go_upto_region 8 with (fail)
          go_cut [6] (fun v6 wc=>∃ (kq:Nat) (x6_12:Bool),v6=.bool x6_12∧Aside0 (spec_TextValid.j3 kq a0 x3_2 x5_7 x6_12=some r)∧Aside0 (kq≤kj7)∧Drawn0 w wc)
          case first =>
           have H:=HC13.out
           clear HC13
           by_cases c14:(bt a0 x3_2)=44
           ·rw [if_pos c14] at H
            have c14b0:((bt a0 x3_2) == 44)=true:=beq_iff_eq.mpr c14
            have c14b1:((bt a0 x3_2) != 44)=false:=bne_eq_false_iff_eq.mpr c14
            clear c14
            (first|rw [c14b0]|(simp only [i64_w,i32_w];rw [c14b0])|skip)
            have H':=Aside0.mk H
            clear H
            go_wp2
            go_meet
            case rel=>exact ⟨_,(true),(by first|rfl|(simp;done)|(simp [*];done)),H',⟨by have:=HJ1.out;have:=HK2.out;have:=HJ7.out;first|omega|exact Nat.le_refl _⟩,by repeat (first|exact Drawn0.refl _|apply Drawn0.step)⟩
           ·rw [if_neg c14] at H
            have c14b0:((bt a0 x3_2) == 44)=false:=beq_eq_false_iff_ne.mpr c14
            have c14b1:((bt a0 x3_2) != 44)=true:=bne_iff_ne.mpr c14
            (first|rw [c14b0]|(simp only [i64_w,i32_w];rw [c14b0])|skip)
            by_cases c15:(bt a0 x3_2)=58
            ·rw [if_pos c15] at H
             have c15b0:((bt a0 x3_2) == 58)=true:=beq_iff_eq.mpr c15
             have c15b1:((bt a0 x3_2) != 58)=false:=bne_eq_false_iff_eq.mpr c15
             clear c15
             have H':=Aside0.mk H
             clear H
             go_wp2
             go_meet
             case rel=>exact ⟨_,(true),(by first|rfl|(simp;done)|(simp [*];done)),H',⟨by have:=HJ1.out;have:=HK2.out;have:=HJ7.out;first|omega|exact Nat.le_refl _⟩,by repeat (first|exact Drawn0.refl _|apply Drawn0.step)⟩
            ·rw [if_neg c15] at H
             have c15b0:((bt a0 x3_2) == 58)=false:=beq_eq_false_iff_ne.mpr c15
             have c15b1:((bt a0 x3_2) != 58)=true:=bne_iff_ne.mpr c15
             by_cases c16:(bt a0 x3_2)=61
             ·rw [if_pos c16] at H
              have c16b0:((bt a0 x3_2) == 61)=true:=beq_iff_eq.mpr c16
              have c16b1:((bt a0 x3_2) != 61)=false:=bne_eq_false_iff_eq.mpr c16
              clear c16
              have H':=Aside0.mk H
              clear H
              go_wp2
              go_meet
              case rel=>exact ⟨_,(true),(by first|rfl|(simp;done)|(simp [*];done)),H',⟨by have:=HJ1.out;have:=HK2.out;have:=HJ7.out;first|omega|exact Nat.le_refl _⟩,by repeat (first|exact Drawn0.refl _|apply Drawn0.step)⟩
             ·rw [if_neg c16] at H
              have c16b0:((bt a0 x3_2) == 61)=false:=beq_eq_false_iff_ne.mpr c16
              have c16b1:((bt a0 x3_2) != 61)=true:=bne_iff_ne.mpr c16
              by_cases c17:(bt a0 x3_2)=123
              ·rw [if_pos c17] at H
               have c17b0:((bt a0 x3_2) == 123)=true:=beq_iff_eq.mpr c17
               have c17b1:((bt a0 x3_2) != 123)=false:=bne_eq_false_iff_eq.mpr c17
               clear c17
               have H':=Aside0.mk H
               clear H
               go_wp2
               go_meet
               case rel=>exact ⟨_,(true),(by first|rfl|(simp;done)|(simp [*];done)),H',⟨by have:=HJ1.out;have:=HK2.out;have:=HJ7.out;first|omega|exact Nat.le_refl _⟩,by repeat (first|exact Drawn0.refl _|apply Drawn0.step)⟩
              ·rw [if_neg c17] at H
               have c17b0:((bt a0 x3_2) == 123)=false:=beq_eq_false_iff_ne.mpr c17
               have c17b1:((bt a0 x3_2) != 123)=true:=bne_iff_ne.mpr c17
               by_cases c18:(bt a0 x3_2)=125
               ·rw [if_pos c18] at H
                have c18b0:((bt a0 x3_2) == 125)=true:=beq_iff_eq.mpr c18
                have c18b1:((bt a0 x3_2) != 125)=false:=bne_eq_false_iff_eq.mpr c18
                clear c18
                have H':=Aside0.mk H
                clear H
                go_wp2
                go_meet
                case rel=>exact ⟨_,(true),(by first|rfl|(simp;done)|(simp [*];done)),H',⟨by have:=HJ1.out;have:=HK2.out;have:=HJ7.out;first|omega|exact Nat.le_refl _⟩,by repeat (first|exact Drawn0.refl _|apply Drawn0.step)⟩
               ·rw [if_neg c18] at H
                have c18b0:((bt a0 x3_2) == 125)=false:=beq_eq_false_iff_ne.mpr c18
                have c18b1:((bt a0 x3_2) != 125)=true:=bne_iff_ne.mpr c18
                by_cases c19:(bt a0 x3_2)=40
                ·rw [if_pos c19] at H
                 have c19b0:((bt a0 x3_2) == 40)=true:=beq_iff_eq.mpr c19
                 have c19b1:((bt a0 x3_2) != 40)=false:=bne_eq_false_iff_eq.mpr c19
                 clear c19
                 have H':=Aside0.mk H
                 clear H
                 go_wp2
                 go_meet
                 case rel=>exact ⟨_,(true),(by first|rfl|(simp;done)|(simp [*];done)),H',⟨by have:=HJ1.out;have:=HK2.out;have:=HJ7.out;first|omega|exact Nat.le_refl _⟩,by repeat (first|exact Drawn0.refl _|apply Drawn0.step)⟩
                ·rw [if_neg c19] at H
                 have c19b0:((bt a0 x3_2) == 40)=false:=beq_eq_false_iff_ne.mpr c19
                 have c19b1:((bt a0 x3_2) != 40)=true:=bne_iff_ne.mpr c19
                 by_cases c20:(bt a0 x3_2)=41
                 ·rw [if_pos c20] at H
                  have c20b0:((bt a0 x3_2) == 41)=true:=beq_iff_eq.mpr c20
                  have c20b1:((bt a0 x3_2) != 41)=false:=bne_eq_false_iff_eq.mpr c20
                  clear c20
                  have H':=Aside0.mk H
                  clear H
                  go_wp2
                  go_meet
                  case rel=>exact ⟨_,(true),(by first|rfl|(simp;done)|(simp [*];done)),H',⟨by have:=HJ1.out;have:=HK2.out;have:=HJ7.out;first|omega|exact Nat.le_refl _⟩,by repeat (first|exact Drawn0.refl _|apply Drawn0.step)⟩
                 ·rw [if_neg c20] at H
                  have c20b0:((bt a0 x3_2) == 41)=false:=beq_eq_false_iff_ne.mpr c20
                  have c20b1:((bt a0 x3_2) != 41)=true:=bne_iff_ne.mpr c20
                  by_cases c21:(bt a0 x3_2)=91
                  ·rw [if_pos c21] at H
                   have c21b0:((bt a0 x3_2) == 91)=true:=beq_iff_eq.mpr c21
                   have c21b1:((bt a0 x3_2) != 91)=false:=bne_eq_false_iff_eq.mpr c21
                   clear c21
                   have H':=Aside0.mk H
                   clear H
                   go_wp2
                   go_meet
                   case rel=>exact ⟨_,(true),(by first|rfl|(simp;done)|(simp [*];done)),H',⟨by have:=HJ1.out;have:=HK2.out;have:=HJ7.out;first|omega|exact Nat.le_refl _⟩,by repeat (first|exact Drawn0.refl _|apply Drawn0.step)⟩
                  ·rw [if_neg c21] at H
                   have c21b0:((bt a0 x3_2) == 91)=false:=beq_eq_false_iff_ne.mpr c21
                   have c21b1:((bt a0 x3_2) != 91)=true:=bne_iff_ne.mpr c21
                   have H':=Aside0.mk H
                   clear H
                   go_wp2
                   go_meet
                   case rel=>exact ⟨_,(((bt a0 x3_2) == 93)),(by first|rfl|(simp;done)|(simp [*];done)),H',⟨by have:=HJ1.out;have:=HK2.out;have:=HJ7.out;first|omega|exact Nat.le_refl _⟩,by repeat (first|exact Drawn0.refl _|apply Drawn0.step)⟩
          case rest =>
           clear HC13
           try clear c1 c2 p2 c3 c3b0 c3b1 c4 c5 c5b0 c6 c6b0 c7 p7 q7 hx7 c9 c9b0 c10 c10b0 c11 c11b0 c12 c12b0 c14 c14b0 c14b1 c15 c15b0 c15b1 c16 c16b0 c16b1 c17 c17b0 c17b1 c18 c18b0 c18b1 c19 c19b0 c19b1 c20 c20b0 c20b1 c21 c21b0 c21b1 p2 p7 q7
           obtain ⟨kq,x6_12,rfl,HA,HJ12,⟨mc12,rfl⟩⟩:=hcut
           cases kq with
           | zero=>exact absurd HA.out (by simp [spec_TextValid.j3])
           | succ kj12 =>
            have H:=HA.out
            clear HA
            simp only [spec_TextValid.j3] at H
            by_cases c22:x5_7=true
            ·subst c22
             have H1:(spec_TextValid.l0 kj12 a0 (wrap64 (x3_2+1)))=some r:=by rw [if_pos rfl] at H;exact H
             clear H
             have H:=H1
             clear H1
             have H':=Aside0.mk H
             clear H
             go_wp2
             go_roundg kj12
             case measure=>have:=HJ1.out;have:=HK2.out;have:=HJ7.out;have:=HJ12.out;omega
             case rel=>exact ⟨(wrap64 (x3_2+1)),(by first|rfl|(simp;done)|(simp [*];done)),H',⟨by have:=HJ1.out;have:=HK2.out;have:=HJ7.out;have:=HJ12.out;omega⟩,by repeat (first|exact Drawn0.refl _|apply Drawn0.step)⟩
            ·replace c22:=Bool.eq_false_iff.mpr c22
             subst c22
             have H1:(if x6_12=true then (spec_TextValid.l0 kj12 a0 (wrap64 (x3_2+1))) else (some false))=some r:=by rw [if_neg (show ¬ (false=true) by decide)] at H;exact H
             clear H
             have H:=H1
             clear H1
             by_cases c23:x6_12=true
             ·subst c23
              have H1:(spec_TextValid.l0 kj12 a0 (wrap64 (x3_2+1)))=some r:=by rw [if_pos rfl] at H;exact H
              clear H
              have H:=H1
              clear H1
              have H':=Aside0.mk H
              clear H
              go_wp2
              go_roundg kj12
              case measure=>have:=HJ1.out;have:=HK2.out;have:=HJ7.out;have:=HJ12.out;omega
              case rel=>exact ⟨(wrap64 (x3_2+1)),(by first|rfl|(simp;done)|(simp [*];done)),H',⟨by have:=HJ1.out;have:=HK2.out;have:=HJ7.out;have:=HJ12.out;omega⟩,by repeat (first|exact Drawn0.refl _|apply Drawn0.step)⟩
             ·replace c23:=Bool.eq_false_iff.mpr c23
              subst c23
              have H1:(some false)=some r:=by rw [if_neg (show ¬ (false=true) by decide)] at H;exact H
              clear H
              have H:=H1
              clear H1
              obtain rfl:=Option.some.inj H
              go_wp2
              go_ret
              exact ⟨by first|rfl|(simp;done)|(simp [*];done),by repeat (first|exact Drawn0.refl _|apply Drawn0.step)⟩
       ·rw [if_neg c6] at H
        exact absurd H (by simp)
      ·rw [if_neg c5] at H
       have c5b0:decide (x3_2 < (a0.size:Int))=false:=decide_eq_false c5
       clear c5
       obtain rfl:=Option.some.inj H
       go_wp2
       go_ret
       exact ⟨by first|rfl|(simp;done)|(simp [*];done),by repeat (first|exact Drawn0.refl _|apply Drawn0.step)⟩
end Go.Proofs.Ytdhdfmmefghijaa.P
namespace Go.Proofs.Ytdhdfmmefghijaa.P
open Go.RowKit Go.Proofs.YtdhdfmmefghijaaW.PrintWords Go.Proofs.YtdhdfmmefghijaaW.PrintLast Go.Proofs.YtdhdfmmefghijaaW.PrintMore
attribute [local go_sem] max2_int min2_int max_two min_two max_three min_three max_four min_four
set_option linter.unusedVariables false
set_option linter.unusedSimpArgs false
mutual
def spec_l1Kids.j0:Nat→Int→Bool→Option (Int)
 | 0,_,_=>none
 | k+1,x3,x4=>if x4=true then (some 0) else (if x3=6 then (spec_l1Kids.j1 k x3 (x3 == 6)) else (spec_l1Kids.j1 k x3 (x3 == 8)))
def spec_l1Kids.j1:Nat→Int→Bool→Option (Int)
 | 0,_,_=>none
 | k+1,x3,x10=>if x10=true then (some 1) else (if x3=7 then (some 2) else (some (-1)))
end
def spec_l1Kids.f (k:Nat) (a0:Int):Option (Int):=if a0=1 then (spec_l1Kids.j0 k a0 (a0 == 1)) else (if a0=2 then (spec_l1Kids.j0 k a0 (a0 == 2)) else (if a0=3 then (spec_l1Kids.j0 k a0 (a0 == 3)) else (if a0=4 then (spec_l1Kids.j0 k a0 (a0 == 4)) else (spec_l1Kids.j0 k a0 (a0 == 5)))))
set_option maxHeartbeats 8000000 in
set_option maxRecDepth 100000 in
theorem spec_l1Kids.calls (k:Nat) (a0:Int) (r:Int) (w:World) (h:spec_l1Kids.f k a0=some r) :
  Calls Try.prog 73 #[.int .i64 a0] w fun e w'=>e=.returned (.int .i64 r)∧Drawn0 w w':=by
 have H:(if a0=1 then (spec_l1Kids.j0 k a0 (a0 == 1)) else (if a0=2 then (spec_l1Kids.j0 k a0 (a0 == 2)) else (if a0=3 then (spec_l1Kids.j0 k a0 (a0 == 3)) else (if a0=4 then (spec_l1Kids.j0 k a0 (a0 == 4)) else (spec_l1Kids.j0 k a0 (a0 == 5))))))=some r:=h
 clear h
 have HC2:=Aside0.mk H
 clear H
 go_enter Try.func73,Try.ntmps73
 go_upto_if 4 with (fail)
 go_cut [4] (fun v4 wc=>∃ (kq:Nat) (x4_1:Bool),v4=.bool x4_1∧Aside0 (spec_l1Kids.j0 kq a0 x4_1=some r)∧Aside0 (kq≤k)∧Drawn0 w wc)
 case first =>
  have H:=HC2.out
  clear HC2
  by_cases c3:a0=1
  ·rw [if_pos c3] at H
   have c3b0:(a0 == 1)=true:=beq_iff_eq.mpr c3
   have c3b1:(a0 != 1)=false:=bne_eq_false_iff_eq.mpr c3
   clear c3
   (first|rw [c3b0]|(simp only [i64_w,i32_w];rw [c3b0])|skip)
   have H':=Aside0.mk H
   clear H
   go_wp2
   go_meet
   case rel=>exact ⟨_,((a0 == 1)),(by first|rfl|(simp;done)|(simp [*];done)),H',⟨by first|omega|exact Nat.le_refl _⟩,by repeat (first|exact Drawn0.refl _|apply Drawn0.step)⟩
  ·rw [if_neg c3] at H
   have c3b0:(a0 == 1)=false:=beq_eq_false_iff_ne.mpr c3
   have c3b1:(a0 != 1)=true:=bne_iff_ne.mpr c3
   (first|rw [c3b0]|(simp only [i64_w,i32_w];rw [c3b0])|skip)
   by_cases c4:a0=2
   ·rw [if_pos c4] at H
    have c4b0:(a0 == 2)=true:=beq_iff_eq.mpr c4
    have c4b1:(a0 != 2)=false:=bne_eq_false_iff_eq.mpr c4
    clear c4
    have H':=Aside0.mk H
    clear H
    go_wp2
    go_meet
    case rel=>exact ⟨_,((a0 == 2)),(by first|rfl|(simp;done)|(simp [*];done)),H',⟨by first|omega|exact Nat.le_refl _⟩,by repeat (first|exact Drawn0.refl _|apply Drawn0.step)⟩
   ·rw [if_neg c4] at H
    have c4b0:(a0 == 2)=false:=beq_eq_false_iff_ne.mpr c4
    have c4b1:(a0 != 2)=true:=bne_iff_ne.mpr c4
    by_cases c5:a0=3
    ·rw [if_pos c5] at H
     have c5b0:(a0 == 3)=true:=beq_iff_eq.mpr c5
     have c5b1:(a0 != 3)=false:=bne_eq_false_iff_eq.mpr c5
     clear c5
     have H':=Aside0.mk H
     clear H
     go_wp2
     go_meet
     case rel=>exact ⟨_,((a0 == 3)),(by first|rfl|(simp;done)|(simp [*];done)),H',⟨by first|omega|exact Nat.le_refl _⟩,by repeat (first|exact Drawn0.refl _|apply Drawn0.step)⟩
    ·rw [if_neg c5] at H
     have c5b0:(a0 == 3)=false:=beq_eq_false_iff_ne.mpr c5
     have c5b1:(a0 != 3)=true:=bne_iff_ne.mpr c5
     by_cases c6:a0=4
     ·rw [if_pos c6] at H
      have c6b0:(a0 == 4)=true:=beq_iff_eq.mpr c6
      have c6b1:(a0 != 4)=false:=bne_eq_false_iff_eq.mpr c6
      clear c6
      have H':=Aside0.mk H
      clear H
      go_wp2
      go_meet
      case rel=>exact ⟨_,((a0 == 4)),(by first|rfl|(simp;done)|(simp [*];done)),H',⟨by first|omega|exact Nat.le_refl _⟩,by repeat (first|exact Drawn0.refl _|apply Drawn0.step)⟩
     ·rw [if_neg c6] at H
      have c6b0:(a0 == 4)=false:=beq_eq_false_iff_ne.mpr c6
      have c6b1:(a0 != 4)=true:=bne_iff_ne.mpr c6
      have H':=Aside0.mk H
      clear H
      go_wp2
      go_meet
      case rel=>exact ⟨_,((a0 == 5)),(by first|rfl|(simp;done)|(simp [*];done)),H',⟨by first|omega|exact Nat.le_refl _⟩,by repeat (first|exact Drawn0.refl _|apply Drawn0.step)⟩
 case rest =>
  clear HC2
  try clear p2 c3 c3b0 c3b1 c4 c4b0 c4b1 c5 c5b0 c5b1 c6 c6b0 c6b1
  obtain ⟨kq,x4_1,rfl,HA,HJ1,⟨mc1,rfl⟩⟩:=hcut
  cases kq with
  | zero=>exact absurd HA.out (by simp [spec_l1Kids.j0])
  | succ kj1 =>
   have H:=HA.out
   clear HA
   simp only [spec_l1Kids.j0] at H
   by_cases c7:x4_1=true
   ·subst c7
    have H1:(some 0)=some r:=by rw [if_pos rfl] at H;exact H
    clear H
    have H:=H1
    clear H1
    obtain rfl:=Option.some.inj H
    go_wp2
    go_ret
    exact ⟨by first|rfl|(simp;done)|(simp [*];done),by repeat (first|exact Drawn0.refl _|apply Drawn0.step)⟩
   ·replace c7:=Bool.eq_false_iff.mpr c7
    subst c7
    have H1:(if a0=6 then (spec_l1Kids.j1 kj1 a0 (a0 == 6)) else (spec_l1Kids.j1 kj1 a0 (a0 == 8)))=some r:=by rw [if_neg (show ¬ (false=true) by decide)] at H;exact H
    clear H
    have H:=H1
    clear H1
    have HC8:=Aside0.mk H
    clear H
    go_upto_if 10 with (fail)
    go_cut [10] (fun v10 wc=>∃ (kq:Nat) (x10_7:Bool),v10=.bool x10_7∧Aside0 (spec_l1Kids.j1 kq a0 x10_7=some r)∧Aside0 (kq≤kj1)∧Drawn0 w wc)
    case first =>
     have H:=HC8.out
     clear HC8
     by_cases c9:a0=6
     ·rw [if_pos c9] at H
      have c9b0:(a0 == 6)=true:=beq_iff_eq.mpr c9
      have c9b1:(a0 != 6)=false:=bne_eq_false_iff_eq.mpr c9
      clear c9
      (first|rw [c9b0]|(simp only [i64_w,i32_w];rw [c9b0])|skip)
      have H':=Aside0.mk H
      clear H
      go_wp2
      go_meet
      case rel=>exact ⟨_,((a0 == 6)),(by first|rfl|(simp;done)|(simp [*];done)),H',⟨by have:=HJ1.out;first|omega|exact Nat.le_refl _⟩,by repeat (first|exact Drawn0.refl _|apply Drawn0.step)⟩
     ·rw [if_neg c9] at H
      have c9b0:(a0 == 6)=false:=beq_eq_false_iff_ne.mpr c9
      have c9b1:(a0 != 6)=true:=bne_iff_ne.mpr c9
      (first|rw [c9b0]|(simp only [i64_w,i32_w];rw [c9b0])|skip)
      have H':=Aside0.mk H
      clear H
      go_wp2
      go_meet
      case rel=>exact ⟨_,((a0 == 8)),(by first|rfl|(simp;done)|(simp [*];done)),H',⟨by have:=HJ1.out;first|omega|exact Nat.le_refl _⟩,by repeat (first|exact Drawn0.refl _|apply Drawn0.step)⟩
    case rest =>
     clear HC8
     try clear c1 p2 c3 c3b0 c3b1 c4 c4b0 c4b1 c5 c5b0 c5b1 c6 c6b0 c6b1 c7 c9 c9b0 c9b1 p2
     obtain ⟨kq,x10_7,rfl,HA,HJ7,⟨mc7,rfl⟩⟩:=hcut
     cases kq with
     | zero=>exact absurd HA.out (by simp [spec_l1Kids.j1])
     | succ kj7 =>
      have H:=HA.out
      clear HA
      simp only [spec_l1Kids.j1] at H
      by_cases c10:x10_7=true
      ·subst c10
       have H1:(some 1)=some r:=by rw [if_pos rfl] at H;exact H
       clear H
       have H:=H1
       clear H1
       obtain rfl:=Option.some.inj H
       go_wp2
       go_ret
       exact ⟨by first|rfl|(simp;done)|(simp [*];done),by repeat (first|exact Drawn0.refl _|apply Drawn0.step)⟩
      ·replace c10:=Bool.eq_false_iff.mpr c10
       subst c10
       have H1:(if a0=7 then (some 2) else (some (-1)))=some r:=by rw [if_neg (show ¬ (false=true) by decide)] at H;exact H
       clear H
       have H:=H1
       clear H1
       by_cases c11:a0=7
       ·rw [if_pos c11] at H
        have c11b0:(a0 == 7)=true:=beq_iff_eq.mpr c11
        have c11b1:(a0 != 7)=false:=bne_eq_false_iff_eq.mpr c11
        clear c11
        obtain rfl:=Option.some.inj H
        go_wp2
        go_ret
        exact ⟨by first|rfl|(simp;done)|(simp [*];done),by repeat (first|exact Drawn0.refl _|apply Drawn0.step)⟩
       ·rw [if_neg c11] at H
        have c11b0:(a0 == 7)=false:=beq_eq_false_iff_ne.mpr c11
        have c11b1:(a0 != 7)=true:=bne_iff_ne.mpr c11
        obtain rfl:=Option.some.inj H
        go_wp2
        go_ret
        exact ⟨by first|rfl|(simp;done)|(simp [*];done),by repeat (first|exact Drawn0.refl _|apply Drawn0.step)⟩
end Go.Proofs.Ytdhdfmmefghijaa.P
namespace Go.Proofs.Ytdhdfmmefghijaa.P
open Go.RowKit Go.Proofs.YtdhdfmmefghijaaW.PrintWords Go.Proofs.YtdhdfmmefghijaaW.PrintLast Go.Proofs.YtdhdfmmefghijaaW.PrintMore
attribute [local go_sem] max2_int min2_int max_two min_two max_three min_three max_four min_four
set_option linter.unusedVariables false
set_option linter.unusedSimpArgs false
mutual
def spec_l1Is.j0:Nat→Int→Bool→Int→Int→ByteArray→List (SDoc)→Option (Bool)
 | 0,_,_,_,_,_,_=>none
 | k+1,x1,x16,x271000,x271001,x271002,x271003=>if x16=true then (some false) else (if x271000=2 then ((spec_TextValid.f k x271002).bind fun t272=>(if t272=true then (spec_l1Is.j1 k x1 false x271000 x271001 x271002 x271003) else (spec_l1Is.j1 k x1 true x271000 x271001 x271002 x271003))) else (spec_l1Is.j1 k x1 (x271002.toList != ([]:List UInt8)) x271000 x271001 x271002 x271003))
def spec_l1Is.j1:Nat→Int→Bool→Int→Int→ByteArray→List (SDoc)→Option (Bool)
 | 0,_,_,_,_,_,_=>none
 | k+1,x1,x35,x271000,x271001,x271002,x271003=>if x35=true then (some false) else (if x271000=6 then (if x271001 < 0 then (spec_l1Is.j2 k x1 true x271000 x271001 x271002 x271003) else (if x271001 > 9 then (spec_l1Is.j2 k x1 true x271000 x271001 x271002 x271003) else (spec_l1Is.j2 k x1 false x271000 x271001 x271002 x271003))) else (spec_l1Is.j2 k x1 (x271001 != 0) x271000 x271001 x271002 x271003))
def spec_l1Is.j2:Nat→Int→Bool→Int→Int→ByteArray→List (SDoc)→Option (Bool)
 | 0,_,_,_,_,_,_=>none
 | k+1,x1,x58,x271000,x271001,x271002,x271003=>if x58=true then (some false) else (spec_l1Is.l0 k x1 0 x271000 x271001 x271002 x271003)
def spec_l1Is.l0:Nat→Int→Int→Int→Int→ByteArray→List (SDoc)→Option (Bool)
 | 0,_,_,_,_,_,_=>none
 | k+1,x1,x5,x271000,x271001,x271002,x271003=>if x5 < (x271003.length:Int) then (if 0≤x5 then ((spec_l1Is.f k ((rd_TDoc x271003 x5).f0) ((rd_TDoc x271003 x5).f1) ((rd_TDoc x271003 x5).f2) ((rd_TDoc x271003 x5).f3) (wrap64 (x1 - 1))).bind fun t274=>(if t274=true then (spec_l1Is.l0 k x1 (wrap64 (x5+1)) x271000 x271001 x271002 x271003) else (some false))) else (none)) else (some true)
def spec_l1Is.f:Nat→Int→Int→ByteArray→List (SDoc)→Int→Option (Bool)
 | 0,_,_,_,_,_=>none
 | k+1,a0_0,a0_1,a0_2,l0_3,a1=>if a1=0 then (spec_l1Is.j0 k a1 true a0_0 a0_1 a0_2 l0_3) else ((spec_l1Kids.f k a0_0).bind fun t271=>(spec_l1Is.j0 k a1 ((l0_3.length:Int) != t271) a0_0 a0_1 a0_2 l0_3))
end
set_option maxHeartbeats 8000000 in
set_option maxRecDepth 100000 in
theorem spec_l1Is.calls (k:Nat):∀ (a0_0:Int) (a0_1:Int) (a0_2:ByteArray) (A0_3:Option Addr) (c0_3:Nat) (l0_3:List (SDoc)) (a1:Int) (r:Bool) (w:World) (hr0_3:Kd.C k27 w A0_3 l0_3.length l0_3) (hc0_3:l0_3.length≤c0_3) (h:spec_l1Is.f k a0_0 a0_1 a0_2 l0_3 a1=some r),
  Calls Try.prog 53 #[.agg #[.int .i64 a0_0,.int .i64 a0_1,.string a0_2,.slice A0_3 l0_3.length c0_3],.int .i64 a1] w fun e w'=>e=.returned (.bool r)∧Below w.heap.size w w':=by
 induction k using Nat.strongRecOn with
 | _ k ih =>
 intro a0_0 a0_1 a0_2 A0_3 c0_3 l0_3 a1 r w hr0_3 hc0_3 h
 cases k with
 | zero=>exact absurd h (by simp [spec_l1Is.f])
 | succ k =>
 simp only [spec_l1Is.f] at h
 have hu27:=Try.underlying27
 have HR0_3:=Aside0.mk hr0_3
 have HC0_3:=Aside0.mk hc0_3
 clear hr0_3 hc0_3
 have HB:=Aside0.mk (Below.refl w.heap.size w)
 have H:(if a1=0 then (spec_l1Is.j0 k a1 true a0_0 a0_1 a0_2 l0_3) else ((spec_l1Kids.f k a0_0).bind fun t271=>(spec_l1Is.j0 k a1 ((l0_3.length:Int) != t271) a0_0 a0_1 a0_2 l0_3)))=some r:=h
 clear h
 have HC3:=Aside0.mk H
 clear H
 go_enter Try.func53,Try.ntmps53
 go_upto_region 1 with (first|((with_reducible refine gate_dst (N:=2) rfl ?_);(try (refine gate_guard (by rfl) ?_;dsimp only));refine box_event ?hg (N:=2) ?hd (cs:=#[.int .i64 a0_0,.int .i64 a0_1,.string a0_2,.slice A0_3 l0_3.length c0_3]) (t:=27) ?hr ?_;(case hd=>rfl);(case hg=>rfl);(case hr=>first|(go_simp;done)|(go_simp;rfl));intro gb270 hg w4 hbox hb;have n0_:=Aside0.mk (below_step (gB HB) hb);have n1_:=Aside0.mk (hbox);have n2_:=Aside0.mk ((by rw [hg];exact (below_size (gB HB)):w.heap.size≤gb270));have n3_:=Aside0.mk ((by rw [hg];exact (below_size (gB HB)):w.heap.size≤gb270));clear HB;have HB:=n0_;have BK270:=n1_;have GW270:=n2_;have GE270:=n3_;clear n0_ n1_ n2_ n3_;clear hb hbox hg))
 repeat (go_quiet (first|((with_reducible refine gate_dst (N:=2) rfl ?_);(try (refine gate_guard (by rfl) ?_;dsimp only));refine box_event ?hg (N:=2) ?hd (cs:=#[.int .i64 a0_0,.int .i64 a0_1,.string a0_2,.slice A0_3 l0_3.length c0_3]) (t:=27) ?hr ?_;(case hd=>rfl);(case hg=>rfl);(case hr=>first|(go_simp;done)|(go_simp;rfl));intro gb270 hg w4 hbox hb;have n0_:=Aside0.mk (below_step (gB HB) hb);have n1_:=Aside0.mk (hbox);have n2_:=Aside0.mk ((by rw [hg];exact (below_size (gB HB)):w.heap.size≤gb270));have n3_:=Aside0.mk ((by rw [hg];exact (below_size (gB HB)):w.heap.size≤gb270));clear HB;have HB:=n0_;have BK270:=n1_;have GW270:=n2_;have GE270:=n3_;clear n0_ n1_ n2_ n3_;clear hb hbox hg));go_upto_region 1 with (first|((with_reducible refine gate_dst (N:=2) rfl ?_);(try (refine gate_guard (by rfl) ?_;dsimp only));refine box_event ?hg (N:=2) ?hd (cs:=#[.int .i64 a0_0,.int .i64 a0_1,.string a0_2,.slice A0_3 l0_3.length c0_3]) (t:=27) ?hr ?_;(case hd=>rfl);(case hg=>rfl);(case hr=>first|(go_simp;done)|(go_simp;rfl));intro gb270 hg w4 hbox hb;have n0_:=Aside0.mk (below_step (gB HB) hb);have n1_:=Aside0.mk (hbox);have n2_:=Aside0.mk ((by rw [hg];exact (below_size (gB HB)):w.heap.size≤gb270));have n3_:=Aside0.mk ((by rw [hg];exact (below_size (gB HB)):w.heap.size≤gb270));clear HB;have HB:=n0_;have BK270:=n1_;have GW270:=n2_;have GE270:=n3_;clear n0_ n1_ n2_ n3_;clear hb hbox hg)))
 (try simp only [Act.put,List.setIfInBounds_toArray,List.set_cons_zero,List.set_cons_succ])
 go_cut [16] (fun v16 wc=>∃ (kq:Nat) (x16_2:Bool),v16=.bool x16_2∧Aside0 (spec_l1Is.j0 kq a1 x16_2 a0_0 a0_1 a0_2 l0_3=some r)∧Aside0 (kq≤k)∧Aside0 (wc.heap[gb270]?=some (.cells #[.int .i64 a0_0,.int .i64 a0_1,.string a0_2,(.slice A0_3 l0_3.length c0_3)] 27 (0,0)))∧Aside0 (Below w.heap.size w wc))
 case first =>
  have H:=HC3.out
  clear HC3
  by_cases c5:a1=0
  ·rw [if_pos c5] at H
   have c5b0:(a1 == 0)=true:=beq_iff_eq.mpr c5
   have c5b1:(a1 != 0)=false:=bne_eq_false_iff_eq.mpr c5
   clear c5
   (first|rw [c5b0]|(simp only [i64_w,i32_w];rw [c5b0])|skip)
   have H':=Aside0.mk H
   clear H
   go_wp2
   repeat (go_quiet (fail);try go_wp2)
   go_meet
   case rel=>exact ⟨_,(true),(by first|rfl|(simp;done)|(simp [*];done)),H',⟨by first|omega|exact Nat.le_refl _⟩,⟨gK BK270⟩,⟨by repeat (first|exact gB HB|refine below_set ?_ GE270.out)⟩⟩
  ·rw [if_neg c5] at H
   have c5b0:(a1 == 0)=false:=beq_eq_false_iff_ne.mpr c5
   have c5b1:(a1 != 0)=true:=bne_iff_ne.mpr c5
   (first|rw [c5b0]|(simp only [i64_w,i32_w];rw [c5b0])|skip)
   replace H:=Option.bind_eq_some_iff.mp H
   obtain ⟨t271,A60,H⟩:=H
   replace H:(spec_l1Is.j0 k a1 ((l0_3.length:Int) != t271) a0_0 a0_1 a0_2 l0_3)=some r:=H
   have A6:=Aside0.mk A60
   clear A60
   have H':=Aside0.mk H
   clear H
   have hcz7_0:w4.cell? ⟨gb270,0,none⟩=some (.int .i64 a0_0):=(blk_cell BK270.out 0).trans rfl
   have hcz7_1:w4.cell? ⟨gb270,1,none⟩=some (.int .i64 a0_1):=(blk_cell BK270.out 1).trans rfl
   have hcz7_2:w4.cell? ⟨gb270,2,none⟩=some (.string a0_2):=(blk_cell BK270.out 2).trans rfl
   have hcz7_3:w4.cell? ⟨gb270,3,none⟩=some (.slice A0_3 l0_3.length c0_3):=(blk_cell BK270.out 3).trans rfl
   have hfz7_0:=blk_frozen BK270.out 0
   have hfz7_1:=blk_frozen BK270.out 1
   have hfz7_2:=blk_frozen BK270.out 2
   have hfz7_3:=blk_frozen BK270.out 3
   go_wp2_with (first|(go_at_call 73;(with_reducible refine (spec_l1Kids.calls k a0_0 t271 _ A6.out).mono ?_);rintro e w' ⟨rfl,⟨nd,rfl⟩⟩;(try first|exact ⟨rfl,_,World.drewN_drewN _ _ _⟩ | exact ⟨rfl,_,Eq.trans (World.drewN_drewN _ _ _) (congrArg (World.drewN _) (Nat.add_assoc _ _ _))⟩)))
   repeat (go_quiet (first|(go_at_call 73;(with_reducible refine (spec_l1Kids.calls k a0_0 t271 _ A6.out).mono ?_);rintro e w' ⟨rfl,⟨nd,rfl⟩⟩;(try first|exact ⟨rfl,_,World.drewN_drewN _ _ _⟩ | exact ⟨rfl,_,Eq.trans (World.drewN_drewN _ _ _) (congrArg (World.drewN _) (Nat.add_assoc _ _ _))⟩)));try go_wp2_with (first|(go_at_call 73;(with_reducible refine (spec_l1Kids.calls k a0_0 t271 _ A6.out).mono ?_);rintro e w' ⟨rfl,⟨nd,rfl⟩⟩;(try first|exact ⟨rfl,_,World.drewN_drewN _ _ _⟩ | exact ⟨rfl,_,Eq.trans (World.drewN_drewN _ _ _) (congrArg (World.drewN _) (Nat.add_assoc _ _ _))⟩))))
   go_meet
   case rel=>exact ⟨_,(((l0_3.length:Int) != t271)),(by first|rfl|(simp;done)|(simp [*];done)),H',⟨by first|omega|exact Nat.le_refl _⟩,⟨gK BK270⟩,⟨by repeat (first|exact gB HB|refine below_set ?_ GE270.out)⟩⟩
 case rest =>
  clear HC3
  try clear p2 c5 c5b0 c5b1 hcz7_0 hcz7_1 hcz7_2 hcz7_3 hfz7_0 hfz7_1 hfz7_2 hfz7_3
  obtain ⟨kq,x16_2,rfl,HA,HJ2,BK270,HB⟩:=hcut
  cases kq with
  | zero=>exact absurd HA.out (by simp [spec_l1Is.j0])
  | succ kj2 =>
   have H:=HA.out
   clear HA
   simp only [spec_l1Is.j0] at H
   by_cases c8:x16_2=true
   ·subst c8
    have H1:(some false)=some r:=by rw [if_pos rfl] at H;exact H
    clear H
    have H:=H1
    clear H1
    obtain rfl:=Option.some.inj H
    go_wp2
    repeat (go_quiet (fail);try go_wp2)
    go_ret
    exact ⟨by first|rfl|(simp [errW_none,errW_some] <;> rfl)|(simp [*,errW_none,errW_some] <;> rfl),by repeat (first|exact gB HB|refine below_set ?_ GE270.out)⟩
   ·replace c8:=Bool.eq_false_iff.mpr c8
    subst c8
    have H1:(if a0_0=2 then ((spec_TextValid.f kj2 a0_2).bind fun t272=>(if t272=true then (spec_l1Is.j1 kj2 a1 false a0_0 a0_1 a0_2 l0_3) else (spec_l1Is.j1 kj2 a1 true a0_0 a0_1 a0_2 l0_3))) else (spec_l1Is.j1 kj2 a1 (a0_2.toList != ([]:List UInt8)) a0_0 a0_1 a0_2 l0_3))=some r:=by rw [if_neg (show ¬ (false=true) by decide)] at H;exact H
    clear H
    have H:=H1
    clear H1
    have HC9:=Aside0.mk H
    clear H
    go_upto_region 3 with (fail)
    repeat (go_quiet (fail);go_upto_region 3 with (fail))
    go_cut [35] (fun v35 wc=>∃ (kq:Nat) (x35_8:Bool),v35=.bool x35_8∧Aside0 (spec_l1Is.j1 kq a1 x35_8 a0_0 a0_1 a0_2 l0_3=some r)∧Aside0 (kq≤kj2)∧Aside0 (wc.heap[gb270]?=some (.cells #[.int .i64 a0_0,.int .i64 a0_1,.string a0_2,(.slice A0_3 l0_3.length c0_3)] 27 (0,0)))∧Aside0 (Below w.heap.size w wc))
    case first =>
     have H:=HC9.out
     clear HC9
     by_cases c10:a0_0=2
     ·rw [if_pos c10] at H
      have c10b0:(a0_0 == 2)=true:=beq_iff_eq.mpr c10
      have c10b1:(a0_0 != 2)=false:=bne_eq_false_iff_eq.mpr c10
      clear c10
      (first|rw [c10b0]|(simp only [i64_w,i32_w];rw [c10b0])|skip)
      replace H:=Option.bind_eq_some_iff.mp H
      obtain ⟨t272,A110,H⟩:=H
      replace H:(if t272=true then (spec_l1Is.j1 kj2 a1 false a0_0 a0_1 a0_2 l0_3) else (spec_l1Is.j1 kj2 a1 true a0_0 a0_1 a0_2 l0_3))=some r:=H
      have A11:=Aside0.mk A110
      clear A110
      by_cases c12:t272=true
      ·subst c12
       have H1:(spec_l1Is.j1 kj2 a1 false a0_0 a0_1 a0_2 l0_3)=some r:=by rw [if_pos rfl] at H;exact H
       clear H
       have H:=H1
       clear H1
       have H':=Aside0.mk H
       clear H
       have hcz13_0:wc.cell? ⟨gb270,0,none⟩=some (.int .i64 a0_0):=(blk_cell BK270.out 0).trans rfl
       have hcz13_1:wc.cell? ⟨gb270,1,none⟩=some (.int .i64 a0_1):=(blk_cell BK270.out 1).trans rfl
       have hcz13_2:wc.cell? ⟨gb270,2,none⟩=some (.string a0_2):=(blk_cell BK270.out 2).trans rfl
       have hcz13_3:wc.cell? ⟨gb270,3,none⟩=some (.slice A0_3 l0_3.length c0_3):=(blk_cell BK270.out 3).trans rfl
       have hfz13_0:=blk_frozen BK270.out 0
       have hfz13_1:=blk_frozen BK270.out 1
       have hfz13_2:=blk_frozen BK270.out 2
       have hfz13_3:=blk_frozen BK270.out 3
       go_wp2_with (first|(go_at_call 18;(with_reducible refine (spec_TextValid.calls kj2 a0_2 true _ A11.out).mono ?_);rintro e w' ⟨rfl,⟨nd,rfl⟩⟩;(try first|exact ⟨rfl,_,World.drewN_drewN _ _ _⟩ | exact ⟨rfl,_,Eq.trans (World.drewN_drewN _ _ _) (congrArg (World.drewN _) (Nat.add_assoc _ _ _))⟩)))
       repeat (go_quiet (first|(go_at_call 18;(with_reducible refine (spec_TextValid.calls kj2 a0_2 true _ A11.out).mono ?_);rintro e w' ⟨rfl,⟨nd,rfl⟩⟩;(try first|exact ⟨rfl,_,World.drewN_drewN _ _ _⟩ | exact ⟨rfl,_,Eq.trans (World.drewN_drewN _ _ _) (congrArg (World.drewN _) (Nat.add_assoc _ _ _))⟩)));try go_wp2_with (first|(go_at_call 18;(with_reducible refine (spec_TextValid.calls kj2 a0_2 true _ A11.out).mono ?_);rintro e w' ⟨rfl,⟨nd,rfl⟩⟩;(try first|exact ⟨rfl,_,World.drewN_drewN _ _ _⟩ | exact ⟨rfl,_,Eq.trans (World.drewN_drewN _ _ _) (congrArg (World.drewN _) (Nat.add_assoc _ _ _))⟩))))
       go_meet
       case rel=>exact ⟨_,(false),(by first|rfl|(simp;done)|(simp [*];done)),H',⟨by have:=HJ2.out;first|omega|exact Nat.le_refl _⟩,⟨gK BK270⟩,⟨by repeat (first|exact gB HB|refine below_set ?_ GE270.out)⟩⟩
      ·replace c12:=Bool.eq_false_iff.mpr c12
       subst c12
       have H1:(spec_l1Is.j1 kj2 a1 true a0_0 a0_1 a0_2 l0_3)=some r:=by rw [if_neg (show ¬ (false=true) by decide)] at H;exact H
       clear H
       have H:=H1
       clear H1
       have H':=Aside0.mk H
       clear H
       have hcz14_0:wc.cell? ⟨gb270,0,none⟩=some (.int .i64 a0_0):=(blk_cell BK270.out 0).trans rfl
       have hcz14_1:wc.cell? ⟨gb270,1,none⟩=some (.int .i64 a0_1):=(blk_cell BK270.out 1).trans rfl
       have hcz14_2:wc.cell? ⟨gb270,2,none⟩=some (.string a0_2):=(blk_cell BK270.out 2).trans rfl
       have hcz14_3:wc.cell? ⟨gb270,3,none⟩=some (.slice A0_3 l0_3.length c0_3):=(blk_cell BK270.out 3).trans rfl
       have hfz14_0:=blk_frozen BK270.out 0
       have hfz14_1:=blk_frozen BK270.out 1
       have hfz14_2:=blk_frozen BK270.out 2
       have hfz14_3:=blk_frozen BK270.out 3
       go_wp2_with (first|(go_at_call 18;(with_reducible refine (spec_TextValid.calls kj2 a0_2 false _ A11.out).mono ?_);rintro e w' ⟨rfl,⟨nd,rfl⟩⟩;(try first|exact ⟨rfl,_,World.drewN_drewN _ _ _⟩ | exact ⟨rfl,_,Eq.trans (World.drewN_drewN _ _ _) (congrArg (World.drewN _) (Nat.add_assoc _ _ _))⟩)))
       repeat (go_quiet (first|(go_at_call 18;(with_reducible refine (spec_TextValid.calls kj2 a0_2 false _ A11.out).mono ?_);rintro e w' ⟨rfl,⟨nd,rfl⟩⟩;(try first|exact ⟨rfl,_,World.drewN_drewN _ _ _⟩ | exact ⟨rfl,_,Eq.trans (World.drewN_drewN _ _ _) (congrArg (World.drewN _) (Nat.add_assoc _ _ _))⟩)));try go_wp2_with (first|(go_at_call 18;(with_reducible refine (spec_TextValid.calls kj2 a0_2 false _ A11.out).mono ?_);rintro e w' ⟨rfl,⟨nd,rfl⟩⟩;(try first|exact ⟨rfl,_,World.drewN_drewN _ _ _⟩ | exact ⟨rfl,_,Eq.trans (World.drewN_drewN _ _ _) (congrArg (World.drewN _) (Nat.add_assoc _ _ _))⟩))))
       go_meet
       case rel=>exact ⟨_,(true),(by first|rfl|(simp;done)|(simp [*];done)),H',⟨by have:=HJ2.out;first|omega|exact Nat.le_refl _⟩,⟨gK BK270⟩,⟨by repeat (first|exact gB HB|refine below_set ?_ GE270.out)⟩⟩
     ·rw [if_neg c10] at H
      have c10b0:(a0_0 == 2)=false:=beq_eq_false_iff_ne.mpr c10
      have c10b1:(a0_0 != 2)=true:=bne_iff_ne.mpr c10
      (first|rw [c10b0]|(simp only [i64_w,i32_w];rw [c10b0])|skip)
      have H':=Aside0.mk H
      clear H
      have hcz15_0:wc.cell? ⟨gb270,0,none⟩=some (.int .i64 a0_0):=(blk_cell BK270.out 0).trans rfl
      have hcz15_1:wc.cell? ⟨gb270,1,none⟩=some (.int .i64 a0_1):=(blk_cell BK270.out 1).trans rfl
      have hcz15_2:wc.cell? ⟨gb270,2,none⟩=some (.string a0_2):=(blk_cell BK270.out 2).trans rfl
      have hcz15_3:wc.cell? ⟨gb270,3,none⟩=some (.slice A0_3 l0_3.length c0_3):=(blk_cell BK270.out 3).trans rfl
      have hfz15_0:=blk_frozen BK270.out 0
      have hfz15_1:=blk_frozen BK270.out 1
      have hfz15_2:=blk_frozen BK270.out 2
      have hfz15_3:=blk_frozen BK270.out 3
      go_wp2
      repeat (go_quiet (fail);try go_wp2)
      go_meet
      case rel=>exact ⟨_,((a0_2.toList != ([]:List UInt8))),(by first|rfl|(simp only [xp_isEmpty];done)|(simp;done)|(simp [*];done)),H',⟨by have:=HJ2.out;first|omega|exact Nat.le_refl _⟩,⟨gK BK270⟩,⟨by repeat (first|exact gB HB|refine below_set ?_ GE270.out)⟩⟩
    case rest =>
     clear HC9
     try clear c1 p2 c5 c5b0 c5b1 c8 c10 c10b0 c10b1 c12 hcz13_0 hcz13_1 hcz13_2 hcz13_3 hcz14_0 hcz14_1 hcz14_2 hcz14_3 hcz15_0 hcz15_1 hcz15_2 hcz15_3 hcz7_0 hcz7_1 hcz7_2 hcz7_3 hfz13_0 hfz13_1 hfz13_2 hfz13_3 hfz14_0 hfz14_1 hfz14_2 hfz14_3 hfz15_0 hfz15_1 hfz15_2 hfz15_3 hfz7_0 hfz7_1 hfz7_2 hfz7_3 p2
     obtain ⟨kq,x35_8,rfl,HA,HJ8,BK270,HB⟩:=hcut
     cases kq with
     | zero=>exact absurd HA.out (by simp [spec_l1Is.j1])
     | succ kj8 =>
      have H:=HA.out
      clear HA
      simp only [spec_l1Is.j1] at H
      by_cases c16:x35_8=true
      ·subst c16
       have H1:(some false)=some r:=by rw [if_pos rfl] at H;exact H
       clear H
       have H:=H1
       clear H1
       obtain rfl:=Option.some.inj H
       go_wp2
       repeat (go_quiet (fail);try go_wp2)
       go_ret
       exact ⟨by first|rfl|(simp [errW_none,errW_some] <;> rfl)|(simp [*,errW_none,errW_some] <;> rfl),by repeat (first|exact gB HB|refine below_set ?_ GE270.out)⟩
      ·replace c16:=Bool.eq_false_iff.mpr c16
       subst c16
       have H1:(if a0_0=6 then (if a0_1 < 0 then (spec_l1Is.j2 kj8 a1 true a0_0 a0_1 a0_2 l0_3) else (if a0_1 > 9 then (spec_l1Is.j2 kj8 a1 true a0_0 a0_1 a0_2 l0_3) else (spec_l1Is.j2 kj8 a1 false a0_0 a0_1 a0_2 l0_3))) else (spec_l1Is.j2 kj8 a1 (a0_1 != 0) a0_0 a0_1 a0_2 l0_3))=some r:=by rw [if_neg (show ¬ (false=true) by decide)] at H;exact H
       clear H
       have H:=H1
       clear H1
       have HC17:=Aside0.mk H
       clear H
       go_upto_region 5 with (fail)
       repeat (go_quiet (fail);go_upto_region 5 with (fail))
       go_cut [58] (fun v58 wc=>∃ (kq:Nat) (x58_16:Bool),v58=.bool x58_16∧Aside0 (spec_l1Is.j2 kq a1 x58_16 a0_0 a0_1 a0_2 l0_3=some r)∧Aside0 (kq≤kj8)∧Aside0 (wc.heap[gb270]?=some (.cells #[.int .i64 a0_0,.int .i64 a0_1,.string a0_2,(.slice A0_3 l0_3.length c0_3)] 27 (0,0)))∧Aside0 (Below w.heap.size w wc))
       case first =>
        have H:=HC17.out
        clear HC17
        by_cases c18:a0_0=6
        ·rw [if_pos c18] at H
         have c18b0:(a0_0 == 6)=true:=beq_iff_eq.mpr c18
         have c18b1:(a0_0 != 6)=false:=bne_eq_false_iff_eq.mpr c18
         clear c18
         (first|rw [c18b0]|(simp only [i64_w,i32_w];rw [c18b0])|skip)
         by_cases c19:a0_1 < 0
         ·rw [if_pos c19] at H
          have c19b0:decide (a0_1 < 0)=true:=decide_eq_true c19
          clear c19
          have H':=Aside0.mk H
          clear H
          have hcz20_0:wc.cell? ⟨gb270,0,none⟩=some (.int .i64 a0_0):=(blk_cell BK270.out 0).trans rfl
          have hcz20_1:wc.cell? ⟨gb270,1,none⟩=some (.int .i64 a0_1):=(blk_cell BK270.out 1).trans rfl
          have hcz20_2:wc.cell? ⟨gb270,2,none⟩=some (.string a0_2):=(blk_cell BK270.out 2).trans rfl
          have hcz20_3:wc.cell? ⟨gb270,3,none⟩=some (.slice A0_3 l0_3.length c0_3):=(blk_cell BK270.out 3).trans rfl
          have hfz20_0:=blk_frozen BK270.out 0
          have hfz20_1:=blk_frozen BK270.out 1
          have hfz20_2:=blk_frozen BK270.out 2
          have hfz20_3:=blk_frozen BK270.out 3
          go_wp2
          repeat (go_quiet (fail);try go_wp2)
          go_meet
          case rel=>exact ⟨_,(true),(by first|rfl|(simp;done)|(simp [*];done)),H',⟨by have:=HJ2.out;have:=HJ8.out;first|omega|exact Nat.le_refl _⟩,⟨gK BK270⟩,⟨by repeat (first|exact gB HB|refine below_set ?_ GE270.out)⟩⟩
         ·rw [if_neg c19] at H
          have c19b0:decide (a0_1 < 0)=false:=decide_eq_false c19
          clear c19
          by_cases c21:a0_1 > 9
          ·rw [if_pos c21] at H
           have c21b0:decide (9 < a0_1)=true:=decide_eq_true c21
           clear c21
           have H':=Aside0.mk H
           clear H
           have hcz22_0:wc.cell? ⟨gb270,0,none⟩=some (.int .i64 a0_0):=(blk_cell BK270.out 0).trans rfl
           have hcz22_1:wc.cell? ⟨gb270,1,none⟩=some (.int .i64 a0_1):=(blk_cell BK270.out 1).trans rfl
           have hcz22_2:wc.cell? ⟨gb270,2,none⟩=some (.string a0_2):=(blk_cell BK270.out 2).trans rfl
           have hcz22_3:wc.cell? ⟨gb270,3,none⟩=some (.slice A0_3 l0_3.length c0_3):=(blk_cell BK270.out 3).trans rfl
           have hfz22_0:=blk_frozen BK270.out 0
           have hfz22_1:=blk_frozen BK270.out 1
           have hfz22_2:=blk_frozen BK270.out 2
           have hfz22_3:=blk_frozen BK270.out 3
           go_wp2
           repeat (go_quiet (fail);try go_wp2)
           go_meet
           case rel=>exact ⟨_,(true),(by first|rfl|(simp;done)|(simp [*];done)),H',⟨by have:=HJ2.out;have:=HJ8.out;first|omega|exact Nat.le_refl _⟩,⟨gK BK270⟩,⟨by repeat (first|exact gB HB|refine below_set ?_ GE270.out)⟩⟩
          ·rw [if_neg c21] at H
           have c21b0:decide (9 < a0_1)=false:=decide_eq_false c21
           clear c21
           have H':=Aside0.mk H
           clear H
           have hcz23_0:wc.cell? ⟨gb270,0,none⟩=some (.int .i64 a0_0):=(blk_cell BK270.out 0).trans rfl
           have hcz23_1:wc.cell? ⟨gb270,1,none⟩=some (.int .i64 a0_1):=(blk_cell BK270.out 1).trans rfl
           have hcz23_2:wc.cell? ⟨gb270,2,none⟩=some (.string a0_2):=(blk_cell BK270.out 2).trans rfl
           have hcz23_3:wc.cell? ⟨gb270,3,none⟩=some (.slice A0_3 l0_3.length c0_3):=(blk_cell BK270.out 3).trans rfl
           have hfz23_0:=blk_frozen BK270.out 0
           have hfz23_1:=blk_frozen BK270.out 1
           have hfz23_2:=blk_frozen BK270.out 2
           have hfz23_3:=blk_frozen BK270.out 3
           go_wp2
           repeat (go_quiet (fail);try go_wp2)
           go_meet
           case rel=>exact ⟨_,(false),(by first|rfl|(simp;done)|(simp [*];done)),H',⟨by have:=HJ2.out;have:=HJ8.out;first|omega|exact Nat.le_refl _⟩,⟨gK BK270⟩,⟨by repeat (first|exact gB HB|refine below_set ?_ GE270.out)⟩⟩
        ·rw [if_neg c18] at H
         have c18b0:(a0_0 == 6)=false:=beq_eq_false_iff_ne.mpr c18
         have c18b1:(a0_0 != 6)=true:=bne_iff_ne.mpr c18
         (first|rw [c18b0]|(simp only [i64_w,i32_w];rw [c18b0])|skip)
         have H':=Aside0.mk H
         clear H
         have hcz24_0:wc.cell? ⟨gb270,0,none⟩=some (.int .i64 a0_0):=(blk_cell BK270.out 0).trans rfl
         have hcz24_1:wc.cell? ⟨gb270,1,none⟩=some (.int .i64 a0_1):=(blk_cell BK270.out 1).trans rfl
         have hcz24_2:wc.cell? ⟨gb270,2,none⟩=some (.string a0_2):=(blk_cell BK270.out 2).trans rfl
         have hcz24_3:wc.cell? ⟨gb270,3,none⟩=some (.slice A0_3 l0_3.length c0_3):=(blk_cell BK270.out 3).trans rfl
         have hfz24_0:=blk_frozen BK270.out 0
         have hfz24_1:=blk_frozen BK270.out 1
         have hfz24_2:=blk_frozen BK270.out 2
         have hfz24_3:=blk_frozen BK270.out 3
         go_wp2
         repeat (go_quiet (fail);try go_wp2)
         go_meet
         case rel=>exact ⟨_,((a0_1 != 0)),(by first|rfl|(simp;done)|(simp [*];done)),H',⟨by have:=HJ2.out;have:=HJ8.out;first|omega|exact Nat.le_refl _⟩,⟨gK BK270⟩,⟨by repeat (first|exact gB HB|refine below_set ?_ GE270.out)⟩⟩
       case rest =>
        clear HC17
        try clear c1 c2 p2 c5 c5b0 c5b1 c8 c10 c10b0 c10b1 c12 c16 c18 c18b0 c18b1 c19 c19b0 c21 c21b0 hcz13_0 hcz13_1 hcz13_2 hcz13_3 hcz14_0 hcz14_1 hcz14_2 hcz14_3 hcz15_0 hcz15_1 hcz15_2 hcz15_3 hcz20_0 hcz20_1 hcz20_2 hcz20_3 hcz22_0 hcz22_1 hcz22_2 hcz22_3 hcz23_0 hcz23_1 hcz23_2 hcz23_3 hcz24_0 hcz24_1 hcz24_2 hcz24_3 hcz7_0 hcz7_1 hcz7_2 hcz7_3 hfz13_0 hfz13_1 hfz13_2 hfz13_3 hfz14_0 hfz14_1 hfz14_2 hfz14_3 hfz15_0 hfz15_1 hfz15_2 hfz15_3 hfz20_0 hfz20_1 hfz20_2 hfz20_3 hfz22_0 hfz22_1 hfz22_2 hfz22_3 hfz23_0 hfz23_1 hfz23_2 hfz23_3 hfz24_0 hfz24_1 hfz24_2 hfz24_3 hfz7_0 hfz7_1 hfz7_2 hfz7_3 p2
        obtain ⟨kq,x58_16,rfl,HA,HJ16,BK270,HB⟩:=hcut
        cases kq with
        | zero=>exact absurd HA.out (by simp [spec_l1Is.j2])
        | succ kj16 =>
         have H:=HA.out
         clear HA
         simp only [spec_l1Is.j2] at H
         by_cases c25:x58_16=true
         ·subst c25
          have H1:(some false)=some r:=by rw [if_pos rfl] at H;exact H
          clear H
          have H:=H1
          clear H1
          obtain rfl:=Option.some.inj H
          go_wp2
          repeat (go_quiet (fail);try go_wp2)
          go_ret
          exact ⟨by first|rfl|(simp [errW_none,errW_some] <;> rfl)|(simp [*,errW_none,errW_some] <;> rfl),by repeat (first|exact gB HB|refine below_set ?_ GE270.out)⟩
         ·replace c25:=Bool.eq_false_iff.mpr c25
          subst c25
          have H1:(spec_l1Is.l0 kj16 a1 0 a0_0 a0_1 a0_2 l0_3)=some r:=by rw [if_neg (show ¬ (false=true) by decide)] at H;exact H
          clear H
          have H:=H1
          clear H1
          have H':=Aside0.mk H
          clear H
          go_wp2
          repeat (go_quiet (fail);try go_wp2)
          go_loopg [5] kj16 (fun kq v5 w'=>∃ (x5_4:Int),v5=.int .i64 x5_4∧Aside0 (spec_l1Is.l0 kq a1 x5_4 a0_0 a0_1 a0_2 l0_3=some r)∧Aside0 (kq≤kj16)∧Aside0 (w'.heap[gb270]?=some (.cells #[.int .i64 a0_0,.int .i64 a0_1,.string a0_2,(.slice A0_3 l0_3.length c0_3)] 27 (0,0)))∧Aside0 (Below w.heap.size w w'))
          case atStart=>exact ⟨(0),(by first|rfl|(simp;done)|(simp [*];done)),H',⟨Nat.le_refl _⟩,⟨gK BK270⟩,⟨by repeat (first|exact gB HB|refine below_set ?_ GE270.out)⟩⟩
          case round =>
           clear H'
           try clear c1 c2 p2 c5 c5b0 c5b1 c8 c10 c10b0 c10b1 c12 c16 c18 c18b0 c18b1 c19 c19b0 c21 c21b0 c25 hcz13_0 hcz13_1 hcz13_2 hcz13_3 hcz14_0 hcz14_1 hcz14_2 hcz14_3 hcz15_0 hcz15_1 hcz15_2 hcz15_3 hcz20_0 hcz20_1 hcz20_2 hcz20_3 hcz22_0 hcz22_1 hcz22_2 hcz22_3 hcz23_0 hcz23_1 hcz23_2 hcz23_3 hcz24_0 hcz24_1 hcz24_2 hcz24_3 hcz7_0 hcz7_1 hcz7_2 hcz7_3 hfz13_0 hfz13_1 hfz13_2 hfz13_3 hfz14_0 hfz14_1 hfz14_2 hfz14_3 hfz15_0 hfz15_1 hfz15_2 hfz15_3 hfz20_0 hfz20_1 hfz20_2 hfz20_3 hfz22_0 hfz22_1 hfz22_2 hfz22_3 hfz23_0 hfz23_1 hfz23_2 hfz23_3 hfz24_0 hfz24_1 hfz24_2 hfz24_3 hfz7_0 hfz7_1 hfz7_2 hfz7_3 p2
           (try clear BK270);(try clear HB)
           obtain ⟨x5_4,rfl,HA,HK4,BK270,HB⟩:=hrel
           cases gk with
           | zero=>exact absurd HA.out (by simp [spec_l1Is.l0])
           | succ k4 =>
            have H:=HA.out
            clear HA
            simp only [spec_l1Is.l0] at H
            by_cases c26:x5_4 < (l0_3.length:Int)
            ·rw [if_pos c26] at H
             have c26b0:decide (x5_4 < (l0_3.length:Int))=true:=decide_eq_true c26
             clear c26
             by_cases c27:0≤x5_4
             ·rw [if_pos c27] at H
              have c27b0:decide (0≤x5_4)=true:=decide_eq_true c27
              clear c27
              replace H:=Option.bind_eq_some_iff.mp H
              obtain ⟨t274,A280,H⟩:=H
              replace H:(if t274=true then (spec_l1Is.l0 k4 a1 (wrap64 (x5_4+1)) a0_0 a0_1 a0_2 l0_3) else (some false))=some r:=H
              have A28:=Aside0.mk A280
              clear A280
              by_cases c29:t274=true
              ·subst c29
               have H1:(spec_l1Is.l0 k4 a1 (wrap64 (x5_4+1)) a0_0 a0_1 a0_2 l0_3)=some r:=by rw [if_pos rfl] at H;exact H
               clear H
               have H:=H1
               clear H1
               have H':=Aside0.mk H
               clear H
               have hcz30_0:wr.cell? ⟨gb270,0,none⟩=some (.int .i64 a0_0):=(blk_cell BK270.out 0).trans rfl
               have hcz30_1:wr.cell? ⟨gb270,1,none⟩=some (.int .i64 a0_1):=(blk_cell BK270.out 1).trans rfl
               have hcz30_2:wr.cell? ⟨gb270,2,none⟩=some (.string a0_2):=(blk_cell BK270.out 2).trans rfl
               have hcz30_3:wr.cell? ⟨gb270,3,none⟩=some (.slice A0_3 l0_3.length c0_3):=(blk_cell BK270.out 3).trans rfl
               have hfz30_0:=blk_frozen BK270.out 0
               have hfz30_1:=blk_frozen BK270.out 1
               have hfz30_2:=blk_frozen BK270.out 2
               have hfz30_3:=blk_frozen BK270.out 3
               have p273:0≤(x5_4:Int):=of_decide_eq_true (by first|(with_reducible assumption)|assumption)
               have q273:x5_4 < (l0_3.length:Int):=of_decide_eq_true (by first|(with_reducible assumption)|assumption)
               obtain ⟨ad273,A273_3,c273_3,e273,hx273_0,hx273_1,hx273_2,hx273_3,hl273_3,hi273_3⟩:=at_TDoc HR0_3.out x5_4 p273 q273
               cases e273
               replace hx273_0:=(HB.out.cell (World.block_lt_of_cell? w _ hx273_0)).trans hx273_0
               replace hx273_1:=(HB.out.cell (World.block_lt_of_cell? w _ hx273_1)).trans hx273_1
               replace hx273_2:=(HB.out.cell (World.block_lt_of_cell? w _ hx273_2)).trans hx273_2
               replace hx273_3:=(HB.out.cell (World.block_lt_of_cell? w _ hx273_3)).trans hx273_3
               have HR273_3:=Aside0.mk hi273_3
               have HC273_3:=Aside0.mk hl273_3
               clear hi273_3 hl273_3
               replace p273:=eq_true p273
               replace q273:=eq_true q273
               go_wp2_with (first|(go_at_call 53;(with_reducible refine (ih k4 (by have:=HJ2.out;have:=HJ8.out;have:=HJ16.out;have:=HK4.out;omega) ((rd_TDoc l0_3 x5_4).f0) ((rd_TDoc l0_3 x5_4).f1) ((rd_TDoc l0_3 x5_4).f2) _ _ ((rd_TDoc l0_3 x5_4).f3) (wrap64 (a1 - 1)) true _ ?side1 ?side2 A28.out).mono ?_);(case side1=>exact gC (Kd.C_below HR273_3.out HB.out));(case side2=>exact HC273_3.out);rintro e w31 ⟨rfl,hb⟩;have n0_:=Aside0.mk (blk_below (g:=gb270) (o:=.cells #[.int .i64 a0_0,.int .i64 a0_1,.string a0_2,.slice (some ad273) l0_3.length c0_3] 27 (0,0)) (gK BK270) hb);have n1_:=Aside0.mk (below_step (by repeat (first|exact gB HB|refine below_set ?_ GE270.out)) hb);clear BK270;clear HB;have BK270:=n0_;have HB:=n1_;clear n0_ n1_;(try clear hb);(try clear hb2);(try clear hk);(try clear hi)))
               repeat (go_quiet (first|(go_at_call 53;(with_reducible refine (ih k4 (by have:=HJ2.out;have:=HJ8.out;have:=HJ16.out;have:=HK4.out;omega) ((rd_TDoc l0_3 x5_4).f0) ((rd_TDoc l0_3 x5_4).f1) ((rd_TDoc l0_3 x5_4).f2) _ _ ((rd_TDoc l0_3 x5_4).f3) (wrap64 (a1 - 1)) true _ ?side1 ?side2 A28.out).mono ?_);(case side1=>exact gC (Kd.C_below HR273_3.out HB.out));(case side2=>exact HC273_3.out);rintro e w31 ⟨rfl,hb⟩;have n0_:=Aside0.mk (blk_below (g:=gb270) (o:=.cells #[.int .i64 a0_0,.int .i64 a0_1,.string a0_2,.slice (some ad273) l0_3.length c0_3] 27 (0,0)) (gK BK270) hb);have n1_:=Aside0.mk (below_step (by repeat (first|exact gB HB|refine below_set ?_ GE270.out)) hb);clear BK270;clear HB;have BK270:=n0_;have HB:=n1_;clear n0_ n1_;(try clear hb);(try clear hb2);(try clear hk);(try clear hi)));try go_wp2_with (first|(go_at_call 53;(with_reducible refine (ih k4 (by have:=HJ2.out;have:=HJ8.out;have:=HJ16.out;have:=HK4.out;omega) ((rd_TDoc l0_3 x5_4).f0) ((rd_TDoc l0_3 x5_4).f1) ((rd_TDoc l0_3 x5_4).f2) _ _ ((rd_TDoc l0_3 x5_4).f3) (wrap64 (a1 - 1)) true _ ?side1 ?side2 A28.out).mono ?_);(case side1=>exact gC (Kd.C_below HR273_3.out HB.out));(case side2=>exact HC273_3.out);rintro e w31 ⟨rfl,hb⟩;have n0_:=Aside0.mk (blk_below (g:=gb270) (o:=.cells #[.int .i64 a0_0,.int .i64 a0_1,.string a0_2,.slice (some ad273) l0_3.length c0_3] 27 (0,0)) (gK BK270) hb);have n1_:=Aside0.mk (below_step (by repeat (first|exact gB HB|refine below_set ?_ GE270.out)) hb);clear BK270;clear HB;have BK270:=n0_;have HB:=n1_;clear n0_ n1_;(try clear hb);(try clear hb2);(try clear hk);(try clear hi))))
               go_roundg k4
               case measure=>have:=HJ2.out;have:=HJ8.out;have:=HJ16.out;have:=HK4.out;omega
               case rel=>exact ⟨(wrap64 (x5_4+1)),(by first|rfl|(simp;done)|(simp [*];done)),H',⟨by have:=HJ2.out;have:=HJ8.out;have:=HJ16.out;have:=HK4.out;omega⟩,⟨gK BK270⟩,⟨by repeat (first|exact gB HB|refine below_set ?_ GE270.out)⟩⟩
              ·replace c29:=Bool.eq_false_iff.mpr c29
               subst c29
               have H1:(some false)=some r:=by rw [if_neg (show ¬ (false=true) by decide)] at H;exact H
               clear H
               have H:=H1
               clear H1
               obtain rfl:=Option.some.inj H
               have hcz32_0:wr.cell? ⟨gb270,0,none⟩=some (.int .i64 a0_0):=(blk_cell BK270.out 0).trans rfl
               have hcz32_1:wr.cell? ⟨gb270,1,none⟩=some (.int .i64 a0_1):=(blk_cell BK270.out 1).trans rfl
               have hcz32_2:wr.cell? ⟨gb270,2,none⟩=some (.string a0_2):=(blk_cell BK270.out 2).trans rfl
               have hcz32_3:wr.cell? ⟨gb270,3,none⟩=some (.slice A0_3 l0_3.length c0_3):=(blk_cell BK270.out 3).trans rfl
               have hfz32_0:=blk_frozen BK270.out 0
               have hfz32_1:=blk_frozen BK270.out 1
               have hfz32_2:=blk_frozen BK270.out 2
               have hfz32_3:=blk_frozen BK270.out 3
               have p273:0≤(x5_4:Int):=of_decide_eq_true (by first|(with_reducible assumption)|assumption)
               have q273:x5_4 < (l0_3.length:Int):=of_decide_eq_true (by first|(with_reducible assumption)|assumption)
               (try clear hx273_0);(try clear hx273_1);(try clear hx273_2);(try clear hx273_3)
               obtain ⟨ad273,A273_3,c273_3,e273,hx273_0,hx273_1,hx273_2,hx273_3,hl273_3,hi273_3⟩:=at_TDoc HR0_3.out x5_4 p273 q273
               cases e273
               (try (have ea_:=Option.some.inj (hx273_3.symm.trans hw273_3);injection ea_ with ea_ en_ ec_;subst ea_;subst ec_;clear en_))
               replace hx273_0:=(HB.out.cell (World.block_lt_of_cell? w _ hx273_0)).trans hx273_0
               replace hx273_1:=(HB.out.cell (World.block_lt_of_cell? w _ hx273_1)).trans hx273_1
               replace hx273_2:=(HB.out.cell (World.block_lt_of_cell? w _ hx273_2)).trans hx273_2
               replace hx273_3:=(HB.out.cell (World.block_lt_of_cell? w _ hx273_3)).trans hx273_3
               have HR273_3:=Aside0.mk hi273_3
               have HC273_3:=Aside0.mk hl273_3
               clear hi273_3 hl273_3
               replace p273:=eq_true p273
               replace q273:=eq_true q273
               go_wp2_with (first|(go_at_call 53;(with_reducible refine (ih k4 (by have:=HJ2.out;have:=HJ8.out;have:=HJ16.out;have:=HK4.out;omega) ((rd_TDoc l0_3 x5_4).f0) ((rd_TDoc l0_3 x5_4).f1) ((rd_TDoc l0_3 x5_4).f2) _ _ ((rd_TDoc l0_3 x5_4).f3) (wrap64 (a1 - 1)) false _ ?side1 ?side2 A28.out).mono ?_);(case side1=>exact gC (Kd.C_below HR273_3.out HB.out));(case side2=>exact HC273_3.out);rintro e w33 ⟨rfl,hb⟩;have n0_:=Aside0.mk (blk_below (g:=gb270) (o:=.cells #[.int .i64 a0_0,.int .i64 a0_1,.string a0_2,.slice (some ad273) l0_3.length c0_3] 27 (0,0)) (gK BK270) hb);have n1_:=Aside0.mk (below_step (by repeat (first|exact gB HB|refine below_set ?_ GE270.out)) hb);clear BK270;clear HB;have BK270:=n0_;have HB:=n1_;clear n0_ n1_;(try clear hb);(try clear hb2);(try clear hk);(try clear hi)))
               repeat (go_quiet (first|(go_at_call 53;(with_reducible refine (ih k4 (by have:=HJ2.out;have:=HJ8.out;have:=HJ16.out;have:=HK4.out;omega) ((rd_TDoc l0_3 x5_4).f0) ((rd_TDoc l0_3 x5_4).f1) ((rd_TDoc l0_3 x5_4).f2) _ _ ((rd_TDoc l0_3 x5_4).f3) (wrap64 (a1 - 1)) false _ ?side1 ?side2 A28.out).mono ?_);(case side1=>exact gC (Kd.C_below HR273_3.out HB.out));(case side2=>exact HC273_3.out);rintro e w33 ⟨rfl,hb⟩;have n0_:=Aside0.mk (blk_below (g:=gb270) (o:=.cells #[.int .i64 a0_0,.int .i64 a0_1,.string a0_2,.slice (some ad273) l0_3.length c0_3] 27 (0,0)) (gK BK270) hb);have n1_:=Aside0.mk (below_step (by repeat (first|exact gB HB|refine below_set ?_ GE270.out)) hb);clear BK270;clear HB;have BK270:=n0_;have HB:=n1_;clear n0_ n1_;(try clear hb);(try clear hb2);(try clear hk);(try clear hi)));try go_wp2_with (first|(go_at_call 53;(with_reducible refine (ih k4 (by have:=HJ2.out;have:=HJ8.out;have:=HJ16.out;have:=HK4.out;omega) ((rd_TDoc l0_3 x5_4).f0) ((rd_TDoc l0_3 x5_4).f1) ((rd_TDoc l0_3 x5_4).f2) _ _ ((rd_TDoc l0_3 x5_4).f3) (wrap64 (a1 - 1)) false _ ?side1 ?side2 A28.out).mono ?_);(case side1=>exact gC (Kd.C_below HR273_3.out HB.out));(case side2=>exact HC273_3.out);rintro e w33 ⟨rfl,hb⟩;have n0_:=Aside0.mk (blk_below (g:=gb270) (o:=.cells #[.int .i64 a0_0,.int .i64 a0_1,.string a0_2,.slice (some ad273) l0_3.length c0_3] 27 (0,0)) (gK BK270) hb);have n1_:=Aside0.mk (below_step (by repeat (first|exact gB HB|refine below_set ?_ GE270.out)) hb);clear BK270;clear HB;have BK270:=n0_;have HB:=n1_;clear n0_ n1_;(try clear hb);(try clear hb2);(try clear hk);(try clear hi))))
               go_ret
               exact ⟨by first|rfl|(simp [errW_none,errW_some] <;> rfl)|(simp [*,errW_none,errW_some] <;> rfl),by repeat (first|exact gB HB|refine below_set ?_ GE270.out)⟩
             ·rw [if_neg c27] at H
              exact absurd H (by simp)
            ·rw [if_neg c26] at H
             have c26b0:decide (x5_4 < (l0_3.length:Int))=false:=decide_eq_false c26
             clear c26
             obtain rfl:=Option.some.inj H
             have hcz34_0:wr.cell? ⟨gb270,0,none⟩=some (.int .i64 a0_0):=(blk_cell BK270.out 0).trans rfl
             have hcz34_1:wr.cell? ⟨gb270,1,none⟩=some (.int .i64 a0_1):=(blk_cell BK270.out 1).trans rfl
             have hcz34_2:wr.cell? ⟨gb270,2,none⟩=some (.string a0_2):=(blk_cell BK270.out 2).trans rfl
             have hcz34_3:wr.cell? ⟨gb270,3,none⟩=some (.slice A0_3 l0_3.length c0_3):=(blk_cell BK270.out 3).trans rfl
             have hfz34_0:=blk_frozen BK270.out 0
             have hfz34_1:=blk_frozen BK270.out 1
             have hfz34_2:=blk_frozen BK270.out 2
             have hfz34_3:=blk_frozen BK270.out 3
             go_wp2
             repeat (go_quiet (fail);try go_wp2)
             go_ret
             exact ⟨by first|rfl|(simp [errW_none,errW_some] <;> rfl)|(simp [*,errW_none,errW_some] <;> rfl),by repeat (first|exact gB HB|refine below_set ?_ GE270.out)⟩
end Go.Proofs.Ytdhdfmmefghijaa.P
namespace Go.Proofs.Ytdhdfmmefghijaa.P
open Go.RowKit Go.Proofs.YtdhdfmmefghijaaW.PrintWords Go.Proofs.YtdhdfmmefghijaaW.PrintLast Go.Proofs.YtdhdfmmefghijaaW.PrintMore
attribute [local go_sem] max2_int min2_int max_two min_two max_three min_three max_four min_four
set_option linter.unusedVariables false
set_option linter.unusedSimpArgs false
def spec_DocValid.f (k:Nat) (a0_0:Int) (a0_1:Int) (a0_2:ByteArray) (l0_3:List (SDoc)):Option (Bool):=(spec_l1Is.f k a0_0 a0_1 a0_2 l0_3 40).bind fun t279=>(if t279=true then ((spec_l1Count.f k a0_0 a0_1 a0_2 l0_3).bind fun t280=>(some (decide (t280≤80)))) else (some false))
set_option maxHeartbeats 8000000 in
set_option maxRecDepth 100000 in
theorem spec_DocValid.calls (k:Nat) (a0_0:Int) (a0_1:Int) (a0_2:ByteArray) (A0_3:Option Addr) (c0_3:Nat) (l0_3:List (SDoc)) (r:Bool) (w:World) (hr0_3:Kd.C k27 w A0_3 l0_3.length l0_3) (hc0_3:l0_3.length≤c0_3) (h:spec_DocValid.f k a0_0 a0_1 a0_2 l0_3=some r) :
  Calls Try.prog 25 #[.agg #[.int .i64 a0_0,.int .i64 a0_1,.string a0_2,.slice A0_3 l0_3.length c0_3]] w fun e w'=>e=.returned (.bool r)∧Below w.heap.size w w':=by
 have hu27:=Try.underlying27
 have HR0_3:=Aside0.mk hr0_3
 have HC0_3:=Aside0.mk hc0_3
 clear hr0_3 hc0_3
 have HB:=Aside0.mk (Below.refl w.heap.size w)
 have H:((spec_l1Is.f k a0_0 a0_1 a0_2 l0_3 40).bind fun t279=>(if t279=true then ((spec_l1Count.f k a0_0 a0_1 a0_2 l0_3).bind fun t280=>(some (decide (t280≤80)))) else (some false)))=some r:=h
 clear h
 replace H:=Option.bind_eq_some_iff.mp H
 obtain ⟨t279,A20,H⟩:=H
 replace H:(if t279=true then ((spec_l1Count.f k a0_0 a0_1 a0_2 l0_3).bind fun t280=>(some (decide (t280≤80)))) else (some false))=some r:=H
 have A2:=Aside0.mk A20
 clear A20
 by_cases c3:t279=true
 ·subst c3
  have H1:((spec_l1Count.f k a0_0 a0_1 a0_2 l0_3).bind fun t280=>(some (decide (t280≤80))))=some r:=by rw [if_pos rfl] at H;exact H
  clear H
  have H:=H1
  clear H1
  replace H:=Option.bind_eq_some_iff.mp H
  obtain ⟨t280,A40,H⟩:=H
  replace H:(some (decide (t280≤80)))=some r:=H
  have A4:=Aside0.mk A40
  clear A40
  obtain rfl:=Option.some.inj H
  go_enter Try.func25,Try.ntmps25
  go_wp2_with (first|((with_reducible refine gate_dst (N:=1) rfl ?_);refine box_event ?hg (N:=1) ?hd (cs:=#[.int .i64 a0_0,.int .i64 a0_1,.string a0_2,.slice A0_3 l0_3.length c0_3]) (t:=27) ?hr ?_;(case hd=>rfl);(case hg=>rfl);(case hr=>first|(go_simp;done)|(go_simp;rfl));intro gb278 hg w5 hbox hb;have n0_:=Aside0.mk (below_step (by repeat (first|(with_reducible first|exact HB.out|apply below_alloc|apply pw_below_drewN|apply below_drew1)|exact HB.out)) hb);have n1_:=Aside0.mk (hbox);have n2_:=Aside0.mk ((by rw [hg];exact (below_size (by repeat (first|(with_reducible first|exact HB.out|apply below_alloc|apply pw_below_drewN|apply below_drew1)|exact HB.out))):w.heap.size≤gb278));have n3_:=Aside0.mk ((by rw [hg];exact (below_size (by repeat (first|(with_reducible first|exact HB.out|apply below_alloc|apply pw_below_drewN|apply below_drew1)|exact HB.out))):w.heap.size≤gb278));clear HB;have HB:=n0_;have BK278:=n1_;have GW278:=n2_;have GE278:=n3_;clear n0_ n1_ n2_ n3_;clear hb hbox hg;have hcz6_0:w5.cell? ⟨gb278,0,none⟩=some (.int .i64 a0_0):=(blk_cell BK278.out 0).trans rfl;have hcz6_1:w5.cell? ⟨gb278,1,none⟩=some (.int .i64 a0_1):=(blk_cell BK278.out 1).trans rfl;have hcz6_2:w5.cell? ⟨gb278,2,none⟩=some (.string a0_2):=(blk_cell BK278.out 2).trans rfl;have hcz6_3:w5.cell? ⟨gb278,3,none⟩=some (.slice A0_3 l0_3.length c0_3):=(blk_cell BK278.out 3).trans rfl;have hfz6_0:=blk_frozen BK278.out 0;have hfz6_1:=blk_frozen BK278.out 1;have hfz6_2:=blk_frozen BK278.out 2;have hfz6_3:=blk_frozen BK278.out 3)|((with_reducible refine gate_callee (f:=53) rfl ?_);refine goesL_ (some 4) rfl rfl Try.func53 (by kernel_rfl) rfl #[.agg #[.int .i64 a0_0,.int .i64 a0_1,.string a0_2,.slice A0_3 l0_3.length c0_3],.int .i64 40] rfl (by (try simp only [List.map_toArray,List.map_cons,List.map_nil]);first|done|rfl|(simp only [List.length_drop,List.length_take];rfl)) ?_;(with_reducible refine (spec_l1Is.calls k a0_0 a0_1 a0_2 _ _ l0_3 40 true _ ?side1 ?side2 A2.out).mono ?_);(case side1=>repeat (first|exact (Kd.C_below HR0_3.out HB.out)|(with_reducible refine Kd.C_alloc ?_ _)|(with_reducible refine Kd.C_drewN ?_ _)|(with_reducible refine Kd.C_drew ?_)));(case side2=>exact HC0_3.out);rintro e w7 ⟨rfl,hb⟩;refine ⟨_,rfl,?_⟩;have n0_:=Aside0.mk (blk_below (g:=gb278) (o:=.cells #[.int .i64 a0_0,.int .i64 a0_1,.string a0_2,.slice A0_3 l0_3.length c0_3] 27 (0,0)) (by (with_reducible repeat (first|refine blk_drewN ?_ _|refine blk_drew ?_|refine blk_alloc ?_ _));exact BK278.out) hb);have n1_:=Aside0.mk (below_step (by repeat (first|(with_reducible first|exact HB.out|apply below_alloc|apply pw_below_drewN|apply below_drew1|refine below_set ?_ GE278.out)|exact HB.out)) hb);clear BK278;clear HB;have BK278:=n0_;have HB:=n1_;clear n0_ n1_;(try clear hb);(try clear hb2);(try clear hk);(try clear hi);have hcz8_0:w7.cell? ⟨gb278,0,none⟩=some (.int .i64 a0_0):=(blk_cell BK278.out 0).trans rfl;have hcz8_1:w7.cell? ⟨gb278,1,none⟩=some (.int .i64 a0_1):=(blk_cell BK278.out 1).trans rfl;have hcz8_2:w7.cell? ⟨gb278,2,none⟩=some (.string a0_2):=(blk_cell BK278.out 2).trans rfl;have hcz8_3:w7.cell? ⟨gb278,3,none⟩=some (.slice A0_3 l0_3.length c0_3):=(blk_cell BK278.out 3).trans rfl;have hfz8_0:=blk_frozen BK278.out 0;have hfz8_1:=blk_frozen BK278.out 1;have hfz8_2:=blk_frozen BK278.out 2;have hfz8_3:=blk_frozen BK278.out 3)|(go_at_call 54;(with_reducible refine (spec_l1Count.calls k a0_0 a0_1 a0_2 _ _ l0_3 t280 _ ?side1 ?side2 A4.out).mono ?_);(case side1=>repeat (first|exact (Kd.C_below HR0_3.out HB.out)|(with_reducible refine Kd.C_alloc ?_ _)|(with_reducible refine Kd.C_drewN ?_ _)|(with_reducible refine Kd.C_drew ?_)));(case side2=>exact HC0_3.out);rintro e w9 ⟨rfl,hb⟩;have n0_:=Aside0.mk (blk_below (g:=gb278) (o:=.cells #[.int .i64 a0_0,.int .i64 a0_1,.string a0_2,.slice A0_3 l0_3.length c0_3] 27 (0,0)) (by (with_reducible repeat (first|refine blk_drewN ?_ _|refine blk_drew ?_|refine blk_alloc ?_ _));exact BK278.out) hb);have n1_:=Aside0.mk (below_step (by repeat (first|(with_reducible first|exact HB.out|apply below_alloc|apply pw_below_drewN|apply below_drew1|refine below_set ?_ GE278.out)|exact HB.out)) hb);clear BK278;clear HB;have BK278:=n0_;have HB:=n1_;clear n0_ n1_;(try clear hb);(try clear hb2);(try clear hk);(try clear hi)))
  go_ret
  exact ⟨by first|rfl|(simp [errW_none,errW_some] <;> rfl)|(simp [*,errW_none,errW_some] <;> rfl),by repeat (first|(with_reducible first|exact HB.out|apply below_alloc|apply pw_below_drewN|apply below_drew1|refine below_set ?_ GE278.out)|exact HB.out)⟩
 ·replace c3:=Bool.eq_false_iff.mpr c3
  subst c3
  have H1:(some false)=some r:=by rw [if_neg (show ¬ (false=true) by decide)] at H;exact H
  clear H
  have H:=H1
  clear H1
  obtain rfl:=Option.some.inj H
  go_enter Try.func25,Try.ntmps25
  go_wp2_with (first|((with_reducible refine gate_dst (N:=1) rfl ?_);refine box_event ?hg (N:=1) ?hd (cs:=#[.int .i64 a0_0,.int .i64 a0_1,.string a0_2,.slice A0_3 l0_3.length c0_3]) (t:=27) ?hr ?_;(case hd=>rfl);(case hg=>rfl);(case hr=>first|(go_simp;done)|(go_simp;rfl));intro gb278 hg w10 hbox hb;have n0_:=Aside0.mk (below_step (by repeat (first|(with_reducible first|exact HB.out|apply below_alloc|apply pw_below_drewN|apply below_drew1)|exact HB.out)) hb);have n1_:=Aside0.mk (hbox);have n2_:=Aside0.mk ((by rw [hg];exact (below_size (by repeat (first|(with_reducible first|exact HB.out|apply below_alloc|apply pw_below_drewN|apply below_drew1)|exact HB.out))):w.heap.size≤gb278));have n3_:=Aside0.mk ((by rw [hg];exact (below_size (by repeat (first|(with_reducible first|exact HB.out|apply below_alloc|apply pw_below_drewN|apply below_drew1)|exact HB.out))):w.heap.size≤gb278));clear HB;have HB:=n0_;have BK278:=n1_;have GW278:=n2_;have GE278:=n3_;clear n0_ n1_ n2_ n3_;clear hb hbox hg;have hcz11_0:w10.cell? ⟨gb278,0,none⟩=some (.int .i64 a0_0):=(blk_cell BK278.out 0).trans rfl;have hcz11_1:w10.cell? ⟨gb278,1,none⟩=some (.int .i64 a0_1):=(blk_cell BK278.out 1).trans rfl;have hcz11_2:w10.cell? ⟨gb278,2,none⟩=some (.string a0_2):=(blk_cell BK278.out 2).trans rfl;have hcz11_3:w10.cell? ⟨gb278,3,none⟩=some (.slice A0_3 l0_3.length c0_3):=(blk_cell BK278.out 3).trans rfl;have hfz11_0:=blk_frozen BK278.out 0;have hfz11_1:=blk_frozen BK278.out 1;have hfz11_2:=blk_frozen BK278.out 2;have hfz11_3:=blk_frozen BK278.out 3)|((with_reducible refine gate_callee (f:=53) rfl ?_);refine goesL_ (some 4) rfl rfl Try.func53 (by kernel_rfl) rfl #[.agg #[.int .i64 a0_0,.int .i64 a0_1,.string a0_2,.slice A0_3 l0_3.length c0_3],.int .i64 40] rfl (by (try simp only [List.map_toArray,List.map_cons,List.map_nil]);first|done|rfl|(simp only [List.length_drop,List.length_take];rfl)) ?_;(with_reducible refine (spec_l1Is.calls k a0_0 a0_1 a0_2 _ _ l0_3 40 false _ ?side1 ?side2 A2.out).mono ?_);(case side1=>repeat (first|exact (Kd.C_below HR0_3.out HB.out)|(with_reducible refine Kd.C_alloc ?_ _)|(with_reducible refine Kd.C_drewN ?_ _)|(with_reducible refine Kd.C_drew ?_)));(case side2=>exact HC0_3.out);rintro e w12 ⟨rfl,hb⟩;refine ⟨_,rfl,?_⟩;have n0_:=Aside0.mk (blk_below (g:=gb278) (o:=.cells #[.int .i64 a0_0,.int .i64 a0_1,.string a0_2,.slice A0_3 l0_3.length c0_3] 27 (0,0)) (by (with_reducible repeat (first|refine blk_drewN ?_ _|refine blk_drew ?_|refine blk_alloc ?_ _));exact BK278.out) hb);have n1_:=Aside0.mk (below_step (by repeat (first|(with_reducible first|exact HB.out|apply below_alloc|apply pw_below_drewN|apply below_drew1|refine below_set ?_ GE278.out)|exact HB.out)) hb);clear BK278;clear HB;have BK278:=n0_;have HB:=n1_;clear n0_ n1_;(try clear hb);(try clear hb2);(try clear hk);(try clear hi)))
  go_ret
  exact ⟨by first|rfl|(simp [errW_none,errW_some] <;> rfl)|(simp [*,errW_none,errW_some] <;> rfl),by repeat (first|(with_reducible first|exact HB.out|apply below_alloc|apply pw_below_drewN|apply below_drew1|refine below_set ?_ GE278.out)|exact HB.out)⟩
end Go.Proofs.Ytdhdfmmefghijaa.P
namespace Go.Proofs.Ytdhdfmmefghijaa.P
open Go.RowKit Go.Proofs.YtdhdfmmefghijaaW.PrintWords Go.Proofs.YtdhdfmmefghijaaW.PrintLast Go.Proofs.YtdhdfmmefghijaaW.PrintMore
attribute [local go_sem] max2_int min2_int max_two min_two max_three min_three max_four min_four
set_option linter.unusedVariables false
set_option linter.unusedSimpArgs false
mutual
def spec_l1Word.j1:Nat→ByteArray→Int→Int→Option (Int × Int × ByteArray × (List (SDoc)) × Int)
 | 0,_,_,_=>none
 | k+1,x0,x1,x6=>if x6 ≥ (x0.size:Int) then (some (0,0,(⟨#[]⟩:ByteArray),([]:List (SDoc)),(-1))) else (if 0≤(wrap64 (x1+1)) then (if (wrap64 (x1+1))≤x6 then (if x6≤(x0.size:Int) then (some (2,0,x0.extract ((wrap64 (x1+1)):Int).toNat (x6:Int).toNat,([]:List (SDoc)),wrap64 (x6+1))) else (none)) else (none)) else (none))
def spec_l1Word.l0:Nat→ByteArray→Int→Int→Option (Int × Int × ByteArray × (List (SDoc)) × Int)
 | 0,_,_,_=>none
 | k+1,x0,x1,x6=>if x6 < (x0.size:Int) then (if 0≤x6 then (if (bt x0 x6)=34 then (spec_l1Word.j1 k x0 x1 x6) else (spec_l1Word.l0 k x0 x1 (wrap64 (x6+1)))) else (none)) else (spec_l1Word.j1 k x0 x1 x6)
end
def spec_l1Word.f (k:Nat) (a0:ByteArray) (a1:Int):Option (Int × Int × ByteArray × (List (SDoc)) × Int):=spec_l1Word.l0 k a0 a1 (wrap64 (a1+1))
set_option maxHeartbeats 8000000 in
set_option maxRecDepth 100000 in
theorem spec_l1Word.calls (k:Nat) (a0:ByteArray) (a1:Int) (r1:Int) (r2:Int) (r3:ByteArray) (r4:List (SDoc)) (r5:Int) (w:World) (h:spec_l1Word.f k a0 a1=some (r1,r2,r3,r4,r5)) :
  Calls Try.prog 76 #[.string a0,.int .i64 a1] w fun e w'=>∃ v3_:Value,e=.returned (.tuple #[.agg #[.int .i64 r1,.int .i64 r2,.string r3,v3_],.int .i64 r5])∧Kd.R k27 27 w' w.heap.size (fun _=>True) v3_ r4∧Below w.heap.size w w':=by
 have hu27:=Try.underlying27
 have HB:=Aside0.mk (Below.refl w.heap.size w)
 have H:(spec_l1Word.l0 k a0 a1 (wrap64 (a1+1)))=some (r1,r2,r3,r4,r5):=h
 clear h
 have HC3:=Aside0.mk H
 clear H
 go_enter Try.func76,Try.ntmps76
 go_upto_block 0 with (first|((with_reducible refine gate_dst (N:=4) rfl ?_);refine box_event ?hg (N:=4) ?hd (cs:=#[.int .i64 0,.int .i64 0,.string (⟨#[]⟩:ByteArray),.slice none 0 0]) (t:=27) ?hr ?_;(case hd=>rfl);(case hg=>rfl);(case hr=>first|(go_simp;done)|(go_simp;rfl));intro gb281 hg w4 hbox hb;have n0_:=Aside0.mk (below_step (gB HB) hb);have n1_:=Aside0.mk (hbox);have n2_:=Aside0.mk ((by rw [hg];exact (below_size (gB HB)):w.heap.size≤gb281));have n3_:=Aside0.mk ((by rw [hg];exact (below_size (gB HB)):w.heap.size≤gb281));clear HB;have HB:=n0_;have BK281:=n1_;have GW281:=n2_;have GE281:=n3_;clear n0_ n1_ n2_ n3_;clear hb hbox hg))
 (try simp only [Act.put,List.setIfInBounds_toArray,List.set_cons_zero,List.set_cons_succ])
 go_cut [6] (fun v6 wc=>∃ (kq:Nat) (x6_2:Int),v6=.int .i64 x6_2∧Aside0 (spec_l1Word.j1 kq a0 a1 x6_2=some (r1,r2,r3,r4,r5))∧Aside0 (kq≤k)∧Aside0 (wc.heap[gb281]?=some (.cells #[.int .i64 0,.int .i64 0,.string (⟨#[]⟩:ByteArray),(.slice none 0 0)] 27 (0,0)))∧Aside0 (Below w.heap.size w wc))
 case first =>
  have H:=HC3.out
  clear HC3
  have H':=Aside0.mk H
  clear H
  go_wp2
  go_loopg [6] k (fun kq v6 w'=>∃ (x6_1:Int),v6=.int .i64 x6_1∧Aside0 (spec_l1Word.l0 kq a0 a1 x6_1=some (r1,r2,r3,r4,r5))∧Aside0 (kq≤k)∧Aside0 (w'.heap[gb281]?=some (.cells #[.int .i64 0,.int .i64 0,.string (⟨#[]⟩:ByteArray),(.slice none 0 0)] 27 (0,0)))∧Aside0 (Below w.heap.size w w'))
  case atStart=>exact ⟨(wrap64 (a1+1)),(by first|rfl|(simp;done)|(simp [*];done)),H',⟨Nat.le_refl _⟩,⟨gK BK281⟩,⟨by repeat (first|exact gB HB|refine below_set ?_ GE281.out)⟩⟩
  case round =>
   clear H'
   try clear p2
   (try clear BK281);(try clear HB)
   obtain ⟨x6_1,rfl,HA,HK1,BK281,HB⟩:=hrel
   cases gk with
   | zero=>exact absurd HA.out (by simp [spec_l1Word.l0])
   | succ k1 =>
    have H:=HA.out
    clear HA
    simp only [spec_l1Word.l0] at H
    by_cases c5:x6_1 < (a0.size:Int)
    ·rw [if_pos c5] at H
     have c5b0:decide (x6_1 < (a0.size:Int))=true:=decide_eq_true c5
     clear c5
     (first|rw [c5b0]|(simp only [i64_w,i32_w];rw [c5b0])|skip)
     by_cases c6:0≤x6_1
     ·rw [if_pos c6] at H
      have c6b0:decide (0≤x6_1)=true:=decide_eq_true c6
      clear c6
      by_cases c8:(bt a0 x6_1)=34
      ·rw [if_pos c8] at H
       have c8b0:((bt a0 x6_1) == 34)=true:=beq_iff_eq.mpr c8
       have c8b1:((bt a0 x6_1) != 34)=false:=bne_eq_false_iff_eq.mpr c8
       clear c8
       have H':=Aside0.mk H
       clear H
       have p7:0≤(x6_1:Int):=of_decide_eq_true (by first|(with_reducible assumption)|assumption)
       have q7:x6_1 < (a0.size:Int):=of_decide_eq_true (by first|(with_reducible assumption)|assumption)
       have hx7:=bt_at a0 x6_1
       replace p7:=eq_true p7
       replace q7:=eq_true q7
       go_wp2
       go_meet
       case rel=>exact ⟨_,(x6_1),(by first|rfl|(simp;done)|(simp [*];done)),H',⟨by have:=HK1.out;first|omega|exact Nat.le_refl _⟩,⟨gK BK281⟩,⟨by repeat (first|exact gB HB|refine below_set ?_ GE281.out)⟩⟩
      ·rw [if_neg c8] at H
       have c8b0:((bt a0 x6_1) == 34)=false:=beq_eq_false_iff_ne.mpr c8
       have c8b1:((bt a0 x6_1) != 34)=true:=bne_iff_ne.mpr c8
       have H':=Aside0.mk H
       clear H
       have p7:0≤(x6_1:Int):=of_decide_eq_true (by first|(with_reducible assumption)|assumption)
       have q7:x6_1 < (a0.size:Int):=of_decide_eq_true (by first|(with_reducible assumption)|assumption)
       have hx7:=bt_at a0 x6_1
       replace p7:=eq_true p7
       replace q7:=eq_true q7
       go_wp2
       go_roundg k1
       case measure=>have:=HK1.out;omega
       case rel=>exact ⟨(wrap64 (x6_1+1)),(by first|rfl|(simp;done)|(simp [*];done)),H',⟨by have:=HK1.out;omega⟩,⟨gK BK281⟩,⟨by repeat (first|exact gB HB|refine below_set ?_ GE281.out)⟩⟩
     ·rw [if_neg c6] at H
      exact absurd H (by simp)
    ·rw [if_neg c5] at H
     have c5b0:decide (x6_1 < (a0.size:Int))=false:=decide_eq_false c5
     clear c5
     (first|rw [c5b0]|(simp only [i64_w,i32_w];rw [c5b0])|skip)
     have H':=Aside0.mk H
     clear H
     go_wp2
     go_meet
     case rel=>exact ⟨_,(x6_1),(by first|rfl|(simp;done)|(simp [*];done)),H',⟨by have:=HK1.out;first|omega|exact Nat.le_refl _⟩,⟨gK BK281⟩,⟨by repeat (first|exact gB HB|refine below_set ?_ GE281.out)⟩⟩
 case rest =>
  clear HC3
  try clear p2 c5 c5b0 c6 c6b0 p6 c7 p7 q7 hx7 c8 c8b0 c8b1 p2 p7 q7
  obtain ⟨kq,x6_2,rfl,HA,HJ2,BK281,HB⟩:=hcut
  cases kq with
  | zero=>exact absurd HA.out (by simp [spec_l1Word.j1])
  | succ kj2 =>
   have H:=HA.out
   clear HA
   simp only [spec_l1Word.j1] at H
   by_cases c9:x6_2 ≥ (a0.size:Int)
   ·rw [if_pos c9] at H
    have c9b0:decide ((a0.size:Int)≤x6_2)=true:=decide_eq_true c9
    clear c9
    simp only [Option.some.injEq,Prod.mk.injEq] at H
    obtain ⟨rfl,rfl,rfl,rfl,rfl⟩:=H
    have hcz10_0:wc.cell? ⟨gb281,0,none⟩=some (.int .i64 0):=(blk_cell BK281.out 0).trans rfl
    have hcz10_1:wc.cell? ⟨gb281,1,none⟩=some (.int .i64 0):=(blk_cell BK281.out 1).trans rfl
    have hcz10_2:wc.cell? ⟨gb281,2,none⟩=some (.string (⟨#[]⟩:ByteArray)):=(blk_cell BK281.out 2).trans rfl
    have hcz10_3:wc.cell? ⟨gb281,3,none⟩=some (.slice none 0 0):=(blk_cell BK281.out 3).trans rfl
    have hfz10_0:=blk_frozen BK281.out 0
    have hfz10_1:=blk_frozen BK281.out 1
    have hfz10_2:=blk_frozen BK281.out 2
    have hfz10_3:=blk_frozen BK281.out 3
    go_wp2
    refine bodyPost_ret (results_ct rfl _ _ gb281 27 #[.int .i64 0,.int .i64 0,.string (⟨#[]⟩:ByteArray),.slice none 0 0] (0,0) _ rfl (by (with_reducible repeat (first|refine blk_drewN ?_ _|refine blk_drew ?_|refine blk_alloc ?_ _));refine blk_put (cs:=#[.int .i64 0,.int .i64 0,.string (⟨#[]⟩:ByteArray),.slice none 0 0]) ?_ 3 _ rfl;(with_reducible repeat (first|refine blk_drewN ?_ _|refine blk_drew ?_|refine blk_alloc ?_ _));refine blk_put (cs:=#[.int .i64 0,.int .i64 0,.string (⟨#[]⟩:ByteArray),.slice none 0 0]) ?_ 2 _ rfl;(with_reducible repeat (first|refine blk_drewN ?_ _|refine blk_drew ?_|refine blk_alloc ?_ _));refine blk_put (cs:=#[.int .i64 0,.int .i64 0,.string (⟨#[]⟩:ByteArray),.slice none 0 0]) ?_ 1 _ rfl;(with_reducible repeat (first|refine blk_drewN ?_ _|refine blk_drew ?_|refine blk_alloc ?_ _));refine blk_put (cs:=#[.int .i64 0,.int .i64 0,.string (⟨#[]⟩:ByteArray),.slice none 0 0]) ?_ 0 _ rfl;(with_reducible repeat (first|refine blk_drewN ?_ _|refine blk_drew ?_|refine blk_alloc ?_ _));exact BK281.out) Try.underlying27 rfl (by kernel_rfl)) rfl ?_
    exact ⟨_,by first|rfl|(simp [errW_none,errW_some] <;> rfl)|(simp [*,errW_none,errW_some] <;> rfl),by first|exact Kd.R_nil _ _ _ _ _|exact Kd.N_nil _ _ _ _ _|exact Kd.V_nil _ _ _ _ _|exact Kd.Q_nil _ _ _ _ _|exact Kd.S_nil _ _ _ _ _,by repeat (first|exact gB HB|refine below_set ?_ GE281.out)⟩
   ·rw [if_neg c9] at H
    have c9b0:decide ((a0.size:Int)≤x6_2)=false:=decide_eq_false c9
    clear c9
    obtain ⟨ji11,hji11⟩:∃ j_:Int,(wrap64 (a1+1))=j_:=⟨_,rfl⟩
    replace H:(if 0≤(ji11) then (if (ji11)≤x6_2 then (if x6_2≤(a0.size:Int) then (some (2,0,a0.extract ((ji11):Int).toNat (x6_2:Int).toNat,([]:List (SDoc)),wrap64 (x6_2+1))) else (none)) else (none)) else (none))=some (r1,r2,r3,r4,r5):=by first|(rw [hji11] at H;exact H)|(simp only [hji11] at H ⊢;exact H)
    have hji11w:(IntKind.i64.wrap (a1+1))=ji11:=(i64_w _).trans hji11
    by_cases c12:0≤(ji11)
    ·rw [if_pos c12] at H
     have c12b0:=eq_true c12
     have c12b1:decide (0≤(ji11))=true:=decide_eq_true c12
     clear c12
     by_cases c13:(ji11)≤x6_2
     ·rw [if_pos c13] at H
      have c13b0:=eq_true c13
      have c13b1:decide ((ji11)≤x6_2)=true:=decide_eq_true c13
      clear c13
      by_cases c14:x6_2≤(a0.size:Int)
      ·rw [if_pos c14] at H
       have c14b0:=eq_true c14
       have c14b1:decide (x6_2≤(a0.size:Int))=true:=decide_eq_true c14
       clear c14
       simp only [Option.some.injEq,Prod.mk.injEq] at H
       obtain ⟨rfl,rfl,rfl,rfl,rfl⟩:=H
       have hcz15_0:wc.cell? ⟨gb281,0,none⟩=some (.int .i64 0):=(blk_cell BK281.out 0).trans rfl
       have hcz15_1:wc.cell? ⟨gb281,1,none⟩=some (.int .i64 0):=(blk_cell BK281.out 1).trans rfl
       have hcz15_2:wc.cell? ⟨gb281,2,none⟩=some (.string (⟨#[]⟩:ByteArray)):=(blk_cell BK281.out 2).trans rfl
       have hcz15_3:wc.cell? ⟨gb281,3,none⟩=some (.slice none 0 0):=(blk_cell BK281.out 3).trans rfl
       have hfz15_0:=blk_frozen BK281.out 0
       have hfz15_1:=blk_frozen BK281.out 1
       have hfz15_2:=blk_frozen BK281.out 2
       have hfz15_3:=blk_frozen BK281.out 3
       go_wp2
       refine bodyPost_ret (results_ct rfl _ _ gb281 27 #[.int .i64 2,.int .i64 0,.string (a0.extract ((ji11):Int).toNat (x6_2:Int).toNat),.slice none 0 0] (0,0) _ rfl (by (with_reducible repeat (first|refine blk_drewN ?_ _|refine blk_drew ?_|refine blk_alloc ?_ _));refine blk_put (cs:=#[.int .i64 2,.int .i64 0,.string (a0.extract ((ji11):Int).toNat (x6_2:Int).toNat),.slice none 0 0]) ?_ 3 _ rfl;(with_reducible repeat (first|refine blk_drewN ?_ _|refine blk_drew ?_|refine blk_alloc ?_ _));refine blk_put (cs:=#[.int .i64 2,.int .i64 0,.string (⟨#[]⟩:ByteArray),.slice none 0 0]) ?_ 2 _ rfl;(with_reducible repeat (first|refine blk_drewN ?_ _|refine blk_drew ?_|refine blk_alloc ?_ _));refine blk_put (cs:=#[.int .i64 2,.int .i64 0,.string (⟨#[]⟩:ByteArray),.slice none 0 0]) ?_ 1 _ rfl;(with_reducible repeat (first|refine blk_drewN ?_ _|refine blk_drew ?_|refine blk_alloc ?_ _));refine blk_put (cs:=#[.int .i64 0,.int .i64 0,.string (⟨#[]⟩:ByteArray),.slice none 0 0]) ?_ 0 _ rfl;(with_reducible repeat (first|refine blk_drewN ?_ _|refine blk_drew ?_|refine blk_alloc ?_ _));exact BK281.out) Try.underlying27 rfl (by kernel_rfl)) rfl ?_
       exact ⟨_,by first|rfl|(simp [errW_none,errW_some] <;> rfl)|(simp only [← hji11];first|rfl|(simp [errW_none,errW_some] <;> rfl))|(simp [*,errW_none,errW_some] <;> rfl),by first|exact Kd.R_nil _ _ _ _ _|exact Kd.N_nil _ _ _ _ _|exact Kd.V_nil _ _ _ _ _|exact Kd.Q_nil _ _ _ _ _|exact Kd.S_nil _ _ _ _ _,by repeat (first|exact gB HB|refine below_set ?_ GE281.out)⟩
      ·rw [if_neg c14] at H
       exact absurd H (by simp)
     ·rw [if_neg c13] at H
      exact absurd H (by simp)
    ·rw [if_neg c12] at H
     exact absurd H (by simp)
end Go.Proofs.Ytdhdfmmefghijaa.P
