/- CONTRACTS and lemmas: each contract says that a Go function of the program, called over the translation under the theorem's own hypotheses, returns what the Lean function beside it computes. -/
import Derived.Test.YtdhdfmmefghijaaVLc6
import Derived.Test.YtdhdfmmefghijaaRows
import Derived.ClosedOfChecked
import Derived.KernelRfl
namespace Go.Proofs.Ytdhdfmmefghijaa.P
open Go.RowKit Go.Proofs.YtdhdfmmefghijaaW.PrintWords Go.Proofs.YtdhdfmmefghijaaW.PrintLast Go.Proofs.YtdhdfmmefghijaaW.PrintMore
attribute [local go_sem] max2_int min2_int max_two min_two max_three min_three max_four min_four
set_option linter.unusedVariables false
set_option linter.unusedSimpArgs false
def spec_DrawDocValid.f (k:Nat) (l0:List Int):Option (Int×Int×ByteArray×(List (SDoc))):=(spec_l15Open.f l0).bind fun bt388=>((spec_l1Draw.f k bt388.1 bt388.2).bind fun bt391=>((spec_l1Mutate.f k bt388.1 bt391.2.2.2.2 bt391.1 bt391.2.1 bt391.2.2.1 bt391.2.2.2.1).bind fun bt398=>((spec_l1Mutate.f k bt388.1 bt398.2.2.2.2 bt398.1 bt398.2.1 bt398.2.2.1 bt398.2.2.2.1).bind fun bt405=>(some (bt405.1,bt405.2.1,bt405.2.2.1,bt405.2.2.2.1)))))
set_option maxHeartbeats 8000000 in
set_option maxRecDepth 100000 in
theorem spec_DrawDocValid.calls (k:Nat) (A0:Option Addr) (c0:Nat) (l0:List Int) (r1:Int) (r2:Int) (r3:ByteArray) (r4:List (SDoc)) (w:World) (hr0:Kd.C (Kd.int .u8) w A0 l0.length l0) (hc0:l0.length≤c0) (h:spec_DrawDocValid.f k l0=some (r1,r2,r3,r4)) :
  Calls Try.prog 23 #[.slice A0 l0.length c0] w fun e w'=>∃ v3_:Value,e=.returned (.agg #[.int .i64 r1,.int .i64 r2,.string r3,v3_])∧Kd.N k27 27 w' w.heap.size (fun k_=>(w.heap.size≤k_)) v3_ r4∧Below w.heap.size w w':=by
 have hu27:=Try.underlying27
 have HR0:=Aside0.mk hr0
 have HC0:=Aside0.mk hc0
 clear hr0 hc0
 have HB:=Aside0.mk (Below.refl w.heap.size w)
 have H:((spec_l15Open.f l0).bind fun bt388=>((spec_l1Draw.f k bt388.1 bt388.2).bind fun bt391=>((spec_l1Mutate.f k bt388.1 bt391.2.2.2.2 bt391.1 bt391.2.1 bt391.2.2.1 bt391.2.2.2.1).bind fun bt398=>((spec_l1Mutate.f k bt388.1 bt398.2.2.2.2 bt398.1 bt398.2.1 bt398.2.2.1 bt398.2.2.2.1).bind fun bt405=>(some (bt405.1,bt405.2.1,bt405.2.2.1,bt405.2.2.2.1))))))=some (r1,r2,r3,r4):=h
 clear h
 replace H:=Option.bind_eq_some_iff.mp H
 obtain ⟨⟨t388,t389⟩,A20,H⟩:=H
 replace H:((spec_l1Draw.f k t388 t389).bind fun bt391=>((spec_l1Mutate.f k t388 bt391.2.2.2.2 bt391.1 bt391.2.1 bt391.2.2.1 bt391.2.2.2.1).bind fun bt398=>((spec_l1Mutate.f k t388 bt398.2.2.2.2 bt398.1 bt398.2.1 bt398.2.2.1 bt398.2.2.2.1).bind fun bt405=>(some (bt405.1,bt405.2.1,bt405.2.2.1,bt405.2.2.2.1)))))=some (r1,r2,r3,r4):=H
 have A2:=Aside0.mk A20
 clear A20
 replace H:=Option.bind_eq_some_iff.mp H
 obtain ⟨⟨t391,t392,t393,t394,t397⟩,A30,H⟩:=H
 replace H:((spec_l1Mutate.f k t388 t397 t391 t392 t393 t394).bind fun bt398=>((spec_l1Mutate.f k t388 bt398.2.2.2.2 bt398.1 bt398.2.1 bt398.2.2.1 bt398.2.2.2.1).bind fun bt405=>(some (bt405.1,bt405.2.1,bt405.2.2.1,bt405.2.2.2.1))))=some (r1,r2,r3,r4):=H
 have A3:=Aside0.mk A30
 clear A30
 replace H:=Option.bind_eq_some_iff.mp H
 obtain ⟨⟨t398,t399,t400,t401,t404⟩,A40,H⟩:=H
 replace H:((spec_l1Mutate.f k t388 t404 t398 t399 t400 t401).bind fun bt405=>(some (bt405.1,bt405.2.1,bt405.2.2.1,bt405.2.2.2.1)))=some (r1,r2,r3,r4):=H
 have A4:=Aside0.mk A40
 clear A40
 replace H:=Option.bind_eq_some_iff.mp H
 obtain ⟨⟨t405,t406,t407,t408,t411⟩,A50,H⟩:=H
 replace H:(some (t405,t406,t407,t408))=some (r1,r2,r3,r4):=H
 have A5:=Aside0.mk A50
 clear A50
 simp only [Option.some.injEq,Prod.mk.injEq] at H
 obtain ⟨rfl,rfl,rfl,rfl⟩:=H
 go_enter Try.func23,Try.ntmps23
 go_wp2_with (first|((with_reducible refine gate_dst (N:=2) rfl ?_);refine box_event ?hg (N:=2) ?hd (cs:=#[.int .i64 0,.int .i64 0,.string (⟨#[]⟩:ByteArray),.slice none 0 0]) (t:=27) ?hr ?_;(case hd=>rfl);(case hg=>rfl);(case hr=>first|(go_simp;done)|(go_simp;rfl));intro gb387 hg w6 hbox hb;have n0_:=Aside0.mk (below_step (by repeat (first|(with_reducible first|exact HB.out|apply below_alloc|apply pw_below_drewN|apply below_drew1)|exact HB.out)) hb);have n1_:=Aside0.mk (hbox);have n2_:=Aside0.mk ((by rw [hg];exact (below_size (by repeat (first|(with_reducible first|exact HB.out|apply below_alloc|apply pw_below_drewN|apply below_drew1)|exact HB.out))):w.heap.size≤gb387));have n3_:=Aside0.mk ((by rw [hg];exact (below_size (by repeat (first|(with_reducible first|exact HB.out|apply below_alloc|apply pw_below_drewN|apply below_drew1)|exact HB.out))):w.heap.size≤gb387));clear HB;have HB:=n0_;have BK387:=n1_;have GW387:=n2_;have GE387:=n3_;clear n0_ n1_ n2_ n3_;clear hb hbox hg)|((with_reducible refine gate_callee (f:=44) rfl ?_);refine goesL_ (some 5) rfl rfl Try.func44 (by kernel_rfl) rfl #[.slice A0 l0.length c0] rfl (by (try simp only [List.map_toArray,List.map_cons,List.map_nil]);first|done|rfl|(simp only [List.length_drop,List.length_take];rfl)) ?_;(with_reducible refine (spec_l15Open.calls _ _ l0 t388 t389 w _ ?side1 ?side2 ?side3 A2.out).mono ?_);(case side1=>repeat (first|(with_reducible first|exact HB.out|apply below_alloc|apply pw_below_drewN|apply below_drew1|refine below_set ?_ GE387.out)|exact HB.out));(case side2=>exact HR0.out);(case side3=>exact HC0.out);rintro e w7 ⟨g390,rfl,hi,hb,hb2,hgw⟩;refine ⟨_,rfl,?_⟩;have n0_:=Aside0.mk (blk_below (g:=gb387) (o:=.cells #[.int .i64 0,.int .i64 0,.string (⟨#[]⟩:ByteArray),.slice none 0 0] 27 (0,0)) (by (with_reducible repeat (first|refine blk_drewN ?_ _|refine blk_drew ?_|refine blk_alloc ?_ _));exact BK387.out) hb2);have n1_:=Aside0.mk (hb);have n2_:=Aside0.mk (hi);have n3_:=Aside0.mk (IsS66.ne_blk hi (blk_below (g:=gb387) (o:=.cells #[.int .i64 0,.int .i64 0,.string (⟨#[]⟩:ByteArray),.slice none 0 0] 27 (0,0)) (by (with_reducible repeat (first|refine blk_drewN ?_ _|refine blk_drew ?_|refine blk_alloc ?_ _));exact BK387.out) hb2) (by decide));have n4_:=Aside0.mk (Ne.symm (IsS66.ne_blk hi (blk_below (g:=gb387) (o:=.cells #[.int .i64 0,.int .i64 0,.string (⟨#[]⟩:ByteArray),.slice none 0 0] 27 (0,0)) (by (with_reducible repeat (first|refine blk_drewN ?_ _|refine blk_drew ?_|refine blk_alloc ?_ _));exact BK387.out) hb2) (by decide)));clear BK387;clear HB;have BK387:=n0_;have HB:=n1_;have HI390:=n2_;have NB390_387:=n3_;have NB387_390:=n4_;clear n0_ n1_ n2_ n3_ n4_;(try clear hb);(try clear hb2);(try clear hk);(try clear hi))|((with_reducible refine gate_callee (f:=51) rfl ?_);refine goesL_ (some 9) rfl rfl Try.func51 (by kernel_rfl) rfl #[.pointer (some ⟨g390,0,none⟩)] rfl (by (try simp only [List.map_toArray,List.map_cons,List.map_nil]);first|done|rfl|(simp only [List.length_drop,List.length_take];rfl)) ?_;(with_reducible refine (spec_l1Draw.calls k g390 t388 t389 t391 t392 t393 t394 t397 w _ ?side1 ?side2 A3.out).mono ?_);(case side1=>repeat (first|(with_reducible first|exact HI390.out|apply IsS66.alloc|apply IsS66.drewN|apply IsS66.drew|apply IsS66.set_1|refine IsS66.far ?_ NB390_387.out _)|exact HI390.out));(case side2=>repeat (first|(with_reducible first|exact HB.out|apply below_alloc|apply pw_below_drewN|apply below_drew1|refine below_set ?_ (IsS66.ge HI390.out)|refine below_set ?_ GE387.out)|exact HB.out));rintro e w8 ⟨v395,rfl,ho0,hi,hb,hk⟩;refine ⟨_,rfl,?_⟩;have n0_:=Aside0.mk (KeepBut.blk hk (g':=gb387) (o:=.cells #[.int .i64 0,.int .i64 0,.string (⟨#[]⟩:ByteArray),.slice none 0 0] 27 (0,0)) (by (with_reducible repeat (first|refine blk_drewN ?_ _|refine blk_drew ?_|refine blk_alloc ?_ _));exact BK387.out) NB387_390.out (by simp));have n1_:=Aside0.mk (Kd.N_lower (Kd.N_mono (ok':=fun k_=>(w.heap.size≤k_)∧k_≠gb387∧k_≠g390) ho0 (fun k_ hk_=>⟨(Nat.le_trans (below_size (by repeat (first|(with_reducible first|exact HB.out|apply below_alloc|apply pw_below_drewN|apply below_drew1|refine below_set ?_ (IsS66.ge HI390.out)|refine below_set ?_ GE387.out)|exact HB.out))) hk_),(Kd.freshB (g:=gb387) (o:=.cells #[.int .i64 0,.int .i64 0,.string (⟨#[]⟩:ByteArray),.slice none 0 0] 27 (0,0)) (by (with_reducible repeat (first|refine blk_drewN ?_ _|refine blk_drew ?_|refine blk_alloc ?_ _));exact BK387.out) k_ hk_),(IsS66.fresh (by repeat (first|(with_reducible first|exact HI390.out|apply IsS66.alloc|apply IsS66.drewN|apply IsS66.drew|apply IsS66.set_1|refine IsS66.far ?_ NB390_387.out _)|exact HI390.out)) k_ hk_)⟩)) (below_size (by repeat (first|(with_reducible first|exact HB.out|apply below_alloc|apply pw_below_drewN|apply below_drew1|refine below_set ?_ (IsS66.ge HI390.out)|refine below_set ?_ GE387.out)|exact HB.out))));have n2_:=Aside0.mk (hb);have n3_:=Aside0.mk (hi);clear BK387;clear HB;clear HI390;have BK387:=n0_;have HO396:=n1_;have HB:=n2_;have HI390:=n3_;clear n0_ n1_ n2_ n3_;(try clear hb);(try clear hb2);(try clear hk);(try clear hi);(try clear ho0);obtain ⟨Ao9,co9,eo9⟩:=Kd.N_slice HO396.out;subst eo9)|((with_reducible refine gate_callee (f:=50) rfl ?_);refine goesL_ (some 10) rfl rfl Try.func50 (by kernel_rfl) rfl #[.pointer (some ⟨g390,0,none⟩),.agg #[.int .i64 t391,.int .i64 t392,.string t393,.slice Ao9 t394.length co9]] rfl (by (try simp only [List.map_toArray,List.map_cons,List.map_nil]);first|done|rfl|(simp only [List.length_drop,List.length_take];rfl)) ?_;(with_reducible refine (spec_l1Mutate.calls k g390 t388 t397 t391 t392 t393 _ _ t394 t398 t399 t400 t401 t404 w _ ?side1 ?side2 ?side3 ?side4 A4.out).mono ?_);(case side1=>repeat (first|(with_reducible first|exact HI390.out|apply IsS66.alloc|apply IsS66.drewN|apply IsS66.drew|apply IsS66.set_1|refine IsS66.far ?_ NB390_387.out _)|exact HI390.out));(case side2=>repeat (first|(with_reducible first|exact HB.out|apply below_alloc|apply pw_below_drewN|apply below_drew1|refine below_set ?_ (IsS66.ge HI390.out)|refine below_set ?_ GE387.out)|exact HB.out));(case side3=>exact Kd.C_foot_ownV (base:=0) (Kd.N_V (Kd.N_mono (ok:=fun k_=>(((w.heap.size≤k_))∧(k_≠gb387∧k_≠g390))) (by (with_reducible repeat (first|apply Kd.N_alloc|apply Kd.N_drewN|apply Kd.N_drew));exact HO396.out) (fun k_ hk_=>(⟨hk_,hk_.2.2⟩:_∧k_≠g390)))) (fun _ h_=>h_.2));(case side4=>exact (Kd.N_reads' HO396.out).2.1);rintro e w10 ⟨v402,rfl,ho0,hi,hb,hk⟩;refine ⟨_,rfl,?_⟩;have n0_:=Aside0.mk (KeepBut.blk hk (g':=gb387) (o:=.cells #[.int .i64 0,.int .i64 0,.string (⟨#[]⟩:ByteArray),.slice none 0 0] 27 (0,0)) (by (with_reducible repeat (first|refine blk_drewN ?_ _|refine blk_drew ?_|refine blk_alloc ?_ _));exact BK387.out) NB387_390.out (by simp));have n1_:=Aside0.mk (Kd.N_mono (Kd.N_told (Kd.N_oldK (Kd.N_mono (ok:=fun k_=>(((w.heap.size≤k_))∧(k_≠gb387∧k_≠g390))) (by (with_reducible repeat (first|apply Kd.N_alloc|apply Kd.N_drewN|apply Kd.N_drew));exact HO396.out) (fun k_ hk_=>(⟨hk_,hk_.2.2⟩:_∧k_≠g390))) hk) (Kd.N_base ho0)) (fun _ h_=>h_.1));have n2_:=Aside0.mk (Kd.N_lower (Kd.N_mono (ok':=fun k_=>(w.heap.size≤k_)∧some k_≠(.slice Ao9 t394.length co9:Value).ownBlock∧k_≠gb387∧k_≠g390) ho0 (fun k_ hk_=>⟨(Nat.le_trans (below_size (by repeat (first|(with_reducible first|exact HB.out|apply below_alloc|apply pw_below_drewN|apply below_drew1|refine below_set ?_ (IsS66.ge HI390.out)|refine below_set ?_ GE387.out)|exact HB.out))) hk_),(Kd.fresh' (Kd.N_lt (by (with_reducible repeat (first|apply Kd.N_alloc|apply Kd.N_drewN|apply Kd.N_drew));exact HO396.out)) k_ hk_),(Kd.freshB (g:=gb387) (o:=.cells #[.int .i64 0,.int .i64 0,.string (⟨#[]⟩:ByteArray),.slice none 0 0] 27 (0,0)) (by (with_reducible repeat (first|refine blk_drewN ?_ _|refine blk_drew ?_|refine blk_alloc ?_ _));exact BK387.out) k_ hk_),(IsS66.fresh (by repeat (first|(with_reducible first|exact HI390.out|apply IsS66.alloc|apply IsS66.drewN|apply IsS66.drew|apply IsS66.set_1|refine IsS66.far ?_ NB390_387.out _)|exact HI390.out)) k_ hk_)⟩)) (below_size (by repeat (first|(with_reducible first|exact HB.out|apply below_alloc|apply pw_below_drewN|apply below_drew1|refine below_set ?_ (IsS66.ge HI390.out)|refine below_set ?_ GE387.out)|exact HB.out))));have n3_:=Aside0.mk (hb);have n4_:=Aside0.mk (hi);clear BK387;clear HO396;clear HB;clear HI390;have BK387:=n0_;have HO396:=n1_;have HO403:=n2_;have HB:=n3_;have HI390:=n4_;clear n0_ n1_ n2_ n3_ n4_;(try clear hb);(try clear hb2);(try clear hk);(try clear hi);(try clear ho0);obtain ⟨Ao11,co11,eo11⟩:=Kd.N_slice HO403.out;subst eo11)|((with_reducible refine gate_callee (f:=50) rfl ?_);refine goesL_ (some 11) rfl rfl Try.func50 (by kernel_rfl) rfl #[.pointer (some ⟨g390,0,none⟩),.agg #[.int .i64 t398,.int .i64 t399,.string t400,.slice Ao11 t401.length co11]] rfl (by (try simp only [List.map_toArray,List.map_cons,List.map_nil]);first|done|rfl|(simp only [List.length_drop,List.length_take];rfl)) ?_;(with_reducible refine (spec_l1Mutate.calls k g390 t388 t404 t398 t399 t400 _ _ t401 t405 t406 t407 t408 t411 w _ ?side1 ?side2 ?side3 ?side4 A5.out).mono ?_);(case side1=>repeat (first|(with_reducible first|exact HI390.out|apply IsS66.alloc|apply IsS66.drewN|apply IsS66.drew|apply IsS66.set_1|refine IsS66.far ?_ NB390_387.out _)|exact HI390.out));(case side2=>repeat (first|(with_reducible first|exact HB.out|apply below_alloc|apply pw_below_drewN|apply below_drew1|refine below_set ?_ (IsS66.ge HI390.out)|refine below_set ?_ GE387.out)|exact HB.out));(case side3=>exact Kd.C_foot_ownV (base:=0) (Kd.N_V (Kd.N_mono (ok:=fun k_=>(((w.heap.size≤k_))∧(some k_≠(.slice Ao9 t394.length co9:Value).ownBlock∧(k_≠gb387∧k_≠g390)))) (by (with_reducible repeat (first|apply Kd.N_alloc|apply Kd.N_drewN|apply Kd.N_drew));exact HO403.out) (fun k_ hk_=>(⟨hk_,hk_.2.2.2⟩:_∧k_≠g390)))) (fun _ h_=>h_.2));(case side4=>exact (Kd.N_reads' HO403.out).2.1);rintro e w12 ⟨v409,rfl,ho0,hi,hb,hk⟩;refine ⟨_,rfl,?_⟩;have n0_:=Aside0.mk (KeepBut.blk hk (g':=gb387) (o:=.cells #[.int .i64 0,.int .i64 0,.string (⟨#[]⟩:ByteArray),.slice none 0 0] 27 (0,0)) (by (with_reducible repeat (first|refine blk_drewN ?_ _|refine blk_drew ?_|refine blk_alloc ?_ _));exact BK387.out) NB387_390.out (by simp));have n1_:=Aside0.mk (Kd.N_mono (Kd.N_told (Kd.N_oldK (Kd.N_mono (ok:=fun k_=>((((w.heap.size≤k_))∧(k_≠gb387∧k_≠g390))∧some k_≠(.slice Ao11 t401.length co11:Value).ownBlock)) (by (with_reducible repeat (first|apply Kd.N_alloc|apply Kd.N_drewN|apply Kd.N_drew));exact HO396.out) (fun k_ hk_=>(⟨hk_,hk_.1.2.2⟩:_∧k_≠g390))) hk) (Kd.N_base ho0)) (fun _ h_=>h_.1));have n2_:=Aside0.mk (Kd.N_mono (Kd.N_told (Kd.N_oldK (Kd.N_mono (ok:=fun k_=>(((w.heap.size≤k_))∧(some k_≠(.slice Ao9 t394.length co9:Value).ownBlock∧(k_≠gb387∧k_≠g390)))) (by (with_reducible repeat (first|apply Kd.N_alloc|apply Kd.N_drewN|apply Kd.N_drew));exact HO403.out) (fun k_ hk_=>(⟨hk_,hk_.2.2.2⟩:_∧k_≠g390))) hk) (Kd.N_base ho0)) (fun _ h_=>h_.1));have n3_:=Aside0.mk (Kd.N_lower (Kd.N_mono (ok':=fun k_=>(w.heap.size≤k_)∧some k_≠(.slice Ao9 t394.length co9:Value).ownBlock∧some k_≠(.slice Ao11 t401.length co11:Value).ownBlock∧k_≠gb387∧k_≠g390) ho0 (fun k_ hk_=>⟨(Nat.le_trans (below_size (by repeat (first|(with_reducible first|exact HB.out|apply below_alloc|apply pw_below_drewN|apply below_drew1|refine below_set ?_ (IsS66.ge HI390.out)|refine below_set ?_ GE387.out)|exact HB.out))) hk_),(Kd.fresh' (Kd.N_lt (by (with_reducible repeat (first|apply Kd.N_alloc|apply Kd.N_drewN|apply Kd.N_drew));exact HO396.out)) k_ hk_),(Kd.fresh' (Kd.N_lt (by (with_reducible repeat (first|apply Kd.N_alloc|apply Kd.N_drewN|apply Kd.N_drew));exact HO403.out)) k_ hk_),(Kd.freshB (g:=gb387) (o:=.cells #[.int .i64 0,.int .i64 0,.string (⟨#[]⟩:ByteArray),.slice none 0 0] 27 (0,0)) (by (with_reducible repeat (first|refine blk_drewN ?_ _|refine blk_drew ?_|refine blk_alloc ?_ _));exact BK387.out) k_ hk_),(IsS66.fresh (by repeat (first|(with_reducible first|exact HI390.out|apply IsS66.alloc|apply IsS66.drewN|apply IsS66.drew|apply IsS66.set_1|refine IsS66.far ?_ NB390_387.out _)|exact HI390.out)) k_ hk_)⟩)) (below_size (by repeat (first|(with_reducible first|exact HB.out|apply below_alloc|apply pw_below_drewN|apply below_drew1|refine below_set ?_ (IsS66.ge HI390.out)|refine below_set ?_ GE387.out)|exact HB.out))));have n4_:=Aside0.mk (hb);have n5_:=Aside0.mk (hi);clear BK387;clear HO396;clear HO403;clear HB;clear HI390;have BK387:=n0_;have HO396:=n1_;have HO403:=n2_;have HO410:=n3_;have HB:=n4_;have HI390:=n5_;clear n0_ n1_ n2_ n3_ n4_ n5_;(try clear hb);(try clear hb2);(try clear hk);(try clear hi);(try clear ho0);have hnb13:=NB387_390.out;have hnc13:=NB390_387.out;have hcz14_0:w12.cell? ⟨gb387,0,none⟩=some (.int .i64 0):=(blk_cell BK387.out 0).trans rfl;have hcz14_1:w12.cell? ⟨gb387,1,none⟩=some (.int .i64 0):=(blk_cell BK387.out 1).trans rfl;have hcz14_2:w12.cell? ⟨gb387,2,none⟩=some (.string (⟨#[]⟩:ByteArray)):=(blk_cell BK387.out 2).trans rfl;have hcz14_3:w12.cell? ⟨gb387,3,none⟩=some (.slice none 0 0):=(blk_cell BK387.out 3).trans rfl;have hfz14_0:=blk_frozen BK387.out 0;have hfz14_1:=blk_frozen BK387.out 1;have hfz14_2:=blk_frozen BK387.out 2;have hfz14_3:=blk_frozen BK387.out 3;obtain ⟨Ao15,co15,eo15⟩:=Kd.N_slice HO410.out;subst eo15))
 refine bodyPost_ret (results_cell_row rfl _ _ gb387 27 #[.int .i64 t405,.int .i64 t406,.string t407,.slice Ao15 t408.length co15] (0,0) _ rfl (by (with_reducible repeat (first|refine blk_drewN ?_ _|refine blk_drew ?_|refine blk_alloc ?_ _));refine blk_put (cs:=#[.int .i64 t405,.int .i64 t406,.string t407,.slice none 0 0]) ?_ 3 _ rfl;(with_reducible repeat (first|refine blk_drewN ?_ _|refine blk_drew ?_|refine blk_alloc ?_ _));refine blk_put (cs:=#[.int .i64 t405,.int .i64 t406,.string (⟨#[]⟩:ByteArray),.slice none 0 0]) ?_ 2 _ rfl;(with_reducible repeat (first|refine blk_drewN ?_ _|refine blk_drew ?_|refine blk_alloc ?_ _));refine blk_put (cs:=#[.int .i64 t405,.int .i64 0,.string (⟨#[]⟩:ByteArray),.slice none 0 0]) ?_ 1 _ rfl;(with_reducible repeat (first|refine blk_drewN ?_ _|refine blk_drew ?_|refine blk_alloc ?_ _));refine blk_put (cs:=#[.int .i64 0,.int .i64 0,.string (⟨#[]⟩:ByteArray),.slice none 0 0]) ?_ 0 _ rfl;(with_reducible repeat (first|refine blk_drewN ?_ _|refine blk_drew ?_|refine blk_alloc ?_ _));exact BK387.out) Try.underlying27 rfl (by kernel_rfl)) rfl ?_
 exact ⟨_,by first|rfl|(simp [errW_none,errW_some] <;> rfl)|(simp [*,errW_none,errW_some] <;> rfl),by (with_reducible repeat (first|apply Kd.N_alloc|apply Kd.N_drewN|apply Kd.N_drew));exact Kd.N_mono (Kd.N_far (p:=⟨gb387,3,none⟩) (Kd.N_far (p:=⟨gb387,2,none⟩) (Kd.N_far (p:=⟨gb387,1,none⟩) (Kd.N_far (p:=⟨gb387,0,none⟩) (Kd.N_mono HO410.out (fun k_ hk=>(⟨hk,hk.2.2.2.1⟩:_∧k_≠gb387))) (fun _ hk=>hk.2) (.int .i64 t405)) (fun _ hk=>hk.2) (.int .i64 t406)) (fun _ hk=>hk.2) (.string t407)) (fun _ hk=>hk.2) (.slice Ao15 t408.length co15)) (fun _ hk=>hk.1.1),by repeat (first|(with_reducible first|exact HB.out|apply below_alloc|apply pw_below_drewN|apply below_drew1|refine below_set ?_ (IsS66.ge HI390.out)|refine below_set ?_ GE387.out)|exact HB.out)⟩
end Go.Proofs.Ytdhdfmmefghijaa.P
namespace Go.Proofs.Ytdhdfmmefghijaa.P
open Go.RowKit Go.Proofs.YtdhdfmmefghijaaW.PrintWords Go.Proofs.YtdhdfmmefghijaaW.PrintLast Go.Proofs.YtdhdfmmefghijaaW.PrintMore
attribute [local go_sem] max2_int min2_int max_two min_two max_three min_three max_four min_four
set_option linter.unusedVariables false
set_option linter.unusedSimpArgs false
def spec_DrawCountOps.f (k:Nat) (l0:List Int):Option (Int×Int×ByteArray×(List (SDoc))×Int):=(spec_DrawDocValid.f k l0).bind fun bt413=>((spec_l15Open.f l0).bind fun bt419=>((spec_l15Rd_num.f k bt419.1 bt419.2 (([2,7,3,8,5,1,0]:List Int))).bind fun bt425=>(some (bt413.1,bt413.2.1,bt413.2.2.1,bt413.2.2.2,bt425.1))))
set_option maxHeartbeats 8000000 in
set_option maxRecDepth 100000 in
theorem spec_DrawCountOps.calls (k:Nat) (A0:Option Addr) (c0:Nat) (l0:List Int) (r1:Int) (r2:Int) (r3:ByteArray) (r4:List (SDoc)) (r5:Int) (w:World) (hr0:Kd.C (Kd.int .u8) w A0 l0.length l0) (hc0:l0.length≤c0) (h:spec_DrawCountOps.f k l0=some (r1,r2,r3,r4,r5)) :
  Calls Try.prog 19 #[.slice A0 l0.length c0] w fun e w'=>∃ v3_:Value,e=.returned (.tuple #[.agg #[.int .i64 r1,.int .i64 r2,.string r3,v3_],.int .i64 r5])∧Kd.N k27 27 w' w.heap.size (fun k_=>(w.heap.size≤k_)) v3_ r4∧Below w.heap.size w w':=by
 have hu27:=Try.underlying27
 have HR0:=Aside0.mk hr0
 have HC0:=Aside0.mk hc0
 clear hr0 hc0
 have HB:=Aside0.mk (Below.refl w.heap.size w)
 have H:((spec_DrawDocValid.f k l0).bind fun bt413=>((spec_l15Open.f l0).bind fun bt419=>((spec_l15Rd_num.f k bt419.1 bt419.2 (([2,7,3,8,5,1,0]:List Int))).bind fun bt425=>(some (bt413.1,bt413.2.1,bt413.2.2.1,bt413.2.2.2,bt425.1)))))=some (r1,r2,r3,r4,r5):=h
 clear h
 replace H:=Option.bind_eq_some_iff.mp H
 obtain ⟨⟨t413,t414,t415,t416⟩,A20,H⟩:=H
 replace H:((spec_l15Open.f l0).bind fun bt419=>((spec_l15Rd_num.f k bt419.1 bt419.2 (([2,7,3,8,5,1,0]:List Int))).bind fun bt425=>(some (t413,t414,t415,t416,bt425.1))))=some (r1,r2,r3,r4,r5):=H
 have A2:=Aside0.mk A20
 clear A20
 replace H:=Option.bind_eq_some_iff.mp H
 obtain ⟨⟨t419,t420⟩,A30,H⟩:=H
 replace H:((spec_l15Rd_num.f k t419 t420 (([2,7,3,8,5,1,0]:List Int))).bind fun bt425=>(some (t413,t414,t415,t416,bt425.1)))=some (r1,r2,r3,r4,r5):=H
 have A3:=Aside0.mk A30
 clear A30
 obtain ⟨y422,hy422⟩:∃ y_:List Int,y_=(([2,7,3,8,5,1,0]:List Int)):=⟨_,rfl⟩
 replace H:((spec_l15Rd_num.f k t419 t420 y422).bind fun bt425=>(some (t413,t414,t415,t416,bt425.1)))=some (r1,r2,r3,r4,r5):=by first|(rw [hy422];with_reducible exact H)|(have H2_:=(Option.bind_some _ _).symm.trans H;rw [hy422];with_reducible exact H2_)|(have H2_:=(Option.bind_some _ _).symm.trans H;with_reducible exact H2_)|with_reducible exact H|(rw [hy422];exact H)|exact H
 have Ny422:=Aside0.mk hy422
 clear hy422
 replace H:=Option.bind_eq_some_iff.mp H
 obtain ⟨⟨t425,t426⟩,A40,H⟩:=H
 replace H:(some (t413,t414,t415,t416,t425))=some (r1,r2,r3,r4,r5):=H
 have A4:=Aside0.mk A40
 clear A40
 simp only [Option.some.injEq,Prod.mk.injEq] at H
 obtain ⟨rfl,rfl,rfl,rfl,rfl⟩:=H
 go_enter Try.func19,Try.ntmps19
 go_wp2_with (first|((with_reducible refine gate_dst (N:=2) rfl ?_);refine box_event ?hg (N:=2) ?hd (cs:=#[.int .i64 0,.int .i64 0,.string (⟨#[]⟩:ByteArray),.slice none 0 0]) (t:=27) ?hr ?_;(case hd=>rfl);(case hg=>rfl);(case hr=>first|(go_simp;done)|(go_simp;rfl));intro gb412 hg w5 hbox hb;have n0_:=Aside0.mk (below_step (by repeat (first|(with_reducible first|exact HB.out|apply below_alloc|apply pw_below_drewN|apply below_drew1)|exact HB.out)) hb);have n1_:=Aside0.mk (hbox);have n2_:=Aside0.mk ((by rw [hg];exact (below_size (by repeat (first|(with_reducible first|exact HB.out|apply below_alloc|apply pw_below_drewN|apply below_drew1)|exact HB.out))):w.heap.size≤gb412));have n3_:=Aside0.mk ((by rw [hg];exact (below_size (by repeat (first|(with_reducible first|exact HB.out|apply below_alloc|apply pw_below_drewN|apply below_drew1)|exact HB.out))):w.heap.size≤gb412));clear HB;have HB:=n0_;have BK412:=n1_;have GW412:=n2_;have GE412:=n3_;clear n0_ n1_ n2_ n3_;clear hb hbox hg)|((with_reducible refine gate_callee (f:=23) rfl ?_);refine goesL_ (some 5) rfl rfl Try.func23 (by kernel_rfl) rfl #[.slice A0 l0.length c0] rfl (by (try simp only [List.map_toArray,List.map_cons,List.map_nil]);first|done|rfl|(simp only [List.length_drop,List.length_take];rfl)) ?_;(with_reducible refine (spec_DrawDocValid.calls k _ _ l0 t413 t414 t415 t416 _ ?side1 ?side2 A2.out).mono ?_);(case side1=>repeat (first|exact (Kd.C_below HR0.out HB.out)|(with_reducible refine Kd.C_alloc ?_ _)|(with_reducible refine Kd.C_drewN ?_ _)|(with_reducible refine Kd.C_drew ?_)));(case side2=>exact HC0.out);rintro e w6 ⟨v417,rfl,ho0,hb⟩;refine ⟨_,rfl,?_⟩;have n0_:=Aside0.mk (Kd.N_lower (Kd.N_mono (ok':=fun k_=>(w.heap.size≤k_)∧k_≠gb412) ho0 (fun k_ hk_=>⟨(Nat.le_trans (below_size (by repeat (first|(with_reducible first|exact HB.out|apply below_alloc|apply pw_below_drewN|apply below_drew1|refine below_set ?_ GE412.out)|exact HB.out))) hk_),(Kd.freshB (g:=gb412) (o:=.cells #[.int .i64 0,.int .i64 0,.string (⟨#[]⟩:ByteArray),.slice none 0 0] 27 (0,0)) (by (with_reducible repeat (first|refine blk_drewN ?_ _|refine blk_drew ?_|refine blk_alloc ?_ _));exact BK412.out) k_ hk_)⟩)) (below_size (by repeat (first|(with_reducible first|exact HB.out|apply below_alloc|apply pw_below_drewN|apply below_drew1|refine below_set ?_ GE412.out)|exact HB.out))));have n1_:=Aside0.mk (blk_below (g:=gb412) (o:=.cells #[.int .i64 0,.int .i64 0,.string (⟨#[]⟩:ByteArray),.slice none 0 0] 27 (0,0)) (by (with_reducible repeat (first|refine blk_drewN ?_ _|refine blk_drew ?_|refine blk_alloc ?_ _));exact BK412.out) hb);have n2_:=Aside0.mk (below_step (by repeat (first|(with_reducible first|exact HB.out|apply below_alloc|apply pw_below_drewN|apply below_drew1|refine below_set ?_ GE412.out)|exact HB.out)) hb);clear BK412;clear HB;have HO418:=n0_;have BK412:=n1_;have HB:=n2_;clear n0_ n1_ n2_;(try clear hb);(try clear hb2);(try clear hk);(try clear hi);(try clear ho0))|((with_reducible refine gate_callee (f:=44) rfl ?_);refine goesL_ (some 7) rfl rfl Try.func44 (by kernel_rfl) rfl #[.slice A0 l0.length c0] rfl (by (try simp only [List.map_toArray,List.map_cons,List.map_nil]);first|done|rfl|(simp only [List.length_drop,List.length_take];rfl)) ?_;(with_reducible refine (spec_l15Open.calls _ _ l0 t419 t420 w _ ?side1 ?side2 ?side3 A3.out).mono ?_);(case side1=>repeat (first|(with_reducible first|exact HB.out|apply below_alloc|apply pw_below_drewN|apply below_drew1|refine below_set ?_ GE412.out)|exact HB.out));(case side2=>exact HR0.out);(case side3=>exact HC0.out);rintro e w7 ⟨g421,rfl,hi,hb,hb2,hgw⟩;refine ⟨_,rfl,?_⟩;have n0_:=Aside0.mk (Kd.N_below (Kd.N_elderB (by (with_reducible repeat (first|apply Kd.N_alloc|apply Kd.N_drewN|apply Kd.N_drew));exact HO418.out) g421 hgw) hb2);have n1_:=Aside0.mk (blk_below (g:=gb412) (o:=.cells #[.int .i64 0,.int .i64 0,.string (⟨#[]⟩:ByteArray),.slice none 0 0] 27 (0,0)) (by (with_reducible repeat (first|refine blk_drewN ?_ _|refine blk_drew ?_|refine blk_alloc ?_ _));exact BK412.out) hb2);have n2_:=Aside0.mk (hb);have n3_:=Aside0.mk (hi);have n4_:=Aside0.mk (IsS66.ne_blk hi (blk_below (g:=gb412) (o:=.cells #[.int .i64 0,.int .i64 0,.string (⟨#[]⟩:ByteArray),.slice none 0 0] 27 (0,0)) (by (with_reducible repeat (first|refine blk_drewN ?_ _|refine blk_drew ?_|refine blk_alloc ?_ _));exact BK412.out) hb2) (by decide));have n5_:=Aside0.mk (Ne.symm (IsS66.ne_blk hi (blk_below (g:=gb412) (o:=.cells #[.int .i64 0,.int .i64 0,.string (⟨#[]⟩:ByteArray),.slice none 0 0] 27 (0,0)) (by (with_reducible repeat (first|refine blk_drewN ?_ _|refine blk_drew ?_|refine blk_alloc ?_ _));exact BK412.out) hb2) (by decide)));clear HO418;clear BK412;clear HB;have HO418:=n0_;have BK412:=n1_;have HB:=n2_;have HI421:=n3_;have NB421_412:=n4_;have NB412_421:=n5_;clear n0_ n1_ n2_ n3_ n4_ n5_;(try clear hb);(try clear hb2);(try clear hk);(try clear hi))|((with_reducible refine gate_dst (N:=8) rfl ?_);refine Kd.R_lit (Kd.int .i64) _ 3 ?hg (N:=8) ?hd (xs:=([2,7,3,8,5,1,0]:List Int)) (inner:=[.int .i64 2,.int .i64 7,.int .i64 3,.int .i64 8,.int .i64 5,.int .i64 1,.int .i64 0]) (ok:=fun _=>True) (okp:=fun _=>True) ?hr ?hp (fun _ hk=>hk) trivial (Below.refl _ _) (Nat.le_refl _) (by simp) ?_;(case hd=>rfl);(case hg=>rfl);(case hr=>first|(go_simp;done)|(go_simp;rfl));(case hp=>exact (Reps.one (show Kd.M (Kd.int .i64) _ _ _ 2 [.int .i64 2] from rfl) (Reps.one (show Kd.M (Kd.int .i64) _ _ _ 7 [.int .i64 7] from rfl) (Reps.one (show Kd.M (Kd.int .i64) _ _ _ 3 [.int .i64 3] from rfl) (Reps.one (show Kd.M (Kd.int .i64) _ _ _ 8 [.int .i64 8] from rfl) (Reps.one (show Kd.M (Kd.int .i64) _ _ _ 5 [.int .i64 5] from rfl) (Reps.one (show Kd.M (Kd.int .i64) _ _ _ 1 [.int .i64 1] from rfl) (Reps.one (show Kd.M (Kd.int .i64) _ _ _ 0 [.int .i64 0] from rfl) (Reps.none _ _)))))))));intro v423 w8 ho9 hb hg_ hnew_;clear hg_ hnew_;(first|rw [← Ny422.out] at ho9|(simp only [Int.reduceToNat] at ho9;rw [← Ny422.out] at ho9));have n0_:=Aside0.mk (Kd.N_elder' (by (with_reducible repeat (first|apply Kd.N_alloc|apply Kd.N_drewN|apply Kd.N_drew));exact HO418.out) (Kd.R_base ho9) hb);have n1_:=Aside0.mk (Kd.R_lower (Kd.R_newM (M:=fun k_=>(w.heap.size≤k_)) ho9 (below_size (by repeat (first|(with_reducible first|exact HB.out|apply below_alloc|apply pw_below_drewN|apply below_drew1|refine below_set ?_ (IsS66.ge HI421.out)|refine below_set ?_ GE412.out)|exact HB.out))) (fun k_ h_=>h_)) (below_size (by repeat (first|(with_reducible first|exact HB.out|apply below_alloc|apply pw_below_drewN|apply below_drew1|refine below_set ?_ (IsS66.ge HI421.out)|refine below_set ?_ GE412.out)|exact HB.out))));have n2_:=Aside0.mk (blk_below (g:=gb412) (o:=.cells #[.int .i64 0,.int .i64 0,.string (⟨#[]⟩:ByteArray),.slice none 0 0] 27 (0,0)) (by (with_reducible repeat (first|refine blk_drewN ?_ _|refine blk_drew ?_|refine blk_alloc ?_ _));exact BK412.out) hb);have n3_:=Aside0.mk (IsS66.below (by repeat (first|(with_reducible first|exact HI421.out|apply IsS66.alloc|apply IsS66.drewN|apply IsS66.drew|apply IsS66.set_1|refine IsS66.far ?_ NB421_412.out _)|exact HI421.out)) hb);have n4_:=Aside0.mk (below_step (by repeat (first|(with_reducible first|exact HB.out|apply below_alloc|apply pw_below_drewN|apply below_drew1|refine below_set ?_ (IsS66.ge HI421.out)|refine below_set ?_ GE412.out)|exact HB.out)) hb);clear HO418;clear BK412;clear HI421;clear HB;have HO418:=n0_;have HO424:=n1_;have BK412:=n2_;have HI421:=n3_;have HB:=n4_;clear n0_ n1_ n2_ n3_ n4_;clear hb ho9;obtain ⟨Ao10,co10,eo10⟩:=Kd.R_slice HO424.out;subst eo10)|((with_reducible refine gate_callee (f:=49) rfl ?_);refine goesL_ (some 9) rfl rfl Try.func49 (by kernel_rfl) rfl #[.pointer (some ⟨g421,0,none⟩),.slice Ao10 y422.length co10] rfl (by (try simp only [List.map_toArray,List.map_cons,List.map_nil]);first|done|rfl|(simp only [List.length_drop,List.length_take];rfl)) ?_;(with_reducible refine (spec_l15Rd_num.calls k g421 t419 t420 _ _ y422 t425 t426 w _ ?side1 ?side2 ?side3 ?side4 ?side5 A4.out).mono ?_);(case side1=>repeat (first|(with_reducible first|exact HI421.out|apply IsS66.alloc|apply IsS66.drewN|apply IsS66.drew|apply IsS66.set_1|refine IsS66.far ?_ NB421_412.out _)|exact HI421.out));(case side2=>repeat (first|(with_reducible first|exact HB.out|apply below_alloc|apply pw_below_drewN|apply below_drew1|refine below_set ?_ (IsS66.ge HI421.out)|refine below_set ?_ GE412.out)|exact HB.out));(case side3=>repeat (first|exact (Kd.R_reads' HO424.out).2.2|(with_reducible refine Kd.C_alloc ?_ _)|(with_reducible refine Kd.C_drewN ?_ _)|(with_reducible refine Kd.C_drew ?_)));(case side4=>exact (Kd.R_reads' HO424.out).2.1);(case side5=>exact far_slice (IsS66.own_ne HI421.out HO424.out (by decide)));rintro e w11 ⟨rfl,hi,hb,hk⟩;refine ⟨_,rfl,?_⟩;have n0_:=Aside0.mk (KeepBut.blk hk (g':=gb412) (o:=.cells #[.int .i64 0,.int .i64 0,.string (⟨#[]⟩:ByteArray),.slice none 0 0] 27 (0,0)) (by (with_reducible repeat (first|refine blk_drewN ?_ _|refine blk_drew ?_|refine blk_alloc ?_ _));exact BK412.out) NB412_421.out (by simp));have n1_:=Aside0.mk (Kd.N_mono (Kd.N_keep (Kd.N_mono (ok:=fun k_=>(((((w.heap.size≤k_))∧k_≠gb412)∧k_≠g421)∧some k_≠(.slice Ao10 y422.length co10:Value).ownBlock)) (by (with_reducible repeat (first|apply Kd.N_alloc|apply Kd.N_drewN|apply Kd.N_drew));exact HO418.out) (fun k_ hk_=>(⟨hk_,hk_.1.2⟩:_∧k_≠g421))) hk (fun _ h=>h.2)) (fun _ h=>h.1));have n2_:=Aside0.mk (Kd.R_mono (Kd.R_keep (IsS66.apart (show IsS66 w _ g421 t419 t420 from by repeat (first|(with_reducible first|exact HI421.out|apply IsS66.alloc|apply IsS66.drewN|apply IsS66.drew|apply IsS66.set_1|refine IsS66.far ?_ NB421_412.out _)|exact HI421.out)) (by (with_reducible repeat (first|apply Kd.R_alloc|apply Kd.R_drewN|apply Kd.R_drew));exact HO424.out) (by decide)) hk (fun _ h=>h.2)) (fun _ h=>h.1));have n3_:=Aside0.mk (hb);have n4_:=Aside0.mk (hi);clear BK412;clear HO418;clear HO424;clear HB;clear HI421;have BK412:=n0_;have HO418:=n1_;have HO424:=n2_;have HB:=n3_;have HI421:=n4_;clear n0_ n1_ n2_ n3_ n4_;(try clear hb);(try clear hb2);(try clear hk);(try clear hi);have hnb12:=NB412_421.out;have hnc12:=NB421_412.out;have hcz13_0:w11.cell? ⟨gb412,0,none⟩=some (.int .i64 0):=(blk_cell BK412.out 0).trans rfl;have hcz13_1:w11.cell? ⟨gb412,1,none⟩=some (.int .i64 0):=(blk_cell BK412.out 1).trans rfl;have hcz13_2:w11.cell? ⟨gb412,2,none⟩=some (.string (⟨#[]⟩:ByteArray)):=(blk_cell BK412.out 2).trans rfl;have hcz13_3:w11.cell? ⟨gb412,3,none⟩=some (.slice none 0 0):=(blk_cell BK412.out 3).trans rfl;have hfz13_0:=blk_frozen BK412.out 0;have hfz13_1:=blk_frozen BK412.out 1;have hfz13_2:=blk_frozen BK412.out 2;have hfz13_3:=blk_frozen BK412.out 3;obtain ⟨Ao14,co14,eo14⟩:=Kd.N_slice HO418.out;subst eo14))
 refine bodyPost_ret (results_ct rfl _ _ gb412 27 #[.int .i64 t413,.int .i64 t414,.string t415,.slice Ao14 t416.length co14] (0,0) _ rfl (by (with_reducible repeat (first|refine blk_drewN ?_ _|refine blk_drew ?_|refine blk_alloc ?_ _));refine blk_put (cs:=#[.int .i64 t413,.int .i64 t414,.string t415,.slice none 0 0]) ?_ 3 _ rfl;(with_reducible repeat (first|refine blk_drewN ?_ _|refine blk_drew ?_|refine blk_alloc ?_ _));refine blk_put (cs:=#[.int .i64 t413,.int .i64 t414,.string (⟨#[]⟩:ByteArray),.slice none 0 0]) ?_ 2 _ rfl;(with_reducible repeat (first|refine blk_drewN ?_ _|refine blk_drew ?_|refine blk_alloc ?_ _));refine blk_put (cs:=#[.int .i64 t413,.int .i64 0,.string (⟨#[]⟩:ByteArray),.slice none 0 0]) ?_ 1 _ rfl;(with_reducible repeat (first|refine blk_drewN ?_ _|refine blk_drew ?_|refine blk_alloc ?_ _));refine blk_put (cs:=#[.int .i64 0,.int .i64 0,.string (⟨#[]⟩:ByteArray),.slice none 0 0]) ?_ 0 _ rfl;(with_reducible repeat (first|refine blk_drewN ?_ _|refine blk_drew ?_|refine blk_alloc ?_ _));exact BK412.out) Try.underlying27 rfl (by kernel_rfl)) rfl ?_
 exact ⟨_,by first|rfl|(simp [errW_none,errW_some] <;> rfl)|(simp [*,errW_none,errW_some] <;> rfl),by (with_reducible repeat (first|apply Kd.N_alloc|apply Kd.N_drewN|apply Kd.N_drew));exact Kd.N_mono (Kd.N_far (p:=⟨gb412,3,none⟩) (Kd.N_far (p:=⟨gb412,2,none⟩) (Kd.N_far (p:=⟨gb412,1,none⟩) (Kd.N_far (p:=⟨gb412,0,none⟩) (Kd.N_mono HO418.out (fun k_ hk=>(⟨hk,hk.1.1.2⟩:_∧k_≠gb412))) (fun _ hk=>hk.2) (.int .i64 t413)) (fun _ hk=>hk.2) (.int .i64 t414)) (fun _ hk=>hk.2) (.string t415)) (fun _ hk=>hk.2) (.slice Ao14 t416.length co14)) (fun _ hk=>hk.1.1.1.1),by repeat (first|(with_reducible first|exact HB.out|apply below_alloc|apply pw_below_drewN|apply below_drew1|refine below_set ?_ (IsS66.ge HI421.out)|refine below_set ?_ GE412.out)|exact HB.out)⟩
end Go.Proofs.Ytdhdfmmefghijaa.P
namespace Go.Proofs.Ytdhdfmmefghijaa.P
open Go.RowKit Go.Proofs.YtdhdfmmefghijaaW.PrintWords Go.Proofs.YtdhdfmmefghijaaW.PrintLast Go.Proofs.YtdhdfmmefghijaaW.PrintMore
attribute [local go_sem] max2_int min2_int max_two min_two max_three min_three max_four min_four
set_option linter.unusedVariables false
set_option linter.unusedSimpArgs false
mutual
def impl_CountOps.j0:Nat→Int→Int→Int→Int→ByteArray→List (SDoc)→Option (Int)
 | 0,_,_,_,_,_,_=>none
 | k+1,x1,x5,x428000,x428001,x428002,x428003=>impl_CountOps.l0 k x1 x5 x428003 (x428003.length:Int) 0
def impl_CountOps.l0:Nat→Int→Int→List (SDoc)→Int→Int→Option (Int)
 | 0,_,_,_,_,_=>none
 | k+1,x1,x5,x13,x14,x15=>if x15<x14 then (if 0≤x15 then (if x15<(x13.length:Int) then ((impl_CountOps.f k ((rd_TDoc x13 x15).f0) ((rd_TDoc x13 x15).f1) ((rd_TDoc x13 x15).f2) ((rd_TDoc x13 x15).f3) x1).bind fun t430=>(impl_CountOps.l0 k x1 (wrap64 (x5+t430)) x13 x14 (wrap64 (x15+1)))) else (none)) else (none)) else (some x5)
def impl_CountOps.f:Nat→Int→Int→ByteArray→List (SDoc)→Int→Option (Int)
 | 0,_,_,_,_,_=>none
 | k+1,a0_0,a0_1,a0_2,l0_3,a1=>if a0_0=a1 then (impl_CountOps.j0 k a1 1 a0_0 a0_1 a0_2 l0_3) else (impl_CountOps.j0 k a1 0 a0_0 a0_1 a0_2 l0_3)
end
set_option maxHeartbeats 8000000 in
set_option maxRecDepth 100000 in
theorem impl_CountOps.calls (k:Nat):∀ (a0_0:Int) (a0_1:Int) (a0_2:ByteArray) (A0_3:Option Addr) (c0_3:Nat) (l0_3:List (SDoc)) (a1:Int) (r:Int) (w:World) (hr0_3:Kd.C k27 w A0_3 l0_3.length l0_3) (hc0_3:l0_3.length≤c0_3) (h:impl_CountOps.f k a0_0 a0_1 a0_2 l0_3 a1=some r),
  Calls Try.prog 20 #[.agg #[.int .i64 a0_0,.int .i64 a0_1,.string a0_2,.slice A0_3 l0_3.length c0_3],.int .i64 a1] w fun e w'=>e=.returned (.int .i64 r)∧Below w.heap.size w w':=by
 induction k using Nat.strongRecOn with
 | _ k ih =>
 intro a0_0 a0_1 a0_2 A0_3 c0_3 l0_3 a1 r w hr0_3 hc0_3 h
 cases k with
 | zero=>exact absurd h (by simp [impl_CountOps.f])
 | succ k =>
 simp only [impl_CountOps.f] at h
 have hu27:=Try.underlying27
 have HR0_3:=Aside0.mk hr0_3
 have HC0_3:=Aside0.mk hc0_3
 clear hr0_3 hc0_3
 have HB:=Aside0.mk (Below.refl w.heap.size w)
 have H:(if a0_0=a1 then (impl_CountOps.j0 k a1 1 a0_0 a0_1 a0_2 l0_3) else (impl_CountOps.j0 k a1 0 a0_0 a0_1 a0_2 l0_3))=some r:=h
 clear h
 have HC3:=Aside0.mk H
 clear H
 go_enter Try.func20,Try.ntmps20
 go_upto_if 11 with (first|((with_reducible refine gate_dst (N:=2) rfl ?_);refine box_event ?hg (N:=2) ?hd (cs:=#[.int .i64 a0_0,.int .i64 a0_1,.string a0_2,.slice A0_3 l0_3.length c0_3]) (t:=27) ?hr ?_;(case hd=>rfl);(case hg=>rfl);(case hr=>first|(go_simp;done)|(go_simp;rfl));intro gb427 hg w4 hbox hb;have n0_:=Aside0.mk (below_step (by repeat (first|(with_reducible first|exact HB.out|apply below_alloc|apply pw_below_drewN|apply below_drew1)|exact HB.out)) hb);have n1_:=Aside0.mk (hbox);have n2_:=Aside0.mk ((by rw [hg];exact (below_size (by repeat (first|(with_reducible first|exact HB.out|apply below_alloc|apply pw_below_drewN|apply below_drew1)|exact HB.out))):w.heap.size≤gb427));have n3_:=Aside0.mk ((by rw [hg];exact (below_size (by repeat (first|(with_reducible first|exact HB.out|apply below_alloc|apply pw_below_drewN|apply below_drew1)|exact HB.out))):w.heap.size≤gb427));clear HB;have HB:=n0_;have BK427:=n1_;have GW427:=n2_;have GE427:=n3_;clear n0_ n1_ n2_ n3_;clear hb hbox hg;have hcz5_0:w4.cell? ⟨gb427,0,none⟩=some (.int .i64 a0_0):=(blk_cell BK427.out 0).trans rfl;have hcz5_1:w4.cell? ⟨gb427,1,none⟩=some (.int .i64 a0_1):=(blk_cell BK427.out 1).trans rfl;have hcz5_2:w4.cell? ⟨gb427,2,none⟩=some (.string a0_2):=(blk_cell BK427.out 2).trans rfl;have hcz5_3:w4.cell? ⟨gb427,3,none⟩=some (.slice A0_3 l0_3.length c0_3):=(blk_cell BK427.out 3).trans rfl;have hfz5_0:=blk_frozen BK427.out 0;have hfz5_1:=blk_frozen BK427.out 1;have hfz5_2:=blk_frozen BK427.out 2;have hfz5_3:=blk_frozen BK427.out 3))
 (try simp only [Act.put,List.setIfInBounds_toArray,List.set_cons_zero,List.set_cons_succ])
 go_cut [5] (fun v5 wc=>∃ (kq:Nat) (x5_2:Int),v5=.int .i64 x5_2∧Aside0 (impl_CountOps.j0 kq a1 x5_2 a0_0 a0_1 a0_2 l0_3=some r)∧Aside0 (kq≤k)∧Aside0 (wc.heap[gb427]?=some (.cells #[.int .i64 a0_0,.int .i64 a0_1,.string a0_2,(.slice A0_3 l0_3.length c0_3)] 27 (0,0)))∧Aside0 (Below w.heap.size w wc))
 case first =>
  have H:=HC3.out
  clear HC3
  by_cases c6:a0_0=a1
  ·rw [if_pos c6] at H
   have c6b0:(a0_0 == a1)=true:=beq_iff_eq.mpr c6
   have c6b1:(a0_0 != a1)=false:=bne_eq_false_iff_eq.mpr c6
   clear c6
   (first|rw [c6b0]|(simp only [i64_w,i32_w];rw [c6b0])|skip)
   have H':=Aside0.mk H
   clear H
   go_wp2
   go_meet
   case rel=>exact ⟨_,(1),(by first|rfl|(simp;done)|(simp [*];done)),H',⟨by first|omega|exact Nat.le_refl _⟩,⟨by (with_reducible repeat (first|refine blk_drewN ?_ _|refine blk_drew ?_|refine blk_alloc ?_ _));exact BK427.out⟩,⟨by repeat (first|(with_reducible first|exact HB.out|apply below_alloc|apply pw_below_drewN|apply below_drew1|refine below_set ?_ GE427.out)|exact HB.out)⟩⟩
  ·rw [if_neg c6] at H
   have c6b0:(a0_0 == a1)=false:=beq_eq_false_iff_ne.mpr c6
   have c6b1:(a0_0 != a1)=true:=bne_iff_ne.mpr c6
   (first|rw [c6b0]|(simp only [i64_w,i32_w];rw [c6b0])|skip)
   have H':=Aside0.mk H
   clear H
   go_wp2
   go_meet
   case rel=>exact ⟨_,(0),(by first|rfl|(simp;done)|(simp [*];done)),H',⟨by first|omega|exact Nat.le_refl _⟩,⟨by (with_reducible repeat (first|refine blk_drewN ?_ _|refine blk_drew ?_|refine blk_alloc ?_ _));exact BK427.out⟩,⟨by repeat (first|(with_reducible first|exact HB.out|apply below_alloc|apply pw_below_drewN|apply below_drew1|refine below_set ?_ GE427.out)|exact HB.out)⟩⟩
 case rest =>
  clear HC3
  try clear c2 p2 c6 c6b0 c6b1 hcz5_0 hcz5_1 hcz5_2 hcz5_3 hfz5_0 hfz5_1 hfz5_2 hfz5_3
  obtain ⟨kq,x5_2,rfl,HA,HJ2,BK427,HB⟩:=hcut
  cases kq with
  | zero=>exact absurd HA.out (by simp [impl_CountOps.j0])
  | succ kj2 =>
   have H:=HA.out
   clear HA
   simp only [impl_CountOps.j0] at H
   have H':=Aside0.mk H
   clear H
   have hcz7_0:wc.cell? ⟨gb427,0,none⟩=some (.int .i64 a0_0):=(blk_cell BK427.out 0).trans rfl
   have hcz7_1:wc.cell? ⟨gb427,1,none⟩=some (.int .i64 a0_1):=(blk_cell BK427.out 1).trans rfl
   have hcz7_2:wc.cell? ⟨gb427,2,none⟩=some (.string a0_2):=(blk_cell BK427.out 2).trans rfl
   have hcz7_3:wc.cell? ⟨gb427,3,none⟩=some (.slice A0_3 l0_3.length c0_3):=(blk_cell BK427.out 3).trans rfl
   have hfz7_0:=blk_frozen BK427.out 0
   have hfz7_1:=blk_frozen BK427.out 1
   have hfz7_2:=blk_frozen BK427.out 2
   have hfz7_3:=blk_frozen BK427.out 3
   go_wp2
   go_loopg [5,15] kj2 (fun kq v5 v15 w'=>∃ (x5_2:Int) (x15_2:Int),v5=.int .i64 x5_2∧v15=.int .i64 x15_2∧Aside0 (impl_CountOps.l0 kq a1 x5_2 l0_3 (l0_3.length:Int) x15_2=some r)∧Aside0 (kq≤kj2)∧Aside0 (w'.heap[gb427]?=some (.cells #[.int .i64 a0_0,.int .i64 a0_1,.string a0_2,(.slice A0_3 l0_3.length c0_3)] 27 (0,0)))∧Aside0 (Below w.heap.size w w'))
   case atStart=>exact ⟨(x5_2),(0),(by first|rfl|(simp;done)|(simp [*];done)),(by first|rfl|(simp;done)|(simp [*];done)),H',⟨Nat.le_refl _⟩,⟨by (with_reducible repeat (first|refine blk_drewN ?_ _|refine blk_drew ?_|refine blk_alloc ?_ _));exact BK427.out⟩,⟨by repeat (first|(with_reducible first|exact HB.out|apply below_alloc|apply pw_below_drewN|apply below_drew1|refine below_set ?_ GE427.out)|exact HB.out)⟩⟩
   case round =>
    clear H'
    try clear c2 p2 c6 c6b0 c6b1 hcz5_0 hcz5_1 hcz5_2 hcz5_3 hcz7_0 hcz7_1 hcz7_2 hcz7_3 hfz5_0 hfz5_1 hfz5_2 hfz5_3 hfz7_0 hfz7_1 hfz7_2 hfz7_3 p2
    (try clear BK427);(try clear HB)
    obtain ⟨x5_2,x15_2,rfl,rfl,HA,HK2,BK427,HB⟩:=hrel
    cases gk with
    | zero=>exact absurd HA.out (by simp [impl_CountOps.l0])
    | succ k2 =>
     have H:=HA.out
     clear HA
     simp only [impl_CountOps.l0] at H
     by_cases c8:x15_2<(l0_3.length:Int)
     ·rw [if_pos c8] at H
      have c8b0:decide (x15_2<(l0_3.length:Int))=true:=decide_eq_true c8
      clear c8
      by_cases c9:0≤x15_2
      ·rw [if_pos c9] at H
       have c9b0:decide (0≤x15_2)=true:=decide_eq_true c9
       clear c9
       by_cases c10:x15_2<(l0_3.length:Int)
       ·rw [if_pos c10] at H
        have c10b0:decide (x15_2<(l0_3.length:Int))=true:=decide_eq_true c10
        clear c10
        replace H:=Option.bind_eq_some_iff.mp H
        obtain ⟨t430,A110,H⟩:=H
        replace H:(impl_CountOps.l0 k2 a1 (wrap64 (x5_2+t430)) l0_3 (l0_3.length:Int) (wrap64 (x15_2+1)))=some r:=H
        have A11:=Aside0.mk A110
        clear A110
        have H':=Aside0.mk H
        clear H
        have p428:0≤(x15_2:Int):=of_decide_eq_true (by first|(with_reducible assumption)|assumption)
        have q428:x15_2<(l0_3.length:Int):=of_decide_eq_true (by first|(with_reducible assumption)|assumption)
        obtain ⟨ad428,A428_3,c428_3,e428,hx428_0,hx428_1,hx428_2,hx428_3,hl428_3,hi428_3⟩:=at_TDoc HR0_3.out x15_2 p428 q428
        cases e428
        replace hx428_0:=(HB.out.cell (World.block_lt_of_cell? w _ hx428_0)).trans hx428_0
        replace hx428_1:=(HB.out.cell (World.block_lt_of_cell? w _ hx428_1)).trans hx428_1
        replace hx428_2:=(HB.out.cell (World.block_lt_of_cell? w _ hx428_2)).trans hx428_2
        replace hx428_3:=(HB.out.cell (World.block_lt_of_cell? w _ hx428_3)).trans hx428_3
        have HR428_3:=Aside0.mk hi428_3
        have HC428_3:=Aside0.mk hl428_3
        clear hi428_3 hl428_3
        replace p428:=eq_true p428
        replace q428:=eq_true q428
        go_wp2_with (first|((with_reducible refine gate_dst (N:=7) rfl ?_);refine box_event ?hg (N:=7) ?hd (cs:=#[.int .i64 0,.int .i64 0,.string (⟨#[]⟩:ByteArray),.slice none 0 0]) (t:=27) ?hr ?_;(case hd=>rfl);(case hg=>rfl);(case hr=>first|(go_simp;done)|(go_simp;rfl));intro gb429 hg w12 hbox hb;have n0_:=Aside0.mk (blk_below (g:=gb427) (o:=.cells #[.int .i64 a0_0,.int .i64 a0_1,.string a0_2,.slice (some ad428) l0_3.length c0_3] 27 (0,0)) (by (with_reducible repeat (first|refine blk_drewN ?_ _|refine blk_drew ?_|refine blk_alloc ?_ _));exact BK427.out) hb);have n1_:=Aside0.mk (below_step (by repeat (first|(with_reducible first|exact HB.out|apply below_alloc|apply pw_below_drewN|apply below_drew1|refine below_set ?_ GE427.out)|exact HB.out)) hb);have n2_:=Aside0.mk (hbox);have n3_:=Aside0.mk ((by rw [hg];exact (below_size (by repeat (first|(with_reducible first|exact HB.out|apply below_alloc|apply pw_below_drewN|apply below_drew1|refine below_set ?_ GE427.out)|exact HB.out))):w.heap.size≤gb429));have n4_:=Aside0.mk ((by rw [hg];exact (below_size (by repeat (first|(with_reducible first|exact HB.out|apply below_alloc|apply pw_below_drewN|apply below_drew1|refine below_set ?_ GE427.out)|exact HB.out))):w.heap.size≤gb429));have n5_:=Aside0.mk ((by rw [hg];exact Nat.ne_of_lt (blk_lt (g:=gb427) (o:=.cells #[.int .i64 a0_0,.int .i64 a0_1,.string a0_2,.slice (some ad428) l0_3.length c0_3] 27 (0,0)) (by (with_reducible repeat (first|refine blk_drewN ?_ _|refine blk_drew ?_|refine blk_alloc ?_ _));exact BK427.out)):gb427≠gb429));have n6_:=Aside0.mk ((by rw [hg];exact Nat.ne_of_gt (blk_lt (g:=gb427) (o:=.cells #[.int .i64 a0_0,.int .i64 a0_1,.string a0_2,.slice (some ad428) l0_3.length c0_3] 27 (0,0)) (by (with_reducible repeat (first|refine blk_drewN ?_ _|refine blk_drew ?_|refine blk_alloc ?_ _));exact BK427.out)):gb429≠gb427));clear BK427;clear HB;have BK427:=n0_;have HB:=n1_;have BK429:=n2_;have GW429:=n3_;have GE429:=n4_;have NB427_429:=n5_;have NB429_427:=n6_;clear n0_ n1_ n2_ n3_ n4_ n5_ n6_;clear hb hbox hg;have hnb13:=NB429_427.out;have hnc13:=NB427_429.out;have hcz14_0:w12.cell? ⟨gb429,0,none⟩=some (.int .i64 0):=(blk_cell BK429.out 0).trans rfl;have hcz14_1:w12.cell? ⟨gb429,1,none⟩=some (.int .i64 0):=(blk_cell BK429.out 1).trans rfl;have hcz14_2:w12.cell? ⟨gb429,2,none⟩=some (.string (⟨#[]⟩:ByteArray)):=(blk_cell BK429.out 2).trans rfl;have hcz14_3:w12.cell? ⟨gb429,3,none⟩=some (.slice none 0 0):=(blk_cell BK429.out 3).trans rfl;have hfz14_0:=blk_frozen BK429.out 0;have hfz14_1:=blk_frozen BK429.out 1;have hfz14_2:=blk_frozen BK429.out 2;have hfz14_3:=blk_frozen BK429.out 3)|((with_reducible refine gate_callee (f:=20) rfl ?_);refine goesL_ (some 22) rfl rfl Try.func20 (by kernel_rfl) rfl #[.agg #[.int .i64 ((rd_TDoc l0_3 x15_2).f0),.int .i64 ((rd_TDoc l0_3 x15_2).f1),.string ((rd_TDoc l0_3 x15_2).f2),.slice A428_3 ((rd_TDoc l0_3 x15_2).f3).length c428_3],.int .i64 a1] rfl (by (try simp only [List.map_toArray,List.map_cons,List.map_nil]);first|done|rfl|(simp only [List.length_drop,List.length_take];rfl)) ?_;(with_reducible refine (ih k2 (by have:=HJ2.out;have:=HK2.out;omega) ((rd_TDoc l0_3 x15_2).f0) ((rd_TDoc l0_3 x15_2).f1) ((rd_TDoc l0_3 x15_2).f2) _ _ ((rd_TDoc l0_3 x15_2).f3) a1 t430 _ ?side1 ?side2 A11.out).mono ?_);(case side1=>exact Kd.C_below HR428_3.out (by repeat (first|(with_reducible first|exact HB.out|apply below_alloc|apply pw_below_drewN|apply below_drew1|refine below_set ?_ GE427.out|refine below_set ?_ GE429.out)|exact HB.out)));(case side2=>exact HC428_3.out);rintro e w15 ⟨rfl,hb⟩;refine ⟨_,rfl,?_⟩;have n0_:=Aside0.mk (blk_below (g:=gb427) (o:=.cells #[.int .i64 a0_0,.int .i64 a0_1,.string a0_2,.slice (some ad428) l0_3.length c0_3] 27 (0,0)) (by (with_reducible repeat (first|refine blk_drewN ?_ _|refine blk_drew ?_|refine blk_alloc ?_ _));refine blk_far ?_ NB427_429.out _;(with_reducible repeat (first|refine blk_drewN ?_ _|refine blk_drew ?_|refine blk_alloc ?_ _));refine blk_far ?_ NB427_429.out _;(with_reducible repeat (first|refine blk_drewN ?_ _|refine blk_drew ?_|refine blk_alloc ?_ _));refine blk_far ?_ NB427_429.out _;(with_reducible repeat (first|refine blk_drewN ?_ _|refine blk_drew ?_|refine blk_alloc ?_ _));refine blk_far ?_ NB427_429.out _;(with_reducible repeat (first|refine blk_drewN ?_ _|refine blk_drew ?_|refine blk_alloc ?_ _));exact BK427.out) hb);have n1_:=Aside0.mk (blk_below (g:=gb429) (o:=.cells #[.int .i64 ((rd_TDoc l0_3 x15_2).f0),.int .i64 ((rd_TDoc l0_3 x15_2).f1),.string ((rd_TDoc l0_3 x15_2).f2),.slice A428_3 ((rd_TDoc l0_3 x15_2).f3).length c428_3] 27 (0,0)) (by (with_reducible repeat (first|refine blk_drewN ?_ _|refine blk_drew ?_|refine blk_alloc ?_ _));refine blk_put (cs:=#[.int .i64 ((rd_TDoc l0_3 x15_2).f0),.int .i64 ((rd_TDoc l0_3 x15_2).f1),.string ((rd_TDoc l0_3 x15_2).f2),.slice none 0 0]) ?_ 3 _ rfl;(with_reducible repeat (first|refine blk_drewN ?_ _|refine blk_drew ?_|refine blk_alloc ?_ _));refine blk_put (cs:=#[.int .i64 ((rd_TDoc l0_3 x15_2).f0),.int .i64 ((rd_TDoc l0_3 x15_2).f1),.string (⟨#[]⟩:ByteArray),.slice none 0 0]) ?_ 2 _ rfl;(with_reducible repeat (first|refine blk_drewN ?_ _|refine blk_drew ?_|refine blk_alloc ?_ _));refine blk_put (cs:=#[.int .i64 ((rd_TDoc l0_3 x15_2).f0),.int .i64 0,.string (⟨#[]⟩:ByteArray),.slice none 0 0]) ?_ 1 _ rfl;(with_reducible repeat (first|refine blk_drewN ?_ _|refine blk_drew ?_|refine blk_alloc ?_ _));refine blk_put (cs:=#[.int .i64 0,.int .i64 0,.string (⟨#[]⟩:ByteArray),.slice none 0 0]) ?_ 0 _ rfl;(with_reducible repeat (first|refine blk_drewN ?_ _|refine blk_drew ?_|refine blk_alloc ?_ _));exact BK429.out) hb);have n2_:=Aside0.mk (below_step (by repeat (first|(with_reducible first|exact HB.out|apply below_alloc|apply pw_below_drewN|apply below_drew1|refine below_set ?_ GE427.out|refine below_set ?_ GE429.out)|exact HB.out)) hb);clear BK427;clear BK429;clear HB;have BK427:=n0_;have BK429:=n1_;have HB:=n2_;clear n0_ n1_ n2_;(try clear hb);(try clear hb2);(try clear hk);(try clear hi)))
        go_roundg k2
        case measure=>have:=HJ2.out;have:=HK2.out;omega
        case rel=>exact ⟨(wrap64 (x5_2+t430)),(wrap64 (x15_2+1)),(by first|rfl|(simp;done)|(simp [*];done)),(by first|rfl|(simp;done)|(simp [*];done)),H',⟨by have:=HJ2.out;have:=HK2.out;omega⟩,⟨by (with_reducible repeat (first|refine blk_drewN ?_ _|refine blk_drew ?_|refine blk_alloc ?_ _));exact BK427.out⟩,⟨by repeat (first|(with_reducible first|exact HB.out|apply below_alloc|apply pw_below_drewN|apply below_drew1|refine below_set ?_ GE427.out|refine below_set ?_ GE429.out)|exact HB.out)⟩⟩
       ·rw [if_neg c10] at H
        exact absurd H (by simp)
      ·rw [if_neg c9] at H
       exact absurd H (by simp)
     ·rw [if_neg c8] at H
      have c8b0:decide (x15_2<(l0_3.length:Int))=false:=decide_eq_false c8
      clear c8
      obtain rfl:=Option.some.inj H
      go_wp2
      go_ret
      exact ⟨by first|rfl|(simp [errW_none,errW_some] <;> rfl)|(simp [*,errW_none,errW_some] <;> rfl),by repeat (first|(with_reducible first|exact HB.out|apply below_alloc|apply pw_below_drewN|apply below_drew1|refine below_set ?_ GE427.out)|exact HB.out)⟩
end Go.Proofs.Ytdhdfmmefghijaa.P
namespace Go.Proofs.Ytdhdfmmefghijaa.P
open Go.RowKit Go.Proofs.YtdhdfmmefghijaaW.PrintWords Go.Proofs.YtdhdfmmefghijaaW.PrintLast Go.Proofs.YtdhdfmmefghijaaW.PrintMore
attribute [local go_sem] max2_int min2_int max_two min_two max_three min_three max_four min_four
set_option linter.unusedVariables false
set_option linter.unusedSimpArgs false
mutual
def spec_CountOps.j0:Nat→Int→Int→Int→Int→ByteArray→List (SDoc)→Option (Int)
 | 0,_,_,_,_,_,_=>none
 | k+1,x1,x5,x432000,x432001,x432002,x432003=>spec_CountOps.l0 k x1 x5 0 x432000 x432001 x432002 x432003
def spec_CountOps.l0:Nat→Int→Int→Int→Int→Int→ByteArray→List (SDoc)→Option (Int)
 | 0,_,_,_,_,_,_,_=>none
 | k+1,x1,x5,x6,x432000,x432001,x432002,x432003=>if x6<(x432003.length:Int) then (if 0≤x6 then ((spec_CountOps.f k ((rd_TDoc x432003 x6).f0) ((rd_TDoc x432003 x6).f1) ((rd_TDoc x432003 x6).f2) ((rd_TDoc x432003 x6).f3) x1).bind fun t433=>(spec_CountOps.l0 k x1 (wrap64 (x5+t433)) (wrap64 (x6+1)) x432000 x432001 x432002 x432003)) else (none)) else (some x5)
def spec_CountOps.f:Nat→Int→Int→ByteArray→List (SDoc)→Int→Option (Int)
 | 0,_,_,_,_,_=>none
 | k+1,a0_0,a0_1,a0_2,l0_3,a1=>if a0_0=a1 then (spec_CountOps.j0 k a1 1 a0_0 a0_1 a0_2 l0_3) else (spec_CountOps.j0 k a1 0 a0_0 a0_1 a0_2 l0_3)
end
set_option maxHeartbeats 8000000 in
set_option maxRecDepth 100000 in
theorem spec_CountOps.calls (k:Nat):∀ (a0_0:Int) (a0_1:Int) (a0_2:ByteArray) (A0_3:Option Addr) (c0_3:Nat) (l0_3:List (SDoc)) (a1:Int) (r:Int) (w:World) (hr0_3:Kd.C k27 w A0_3 l0_3.length l0_3) (hc0_3:l0_3.length≤c0_3) (h:spec_CountOps.f k a0_0 a0_1 a0_2 l0_3 a1=some r),
  Calls Try.prog 21 #[.agg #[.int .i64 a0_0,.int .i64 a0_1,.string a0_2,.slice A0_3 l0_3.length c0_3],.int .i64 a1] w fun e w'=>e=.returned (.int .i64 r)∧Below w.heap.size w w':=by
 induction k using Nat.strongRecOn with
 | _ k ih =>
 intro a0_0 a0_1 a0_2 A0_3 c0_3 l0_3 a1 r w hr0_3 hc0_3 h
 cases k with
 | zero=>exact absurd h (by simp [spec_CountOps.f])
 | succ k =>
 simp only [spec_CountOps.f] at h
 have hu27:=Try.underlying27
 have HR0_3:=Aside0.mk hr0_3
 have HC0_3:=Aside0.mk hc0_3
 clear hr0_3 hc0_3
 have HB:=Aside0.mk (Below.refl w.heap.size w)
 have H:(if a0_0=a1 then (spec_CountOps.j0 k a1 1 a0_0 a0_1 a0_2 l0_3) else (spec_CountOps.j0 k a1 0 a0_0 a0_1 a0_2 l0_3))=some r:=h
 clear h
 have HC3:=Aside0.mk H
 clear H
 go_enter Try.func21,Try.ntmps21
 go_upto_if 10 with (first|((with_reducible refine gate_dst (N:=2) rfl ?_);refine box_event ?hg (N:=2) ?hd (cs:=#[.int .i64 a0_0,.int .i64 a0_1,.string a0_2,.slice A0_3 l0_3.length c0_3]) (t:=27) ?hr ?_;(case hd=>rfl);(case hg=>rfl);(case hr=>first|(go_simp;done)|(go_simp;rfl));intro gb431 hg w4 hbox hb;have n0_:=Aside0.mk (below_step (by repeat (first|(with_reducible first|exact HB.out|apply below_alloc|apply pw_below_drewN|apply below_drew1)|exact HB.out)) hb);have n1_:=Aside0.mk (hbox);have n2_:=Aside0.mk ((by rw [hg];exact (below_size (by repeat (first|(with_reducible first|exact HB.out|apply below_alloc|apply pw_below_drewN|apply below_drew1)|exact HB.out))):w.heap.size≤gb431));have n3_:=Aside0.mk ((by rw [hg];exact (below_size (by repeat (first|(with_reducible first|exact HB.out|apply below_alloc|apply pw_below_drewN|apply below_drew1)|exact HB.out))):w.heap.size≤gb431));clear HB;have HB:=n0_;have BK431:=n1_;have GW431:=n2_;have GE431:=n3_;clear n0_ n1_ n2_ n3_;clear hb hbox hg;have hcz5_0:w4.cell? ⟨gb431,0,none⟩=some (.int .i64 a0_0):=(blk_cell BK431.out 0).trans rfl;have hcz5_1:w4.cell? ⟨gb431,1,none⟩=some (.int .i64 a0_1):=(blk_cell BK431.out 1).trans rfl;have hcz5_2:w4.cell? ⟨gb431,2,none⟩=some (.string a0_2):=(blk_cell BK431.out 2).trans rfl;have hcz5_3:w4.cell? ⟨gb431,3,none⟩=some (.slice A0_3 l0_3.length c0_3):=(blk_cell BK431.out 3).trans rfl;have hfz5_0:=blk_frozen BK431.out 0;have hfz5_1:=blk_frozen BK431.out 1;have hfz5_2:=blk_frozen BK431.out 2;have hfz5_3:=blk_frozen BK431.out 3))
 (try simp only [Act.put,List.setIfInBounds_toArray,List.set_cons_zero,List.set_cons_succ])
 go_cut [5] (fun v5 wc=>∃ (kq:Nat) (x5_2:Int),v5=.int .i64 x5_2∧Aside0 (spec_CountOps.j0 kq a1 x5_2 a0_0 a0_1 a0_2 l0_3=some r)∧Aside0 (kq≤k)∧Aside0 (wc.heap[gb431]?=some (.cells #[.int .i64 a0_0,.int .i64 a0_1,.string a0_2,(.slice A0_3 l0_3.length c0_3)] 27 (0,0)))∧Aside0 (Below w.heap.size w wc))
 case first =>
  have H:=HC3.out
  clear HC3
  by_cases c6:a0_0=a1
  ·rw [if_pos c6] at H
   have c6b0:(a0_0 == a1)=true:=beq_iff_eq.mpr c6
   have c6b1:(a0_0 != a1)=false:=bne_eq_false_iff_eq.mpr c6
   clear c6
   (first|rw [c6b0]|(simp only [i64_w,i32_w];rw [c6b0])|skip)
   have H':=Aside0.mk H
   clear H
   go_wp2
   go_meet
   case rel=>exact ⟨_,(1),(by first|rfl|(simp;done)|(simp [*];done)),H',⟨by first|omega|exact Nat.le_refl _⟩,⟨by (with_reducible repeat (first|refine blk_drewN ?_ _|refine blk_drew ?_|refine blk_alloc ?_ _));exact BK431.out⟩,⟨by repeat (first|(with_reducible first|exact HB.out|apply below_alloc|apply pw_below_drewN|apply below_drew1|refine below_set ?_ GE431.out)|exact HB.out)⟩⟩
  ·rw [if_neg c6] at H
   have c6b0:(a0_0 == a1)=false:=beq_eq_false_iff_ne.mpr c6
   have c6b1:(a0_0 != a1)=true:=bne_iff_ne.mpr c6
   (first|rw [c6b0]|(simp only [i64_w,i32_w];rw [c6b0])|skip)
   have H':=Aside0.mk H
   clear H
   go_wp2
   go_meet
   case rel=>exact ⟨_,(0),(by first|rfl|(simp;done)|(simp [*];done)),H',⟨by first|omega|exact Nat.le_refl _⟩,⟨by (with_reducible repeat (first|refine blk_drewN ?_ _|refine blk_drew ?_|refine blk_alloc ?_ _));exact BK431.out⟩,⟨by repeat (first|(with_reducible first|exact HB.out|apply below_alloc|apply pw_below_drewN|apply below_drew1|refine below_set ?_ GE431.out)|exact HB.out)⟩⟩
 case rest =>
  clear HC3
  try clear c2 p2 c6 c6b0 c6b1 hcz5_0 hcz5_1 hcz5_2 hcz5_3 hfz5_0 hfz5_1 hfz5_2 hfz5_3
  obtain ⟨kq,x5_2,rfl,HA,HJ2,BK431,HB⟩:=hcut
  cases kq with
  | zero=>exact absurd HA.out (by simp [spec_CountOps.j0])
  | succ kj2 =>
   have H:=HA.out
   clear HA
   simp only [spec_CountOps.j0] at H
   have H':=Aside0.mk H
   clear H
   go_wp2
   go_loopg [5,6] kj2 (fun kq v5 v6 w'=>∃ (x5_2:Int) (x6_2:Int),v5=.int .i64 x5_2∧v6=.int .i64 x6_2∧Aside0 (spec_CountOps.l0 kq a1 x5_2 x6_2 a0_0 a0_1 a0_2 l0_3=some r)∧Aside0 (kq≤kj2)∧Aside0 (w'.heap[gb431]?=some (.cells #[.int .i64 a0_0,.int .i64 a0_1,.string a0_2,(.slice A0_3 l0_3.length c0_3)] 27 (0,0)))∧Aside0 (Below w.heap.size w w'))
   case atStart=>exact ⟨(x5_2),(0),(by first|rfl|(simp;done)|(simp [*];done)),(by first|rfl|(simp;done)|(simp [*];done)),H',⟨Nat.le_refl _⟩,⟨by (with_reducible repeat (first|refine blk_drewN ?_ _|refine blk_drew ?_|refine blk_alloc ?_ _));exact BK431.out⟩,⟨by repeat (first|(with_reducible first|exact HB.out|apply below_alloc|apply pw_below_drewN|apply below_drew1|refine below_set ?_ GE431.out)|exact HB.out)⟩⟩
   case round =>
    clear H'
    try clear c2 p2 c6 c6b0 c6b1 hcz5_0 hcz5_1 hcz5_2 hcz5_3 hfz5_0 hfz5_1 hfz5_2 hfz5_3 p2
    (try clear BK431);(try clear HB)
    obtain ⟨x5_2,x6_2,rfl,rfl,HA,HK2,BK431,HB⟩:=hrel
    cases gk with
    | zero=>exact absurd HA.out (by simp [spec_CountOps.l0])
    | succ k2 =>
     have H:=HA.out
     clear HA
     simp only [spec_CountOps.l0] at H
     by_cases c7:x6_2<(l0_3.length:Int)
     ·rw [if_pos c7] at H
      have c7b0:decide (x6_2<(l0_3.length:Int))=true:=decide_eq_true c7
      clear c7
      by_cases c8:0≤x6_2
      ·rw [if_pos c8] at H
       have c8b0:decide (0≤x6_2)=true:=decide_eq_true c8
       clear c8
       replace H:=Option.bind_eq_some_iff.mp H
       obtain ⟨t433,A90,H⟩:=H
       replace H:(spec_CountOps.l0 k2 a1 (wrap64 (x5_2+t433)) (wrap64 (x6_2+1)) a0_0 a0_1 a0_2 l0_3)=some r:=H
       have A9:=Aside0.mk A90
       clear A90
       have H':=Aside0.mk H
       clear H
       have hcz10_0:wr.cell? ⟨gb431,0,none⟩=some (.int .i64 a0_0):=(blk_cell BK431.out 0).trans rfl
       have hcz10_1:wr.cell? ⟨gb431,1,none⟩=some (.int .i64 a0_1):=(blk_cell BK431.out 1).trans rfl
       have hcz10_2:wr.cell? ⟨gb431,2,none⟩=some (.string a0_2):=(blk_cell BK431.out 2).trans rfl
       have hcz10_3:wr.cell? ⟨gb431,3,none⟩=some (.slice A0_3 l0_3.length c0_3):=(blk_cell BK431.out 3).trans rfl
       have hfz10_0:=blk_frozen BK431.out 0
       have hfz10_1:=blk_frozen BK431.out 1
       have hfz10_2:=blk_frozen BK431.out 2
       have hfz10_3:=blk_frozen BK431.out 3
       have p432:0≤(x6_2:Int):=of_decide_eq_true (by first|(with_reducible assumption)|assumption)
       have q432:x6_2<(l0_3.length:Int):=of_decide_eq_true (by first|(with_reducible assumption)|assumption)
       obtain ⟨ad432,A432_3,c432_3,e432,hx432_0,hx432_1,hx432_2,hx432_3,hl432_3,hi432_3⟩:=at_TDoc HR0_3.out x6_2 p432 q432
       cases e432
       replace hx432_0:=(HB.out.cell (World.block_lt_of_cell? w _ hx432_0)).trans hx432_0
       replace hx432_1:=(HB.out.cell (World.block_lt_of_cell? w _ hx432_1)).trans hx432_1
       replace hx432_2:=(HB.out.cell (World.block_lt_of_cell? w _ hx432_2)).trans hx432_2
       replace hx432_3:=(HB.out.cell (World.block_lt_of_cell? w _ hx432_3)).trans hx432_3
       have HR432_3:=Aside0.mk hi432_3
       have HC432_3:=Aside0.mk hl432_3
       clear hi432_3 hl432_3
       replace p432:=eq_true p432
       replace q432:=eq_true q432
       go_wp2_with (first|((with_reducible refine gate_callee (f:=21) rfl ?_);refine goesL_ (some 25) rfl rfl Try.func21 (by kernel_rfl) rfl #[.agg #[.int .i64 ((rd_TDoc l0_3 x6_2).f0),.int .i64 ((rd_TDoc l0_3 x6_2).f1),.string ((rd_TDoc l0_3 x6_2).f2),.slice A432_3 ((rd_TDoc l0_3 x6_2).f3).length c432_3],.int .i64 a1] rfl (by (try simp only [List.map_toArray,List.map_cons,List.map_nil]);first|done|rfl|(simp only [List.length_drop,List.length_take];rfl)) ?_;(with_reducible refine (ih k2 (by have:=HJ2.out;have:=HK2.out;omega) ((rd_TDoc l0_3 x6_2).f0) ((rd_TDoc l0_3 x6_2).f1) ((rd_TDoc l0_3 x6_2).f2) _ _ ((rd_TDoc l0_3 x6_2).f3) a1 t433 _ ?side1 ?side2 A9.out).mono ?_);(case side1=>repeat (first|exact (Kd.C_below HR432_3.out HB.out)|(with_reducible refine Kd.C_alloc ?_ _)|(with_reducible refine Kd.C_drewN ?_ _)|(with_reducible refine Kd.C_drew ?_)));(case side2=>exact HC432_3.out);rintro e w11 ⟨rfl,hb⟩;refine ⟨_,rfl,?_⟩;have n0_:=Aside0.mk (blk_below (g:=gb431) (o:=.cells #[.int .i64 a0_0,.int .i64 a0_1,.string a0_2,.slice (some ad432) l0_3.length c0_3] 27 (0,0)) (by (with_reducible repeat (first|refine blk_drewN ?_ _|refine blk_drew ?_|refine blk_alloc ?_ _));exact BK431.out) hb);have n1_:=Aside0.mk (below_step (by repeat (first|(with_reducible first|exact HB.out|apply below_alloc|apply pw_below_drewN|apply below_drew1|refine below_set ?_ GE431.out)|exact HB.out)) hb);clear BK431;clear HB;have BK431:=n0_;have HB:=n1_;clear n0_ n1_;(try clear hb);(try clear hb2);(try clear hk);(try clear hi)))
       go_roundg k2
       case measure=>have:=HJ2.out;have:=HK2.out;omega
       case rel=>exact ⟨(wrap64 (x5_2+t433)),(wrap64 (x6_2+1)),(by first|rfl|(simp;done)|(simp [*];done)),(by first|rfl|(simp;done)|(simp [*];done)),H',⟨by have:=HJ2.out;have:=HK2.out;omega⟩,⟨by (with_reducible repeat (first|refine blk_drewN ?_ _|refine blk_drew ?_|refine blk_alloc ?_ _));exact BK431.out⟩,⟨by repeat (first|(with_reducible first|exact HB.out|apply below_alloc|apply pw_below_drewN|apply below_drew1|refine below_set ?_ GE431.out)|exact HB.out)⟩⟩
      ·rw [if_neg c8] at H
       exact absurd H (by simp)
     ·rw [if_neg c7] at H
      have c7b0:decide (x6_2<(l0_3.length:Int))=false:=decide_eq_false c7
      clear c7
      obtain rfl:=Option.some.inj H
      have hcz12_0:wr.cell? ⟨gb431,0,none⟩=some (.int .i64 a0_0):=(blk_cell BK431.out 0).trans rfl
      have hcz12_1:wr.cell? ⟨gb431,1,none⟩=some (.int .i64 a0_1):=(blk_cell BK431.out 1).trans rfl
      have hcz12_2:wr.cell? ⟨gb431,2,none⟩=some (.string a0_2):=(blk_cell BK431.out 2).trans rfl
      have hcz12_3:wr.cell? ⟨gb431,3,none⟩=some (.slice A0_3 l0_3.length c0_3):=(blk_cell BK431.out 3).trans rfl
      have hfz12_0:=blk_frozen BK431.out 0
      have hfz12_1:=blk_frozen BK431.out 1
      have hfz12_2:=blk_frozen BK431.out 2
      have hfz12_3:=blk_frozen BK431.out 3
      go_wp2
      go_ret
      exact ⟨by first|rfl|(simp [errW_none,errW_some] <;> rfl)|(simp [*,errW_none,errW_some] <;> rfl),by repeat (first|(with_reducible first|exact HB.out|apply below_alloc|apply pw_below_drewN|apply below_drew1|refine below_set ?_ GE431.out)|exact HB.out)⟩
end Go.Proofs.Ytdhdfmmefghijaa.P
namespace Go.Proofs.Ytdhdfmmefghijaa.P
open Go.RowKit Go.Proofs.YtdhdfmmefghijaaW.PrintWords Go.Proofs.YtdhdfmmefghijaaW.PrintLast Go.Proofs.YtdhdfmmefghijaaW.PrintMore
attribute [local go_sem] max2_int min2_int max_two min_two max_three min_three max_four min_four
set_option linter.unusedVariables false
set_option linter.unusedSimpArgs false
mutual
def impl_DocSize.l0:Nat→Int→List (SDoc)→Int→Int→Option (Int)
 | 0,_,_,_,_=>none
 | k+1,x3,x7,x8,x9=>if x9<x8 then (if 0≤x9 then (if x9<(x7.length:Int) then ((impl_DocSize.f k ((rd_TDoc x7 x9).f0) ((rd_TDoc x7 x9).f1) ((rd_TDoc x7 x9).f2) ((rd_TDoc x7 x9).f3)).bind fun t437=>(impl_DocSize.l0 k (wrap64 (x3+t437)) x7 x8 (wrap64 (x9+1)))) else (none)) else (none)) else (some x3)
def impl_DocSize.f:Nat→Int→Int→ByteArray→List (SDoc)→Option (Int)
 | 0,_,_,_,_=>none
 | k+1,a0_0,a0_1,a0_2,l0_3=>impl_DocSize.l0 k 1 l0_3 (l0_3.length:Int) 0
end
set_option maxHeartbeats 8000000 in
set_option maxRecDepth 100000 in
theorem impl_DocSize.calls (k:Nat):∀ (a0_0:Int) (a0_1:Int) (a0_2:ByteArray) (A0_3:Option Addr) (c0_3:Nat) (l0_3:List (SDoc)) (r:Int) (w:World) (hr0_3:Kd.C k27 w A0_3 l0_3.length l0_3) (hc0_3:l0_3.length≤c0_3) (h:impl_DocSize.f k a0_0 a0_1 a0_2 l0_3=some r),
  Calls Try.prog 22 #[.agg #[.int .i64 a0_0,.int .i64 a0_1,.string a0_2,.slice A0_3 l0_3.length c0_3]] w fun e w'=>e=.returned (.int .i64 r)∧Below w.heap.size w w':=by
 induction k using Nat.strongRecOn with
 | _ k ih =>
 intro a0_0 a0_1 a0_2 A0_3 c0_3 l0_3 r w hr0_3 hc0_3 h
 cases k with
 | zero=>exact absurd h (by simp [impl_DocSize.f])
 | succ k =>
 simp only [impl_DocSize.f] at h
 have hu27:=Try.underlying27
 have HR0_3:=Aside0.mk hr0_3
 have HC0_3:=Aside0.mk hc0_3
 clear hr0_3 hc0_3
 have HB:=Aside0.mk (Below.refl w.heap.size w)
 have H:(impl_DocSize.l0 k 1 l0_3 (l0_3.length:Int) 0)=some r:=h
 clear h
 have H':=Aside0.mk H
 clear H
 go_enter Try.func22,Try.ntmps22
 go_wp2_with (first|((with_reducible refine gate_dst (N:=1) rfl ?_);refine box_event ?hg (N:=1) ?hd (cs:=#[.int .i64 a0_0,.int .i64 a0_1,.string a0_2,.slice A0_3 l0_3.length c0_3]) (t:=27) ?hr ?_;(case hd=>rfl);(case hg=>rfl);(case hr=>first|(go_simp;done)|(go_simp;rfl));intro gb434 hg w2 hbox hb;have n0_:=Aside0.mk (below_step (by repeat (first|(with_reducible first|exact HB.out|apply below_alloc|apply pw_below_drewN|apply below_drew1)|exact HB.out)) hb);have n1_:=Aside0.mk (hbox);have n2_:=Aside0.mk ((by rw [hg];exact (below_size (by repeat (first|(with_reducible first|exact HB.out|apply below_alloc|apply pw_below_drewN|apply below_drew1)|exact HB.out))):w.heap.size≤gb434));have n3_:=Aside0.mk ((by rw [hg];exact (below_size (by repeat (first|(with_reducible first|exact HB.out|apply below_alloc|apply pw_below_drewN|apply below_drew1)|exact HB.out))):w.heap.size≤gb434));clear HB;have HB:=n0_;have BK434:=n1_;have GW434:=n2_;have GE434:=n3_;clear n0_ n1_ n2_ n3_;clear hb hbox hg;have hcz3_0:w2.cell? ⟨gb434,0,none⟩=some (.int .i64 a0_0):=(blk_cell BK434.out 0).trans rfl;have hcz3_1:w2.cell? ⟨gb434,1,none⟩=some (.int .i64 a0_1):=(blk_cell BK434.out 1).trans rfl;have hcz3_2:w2.cell? ⟨gb434,2,none⟩=some (.string a0_2):=(blk_cell BK434.out 2).trans rfl;have hcz3_3:w2.cell? ⟨gb434,3,none⟩=some (.slice A0_3 l0_3.length c0_3):=(blk_cell BK434.out 3).trans rfl;have hfz3_0:=blk_frozen BK434.out 0;have hfz3_1:=blk_frozen BK434.out 1;have hfz3_2:=blk_frozen BK434.out 2;have hfz3_3:=blk_frozen BK434.out 3))
 go_loopg [3,9] k (fun kq v3 v9 w'=>∃ (x3_1:Int) (x9_1:Int),v3=.int .i64 x3_1∧v9=.int .i64 x9_1∧Aside0 (impl_DocSize.l0 kq x3_1 l0_3 (l0_3.length:Int) x9_1=some r)∧Aside0 (kq≤k)∧Aside0 (w'.heap[gb434]?=some (.cells #[.int .i64 a0_0,.int .i64 a0_1,.string a0_2,(.slice A0_3 l0_3.length c0_3)] 27 (0,0)))∧Aside0 (Below w.heap.size w w'))
 case atStart=>exact ⟨(1),(0),(by first|rfl|(simp;done)|(simp [*];done)),(by first|rfl|(simp;done)|(simp [*];done)),H',⟨Nat.le_refl _⟩,⟨by (with_reducible repeat (first|refine blk_drewN ?_ _|refine blk_drew ?_|refine blk_alloc ?_ _));exact BK434.out⟩,⟨by repeat (first|(with_reducible first|exact HB.out|apply below_alloc|apply pw_below_drewN|apply below_drew1|refine below_set ?_ GE434.out)|exact HB.out)⟩⟩
 case round =>
  clear H'
  try clear c2 p2 hcz3_0 hcz3_1 hcz3_2 hcz3_3 hfz3_0 hfz3_1 hfz3_2 hfz3_3
  (try clear BK434);(try clear HB)
  obtain ⟨x3_1,x9_1,rfl,rfl,HA,HK1,BK434,HB⟩:=hrel
  cases gk with
  | zero=>exact absurd HA.out (by simp [impl_DocSize.l0])
  | succ k1 =>
   have H:=HA.out
   clear HA
   simp only [impl_DocSize.l0] at H
   by_cases c4:x9_1<(l0_3.length:Int)
   ·rw [if_pos c4] at H
    have c4b0:decide (x9_1<(l0_3.length:Int))=true:=decide_eq_true c4
    clear c4
    by_cases c5:0≤x9_1
    ·rw [if_pos c5] at H
     have c5b0:decide (0≤x9_1)=true:=decide_eq_true c5
     clear c5
     by_cases c6:x9_1<(l0_3.length:Int)
     ·rw [if_pos c6] at H
      have c6b0:decide (x9_1<(l0_3.length:Int))=true:=decide_eq_true c6
      clear c6
      replace H:=Option.bind_eq_some_iff.mp H
      obtain ⟨t437,A70,H⟩:=H
      replace H:(impl_DocSize.l0 k1 (wrap64 (x3_1+t437)) l0_3 (l0_3.length:Int) (wrap64 (x9_1+1)))=some r:=H
      have A7:=Aside0.mk A70
      clear A70
      have H':=Aside0.mk H
      clear H
      have p435:0≤(x9_1:Int):=of_decide_eq_true (by first|(with_reducible assumption)|assumption)
      have q435:x9_1<(l0_3.length:Int):=of_decide_eq_true (by first|(with_reducible assumption)|assumption)
      obtain ⟨ad435,A435_3,c435_3,e435,hx435_0,hx435_1,hx435_2,hx435_3,hl435_3,hi435_3⟩:=at_TDoc HR0_3.out x9_1 p435 q435
      cases e435
      replace hx435_0:=(HB.out.cell (World.block_lt_of_cell? w _ hx435_0)).trans hx435_0
      replace hx435_1:=(HB.out.cell (World.block_lt_of_cell? w _ hx435_1)).trans hx435_1
      replace hx435_2:=(HB.out.cell (World.block_lt_of_cell? w _ hx435_2)).trans hx435_2
      replace hx435_3:=(HB.out.cell (World.block_lt_of_cell? w _ hx435_3)).trans hx435_3
      have HR435_3:=Aside0.mk hi435_3
      have HC435_3:=Aside0.mk hl435_3
      clear hi435_3 hl435_3
      replace p435:=eq_true p435
      replace q435:=eq_true q435
      go_wp2_with (first|((with_reducible refine gate_dst (N:=5) rfl ?_);refine box_event ?hg (N:=5) ?hd (cs:=#[.int .i64 0,.int .i64 0,.string (⟨#[]⟩:ByteArray),.slice none 0 0]) (t:=27) ?hr ?_;(case hd=>rfl);(case hg=>rfl);(case hr=>first|(go_simp;done)|(go_simp;rfl));intro gb436 hg w8 hbox hb;have n0_:=Aside0.mk (blk_below (g:=gb434) (o:=.cells #[.int .i64 a0_0,.int .i64 a0_1,.string a0_2,.slice (some ad435) l0_3.length c0_3] 27 (0,0)) (by (with_reducible repeat (first|refine blk_drewN ?_ _|refine blk_drew ?_|refine blk_alloc ?_ _));exact BK434.out) hb);have n1_:=Aside0.mk (below_step (by repeat (first|(with_reducible first|exact HB.out|apply below_alloc|apply pw_below_drewN|apply below_drew1|refine below_set ?_ GE434.out)|exact HB.out)) hb);have n2_:=Aside0.mk (hbox);have n3_:=Aside0.mk ((by rw [hg];exact (below_size (by repeat (first|(with_reducible first|exact HB.out|apply below_alloc|apply pw_below_drewN|apply below_drew1|refine below_set ?_ GE434.out)|exact HB.out))):w.heap.size≤gb436));have n4_:=Aside0.mk ((by rw [hg];exact (below_size (by repeat (first|(with_reducible first|exact HB.out|apply below_alloc|apply pw_below_drewN|apply below_drew1|refine below_set ?_ GE434.out)|exact HB.out))):w.heap.size≤gb436));have n5_:=Aside0.mk ((by rw [hg];exact Nat.ne_of_lt (blk_lt (g:=gb434) (o:=.cells #[.int .i64 a0_0,.int .i64 a0_1,.string a0_2,.slice (some ad435) l0_3.length c0_3] 27 (0,0)) (by (with_reducible repeat (first|refine blk_drewN ?_ _|refine blk_drew ?_|refine blk_alloc ?_ _));exact BK434.out)):gb434≠gb436));have n6_:=Aside0.mk ((by rw [hg];exact Nat.ne_of_gt (blk_lt (g:=gb434) (o:=.cells #[.int .i64 a0_0,.int .i64 a0_1,.string a0_2,.slice (some ad435) l0_3.length c0_3] 27 (0,0)) (by (with_reducible repeat (first|refine blk_drewN ?_ _|refine blk_drew ?_|refine blk_alloc ?_ _));exact BK434.out)):gb436≠gb434));clear BK434;clear HB;have BK434:=n0_;have HB:=n1_;have BK436:=n2_;have GW436:=n3_;have GE436:=n4_;have NB434_436:=n5_;have NB436_434:=n6_;clear n0_ n1_ n2_ n3_ n4_ n5_ n6_;clear hb hbox hg;have hnb9:=NB436_434.out;have hnc9:=NB434_436.out;have hcz10_0:w8.cell? ⟨gb436,0,none⟩=some (.int .i64 0):=(blk_cell BK436.out 0).trans rfl;have hcz10_1:w8.cell? ⟨gb436,1,none⟩=some (.int .i64 0):=(blk_cell BK436.out 1).trans rfl;have hcz10_2:w8.cell? ⟨gb436,2,none⟩=some (.string (⟨#[]⟩:ByteArray)):=(blk_cell BK436.out 2).trans rfl;have hcz10_3:w8.cell? ⟨gb436,3,none⟩=some (.slice none 0 0):=(blk_cell BK436.out 3).trans rfl;have hfz10_0:=blk_frozen BK436.out 0;have hfz10_1:=blk_frozen BK436.out 1;have hfz10_2:=blk_frozen BK436.out 2;have hfz10_3:=blk_frozen BK436.out 3)|((with_reducible refine gate_callee (f:=22) rfl ?_);refine goesL_ (some 15) rfl rfl Try.func22 (by kernel_rfl) rfl #[.agg #[.int .i64 ((rd_TDoc l0_3 x9_1).f0),.int .i64 ((rd_TDoc l0_3 x9_1).f1),.string ((rd_TDoc l0_3 x9_1).f2),.slice A435_3 ((rd_TDoc l0_3 x9_1).f3).length c435_3]] rfl (by (try simp only [List.map_toArray,List.map_cons,List.map_nil]);first|done|rfl|(simp only [List.length_drop,List.length_take];rfl)) ?_;(with_reducible refine (ih k1 (by have:=HK1.out;omega) ((rd_TDoc l0_3 x9_1).f0) ((rd_TDoc l0_3 x9_1).f1) ((rd_TDoc l0_3 x9_1).f2) _ _ ((rd_TDoc l0_3 x9_1).f3) t437 _ ?side1 ?side2 A7.out).mono ?_);(case side1=>exact Kd.C_below HR435_3.out (by repeat (first|(with_reducible first|exact HB.out|apply below_alloc|apply pw_below_drewN|apply below_drew1|refine below_set ?_ GE434.out|refine below_set ?_ GE436.out)|exact HB.out)));(case side2=>exact HC435_3.out);rintro e w11 ⟨rfl,hb⟩;refine ⟨_,rfl,?_⟩;have n0_:=Aside0.mk (blk_below (g:=gb434) (o:=.cells #[.int .i64 a0_0,.int .i64 a0_1,.string a0_2,.slice (some ad435) l0_3.length c0_3] 27 (0,0)) (by (with_reducible repeat (first|refine blk_drewN ?_ _|refine blk_drew ?_|refine blk_alloc ?_ _));refine blk_far ?_ NB434_436.out _;(with_reducible repeat (first|refine blk_drewN ?_ _|refine blk_drew ?_|refine blk_alloc ?_ _));refine blk_far ?_ NB434_436.out _;(with_reducible repeat (first|refine blk_drewN ?_ _|refine blk_drew ?_|refine blk_alloc ?_ _));refine blk_far ?_ NB434_436.out _;(with_reducible repeat (first|refine blk_drewN ?_ _|refine blk_drew ?_|refine blk_alloc ?_ _));refine blk_far ?_ NB434_436.out _;(with_reducible repeat (first|refine blk_drewN ?_ _|refine blk_drew ?_|refine blk_alloc ?_ _));exact BK434.out) hb);have n1_:=Aside0.mk (blk_below (g:=gb436) (o:=.cells #[.int .i64 ((rd_TDoc l0_3 x9_1).f0),.int .i64 ((rd_TDoc l0_3 x9_1).f1),.string ((rd_TDoc l0_3 x9_1).f2),.slice A435_3 ((rd_TDoc l0_3 x9_1).f3).length c435_3] 27 (0,0)) (by (with_reducible repeat (first|refine blk_drewN ?_ _|refine blk_drew ?_|refine blk_alloc ?_ _));refine blk_put (cs:=#[.int .i64 ((rd_TDoc l0_3 x9_1).f0),.int .i64 ((rd_TDoc l0_3 x9_1).f1),.string ((rd_TDoc l0_3 x9_1).f2),.slice none 0 0]) ?_ 3 _ rfl;(with_reducible repeat (first|refine blk_drewN ?_ _|refine blk_drew ?_|refine blk_alloc ?_ _));refine blk_put (cs:=#[.int .i64 ((rd_TDoc l0_3 x9_1).f0),.int .i64 ((rd_TDoc l0_3 x9_1).f1),.string (⟨#[]⟩:ByteArray),.slice none 0 0]) ?_ 2 _ rfl;(with_reducible repeat (first|refine blk_drewN ?_ _|refine blk_drew ?_|refine blk_alloc ?_ _));refine blk_put (cs:=#[.int .i64 ((rd_TDoc l0_3 x9_1).f0),.int .i64 0,.string (⟨#[]⟩:ByteArray),.slice none 0 0]) ?_ 1 _ rfl;(with_reducible repeat (first|refine blk_drewN ?_ _|refine blk_drew ?_|refine blk_alloc ?_ _));refine blk_put (cs:=#[.int .i64 0,.int .i64 0,.string (⟨#[]⟩:ByteArray),.slice none 0 0]) ?_ 0 _ rfl;(with_reducible repeat (first|refine blk_drewN ?_ _|refine blk_drew ?_|refine blk_alloc ?_ _));exact BK436.out) hb);have n2_:=Aside0.mk (below_step (by repeat (first|(with_reducible first|exact HB.out|apply below_alloc|apply pw_below_drewN|apply below_drew1|refine below_set ?_ GE434.out|refine below_set ?_ GE436.out)|exact HB.out)) hb);clear BK434;clear BK436;clear HB;have BK434:=n0_;have BK436:=n1_;have HB:=n2_;clear n0_ n1_ n2_;(try clear hb);(try clear hb2);(try clear hk);(try clear hi)))
      go_roundg k1
      case measure=>have:=HK1.out;omega
      case rel=>exact ⟨(wrap64 (x3_1+t437)),(wrap64 (x9_1+1)),(by first|rfl|(simp;done)|(simp [*];done)),(by first|rfl|(simp;done)|(simp [*];done)),H',⟨by have:=HK1.out;omega⟩,⟨by (with_reducible repeat (first|refine blk_drewN ?_ _|refine blk_drew ?_|refine blk_alloc ?_ _));exact BK434.out⟩,⟨by repeat (first|(with_reducible first|exact HB.out|apply below_alloc|apply pw_below_drewN|apply below_drew1|refine below_set ?_ GE434.out|refine below_set ?_ GE436.out)|exact HB.out)⟩⟩
     ·rw [if_neg c6] at H
      exact absurd H (by simp)
    ·rw [if_neg c5] at H
     exact absurd H (by simp)
   ·rw [if_neg c4] at H
    have c4b0:decide (x9_1<(l0_3.length:Int))=false:=decide_eq_false c4
    clear c4
    obtain rfl:=Option.some.inj H
    go_wp2
    go_ret
    exact ⟨by first|rfl|(simp [errW_none,errW_some] <;> rfl)|(simp [*,errW_none,errW_some] <;> rfl),by repeat (first|(with_reducible first|exact HB.out|apply below_alloc|apply pw_below_drewN|apply below_drew1|refine below_set ?_ GE434.out)|exact HB.out)⟩
end Go.Proofs.Ytdhdfmmefghijaa.P
namespace Go.Proofs.Ytdhdfmmefghijaa.P
open Go.RowKit Go.Proofs.YtdhdfmmefghijaaW.PrintWords Go.Proofs.YtdhdfmmefghijaaW.PrintLast Go.Proofs.YtdhdfmmefghijaaW.PrintMore
attribute [local go_sem] max2_int min2_int max_two min_two max_three min_three max_four min_four
set_option linter.unusedVariables false
set_option linter.unusedSimpArgs false
def strings_IndexByte.f (a0:ByteArray) (a1:Int):Option (Int):=some (Lib.indexByte a0.data.toList a1.toNat.toUInt8)
theorem strings_IndexByte.calls (a0:ByteArray) (a1:Int) (r:Int) (w:World) (h:strings_IndexByte.f a0 a1=some r) :
  Calls Try.prog 47 #[.string a0,.int .u8 a1] w fun e w'=>e=.returned (.int .i64 r)∧Drawn0 w w':=by
 obtain rfl:=Option.some.inj h
 refine (Try.strings_IndexByte a0 a1 w).mono ?_
 rintro e w' ⟨rfl,rfl⟩
 exact ⟨rfl,Drawn0.refl _⟩
end Go.Proofs.Ytdhdfmmefghijaa.P
namespace Go.Proofs.Ytdhdfmmefghijaa.P
open Go.RowKit Go.Proofs.YtdhdfmmefghijaaW.PrintWords Go.Proofs.YtdhdfmmefghijaaW.PrintLast Go.Proofs.YtdhdfmmefghijaaW.PrintMore
attribute [local go_sem] max2_int min2_int max_two min_two max_three min_three max_four min_four
set_option linter.unusedVariables false
set_option linter.unusedSimpArgs false
mutual
def impl_TextValid.l0:Nat→ByteArray→Int→Option (Bool)
 | 0,_,_=>none
 | k+1,x0,x3=>if x3<(x0.size:Int) then (if 0≤x3 then (if (bt x0 x3)≥97 then (if (bt x0 x3)≤122 then (impl_TextValid.j1 k x0 x3 (!true)) else (if (bt x0 x3)≥48 then (if (bt x0 x3)≤57 then (impl_TextValid.j1 k x0 x3 (!true)) else ((strings_IndexByte.f (⟨#[44,58,61,123,125,40,41,91,93]⟩:ByteArray) (bt x0 x3)).bind fun t438=>(impl_TextValid.j1 k x0 x3 (!(decide (t438≥0)))))) else ((strings_IndexByte.f (⟨#[44,58,61,123,125,40,41,91,93]⟩:ByteArray) (bt x0 x3)).bind fun t439=>(impl_TextValid.j1 k x0 x3 (!(decide (t439≥0))))))) else (if (bt x0 x3)≥48 then (if (bt x0 x3)≤57 then (impl_TextValid.j1 k x0 x3 (!true)) else ((strings_IndexByte.f (⟨#[44,58,61,123,125,40,41,91,93]⟩:ByteArray) (bt x0 x3)).bind fun t440=>(impl_TextValid.j1 k x0 x3 (!(decide (t440≥0)))))) else ((strings_IndexByte.f (⟨#[44,58,61,123,125,40,41,91,93]⟩:ByteArray) (bt x0 x3)).bind fun t441=>(impl_TextValid.j1 k x0 x3 (!(decide (t441≥0))))))) else (none)) else (if (x0.size:Int)≥1 then (some (decide ((x0.size:Int)≤12))) else (some false))
def impl_TextValid.j1:Nat→ByteArray→Int→Bool→Option (Bool)
 | 0,_,_,_=>none
 | k+1,x0,x3,x39=>if x39=true then (some false) else (impl_TextValid.l0 k x0 (wrap64 (x3+1)))
end
def impl_TextValid.f (k:Nat) (a0:ByteArray):Option (Bool):=impl_TextValid.l0 k a0 0
set_option maxHeartbeats 8000000 in
set_option maxRecDepth 100000 in
theorem impl_TextValid.calls (k:Nat) (a0:ByteArray) (r:Bool) (w:World) (h:impl_TextValid.f k a0=some r) :
  Calls Try.prog 16 #[.string a0] w fun e w'=>e=.returned (.bool r)∧Drawn0 w w':=by
 have H:(impl_TextValid.l0 k a0 0)=some r:=h
 clear h
 have H':=Aside0.mk H
 clear H
 go_enter Try.func16,Try.ntmps16
 go_wp2
 go_loopg [3] k (fun kq v3 w'=>∃ (x3_1:Int),v3=.int .i64 x3_1∧Aside0 (impl_TextValid.l0 kq a0 x3_1=some r)∧Aside0 (kq≤k)∧Drawn0 w w')
 case atStart=>exact ⟨(0),(by first|rfl|(simp;done)|(simp [*];done)),H',⟨Nat.le_refl _⟩,by repeat (first|exact Drawn0.refl _|apply Drawn0.step)⟩
 case round =>
  clear H'
  try clear c1
  obtain ⟨x3_1,rfl,HA,HK1,⟨m1,rfl⟩⟩:=hrel
  cases gk with
  | zero=>exact absurd HA.out (by simp [impl_TextValid.l0])
  | succ k1 =>
   have H:=HA.out
   clear HA
   simp only [impl_TextValid.l0] at H
   by_cases c2:x3_1<(a0.size:Int)
   ·rw [if_pos c2] at H
    have c2b0:decide (x3_1<(a0.size:Int))=true:=decide_eq_true c2
    clear c2
    have HC3:=Aside0.mk H
    clear H
    go_upto_region 4 with (fail)
    go_cut [39] (fun v39 wc=>∃ (kq:Nat) (x39_2:Bool),v39=.bool x39_2∧Aside0 (impl_TextValid.j1 kq a0 x3_1 x39_2=some r)∧Aside0 (kq≤k1)∧Drawn0 w wc)
    case first =>
     have H:=HC3.out
     clear HC3
     by_cases c4:0≤x3_1
     ·rw [if_pos c4] at H
      have c4b0:decide (0≤x3_1)=true:=decide_eq_true c4
      clear c4
      (first|rw [c4b0]|(simp only [i64_w,i32_w];rw [c4b0])|skip)
      by_cases c6:(bt a0 x3_1)≥97
      ·rw [if_pos c6] at H
       have c6b0:decide (97≤(bt a0 x3_1))=true:=decide_eq_true c6
       clear c6
       by_cases c8:(bt a0 x3_1)≤122
       ·rw [if_pos c8] at H
        have c8b0:decide ((bt a0 x3_1)≤122)=true:=decide_eq_true c8
        clear c8
        have H':=Aside0.mk H
        clear H
        have p5:0≤(x3_1:Int):=of_decide_eq_true (by first|(with_reducible assumption)|assumption)
        have q5:x3_1<(a0.size:Int):=of_decide_eq_true (by first|(with_reducible assumption)|assumption)
        have hx5:=bt_at a0 x3_1
        replace p5:=eq_true p5
        replace q5:=eq_true q5
        have p7:0≤(x3_1:Int):=of_decide_eq_true (by first|(with_reducible assumption)|assumption)
        have q7:x3_1<(a0.size:Int):=of_decide_eq_true (by first|(with_reducible assumption)|assumption)
        have hx7:=bt_at a0 x3_1
        replace p7:=eq_true p7
        replace q7:=eq_true q7
        go_wp2
        go_meet
        case rel=>exact ⟨_,(!true),(by first|rfl|(simp;done)|(simp [*];done)),H',⟨by have:=HK1.out;first|omega|exact Nat.le_refl _⟩,by repeat (first|exact Drawn0.refl _|apply Drawn0.step)⟩
       ·rw [if_neg c8] at H
        have c8b0:decide ((bt a0 x3_1)≤122)=false:=decide_eq_false c8
        clear c8
        by_cases c10:(bt a0 x3_1)≥48
        ·rw [if_pos c10] at H
         have c10b0:decide (48≤(bt a0 x3_1))=true:=decide_eq_true c10
         clear c10
         by_cases c12:(bt a0 x3_1)≤57
         ·rw [if_pos c12] at H
          have c12b0:decide ((bt a0 x3_1)≤57)=true:=decide_eq_true c12
          clear c12
          have H':=Aside0.mk H
          clear H
          have p5:0≤(x3_1:Int):=of_decide_eq_true (by first|(with_reducible assumption)|assumption)
          have q5:x3_1<(a0.size:Int):=of_decide_eq_true (by first|(with_reducible assumption)|assumption)
          have hx5:=bt_at a0 x3_1
          replace p5:=eq_true p5
          replace q5:=eq_true q5
          have p7:0≤(x3_1:Int):=of_decide_eq_true (by first|(with_reducible assumption)|assumption)
          have q7:x3_1<(a0.size:Int):=of_decide_eq_true (by first|(with_reducible assumption)|assumption)
          have hx7:=bt_at a0 x3_1
          replace p7:=eq_true p7
          replace q7:=eq_true q7
          have p9:0≤(x3_1:Int):=of_decide_eq_true (by first|(with_reducible assumption)|assumption)
          have q9:x3_1<(a0.size:Int):=of_decide_eq_true (by first|(with_reducible assumption)|assumption)
          have hx9:=bt_at a0 x3_1
          replace p9:=eq_true p9
          replace q9:=eq_true q9
          have p11:0≤(x3_1:Int):=of_decide_eq_true (by first|(with_reducible assumption)|assumption)
          have q11:x3_1<(a0.size:Int):=of_decide_eq_true (by first|(with_reducible assumption)|assumption)
          have hx11:=bt_at a0 x3_1
          replace p11:=eq_true p11
          replace q11:=eq_true q11
          go_wp2
          go_meet
          case rel=>exact ⟨_,(!true),(by first|rfl|(simp;done)|(simp [*];done)),H',⟨by have:=HK1.out;first|omega|exact Nat.le_refl _⟩,by repeat (first|exact Drawn0.refl _|apply Drawn0.step)⟩
         ·rw [if_neg c12] at H
          have c12b0:decide ((bt a0 x3_1)≤57)=false:=decide_eq_false c12
          clear c12
          replace H:=Option.bind_eq_some_iff.mp H
          obtain ⟨t438,A140,H⟩:=H
          replace H:(impl_TextValid.j1 k1 a0 x3_1 (!(decide (t438≥0))))=some r:=H
          have A14:=Aside0.mk A140
          clear A140
          have H':=Aside0.mk H
          clear H
          have p5:0≤(x3_1:Int):=of_decide_eq_true (by first|(with_reducible assumption)|assumption)
          have q5:x3_1<(a0.size:Int):=of_decide_eq_true (by first|(with_reducible assumption)|assumption)
          have hx5:=bt_at a0 x3_1
          replace p5:=eq_true p5
          replace q5:=eq_true q5
          have p7:0≤(x3_1:Int):=of_decide_eq_true (by first|(with_reducible assumption)|assumption)
          have q7:x3_1<(a0.size:Int):=of_decide_eq_true (by first|(with_reducible assumption)|assumption)
          have hx7:=bt_at a0 x3_1
          replace p7:=eq_true p7
          replace q7:=eq_true q7
          have p9:0≤(x3_1:Int):=of_decide_eq_true (by first|(with_reducible assumption)|assumption)
          have q9:x3_1<(a0.size:Int):=of_decide_eq_true (by first|(with_reducible assumption)|assumption)
          have hx9:=bt_at a0 x3_1
          replace p9:=eq_true p9
          replace q9:=eq_true q9
          have p11:0≤(x3_1:Int):=of_decide_eq_true (by first|(with_reducible assumption)|assumption)
          have q11:x3_1<(a0.size:Int):=of_decide_eq_true (by first|(with_reducible assumption)|assumption)
          have hx11:=bt_at a0 x3_1
          replace p11:=eq_true p11
          replace q11:=eq_true q11
          have p13:0≤(x3_1:Int):=of_decide_eq_true (by first|(with_reducible assumption)|assumption)
          have q13:x3_1<(a0.size:Int):=of_decide_eq_true (by first|(with_reducible assumption)|assumption)
          have hx13:=bt_at a0 x3_1
          replace p13:=eq_true p13
          replace q13:=eq_true q13
          go_wp2_with (first|(go_at_call 47;(with_reducible refine (strings_IndexByte.calls (⟨#[44,58,61,123,125,40,41,91,93]⟩:ByteArray) (bt a0 x3_1) t438 _ A14.out).mono ?_);rintro e w' ⟨rfl,⟨nd,rfl⟩⟩))
          go_meet
          case rel=>exact ⟨_,(!(decide (t438≥0))),(by first|rfl|(simp;done)|(simp [*];done)),H',⟨by have:=HK1.out;first|omega|exact Nat.le_refl _⟩,by repeat (first|exact Drawn0.refl _|apply Drawn0.step)⟩
        ·rw [if_neg c10] at H
         have c10b0:decide (48≤(bt a0 x3_1))=false:=decide_eq_false c10
         clear c10
         replace H:=Option.bind_eq_some_iff.mp H
         obtain ⟨t439,A160,H⟩:=H
         replace H:(impl_TextValid.j1 k1 a0 x3_1 (!(decide (t439≥0))))=some r:=H
         have A16:=Aside0.mk A160
         clear A160
         have H':=Aside0.mk H
         clear H
         have p5:0≤(x3_1:Int):=of_decide_eq_true (by first|(with_reducible assumption)|assumption)
         have q5:x3_1<(a0.size:Int):=of_decide_eq_true (by first|(with_reducible assumption)|assumption)
         have hx5:=bt_at a0 x3_1
         replace p5:=eq_true p5
         replace q5:=eq_true q5
         have p7:0≤(x3_1:Int):=of_decide_eq_true (by first|(with_reducible assumption)|assumption)
         have q7:x3_1<(a0.size:Int):=of_decide_eq_true (by first|(with_reducible assumption)|assumption)
         have hx7:=bt_at a0 x3_1
         replace p7:=eq_true p7
         replace q7:=eq_true q7
         have p9:0≤(x3_1:Int):=of_decide_eq_true (by first|(with_reducible assumption)|assumption)
         have q9:x3_1<(a0.size:Int):=of_decide_eq_true (by first|(with_reducible assumption)|assumption)
         have hx9:=bt_at a0 x3_1
         replace p9:=eq_true p9
         replace q9:=eq_true q9
         have p15:0≤(x3_1:Int):=of_decide_eq_true (by first|(with_reducible assumption)|assumption)
         have q15:x3_1<(a0.size:Int):=of_decide_eq_true (by first|(with_reducible assumption)|assumption)
         have hx15:=bt_at a0 x3_1
         replace p15:=eq_true p15
         replace q15:=eq_true q15
         go_wp2_with (first|(go_at_call 47;(with_reducible refine (strings_IndexByte.calls (⟨#[44,58,61,123,125,40,41,91,93]⟩:ByteArray) (bt a0 x3_1) t439 _ A16.out).mono ?_);rintro e w' ⟨rfl,⟨nd,rfl⟩⟩))
         go_meet
         case rel=>exact ⟨_,(!(decide (t439≥0))),(by first|rfl|(simp;done)|(simp [*];done)),H',⟨by have:=HK1.out;first|omega|exact Nat.le_refl _⟩,by repeat (first|exact Drawn0.refl _|apply Drawn0.step)⟩
      ·rw [if_neg c6] at H
       have c6b0:decide (97≤(bt a0 x3_1))=false:=decide_eq_false c6
       clear c6
       by_cases c18:(bt a0 x3_1)≥48
       ·rw [if_pos c18] at H
        have c18b0:decide (48≤(bt a0 x3_1))=true:=decide_eq_true c18
        clear c18
        by_cases c20:(bt a0 x3_1)≤57
        ·rw [if_pos c20] at H
         have c20b0:decide ((bt a0 x3_1)≤57)=true:=decide_eq_true c20
         clear c20
         have H':=Aside0.mk H
         clear H
         have p5:0≤(x3_1:Int):=of_decide_eq_true (by first|(with_reducible assumption)|assumption)
         have q5:x3_1<(a0.size:Int):=of_decide_eq_true (by first|(with_reducible assumption)|assumption)
         have hx5:=bt_at a0 x3_1
         replace p5:=eq_true p5
         replace q5:=eq_true q5
         have p17:0≤(x3_1:Int):=of_decide_eq_true (by first|(with_reducible assumption)|assumption)
         have q17:x3_1<(a0.size:Int):=of_decide_eq_true (by first|(with_reducible assumption)|assumption)
         have hx17:=bt_at a0 x3_1
         replace p17:=eq_true p17
         replace q17:=eq_true q17
         have p19:0≤(x3_1:Int):=of_decide_eq_true (by first|(with_reducible assumption)|assumption)
         have q19:x3_1<(a0.size:Int):=of_decide_eq_true (by first|(with_reducible assumption)|assumption)
         have hx19:=bt_at a0 x3_1
         replace p19:=eq_true p19
         replace q19:=eq_true q19
         go_wp2
         go_meet
         case rel=>exact ⟨_,(!true),(by first|rfl|(simp;done)|(simp [*];done)),H',⟨by have:=HK1.out;first|omega|exact Nat.le_refl _⟩,by repeat (first|exact Drawn0.refl _|apply Drawn0.step)⟩
        ·rw [if_neg c20] at H
         have c20b0:decide ((bt a0 x3_1)≤57)=false:=decide_eq_false c20
         clear c20
         replace H:=Option.bind_eq_some_iff.mp H
         obtain ⟨t440,A220,H⟩:=H
         replace H:(impl_TextValid.j1 k1 a0 x3_1 (!(decide (t440≥0))))=some r:=H
         have A22:=Aside0.mk A220
         clear A220
         have H':=Aside0.mk H
         clear H
         have p5:0≤(x3_1:Int):=of_decide_eq_true (by first|(with_reducible assumption)|assumption)
         have q5:x3_1<(a0.size:Int):=of_decide_eq_true (by first|(with_reducible assumption)|assumption)
         have hx5:=bt_at a0 x3_1
         replace p5:=eq_true p5
         replace q5:=eq_true q5
         have p17:0≤(x3_1:Int):=of_decide_eq_true (by first|(with_reducible assumption)|assumption)
         have q17:x3_1<(a0.size:Int):=of_decide_eq_true (by first|(with_reducible assumption)|assumption)
         have hx17:=bt_at a0 x3_1
         replace p17:=eq_true p17
         replace q17:=eq_true q17
         have p19:0≤(x3_1:Int):=of_decide_eq_true (by first|(with_reducible assumption)|assumption)
         have q19:x3_1<(a0.size:Int):=of_decide_eq_true (by first|(with_reducible assumption)|assumption)
         have hx19:=bt_at a0 x3_1
         replace p19:=eq_true p19
         replace q19:=eq_true q19
         have p21:0≤(x3_1:Int):=of_decide_eq_true (by first|(with_reducible assumption)|assumption)
         have q21:x3_1<(a0.size:Int):=of_decide_eq_true (by first|(with_reducible assumption)|assumption)
         have hx21:=bt_at a0 x3_1
         replace p21:=eq_true p21
         replace q21:=eq_true q21
         go_wp2_with (first|(go_at_call 47;(with_reducible refine (strings_IndexByte.calls (⟨#[44,58,61,123,125,40,41,91,93]⟩:ByteArray) (bt a0 x3_1) t440 _ A22.out).mono ?_);rintro e w' ⟨rfl,⟨nd,rfl⟩⟩))
         go_meet
         case rel=>exact ⟨_,(!(decide (t440≥0))),(by first|rfl|(simp;done)|(simp [*];done)),H',⟨by have:=HK1.out;first|omega|exact Nat.le_refl _⟩,by repeat (first|exact Drawn0.refl _|apply Drawn0.step)⟩
       ·rw [if_neg c18] at H
        have c18b0:decide (48≤(bt a0 x3_1))=false:=decide_eq_false c18
        clear c18
        replace H:=Option.bind_eq_some_iff.mp H
        obtain ⟨t441,A240,H⟩:=H
        replace H:(impl_TextValid.j1 k1 a0 x3_1 (!(decide (t441≥0))))=some r:=H
        have A24:=Aside0.mk A240
        clear A240
        have H':=Aside0.mk H
        clear H
        have p5:0≤(x3_1:Int):=of_decide_eq_true (by first|(with_reducible assumption)|assumption)
        have q5:x3_1<(a0.size:Int):=of_decide_eq_true (by first|(with_reducible assumption)|assumption)
        have hx5:=bt_at a0 x3_1
        replace p5:=eq_true p5
        replace q5:=eq_true q5
        have p17:0≤(x3_1:Int):=of_decide_eq_true (by first|(with_reducible assumption)|assumption)
        have q17:x3_1<(a0.size:Int):=of_decide_eq_true (by first|(with_reducible assumption)|assumption)
        have hx17:=bt_at a0 x3_1
        replace p17:=eq_true p17
        replace q17:=eq_true q17
        have p23:0≤(x3_1:Int):=of_decide_eq_true (by first|(with_reducible assumption)|assumption)
        have q23:x3_1<(a0.size:Int):=of_decide_eq_true (by first|(with_reducible assumption)|assumption)
        have hx23:=bt_at a0 x3_1
        replace p23:=eq_true p23
        replace q23:=eq_true q23
        go_wp2_with (first|(go_at_call 47;(with_reducible refine (strings_IndexByte.calls (⟨#[44,58,61,123,125,40,41,91,93]⟩:ByteArray) (bt a0 x3_1) t441 _ A24.out).mono ?_);rintro e w' ⟨rfl,⟨nd,rfl⟩⟩))
        go_meet
        case rel=>exact ⟨_,(!(decide (t441≥0))),(by first|rfl|(simp;done)|(simp [*];done)),H',⟨by have:=HK1.out;first|omega|exact Nat.le_refl _⟩,by repeat (first|exact Drawn0.refl _|apply Drawn0.step)⟩
     ·rw [if_neg c4] at H
      exact absurd H (by simp)
    case rest =>
     clear HC3
     try clear c1 p1 q1 hx1 c2 c2b0 p2 q2 hx2 c4 c4b0 p5 q5 hx5 c6 c6b0 p7 q7 hx7 c8 c8b0 p9 q9 hx9 c10 c10b0 p11 q11 hx11 c12 c12b0 p13 q13 hx13 p15 q15 hx15 c16 p17 q17 hx17 c18 c18b0 p19 q19 hx19 c20 c20b0 p21 q21 hx21 p23 q23 hx23 p11 p13 p15 p17 p19 p21 p23 p5 p7 p9 q11 q13 q15 q17 q19 q21 q23 q5 q7 q9
     obtain ⟨kq,x39_2,rfl,HA,HJ2,⟨mc2,rfl⟩⟩:=hcut
     cases kq with
     | zero=>exact absurd HA.out (by simp [impl_TextValid.j1])
     | succ kj2 =>
      have H:=HA.out
      clear HA
      simp only [impl_TextValid.j1] at H
      by_cases c25:x39_2=true
      ·subst c25
       have H1:(some false)=some r:=by rw [if_pos rfl] at H;exact H
       clear H
       have H:=H1
       clear H1
       obtain rfl:=Option.some.inj H
       go_wp2
       go_ret
       exact ⟨by first|rfl|(simp;done)|(simp [*];done),by repeat (first|exact Drawn0.refl _|apply Drawn0.step)⟩
      ·replace c25:=Bool.eq_false_iff.mpr c25
       subst c25
       have H1:(impl_TextValid.l0 kj2 a0 (wrap64 (x3_1+1)))=some r:=by rw [if_neg (show ¬ (false=true) by decide)] at H;exact H
       clear H
       have H:=H1
       clear H1
       have H':=Aside0.mk H
       clear H
       go_wp2
       go_roundg kj2
       case measure=>have:=HK1.out;have:=HJ2.out;omega
       case rel=>exact ⟨(wrap64 (x3_1+1)),(by first|rfl|(simp;done)|(simp [*];done)),H',⟨by have:=HK1.out;have:=HJ2.out;omega⟩,by repeat (first|exact Drawn0.refl _|apply Drawn0.step)⟩
   ·rw [if_neg c2] at H
    have c2b0:decide (x3_1<(a0.size:Int))=false:=decide_eq_false c2
    clear c2
    by_cases c26:(a0.size:Int)≥1
    ·rw [if_pos c26] at H
     have c26b0:decide (1≤(a0.size:Int))=true:=decide_eq_true c26
     have c26b1:decide (1≤a0.size)=true:=decide_eq_true (by omega)
     clear c26
     obtain rfl:=Option.some.inj H
     go_wp2
     go_ret
     exact ⟨by first|rfl|(simp;done)|(simp [*];done),by repeat (first|exact Drawn0.refl _|apply Drawn0.step)⟩
    ·rw [if_neg c26] at H
     have c26b0:decide (1≤(a0.size:Int))=false:=decide_eq_false c26
     have c26b1:decide (1≤a0.size)=false:=decide_eq_false (by omega)
     clear c26
     obtain rfl:=Option.some.inj H
     go_wp2
     go_ret
     exact ⟨by first|rfl|(simp;done)|(simp [*];done),by repeat (first|exact Drawn0.refl _|apply Drawn0.step)⟩
end Go.Proofs.Ytdhdfmmefghijaa.P
namespace Go.Proofs.Ytdhdfmmefghijaa.P
open Go.RowKit Go.Proofs.YtdhdfmmefghijaaW.PrintWords Go.Proofs.YtdhdfmmefghijaaW.PrintLast Go.Proofs.YtdhdfmmefghijaaW.PrintMore
attribute [local go_sem] max2_int min2_int max_two min_two max_three min_three max_four min_four
set_option linter.unusedVariables false
set_option linter.unusedSimpArgs false
def docKids (o:Int):Int:=if o=7 then 2 else if o=6 then 1 else if o=8 then 1 else 0
theorem docKids_cell {w:World} {ga:Nat} (h:w.heap[ga]?=some (.cells #[.int .i64 0,.int .i64 0,.int .i64 0,.int .i64 0,.int .i64 0,.int .i64 0,.int .i64 1,.int .i64 2,.int .i64 1] 75 (0,0))) (o:Int) (h0:0≤o) (h9:o<9):w.cell? ⟨ga,o.toNat,none⟩=some (.int .i64 (docKids o)):=by
 rw [blk_cell h]
 have:o=0∨o=1∨o=2∨o=3∨o=4∨o=5∨o=6∨o=7∨o=8:=by omega
 rcases this with rfl|rfl|rfl|rfl|rfl|rfl|rfl|rfl|rfl <;> rfl
mutual
def impl_docOk.l0:Nat→List (SDoc)→Int→Int→Int→Option (Bool×Int)
 | 0,_,_,_,_=>none
 | k+1,ks,i,deep,left=>if i<(ks.length:Int) then (if 0≤i then ((impl_docOk.f k ((rd_TDoc ks i).f0) ((rd_TDoc ks i).f1) ((rd_TDoc ks i).f2) ((rd_TDoc ks i).f3) (wrap64 (deep - 1)) left).bind fun b=>(if b.1=true then (impl_docOk.l0 k ks (wrap64 (i+1)) deep b.2) else (some (false,b.2)))) else (none)) else (some (true,left))
def impl_docOk.f:Nat→Int→Int→ByteArray→List (SDoc)→Int→Int→Option (Bool×Int)
 | 0,_,_,_,_,_,_=>none
 | k+1,o,n,t,ks,deep,left=>if deep=0∨(wrap64 (left - 1))<0∨o<1∨8<o then (some (false,(wrap64 (left - 1)))) else (if ¬ ((ks.length:Int)=docKids o)∨n<0∨9<n∨(0<n∧¬ (o=6)) then (some (false,(wrap64 (left - 1)))) else (if o=2 then ((impl_TextValid.f k t).bind fun b=>(if b=true then (impl_docOk.l0 k ks 0 deep (wrap64 (left - 1))) else (some (false,(wrap64 (left - 1)))))) else (if t.toList=[] then (impl_docOk.l0 k ks 0 deep (wrap64 (left - 1))) else (some (false,(wrap64 (left - 1)))))))
end
set_option maxHeartbeats 8000000 in
set_option maxRecDepth 100000 in
theorem impl_docOk.failA (o n:Int) (t:ByteArray) (A:Option Addr) (c:Nat) (ks:List (SDoc)) (deep left:Int) (w0 w:World) (g:Nat)
  (hr:Kd.C k27 w0 A ks.length ks) (hc:ks.length≤c) (hB:Below w0.heap.size w0 w) (hg:w0.heap.size≤g) (hb:w.heap[g]?=some (.cells #[.int .i64 left] 3 (0,0)))
  (hA:(deep == 0)=true∨((deep == 0)=false∧decide ((wrap64 (left - 1))<0)=true)∨((deep == 0)=false∧decide ((wrap64 (left - 1))<0)=false∧decide (o<1)=true)∨((deep == 0)=false∧decide ((wrap64 (left - 1))<0)=false∧decide (o<1)=false∧decide (8<o)=true)) :
  Calls Try.prog 52 #[.agg #[.int .i64 o,.int .i64 n,.string t,.slice A ks.length c],.int .i64 deep,.pointer (some ⟨g,0,none⟩)] w fun e w'=>e=.returned (.bool false)∧Below w0.heap.size w0 w'∧w'.heap[g]?=some (.cells #[.int .i64 (wrap64 (left - 1))] 3 (0,0)):=by
 rcases hA with h1 | ⟨h1,h2⟩ | ⟨h1,h2,h3⟩ | ⟨h1,h2,h3,h4⟩
 all_goals
  have hu29:=Try.underlying27
  have hu3:=Try.underlying3
  have HB:=Aside0.mk hB
  have HG:=Aside0.mk hg
  have BK:=Aside0.mk hb
  clear hB hg hb
  go_enter Try.func52,Try.ntmps52
  go_wp2_with (first|((with_reducible refine gate_dst (N:=3) rfl ?_);refine box_event ?hg (N:=3) ?hd (cs:=#[.int .i64 o,.int .i64 n,.string t,.slice A ks.length c]) (t:=27) ?hr ?_;(case hd=>rfl);(case hg=>rfl);(case hr=>first|(go_simp;done)|(go_simp;rfl));intro gb hgb w2 hbox hb2;have n0_:=Aside0.mk (below_step HB.out hb2);have n1_:=Aside0.mk (blk_below BK.out hb2);have n2_:=Aside0.mk hbox;have NE:=Aside0.mk (by rw [hgb];exact Nat.ne_of_lt (blk_lt BK.out):g≠gb);clear HB BK;have HB:=n0_;have BK:=n1_;have BD:=n2_;clear n0_ n1_ n2_ hb2 hbox hgb;have hcg:w2.cell? ⟨g,0,none⟩=some (.int .i64 left):=(blk_cell BK.out 0).trans rfl;have hfg:=blk_frozen BK.out 0)|((with_reducible refine gate_store (t:=3) (p:=14) rfl ?_);refine store_event (t:=3) (p:=14) (v:=?vo_w13) (w1:=w2.setCell ⟨g,0,none⟩ (.int .i64 (wrap64 (left - 1)))) ?hg ?ho ?hn ?hr ?_;(case ho=>rfl);(case hg=>rfl);(case hn=>rfl);(case hr=>first|(go_simp;done)|(go_simp;rfl));intro w3 hw;have n0_:=Aside0.mk (by rw [hw];exact below_set HB.out HG.out:Below w0.heap.size w0 w3);have n1_:Aside0 (w3.heap[g]?=some (.cells #[.int .i64 (wrap64 (left - 1))] 3 (0,0))):=Aside0.mk (by rw [hw];exact blk_set BK.out 0 _);have n2_:Aside0 (w3.heap[gb]?=some (.cells #[.int .i64 o,.int .i64 n,.string t,.slice A ks.length c] 27 (0,0))):=Aside0.mk (by rw [hw];exact blk_far BD.out NE.out.symm _);clear HB BK BD hcg hfg hw;have HB:=n0_;have BK:=n1_;have BD:=n2_;clear n0_ n1_ n2_;have hcg:w3.cell? ⟨g,0,none⟩=some (.int .i64 (wrap64 (left - 1))):=(blk_cell BK.out 0).trans rfl;have hd0:w3.cell? ⟨gb,0,none⟩=some (.int .i64 o):=(blk_cell BD.out 0).trans rfl;have hd1:w3.cell? ⟨gb,1,none⟩=some (.int .i64 n):=(blk_cell BD.out 1).trans rfl;have hd2:w3.cell? ⟨gb,2,none⟩=some (.string t):=(blk_cell BD.out 2).trans rfl;have hd3:w3.cell? ⟨gb,3,none⟩=some (.slice A ks.length c):=(blk_cell BD.out 3).trans rfl))
  go_ret
  exact ⟨rfl,by repeat (first|(with_reducible first|exact HB.out|apply below_alloc|apply pw_below_drewN|apply below_drew1)|exact HB.out),by (with_reducible repeat (first|refine blk_drewN ?_ _|refine blk_drew ?_|refine blk_alloc ?_ _));exact BK.out⟩
set_option maxHeartbeats 8000000 in
set_option maxRecDepth 100000 in
theorem impl_docOk.failB (o n:Int) (t:ByteArray) (A:Option Addr) (c:Nat) (ks:List (SDoc)) (deep left:Int) (w0 w:World) (g:Nat)
  (hr:Kd.C k27 w0 A ks.length ks) (hc:ks.length≤c) (hB:Below w0.heap.size w0 w) (hg:w0.heap.size≤g) (hb:w.heap[g]?=some (.cells #[.int .i64 left] 3 (0,0)))
  (h1:(deep == 0)=false) (h2:decide ((wrap64 (left - 1))<0)=false) (h3:decide (o<1)=false) (h4:decide (8<o)=false)
  (hA:((ks.length:Int) != docKids o)=true∨(((ks.length:Int) != docKids o)=false∧decide (n<0)=true)∨(((ks.length:Int) != docKids o)=false∧decide (n<0)=false∧decide (9<n)=true)∨(((ks.length:Int) != docKids o)=false∧decide (n<0)=false∧decide (9<n)=false∧decide (0<n)=true∧(o != 6)=true)) :
  Calls Try.prog 52 #[.agg #[.int .i64 o,.int .i64 n,.string t,.slice A ks.length c],.int .i64 deep,.pointer (some ⟨g,0,none⟩)] w fun e w'=>e=.returned (.bool false)∧Below w0.heap.size w0 w'∧w'.heap[g]?=some (.cells #[.int .i64 (wrap64 (left - 1))] 3 (0,0)):=by
 have O0:=Aside0.mk (show 0≤o by have:=of_decide_eq_false h3;omega)
 have O9:=Aside0.mk (show o<9 by have:=of_decide_eq_false h4;omega)
 rcases hA with h5 | ⟨h5,h6⟩ | ⟨h5,h6,h7⟩ | ⟨h5,h6,h7,h8,h9⟩
 all_goals
  have hu29:=Try.underlying27
  have hu3:=Try.underlying3
  have HB:=Aside0.mk hB
  have HG:=Aside0.mk hg
  have BK:=Aside0.mk hb
  clear hB hg hb
  go_enter Try.func52,Try.ntmps52
  go_wp2_with (first|((with_reducible refine gate_dst (N:=3) rfl ?_);refine box_event ?hg (N:=3) ?hd (cs:=#[.int .i64 o,.int .i64 n,.string t,.slice A ks.length c]) (t:=27) ?hr ?_;(case hd=>rfl);(case hg=>rfl);(case hr=>first|(go_simp;done)|(go_simp;rfl));intro gb hgb w2 hbox hb2;have n0_:=Aside0.mk (below_step HB.out hb2);have n1_:=Aside0.mk (blk_below BK.out hb2);have n2_:=Aside0.mk hbox;have NE:=Aside0.mk (by rw [hgb];exact Nat.ne_of_lt (blk_lt BK.out):g≠gb);clear HB BK;have HB:=n0_;have BK:=n1_;have BD:=n2_;clear n0_ n1_ n2_ hb2 hbox hgb;have hcg:w2.cell? ⟨g,0,none⟩=some (.int .i64 left):=(blk_cell BK.out 0).trans rfl;have hfg:=blk_frozen BK.out 0)|((with_reducible refine gate_store (t:=3) (p:=14) rfl ?_);refine store_event (t:=3) (p:=14) (v:=?vo_w13) (w1:=w2.setCell ⟨g,0,none⟩ (.int .i64 (wrap64 (left - 1)))) ?hg ?ho ?hn ?hr ?_;(case ho=>rfl);(case hg=>rfl);(case hn=>rfl);(case hr=>first|(go_simp;done)|(go_simp;rfl));intro w3 hw;have n0_:=Aside0.mk (by rw [hw];exact below_set HB.out HG.out:Below w0.heap.size w0 w3);have n1_:Aside0 (w3.heap[g]?=some (.cells #[.int .i64 (wrap64 (left - 1))] 3 (0,0))):=Aside0.mk (by rw [hw];exact blk_set BK.out 0 _);have n2_:Aside0 (w3.heap[gb]?=some (.cells #[.int .i64 o,.int .i64 n,.string t,.slice A ks.length c] 27 (0,0))):=Aside0.mk (by rw [hw];exact blk_far BD.out NE.out.symm _);clear HB BK BD hcg hfg hw;have HB:=n0_;have BK:=n1_;have BD:=n2_;clear n0_ n1_ n2_;have hcg:w3.cell? ⟨g,0,none⟩=some (.int .i64 (wrap64 (left - 1))):=(blk_cell BK.out 0).trans rfl;have hd0:w3.cell? ⟨gb,0,none⟩=some (.int .i64 o):=(blk_cell BD.out 0).trans rfl;have hd1:w3.cell? ⟨gb,1,none⟩=some (.int .i64 n):=(blk_cell BD.out 1).trans rfl;have hd2:w3.cell? ⟨gb,2,none⟩=some (.string t):=(blk_cell BD.out 2).trans rfl;have hd3:w3.cell? ⟨gb,3,none⟩=some (.slice A ks.length c):=(blk_cell BD.out 3).trans rfl))
  obtain ⟨w4,hw4⟩:∃ W:World,W=w3.alloc (.cells #[.int .i64 0,.int .i64 0,.int .i64 0,.int .i64 0,.int .i64 0,.int .i64 0,.int .i64 1,.int .i64 2,.int .i64 1] 75):=⟨_,rfl⟩
  obtain ⟨ga,hga⟩:∃ ga:Nat,ga=w3.heap.size:=⟨_,rfl⟩
  rw [← hw4,← hga]
  have BA:=Aside0.mk (by rw [hw4,hga];exact blk_new _ _:w4.heap[ga]?=some (.cells #[.int .i64 0,.int .i64 0,.int .i64 0,.int .i64 0,.int .i64 0,.int .i64 0,.int .i64 1,.int .i64 2,.int .i64 1] 75 (0,0)))
  have hb4:Below w3.heap.size w3 w4:=by rw [hw4];exact below_alloc (Below.refl _ _) _
  have n0_:=Aside0.mk (below_step HB.out hb4)
  have n1_:=Aside0.mk (blk_below BK.out hb4)
  have n2_:=Aside0.mk (blk_below BD.out hb4)
  clear HB BK BD hcg hd0 hd1 hd2 hd3 hb4 hw4 hga
  have HB:=n0_
  have BK:=n1_
  have BD:=n2_
  clear n0_ n1_ n2_
  have hk:w4.cell? ⟨ga,o.toNat,none⟩=some (.int .i64 (docKids o)):=docKids_cell BA.out o O0.out O9.out
  have hd0:w4.cell? ⟨gb,0,none⟩=some (.int .i64 o):=(blk_cell BD.out 0).trans rfl;have hd1:w4.cell? ⟨gb,1,none⟩=some (.int .i64 n):=(blk_cell BD.out 1).trans rfl;have hd2:w4.cell? ⟨gb,2,none⟩=some (.string t):=(blk_cell BD.out 2).trans rfl;have hd3:w4.cell? ⟨gb,3,none⟩=some (.slice A ks.length c):=(blk_cell BD.out 3).trans rfl
  have o0:=eq_true O0.out
  have o9:=eq_true O9.out
  go_quiet (fail)
  go_wp2
  go_ret
  exact ⟨rfl,by repeat (first|(with_reducible first|exact HB.out|apply below_alloc|apply pw_below_drewN|apply below_drew1)|exact HB.out),by (with_reducible repeat (first|refine blk_drewN ?_ _|refine blk_drew ?_|refine blk_alloc ?_ _));exact BK.out⟩
set_option maxHeartbeats 8000000 in
set_option maxRecDepth 100000 in
theorem impl_docOk.failC (o n:Int) (t:ByteArray) (A:Option Addr) (c:Nat) (ks:List (SDoc)) (deep left:Int) (w0 w:World) (g:Nat)
  (hr:Kd.C k27 w0 A ks.length ks) (hc:ks.length≤c) (hB:Below w0.heap.size w0 w) (hg:w0.heap.size≤g) (hb:w.heap[g]?=some (.cells #[.int .i64 left] 3 (0,0)))
  (h1:(deep == 0)=false) (h2:decide ((wrap64 (left - 1))<0)=false) (h3:decide (o<1)=false) (h4:decide (8<o)=false) (h5:((ks.length:Int) != docKids o)=false) (h6:decide (n<0)=false) (h7:decide (9<n)=false)
  (hA:(decide (0<n)=false∧((o == 2)=false∧(o != 2)=true)∧((t.toList == ([]:List UInt8))=false∧(t.toList != ([]:List UInt8))=true∧t.toList.isEmpty=false))∨(decide (0<n)=true∧(o != 6)=false∧((o == 2)=false∧(o != 2)=true)∧((t.toList == ([]:List UInt8))=false∧(t.toList != ([]:List UInt8))=true∧t.toList.isEmpty=false))) :
  Calls Try.prog 52 #[.agg #[.int .i64 o,.int .i64 n,.string t,.slice A ks.length c],.int .i64 deep,.pointer (some ⟨g,0,none⟩)] w fun e w'=>e=.returned (.bool false)∧Below w0.heap.size w0 w'∧w'.heap[g]?=some (.cells #[.int .i64 (wrap64 (left - 1))] 3 (0,0)):=by
 have O0:=Aside0.mk (show 0≤o by have:=of_decide_eq_false h3;omega)
 have O9:=Aside0.mk (show o<9 by have:=of_decide_eq_false h4;omega)
 rcases hA with ⟨h8,⟨h10,h11⟩,h12,h13,h14⟩ | ⟨h8,h9,⟨h10,h11⟩,h12,h13,h14⟩
 all_goals
  have hu29:=Try.underlying27
  have hu3:=Try.underlying3
  have HB:=Aside0.mk hB
  have HG:=Aside0.mk hg
  have BK:=Aside0.mk hb
  clear hB hg hb
  go_enter Try.func52,Try.ntmps52
  go_wp2_with (first|((with_reducible refine gate_dst (N:=3) rfl ?_);refine box_event ?hg (N:=3) ?hd (cs:=#[.int .i64 o,.int .i64 n,.string t,.slice A ks.length c]) (t:=27) ?hr ?_;(case hd=>rfl);(case hg=>rfl);(case hr=>first|(go_simp;done)|(go_simp;rfl));intro gb hgb w2 hbox hb2;have n0_:=Aside0.mk (below_step HB.out hb2);have n1_:=Aside0.mk (blk_below BK.out hb2);have n2_:=Aside0.mk hbox;have NE:=Aside0.mk (by rw [hgb];exact Nat.ne_of_lt (blk_lt BK.out):g≠gb);clear HB BK;have HB:=n0_;have BK:=n1_;have BD:=n2_;clear n0_ n1_ n2_ hb2 hbox hgb;have hcg:w2.cell? ⟨g,0,none⟩=some (.int .i64 left):=(blk_cell BK.out 0).trans rfl;have hfg:=blk_frozen BK.out 0)|((with_reducible refine gate_store (t:=3) (p:=14) rfl ?_);refine store_event (t:=3) (p:=14) (v:=?vo_w13) (w1:=w2.setCell ⟨g,0,none⟩ (.int .i64 (wrap64 (left - 1)))) ?hg ?ho ?hn ?hr ?_;(case ho=>rfl);(case hg=>rfl);(case hn=>rfl);(case hr=>first|(go_simp;done)|(go_simp;rfl));intro w3 hw;have n0_:=Aside0.mk (by rw [hw];exact below_set HB.out HG.out:Below w0.heap.size w0 w3);have n1_:Aside0 (w3.heap[g]?=some (.cells #[.int .i64 (wrap64 (left - 1))] 3 (0,0))):=Aside0.mk (by rw [hw];exact blk_set BK.out 0 _);have n2_:Aside0 (w3.heap[gb]?=some (.cells #[.int .i64 o,.int .i64 n,.string t,.slice A ks.length c] 27 (0,0))):=Aside0.mk (by rw [hw];exact blk_far BD.out NE.out.symm _);clear HB BK BD hcg hfg hw;have HB:=n0_;have BK:=n1_;have BD:=n2_;clear n0_ n1_ n2_;have hcg:w3.cell? ⟨g,0,none⟩=some (.int .i64 (wrap64 (left - 1))):=(blk_cell BK.out 0).trans rfl;have hd0:w3.cell? ⟨gb,0,none⟩=some (.int .i64 o):=(blk_cell BD.out 0).trans rfl;have hd1:w3.cell? ⟨gb,1,none⟩=some (.int .i64 n):=(blk_cell BD.out 1).trans rfl;have hd2:w3.cell? ⟨gb,2,none⟩=some (.string t):=(blk_cell BD.out 2).trans rfl;have hd3:w3.cell? ⟨gb,3,none⟩=some (.slice A ks.length c):=(blk_cell BD.out 3).trans rfl))
  obtain ⟨w4,hw4⟩:∃ W:World,W=w3.alloc (.cells #[.int .i64 0,.int .i64 0,.int .i64 0,.int .i64 0,.int .i64 0,.int .i64 0,.int .i64 1,.int .i64 2,.int .i64 1] 75):=⟨_,rfl⟩
  obtain ⟨ga,hga⟩:∃ ga:Nat,ga=w3.heap.size:=⟨_,rfl⟩
  rw [← hw4,← hga]
  have BA:=Aside0.mk (by rw [hw4,hga];exact blk_new _ _:w4.heap[ga]?=some (.cells #[.int .i64 0,.int .i64 0,.int .i64 0,.int .i64 0,.int .i64 0,.int .i64 0,.int .i64 1,.int .i64 2,.int .i64 1] 75 (0,0)))
  have hb4:Below w3.heap.size w3 w4:=by rw [hw4];exact below_alloc (Below.refl _ _) _
  have n0_:=Aside0.mk (below_step HB.out hb4)
  have n1_:=Aside0.mk (blk_below BK.out hb4)
  have n2_:=Aside0.mk (blk_below BD.out hb4)
  clear HB BK BD hcg hd0 hd1 hd2 hd3 hb4 hw4 hga
  have HB:=n0_
  have BK:=n1_
  have BD:=n2_
  clear n0_ n1_ n2_
  have hk:w4.cell? ⟨ga,o.toNat,none⟩=some (.int .i64 (docKids o)):=docKids_cell BA.out o O0.out O9.out
  have hd0:w4.cell? ⟨gb,0,none⟩=some (.int .i64 o):=(blk_cell BD.out 0).trans rfl;have hd1:w4.cell? ⟨gb,1,none⟩=some (.int .i64 n):=(blk_cell BD.out 1).trans rfl;have hd2:w4.cell? ⟨gb,2,none⟩=some (.string t):=(blk_cell BD.out 2).trans rfl;have hd3:w4.cell? ⟨gb,3,none⟩=some (.slice A ks.length c):=(blk_cell BD.out 3).trans rfl
  have o0:=eq_true O0.out
  have o9:=eq_true O9.out
  go_quiet (fail)
  go_wp2
  go_ret
  exact ⟨rfl,by repeat (first|(with_reducible first|exact HB.out|apply below_alloc|apply pw_below_drewN|apply below_drew1)|exact HB.out),by (with_reducible repeat (first|refine blk_drewN ?_ _|refine blk_drew ?_|refine blk_alloc ?_ _));exact BK.out⟩
set_option maxHeartbeats 8000000 in
set_option maxRecDepth 100000 in
theorem impl_docOk.failT (o n:Int) (t:ByteArray) (A:Option Addr) (c:Nat) (ks:List (SDoc)) (deep left:Int) (w0 w:World) (g:Nat)
  (hr:Kd.C k27 w0 A ks.length ks) (hc:ks.length≤c) (hB:Below w0.heap.size w0 w) (hg:w0.heap.size≤g) (hb:w.heap[g]?=some (.cells #[.int .i64 left] 3 (0,0)))
  (h1:(deep == 0)=false) (h2:decide ((wrap64 (left - 1))<0)=false) (h3:decide (o<1)=false) (h4:decide (8<o)=false) (h5:((ks.length:Int) != docKids o)=false) (h6:decide (n<0)=false) (h7:decide (9<n)=false) (h8:decide (0<n)=false) (h10:(o == 2)=true) (h11:(o != 2)=false) (kt:Nat) (hT:impl_TextValid.f kt t=some false) :
  Calls Try.prog 52 #[.agg #[.int .i64 o,.int .i64 n,.string t,.slice A ks.length c],.int .i64 deep,.pointer (some ⟨g,0,none⟩)] w fun e w'=>e=.returned (.bool false)∧Below w0.heap.size w0 w'∧w'.heap[g]?=some (.cells #[.int .i64 (wrap64 (left - 1))] 3 (0,0)):=by
 have O0:=Aside0.mk (show 0≤o by have:=of_decide_eq_false h3;omega)
 have O9:=Aside0.mk (show o<9 by have:=of_decide_eq_false h4;omega)
 have HT:=Aside0.mk hT
 clear hT
 have hu29:=Try.underlying27
 have hu3:=Try.underlying3
 have HB:=Aside0.mk hB
 have HG:=Aside0.mk hg
 have BK:=Aside0.mk hb
 clear hB hg hb
 go_enter Try.func52,Try.ntmps52
 go_wp2_with (first|((with_reducible refine gate_dst (N:=3) rfl ?_);refine box_event ?hg (N:=3) ?hd (cs:=#[.int .i64 o,.int .i64 n,.string t,.slice A ks.length c]) (t:=27) ?hr ?_;(case hd=>rfl);(case hg=>rfl);(case hr=>first|(go_simp;done)|(go_simp;rfl));intro gb hgb w2 hbox hb2;have n0_:=Aside0.mk (below_step HB.out hb2);have n1_:=Aside0.mk (blk_below BK.out hb2);have n2_:=Aside0.mk hbox;have NE:=Aside0.mk (by rw [hgb];exact Nat.ne_of_lt (blk_lt BK.out):g≠gb);clear HB BK;have HB:=n0_;have BK:=n1_;have BD:=n2_;clear n0_ n1_ n2_ hb2 hbox hgb;have hcg:w2.cell? ⟨g,0,none⟩=some (.int .i64 left):=(blk_cell BK.out 0).trans rfl;have hfg:=blk_frozen BK.out 0)|((with_reducible refine gate_store (t:=3) (p:=14) rfl ?_);refine store_event (t:=3) (p:=14) (v:=?vo_w13) (w1:=w2.setCell ⟨g,0,none⟩ (.int .i64 (wrap64 (left - 1)))) ?hg ?ho ?hn ?hr ?_;(case ho=>rfl);(case hg=>rfl);(case hn=>rfl);(case hr=>first|(go_simp;done)|(go_simp;rfl));intro w3 hw;have n0_:=Aside0.mk (by rw [hw];exact below_set HB.out HG.out:Below w0.heap.size w0 w3);have n1_:Aside0 (w3.heap[g]?=some (.cells #[.int .i64 (wrap64 (left - 1))] 3 (0,0))):=Aside0.mk (by rw [hw];exact blk_set BK.out 0 _);have n2_:Aside0 (w3.heap[gb]?=some (.cells #[.int .i64 o,.int .i64 n,.string t,.slice A ks.length c] 27 (0,0))):=Aside0.mk (by rw [hw];exact blk_far BD.out NE.out.symm _);clear HB BK BD hcg hfg hw;have HB:=n0_;have BK:=n1_;have BD:=n2_;clear n0_ n1_ n2_;have hcg:w3.cell? ⟨g,0,none⟩=some (.int .i64 (wrap64 (left - 1))):=(blk_cell BK.out 0).trans rfl;have hd0:w3.cell? ⟨gb,0,none⟩=some (.int .i64 o):=(blk_cell BD.out 0).trans rfl;have hd1:w3.cell? ⟨gb,1,none⟩=some (.int .i64 n):=(blk_cell BD.out 1).trans rfl;have hd2:w3.cell? ⟨gb,2,none⟩=some (.string t):=(blk_cell BD.out 2).trans rfl;have hd3:w3.cell? ⟨gb,3,none⟩=some (.slice A ks.length c):=(blk_cell BD.out 3).trans rfl))
 obtain ⟨w4,hw4⟩:∃ W:World,W=w3.alloc (.cells #[.int .i64 0,.int .i64 0,.int .i64 0,.int .i64 0,.int .i64 0,.int .i64 0,.int .i64 1,.int .i64 2,.int .i64 1] 75):=⟨_,rfl⟩
 obtain ⟨ga,hga⟩:∃ ga:Nat,ga=w3.heap.size:=⟨_,rfl⟩
 rw [← hw4,← hga]
 have BA:=Aside0.mk (by rw [hw4,hga];exact blk_new _ _:w4.heap[ga]?=some (.cells #[.int .i64 0,.int .i64 0,.int .i64 0,.int .i64 0,.int .i64 0,.int .i64 0,.int .i64 1,.int .i64 2,.int .i64 1] 75 (0,0)))
 have hb4:Below w3.heap.size w3 w4:=by rw [hw4];exact below_alloc (Below.refl _ _) _
 have n0_:=Aside0.mk (below_step HB.out hb4)
 have n1_:=Aside0.mk (blk_below BK.out hb4)
 have n2_:=Aside0.mk (blk_below BD.out hb4)
 clear HB BK BD hcg hd0 hd1 hd2 hd3 hb4 hw4 hga
 have HB:=n0_
 have BK:=n1_
 have BD:=n2_
 clear n0_ n1_ n2_
 have hk:w4.cell? ⟨ga,o.toNat,none⟩=some (.int .i64 (docKids o)):=docKids_cell BA.out o O0.out O9.out
 have hd0:w4.cell? ⟨gb,0,none⟩=some (.int .i64 o):=(blk_cell BD.out 0).trans rfl;have hd1:w4.cell? ⟨gb,1,none⟩=some (.int .i64 n):=(blk_cell BD.out 1).trans rfl;have hd2:w4.cell? ⟨gb,2,none⟩=some (.string t):=(blk_cell BD.out 2).trans rfl;have hd3:w4.cell? ⟨gb,3,none⟩=some (.slice A ks.length c):=(blk_cell BD.out 3).trans rfl
 have o0:=eq_true O0.out
 have o9:=eq_true O9.out
 go_quiet (fail)
 go_wp2_with (first|(go_at_call 16;(with_reducible refine (impl_TextValid.calls kt t false _ HT.out).mono ?_);rintro e w5 ⟨rfl,⟨nd,rfl⟩⟩))
 go_ret
 exact ⟨rfl,by repeat (first|(with_reducible first|exact HB.out|apply below_alloc|apply pw_below_drewN|apply below_drew1)|exact HB.out),by (with_reducible repeat (first|refine blk_drewN ?_ _|refine blk_drew ?_|refine blk_alloc ?_ _));exact BK.out⟩
set_option maxHeartbeats 8000000 in
set_option maxRecDepth 100000 in
theorem impl_docOk.loopT (o n:Int) (t:ByteArray) (A:Option Addr) (c:Nat) (ks:List (SDoc)) (deep left:Int) (w0 w:World) (g:Nat)
  (hr:Kd.C k27 w0 A ks.length ks) (hc:ks.length≤c) (hB:Below w0.heap.size w0 w) (hg:w0.heap.size≤g) (hb:w.heap[g]?=some (.cells #[.int .i64 left] 3 (0,0)))
  (h1:(deep == 0)=false) (h2:decide ((wrap64 (left - 1))<0)=false) (h3:decide (o<1)=false) (h4:decide (8<o)=false) (h5:((ks.length:Int) != docKids o)=false) (h6:decide (n<0)=false) (h7:decide (9<n)=false) (h8:decide (0<n)=false) (h10:(o == 2)=true) (h11:(o != 2)=false) (kt:Nat) (hT:impl_TextValid.f kt t=some true)
  (k:Nat) (ih:∀ m,m<k+1→∀ (o n:Int) (t:ByteArray) (A:Option Addr) (c:Nat) (ks:List (SDoc)) (deep left:Int) (r1:Bool) (r2:Int) (w0 w:World) (g:Nat),Kd.C k27 w0 A ks.length ks→ks.length≤c→Below w0.heap.size w0 w→w0.heap.size≤g→w.heap[g]?=some (.cells #[.int .i64 left] 3 (0,0))→impl_docOk.f m o n t ks deep left=some (r1,r2) →
   Calls Try.prog 52 #[.agg #[.int .i64 o,.int .i64 n,.string t,.slice A ks.length c],.int .i64 deep,.pointer (some ⟨g,0,none⟩)] w fun e w'=>e=.returned (.bool r1)∧Below w0.heap.size w0 w'∧w'.heap[g]?=some (.cells #[.int .i64 r2] 3 (0,0)))
  (r1:Bool) (r2:Int) (hL:impl_docOk.l0 k ks 0 deep (wrap64 (left - 1))=some (r1,r2)) :
  Calls Try.prog 52 #[.agg #[.int .i64 o,.int .i64 n,.string t,.slice A ks.length c],.int .i64 deep,.pointer (some ⟨g,0,none⟩)] w fun e w'=>e=.returned (.bool r1)∧Below w0.heap.size w0 w'∧w'.heap[g]?=some (.cells #[.int .i64 r2] 3 (0,0)):=by
 have O0:=Aside0.mk (show 0≤o by have:=of_decide_eq_false h3;omega)
 have O9:=Aside0.mk (show o<9 by have:=of_decide_eq_false h4;omega)
 have HT:=Aside0.mk hT
 clear hT
 have H':=Aside0.mk hL
 clear hL
 have HR:=Aside0.mk hr
 have HC:=Aside0.mk hc
 clear hr hc
 have hu29:=Try.underlying27
 have hu3:=Try.underlying3
 have HB:=Aside0.mk hB
 have HG:=Aside0.mk hg
 have BK:=Aside0.mk hb
 clear hB hg hb
 go_enter Try.func52,Try.ntmps52
 go_wp2_with (first|((with_reducible refine gate_dst (N:=3) rfl ?_);refine box_event ?hg (N:=3) ?hd (cs:=#[.int .i64 o,.int .i64 n,.string t,.slice A ks.length c]) (t:=27) ?hr ?_;(case hd=>rfl);(case hg=>rfl);(case hr=>first|(go_simp;done)|(go_simp;rfl));intro gb hgb w2 hbox hb2;have n0_:=Aside0.mk (below_step HB.out hb2);have n1_:=Aside0.mk (blk_below BK.out hb2);have n2_:=Aside0.mk hbox;have NE:=Aside0.mk (by rw [hgb];exact Nat.ne_of_lt (blk_lt BK.out):g≠gb);clear HB BK;have HB:=n0_;have BK:=n1_;have BD:=n2_;clear n0_ n1_ n2_ hb2 hbox hgb;have hcg:w2.cell? ⟨g,0,none⟩=some (.int .i64 left):=(blk_cell BK.out 0).trans rfl;have hfg:=blk_frozen BK.out 0)|((with_reducible refine gate_store (t:=3) (p:=14) rfl ?_);refine store_event (t:=3) (p:=14) (v:=?vo_w13) (w1:=w2.setCell ⟨g,0,none⟩ (.int .i64 (wrap64 (left - 1)))) ?hg ?ho ?hn ?hr ?_;(case ho=>rfl);(case hg=>rfl);(case hn=>rfl);(case hr=>first|(go_simp;done)|(go_simp;rfl));intro w3 hw;have n0_:=Aside0.mk (by rw [hw];exact below_set HB.out HG.out:Below w0.heap.size w0 w3);have n1_:Aside0 (w3.heap[g]?=some (.cells #[.int .i64 (wrap64 (left - 1))] 3 (0,0))):=Aside0.mk (by rw [hw];exact blk_set BK.out 0 _);have n2_:Aside0 (w3.heap[gb]?=some (.cells #[.int .i64 o,.int .i64 n,.string t,.slice A ks.length c] 27 (0,0))):=Aside0.mk (by rw [hw];exact blk_far BD.out NE.out.symm _);clear HB BK BD hcg hfg hw;have HB:=n0_;have BK:=n1_;have BD:=n2_;clear n0_ n1_ n2_;have hcg:w3.cell? ⟨g,0,none⟩=some (.int .i64 (wrap64 (left - 1))):=(blk_cell BK.out 0).trans rfl;have hd0:w3.cell? ⟨gb,0,none⟩=some (.int .i64 o):=(blk_cell BD.out 0).trans rfl;have hd1:w3.cell? ⟨gb,1,none⟩=some (.int .i64 n):=(blk_cell BD.out 1).trans rfl;have hd2:w3.cell? ⟨gb,2,none⟩=some (.string t):=(blk_cell BD.out 2).trans rfl;have hd3:w3.cell? ⟨gb,3,none⟩=some (.slice A ks.length c):=(blk_cell BD.out 3).trans rfl))
 obtain ⟨w4,hw4⟩:∃ W:World,W=w3.alloc (.cells #[.int .i64 0,.int .i64 0,.int .i64 0,.int .i64 0,.int .i64 0,.int .i64 0,.int .i64 1,.int .i64 2,.int .i64 1] 75):=⟨_,rfl⟩
 obtain ⟨ga,hga⟩:∃ ga:Nat,ga=w3.heap.size:=⟨_,rfl⟩
 rw [← hw4,← hga]
 have BA:=Aside0.mk (by rw [hw4,hga];exact blk_new _ _:w4.heap[ga]?=some (.cells #[.int .i64 0,.int .i64 0,.int .i64 0,.int .i64 0,.int .i64 0,.int .i64 0,.int .i64 1,.int .i64 2,.int .i64 1] 75 (0,0)))
 have hb4:Below w3.heap.size w3 w4:=by rw [hw4];exact below_alloc (Below.refl _ _) _
 have n0_:=Aside0.mk (below_step HB.out hb4)
 have n1_:=Aside0.mk (blk_below BK.out hb4)
 have n2_:=Aside0.mk (blk_below BD.out hb4)
 clear HB BK BD hcg hd0 hd1 hd2 hd3 hb4 hw4 hga
 have HB:=n0_
 have BK:=n1_
 have BD:=n2_
 clear n0_ n1_ n2_
 have hk:w4.cell? ⟨ga,o.toNat,none⟩=some (.int .i64 (docKids o)):=docKids_cell BA.out o O0.out O9.out
 have hd0:w4.cell? ⟨gb,0,none⟩=some (.int .i64 o):=(blk_cell BD.out 0).trans rfl;have hd1:w4.cell? ⟨gb,1,none⟩=some (.int .i64 n):=(blk_cell BD.out 1).trans rfl;have hd2:w4.cell? ⟨gb,2,none⟩=some (.string t):=(blk_cell BD.out 2).trans rfl;have hd3:w4.cell? ⟨gb,3,none⟩=some (.slice A ks.length c):=(blk_cell BD.out 3).trans rfl
 have o0:=eq_true O0.out
 have o9:=eq_true O9.out
 go_quiet (fail)
 go_wp2_with (first|(go_at_call 16;(with_reducible refine (impl_TextValid.calls kt t true _ HT.out).mono ?_);rintro e w5 ⟨rfl,⟨nd,rfl⟩⟩))
 clear hk o0 o9 hd0 hd1 hd2 hd3
 go_loopg [84] k (fun kq v84 w'=>∃ (i lf:Int),v84=.int .i64 i∧Aside0 (impl_docOk.l0 kq ks i deep lf=some (r1,r2))∧Aside0 (kq≤k)∧Aside0 (w'.heap[g]?=some (.cells #[.int .i64 lf] 3 (0,0)))∧Aside0 (Below w0.heap.size w0 w'))
 case atStart=>exact ⟨0,(wrap64 (left - 1)),rfl,H',⟨Nat.le_refl _⟩,⟨by (with_reducible repeat (first|refine blk_drewN ?_ _|refine blk_drew ?_|refine blk_alloc ?_ _));exact BK.out⟩,⟨by repeat (first|(with_reducible first|exact HB.out|apply below_alloc|apply pw_below_drewN|apply below_drew1)|exact HB.out)⟩⟩
 case round =>
  clear H' BK HB
  obtain ⟨i,lf,rfl,HA,HK1,BK,HB⟩:=hrel
  cases gk with
  | zero=>exact absurd HA.out (by simp [impl_docOk.l0])
  | succ k1 =>
   have H:=HA.out
   clear HA
   simp only [impl_docOk.l0] at H
   by_cases c4:i<(ks.length:Int)
   ·rw [if_pos c4] at H
    have c4b0:decide (i<(ks.length:Int))=true:=decide_eq_true c4
    by_cases c5:0≤i
    ·rw [if_pos c5] at H
     have c5b0:decide (0≤i)=true:=decide_eq_true c5
     replace H:=Option.bind_eq_some_iff.mp H
     obtain ⟨⟨b1,b2⟩,A70,H⟩:=H
     have A7:=Aside0.mk A70
     clear A70
     obtain ⟨ad,A3,c3,eA,hx0,hx1,hx2,hx3,hl3,hi3⟩:=at_TDoc HR.out i c5 c4
     cases eA
     replace hx0:=(HB.out.cell (World.block_lt_of_cell? w0 _ hx0)).trans hx0
     replace hx1:=(HB.out.cell (World.block_lt_of_cell? w0 _ hx1)).trans hx1
     replace hx2:=(HB.out.cell (World.block_lt_of_cell? w0 _ hx2)).trans hx2
     replace hx3:=(HB.out.cell (World.block_lt_of_cell? w0 _ hx3)).trans hx3
     have HR3:=Aside0.mk hi3
     have HC3:=Aside0.mk hl3
     clear hi3 hl3
     replace c4:=eq_true c4
     replace c5:=eq_true c5
     have H':=Aside0.mk H
     clear H
     have HS:Aside0 (∀ (x:Bool),b1=x→Aside0 ((if x=true then (impl_docOk.l0 k1 ks (wrap64 (i+1)) deep b2) else (some (false,b2)))=some (r1,r2))):=⟨fun x hx=>⟨by rw [← hx];exact H'.out⟩⟩
     clear H'
     cases b1
     all_goals
      go_wp2_with (first|((with_reducible refine gate_dst (N:=9) rfl ?_);refine box_event ?hg (N:=9) ?hd (cs:=#[.int .i64 0,.int .i64 0,.string (⟨#[]⟩:ByteArray),.slice none 0 0]) (t:=27) ?hr ?_;(case hd=>rfl);(case hg=>rfl);(case hr=>first|(go_simp;done)|(go_simp;rfl));intro gx hgx w8 hbox hb8;have n0_:=Aside0.mk (below_step HB.out hb8);have n1_:=Aside0.mk (blk_below BK.out hb8);have n2_:=Aside0.mk hbox;have NX:=Aside0.mk (by rw [hgx];exact Nat.ne_of_lt (blk_lt BK.out):g≠gx);have GX:=Aside0.mk (by rw [hgx];exact HB.out.size:w0.heap.size≤gx);clear HB BK;have HB:=n0_;have BK:=n1_;have BX:=n2_;clear n0_ n1_ n2_ hb8 hbox hgx;have hy0:w8.cell? ⟨gx,0,none⟩=some (.int .i64 0):=(blk_cell BX.out 0).trans rfl;have hy1:w8.cell? ⟨gx,1,none⟩=some (.int .i64 0):=(blk_cell BX.out 1).trans rfl;have hy2:w8.cell? ⟨gx,2,none⟩=some (.string ⟨#[]⟩):=(blk_cell BX.out 2).trans rfl;have hy3:w8.cell? ⟨gx,3,none⟩=some (.slice none 0 0):=(blk_cell BX.out 3).trans rfl;have hf0:=blk_frozen BX.out 0;have hf1:=blk_frozen BX.out 1;have hf2:=blk_frozen BX.out 2;have hf3:=blk_frozen BX.out 3)|((with_reducible refine gate_store (t:=27) (p:=9) rfl ?_);refine store_event (t:=27) (p:=9) (v:=?vo_w9) (w1:=((((w8.setCell ⟨gx,0,none⟩ (.int .i64 (rd_TDoc ks i).f0)).setCell ⟨gx,1,none⟩ (.int .i64 (rd_TDoc ks i).f1)).setCell ⟨gx,2,none⟩ (.string (rd_TDoc ks i).f2)).setCell ⟨gx,3,none⟩ (.slice A3 (rd_TDoc ks i).f3.length c3))) ?hg ?ho ?hn ?hr ?_;(case ho=>rfl);(case hg=>rfl);(case hn=>rfl);(case hr=>first|(go_simp;done)|(go_simp;rfl));intro w9 hw;have n0_:=Aside0.mk (by rw [hw];exact below_set (below_set (below_set (below_set HB.out GX.out) GX.out) GX.out) GX.out:Below w0.heap.size w0 w9);have n1_:Aside0 (w9.heap[g]?=some (.cells #[.int .i64 lf] 3 (0,0))):=Aside0.mk (by rw [hw];exact blk_far (blk_far (blk_far (blk_far BK.out NX.out _) NX.out _) NX.out _) NX.out _);have n2_:Aside0 (w9.heap[gx]?=some (.cells #[.int .i64 (rd_TDoc ks i).f0,.int .i64 (rd_TDoc ks i).f1,.string (rd_TDoc ks i).f2,.slice A3 (rd_TDoc ks i).f3.length c3] 27 (0,0))):=Aside0.mk (by rw [hw];exact (blk_set (blk_set (blk_set (blk_set BX.out 0 _) 1 _) 2 _) 3 _).trans rfl);clear HB BK BX hy0 hy1 hy2 hy3 hf0 hf1 hf2 hf3 hw;have HB:=n0_;have BK:=n1_;have BX:=n2_;clear n0_ n1_ n2_;have hy0:w9.cell? ⟨gx,0,none⟩=some (.int .i64 (rd_TDoc ks i).f0):=(blk_cell BX.out 0).trans rfl;have hy1:w9.cell? ⟨gx,1,none⟩=some (.int .i64 (rd_TDoc ks i).f1):=(blk_cell BX.out 1).trans rfl;have hy2:w9.cell? ⟨gx,2,none⟩=some (.string (rd_TDoc ks i).f2):=(blk_cell BX.out 2).trans rfl;have hy3:w9.cell? ⟨gx,3,none⟩=some (.slice A3 (rd_TDoc ks i).f3.length c3):=(blk_cell BX.out 3).trans rfl)|((with_reducible refine gate_callee (f:=52) rfl ?_);refine goesL_ (some 92) rfl rfl Try.func52 (by kernel_rfl) rfl #[.agg #[.int .i64 (rd_TDoc ks i).f0,.int .i64 (rd_TDoc ks i).f1,.string (rd_TDoc ks i).f2,.slice A3 (rd_TDoc ks i).f3.length c3],.int .i64 (wrap64 (deep - 1)),.pointer (some ⟨g,0,none⟩)] rfl (by (try simp only [List.map_toArray,List.map_cons,List.map_nil]);first|done|rfl) ?_;(with_reducible refine (ih k1 (by have:=HK1.out;omega) (rd_TDoc ks i).f0 (rd_TDoc ks i).f1 (rd_TDoc ks i).f2 A3 c3 (rd_TDoc ks i).f3 (wrap64 (deep - 1)) lf _ b2 w0 _ g HR3.out HC3.out ?side1 HG.out ?side2 A7.out).mono ?_);(case side1=>exact (by repeat (first|(with_reducible first|exact HB.out|apply below_alloc|apply pw_below_drewN|apply below_drew1)|exact HB.out)));(case side2=>(with_reducible repeat (first|refine blk_drewN ?_ _|refine blk_drew ?_|refine blk_alloc ?_ _));exact BK.out);rintro e w10 ⟨rfl,hb10,hk10⟩;refine ⟨_,rfl,?_⟩;clear HB BK BX hy0 hy1 hy2 hy3;have HB:=Aside0.mk hb10;have BK:=Aside0.mk hk10;clear hb10 hk10))
     ·obtain ⟨rfl,rfl⟩:r1=false∧r2=b2:=by have h_:=(HS.out false rfl).out;simpa [eq_comm] using h_
      go_ret
      exact ⟨rfl,by repeat (first|(with_reducible first|exact HB.out|apply below_alloc|apply pw_below_drewN|apply below_drew1)|exact HB.out),by (with_reducible repeat (first|refine blk_drewN ?_ _|refine blk_drew ?_|refine blk_alloc ?_ _));exact BK.out⟩
     ·go_roundg k1
      case measure=>have:=HK1.out;omega
      case rel=>exact ⟨(wrap64 (i+1)),b2,(by first|rfl|(simp;done)|(simp [*];done)),⟨(HS.out true rfl).out⟩,⟨by have:=HK1.out;omega⟩,⟨by (with_reducible repeat (first|refine blk_drewN ?_ _|refine blk_drew ?_|refine blk_alloc ?_ _));exact BK.out⟩,⟨by repeat (first|(with_reducible first|exact HB.out|apply below_alloc|apply pw_below_drewN|apply below_drew1)|exact HB.out)⟩⟩
    ·rw [if_neg c5] at H
     exact absurd H (by simp)
   ·rw [if_neg c4] at H
    have c4b0:decide (i<(ks.length:Int))=false:=decide_eq_false c4
    clear c4
    simp only [Option.some.injEq,Prod.mk.injEq] at H
    obtain ⟨rfl,rfl⟩:=H
    go_wp2
    go_ret
    exact ⟨rfl,by repeat (first|(with_reducible first|exact HB.out|apply below_alloc|apply pw_below_drewN|apply below_drew1)|exact HB.out),by (with_reducible repeat (first|refine blk_drewN ?_ _|refine blk_drew ?_|refine blk_alloc ?_ _));exact BK.out⟩
set_option maxHeartbeats 8000000 in
set_option maxRecDepth 100000 in
theorem impl_docOk.loopE (o n:Int) (t:ByteArray) (A:Option Addr) (c:Nat) (ks:List (SDoc)) (deep left:Int) (w0 w:World) (g:Nat)
  (hr:Kd.C k27 w0 A ks.length ks) (hc:ks.length≤c) (hB:Below w0.heap.size w0 w) (hg:w0.heap.size≤g) (hb:w.heap[g]?=some (.cells #[.int .i64 left] 3 (0,0)))
  (h1:(deep == 0)=false) (h2:decide ((wrap64 (left - 1))<0)=false) (h3:decide (o<1)=false) (h4:decide (8<o)=false) (h5:((ks.length:Int) != docKids o)=false) (h6:decide (n<0)=false) (h7:decide (9<n)=false)
  (hA:(decide (0<n)=false∧((o == 2)=false∧(o != 2)=true)∧((t.toList == ([]:List UInt8))=true∧(t.toList != ([]:List UInt8))=false∧t.toList.isEmpty=true))∨(decide (0<n)=true∧(o != 6)=false∧((o == 2)=false∧(o != 2)=true)∧((t.toList == ([]:List UInt8))=true∧(t.toList != ([]:List UInt8))=false∧t.toList.isEmpty=true)))
  (k:Nat) (ih:∀ m,m<k+1→∀ (o n:Int) (t:ByteArray) (A:Option Addr) (c:Nat) (ks:List (SDoc)) (deep left:Int) (r1:Bool) (r2:Int) (w0 w:World) (g:Nat),Kd.C k27 w0 A ks.length ks→ks.length≤c→Below w0.heap.size w0 w→w0.heap.size≤g→w.heap[g]?=some (.cells #[.int .i64 left] 3 (0,0))→impl_docOk.f m o n t ks deep left=some (r1,r2) →
   Calls Try.prog 52 #[.agg #[.int .i64 o,.int .i64 n,.string t,.slice A ks.length c],.int .i64 deep,.pointer (some ⟨g,0,none⟩)] w fun e w'=>e=.returned (.bool r1)∧Below w0.heap.size w0 w'∧w'.heap[g]?=some (.cells #[.int .i64 r2] 3 (0,0)))
  (r1:Bool) (r2:Int) (hL:impl_docOk.l0 k ks 0 deep (wrap64 (left - 1))=some (r1,r2)) :
  Calls Try.prog 52 #[.agg #[.int .i64 o,.int .i64 n,.string t,.slice A ks.length c],.int .i64 deep,.pointer (some ⟨g,0,none⟩)] w fun e w'=>e=.returned (.bool r1)∧Below w0.heap.size w0 w'∧w'.heap[g]?=some (.cells #[.int .i64 r2] 3 (0,0)):=by
 have O0:=Aside0.mk (show 0≤o by have:=of_decide_eq_false h3;omega)
 have O9:=Aside0.mk (show o<9 by have:=of_decide_eq_false h4;omega)
 rcases hA with ⟨h8,⟨h10,h11⟩,h12,h13,h14⟩ | ⟨h8,h9,⟨h10,h11⟩,h12,h13,h14⟩
 all_goals
  have H':=Aside0.mk hL
  clear hL
  have HR:=Aside0.mk hr
  have HC:=Aside0.mk hc
  clear hr hc
  have hu29:=Try.underlying27
  have hu3:=Try.underlying3
  have HB:=Aside0.mk hB
  have HG:=Aside0.mk hg
  have BK:=Aside0.mk hb
  clear hB hg hb
  go_enter Try.func52,Try.ntmps52
  go_wp2_with (first|((with_reducible refine gate_dst (N:=3) rfl ?_);refine box_event ?hg (N:=3) ?hd (cs:=#[.int .i64 o,.int .i64 n,.string t,.slice A ks.length c]) (t:=27) ?hr ?_;(case hd=>rfl);(case hg=>rfl);(case hr=>first|(go_simp;done)|(go_simp;rfl));intro gb hgb w2 hbox hb2;have n0_:=Aside0.mk (below_step HB.out hb2);have n1_:=Aside0.mk (blk_below BK.out hb2);have n2_:=Aside0.mk hbox;have NE:=Aside0.mk (by rw [hgb];exact Nat.ne_of_lt (blk_lt BK.out):g≠gb);clear HB BK;have HB:=n0_;have BK:=n1_;have BD:=n2_;clear n0_ n1_ n2_ hb2 hbox hgb;have hcg:w2.cell? ⟨g,0,none⟩=some (.int .i64 left):=(blk_cell BK.out 0).trans rfl;have hfg:=blk_frozen BK.out 0)|((with_reducible refine gate_store (t:=3) (p:=14) rfl ?_);refine store_event (t:=3) (p:=14) (v:=?vo_w13) (w1:=w2.setCell ⟨g,0,none⟩ (.int .i64 (wrap64 (left - 1)))) ?hg ?ho ?hn ?hr ?_;(case ho=>rfl);(case hg=>rfl);(case hn=>rfl);(case hr=>first|(go_simp;done)|(go_simp;rfl));intro w3 hw;have n0_:=Aside0.mk (by rw [hw];exact below_set HB.out HG.out:Below w0.heap.size w0 w3);have n1_:Aside0 (w3.heap[g]?=some (.cells #[.int .i64 (wrap64 (left - 1))] 3 (0,0))):=Aside0.mk (by rw [hw];exact blk_set BK.out 0 _);have n2_:Aside0 (w3.heap[gb]?=some (.cells #[.int .i64 o,.int .i64 n,.string t,.slice A ks.length c] 27 (0,0))):=Aside0.mk (by rw [hw];exact blk_far BD.out NE.out.symm _);clear HB BK BD hcg hfg hw;have HB:=n0_;have BK:=n1_;have BD:=n2_;clear n0_ n1_ n2_;have hcg:w3.cell? ⟨g,0,none⟩=some (.int .i64 (wrap64 (left - 1))):=(blk_cell BK.out 0).trans rfl;have hd0:w3.cell? ⟨gb,0,none⟩=some (.int .i64 o):=(blk_cell BD.out 0).trans rfl;have hd1:w3.cell? ⟨gb,1,none⟩=some (.int .i64 n):=(blk_cell BD.out 1).trans rfl;have hd2:w3.cell? ⟨gb,2,none⟩=some (.string t):=(blk_cell BD.out 2).trans rfl;have hd3:w3.cell? ⟨gb,3,none⟩=some (.slice A ks.length c):=(blk_cell BD.out 3).trans rfl))
  obtain ⟨w4,hw4⟩:∃ W:World,W=w3.alloc (.cells #[.int .i64 0,.int .i64 0,.int .i64 0,.int .i64 0,.int .i64 0,.int .i64 0,.int .i64 1,.int .i64 2,.int .i64 1] 75):=⟨_,rfl⟩
  obtain ⟨ga,hga⟩:∃ ga:Nat,ga=w3.heap.size:=⟨_,rfl⟩
  rw [← hw4,← hga]
  have BA:=Aside0.mk (by rw [hw4,hga];exact blk_new _ _:w4.heap[ga]?=some (.cells #[.int .i64 0,.int .i64 0,.int .i64 0,.int .i64 0,.int .i64 0,.int .i64 0,.int .i64 1,.int .i64 2,.int .i64 1] 75 (0,0)))
  have hb4:Below w3.heap.size w3 w4:=by rw [hw4];exact below_alloc (Below.refl _ _) _
  have n0_:=Aside0.mk (below_step HB.out hb4)
  have n1_:=Aside0.mk (blk_below BK.out hb4)
  have n2_:=Aside0.mk (blk_below BD.out hb4)
  clear HB BK BD hcg hd0 hd1 hd2 hd3 hb4 hw4 hga
  have HB:=n0_
  have BK:=n1_
  have BD:=n2_
  clear n0_ n1_ n2_
  have hk:w4.cell? ⟨ga,o.toNat,none⟩=some (.int .i64 (docKids o)):=docKids_cell BA.out o O0.out O9.out
  have hd0:w4.cell? ⟨gb,0,none⟩=some (.int .i64 o):=(blk_cell BD.out 0).trans rfl;have hd1:w4.cell? ⟨gb,1,none⟩=some (.int .i64 n):=(blk_cell BD.out 1).trans rfl;have hd2:w4.cell? ⟨gb,2,none⟩=some (.string t):=(blk_cell BD.out 2).trans rfl;have hd3:w4.cell? ⟨gb,3,none⟩=some (.slice A ks.length c):=(blk_cell BD.out 3).trans rfl
  have o0:=eq_true O0.out
  have o9:=eq_true O9.out
  go_quiet (fail)
  go_wp2
  clear hk o0 o9 hd0 hd1 hd2 hd3
  go_loopg [84] k (fun kq v84 w'=>∃ (i lf:Int),v84=.int .i64 i∧Aside0 (impl_docOk.l0 kq ks i deep lf=some (r1,r2))∧Aside0 (kq≤k)∧Aside0 (w'.heap[g]?=some (.cells #[.int .i64 lf] 3 (0,0)))∧Aside0 (Below w0.heap.size w0 w'))
  case atStart=>exact ⟨0,(wrap64 (left - 1)),rfl,H',⟨Nat.le_refl _⟩,⟨by (with_reducible repeat (first|refine blk_drewN ?_ _|refine blk_drew ?_|refine blk_alloc ?_ _));exact BK.out⟩,⟨by repeat (first|(with_reducible first|exact HB.out|apply below_alloc|apply pw_below_drewN|apply below_drew1)|exact HB.out)⟩⟩
  case round =>
   clear H' BK HB
   obtain ⟨i,lf,rfl,HA,HK1,BK,HB⟩:=hrel
   cases gk with
   | zero=>exact absurd HA.out (by simp [impl_docOk.l0])
   | succ k1 =>
    have H:=HA.out
    clear HA
    simp only [impl_docOk.l0] at H
    by_cases c4:i<(ks.length:Int)
    ·rw [if_pos c4] at H
     have c4b0:decide (i<(ks.length:Int))=true:=decide_eq_true c4
     by_cases c5:0≤i
     ·rw [if_pos c5] at H
      have c5b0:decide (0≤i)=true:=decide_eq_true c5
      replace H:=Option.bind_eq_some_iff.mp H
      obtain ⟨⟨b1,b2⟩,A70,H⟩:=H
      have A7:=Aside0.mk A70
      clear A70
      obtain ⟨ad,A3,c3,eA,hx0,hx1,hx2,hx3,hl3,hi3⟩:=at_TDoc HR.out i c5 c4
      cases eA
      replace hx0:=(HB.out.cell (World.block_lt_of_cell? w0 _ hx0)).trans hx0
      replace hx1:=(HB.out.cell (World.block_lt_of_cell? w0 _ hx1)).trans hx1
      replace hx2:=(HB.out.cell (World.block_lt_of_cell? w0 _ hx2)).trans hx2
      replace hx3:=(HB.out.cell (World.block_lt_of_cell? w0 _ hx3)).trans hx3
      have HR3:=Aside0.mk hi3
      have HC3:=Aside0.mk hl3
      clear hi3 hl3
      replace c4:=eq_true c4
      replace c5:=eq_true c5
      have H':=Aside0.mk H
      clear H
      have HS:Aside0 (∀ (x:Bool),b1=x→Aside0 ((if x=true then (impl_docOk.l0 k1 ks (wrap64 (i+1)) deep b2) else (some (false,b2)))=some (r1,r2))):=⟨fun x hx=>⟨by rw [← hx];exact H'.out⟩⟩
      clear H'
      cases b1
      all_goals
       go_wp2_with (first|((with_reducible refine gate_dst (N:=9) rfl ?_);refine box_event ?hg (N:=9) ?hd (cs:=#[.int .i64 0,.int .i64 0,.string (⟨#[]⟩:ByteArray),.slice none 0 0]) (t:=27) ?hr ?_;(case hd=>rfl);(case hg=>rfl);(case hr=>first|(go_simp;done)|(go_simp;rfl));intro gx hgx w8 hbox hb8;have n0_:=Aside0.mk (below_step HB.out hb8);have n1_:=Aside0.mk (blk_below BK.out hb8);have n2_:=Aside0.mk hbox;have NX:=Aside0.mk (by rw [hgx];exact Nat.ne_of_lt (blk_lt BK.out):g≠gx);have GX:=Aside0.mk (by rw [hgx];exact HB.out.size:w0.heap.size≤gx);clear HB BK;have HB:=n0_;have BK:=n1_;have BX:=n2_;clear n0_ n1_ n2_ hb8 hbox hgx;have hy0:w8.cell? ⟨gx,0,none⟩=some (.int .i64 0):=(blk_cell BX.out 0).trans rfl;have hy1:w8.cell? ⟨gx,1,none⟩=some (.int .i64 0):=(blk_cell BX.out 1).trans rfl;have hy2:w8.cell? ⟨gx,2,none⟩=some (.string ⟨#[]⟩):=(blk_cell BX.out 2).trans rfl;have hy3:w8.cell? ⟨gx,3,none⟩=some (.slice none 0 0):=(blk_cell BX.out 3).trans rfl;have hf0:=blk_frozen BX.out 0;have hf1:=blk_frozen BX.out 1;have hf2:=blk_frozen BX.out 2;have hf3:=blk_frozen BX.out 3)|((with_reducible refine gate_store (t:=27) (p:=9) rfl ?_);refine store_event (t:=27) (p:=9) (v:=?vo_w9) (w1:=((((w8.setCell ⟨gx,0,none⟩ (.int .i64 (rd_TDoc ks i).f0)).setCell ⟨gx,1,none⟩ (.int .i64 (rd_TDoc ks i).f1)).setCell ⟨gx,2,none⟩ (.string (rd_TDoc ks i).f2)).setCell ⟨gx,3,none⟩ (.slice A3 (rd_TDoc ks i).f3.length c3))) ?hg ?ho ?hn ?hr ?_;(case ho=>rfl);(case hg=>rfl);(case hn=>rfl);(case hr=>first|(go_simp;done)|(go_simp;rfl));intro w9 hw;have n0_:=Aside0.mk (by rw [hw];exact below_set (below_set (below_set (below_set HB.out GX.out) GX.out) GX.out) GX.out:Below w0.heap.size w0 w9);have n1_:Aside0 (w9.heap[g]?=some (.cells #[.int .i64 lf] 3 (0,0))):=Aside0.mk (by rw [hw];exact blk_far (blk_far (blk_far (blk_far BK.out NX.out _) NX.out _) NX.out _) NX.out _);have n2_:Aside0 (w9.heap[gx]?=some (.cells #[.int .i64 (rd_TDoc ks i).f0,.int .i64 (rd_TDoc ks i).f1,.string (rd_TDoc ks i).f2,.slice A3 (rd_TDoc ks i).f3.length c3] 27 (0,0))):=Aside0.mk (by rw [hw];exact (blk_set (blk_set (blk_set (blk_set BX.out 0 _) 1 _) 2 _) 3 _).trans rfl);clear HB BK BX hy0 hy1 hy2 hy3 hf0 hf1 hf2 hf3 hw;have HB:=n0_;have BK:=n1_;have BX:=n2_;clear n0_ n1_ n2_;have hy0:w9.cell? ⟨gx,0,none⟩=some (.int .i64 (rd_TDoc ks i).f0):=(blk_cell BX.out 0).trans rfl;have hy1:w9.cell? ⟨gx,1,none⟩=some (.int .i64 (rd_TDoc ks i).f1):=(blk_cell BX.out 1).trans rfl;have hy2:w9.cell? ⟨gx,2,none⟩=some (.string (rd_TDoc ks i).f2):=(blk_cell BX.out 2).trans rfl;have hy3:w9.cell? ⟨gx,3,none⟩=some (.slice A3 (rd_TDoc ks i).f3.length c3):=(blk_cell BX.out 3).trans rfl)|((with_reducible refine gate_callee (f:=52) rfl ?_);refine goesL_ (some 92) rfl rfl Try.func52 (by kernel_rfl) rfl #[.agg #[.int .i64 (rd_TDoc ks i).f0,.int .i64 (rd_TDoc ks i).f1,.string (rd_TDoc ks i).f2,.slice A3 (rd_TDoc ks i).f3.length c3],.int .i64 (wrap64 (deep - 1)),.pointer (some ⟨g,0,none⟩)] rfl (by (try simp only [List.map_toArray,List.map_cons,List.map_nil]);first|done|rfl) ?_;(with_reducible refine (ih k1 (by have:=HK1.out;omega) (rd_TDoc ks i).f0 (rd_TDoc ks i).f1 (rd_TDoc ks i).f2 A3 c3 (rd_TDoc ks i).f3 (wrap64 (deep - 1)) lf _ b2 w0 _ g HR3.out HC3.out ?side1 HG.out ?side2 A7.out).mono ?_);(case side1=>exact (by repeat (first|(with_reducible first|exact HB.out|apply below_alloc|apply pw_below_drewN|apply below_drew1)|exact HB.out)));(case side2=>(with_reducible repeat (first|refine blk_drewN ?_ _|refine blk_drew ?_|refine blk_alloc ?_ _));exact BK.out);rintro e w10 ⟨rfl,hb10,hk10⟩;refine ⟨_,rfl,?_⟩;clear HB BK BX hy0 hy1 hy2 hy3;have HB:=Aside0.mk hb10;have BK:=Aside0.mk hk10;clear hb10 hk10))
      ·obtain ⟨rfl,rfl⟩:r1=false∧r2=b2:=by have h_:=(HS.out false rfl).out;simpa [eq_comm] using h_
       go_ret
       exact ⟨rfl,by repeat (first|(with_reducible first|exact HB.out|apply below_alloc|apply pw_below_drewN|apply below_drew1)|exact HB.out),by (with_reducible repeat (first|refine blk_drewN ?_ _|refine blk_drew ?_|refine blk_alloc ?_ _));exact BK.out⟩
      ·go_roundg k1
       case measure=>have:=HK1.out;omega
       case rel=>exact ⟨(wrap64 (i+1)),b2,(by first|rfl|(simp;done)|(simp [*];done)),⟨(HS.out true rfl).out⟩,⟨by have:=HK1.out;omega⟩,⟨by (with_reducible repeat (first|refine blk_drewN ?_ _|refine blk_drew ?_|refine blk_alloc ?_ _));exact BK.out⟩,⟨by repeat (first|(with_reducible first|exact HB.out|apply below_alloc|apply pw_below_drewN|apply below_drew1)|exact HB.out)⟩⟩
     ·rw [if_neg c5] at H
      exact absurd H (by simp)
    ·rw [if_neg c4] at H
     have c4b0:decide (i<(ks.length:Int))=false:=decide_eq_false c4
     clear c4
     simp only [Option.some.injEq,Prod.mk.injEq] at H
     obtain ⟨rfl,rfl⟩:=H
     go_wp2
     go_ret
     exact ⟨rfl,by repeat (first|(with_reducible first|exact HB.out|apply below_alloc|apply pw_below_drewN|apply below_drew1)|exact HB.out),by (with_reducible repeat (first|refine blk_drewN ?_ _|refine blk_drew ?_|refine blk_alloc ?_ _));exact BK.out⟩
theorem impl_docOk.calls (k:Nat):∀ (o n:Int) (t:ByteArray) (A:Option Addr) (c:Nat) (ks:List (SDoc)) (deep left:Int) (r1:Bool) (r2:Int) (w0 w:World) (g:Nat),Kd.C k27 w0 A ks.length ks→ks.length≤c→Below w0.heap.size w0 w→w0.heap.size≤g→w.heap[g]?=some (.cells #[.int .i64 left] 3 (0,0))→impl_docOk.f k o n t ks deep left=some (r1,r2) →
   Calls Try.prog 52 #[.agg #[.int .i64 o,.int .i64 n,.string t,.slice A ks.length c],.int .i64 deep,.pointer (some ⟨g,0,none⟩)] w fun e w'=>e=.returned (.bool r1)∧Below w0.heap.size w0 w'∧w'.heap[g]?=some (.cells #[.int .i64 r2] 3 (0,0)):=by
 induction k using Nat.strongRecOn with
 | _ k ih =>
 intro o n t A c ks deep left r1 r2 w0 w g hr hc hB hg hb h
 cases k with
 | zero=>exact absurd h (by simp [impl_docOk.f])
 | succ k =>
 simp only [impl_docOk.f] at h
 have be:∀ x y:Int,x=y→(x == y)=true∧(x != y)=false:=fun x y e=>by simp [e]
 have bn:∀ x y:Int,¬ x=y→(x == y)=false∧(x != y)=true:=fun x y e=>by simp [e]
 by_cases a1:deep=0∨(wrap64 (left - 1))<0∨o<1∨8<o
 ·rw [if_pos a1] at h
  simp only [Option.some.injEq,Prod.mk.injEq] at h
  obtain ⟨rfl,rfl⟩:=h
  refine impl_docOk.failA o n t A c ks deep left w0 w g hr hc hB hg hb ?_
  by_cases e1:deep=0
  ·exact .inl (be _ _ e1).1
  ·by_cases e2:(wrap64 (left - 1))<0
   ·exact .inr (.inl ⟨(bn _ _ e1).1,decide_eq_true e2⟩)
   ·by_cases e3:o<1
    ·exact .inr (.inr (.inl ⟨(bn _ _ e1).1,decide_eq_false e2,decide_eq_true e3⟩))
    ·have e4:8<o:=by rcases a1 with a|a|a|a <;> first|exact absurd a e1|exact absurd a e2|exact absurd a e3|exact a
     exact .inr (.inr (.inr ⟨(bn _ _ e1).1,decide_eq_false e2,decide_eq_false e3,decide_eq_true e4⟩))
 ·rw [if_neg a1] at h
  have e1:¬ deep=0:=fun e=>a1 (.inl e)
  have e2:¬ (wrap64 (left - 1))<0:=fun e=>a1 (.inr (.inl e))
  have e3:¬ o<1:=fun e=>a1 (.inr (.inr (.inl e)))
  have e4:¬ 8<o:=fun e=>a1 (.inr (.inr (.inr e)))
  have h1:=(bn _ _ e1).1
  have h2:=decide_eq_false e2
  have h3:=decide_eq_false e3
  have h4:=decide_eq_false e4
  by_cases a2:¬ ((ks.length:Int)=docKids o)∨n<0∨9<n∨(0<n∧¬ (o=6))
  ·rw [if_pos a2] at h
   simp only [Option.some.injEq,Prod.mk.injEq] at h
   obtain ⟨rfl,rfl⟩:=h
   refine impl_docOk.failB o n t A c ks deep left w0 w g hr hc hB hg hb h1 h2 h3 h4 ?_
   by_cases e5:(ks.length:Int)=docKids o
   ·by_cases e6:n<0
    ·exact .inr (.inl ⟨(be _ _ e5).2,decide_eq_true e6⟩)
    ·by_cases e7:9<n
     ·exact .inr (.inr (.inl ⟨(be _ _ e5).2,decide_eq_false e6,decide_eq_true e7⟩))
     ·have e8:0<n∧¬ (o=6):=by rcases a2 with a|a|a|a <;> first|exact absurd e5 a|exact absurd a e6|exact absurd a e7|exact a
      exact .inr (.inr (.inr ⟨(be _ _ e5).2,decide_eq_false e6,decide_eq_false e7,decide_eq_true e8.1,(bn _ _ e8.2).2⟩))
   ·exact .inl (bn _ _ e5).2
  ·rw [if_neg a2] at h
   have h5:=(be _ _ (Decidable.not_not.1 (fun e=>a2 (.inl e)):(ks.length:Int)=docKids o)).2
   have h6:=decide_eq_false (fun e=>a2 (.inr (.inl e)):¬ n<0)
   have h7:=decide_eq_false (fun e=>a2 (.inr (.inr (.inl e))):¬ 9<n)
   have e8:0<n→o=6:=fun e=>Decidable.not_not.1 (fun e'=>a2 (.inr (.inr (.inr ⟨e,e'⟩))))
   by_cases e9:o=2
   ·rw [if_pos e9] at h
    obtain ⟨b,hT,h⟩:=Option.bind_eq_some_iff.mp h
    have h8:decide (0<n)=false:=decide_eq_false (fun e=>by have:=e8 e;omega)
    cases b with
    | false =>
     simp only [Bool.false_eq_true,if_false,Option.some.injEq,Prod.mk.injEq] at h
     obtain ⟨rfl,rfl⟩:=h
     exact impl_docOk.failT o n t A c ks deep left w0 w g hr hc hB hg hb h1 h2 h3 h4 h5 h6 h7 h8 (be _ _ e9).1 (be _ _ e9).2 k hT
    | true =>
     simp only [if_true] at h
     exact impl_docOk.loopT o n t A c ks deep left w0 w g hr hc hB hg hb h1 h2 h3 h4 h5 h6 h7 h8 (be _ _ e9).1 (be _ _ e9).2 k hT k ih r1 r2 h
   ·rw [if_neg e9] at h
    have h10:=bn _ _ e9
    by_cases e10:t.toList=[]
    ·rw [if_pos e10] at h
     refine impl_docOk.loopE o n t A c ks deep left w0 w g hr hc hB hg hb h1 h2 h3 h4 h5 h6 h7 ?_ k ih r1 r2 h
     have hte:(t.toList == ([]:List UInt8))=true∧(t.toList != ([]:List UInt8))=false∧t.toList.isEmpty=true:=by simp [e10]
     by_cases e11:0<n
     ·exact .inr ⟨decide_eq_true e11,(be _ _ (e8 e11)).2,h10,hte⟩
     ·exact .inl ⟨decide_eq_false e11,h10,hte⟩
    ·rw [if_neg e10] at h
     simp only [Option.some.injEq,Prod.mk.injEq] at h
     obtain ⟨rfl,rfl⟩:=h
     refine impl_docOk.failC o n t A c ks deep left w0 w g hr hc hB hg hb h1 h2 h3 h4 h5 h6 h7 ?_
     have hte:(t.toList == ([]:List UInt8))=false∧(t.toList != ([]:List UInt8))=true∧t.toList.isEmpty=false:=by simp [e10]
     by_cases e11:0<n
     ·exact .inr ⟨decide_eq_true e11,(be _ _ (e8 e11)).2,h10,hte⟩
     ·exact .inl ⟨decide_eq_false e11,h10,hte⟩
def impl_DocValid.f (k:Nat) (a0_0:Int) (a0_1:Int) (a0_2:ByteArray) (l0_3:List (SDoc)):Option (Bool):=(impl_docOk.f k a0_0 a0_1 a0_2 l0_3 40 80).bind fun b=>(some b.1)
set_option maxHeartbeats 8000000 in
set_option maxRecDepth 100000 in
theorem impl_DocValid.calls (k:Nat) (a0_0:Int) (a0_1:Int) (a0_2:ByteArray) (A0_3:Option Addr) (c0_3:Nat) (l0_3:List (SDoc)) (r:Bool) (w:World) (hr0_3:Kd.C k27 w A0_3 l0_3.length l0_3) (hc0_3:l0_3.length≤c0_3) (h:impl_DocValid.f k a0_0 a0_1 a0_2 l0_3=some r) :
  Calls Try.prog 24 #[.agg #[.int .i64 a0_0,.int .i64 a0_1,.string a0_2,.slice A0_3 l0_3.length c0_3]] w fun e w'=>e=.returned (.bool r)∧Below w.heap.size w w':=by
 unfold impl_DocValid.f at h
 obtain ⟨⟨b1,b2⟩,hq,hr⟩:=Option.bind_eq_some_iff.mp h
 clear h
 obtain rfl:b1=r:=by simpa using hr
 clear hr
 have hu29:=Try.underlying27
 have hu3:=Try.underlying3
 have HR:=Aside0.mk hr0_3
 have HC:=Aside0.mk hc0_3
 have HF:=Aside0.mk hq
 clear hr0_3 hc0_3 hq
 go_enter Try.func24,Try.ntmps24
 go_wp2_with (first|((with_reducible refine gate_dst (N:=1) rfl ?_);refine box_event ?hg (N:=1) ?hd (cs:=#[.int .i64 a0_0,.int .i64 a0_1,.string a0_2,.slice A0_3 l0_3.length c0_3]) (t:=27) ?hr ?_;(case hd=>rfl);(case hg=>rfl);(case hr=>first|(go_simp;done)|(go_simp;rfl));intro gb hgb w2 hbox hb2;have HB:=Aside0.mk (below_step (Below.refl _ _) hb2);have BD:=Aside0.mk hbox;clear hb2 hbox hgb;have hd0:w2.cell? ⟨gb,0,none⟩=some (.int .i64 a0_0):=(blk_cell BD.out 0).trans rfl;have hd1:w2.cell? ⟨gb,1,none⟩=some (.int .i64 a0_1):=(blk_cell BD.out 1).trans rfl;have hd2:w2.cell? ⟨gb,2,none⟩=some (.string a0_2):=(blk_cell BD.out 2).trans rfl;have hd3:w2.cell? ⟨gb,3,none⟩=some (.slice A0_3 l0_3.length c0_3):=(blk_cell BD.out 3).trans rfl)|((with_reducible refine gate_dst (N:=3) rfl ?_);refine box_event ?hg (N:=3) ?hd (cs:=#[.int .i64 0]) (t:=3) ?hr ?_;(case hd=>rfl);(case hg=>rfl);(case hr=>first|(go_simp;done)|(go_simp;rfl));intro g hg w3 hbox hb2;have n0_:=Aside0.mk (below_step HB.out hb2);have n1_:=Aside0.mk (blk_below BD.out hb2);have BK:=Aside0.mk hbox;have NE:=Aside0.mk (by rw [hg];exact Nat.ne_of_lt (blk_lt BD.out):gb≠g);have GE:=Aside0.mk (by rw [hg];exact HB.out.size:w.heap.size≤g);clear HB BD hd0 hd1 hd2 hd3;have HB:=n0_;have BD:=n1_;clear n0_ n1_ hb2 hbox hg;have hcg:w3.cell? ⟨g,0,none⟩=some (.int .i64 0):=(blk_cell BK.out 0).trans rfl;have hfg:=blk_frozen BK.out 0)|((with_reducible refine gate_store (t:=3) (p:=3) rfl ?_);refine store_event (t:=3) (p:=3) (v:=?vo_w13) (w1:=w3.setCell ⟨g,0,none⟩ (.int .i64 80)) ?hg ?ho ?hn ?hr ?_;(case ho=>rfl);(case hg=>rfl);(case hn=>rfl);(case hr=>first|(go_simp;done)|(go_simp;rfl));intro w4 hw;have n0_:=Aside0.mk (by rw [hw];exact below_set HB.out GE.out:Below w.heap.size w w4);have n1_:Aside0 (w4.heap[g]?=some (.cells #[.int .i64 80] 3 (0,0))):=Aside0.mk (by rw [hw];exact blk_set BK.out 0 _);have n2_:Aside0 (w4.heap[gb]?=some (.cells #[.int .i64 a0_0,.int .i64 a0_1,.string a0_2,.slice A0_3 l0_3.length c0_3] 27 (0,0))):=Aside0.mk (by rw [hw];exact blk_far BD.out NE.out _);clear HB BK BD hcg hfg hw;have HB:=n0_;have BK:=n1_;have BD:=n2_;clear n0_ n1_ n2_;have hd0:w4.cell? ⟨gb,0,none⟩=some (.int .i64 a0_0):=(blk_cell BD.out 0).trans rfl;have hd1:w4.cell? ⟨gb,1,none⟩=some (.int .i64 a0_1):=(blk_cell BD.out 1).trans rfl;have hd2:w4.cell? ⟨gb,2,none⟩=some (.string a0_2):=(blk_cell BD.out 2).trans rfl;have hd3:w4.cell? ⟨gb,3,none⟩=some (.slice A0_3 l0_3.length c0_3):=(blk_cell BD.out 3).trans rfl)|((with_reducible refine gate_callee (f:=52) rfl ?_);refine goesL_ (some 5) rfl rfl Try.func52 (by kernel_rfl) rfl #[.agg #[.int .i64 a0_0,.int .i64 a0_1,.string a0_2,.slice A0_3 l0_3.length c0_3],.int .i64 40,.pointer (some ⟨g,0,none⟩)] rfl (by (try simp only [List.map_toArray,List.map_cons,List.map_nil]);first|done|rfl) ?_;(with_reducible refine (impl_docOk.calls k a0_0 a0_1 a0_2 A0_3 c0_3 l0_3 40 80 _ b2 w _ g HR.out HC.out ?side1 GE.out ?side2 HF.out).mono ?_);(case side1=>exact (by repeat (first|(with_reducible first|exact HB.out|apply below_alloc|apply pw_below_drewN|apply below_drew1)|exact HB.out)));(case side2=>(with_reducible repeat (first|refine blk_drewN ?_ _|refine blk_drew ?_|refine blk_alloc ?_ _));exact BK.out);rintro e w10 ⟨rfl,hb10,hk10⟩;refine ⟨_,rfl,?_⟩;clear HB BK BD hd0 hd1 hd2 hd3;have HB:=Aside0.mk hb10;clear hb10 hk10))
 go_ret
 exact ⟨rfl,by repeat (first|(with_reducible first|exact HB.out|apply below_alloc|apply pw_below_drewN|apply below_drew1)|exact HB.out)⟩
end Go.Proofs.Ytdhdfmmefghijaa.P
namespace Go.Proofs.Ytdhdfmmefghijaa.P
open Go.RowKit Go.Proofs.YtdhdfmmefghijaaW.PrintWords Go.Proofs.YtdhdfmmefghijaaW.PrintLast Go.Proofs.YtdhdfmmefghijaaW.PrintMore
attribute [local go_sem] max2_int min2_int max_two min_two max_three min_three max_four min_four
set_option linter.unusedVariables false
set_option linter.unusedSimpArgs false
def spec_DocSize.f (k:Nat) (a0_0:Int) (a0_1:Int) (a0_2:ByteArray) (l0_3:List (SDoc)):Option (Int):=(spec_l1Count.f k a0_0 a0_1 a0_2 l0_3).bind fun t443=>(some t443)
set_option maxHeartbeats 8000000 in
set_option maxRecDepth 100000 in
theorem spec_DocSize.calls (k:Nat) (a0_0:Int) (a0_1:Int) (a0_2:ByteArray) (A0_3:Option Addr) (c0_3:Nat) (l0_3:List (SDoc)) (r:Int) (w:World) (hr0_3:Kd.C k27 w A0_3 l0_3.length l0_3) (hc0_3:l0_3.length≤c0_3) (h:spec_DocSize.f k a0_0 a0_1 a0_2 l0_3=some r) :
  Calls Try.prog 29 #[.agg #[.int .i64 a0_0,.int .i64 a0_1,.string a0_2,.slice A0_3 l0_3.length c0_3]] w fun e w'=>e=.returned (.int .i64 r)∧Below w.heap.size w w':=by
 have hu27:=Try.underlying27
 have HR0_3:=Aside0.mk hr0_3
 have HC0_3:=Aside0.mk hc0_3
 clear hr0_3 hc0_3
 have HB:=Aside0.mk (Below.refl w.heap.size w)
 have H:((spec_l1Count.f k a0_0 a0_1 a0_2 l0_3).bind fun t443=>(some t443))=some r:=h
 clear h
 replace H:=Option.bind_eq_some_iff.mp H
 obtain ⟨t443,A20,H⟩:=H
 replace H:(some t443)=some r:=H
 have A2:=Aside0.mk A20
 clear A20
 obtain rfl:=Option.some.inj H
 go_enter Try.func29,Try.ntmps29
 go_wp2_with (first|((with_reducible refine gate_dst (N:=1) rfl ?_);refine box_event ?hg (N:=1) ?hd (cs:=#[.int .i64 a0_0,.int .i64 a0_1,.string a0_2,.slice A0_3 l0_3.length c0_3]) (t:=27) ?hr ?_;(case hd=>rfl);(case hg=>rfl);(case hr=>first|(go_simp;done)|(go_simp;rfl));intro gb442 hg w3 hbox hb;have n0_:=Aside0.mk (below_step (by repeat (first|(with_reducible first|exact HB.out|apply below_alloc|apply pw_below_drewN|apply below_drew1)|exact HB.out)) hb);have n1_:=Aside0.mk (hbox);have n2_:=Aside0.mk ((by rw [hg];exact (below_size (by repeat (first|(with_reducible first|exact HB.out|apply below_alloc|apply pw_below_drewN|apply below_drew1)|exact HB.out))):w.heap.size≤gb442));have n3_:=Aside0.mk ((by rw [hg];exact (below_size (by repeat (first|(with_reducible first|exact HB.out|apply below_alloc|apply pw_below_drewN|apply below_drew1)|exact HB.out))):w.heap.size≤gb442));clear HB;have HB:=n0_;have BK442:=n1_;have GW442:=n2_;have GE442:=n3_;clear n0_ n1_ n2_ n3_;clear hb hbox hg;have hcz4_0:w3.cell? ⟨gb442,0,none⟩=some (.int .i64 a0_0):=(blk_cell BK442.out 0).trans rfl;have hcz4_1:w3.cell? ⟨gb442,1,none⟩=some (.int .i64 a0_1):=(blk_cell BK442.out 1).trans rfl;have hcz4_2:w3.cell? ⟨gb442,2,none⟩=some (.string a0_2):=(blk_cell BK442.out 2).trans rfl;have hcz4_3:w3.cell? ⟨gb442,3,none⟩=some (.slice A0_3 l0_3.length c0_3):=(blk_cell BK442.out 3).trans rfl;have hfz4_0:=blk_frozen BK442.out 0;have hfz4_1:=blk_frozen BK442.out 1;have hfz4_2:=blk_frozen BK442.out 2;have hfz4_3:=blk_frozen BK442.out 3)|((with_reducible refine gate_callee (f:=54) rfl ?_);refine goesL_ (some 4) rfl rfl Try.func54 (by kernel_rfl) rfl #[.agg #[.int .i64 a0_0,.int .i64 a0_1,.string a0_2,.slice A0_3 l0_3.length c0_3]] rfl (by (try simp only [List.map_toArray,List.map_cons,List.map_nil]);first|done|rfl|(simp only [List.length_drop,List.length_take];rfl)) ?_;(with_reducible refine (spec_l1Count.calls k a0_0 a0_1 a0_2 _ _ l0_3 t443 _ ?side1 ?side2 A2.out).mono ?_);(case side1=>repeat (first|exact (Kd.C_below HR0_3.out HB.out)|(with_reducible refine Kd.C_alloc ?_ _)|(with_reducible refine Kd.C_drewN ?_ _)|(with_reducible refine Kd.C_drew ?_)));(case side2=>exact HC0_3.out);rintro e w5 ⟨rfl,hb⟩;refine ⟨_,rfl,?_⟩;have n0_:=Aside0.mk (blk_below (g:=gb442) (o:=.cells #[.int .i64 a0_0,.int .i64 a0_1,.string a0_2,.slice A0_3 l0_3.length c0_3] 27 (0,0)) (by (with_reducible repeat (first|refine blk_drewN ?_ _|refine blk_drew ?_|refine blk_alloc ?_ _));exact BK442.out) hb);have n1_:=Aside0.mk (below_step (by repeat (first|(with_reducible first|exact HB.out|apply below_alloc|apply pw_below_drewN|apply below_drew1|refine below_set ?_ GE442.out)|exact HB.out)) hb);clear BK442;clear HB;have BK442:=n0_;have HB:=n1_;clear n0_ n1_;(try clear hb);(try clear hb2);(try clear hk);(try clear hi)))
 go_ret
 exact ⟨by first|rfl|(simp [errW_none,errW_some] <;> rfl)|(simp [*,errW_none,errW_some] <;> rfl),by repeat (first|(with_reducible first|exact HB.out|apply below_alloc|apply pw_below_drewN|apply below_drew1|refine below_set ?_ GE442.out)|exact HB.out)⟩
end Go.Proofs.Ytdhdfmmefghijaa.P
namespace Go.Proofs.Ytdhdfmmefghijaa.Pure
open Go.RowKit Go.Proofs.Ytdhdfmmefghijaa.P Go.Proofs.YtdhdfmmefghijaaW.PrintWords Go.Proofs.YtdhdfmmefghijaaW.PrintLast Go.Proofs.YtdhdfmmefghijaaW.PrintMore
set_option linter.unusedVariables false
set_option linter.unusedSimpArgs false
theorem w64 {i:Int} (h0:-9223372036854775808≤i) (h:i≤9223372036854775807):wrap64 i=i:=by unfold wrap64;omega
theorem Ev.iff {α:Type} {c:Prop} [Decidable c] {f g:Nat→Option α} {r:α} (h1:c→Ev f r) (h2:¬ c→Ev g r):Ev (fun k=>if c then f k else g k) r:=by
  by_cases h:c
  · simp only [if_pos h];exact h1 h
  · simp only [if_neg h];exact h2 h
theorem SDoc.ind {P:SDoc→Prop} (h:∀ o n t ks,(∀ k,k ∈ ks→P k)→P ⟨o,n,t,ks⟩):∀ d,P d
  | ⟨o,n,t,ks⟩=>h o n t ks (fun k hk=>SDoc.ind h k)
termination_by d=>SizeOf.sizeOf d
decreasing_by
  have:=List.sizeOf_lt_of_mem hk
  simp
  omega
mutual
def dsz:SDoc→Nat
  | ⟨_,_,_,ks⟩=>1+dszL ks
def dszL:List SDoc→Nat
  | []=>0
  | k :: ks=>dsz k+dszL ks
end
theorem dszL_len:∀ (a:List SDoc),a.length≤dszL a
  | []=>by simp [dszL]
  | ⟨_,_,_,ks⟩ :: a=>by have:=dszL_len a;simp [dszL,dsz];omega
theorem dszL_mem:∀ {a:List SDoc} {d:SDoc},d ∈ a→dsz d≤dszL a
  | k :: a,d,h=>by
    rcases List.mem_cons.1 h with rfl | h
    · simp [dszL]
    · have:=dszL_mem h;simp [dszL];omega
theorem dsz_pos (d:SDoc):1≤dsz d:=by obtain ⟨_,_,_,ks⟩:=d;simp [dsz]
theorem rdD (a b:List SDoc) (d:SDoc):rd_TDoc (a ++ d :: b) (a.length:Int)=d:=by simp [rd_TDoc]
theorem SDoc_eta (d:SDoc):(⟨d.f0,d.f1,d.f2,d.f3⟩:SDoc)=d:=by cases d;rfl
theorem dec_eq {p q:Prop} [Decidable p] [Decidable q] (h:p ↔ q):decide p=decide q:=by
  by_cases hq:q
  · rw [decide_eq_true hq,decide_eq_true (h.2 hq)]
  · rw [decide_eq_false hq,decide_eq_false (fun hp=>hq (h.1 hp))]
end Go.Proofs.Ytdhdfmmefghijaa.Pure
namespace Go.Proofs.Ytdhdfmmefghijaa.Pure
open Go.RowKit Go.Proofs.Ytdhdfmmefghijaa.P Go.Proofs.YtdhdfmmefghijaaW.PrintWords Go.Proofs.YtdhdfmmefghijaaW.PrintLast Go.Proofs.YtdhdfmmefghijaaW.PrintMore
set_option linter.unusedVariables false
set_option linter.unusedSimpArgs false
theorem big_or {l:List Int} {f:Nat→Option Bool} (h:Ev f true):Ev (fun k=>if (l.length:Int) > 1048576 then (some true) else f k) true:=Ev.iff (fun _=>Ev.now _) (fun _=>h)
end Go.Proofs.Ytdhdfmmefghijaa.Pure
namespace Go.Proofs.Ytdhdfmmefghijaa.Pure
open Go.RowKit Go.Proofs.Ytdhdfmmefghijaa.P Go.Proofs.YtdhdfmmefghijaaW.PrintWords Go.Proofs.YtdhdfmmefghijaaW.PrintLast Go.Proofs.YtdhdfmmefghijaaW.PrintMore
set_option linter.unusedVariables false
set_option linter.unusedSimpArgs false
def Code (b:List Int):Prop:=b.length≤2000∧∀ x ∈ b,0≤x∧x < 256
theorem open_ev (l:List Int) (hl:l.length≤maxLen) (h:∀ x ∈ l,(Lit.int .u8 x).wf=true):∃ b,Code b∧spec_l15Open.f l=some (b,0):=by
  have hx:∀ x ∈ l,0≤x∧x < 256:=by
    intro x hx
    have:=h x hx
    have e1:IntKind.u8.min=0:=rfl
    have e2:IntKind.u8.max=255:=rfl
    simp [Lit.wf,e1,e2] at this
    omega
  rw [spec_l15Open.f]
  by_cases c:(l.length:Int) > 2000
  · rw [if_pos c,if_pos (by omega)]
    exact ⟨l.take 2000,⟨by rw [List.length_take];omega,fun x hx'=>hx x (List.mem_of_mem_take hx')⟩,rfl⟩
  · rw [if_neg c]
    exact ⟨l,⟨by omega,hx⟩,rfl⟩
theorem rd_in {b:List Int} (hb:Code b) (i:Int):0≤rd b i∧rd b i < 256:=by
  unfold rd
  rw [List.getD_eq_getElem?_getD]
  cases h:b[i.toNat]? with
  | none=>simp
  | some x =>
    have:=hb.2 x (List.mem_of_getElem? h)
    simpa using this
theorem xor_nonneg (x y:Int) (hx0:0≤x) (hx:x < 4611686018427387904) (hy0:0≤y) (hy:y < 4611686018427387904):0≤Go.bits .xor .i64 x y:=by
  obtain ⟨n,rfl⟩:=Int.eq_ofNat_of_zero_le hx0
  obtain ⟨m,rfl⟩:=Int.eq_ofNat_of_zero_le hy0
  have hn:n < 2 ^ 62:=by omega
  have hm:m < 2 ^ 62:=by omega
  have hxm:n ^^^ m < 2 ^ 62:=Nat.xor_lt_two_pow hn hm
  have e1:(BitVec.ofInt 64 (n:Int)).toNat=n:=by
    rw [BitVec.ofInt_natCast,BitVec.toNat_ofNat]
    exact Nat.mod_eq_of_lt (by omega)
  have e2:(BitVec.ofInt 64 (m:Int)).toNat=m:=by
    rw [BitVec.ofInt_natCast,BitVec.toNat_ofNat]
    exact Nat.mod_eq_of_lt (by omega)
  have e:Go.bits .xor .i64 (n:Int) (m:Int)=IntKind.i64.wrap ((n ^^^ m:Nat):Int):=by
    show IntKind.i64.wrap ((BitVec.ofInt 64 (n:Int) ^^^ BitVec.ofInt 64 (m:Int)).toNat:Int)=_
    rw [BitVec.toNat_xor,e1,e2]
  rw [e]
  have w:IntKind.i64.wrap ((n ^^^ m:Nat):Int)=((n ^^^ m:Nat):Int):=by
    simp [IntKind.wrap,IntKind.bits,IntKind.signed]
    omega
  rw [w]
  omega
theorem tm_in (x:Int) {n:Int} (h0:0≤x) (hn:0 < n):0≤Int.tmod x n∧Int.tmod x n < n:=⟨Int.tmod_nonneg n h0,Int.tmod_lt_of_pos x hn⟩
theorem pick_ev {b:List Int} (hb:Code b) (p n:Int) (hp0:0≤p) (hp:p≤1000000000):∃ r,Ev (fun k=>spec_l15Rd_pick.f k b p n) (r,p+1)∧0≤r∧(1≤n→r < n):=by
  have w1:wrap64 (p+1)=p+1:=w64 (by omega) (by omega)
  have w2:wrap64 (p+1 - 1)=p:=by rw [w64 (by omega) (by omega)];omega
  have hl:=hb.1
  have J0:Ev (fun k=>spec_l15Rd_pick.j0 k n true b (p+1)) (0,p+1):=by
    refine Ev.step (fun k=>by rw [spec_l15Rd_pick.j0]) ?_
    simp only [if_true]
    exact Ev.now _
  by_cases c1:n < 1
  · refine ⟨0,Ev.congr (fun k=>by rw [spec_l15Rd_pick.f,if_pos c1,w1]) J0,Int.le_refl _,fun h=>by omega⟩
  by_cases c2:(b.length:Int)=0
  · refine ⟨0,Ev.congr (fun k=>by rw [spec_l15Rd_pick.f,if_neg c1,w1,show (((b.length:Int)) == 0)=true by simpa using c2]) J0,Int.le_refl _,fun h=>by omega⟩
  have hn0:n ≠ 0:=by omega
  have start:∀ R,Ev (fun k=>spec_l15Rd_pick.j0 k n false b (p+1)) R→Ev (fun k=>spec_l15Rd_pick.f k b p n) R:=by
    intro R h
    exact Ev.congr (fun k=>by rw [spec_l15Rd_pick.f,if_neg c1,w1,show (((b.length:Int)) == 0)=false by simpa using c2]) h
  by_cases c3:p < (b.length:Int)
  · have hr:=rd_in hb p
    have w3:wrap64 (rd b p)=rd b p:=w64 (by omega) (by omega)
    have ht:=tm_in (rd b p) (n:=n) hr.1 (by omega)
    refine ⟨Int.tmod (rd b p) n,start _ (Ev.step (fun k=>by rw [spec_l15Rd_pick.j0]) ?_),ht.1,fun _=>ht.2⟩
    simp only [Bool.false_eq_true,if_false,w2,if_pos c3,if_pos hp0,if_neg hn0,w3]
    exact Ev.now _
  · have hlp:0 < (b.length:Int):=by omega
    have t1:=tm_in p hp0 hlp
    have w3:wrap64 (p * 7)=p * 7:=w64 (by omega) (by omega)
    have w4:wrap64 (p * 7+3)=p * 7+3:=w64 (by omega) (by omega)
    have t2:=tm_in (p * 7+3) (by omega) hlp
    have r1:=rd_in hb (Int.tmod p (b.length:Int))
    have r2:=rd_in hb (Int.tmod (p * 7+3) (b.length:Int))
    have d0:0≤Int.tdiv p (b.length:Int):=Int.tdiv_nonneg hp0 (by omega)
    have d1:Int.tdiv p (b.length:Int)≤p:=by
      obtain ⟨m,rfl⟩:=Int.eq_ofNat_of_zero_le hp0
      have:Int.tdiv (m:Int) (b.length:Int)=((m / b.length:Nat):Int):=rfl
      rw [this]
      exact Int.ofNat_le.2 (Nat.div_le_self _ _)
    generalize hA:rd b (Int.tmod p (b.length:Int))=A at r1
    generalize hB:rd b (Int.tmod (p * 7+3) (b.length:Int))=B at r2
    generalize hD:Int.tdiv p (b.length:Int)=D at d0 d1
    have e1:wrap64 (wrap64 A * 131)=A * 131:=by rw [w64 (i:=A) (by omega) (by omega),w64 (by omega) (by omega)]
    have e2:wrap64 (wrap64 B * 1117)=B * 1117:=by rw [w64 (i:=B) (by omega) (by omega),w64 (by omega) (by omega)]
    have e3:wrap64 (p * 29)=p * 29:=w64 (by omega) (by omega)
    have e4:wrap64 (wrap64 D * 53)=D * 53:=by rw [w64 (i:=D) (by omega) (by omega),w64 (by omega) (by omega)]
    have e5:wrap64 (A * 131+B * 1117)=A * 131+B * 1117:=w64 (by omega) (by omega)
    have e6:wrap64 (A * 131+B * 1117+p * 29)=A * 131+B * 1117+p * 29:=w64 (by omega) (by omega)
    have e7:wrap64 (A * 131+B * 1117+p * 29+D * 53)=A * 131+B * 1117+p * 29+D * 53:=w64 (by omega) (by omega)
    generalize hX:A * 131+B * 1117+p * 29+D * 53=X at e7
    have hX0:0≤X:=by omega
    have hX1:X≤1000000000000:=by omega
    have q0:0≤Int.tdiv X 64:=Int.tdiv_nonneg hX0 (by omega)
    have q1:Int.tdiv X 64≤X:=by
      obtain ⟨m,rfl⟩:=Int.eq_ofNat_of_zero_le hX0
      have:Int.tdiv (m:Int) 64=((m / 64:Nat):Int):=rfl
      rw [this]
      exact Int.ofNat_le.2 (Nat.div_le_self _ _)
    have e8:wrap64 (Int.tdiv X 64)=Int.tdiv X 64:=w64 (by omega) (by omega)
    have hx:=xor_nonneg X (Int.tdiv X 64) hX0 (by omega) q0 (by omega)
    have ht:=tm_in (Go.bits .xor .i64 X (Int.tdiv X 64)) (n:=n) hx (by omega)
    refine ⟨Int.tmod (Go.bits .xor .i64 X (Int.tdiv X 64)) n,start _ (Ev.step (fun k=>by rw [spec_l15Rd_pick.j0]) ?_),ht.1,fun _=>ht.2⟩
    simp only [Bool.false_eq_true,if_false,w2,if_neg c3,if_neg c2,w3,w4,if_pos t1.1,if_pos t1.2,if_pos t2.1,if_pos t2.2,if_neg hn0,hA,hB,hD,e1,e2,e3,e4,e5,e6,e7,hX,e8]
    exact Ev.now _
theorem of_ev {b:List Int} (hb:Code b) (p:Int) (l:List ByteArray) (hl:0 < l.length) (hp0:0≤p) (hp:p≤1000000000):∃ s,s ∈ l∧Ev (fun k=>spec_l15Rd_of.f k b p l) (s,p+1):=by
  obtain ⟨r,h,h0,h1⟩:=pick_ev hb p (l.length:Int) hp0 hp
  have h1:=h1 (by omega)
  have hr:r.toNat < l.length:=by omega
  refine ⟨rdOf ByteArray.empty l r,?_,Ev.congr (fun k=>by rw [spec_l15Rd_of.f]) (Ev.bind h ?_)⟩
  · unfold rdOf
    rw [List.getD_eq_getElem?_getD,List.getElem?_eq_getElem hr]
    exact List.getElem_mem hr
  · simp only [if_pos h0,if_pos h1]
    exact Ev.now _
theorem num_ev {b:List Int} (hb:Code b) (p:Int) (l:List Int) (hl:0 < l.length) (hp0:0≤p) (hp:p≤1000000000):∃ s,s ∈ l∧Ev (fun k=>spec_l15Rd_num.f k b p l) (s,p+1):=by
  obtain ⟨r,h,h0,h1⟩:=pick_ev hb p (l.length:Int) hp0 hp
  have h1:=h1 (by omega)
  have hr:r.toNat < l.length:=by omega
  refine ⟨rd l r,?_,Ev.congr (fun k=>by rw [spec_l15Rd_num.f]) (Ev.bind h ?_)⟩
  · unfold rd
    rw [List.getD_eq_getElem?_getD,List.getElem?_eq_getElem hr]
    exact List.getElem_mem hr
  · simp only [if_pos h0,if_pos h1]
    exact Ev.now _
end Go.Proofs.Ytdhdfmmefghijaa.Pure
namespace Go.Proofs.Ytdhdfmmefghijaa.Pure
open Go.RowKit Go.Proofs.Ytdhdfmmefghijaa.P Go.Proofs.YtdhdfmmefghijaaW.PrintWords Go.Proofs.YtdhdfmmefghijaaW.PrintLast Go.Proofs.YtdhdfmmefghijaaW.PrintMore
set_option linter.unusedVariables false
set_option linter.unusedSimpArgs false
theorem size_data (s:ByteArray):s.size=s.data.toList.length:=by rw [Array.length_toList];rfl
theorem bt_mid {s:ByteArray} {pre suf:List UInt8} {b:UInt8} (h:s.data.toList=pre ++ b :: suf):bt s (pre.length:Int)=(b.toNat:Int):=by
  have hl:pre.length < s.size:=by
    have:=congrArg List.length h
    rw [List.length_append,List.length_cons] at this
    rw [size_data];omega
  unfold bt
  rw [dif_pos (by simpa using hl)]
  have:s[(pre.length:Int).toNat]'(by simpa using hl)=b:=by
    show s.data[(pre.length:Int).toNat]'(by simpa using hl)=b
    rw [← Array.getElem_toList]
    simp [h]
  rw [this]
def signC (c:Int):Bool:=c == 44 || (c == 58 || (c == 61 || (c == 123 || (c == 125 || (c == 40 || (c == 41 || (c == 91 || c == 93)))))))
def letC (c:Int):Bool:=(decide (97≤c) && decide (c≤122)) || (decide (48≤c) && decide (c≤57))
def goodC (c:Int):Bool:=letC c || signC c
def goodB (b:UInt8):Bool:=goodC (b.toNat:Int)
def tv (s:ByteArray):Bool:=decide (1≤s.size) && (decide (s.size≤12) && s.data.toList.all goodB)
theorem specText_j3 {s:ByteArray} {i:Int} {l g R:Bool} (h:Ev (fun k=>spec_TextValid.l0 k s (wrap64 (i+1))) R):Ev (fun k=>spec_TextValid.j3 k s i l g) ((l || g) && R):=by
  refine Ev.step (fun k=>by rw [spec_TextValid.j3]) ?_
  cases l <;> cases g <;> simp
  · exact Ev.now _
  · exact h
  · exact h
  · exact h
theorem specText_j2 {s:ByteArray} {i c:Int} {l R:Bool} (h:Ev (fun k=>spec_TextValid.l0 k s (wrap64 (i+1))) R):Ev (fun k=>spec_TextValid.j2 k s i c l) ((l || signC c) && R):=by
  refine Ev.step (fun k=>by rw [spec_TextValid.j2]) ?_
  have h3:∀ g,Ev (fun k=>spec_TextValid.j3 k s i l g) ((l || g) && R):=fun g=>specText_j3 h
  repeat' refine Ev.iff (fun hc=>?_) (fun hc=>?_)
  · subst hc;exact h3 true
  · subst hc;exact h3 true
  · subst hc;exact h3 true
  · subst hc;exact h3 true
  · subst hc;exact h3 true
  · subst hc;exact h3 true
  · subst hc;exact h3 true
  · subst hc;exact h3 true
  · have e:signC c=(c == 93):=by rw [Bool.eq_iff_iff];simp [signC];omega
    rw [e];exact h3 _
theorem specText_l0 {s:ByteArray} (hs:s.size≤4611686018427387904):∀ (suf pre:List UInt8),s.data.toList=pre ++ suf→Ev (fun k=>spec_TextValid.l0 k s (pre.length:Int)) (suf.all goodB):=by
  intro suf
  induction suf with
  | nil =>
    intro pre h
    refine Ev.step (fun k=>by rw [spec_TextValid.l0]) ?_
    have c1:¬ ((pre.length:Int) < (s.size:Int)):=by rw [size_data,h];simp
    simp only [if_neg c1]
    exact Ev.now _
  | cons b suf ih =>
    intro pre h
    have hl:pre.length < s.size:=by rw [size_data,h];simp
    refine Ev.step (fun k=>by rw [spec_TextValid.l0]) ?_
    have c1:(pre.length:Int) < (s.size:Int):=by omega
    have c2:(0:Int)≤(pre.length:Int):=by omega
    simp only [if_pos c1,if_pos c2,bt_mid h]
    have hn:Ev (fun k=>spec_TextValid.l0 k s (wrap64 ((pre.length:Int)+1))) (suf.all goodB):=by
      rw [w64 (by omega) (by omega)]
      have:=ih (pre ++ [b]) (by rw [h];simp)
      rw [show ((pre ++ [b]).length:Int)=(pre.length:Int)+1 by simp] at this
      exact this
    have h2:∀ l,l=letC (b.toNat:Int)→Ev (fun k=>spec_TextValid.j2 k s (pre.length:Int) (b.toNat:Int) l) ((b :: suf).all goodB):=by
      intro l hl
      rw [List.all_cons,goodB,goodC,← hl]
      exact specText_j2 hn
    repeat' refine Ev.iff (fun hc=>?_) (fun hc=>?_)
    all_goals refine h2 _ ?_
    all_goals simp [letC, *]
    all_goals omega
theorem specText_ev (s:ByteArray) (hs:s.size≤4611686018427387904):Ev (fun k=>spec_TextValid.f k s) (tv s):=by
  refine Ev.congr (fun k=>by rw [spec_TextValid.f]) ?_
  have hl:=specText_l0 hs s.data.toList [] rfl
  have h0:∀ b,Ev (fun k=>spec_TextValid.j0 k s b) (!b && s.data.toList.all goodB):=by
    intro b
    refine Ev.step (fun k=>by rw [spec_TextValid.j0]) ?_
    cases b
    · simpa using hl
    · exact Ev.now _
  refine Ev.iff (fun hc=>?_) (fun hc=>?_)
  · have:=h0 true
    rwa [show (!true && s.data.toList.all goodB)=tv s from by simp [tv];omega] at this
  · have:=h0 (decide ((s.size:Int) > 12))
    rwa [show (!decide ((s.size:Int) > 12) && s.data.toList.all goodB)=tv s from by
      have e1:decide (1≤s.size)=true:=by simp;omega
      by_cases h12:s.size≤12
      · have:¬ ((s.size:Int) > 12):=by omega
        simp [tv,e1,h12,this]
      · have:(s.size:Int) > 12:=by omega
        simp [tv,h12,this]] at this
theorem sign_idx:∀ n:Nat,n < 256→(decide (Lib.indexByte [44,58,61,123,125,40,41,91,93] (UInt8.ofNat n) ≥ 0))=signC (n:Int):=by decide +kernel
theorem implText_j1 {s:ByteArray} {i:Int} {g R:Bool} (h:Ev (fun k=>impl_TextValid.l0 k s (wrap64 (i+1))) R):Ev (fun k=>impl_TextValid.j1 k s i (!g)) (g && R):=by
  refine Ev.step (fun k=>by rw [impl_TextValid.j1]) ?_
  cases g <;> simp
  · exact Ev.now _
  · exact h
theorem implText_l0 {s:ByteArray} (hs:s.size≤4611686018427387904):∀ (suf pre:List UInt8),s.data.toList=pre ++ suf→Ev (fun k=>impl_TextValid.l0 k s (pre.length:Int)) (suf.all goodB && (decide (1≤s.size) && decide (s.size≤12))):=by
  intro suf
  induction suf with
  | nil =>
    intro pre h
    refine Ev.step (fun k=>by rw [impl_TextValid.l0]) ?_
    have c1:¬ ((pre.length:Int) < (s.size:Int)):=by rw [size_data,h];simp
    simp only [if_neg c1]
    refine Ev.iff (fun hc=>?_) (fun hc=>?_)
    · rw [show (([]:List UInt8).all goodB && (decide (1≤s.size) && decide (s.size≤12)))=decide ((s.size:Int)≤12) from by
        have:1≤s.size:=by omega
        simp [this];omega]
      exact Ev.now _
    · rw [show (([]:List UInt8).all goodB && (decide (1≤s.size) && decide (s.size≤12)))=false from by
        have:¬ 1≤s.size:=by omega
        simp [this]]
      exact Ev.now _
  | cons b suf ih =>
    intro pre h
    have hl:pre.length < s.size:=by rw [size_data,h];simp
    refine Ev.step (fun k=>by rw [impl_TextValid.l0]) ?_
    have c1:(pre.length:Int) < (s.size:Int):=by omega
    have c2:(0:Int)≤(pre.length:Int):=by omega
    simp only [if_pos c1,if_pos c2,bt_mid h]
    have hn:Ev (fun k=>impl_TextValid.l0 k s (wrap64 ((pre.length:Int)+1))) (suf.all goodB && (decide (1≤s.size) && decide (s.size≤12))):=by
      rw [w64 (by omega) (by omega)]
      have:=ih (pre ++ [b]) (by rw [h];simp)
      rw [show ((pre ++ [b]).length:Int)=(pre.length:Int)+1 by simp] at this
      exact this
    have h2:∀ g,g=goodC (b.toNat:Int)→Ev (fun k=>impl_TextValid.j1 k s (pre.length:Int) (!g)) ((b :: suf).all goodB && (decide (1≤s.size) && decide (s.size≤12))):=by
      intro g hg
      rw [List.all_cons,goodB,← hg,Bool.and_assoc]
      exact implText_j1 hn
    have hb:b.toNat < 256:=b.toNat_lt
    have hi:strings_IndexByte.f (⟨#[44,58,61,123,125,40,41,91,93]⟩:ByteArray) (b.toNat:Int)=some (Lib.indexByte [44,58,61,123,125,40,41,91,93] (UInt8.ofNat b.toNat)):=by
      simp [strings_IndexByte.f]
    have hsg:=sign_idx b.toNat hb
    simp only [hi,Option.bind_some,hsg]
    repeat' refine Ev.iff (fun hc=>?_) (fun hc=>?_)
    all_goals refine h2 _ ?_
    all_goals
      have e:letC (b.toNat:Int)=true ∨ letC (b.toNat:Int)=false:=by cases letC (b.toNat:Int) <;> simp
      rcases e with e | e <;> simp [goodC,e] <;> (simp [letC] at e;omega)
theorem implText_ev (s:ByteArray) (hs:s.size≤4611686018427387904):Ev (fun k=>impl_TextValid.f k s) (tv s):=by
  refine Ev.congr (fun k=>by rw [impl_TextValid.f]) ?_
  have hl:=implText_l0 hs s.data.toList [] rfl
  rwa [show (s.data.toList.all goodB && (decide (1≤s.size) && decide (s.size≤12)))=tv s from by
    simp only [tv]
    cases s.data.toList.all goodB <;> simp] at hl
end Go.Proofs.Ytdhdfmmefghijaa.Pure
namespace Go.Proofs.Ytdhdfmmefghijaa.Pure
open Go.RowKit Go.Proofs.Ytdhdfmmefghijaa.P Go.Proofs.YtdhdfmmefghijaaW.PrintWords Go.Proofs.YtdhdfmmefghijaaW.PrintLast Go.Proofs.YtdhdfmmefghijaaW.PrintMore
set_option linter.unusedVariables false
set_option linter.unusedSimpArgs false
mutual
/-- nodes and bytes of texts -/
def msz:SDoc→Nat
  | ⟨_,_,t,ks⟩=>1+t.size+mszL ks
def mszL:List SDoc→Nat
  | []=>0
  | k :: ks=>msz k+mszL ks
end
theorem mszL_len:∀ (a:List SDoc),a.length≤mszL a
  | []=>by simp [mszL]
  | ⟨_,_,_,ks⟩ :: a=>by have:=mszL_len a;simp [mszL,msz];omega
theorem mszL_mem:∀ {a:List SDoc} {d:SDoc},d ∈ a→msz d≤mszL a
  | k :: a,d,h=>by
    rcases List.mem_cons.1 h with rfl | h
    · simp [mszL]
    · have:=mszL_mem h;simp [mszL];omega
theorem mszL_app:∀ (a b:List SDoc),mszL (a ++ b)=mszL a+mszL b
  | [],b=>by simp [mszL]
  | k :: a,b=>by simp [mszL,mszL_app a b];omega
theorem dsz_msz:∀ d:SDoc,dsz d≤msz d:=by
  intro d
  induction d using SDoc.ind with
  | h o n t ks ih =>
    have key:∀ l:List SDoc,(∀ k,k ∈ l→dsz k≤msz k)→dszL l≤mszL l:=by
      intro l
      induction l with
      | nil=>intro _;simp [dszL,mszL]
      | cons y l ihl =>
        intro hl
        have h1:=hl y List.mem_cons_self
        have h2:=ihl (fun k hk=>hl k (List.mem_cons_of_mem _ hk))
        simp only [dszL,mszL]
        omega
    have:=key ks ih
    simp only [dsz,msz]
    omega
theorem specCount_loop (o n:Int) (t:ByteArray) (suf:List SDoc):∀ (pre:List SDoc) (acc:Int),
    (∀ y,y ∈ suf→Ev (fun k=>spec_l1Count.f k y.f0 y.f1 y.f2 y.f3) (dsz y:Int))→0≤acc→acc+dszL suf≤9223372036854775807→pre.length+suf.length≤4611686018427387904 →
    Ev (fun k=>spec_l1Count.l0 k acc (pre.length:Int) o n t (pre ++ suf)) (acc+dszL suf):=by
  induction suf with
  | nil =>
    intro pre acc _ h0 hs hm
    refine Ev.step (fun k=>by rw [spec_l1Count.l0]) ?_
    simp only [List.append_nil,Int.lt_irrefl,if_false,dszL,Int.natCast_zero,Int.add_zero]
    exact Ev.now _
  | cons y suf ih =>
    intro pre acc hy h0 hs hm
    simp only [List.length_cons,dszL] at hm hs
    refine Ev.step (fun k=>by rw [spec_l1Count.l0]) ?_
    have c1:(pre.length:Int) < ((pre ++ y :: suf).length:Int):=by simp;omega
    have c2:(0:Int)≤(pre.length:Int):=by omega
    simp only [if_pos c1,if_pos c2,rdD]
    refine Ev.bind (hy y List.mem_cons_self) ?_
    rw [w64 (i:=acc+dsz y) (by omega) (by omega),w64 (by omega) (by omega)]
    have:=ih (pre ++ [y]) (acc+dsz y) (fun z hz=>hy z (List.mem_cons_of_mem _ hz)) (by omega) (by omega) (by simp;omega)
    rw [List.append_assoc,show ((pre ++ [y]).length:Int)=(pre.length:Int)+1 by simp] at this
    rw [show acc+(dszL (y :: suf):Int)=acc+dsz y+dszL suf by simp [dszL];omega]
    exact this
theorem specCount_ev:∀ (d:SDoc),dsz d≤4611686018427387904→Ev (fun k=>spec_l1Count.f k d.f0 d.f1 d.f2 d.f3) (dsz d:Int):=by
  intro d
  induction d using SDoc.ind with
  | h o n t ks ih =>
    intro hd
    simp only [dsz] at hd
    refine Ev.step (fun k=>by rw [spec_l1Count.f]) ?_
    have:=specCount_loop o n t ks [] 1 (fun y hy=>ih y hy (by have:=dszL_mem hy;omega)) (by omega) (by omega) (by have:=dszL_len ks;simp;omega)
    rw [show ((dsz ⟨o,n,t,ks⟩:Nat):Int)=1+(dszL ks:Int) by simp [dsz]]
    simpa using this
end Go.Proofs.Ytdhdfmmefghijaa.Pure
namespace Go.Proofs.Ytdhdfmmefghijaa.Pure
open Go.RowKit Go.Proofs.Ytdhdfmmefghijaa.P Go.Proofs.YtdhdfmmefghijaaW.PrintWords Go.Proofs.YtdhdfmmefghijaaW.PrintLast Go.Proofs.YtdhdfmmefghijaaW.PrintMore
set_option linter.unusedVariables false
set_option linter.unusedSimpArgs false
theorem toList_data (bs:ByteArray):bs.toList=bs.data.toList:=by
  have key:∀ (n i:Nat) (r:List UInt8),bs.size - i=n→ByteArray.toList.loop bs i r=r.reverse ++ bs.data.toList.drop i:=by
    intro n
    induction n with
    | zero =>
      intro i r h
      rw [ByteArray.toList.loop]
      have:¬ i < bs.size:=by omega
      simp [this]
      omega
    | succ n ih =>
      intro i r h
      rw [ByteArray.toList.loop]
      have hi:i < bs.size:=by omega
      simp only [hi,if_true]
      rw [ih (i+1) _ (by omega)]
      have h2:i < bs.data.toList.length:=by rw [Array.length_toList];exact hi
      rw [List.drop_eq_getElem_cons h2]
      have h3:i < bs.data.size:=hi
      have:bs.get! i=bs.data.toList[i]:=by
        simp [ByteArray.get!,Array.getElem!_eq_getD,Array.getD,hi]
      simp [this]
  unfold ByteArray.toList
  rw [key bs.size 0 [] (by omega)]
  simp
theorem toList_nil {a:ByteArray}:a.toList=[] ↔ a.size=0:=by
  rw [toList_data,size_data,List.length_eq_zero_iff]
def nodeOk (o n:Int) (t:ByteArray) (len:Nat):Bool :=
  decide (1≤o) && (decide (o≤8) && (decide ((len:Int)=docKids o) && (decide (0≤n) && (decide (n≤9) && (decide (n=0 ∨ o=6) && (if o=2 then tv t else decide (t.size=0)))))))
mutual
def wf:SDoc→Nat→Bool
  | ⟨o,n,t,ks⟩,deep=>decide (deep ≠ 0) && (nodeOk o n t ks.length && wfL ks (deep - 1))
def wfL:List SDoc→Nat→Bool
  | [],_=>true
  | k :: ks,deep=>wf k deep && wfL ks deep
end
def docV (d:SDoc):Bool:=wf d 40 && decide (dsz d≤80)
theorem wfL_all:∀ (ks:List SDoc) (deep:Nat),wfL ks deep=ks.all fun k=>wf k deep
  | [],_=>rfl
  | k :: ks,deep=>by rw [wfL,wfL_all ks deep,List.all_cons]
theorem dszL_cons (y:SDoc) (l:List SDoc):dszL (y :: l)=dsz y+dszL l:=rfl
theorem dsz_mk (o n:Int) (t:ByteArray) (ks:List SDoc):dsz ⟨o,n,t,ks⟩=1+dszL ks:=rfl
theorem wfL_cons (y:SDoc) (l:List SDoc) (deep:Nat):wfL (y :: l) deep=true ↔ wf y deep=true∧wfL l deep=true:=by rw [wfL,Bool.and_eq_true]
theorem wf_mk (o n:Int) (t:ByteArray) (ks:List SDoc) (deep:Nat):wf ⟨o,n,t,ks⟩ deep=true ↔ deep ≠ 0∧nodeOk o n t ks.length=true∧wfL ks (deep - 1)=true:=by rw [wf,Bool.and_eq_true,Bool.and_eq_true,decide_eq_true_eq]
theorem nodeOk_iff (o n:Int) (t:ByteArray) (len:Nat):nodeOk o n t len=true ↔ 1≤o∧o≤8∧(len:Int)=docKids o∧0≤n∧n≤9∧(n=0 ∨ o=6)∧(if o=2 then tv t else decide (t.size=0))=true:=by
  simp only [nodeOk,Bool.and_eq_true,decide_eq_true_eq]
theorem docV_iff (d:SDoc):docV d=true ↔ wf d 40=true∧dsz d≤80:=by rw [docV,Bool.and_eq_true,decide_eq_true_eq]
theorem implOk_loop (deep:Nat) (hdp:deep≤40) (suf:List SDoc):∀ (pre:List SDoc) (left:Int),
    (∀ y,y ∈ suf→∀ left:Int,0≤left→left≤80→∃ b l',Ev (fun k=>impl_docOk.f k y.f0 y.f1 y.f2 y.f3 (wrap64 ((deep:Int) - 1)) left) (b,l')∧(b=true ↔ wf y (deep - 1)=true∧(dsz y:Int)≤left)∧(b=true→l'=left - dsz y)) →
    0≤left→left≤80→pre.length+suf.length≤4611686018427387904 →
    ∃ b l',Ev (fun k=>impl_docOk.l0 k (pre ++ suf) (pre.length:Int) (deep:Int) left) (b,l')∧(b=true ↔ wfL suf (deep - 1)=true∧(dszL suf:Int)≤left)∧(b=true→l'=left - dszL suf):=by
  induction suf with
  | nil =>
    intro pre left _ h0 h1 hm
    refine ⟨true,left,?_,by simp [wfL,dszL,h0],fun _=>by simp [dszL]⟩
    refine Ev.step (fun k=>by rw [impl_docOk.l0]) ?_
    simp only [List.append_nil,Int.lt_irrefl,if_false]
    exact Ev.now _
  | cons y suf ih =>
    intro pre left hy h0 h1 hm
    simp only [List.length_cons] at hm
    obtain ⟨b,l1,he,hb,hl⟩:=hy y List.mem_cons_self left h0 h1
    have c1:(pre.length:Int) < ((pre ++ y :: suf).length:Int):=by simp;omega
    have c2:(0:Int)≤(pre.length:Int):=by omega
    have hp:=dsz_pos y
    rw [dszL_cons,wfL_cons]
    cases b with
    | false =>
      have hnb : ¬ (wf y (deep - 1) = true ∧ (dsz y : Int) ≤ left) := fun h => by have := hb.2 h; cases this
      refine ⟨false,l1,?_,?_,fun h=>by cases h⟩
      · refine Ev.step (fun k=>by rw [impl_docOk.l0]) ?_
        simp only [if_pos c1,if_pos c2,rdD]
        refine Ev.bind he ?_
        simp only [Bool.false_eq_true,if_false]
        exact Ev.now _
      · refine ⟨fun h=>(by cases h),fun h=>absurd ⟨h.1.1,?_⟩ hnb⟩
        have:=h.2
        omega
    | true =>
      obtain ⟨hw,hle⟩:=hb.1 rfl
      obtain rfl:=hl rfl
      obtain ⟨b2,l2,he2,hb2,hl2⟩:=ih (pre ++ [y]) (left - dsz y) (fun z hz=>hy z (List.mem_cons_of_mem _ hz)) (by omega) (by omega) (by simp;omega)
      refine ⟨b2,l2,?_,?_,fun h=>?_⟩
      · refine Ev.step (fun k=>by rw [impl_docOk.l0]) ?_
        simp only [if_pos c1,if_pos c2,rdD]
        refine Ev.bind he ?_
        simp only [if_true]
        rw [w64 (by omega) (by omega)]
        rw [List.append_assoc,show ((pre ++ [y]).length:Int)=(pre.length:Int)+1 by simp] at he2
        exact he2
      · rw [hb2]
        constructor
        · intro h;exact ⟨⟨hw,h.1⟩,by have:=h.2;omega⟩
        · intro h;exact ⟨h.1.2,by have:=h.2;omega⟩
      · have:=hl2 h
        omega
theorem implOk_ev:∀ (d:SDoc),msz d≤1099511627776→∀ (deep:Nat),deep≤40→∀ (left:Int),0≤left→left≤80 →
    ∃ b l',Ev (fun k=>impl_docOk.f k d.f0 d.f1 d.f2 d.f3 (deep:Int) left) (b,l')∧(b=true ↔ wf d deep=true∧(dsz d:Int)≤left)∧(b=true→l'=left - dsz d):=by
  intro d
  induction d using SDoc.ind with
  | h o n t ks ih =>
    intro hd deep hdp left h0 h1
    simp only [msz] at hd
    have hkl:=mszL_len ks
    have hwl:wrap64 (left - 1)=left - 1:=w64 (by omega) (by omega)
    rw [wf_mk,dsz_mk,nodeOk_iff]
    by_cases a1:(deep:Int)=0 ∨ wrap64 (left - 1) < 0 ∨ o < 1 ∨ 8 < o
    · refine ⟨false,wrap64 (left - 1),?_,⟨fun h=>(by cases h),fun h=>?_⟩,fun h=>by cases h⟩
      · refine Ev.step (fun k=>by rw [impl_docOk.f]) ?_
        simp only [if_pos a1]
        exact Ev.now _
      · exfalso
        rw [hwl] at a1
        obtain ⟨⟨h1,⟨h2,h3,_⟩,_⟩,h4⟩:=h
        omega
    · have hd0:deep ≠ 0:=fun e=>a1 (.inl (by omega))
      have hl0:¬ (left - 1 < 0):=fun e=>a1 (.inr (.inl (by omega)))
      have ho1:¬ o < 1:=fun e=>a1 (.inr (.inr (.inl e)))
      have ho8:¬ 8 < o:=fun e=>a1 (.inr (.inr (.inr e)))
      by_cases a2:¬ ((ks.length:Int)=docKids o) ∨ n < 0 ∨ 9 < n ∨ (0 < n∧¬ (o=6))
      · refine ⟨false,wrap64 (left - 1),?_,⟨fun h=>(by cases h),fun h=>?_⟩,fun h=>by cases h⟩
        · refine Ev.step (fun k=>by rw [impl_docOk.f]) ?_
          simp only [if_neg a1,if_pos a2]
          exact Ev.now _
        · exfalso
          obtain ⟨⟨_,⟨_,_,h3,h4,h5,h6,_⟩,_⟩,_⟩:=h
          rcases a2 with a | a | a | a
          · exact a h3
          · omega
          · omega
          · rcases h6 with h6 | h6
            · omega
            · exact a.2 h6
      · have b3:(ks.length:Int)=docKids o:=Decidable.not_not.1 (fun e=>a2 (.inl e))
        have b4:¬ n < 0:=fun e=>a2 (.inr (.inl e))
        have b5:¬ 9 < n:=fun e=>a2 (.inr (.inr (.inl e)))
        have b6:n=0 ∨ o=6:=by
          by_cases hn:0 < n
          · exact .inr (Decidable.not_not.1 (fun e=>a2 (.inr (.inr (.inr ⟨hn,e⟩)))))
          · exact .inl (by omega)
        -- the loop
        obtain ⟨b,l2,he2,hb2,hl2⟩:=implOk_loop deep hdp ks [] (left - 1) (fun y hy left' h0' h1'=>by
            have hym:=mszL_mem hy
            obtain ⟨b',l',h,h',h''⟩:=ih y hy (by omega) (deep - 1) (by omega) left' h0' h1'
            refine ⟨b',l',?_,h',h''⟩
            rw [w64 (by omega) (by omega),show ((deep:Int) - 1)=((deep - 1:Nat):Int) by omega]
            exact h) (by omega) (by omega) (by simp;omega)
        have hloop:Ev (fun k=>impl_docOk.l0 k ks 0 (deep:Int) (wrap64 (left - 1))) (b,l2):=by rw [hwl];simpa using he2
        have good:∀ x:Prop,x→((b=true ↔ (deep ≠ 0∧(1≤o∧o≤8∧(ks.length:Int)=docKids o∧0≤n∧n≤9∧(n=0 ∨ o=6)∧x)∧wfL ks (deep - 1)=true)∧((1+dszL ks:Nat):Int)≤left)∧(b=true→l2=left - ((1+dszL ks:Nat):Int))):=by
          intro x hx
          refine ⟨?_, fun h => by have := hl2 h; omega⟩
          rw [hb2]
          constructor
          · intro h;exact ⟨⟨hd0,⟨by omega,by omega,b3,by omega,by omega,b6,hx⟩,h.1⟩,by have:=h.2;omega⟩
          · intro h;exact ⟨h.1.2.2,by have:=h.2;omega⟩
        have bad:∀ x:Prop,¬ x→(((false:Bool)=true ↔ (deep ≠ 0∧(1≤o∧o≤8∧(ks.length:Int)=docKids o∧0≤n∧n≤9∧(n=0 ∨ o=6)∧x)∧wfL ks (deep - 1)=true)∧((1+dszL ks:Nat):Int)≤left)∧((false:Bool)=true→wrap64 (left - 1)=left - ((1+dszL ks:Nat):Int))):=by
          intro x hx
          exact ⟨⟨fun h=>(by cases h),fun h=>absurd h.1.2.1.2.2.2.2.2.2 hx⟩,fun h=>by cases h⟩
        by_cases e9:o=2
        · have hT:=implText_ev t (by omega)
          rw [if_pos e9]
          cases htv:tv t with
          | false =>
            refine ⟨false,wrap64 (left - 1),?_,bad _ (by simp)⟩
            refine Ev.step (fun k=>by rw [impl_docOk.f]) ?_
            simp only [if_neg a1,if_neg a2,if_pos e9]
            refine Ev.bind hT ?_
            simp only [htv,Bool.false_eq_true,if_false]
            exact Ev.now _
          | true =>
            refine ⟨b,l2,?_,good _ rfl⟩
            refine Ev.step (fun k=>by rw [impl_docOk.f]) ?_
            simp only [if_neg a1,if_neg a2,if_pos e9]
            refine Ev.bind hT ?_
            simp only [htv,if_true]
            exact hloop
        · rw [if_neg e9,decide_eq_true_eq]
          by_cases e10:t.toList=[]
          · have hz:=toList_nil.1 e10
            refine ⟨b,l2,?_,good _ hz⟩
            refine Ev.step (fun k=>by rw [impl_docOk.f]) ?_
            simp only [if_neg a1,if_neg a2,if_neg e9,if_pos e10]
            exact hloop
          · have hz:¬ t.size=0:=fun e=>e10 (toList_nil.2 e)
            refine ⟨false,wrap64 (left - 1),?_,bad _ hz⟩
            refine Ev.step (fun k=>by rw [impl_docOk.f]) ?_
            simp only [if_neg a1,if_neg a2,if_neg e9,if_neg e10]
            exact Ev.now _
theorem implValid_ev (d:SDoc) (hd:msz d≤1099511627776):Ev (fun k=>impl_DocValid.f k d.f0 d.f1 d.f2 d.f3) (docV d):=by
  obtain ⟨b,l',h,hb,_⟩:=implOk_ev d hd 40 (by omega) 80 (by omega) (by omega)
  refine Ev.congr (fun k=>by rw [impl_DocValid.f]) ?_
  refine Ev.bind (h:Ev (fun k=>impl_docOk.f k d.f0 d.f1 d.f2 d.f3 40 80) _) ?_
  rw [show docV d=b from by
    rw [Bool.eq_iff_iff,hb,docV_iff]
    constructor
    · intro h;exact ⟨h.1,by have:=h.2;omega⟩
    · intro h;exact ⟨h.1,by have:=h.2;omega⟩]
  exact Ev.now _
theorem specKids_ev (o:Int):Ev (fun k=>spec_l1Kids.f k o) (if o < 1 ∨ 8 < o then -1 else docKids o):=by
  have j1:∀ b,Ev (fun k=>spec_l1Kids.j1 k o b) (if b=true then 1 else if o=7 then 2 else -1):=by
    intro b
    refine Ev.step (fun k=>by rw [spec_l1Kids.j1]) ?_
    cases b
    · simp only [Bool.false_eq_true,if_false]
      by_cases h:o=7
      · simp only [if_pos h];exact Ev.now _
      · simp only [if_neg h];exact Ev.now _
    · exact Ev.now _
  have j0:∀ b,Ev (fun k=>spec_l1Kids.j0 k o b) (if b=true then 0 else if o=6 ∨ o=8 then 1 else if o=7 then 2 else -1):=by
    intro b
    refine Ev.step (fun k=>by rw [spec_l1Kids.j0]) ?_
    cases b
    · simp only [Bool.false_eq_true,if_false]
      by_cases h:o=6
      · simp only [if_pos h]
        have:=j1 (o == 6)
        rw [h] at this ⊢
        simpa using this
      · simp only [if_neg h]
        have:=j1 (o == 8)
        by_cases h8:o=8
        · rw [h8] at this ⊢
          simpa using this
        · rw [show (o == 8)=false by simpa using h8] at this ⊢
          simpa [h,h8] using this
    · exact Ev.now _
  refine Ev.congr (fun k=>by rw [spec_l1Kids.f]) ?_
  have fin:∀ x b,(o=x→b=true)→(b=true→1≤o∧o≤5)→(b=false→¬ (1≤o∧o≤5))→Ev (fun k=>spec_l1Kids.j0 k o b) (if o < 1 ∨ 8 < o then -1 else docKids o):=by
    intro x b _ h1 h2
    have:=j0 b
    cases b
    · have:=h2 rfl
      rename_i this'
      rw [show (if o < 1 ∨ 8 < o then -1 else docKids o)=(if (false:Bool)=true then 0 else if o=6 ∨ o=8 then 1 else if o=7 then 2 else -1) from by
        by_cases q:o < 1 ∨ 8 < o
        · have:¬ (o=6 ∨ o=8):=by omega
          have:¬ o=7:=by omega
          simp [*]
        · have:o=6 ∨ o=7 ∨ o=8:=by omega
          rcases this with rfl | rfl | rfl <;> simp [docKids]]
      exact this'
    · have:=h1 rfl
      rename_i this'
      rw [show (if o < 1 ∨ 8 < o then -1 else docKids o)=0 from by
        have q:¬ (o < 1 ∨ 8 < o):=by omega
        rw [if_neg q]
        have:o=1 ∨ o=2 ∨ o=3 ∨ o=4 ∨ o=5:=by omega
        rcases this with rfl | rfl | rfl | rfl | rfl <;> rfl]
      exact this'
  repeat' refine Ev.iff (fun hc=>?_) (fun hc=>?_)
  · subst hc;exact fin 1 _ (fun _=>rfl) (fun _=>by omega) (fun h=>by cases h)
  · subst hc;exact fin 2 _ (fun _=>rfl) (fun _=>by omega) (fun h=>by cases h)
  · subst hc;exact fin 3 _ (fun _=>rfl) (fun _=>by omega) (fun h=>by cases h)
  · subst hc;exact fin 4 _ (fun _=>rfl) (fun _=>by omega) (fun h=>by cases h)
  · refine fin 5 _ (fun h => by simp [h]) (fun h => by have : o = 5 := by simpa using h
                                                       omega) (fun h => by have : ¬ o = 5 := by simpa using h
                                                                           omega)
theorem specIs_loop (o n:Int) (t:ByteArray) (deep:Nat) (suf:List SDoc):∀ (pre:List SDoc),
    (∀ y,y ∈ suf→Ev (fun k=>spec_l1Is.f k y.f0 y.f1 y.f2 y.f3 (wrap64 ((deep:Int) - 1))) (wf y (deep - 1)))→pre.length+suf.length≤4611686018427387904 →
    Ev (fun k=>spec_l1Is.l0 k (deep:Int) (pre.length:Int) o n t (pre ++ suf)) (wfL suf (deep - 1)):=by
  induction suf with
  | nil =>
    intro pre _ hm
    refine Ev.step (fun k=>by rw [spec_l1Is.l0]) ?_
    simp only [List.append_nil,Int.lt_irrefl,if_false]
    exact Ev.now _
  | cons y suf ih =>
    intro pre hy hm
    simp only [List.length_cons] at hm
    have c1:(pre.length:Int) < ((pre ++ y :: suf).length:Int):=by simp;omega
    have c2:(0:Int)≤(pre.length:Int):=by omega
    refine Ev.step (fun k=>by rw [spec_l1Is.l0]) ?_
    simp only [if_pos c1,if_pos c2,rdD]
    refine Ev.bind (hy y List.mem_cons_self) ?_
    cases hw:wf y (deep - 1) with
    | false =>
      simp only [Bool.false_eq_true,if_false]
      rw [show wfL (y :: suf) (deep - 1)=false from by rw [wfL,hw,Bool.false_and]]
      exact Ev.now _
    | true =>
      simp only [if_true]
      rw [w64 (by omega) (by omega),show wfL (y :: suf) (deep - 1)=wfL suf (deep - 1) from by rw [wfL,hw,Bool.true_and]]
      have:=ih (pre ++ [y]) (fun z hz=>hy z (List.mem_cons_of_mem _ hz)) (by simp;omega)
      rw [List.append_assoc,show ((pre ++ [y]).length:Int)=(pre.length:Int)+1 by simp] at this
      exact this
theorem specIs_ev:∀ (d:SDoc),msz d≤1099511627776→∀ (deep:Nat),deep≤40→Ev (fun k=>spec_l1Is.f k d.f0 d.f1 d.f2 d.f3 (deep:Int)) (wf d deep):=by
  intro d
  induction d using SDoc.ind with
  | h o n t ks ih =>
    intro hd deep hdp
    simp only [msz] at hd
    have hkl:=mszL_len ks
    have hloop:deep ≠ 0→Ev (fun k=>spec_l1Is.l0 k (deep:Int) 0 o n t ks) (wfL ks (deep - 1)):=fun h0=>by
      have:=specIs_loop o n t deep ks [] (fun y hy=>by
        have hym:=mszL_mem hy
        rw [w64 (by omega) (by omega),show ((deep:Int) - 1)=((deep - 1:Nat):Int) by omega]
        exact ih y hy (by omega) (deep - 1) (by omega)) (by simp;omega)
      simpa using this
    -- the tests,from the last one on
    have j2:deep ≠ 0→∀ b,Ev (fun k=>spec_l1Is.j2 k (deep:Int) b o n t ks) (!b && wfL ks (deep - 1)):=fun h0 b=>by
      refine Ev.step (fun k=>by rw [spec_l1Is.j2]) ?_
      cases b
      · simpa using hloop h0
      · exact Ev.now _
    have j1:deep ≠ 0→∀ b,Ev (fun k=>spec_l1Is.j1 k (deep:Int) b o n t ks) (!b && (decide ((o=6∧0≤n∧n≤9) ∨ (o ≠ 6∧n=0)) && wfL ks (deep - 1))):=fun h0 b=>by
      refine Ev.step (fun k=>by rw [spec_l1Is.j1]) ?_
      cases b
      · simp only [Bool.false_eq_true,if_false,Bool.not_false,Bool.true_and]
        have fin:∀ b,(b=true ↔ ¬ ((o=6∧0≤n∧n≤9) ∨ (o ≠ 6∧n=0)))→Ev (fun k=>spec_l1Is.j2 k (deep:Int) b o n t ks) (decide ((o=6∧0≤n∧n≤9) ∨ (o ≠ 6∧n=0)) && wfL ks (deep - 1)):=fun b hb=>by
          have:=j2 h0 b
          rwa [show (!b)=decide ((o=6∧0≤n∧n≤9) ∨ (o ≠ 6∧n=0)) from by
            rw [Bool.eq_iff_iff,decide_eq_true_eq]
            cases b
            · have : (o = 6 ∧ 0 ≤ n ∧ n ≤ 9) ∨ (o ≠ 6 ∧ n = 0) := Decidable.not_not.1 (fun h => by have := hb.2 h; cases this)
              simpa using this
            · have:=hb.1 rfl
              simpa using this] at this
        repeat' refine Ev.iff (fun hc=>?_) (fun hc=>?_)
        · exact fin true ⟨fun _=>by omega,fun _=>rfl⟩
        · exact fin true ⟨fun _=>by omega,fun _=>rfl⟩
        · exact fin false ⟨fun h=>(by cases h),fun h=>absurd (by omega) h⟩
        · refine fin (n != 0) ⟨fun h=>?_,fun h=>?_⟩
          · have:¬ n=0:=by simpa using h
            omega
          · have:¬ n=0:=by omega
            simpa using this
      · exact Ev.now _
    have j0:deep ≠ 0→∀ b,Ev (fun k=>spec_l1Is.j0 k (deep:Int) b o n t ks) (!b && ((if o=2 then tv t else decide (t.size=0)) && (decide ((o=6∧0≤n∧n≤9) ∨ (o ≠ 6∧n=0)) && wfL ks (deep - 1)))):=fun h0 b=>by
      refine Ev.step (fun k=>by rw [spec_l1Is.j0]) ?_
      cases b
      · simp only [Bool.false_eq_true,if_false,Bool.not_false,Bool.true_and]
        by_cases h2:o=2
        · simp only [if_pos h2]
          refine Ev.bind (specText_ev t (by omega)) ?_
          cases tv t
          · simp only [Bool.false_eq_true,if_false]
            exact j1 h0 true
          · simp only [if_true]
            exact j1 h0 false
        · simp only [if_neg h2]
          have:=j1 h0 (t.toList != ([]:List UInt8))
          rwa [show (!(t.toList != ([]:List UInt8)))=decide (t.size=0) from by
            rw [Bool.eq_iff_iff,decide_eq_true_eq,← toList_nil];simp] at this
      · exact Ev.now _
    refine Ev.step (fun k=>by rw [spec_l1Is.f]) ?_
    by_cases h0:deep=0
    · subst h0
      simp only [Int.natCast_zero,if_true]
      rw [show wf ⟨o,n,t,ks⟩ 0=false from by rw [wf];simp]
      refine Ev.step (fun k=>by rw [spec_l1Is.j0]) ?_
      exact Ev.now _
    · have c0:¬ (deep:Int)=0:=by omega
      simp only [if_neg c0]
      refine Ev.bind (specKids_ev o) ?_
      have:=j0 h0 ((ks.length:Int) != (if o < 1 ∨ 8 < o then -1 else docKids o))
      rwa [show (!((ks.length:Int) != (if o < 1 ∨ 8 < o then -1 else docKids o)) && ((if o=2 then tv t else decide (t.size=0)) && (decide ((o=6∧0≤n∧n≤9) ∨ (o ≠ 6∧n=0)) && wfL ks (deep - 1))))=wf ⟨o,n,t,ks⟩ deep from by
        rw [Bool.eq_iff_iff,wf_mk,nodeOk_iff]
        simp only [Bool.and_eq_true,decide_eq_true_eq,Bool.not_eq_true',bne_eq_false_iff_eq]
        generalize (if o=2 then tv t else decide (t.size=0))=tt
        constructor
        · rintro ⟨h1,h2,h3,h4⟩
          by_cases q:o < 1 ∨ 8 < o
          · rw [if_pos q] at h1;omega
          · rw [if_neg q] at h1
            exact ⟨h0,⟨by omega,by omega,h1,by omega,by omega,by omega,h2⟩,h4⟩
        · rintro ⟨_,⟨h1,h2,h3,h4,h5,h6,h7⟩,h8⟩
          have q:¬ (o < 1 ∨ 8 < o):=by omega
          rw [if_neg q]
          exact ⟨h3,h7,by omega,h8⟩] at this
theorem specValid_ev (d:SDoc) (hd:msz d≤1099511627776):Ev (fun k=>spec_DocValid.f k d.f0 d.f1 d.f2 d.f3) (docV d):=by
  refine Ev.congr (fun k=>by rw [spec_DocValid.f]) ?_
  refine Ev.bind (specIs_ev d hd 40 (by omega)) ?_
  cases hw:wf d 40 with
  | false =>
    simp only [Bool.false_eq_true,if_false]
    rw [show docV d=false from by rw [docV,hw,Bool.false_and]]
    exact Ev.now _
  | true =>
    simp only [if_true]
    have:=dsz_msz d
    refine Ev.bind (specCount_ev d (by omega)) ?_
    rw [show docV d=decide ((dsz d:Int)≤80) from by rw [docV,hw,Bool.true_and];exact dec_eq (by omega)]
    exact Ev.now _
end Go.Proofs.Ytdhdfmmefghijaa.Pure
namespace Go.Proofs.Ytdhdfmmefghijaa.Pure
open Go.RowKit Go.Proofs.Ytdhdfmmefghijaa.P Go.Proofs.YtdhdfmmefghijaaW.PrintWords Go.Proofs.YtdhdfmmefghijaaW.PrintLast Go.Proofs.YtdhdfmmefghijaaW.PrintMore
set_option linter.unusedVariables false
set_option linter.unusedSimpArgs false
def ba (l:List UInt8):ByteArray:=⟨l.toArray⟩
theorem ba_size (l:List UInt8):(ba l).size=l.length:=by simp [ba,ByteArray.size]
theorem ba_data (l:List UInt8):(ba l).data.toList=l:=by simp [ba]
theorem ba_of (s:ByteArray):ba s.data.toList=s:=by
  obtain ⟨⟨l⟩⟩:=s
  rfl
theorem ba_extract (l:List UInt8) (i j:Nat):(ba l).extract i j=ba ((l.drop i).take (j - i)):=by
  apply ByteArray.ext
  apply Array.ext'
  simp [ba,List.take_drop]
def pW:List UInt8→Option (List UInt8 × List UInt8)
  | []=>none
  | c :: s=>if (c.toNat:Int)=34 then some ([],s) else (pW s).map fun q=>(c :: q.1,q.2)
def pK (f:List UInt8→Option (SDoc × List UInt8)):Nat→Int→List UInt8→Option (List SDoc × List UInt8)
  | 0,_,[]=>none
  | 0,e,c :: r=>if (c.toNat:Int)=e then some ([],r) else none
  | m+1,e,s=>(f s).bind fun q=>(pK f m e q.2).map fun p=>(q.1 :: p.1,p.2)
def hd60:List UInt8→Bool
  | []=>false
  | c :: _=>(c.toNat:Int) == 60
def pN (f:List UInt8→Option (SDoc × List UInt8)):List UInt8→Option (SDoc × List UInt8)
  | []=>none
  | c :: s =>
    if (c.toNat:Int)=126 then some (⟨1,0,ba [],[]⟩,s) else if (c.toNat:Int)=95 then some (⟨3,0,ba [],[]⟩,s)
    else if (c.toNat:Int)=46 then some (⟨4,0,ba [],[]⟩,s) else if (c.toNat:Int)=33 then some (⟨5,0,ba [],[]⟩,s)
    else if (c.toNat:Int)=34 then (pW s).map fun q=>(⟨2,0,ba q.1,[]⟩,q.2)
    else if (c.toNat:Int)=40 then (pK f 2 41 s).map fun q=>(⟨7,0,ba [],q.1⟩,q.2)
    else if (c.toNat:Int)=91 then (pK f 1 93 s).map fun q=>(⟨8,0,ba [],q.1⟩,q.2)
    else if 48≤(c.toNat:Int)∧(c.toNat:Int)≤57∧hd60 s=true then (pK f 1 62 s.tail).map fun q=>(⟨6,(c.toNat:Int) - 48,ba [],q.1⟩,q.2)
    else none
def pD:Nat→List UInt8→Option (SDoc × List UInt8)
  | 0=>fun _=>none
  | n+1=>pN (pD n)
theorem pW_is:∀ {s a r:List UInt8},pW s=some (a,r)→∃ c:UInt8,(c.toNat:Int)=34∧s=a ++ c :: r
  | c :: s,a,r,h=>by
    rw [pW] at h
    by_cases e:(c.toNat:Int)=34
    · rw [if_pos e] at h
      obtain ⟨rfl,rfl⟩:=Prod.mk.inj (Option.some.inj h)
      exact ⟨c,e,rfl⟩
    · rw [if_neg e] at h
      obtain ⟨⟨a',r'⟩,h1,h2⟩:=Option.map_eq_some_iff.1 h
      obtain ⟨rfl,rfl⟩:=Prod.mk.inj h2
      obtain ⟨c',hc,hs⟩:=pW_is h1
      exact ⟨c',hc,by rw [hs];rfl⟩
def Good (f:List UInt8→Option (SDoc × List UInt8)):Prop:=∀ s d r,f s=some (d,r)→msz d+r.length≤s.length∧∃ u,s=u ++ r
theorem pK_good {f} (hf:Good f):∀ (m:Nat) (e:Int) (s:List UInt8) (ks:List SDoc) (r:List UInt8),pK f m e s=some (ks,r)→ks.length=m∧mszL ks+1+r.length≤s.length∧∃ u,s=u ++ r
  | 0,e,[],ks,r,h=>by simp [pK] at h
  | 0,e,c :: s,ks,r,h=>by
    rw [pK] at h
    by_cases e':(c.toNat:Int)=e
    · rw [if_pos e'] at h
      obtain ⟨rfl,rfl⟩:=Prod.mk.inj (Option.some.inj h)
      exact ⟨rfl,by simp [mszL];omega,[c],rfl⟩
    · rw [if_neg e'] at h;cases h
  | m+1,e,s,ks,r,h=>by
    rw [pK] at h
    obtain ⟨⟨d,r1⟩,h1,h⟩:=Option.bind_eq_some_iff.1 h
    obtain ⟨⟨l,r2⟩,h2,h⟩:=Option.map_eq_some_iff.1 h
    obtain ⟨rfl,rfl⟩:=Prod.mk.inj h
    obtain ⟨g1,u1,e1⟩:=hf _ _ _ h1
    obtain ⟨g2,g3,u2,e2⟩:=pK_good hf m e _ _ _ h2
    simp only at g3 e2
    refine ⟨by simp [g2],?_,u1 ++ u2,by rw [e1,e2,List.append_assoc]⟩
    simp only [mszL]
    have:r1.length=u2.length+r2.length:=by rw [e2,List.length_append]
    omega
theorem pN_good {f} (hf:Good f):Good (pN f):=by
  intro s d r h
  match s,h with
  | c :: s,h =>
    rw [pN] at h
    by_cases c1:(c.toNat:Int)=126
    · rw [if_pos c1] at h;obtain ⟨rfl,rfl⟩:=Prod.mk.inj (Option.some.inj h)
      exact ⟨by simp [msz,mszL,ba_size];omega,[c],rfl⟩
    rw [if_neg c1] at h
    by_cases c2:(c.toNat:Int)=95
    · rw [if_pos c2] at h;obtain ⟨rfl,rfl⟩:=Prod.mk.inj (Option.some.inj h)
      exact ⟨by simp [msz,mszL,ba_size];omega,[c],rfl⟩
    rw [if_neg c2] at h
    by_cases c3:(c.toNat:Int)=46
    · rw [if_pos c3] at h;obtain ⟨rfl,rfl⟩:=Prod.mk.inj (Option.some.inj h)
      exact ⟨by simp [msz,mszL,ba_size];omega,[c],rfl⟩
    rw [if_neg c3] at h
    by_cases c4:(c.toNat:Int)=33
    · rw [if_pos c4] at h;obtain ⟨rfl,rfl⟩:=Prod.mk.inj (Option.some.inj h)
      exact ⟨by simp [msz,mszL,ba_size];omega,[c],rfl⟩
    rw [if_neg c4] at h
    by_cases c5:(c.toNat:Int)=34
    · rw [if_pos c5] at h
      obtain ⟨⟨a,r'⟩,h1,h2⟩:=Option.map_eq_some_iff.1 h
      obtain ⟨rfl,rfl⟩:=Prod.mk.inj h2
      obtain ⟨q,_,rfl⟩:=pW_is h1
      exact ⟨by simp [msz,mszL,ba_size];omega,c :: a ++ [q],by simp⟩
    rw [if_neg c5] at h
    by_cases c6:(c.toNat:Int)=40
    · rw [if_pos c6] at h
      obtain ⟨⟨a,r'⟩,h1,h2⟩:=Option.map_eq_some_iff.1 h
      obtain ⟨rfl,rfl⟩:=Prod.mk.inj h2
      obtain ⟨_,g,u,rfl⟩:=pK_good hf _ _ _ _ _ h1
      exact ⟨by simp [msz,ba_size] at g ⊢;omega,c :: u,by simp⟩
    rw [if_neg c6] at h
    by_cases c7:(c.toNat:Int)=91
    · rw [if_pos c7] at h
      obtain ⟨⟨a,r'⟩,h1,h2⟩:=Option.map_eq_some_iff.1 h
      obtain ⟨rfl,rfl⟩:=Prod.mk.inj h2
      obtain ⟨_,g,u,rfl⟩:=pK_good hf _ _ _ _ _ h1
      exact ⟨by simp [msz,ba_size] at g ⊢;omega,c :: u,by simp⟩
    rw [if_neg c7] at h
    by_cases c8:48≤(c.toNat:Int)∧(c.toNat:Int)≤57∧hd60 s=true
    · rw [if_pos c8] at h
      obtain ⟨⟨a,r'⟩,h1,h2⟩:=Option.map_eq_some_iff.1 h
      obtain ⟨rfl,rfl⟩:=Prod.mk.inj h2
      obtain ⟨_,g,u,e⟩:=pK_good hf _ _ _ _ _ h1
      match s,c8,e,g with
      | [],c8,_,_=>simp [hd60] at c8
      | q :: s,_,e,g =>
        simp only [List.tail_cons] at e g
        subst e
        exact ⟨by simp [msz,ba_size] at g ⊢;omega,c :: q :: u,by simp⟩
    · rw [if_neg c8] at h;cases h
theorem pD_good:∀ n,Good (pD n)
  | 0=>fun s d r h=>by simp [pD] at h
  | n+1=>pN_good (pD_good n)
def endAt (N:Nat) {α:Type}:Option (α × List UInt8)→Int
  | some q=>(N:Int) - (q.2.length:Int)
  | none=>-1
def parseR (L:List UInt8):Option SDoc:=match pD 40 L with
  | some (d,[])=>if docV d=true then some d else none
  | _=>none
def docR:Option SDoc→Int × Int × ByteArray × List SDoc × Bool
  | some d=>(d.f0,d.f1,d.f2,d.f3,true)
  | none=>(0,0,⟨#[]⟩,[],false)
end Go.Proofs.Ytdhdfmmefghijaa.Pure
namespace Go.Proofs.Ytdhdfmmefghijaa.Pure
open Go.RowKit Go.Proofs.Ytdhdfmmefghijaa.P Go.Proofs.YtdhdfmmefghijaaW.PrintWords Go.Proofs.YtdhdfmmefghijaaW.PrintLast Go.Proofs.YtdhdfmmefghijaaW.PrintMore
set_option linter.unusedVariables false
set_option linter.unusedSimpArgs false
theorem bt_at {L pre suf:List UInt8} {c:UInt8} (h:L=pre ++ c :: suf):bt (ba L) (pre.length:Int)=(c.toNat:Int):=bt_mid (s:=ba L) (by rw [ba_data];exact h)
def wordR (N:Nat) (mid:List UInt8):Option (List UInt8 × List UInt8)→Int × Int × ByteArray × List SDoc × Int
  | some q=>(2,0,ba (mid ++ q.1),[],(N:Int) - (q.2.length:Int))
  | none=>(0,0,⟨#[]⟩,[],-1)
theorem specWord_loop {L pre:List UInt8} {c0:UInt8} (hL:L.length≤1099511627776):∀ (suf mid:List UInt8),L=pre ++ c0 :: (mid ++ suf) →
    Ev (fun k=>spec_l1Word.l0 k (ba L) (pre.length:Int) ((pre.length+1+mid.length:Nat):Int)) (wordR L.length mid (pW suf)):=by
  intro suf
  induction suf with
  | nil =>
    intro mid h
    have hl:L.length=pre.length+1+mid.length:=by rw [h];simp;omega
    refine Ev.step (fun k=>by rw [spec_l1Word.l0]) ?_
    simp only [ba_size,if_neg (show ¬ (((pre.length+1+mid.length:Nat):Int) < (L.length:Int)) by omega)]
    refine Ev.step (fun k=>by rw [spec_l1Word.j1]) ?_
    simp only [ba_size,if_pos (show ((pre.length+1+mid.length:Nat):Int) ≥ (L.length:Int) by omega)]
    exact Ev.now _
  | cons c suf ih =>
    intro mid h
    have hl:L.length=pre.length+1+mid.length+1+suf.length:=by rw [h];simp;omega
    have hb:bt (ba L) ((pre.length+1+mid.length:Nat):Int)=(c.toNat:Int):=by
      have:=bt_at (L:=L) (pre:=pre ++ c0 :: mid) (suf:=suf) (c:=c) (by rw [h];simp)
      rw [show ((pre.length+1+mid.length:Nat):Int)=(((pre ++ c0 :: mid).length:Nat):Int) by simp;omega]
      exact this
    refine Ev.step (fun k=>by rw [spec_l1Word.l0]) ?_
    simp only [ba_size,if_pos (show ((pre.length+1+mid.length:Nat):Int) < (L.length:Int) by omega),if_pos (show (0:Int)≤((pre.length+1+mid.length:Nat):Int) by omega),hb]
    rw [pW]
    by_cases e:(c.toNat:Int)=34
    · simp only [if_pos e]
      refine Ev.step (fun k=>by rw [spec_l1Word.j1]) ?_
      have w1:wrap64 ((pre.length:Int)+1)=((pre.length+1:Nat):Int):=by rw [w64 (by omega) (by omega)];omega
      have w2:wrap64 (((pre.length+1+mid.length:Nat):Int)+1)=(L.length:Int) - (suf.length:Int):=by rw [w64 (by omega) (by omega)];omega
      have hx:(ba L).extract (((pre.length+1:Nat):Int).toNat) (((pre.length+1+mid.length:Nat):Int).toNat)=ba mid:=by
        rw [ba_extract,Int.toNat_natCast,Int.toNat_natCast,h,show pre ++ c0 :: (mid ++ c :: suf)=(pre ++ [c0]) ++ (mid ++ c :: suf) by simp,List.drop_left' (by simp),List.take_left' (by omega)]
      simp only [ba_size,if_neg (show ¬ (((pre.length+1+mid.length:Nat):Int) ≥ (L.length:Int)) by omega),w1,w2,if_pos (show (0:Int)≤((pre.length+1:Nat):Int) by omega),
        if_pos (show ((pre.length+1:Nat):Int)≤((pre.length+1+mid.length:Nat):Int) by omega),if_pos (show ((pre.length+1+mid.length:Nat):Int)≤(L.length:Int) by omega),hx]
      simp only [wordR,List.append_nil]
      exact Ev.now _
    · simp only [if_neg e]
      have w1:wrap64 (((pre.length+1+mid.length:Nat):Int)+1)=((pre.length+1+(mid ++ [c]).length:Nat):Int):=by rw [w64 (by omega) (by omega)];simp;omega
      rw [w1]
      have:=ih (mid ++ [c]) (by rw [h];simp)
      have e2:wordR L.length (mid ++ [c]) (pW suf)=wordR L.length mid ((pW suf).map fun q=>(c :: q.1,q.2)):=by
        cases pW suf <;> simp [wordR]
      rw [← e2]
      exact this
def RdS (L:List UInt8) (n:Nat):Prop:=∀ pre suf:List UInt8,L=pre ++ suf→∃ d:SDoc,Ev (fun k=>spec_l1Read.f k (ba L) (pre.length:Int) (n:Int)) (d.f0,d.f1,d.f2,d.f3,endAt L.length (pD n suf))∧∀ d' r,pD n suf=some (d',r)→d'=d
theorem specInner_loop {L:List UInt8} (hL:L.length≤1099511627776) {n:Nat} (hn:n+1≤40) (IH:RdS L n) (e:Int) (x2:Nat) (hx2:x2≤2):∀ (m:Nat),m≤x2→∀ (pre suf:List UInt8) (out:List SDoc),L=pre ++ suf→out.length+m=x2 →
    ∃ l:List SDoc,Ev (fun k=>spec_l1Inner.l0 k (ba L) (pre.length:Int) (x2:Int) e ((n+1:Nat):Int) out (out.length:Int)) (l,endAt L.length (pK (pD n) m e suf))∧∀ ks r,pK (pD n) m e suf=some (ks,r)→l=out ++ ks:=by
  intro m
  induction m with
  | zero =>
    intro _ pre suf out h ho
    refine ⟨out,Ev.step (fun k=>by rw [spec_l1Inner.l0]) ?_,?_⟩
    · simp only [if_neg (show ¬ ((out.length:Int) < (x2:Int)) by omega),ba_size]
      match suf,h with
      | [],h =>
        have hl:L.length=pre.length:=by rw [h];simp
        simp only [if_pos (show (pre.length:Int) ≥ (L.length:Int) by omega)]
        exact Ev.now _
      | c :: suf,h =>
        have hl:L.length=pre.length+1+suf.length:=by rw [h];simp;omega
        simp only [if_neg (show ¬ ((pre.length:Int) ≥ (L.length:Int)) by omega),if_pos (show (0:Int)≤(pre.length:Int) by omega),if_pos (show (pre.length:Int) < (L.length:Int) by omega),bt_at h,pK]
        by_cases c1:(c.toNat:Int)=e
        · simp only [if_pos c1]
          rw [w64 (by omega) (by omega),show endAt L.length (some (([]:List SDoc),suf))=(pre.length:Int)+1 by simp [endAt];omega]
          exact Ev.now _
        · simp only [if_neg c1]
          exact Ev.now _
    · intro ks r hk
      match suf,hk with
      | [],hk=>simp [pK] at hk
      | c :: suf,hk =>
        rw [pK] at hk
        by_cases c1:(c.toNat:Int)=e
        · rw [if_pos c1] at hk
          obtain ⟨rfl,rfl⟩:=Prod.mk.inj (Option.some.inj hk)
          simp
        · rw [if_neg c1] at hk;cases hk
  | succ m ih =>
    intro hm pre suf out h ho
    obtain ⟨d,hd,hd'⟩:=IH pre suf h
    have w1:wrap64 (((n+1:Nat):Int) - 1)=(n:Int):=by rw [w64 (by omega) (by omega)];omega
    have c1:(out.length:Int) < (x2:Int):=by omega
    cases hp:pD n suf with
    | none =>
      rw [hp] at hd
      refine ⟨out,Ev.step (fun k=>by rw [spec_l1Inner.l0]) ?_,?_⟩
      · simp only [if_pos c1,w1]
        refine Ev.bind hd ?_
        simp only [endAt,show ((-1:Int) < 0)=True by simp,if_true]
        rw [pK,hp]
        exact Ev.now _
      · intro ks r hk
        rw [pK,hp] at hk
        cases hk
    | some q =>
      obtain ⟨d1,r1⟩:=q
      obtain rfl:=hd' d1 r1 hp
      obtain ⟨_,u,rfl⟩:=pD_good n _ _ _ hp
      have hl:L.length=pre.length+u.length+r1.length:=by rw [h];simp;omega
      obtain ⟨l,hl1,hl2⟩:=ih (by omega) (pre ++ u) r1 (out ++ [d1]) (by rw [h];simp) (by simp;omega)
      rw [hp] at hd
      have e1:endAt L.length (some (d1,r1))=(((pre ++ u).length:Nat):Int):=by simp [endAt];omega
      rw [e1] at hd
      refine ⟨l,Ev.step (fun k=>by rw [spec_l1Inner.l0]) ?_,?_⟩
      · simp only [if_pos c1,w1]
        refine Ev.bind hd ?_
        simp only [if_neg (show ¬ ((((pre ++ u).length:Nat):Int) < 0) by omega),if_pos (show out.length < 2513169434916 by omega),SDoc_eta]
        rw [w64 (by omega) (by omega),show (out.length:Int)+1=((out ++ [d1]).length:Int) by simp]
        rw [pK,hp]
        have e2:endAt L.length (((some (d1,r1)).bind fun q=>(pK (pD n) m e q.2).map fun p=>(q.1 :: p.1,p.2)):Option (List SDoc × List UInt8))=endAt L.length (pK (pD n) m e r1):=by
          simp only [Option.bind_some]
          cases pK (pD n) m e r1 <;> rfl
        rw [e2]
        exact hl1
      · intro ks r hk
        rw [pK,hp] at hk
        simp only [Option.bind_some] at hk
        obtain ⟨⟨l2,r2⟩,h1,h2⟩:=Option.map_eq_some_iff.1 hk
        obtain ⟨rfl,rfl⟩:=Prod.mk.inj h2
        rw [hl2 l2 r2 h1]
        simp
theorem specRead_ev {L:List UInt8} (hL:L.length≤1099511627776):∀ n:Nat,n≤40→RdS L n:=by
  intro n
  induction n with
  | zero =>
    intro _ pre suf h
    refine ⟨⟨0,0,⟨#[]⟩,[]⟩,Ev.step (fun k=>by rw [spec_l1Read.f]) ?_,fun d' r hp=>by simp [pD] at hp⟩
    have J:Ev (fun k=>spec_l1Read.j0 k (ba L) (pre.length:Int) ((0:Nat):Int) true) (0,0,(⟨#[]⟩:ByteArray),([]:List SDoc),-1):=by
      refine Ev.step (fun k=>by rw [spec_l1Read.j0]) ?_
      simp only [if_true]
      exact Ev.now _
    exact Ev.iff (fun _=>J) (fun _=>J)
  | succ n ih =>
    intro hn pre suf h
    have IH:=ih (by omega)
    match suf,h with
    | [],h =>
      have hl:L.length=pre.length:=by rw [h];simp
      refine ⟨⟨0,0,⟨#[]⟩,[]⟩,Ev.step (fun k=>by rw [spec_l1Read.f]) ?_,fun d' r hp=>by simp [pD,pN] at hp⟩
      simp only [ba_size,if_pos (show (pre.length:Int) ≥ (L.length:Int) by omega)]
      refine Ev.step (fun k=>by rw [spec_l1Read.j0]) ?_
      simp only [if_true]
      exact Ev.now _
    | c :: suf,h =>
      have hl:L.length=pre.length+1+suf.length:=by rw [h];simp;omega
      have h':L=(pre ++ [c]) ++ suf:=by rw [h];simp
      have w1:wrap64 ((pre.length:Int)+1)=(((pre ++ [c]).length:Nat):Int):=by rw [w64 (by omega) (by omega)];simp
      have start:∀ R,Ev (fun k=>spec_l1Read.j0 k (ba L) (pre.length:Int) ((n+1:Nat):Int) false) R→Ev (fun k=>spec_l1Read.f k (ba L) (pre.length:Int) ((n+1:Nat):Int)) R:=by
        intro R hR
        refine Ev.step (fun k=>by rw [spec_l1Read.f]) ?_
        simp only [ba_size,if_neg (show ¬ ((pre.length:Int) ≥ (L.length:Int)) by omega)]
        rw [show (((n+1:Nat):Int) == 0)=false by simp;omega]
        exact hR
      have inner:∀ (pre' suf':List UInt8) (m:Nat) (e:Int),L=pre' ++ suf'→m≤2→∃ l:List SDoc,Ev (fun k=>spec_l1Inner.f k (ba L) (pre'.length:Int) (m:Int) e ((n+1:Nat):Int)) (l,endAt L.length (pK (pD n) m e suf'))∧∀ ks r,pK (pD n) m e suf'=some (ks,r)→l=ks:=by
        intro pre' suf' m e hp hm
        obtain ⟨l,h1,h2⟩:=specInner_loop hL (by omega) IH e m hm m (Nat.le_refl _) pre' suf' [] hp (by simp)
        exact ⟨l,Ev.step (fun k=>by rw [spec_l1Inner.f];rfl) h1,fun ks r hk=>by rw [h2 ks r hk];rfl⟩
      have leafs:∀ o:Int,pD (n+1) (c :: suf)=some (⟨o,0,ba [],[]⟩,suf)→Ev (fun k=>spec_l1Read.j0 k (ba L) (pre.length:Int) ((n+1:Nat):Int) false) (o,0,(⟨#[]⟩:ByteArray),([]:List SDoc),(((pre ++ [c]).length:Nat):Int)) →
          ∃ d:SDoc,Ev (fun k=>spec_l1Read.f k (ba L) (pre.length:Int) ((n+1:Nat):Int)) (d.f0,d.f1,d.f2,d.f3,endAt L.length (pD (n+1) (c :: suf)))∧∀ d' r,pD (n+1) (c :: suf)=some (d',r)→d'=d:=by
        intro o hp hR
        refine ⟨⟨o,0,ba [],[]⟩,start _ ?_,fun d' r hd=>by rw [hp] at hd;exact (Prod.mk.inj (Option.some.inj hd)).1.symm⟩
        rw [hp,show endAt L.length (some ((⟨o,0,ba [],[]⟩:SDoc),suf))=(((pre ++ [c]).length:Nat):Int) by simp [endAt];omega]
        exact hR
      have J:∀ R,(Ev (fun k=>if (c.toNat:Int)=126 then (some ((1:Int),(0:Int),(⟨#[]⟩:ByteArray),([]:List SDoc),(((pre ++ [c]).length:Nat):Int))) else (if (c.toNat:Int)=95 then (some (3,0,(⟨#[]⟩:ByteArray),([]:List SDoc),(((pre ++ [c]).length:Nat):Int))) else (if (c.toNat:Int)=46 then (some (4,0,(⟨#[]⟩:ByteArray),([]:List SDoc),(((pre ++ [c]).length:Nat):Int))) else (if (c.toNat:Int)=33 then (some (5,0,(⟨#[]⟩:ByteArray),([]:List SDoc),(((pre ++ [c]).length:Nat):Int))) else (if (c.toNat:Int)=34 then ((spec_l1Word.f k (ba L) (pre.length:Int)).bind fun b=>(some (b.1,b.2.1,b.2.2.1,b.2.2.2.1,b.2.2.2.2))) else (if (c.toNat:Int)=40 then ((spec_l1Inner.f k (ba L) (((pre ++ [c]).length:Nat):Int) 2 41 ((n+1:Nat):Int)).bind fun b=>(some (7,0,(⟨#[]⟩:ByteArray),b.1,b.2))) else (if (c.toNat:Int)=91 then ((spec_l1Inner.f k (ba L) (((pre ++ [c]).length:Nat):Int) 1 93 ((n+1:Nat):Int)).bind fun b=>(some (8,0,(⟨#[]⟩:ByteArray),b.1,b.2))) else (if (c.toNat:Int) ≥ 48 then (if (c.toNat:Int)≤57 then (if (((pre ++ [c]).length:Nat):Int) < (L.length:Int) then (if 0≤(((pre ++ [c]).length:Nat):Int) then (spec_l1Read.j1 k (ba L) (pre.length:Int) ((n+1:Nat):Int) ((bt (ba L) (((pre ++ [c]).length:Nat):Int)) == 60)) else (none)) else (spec_l1Read.j1 k (ba L) (pre.length:Int) ((n+1:Nat):Int) false)) else (spec_l1Read.j1 k (ba L) (pre.length:Int) ((n+1:Nat):Int) false)) else (spec_l1Read.j1 k (ba L) (pre.length:Int) ((n+1:Nat):Int) false))))))))) R) →
          Ev (fun k=>spec_l1Read.j0 k (ba L) (pre.length:Int) ((n+1:Nat):Int) false) R:=by
        intro R hR
        refine Ev.step (fun k=>by rw [spec_l1Read.j0]) ?_
        simp only [Bool.false_eq_true,if_false,if_pos (show (0:Int)≤(pre.length:Int) by omega),ba_size,if_pos (show (pre.length:Int) < (L.length:Int) by omega),bt_at h,w1]
        exact hR
      by_cases c1:(c.toNat:Int)=126
      · refine leafs 1 (by rw [pD,pN,if_pos c1]) (J _ ?_)
        simp only [if_pos c1];exact Ev.now _
      by_cases c2:(c.toNat:Int)=95
      · refine leafs 3 (by rw [pD,pN,if_neg c1,if_pos c2]) (J _ ?_)
        simp only [if_neg c1,if_pos c2];exact Ev.now _
      by_cases c3:(c.toNat:Int)=46
      · refine leafs 4 (by rw [pD,pN,if_neg c1,if_neg c2,if_pos c3]) (J _ ?_)
        simp only [if_neg c1,if_neg c2,if_pos c3];exact Ev.now _
      by_cases c4:(c.toNat:Int)=33
      · refine leafs 5 (by rw [pD,pN,if_neg c1,if_neg c2,if_neg c3,if_pos c4]) (J _ ?_)
        simp only [if_neg c1,if_neg c2,if_neg c3,if_pos c4];exact Ev.now _
      by_cases c5:(c.toNat:Int)=34
      · have hp:pD (n+1) (c :: suf)=(pW suf).map fun q=>(⟨2,0,ba q.1,[]⟩,q.2):=by rw [pD,pN,if_neg c1,if_neg c2,if_neg c3,if_neg c4,if_pos c5]
        have hw:=specWord_loop (L:=L) (pre:=pre) (c0:=c) hL suf [] h
        have hw':Ev (fun k=>spec_l1Word.f k (ba L) (pre.length:Int)) (wordR L.length [] (pW suf)):=by
          refine Ev.congr (fun k=>by rw [spec_l1Word.f]) ?_
          rw [w64 (by omega) (by omega),show (pre.length:Int)+1=((pre.length+1+([]:List UInt8).length:Nat):Int) by simp]
          exact hw
        rw [hp]
        cases hq:pW suf with
        | none =>
          rw [hq] at hw'
          refine ⟨⟨0,0,⟨#[]⟩,[]⟩,start _ (J _ ?_),fun d' r hd=>by cases hd⟩
          simp only [if_neg c1,if_neg c2,if_neg c3,if_neg c4,if_pos c5]
          exact Ev.bind hw' (Ev.now _)
        | some q =>
          rw [hq] at hw'
          refine ⟨⟨2,0,ba q.1,[]⟩,start _ (J _ ?_),fun d' r hd=>(Prod.mk.inj (Option.some.inj hd)).1.symm⟩
          simp only [if_neg c1,if_neg c2,if_neg c3,if_neg c4,if_pos c5]
          exact Ev.bind hw' (Ev.now _)
      by_cases c6:(c.toNat:Int)=40
      · have hp:pD (n+1) (c :: suf)=(pK (pD n) 2 41 suf).map fun q=>(⟨7,0,ba [],q.1⟩,q.2):=by rw [pD,pN,if_neg c1,if_neg c2,if_neg c3,if_neg c4,if_neg c5,if_pos c6]
        obtain ⟨l,h1,h2⟩:=inner (pre ++ [c]) suf 2 41 h' (by omega)
        refine ⟨⟨7,0,ba [],l⟩,start _ (J _ ?_),fun d' r hd=>?_⟩
        · simp only [if_neg c1,if_neg c2,if_neg c3,if_neg c4,if_neg c5,if_pos c6]
          refine Ev.bind h1 ?_
          rw [hp,show endAt L.length ((pK (pD n) 2 41 suf).map fun q=>((⟨7,0,ba [],q.1⟩:SDoc),q.2))=endAt L.length (pK (pD n) 2 41 suf) by cases pK (pD n) 2 41 suf <;> rfl]
          exact Ev.now _
        · rw [hp] at hd
          obtain ⟨⟨ks,r'⟩,e1,e2⟩:=Option.map_eq_some_iff.1 hd
          obtain ⟨rfl,rfl⟩:=Prod.mk.inj e2
          rw [h2 ks r' e1]
      by_cases c7:(c.toNat:Int)=91
      · have hp:pD (n+1) (c :: suf)=(pK (pD n) 1 93 suf).map fun q=>(⟨8,0,ba [],q.1⟩,q.2):=by rw [pD,pN,if_neg c1,if_neg c2,if_neg c3,if_neg c4,if_neg c5,if_neg c6,if_pos c7]
        obtain ⟨l,h1,h2⟩:=inner (pre ++ [c]) suf 1 93 h' (by omega)
        refine ⟨⟨8,0,ba [],l⟩,start _ (J _ ?_),fun d' r hd=>?_⟩
        · simp only [if_neg c1,if_neg c2,if_neg c3,if_neg c4,if_neg c5,if_neg c6,if_pos c7]
          refine Ev.bind h1 ?_
          rw [hp,show endAt L.length ((pK (pD n) 1 93 suf).map fun q=>((⟨8,0,ba [],q.1⟩:SDoc),q.2))=endAt L.length (pK (pD n) 1 93 suf) by cases pK (pD n) 1 93 suf <;> rfl]
          exact Ev.now _
        · rw [hp] at hd
          obtain ⟨⟨ks,r'⟩,e1,e2⟩:=Option.map_eq_some_iff.1 hd
          obtain ⟨rfl,rfl⟩:=Prod.mk.inj e2
          rw [h2 ks r' e1]
      have bad:(¬ (48≤(c.toNat:Int)∧(c.toNat:Int)≤57∧hd60 suf=true))→Ev (fun k=>spec_l1Read.j1 k (ba L) (pre.length:Int) ((n+1:Nat):Int) false) ((0:Int),(0:Int),(⟨#[]⟩:ByteArray),([]:List SDoc),(-1:Int)):=by
        intro _
        refine Ev.step (fun k=>by rw [spec_l1Read.j1]) ?_
        simp only [Bool.false_eq_true,if_false]
        exact Ev.now _
      by_cases c8:48≤(c.toNat:Int)∧(c.toNat:Int)≤57∧hd60 suf=true
      · have hp:pD (n+1) (c :: suf)=(pK (pD n) 1 62 suf.tail).map fun q=>(⟨6,(c.toNat:Int) - 48,ba [],q.1⟩,q.2):=by rw [pD,pN,if_neg c1,if_neg c2,if_neg c3,if_neg c4,if_neg c5,if_neg c6,if_neg c7,if_pos c8]
        obtain ⟨c80,c81,c82⟩:=c8
        match suf,h,h',c82,hp,hl with
        | [],_,_,c82,_,_=>simp [hd60] at c82
        | q :: suf,h,h',c82,hp,hl =>
          have hq:(q.toNat:Int)=60:=by simpa [hd60] using c82
          simp only [List.length_cons] at hl
          obtain ⟨l,h1,h2⟩:=inner (pre ++ [c] ++ [q]) suf 1 62 (by rw [h];simp) (by omega)
          have w2:wrap64 ((pre.length:Int)+2)=(((pre ++ [c] ++ [q]).length:Nat):Int):=by rw [w64 (by omega) (by omega)];simp
          refine ⟨⟨6,(c.toNat:Int) - 48,ba [],l⟩,start _ (J _ ?_),fun d' r hd=>?_⟩
          · simp only [if_neg c1,if_neg c2,if_neg c3,if_neg c4,if_neg c5,if_neg c6,if_neg c7,if_pos (show (c.toNat:Int) ≥ 48 from c80),if_pos c81]
            rw [bt_at (L:=L) (pre:=pre ++ [c]) (suf:=suf) (c:=q) h']
            simp only [if_pos (show (((pre ++ [c]).length:Nat):Int) < (L.length:Int) by simp;omega),if_pos (show (0:Int)≤(((pre ++ [c]).length:Nat):Int) by omega),hq,beq_self_eq_true]
            refine Ev.step (fun k=>by rw [spec_l1Read.j1]) ?_
            simp only [if_true,w2]
            refine Ev.bind h1 ?_
            simp only [ba_size,if_pos (show (0:Int)≤(pre.length:Int) by omega),if_pos (show (pre.length:Int) < (L.length:Int) by omega),bt_at h]
            rw [show ((c.toNat:Int) - 48) % 256=(c.toNat:Int) - 48 by omega,hp]
            simp only [List.tail_cons]
            rw [show endAt L.length ((pK (pD n) 1 62 suf).map fun p=>((⟨6,(c.toNat:Int) - 48,ba [],p.1⟩:SDoc),p.2))=endAt L.length (pK (pD n) 1 62 suf) by cases pK (pD n) 1 62 suf <;> rfl]
            exact Ev.now _
          · rw [hp] at hd
            simp only [List.tail_cons] at hd
            obtain ⟨⟨ks,r'⟩,e1,e2⟩:=Option.map_eq_some_iff.1 hd
            obtain ⟨rfl,rfl⟩:=Prod.mk.inj e2
            rw [h2 ks r' e1]
      · have hp:pD (n+1) (c :: suf)=none:=by rw [pD,pN,if_neg c1,if_neg c2,if_neg c3,if_neg c4,if_neg c5,if_neg c6,if_neg c7,if_neg c8]
        rw [hp]
        refine ⟨⟨0,0,⟨#[]⟩,[]⟩,start _ (J _ ?_),fun d' r hd=>by cases hd⟩
        simp only [if_neg c1,if_neg c2,if_neg c3,if_neg c4,if_neg c5,if_neg c6,if_neg c7]
        refine Ev.iff (fun c80=>Ev.iff (fun c81=>?_) (fun _=>bad c8)) (fun _=>bad c8)
        match suf,h,h',c8 with
        | [],h,_,c8 =>
          simp only [List.length_append,List.length_cons,List.length_nil] at hl
          simp only [if_neg (show ¬ ((((pre ++ [c]).length:Nat):Int) < (L.length:Int)) by simp;omega)]
          exact bad c8
        | q :: suf,h,h',c8 =>
          have hq:((q.toNat:Int) == 60)=false:=by
            cases hb:((q.toNat:Int) == 60) with
            | false=>rfl
            | true=>exact absurd ⟨c80,c81,by simpa [hd60] using hb⟩ c8
          simp only [List.length_cons] at hl
          simp only [if_pos (show (((pre ++ [c]).length:Nat):Int) < (L.length:Int) by simp;omega),if_pos (show (0:Int)≤(((pre ++ [c]).length:Nat):Int) by omega),bt_at (L:=L) (pre:=pre ++ [c]) (suf:=suf) (c:=q) h',hq]
          exact bad c8
theorem specParse_ev (s:ByteArray) (hs:s.size≤1099511627776):Ev (fun k=>spec_ParseDoc.f k s) (docR (parseR s.data.toList)):=by
  have hs':s.data.toList.length≤1099511627776:=by rw [← size_data];exact hs
  obtain ⟨d,h1,h2⟩:=specRead_ev hs' 40 (Nat.le_refl _) [] s.data.toList rfl
  rw [ba_of] at h1
  have h1:Ev (fun k=>spec_l1Read.f k s 0 40) (d.f0,d.f1,d.f2,d.f3,endAt s.data.toList.length (pD 40 s.data.toList)):=h1
  refine Ev.congr (fun k=>by rw [spec_ParseDoc.f]) (Ev.bind h1 ?_)
  rw [size_data]
  unfold parseR
  cases hp:pD 40 s.data.toList with
  | none =>
    simp only [endAt,if_neg (show ¬ ((-1:Int)=(s.data.toList.length:Int)) by omega)]
    exact Ev.now _
  | some q =>
    obtain ⟨d',r⟩:=q
    obtain rfl:=h2 d' r hp
    obtain ⟨hm,u,hu⟩:=pD_good 40 _ _ _ hp
    match r,hp,hm,hu with
    | [],hp,hm,hu =>
      simp only [endAt,List.length_nil,if_pos (show ((s.data.toList.length:Int) - ((0:Nat):Int)=(s.data.toList.length:Int)) by omega)]
      refine Ev.bind (specValid_ev d' (by omega)) ?_
      by_cases hv:docV d'=true
      · simp only [if_pos hv,docR];exact Ev.now _
      · simp only [if_neg hv,docR];exact Ev.now _
    | c :: r,hp,hm,hu =>
      simp only [endAt,List.length_cons,if_neg (show ¬ ((s.data.toList.length:Int) - ((r.length+1:Nat):Int)=(s.data.toList.length:Int)) by omega)]
      exact Ev.now _
end Go.Proofs.Ytdhdfmmefghijaa.Pure
namespace Go.Proofs.Ytdhdfmmefghijaa.Pure
open Go.RowKit Go.Proofs.Ytdhdfmmefghijaa.P Go.Proofs.YtdhdfmmefghijaaW.PrintWords Go.Proofs.YtdhdfmmefghijaaW.PrintLast Go.Proofs.YtdhdfmmefghijaaW.PrintMore
set_option linter.unusedVariables false
set_option linter.unusedSimpArgs false
mutual
def cnt (op:Int):SDoc→Nat
  | ⟨o,_,_,ks⟩=>(if o=op then 1 else 0)+cntL op ks
def cntL (op:Int):List SDoc→Nat
  | []=>0
  | k :: ks=>cnt op k+cntL op ks
end
theorem cntL_cons (op:Int) (y:SDoc) (l:List SDoc):cntL op (y :: l)=cnt op y+cntL op l:=rfl
theorem cnt_le (op:Int):∀ d:SDoc,cnt op d≤dsz d:=by
  intro d
  induction d using SDoc.ind with
  | h o n t ks ih =>
    have key:∀ l:List SDoc,(∀ k,k ∈ l→cnt op k≤dsz k)→cntL op l≤dszL l:=by
      intro l
      induction l with
      | nil=>intro _;simp [dszL,cntL]
      | cons y l ihl =>
        intro hl
        have h1:=hl y List.mem_cons_self
        have h2:=ihl (fun k hk=>hl k (List.mem_cons_of_mem _ hk))
        simp only [dszL,cntL]
        omega
    have:=key ks ih
    simp only [dsz,cnt]
    split <;> omega
theorem cntL_le (op:Int):∀ l:List SDoc,cntL op l≤dszL l
  | []=>by simp [cntL]
  | y :: l=>by have:=cnt_le op y;have:=cntL_le op l;simp only [cntL,dszL];omega
theorem specCnt_loop (op o n:Int) (t:ByteArray) (suf:List SDoc):∀ (pre:List SDoc) (acc:Int),
    (∀ y,y ∈ suf→Ev (fun k=>spec_CountOps.f k y.f0 y.f1 y.f2 y.f3 op) (cnt op y:Int))→0≤acc→acc+cntL op suf≤9223372036854775807→pre.length+suf.length≤4611686018427387904 →
    Ev (fun k=>spec_CountOps.l0 k op acc (pre.length:Int) o n t (pre ++ suf)) (acc+cntL op suf):=by
  induction suf with
  | nil =>
    intro pre acc _ h0 hs hm
    refine Ev.step (fun k=>by rw [spec_CountOps.l0]) ?_
    simp only [List.append_nil,Int.lt_irrefl,if_false,cntL,Int.natCast_zero,Int.add_zero]
    exact Ev.now _
  | cons y suf ih =>
    intro pre acc hy h0 hs hm
    simp only [List.length_cons] at hm
    rw [cntL_cons] at hs ⊢
    refine Ev.step (fun k=>by rw [spec_CountOps.l0]) ?_
    have c1:(pre.length:Int) < ((pre ++ y :: suf).length:Int):=by simp;omega
    have c2:(0:Int)≤(pre.length:Int):=by omega
    simp only [if_pos c1,if_pos c2,rdD]
    refine Ev.bind (hy y List.mem_cons_self) ?_
    rw [w64 (i:=acc+cnt op y) (by omega) (by omega),w64 (by omega) (by omega)]
    have:=ih (pre ++ [y]) (acc+cnt op y) (fun z hz=>hy z (List.mem_cons_of_mem _ hz)) (by omega) (by omega) (by simp;omega)
    rw [List.append_assoc,show ((pre ++ [y]).length:Int)=(pre.length:Int)+1 by simp] at this
    rw [show acc+((cnt op y+cntL op suf:Nat):Int)=acc+cnt op y+cntL op suf by omega]
    exact this
theorem specCnt_ev (op:Int):∀ (d:SDoc),dsz d≤4611686018427387904→Ev (fun k=>spec_CountOps.f k d.f0 d.f1 d.f2 d.f3 op) (cnt op d:Int):=by
  intro d
  induction d using SDoc.ind with
  | h o n t ks ih =>
    intro hd
    simp only [dsz] at hd
    have hc:=cntL_le op ks
    have hl:=dszL_len ks
    have key:∀ acc:Int,0≤acc→acc≤1→Ev (fun k=>spec_CountOps.j0 k op acc o n t ks) (acc+cntL op ks):=fun acc h0 h1=>by
      refine Ev.step (fun k=>by rw [spec_CountOps.j0]) ?_
      have:=specCnt_loop op o n t ks [] acc (fun y hy=>ih y hy (by have:=dszL_mem hy;omega)) h0 (by omega) (by simp;omega)
      simpa using this
    refine Ev.step (fun k=>by rw [spec_CountOps.f]) ?_
    by_cases h:o=op
    · simp only [if_pos h]
      rw [show ((cnt op ⟨o,n,t,ks⟩:Nat):Int)=1+(cntL op ks:Int) by simp [cnt,h]]
      exact key 1 (by omega) (by omega)
    · simp only [if_neg h]
      rw [show ((cnt op ⟨o,n,t,ks⟩:Nat):Int)=0+(cntL op ks:Int) by simp [cnt,h]]
      exact key 0 (by omega) (by omega)
theorem implCnt_loop (op:Int) (suf:List SDoc):∀ (pre:List SDoc) (acc N:Int),N=((pre ++ suf).length:Int) →
    (∀ y,y ∈ suf→Ev (fun k=>impl_CountOps.f k y.f0 y.f1 y.f2 y.f3 op) (cnt op y:Int))→0≤acc→acc+cntL op suf≤9223372036854775807→pre.length+suf.length≤4611686018427387904 →
    Ev (fun k=>impl_CountOps.l0 k op acc (pre ++ suf) N (pre.length:Int)) (acc+cntL op suf):=by
  induction suf with
  | nil =>
    intro pre acc N hN _ h0 hs hm
    subst hN
    refine Ev.step (fun k=>by rw [impl_CountOps.l0]) ?_
    simp only [List.append_nil,Int.lt_irrefl,if_false,cntL,Int.natCast_zero,Int.add_zero]
    exact Ev.now _
  | cons y suf ih =>
    intro pre acc N hN hy h0 hs hm
    simp only [List.length_cons] at hm
    rw [cntL_cons] at hs ⊢
    refine Ev.step (fun k=>by rw [impl_CountOps.l0]) ?_
    have c1:(pre.length:Int) < ((pre ++ y :: suf).length:Int):=by simp;omega
    have c0:(pre.length:Int) < N:=by omega
    have c2:(0:Int)≤(pre.length:Int):=by omega
    simp only [if_pos c0,if_pos c1,if_pos c2,rdD]
    refine Ev.bind (hy y List.mem_cons_self) ?_
    rw [w64 (i:=acc+cnt op y) (by omega) (by omega),w64 (by omega) (by omega)]
    have:=ih (pre ++ [y]) (acc+cnt op y) N (by rw [hN];simp) (fun z hz=>hy z (List.mem_cons_of_mem _ hz)) (by omega) (by omega) (by simp;omega)
    rw [List.append_assoc,show ((pre ++ [y]).length:Int)=(pre.length:Int)+1 by simp] at this
    rw [show acc+((cnt op y+cntL op suf:Nat):Int)=acc+cnt op y+cntL op suf by omega]
    exact this
theorem implCnt_ev (op:Int):∀ (d:SDoc),dsz d≤4611686018427387904→Ev (fun k=>impl_CountOps.f k d.f0 d.f1 d.f2 d.f3 op) (cnt op d:Int):=by
  intro d
  induction d using SDoc.ind with
  | h o n t ks ih =>
    intro hd
    simp only [dsz] at hd
    have hc:=cntL_le op ks
    have hl:=dszL_len ks
    have key:∀ acc:Int,0≤acc→acc≤1→Ev (fun k=>impl_CountOps.j0 k op acc o n t ks) (acc+cntL op ks):=fun acc h0 h1=>by
      refine Ev.step (fun k=>by rw [impl_CountOps.j0]) ?_
      have:=implCnt_loop op ks [] acc (ks.length:Int) (by simp) (fun y hy=>ih y hy (by have:=dszL_mem hy;omega)) h0 (by omega) (by simp;omega)
      simpa using this
    refine Ev.step (fun k=>by rw [impl_CountOps.f]) ?_
    by_cases h:o=op
    · simp only [if_pos h]
      rw [show ((cnt op ⟨o,n,t,ks⟩:Nat):Int)=1+(cntL op ks:Int) by simp [cnt,h]]
      exact key 1 (by omega) (by omega)
    · simp only [if_neg h]
      rw [show ((cnt op ⟨o,n,t,ks⟩:Nat):Int)=0+(cntL op ks:Int) by simp [cnt,h]]
      exact key 0 (by omega) (by omega)
end Go.Proofs.Ytdhdfmmefghijaa.Pure
namespace Go.Proofs.Ytdhdfmmefghijaa.Pure
open Go.RowKit Go.Proofs.Ytdhdfmmefghijaa.P Go.Proofs.YtdhdfmmefghijaaW.PrintWords Go.Proofs.YtdhdfmmefghijaaW.PrintLast Go.Proofs.YtdhdfmmefghijaaW.PrintMore
set_option linter.unusedVariables false
set_option linter.unusedSimpArgs false
theorem docV_wf {d:SDoc} (h:docV d=true):wf d 40=true:=(docV_iff d).1 h |>.1
theorem wf_kids {o n:Int} {t:ByteArray} {ks:List SDoc} {deep:Nat} (h:wf ⟨o,n,t,ks⟩ deep=true):∀ y,y ∈ ks→wf y (deep - 1)=true:=by
  have h3:=((wf_mk o n t ks deep).1 h).2.2
  rw [wfL_all,List.all_eq_true] at h3
  exact h3
theorem wf_node {o n:Int} {t:ByteArray} {ks:List SDoc} {deep:Nat} (h:wf ⟨o,n,t,ks⟩ deep=true):1≤o∧o≤8∧(ks.length:Int)=docKids o∧0≤n∧n≤9∧(n=0 ∨ o=6)∧(o=2→tv t=true)∧(o ≠ 2→t=⟨#[]⟩):=by
  have h2:=(nodeOk_iff o n t ks.length).1 ((wf_mk o n t ks deep).1 h).2.1
  obtain ⟨a,b,c,d,e,f,g⟩:=h2
  refine ⟨a,b,c,d,e,f,fun h=>by rwa [if_pos h] at g,fun h=>?_⟩
  rw [if_neg h,decide_eq_true_eq,size_data,List.length_eq_zero_iff] at g
  obtain ⟨⟨l⟩⟩:=t
  simp at g
  subst g
  rfl
end Go.Proofs.Ytdhdfmmefghijaa.Pure
namespace Go.Proofs.Ytdhdfmmefghijaa.Pure
open Go.RowKit Go.Proofs.Ytdhdfmmefghijaa.P Go.Proofs.YtdhdfmmefghijaaW.PrintWords Go.Proofs.YtdhdfmmefghijaaW.PrintLast Go.Proofs.YtdhdfmmefghijaaW.PrintMore
set_option linter.unusedVariables false
set_option linter.unusedSimpArgs false
theorem specCopy_loop (o n:Int) (t:ByteArray) (suf:List SDoc):∀ (pre:List SDoc),
    (∀ y,y ∈ suf→Ev (fun k=>spec_l1Copy.f k y.f0 y.f1 y.f2 y.f3) (y.f0,y.f1,y.f2,y.f3))→pre.length+suf.length≤1099511627776 →
    ∀ o' n' t',Ev (fun k=>spec_l1Copy.l0 k (pre.length:Int) o n t (pre ++ suf) o' n' t' pre) (o',n',t',pre ++ suf):=by
  induction suf with
  | nil =>
    intro pre _ hm o' n' t'
    refine Ev.step (fun k=>by rw [spec_l1Copy.l0]) ?_
    simp only [List.append_nil,Int.lt_irrefl,if_false]
    exact Ev.now _
  | cons y suf ih =>
    intro pre hy hm o' n' t'
    simp only [List.length_cons] at hm
    refine Ev.step (fun k=>by rw [spec_l1Copy.l0]) ?_
    have c1:(pre.length:Int) < ((pre ++ y :: suf).length:Int):=by simp;omega
    have c2:(0:Int)≤(pre.length:Int):=by omega
    simp only [if_pos c1,if_pos c2,rdD]
    refine Ev.bind (hy y List.mem_cons_self) ?_
    simp only [if_pos (show pre.length < 2513169434916 by omega),SDoc_eta]
    rw [w64 (by omega) (by omega)]
    have:=ih (pre ++ [y]) (fun z hz=>hy z (List.mem_cons_of_mem _ hz)) (by simp;omega) o' n' t'
    rw [List.append_assoc,show ((pre ++ [y]).length:Int)=(pre.length:Int)+1 by simp] at this
    exact this
theorem specCopy_ev:∀ (d:SDoc),msz d≤1099511627776→Ev (fun k=>spec_l1Copy.f k d.f0 d.f1 d.f2 d.f3) (d.f0,d.f1,d.f2,d.f3):=by
  intro d
  induction d using SDoc.ind with
  | h o n t ks ih =>
    intro hd
    simp only [msz] at hd
    have hl:=mszL_len ks
    refine Ev.step (fun k=>by rw [spec_l1Copy.f]) ?_
    exact specCopy_loop o n t ks [] (fun y hy=>ih y hy (by have:=mszL_mem hy;omega)) (by simp;omega) o n t
end Go.Proofs.Ytdhdfmmefghijaa.Pure
namespace Go.Proofs.Ytdhdfmmefghijaa.Pure
open Go.RowKit Go.Proofs.Ytdhdfmmefghijaa.P Go.Proofs.YtdhdfmmefghijaaW.PrintWords Go.Proofs.YtdhdfmmefghijaaW.PrintLast Go.Proofs.YtdhdfmmefghijaaW.PrintMore
set_option linter.unusedVariables false
set_option linter.unusedSimpArgs false
theorem word2_ev {b:List Int} (hb:Code b) (p:Int) (hp0:0≤p) (hp:p≤1000000000):∃ s,tv s=true∧Ev (fun k=>spec_l1Word2.f k b p) (s,p+1):=by
  obtain ⟨s,hs,h⟩:=of_ev hb p [(⟨#[97]⟩:ByteArray),(⟨#[98,98]⟩:ByteArray),(⟨#[99,99,99]⟩:ByteArray),(⟨#[100,100,100,100]⟩:ByteArray),(⟨#[102,40]⟩:ByteArray),(⟨#[41]⟩:ByteArray),(⟨#[44]⟩:ByteArray),(⟨#[120,61,49]⟩:ByteArray),(⟨#[97,98,99,100,101,102,103,104]⟩:ByteArray),(⟨#[101]⟩:ByteArray)] (by simp) hp0 hp
  refine ⟨s,?_,Ev.congr (fun k=>by rw [spec_l1Word2.f]) (Ev.bind h (Ev.now _))⟩
  have:∀ s ∈ [(⟨#[97]⟩:ByteArray),(⟨#[98,98]⟩:ByteArray),(⟨#[99,99,99]⟩:ByteArray),(⟨#[100,100,100,100]⟩:ByteArray),(⟨#[102,40]⟩:ByteArray),(⟨#[41]⟩:ByteArray),(⟨#[44]⟩:ByteArray),(⟨#[120,61,49]⟩:ByteArray),(⟨#[97,98,99,100,101,102,103,104]⟩:ByteArray),(⟨#[101]⟩:ByteArray)],tv s=true:=by decide +kernel
  exact this s hs
theorem tv_size {s:ByteArray} (h:tv s=true):1≤s.size∧s.size≤12:=by
  simp only [tv,Bool.and_eq_true,decide_eq_true_eq] at h
  exact ⟨h.1,h.2.1⟩
theorem wf_mono:∀ (d:SDoc) (m m':Nat),m≤m'→wf d m=true→wf d m'=true:=by
  intro d
  induction d using SDoc.ind with
  | h o n t ks ih =>
    intro m m' hm h
    rw [wf_mk] at h ⊢
    refine ⟨by omega,h.2.1,?_⟩
    rw [wfL_all,List.all_eq_true] at h ⊢
    exact fun y hy=>ih y hy (m - 1) (m' - 1) (by omega) (h.2.2 y hy)
theorem wf_msz:∀ (d:SDoc) (m:Nat),wf d m=true→msz d≤13 * dsz d:=by
  intro d
  induction d using SDoc.ind with
  | h o n t ks ih =>
    intro m h
    obtain ⟨_,_,_,_,_,_,h2,h3⟩:=wf_node h
    have hk:=wf_kids h
    have key:∀ l:List SDoc,(∀ y,y ∈ l→msz y≤13 * dsz y)→mszL l≤13 * dszL l:=by
      intro l
      induction l with
      | nil=>intro _;simp [mszL,dszL]
      | cons y l ihl =>
        intro hl
        have h1:=hl y List.mem_cons_self
        have h2:=ihl (fun z hz=>hl z (List.mem_cons_of_mem _ hz))
        simp only [mszL,dszL]
        omega
    have:=key ks (fun y hy=>ih y hy (m - 1) (hk y hy))
    have ht:t.size≤12:=by
      by_cases c:o=2
      · exact (tv_size (h2 c)).2
      · rw [h3 c];show 0≤12;omega
    simp only [msz,dsz]
    omega
theorem wf_of {o n:Int} {t:ByteArray} {ks:List SDoc} {m:Nat} (h1:1≤o) (h8:o≤8) (hk:(ks.length:Int)=docKids o) (hn0:0≤n) (hn9:n≤9) (hn:n=0 ∨ o=6) (ht:o=2→tv t=true) (ht':o ≠ 2→t=⟨#[]⟩) (hks:∀ y,y ∈ ks→wf y m=true):wf ⟨o,n,t,ks⟩ (m+1)=true:=by
  rw [wf_mk]
  refine ⟨by omega,(nodeOk_iff _ _ _ _).2 ⟨h1,h8,hk,hn0,hn9,hn,?_⟩,?_⟩
  · by_cases c:o=2
    · rw [if_pos c];exact ht c
    · rw [if_neg c,ht' c];rfl
  · rw [wfL_all,List.all_eq_true]
    exact hks
theorem three_pos (n:Nat):1≤3 ^ n:=by
  induction n with
  | zero=>exact Nat.le_refl 1
  | succ n ih=>rw [Nat.pow_succ];omega
theorem dr_leaf (o:Int) (h:o=1 ∨ o=3 ∨ o=4 ∨ o=5) (m:Nat):wf ⟨o,0,⟨#[]⟩,[]⟩ (m+1)=true:=wf_of (by omega) (by omega) (by rcases h with rfl | rfl | rfl | rfl <;> rfl) (by omega) (by omega) (.inl rfl) (by omega) (fun _=>rfl) (fun y hy=>by cases hy)
theorem some0_ev {b:List Int} (hb:Code b) (p:Int) (hp0:0≤p) (hp:p≤900000000):∃ (d:SDoc) (q:Int),Ev (fun k=>spec_l1Some.f k b p 0) (d.f0,d.f1,d.f2,d.f3,q)∧wf d 1=true∧dsz d=1∧p≤q∧q≤p+2:=by
  obtain ⟨r,h1,hr0,hr⟩:=pick_ev hb p 8 hp0 (by omega)
  obtain ⟨s,hs,h2⟩:=word2_ev hb (p+1) (by omega) (by omega)
  have J:∀ R,Ev (fun k=>(spec_l15Rd_pick.f k b p 8).bind fun bt237=>(if bt237.1=0 then (some ((1:Int),(0:Int),(⟨#[]⟩:ByteArray),([]:List SDoc),bt237.2)) else (if bt237.1=1 then (spec_l1Some.j0 k bt237.1 (bt237.1 == 1) b bt237.2) else (spec_l1Some.j0 k bt237.1 (bt237.1 == 2) b bt237.2)))) R→Ev (fun k=>spec_l1Some.f k b p 0) R:=by
    intro R h
    refine Ev.step (fun k=>by rw [spec_l1Some.f]) ?_
    simp only [if_true]
    exact h
  by_cases c0:r=0
  · refine ⟨⟨1,0,⟨#[]⟩,[]⟩,p+1,J _ (Ev.bind h1 ?_),dr_leaf 1 (by omega) 0,rfl,by omega,by omega⟩
    simp only [if_pos c0]
    exact Ev.now _
  have J2:∀ (R:Int × Int × ByteArray × List SDoc × Int) (w:Bool),w=(decide (r=1) || decide (r=2))→Ev (fun k=>spec_l1Some.j0 k r w b (p+1)) R→Ev (fun k=>spec_l1Some.f k b p 0) R:=by
    intro R w hw h
    refine J _ (Ev.bind h1 ?_)
    simp only [if_neg c0]
    refine Ev.iff (fun c=>?_) (fun c=>?_)
    · rw [show (r == 1)=w by rw [hw];simp [c]]
      exact h
    · rw [show (r == 2)=w by rw [hw,decide_eq_false (show ¬ r=1 from c),Bool.false_or];rfl]
      exact h
  by_cases c1:r=1 ∨ r=2
  · refine ⟨⟨3,0,⟨#[]⟩,[]⟩,p+1,J2 _ true (by rcases c1 with rfl | rfl <;> rfl) (Ev.step (fun k=>by rw [spec_l1Some.j0]) ?_),dr_leaf 3 (by omega) 0,rfl,by omega,by omega⟩
    simp only [if_true]
    exact Ev.now _
  have hw:false=(decide (r=1) || decide (r=2)):=by
    rw [decide_eq_false (fun e=>c1 (.inl e)),decide_eq_false (fun e=>c1 (.inr e))];rfl
  by_cases c3:r=3
  · refine ⟨⟨4,0,⟨#[]⟩,[]⟩,p+1,J2 _ false hw (Ev.step (fun k=>by rw [spec_l1Some.j0]) ?_),dr_leaf 4 (by omega) 0,rfl,by omega,by omega⟩
    simp only [Bool.false_eq_true,if_false,if_pos c3]
    exact Ev.now _
  · refine ⟨⟨2,0,s,[]⟩,p+1+1,J2 _ false hw (Ev.step (fun k=>by rw [spec_l1Some.j0]) ?_),?_,rfl,by omega,by omega⟩
    · simp only [Bool.false_eq_true,if_false,if_neg c3]
      exact Ev.bind h2 (Ev.now _)
    · exact wf_of (by omega) (by omega) rfl (by omega) (by omega) (.inl rfl) (fun _=>hs) (fun h=>absurd rfl h) (fun y hy=>by cases hy)
theorem some_ev {b:List Int} (hb:Code b):∀ (n:Nat),n≤5→∀ (p:Int),0≤p→p+12 * 3 ^ n≤800000000→∃ (d:SDoc) (q:Int),Ev (fun k=>spec_l1Some.f k b p (n:Int)) (d.f0,d.f1,d.f2,d.f3,q)∧wf d (n+3)=true∧dsz d≤5 * 3 ^ n - 4∧p≤q∧q≤p+12 * 3 ^ n:=by
  intro n
  induction n with
  | zero =>
    intro _ p hp0 hp
    obtain ⟨d,q,h,h1,h2,h3,h4⟩:=some0_ev hb p hp0 (by omega)
    exact ⟨d,q,h,wf_mono d 1 3 (by omega) h1,by omega,h3,by omega⟩
  | succ n ih =>
    intro hn p hp0 hp
    have ih:=ih (by omega)
    have h3:=three_pos n
    have h3b:3 ^ n≤3 ^ 5:=Nat.pow_le_pow_right (by omega) (by omega)
    have h3c:(3:Nat) ^ 5=243:=rfl
    have e3:3 ^ (n+1)=3 * 3 ^ n:=by rw [Nat.pow_succ];omega
    have e3i:((3:Int) ^ (n+1))=3 * ((3 ^ n:Nat):Int):=by rw [Int.pow_succ];simp;omega
    have e3j:((3:Int) ^ n)=((3 ^ n:Nat):Int):=by simp
    rw [e3i] at hp ⊢
    rw [e3j] at ih
    rw [e3]
    generalize 3 ^ n=T at *
    obtain ⟨r,g1,hr0,hr⟩:=pick_ev hb p 12 hp0 (by omega)
    have hr:=hr (by omega)
    have w1:wrap64 (((n+1:Nat):Int) - 1)=(n:Int):=by rw [w64 (by omega) (by omega)];omega
    have J:∀ R,Ev (fun k=>(spec_l15Rd_pick.f k b p 12).bind fun bt241=>(if bt241.1=0 then ((spec_l1Some.f k b bt241.2 0).bind fun bt243=>(some (bt243.1,bt243.2.1,bt243.2.2.1,bt243.2.2.2.1,bt243.2.2.2.2))) else (if bt241.1=1 then (spec_l1Some.j1 k ((n+1:Nat):Int) bt241.1 (bt241.1 == 1) b bt241.2) else (spec_l1Some.j1 k ((n+1:Nat):Int) bt241.1 (bt241.1 == 2) b bt241.2)))) R→Ev (fun k=>spec_l1Some.f k b p ((n+1:Nat):Int)) R:=by
      intro R h
      refine Ev.step (fun k=>by rw [spec_l1Some.f]) ?_
      simp only [if_neg (show ¬ ((n+1:Nat):Int)=0 by omega)]
      exact h
    by_cases c0:r=0
    · obtain ⟨d,q,h,h1,h2,h4,h5⟩:=some0_ev hb (p+1) (by omega) (by omega)
      refine ⟨d,q,J _ (Ev.bind g1 ?_),wf_mono d 1 _ (by omega) h1,by omega,by omega,by omega⟩
      simp only [if_pos c0]
      exact Ev.bind h (Ev.now _)
    have J2:∀ (R:Int × Int × ByteArray × List SDoc × Int) (w:Bool),w=(decide (r=1) || decide (r=2))→Ev (fun k=>spec_l1Some.j1 k ((n+1:Nat):Int) r w b (p+1)) R→Ev (fun k=>spec_l1Some.f k b p ((n+1:Nat):Int)) R:=by
      intro R w hw h
      refine J _ (Ev.bind g1 ?_)
      simp only [if_neg c0]
      refine Ev.iff (fun c=>?_) (fun c=>?_)
      · rw [show (r == 1)=w by rw [hw];simp [c]]
        exact h
      · rw [show (r == 2)=w by rw [hw,decide_eq_false (show ¬ r=1 from c),Bool.false_or];rfl]
        exact h
    by_cases c1:r=1 ∨ r=2
    · obtain ⟨m,hm,g2⟩:=num_ev hb (p+1) [2,1,4,0,9] (by simp) (by omega) (by omega)
      have hm9:0≤m∧m≤9:=by
        simp only [List.mem_cons,List.not_mem_nil,or_false] at hm
        omega
      obtain ⟨d,q,h,h1,h2,h4,h5⟩:=ih (p+1+1) (by omega) (by omega)
      refine ⟨⟨6,m,⟨#[]⟩,[d]⟩,q,J2 _ true (by rcases c1 with rfl | rfl <;> rfl) (Ev.step (fun k=>by rw [spec_l1Some.j1]) ?_),?_,?_,by omega,by omega⟩
      · simp only [if_true,w1]
        refine Ev.bind g2 (Ev.bind h ?_)
        simp only [SDoc_eta]
        exact Ev.now _
      · exact wf_of (by omega) (by omega) rfl hm9.1 hm9.2 (.inr rfl) (by omega) (fun _=>rfl) (fun y hy=>by rw [List.mem_singleton.1 hy];exact h1)
      · simp only [dsz,dszL];omega
    have hw:false=(decide (r=1) || decide (r=2)):=by
      rw [decide_eq_false (fun e=>c1 (.inl e)),decide_eq_false (fun e=>c1 (.inr e))];rfl
    have J3:∀ (R:Int × Int × ByteArray × List SDoc × Int) (w:Bool),w=(decide (r=3) || (decide (r=4) || decide (r=5)))→Ev (fun k=>spec_l1Some.j2 k ((n+1:Nat):Int) r w b (p+1)) R→Ev (fun k=>spec_l1Some.f k b p ((n+1:Nat):Int)) R:=by
      intro R w hw' h
      refine J2 _ false hw (Ev.step (fun k=>by rw [spec_l1Some.j1]) ?_)
      simp only [Bool.false_eq_true,if_false]
      refine Ev.iff (fun c=>?_) (fun c=>Ev.iff (fun c'=>?_) (fun c'=>?_))
      · rw [show (r == 3)=w by rw [hw'];simp [c]]
        exact h
      · rw [show (r == 4)=w by rw [hw',decide_eq_false (show ¬ r=3 from c),Bool.false_or,decide_eq_true (show r=4 from c'),show (r == 4)=true by rw [show r=4 from c'];rfl];rfl]
        exact h
      · rw [show (r == 5)=w by rw [hw',decide_eq_false (show ¬ r=3 from c),Bool.false_or,decide_eq_false (show ¬ r=4 from c'),Bool.false_or];rfl]
        exact h
    by_cases c3:r=3 ∨ r=4 ∨ r=5
    · obtain ⟨d,q,h,h1,h2,h4,h5⟩:=ih (p+1) (by omega) (by omega)
      refine ⟨⟨8,0,⟨#[]⟩,[d]⟩,q,J3 _ true (by rcases c3 with rfl | rfl | rfl <;> rfl) (Ev.step (fun k=>by rw [spec_l1Some.j2]) ?_),?_,?_,by omega,by omega⟩
      · simp only [if_true,w1]
        refine Ev.bind h ?_
        simp only [SDoc_eta]
        exact Ev.now _
      · exact wf_of (by omega) (by omega) rfl (by omega) (by omega) (.inl rfl) (by omega) (fun _=>rfl) (fun y hy=>by rw [List.mem_singleton.1 hy];exact h1)
      · simp only [dsz,dszL];omega
    have hw3:false=(decide (r=3) || (decide (r=4) || decide (r=5))):=by
      rw [decide_eq_false (fun e=>c3 (.inl e)),decide_eq_false (fun e=>c3 (.inr (.inl e))),decide_eq_false (fun e=>c3 (.inr (.inr e)))];rfl
    have cat:∀ (x y:SDoc) (m:Nat),wf x m=true→wf y m=true→wf ⟨7,0,⟨#[]⟩,[x,y]⟩ (m+1)=true:=by
      intro x y m hx hy
      refine wf_of (by omega) (by omega) rfl (by omega) (by omega) (.inl rfl) (by omega) (fun _=>rfl) (fun z hz=>?_)
      simp only [List.mem_cons,List.not_mem_nil,or_false] at hz
      rcases hz with rfl | rfl
      · exact hx
      · exact hy
    by_cases c6:r=6
    · obtain ⟨s,g2,hs0,hs⟩:=pick_ev hb (p+1) 3 (by omega) (by omega)
      obtain ⟨d,q,h,h1,h2,h4,h5⟩:=ih (p+1+1) (by omega) (by omega)
      obtain ⟨d0,q0,i,i1,i2,i4,i5⟩:=some0_ev hb q (by omega) (by omega)
      have hd0:=wf_mono d0 1 (n+1) (by omega) i1
      have fin:∀ o:Int,(o=5 ∨ o=3)→wf ⟨7,0,⟨#[]⟩,[d,⟨7,0,⟨#[]⟩,[⟨o,0,⟨#[]⟩,[]⟩,d0]⟩]⟩ (n+1+3)=true∧dsz ⟨7,0,⟨#[]⟩,[d,⟨7,0,⟨#[]⟩,[⟨o,0,⟨#[]⟩,[]⟩,d0]⟩]⟩≤5 * (3 * T) - 4:=by
        intro o ho
        refine ⟨cat _ _ (n+3) h1 (wf_mono _ (n+1+1) _ (by omega) (cat _ _ (n+1) (dr_leaf o (by omega) n) hd0)),?_⟩
        simp only [dsz,dszL]
        omega
      by_cases cs:s=0
      · refine ⟨⟨7,0,⟨#[]⟩,[d,⟨7,0,⟨#[]⟩,[⟨5,0,⟨#[]⟩,[]⟩,d0]⟩]⟩,q0,J3 _ false hw3 (Ev.step (fun k=>by rw [spec_l1Some.j2]) ?_),(fin 5 (.inl rfl)).1,(fin 5 (.inl rfl)).2,by omega,by omega⟩
        simp only [Bool.false_eq_true,if_false,if_pos c6,w1]
        refine Ev.bind g2 ?_
        simp only [if_pos cs]
        refine Ev.bind h (Ev.bind i ?_)
        simp only [spec_l1Cat.f,Option.bind_some,SDoc_eta]
        exact Ev.now _
      · refine ⟨⟨7,0,⟨#[]⟩,[d,⟨7,0,⟨#[]⟩,[⟨3,0,⟨#[]⟩,[]⟩,d0]⟩]⟩,q0,J3 _ false hw3 (Ev.step (fun k=>by rw [spec_l1Some.j2]) ?_),(fin 3 (.inr rfl)).1,(fin 3 (.inr rfl)).2,by omega,by omega⟩
        simp only [Bool.false_eq_true,if_false,if_pos c6,w1]
        refine Ev.bind g2 ?_
        simp only [if_neg cs]
        refine Ev.bind h (Ev.bind i ?_)
        simp only [spec_l1Cat.f,Option.bind_some,SDoc_eta]
        exact Ev.now _
    · obtain ⟨d,q,h,h1,h2,h4,h5⟩:=ih (p+1) (by omega) (by omega)
      obtain ⟨d',q',i,i1,i2,i4,i5⟩:=ih q (by omega) (by omega)
      refine ⟨⟨7,0,⟨#[]⟩,[d,d']⟩,q',J3 _ false hw3 (Ev.step (fun k=>by rw [spec_l1Some.j2]) ?_),cat _ _ (n+3) h1 i1,?_,by omega,by omega⟩
      · simp only [Bool.false_eq_true,if_false,if_neg c6,w1]
        refine Ev.bind h (Ev.bind i ?_)
        simp only [spec_l1Cat.f,Option.bind_some,SDoc_eta]
        exact Ev.now _
      · simp only [dsz,dszL];omega
def VDoc (d:SDoc):Prop:=docV d=true∧msz d≤1040
theorem vdoc_of {d:SDoc} (h:docV d=true):VDoc d:=by
  obtain ⟨h1,h2⟩:=(docV_iff d).1 h
  have:=wf_msz d 40 h1
  exact ⟨h,by omega⟩
theorem draw_loop {b:List Int} (hb:Code b) (L:List ByteArray) (hL0:0 < L.length) (hL:∀ s ∈ L,s.size≤1000):∀ (m:Nat) (i:Nat),i+m=3→∀ p:Int,0≤p→p≤100000000+10000 * i →
    ∃ (d:SDoc) (q:Int),Ev (fun k=>spec_l1Draw.l0 k L (i:Int) b p) (d.f0,d.f1,d.f2,d.f3,q)∧VDoc d∧p≤q∧q≤p+5000 * (m+1):=by
  intro m
  induction m with
  | zero =>
    intro i hi p hp0 hp
    obtain ⟨d,q,h,h1,h2,h3,h4⟩:=some_ev hb 2 (by omega) p hp0 (by omega)
    refine ⟨d,q,Ev.step (fun k=>by rw [spec_l1Draw.l0]) ?_,vdoc_of ((docV_iff d).2 ⟨wf_mono d 5 40 (by omega) h1,by omega⟩),h3,by omega⟩
    simp only [if_neg (show ¬ (i:Int) < 3 by omega)]
    exact Ev.bind h (Ev.now _)
  | succ m ih =>
    intro i hi p hp0 hp
    have c:(i:Int) < 3:=by omega
    have w1:wrap64 ((i:Int)+1)=((i+1:Nat):Int):=by rw [w64 (by omega) (by omega)];omega
    obtain ⟨r,g1,hr0,hr⟩:=pick_ev hb p 3 hp0 (by omega)
    have J1:∀ p':Int,p+1≤p'→p'≤p+2→∃ (d:SDoc) (q:Int),Ev (fun k=>spec_l1Draw.j1 k L (i:Int) b p') (d.f0,d.f1,d.f2,d.f3,q)∧VDoc d∧p≤q∧q≤p+5000 * (m+1+1):=by
      intro p' h1 h2
      obtain ⟨n,hn,g2⟩:=num_ev hb p' [4,3,5,2] (by simp) (by omega) (by omega)
      simp only [List.mem_cons,List.not_mem_nil,or_false] at hn
      obtain ⟨n',hn',rfl⟩:∃ n':Nat,n'≤5∧n=(n':Int):=⟨n.toNat,by omega,by omega⟩
      obtain ⟨d,q,h,k1,k2,k3,k4⟩:=some_ev hb n' hn' (p'+1) (by omega) (by
        have h3b:3 ^ n'≤3 ^ 5:=Nat.pow_le_pow_right (by omega) hn'
        have h3c:(3:Nat) ^ 5=243:=rfl
        have e3j:((3:Int) ^ n')=((3 ^ n':Nat):Int):=by simp
        rw [e3j]
        omega)
      have h3b:3 ^ n'≤3 ^ 5:=Nat.pow_le_pow_right (by omega) hn'
      have h3c:(3:Nat) ^ 5=243:=rfl
      have e3j:((3:Int) ^ n')=((3 ^ n':Nat):Int):=by simp
      rw [e3j] at k4
      generalize 3 ^ n'=T at *
      have km:=wf_msz d _ k1
      obtain ⟨d2,q2,h2',v2,m2,m3⟩:=ih (i+1) (by omega) q (by omega) (by omega)
      by_cases cv:docV d=true
      · by_cases c4:(dsz d:Int)≤40
        · refine ⟨d,q,Ev.step (fun k=>by rw [spec_l1Draw.j1]) (Ev.bind g2 (Ev.bind h (Ev.bind (specValid_ev d (by omega)) ?_))),vdoc_of cv,by omega,by omega⟩
          simp only [if_pos cv]
          refine Ev.bind (specCount_ev d (by omega)) ?_
          simp only [if_pos c4]
          exact Ev.now _
        · refine ⟨d2,q2,Ev.step (fun k=>by rw [spec_l1Draw.j1]) (Ev.bind g2 (Ev.bind h (Ev.bind (specValid_ev d (by omega)) ?_))),v2,by omega,by omega⟩
          simp only [if_pos cv]
          refine Ev.bind (specCount_ev d (by omega)) ?_
          simp only [if_neg c4,w1]
          exact h2'
      · refine ⟨d2,q2,Ev.step (fun k=>by rw [spec_l1Draw.j1]) (Ev.bind g2 (Ev.bind h (Ev.bind (specValid_ev d (by omega)) ?_))),v2,by omega,by omega⟩
        simp only [if_neg cv,w1]
        exact h2'
    by_cases c0:r=0
    · obtain ⟨j,g2,hj0,hj⟩:=pick_ev hb (p+1) (L.length:Int) (by omega) (by omega)
      have hj:=hj (by omega)
      have hjl:j.toNat < L.length:=by omega
      have hsz:(rdOf ByteArray.empty L j).size≤1000:=by
        unfold rdOf
        rw [List.getD_eq_getElem?_getD,List.getElem?_eq_getElem hjl]
        exact hL _ (List.getElem_mem hjl)
      have hp:=specParse_ev (rdOf ByteArray.empty L j) (by omega)
      cases hd:parseR (rdOf ByteArray.empty L j).data.toList with
      | none =>
        rw [hd] at hp
        obtain ⟨d,q,h1,h2,h3,h4⟩:=J1 (p+1+1) (by omega) (by omega)
        refine ⟨d,q,Ev.step (fun k=>by rw [spec_l1Draw.l0]) ?_,h2,h3,h4⟩
        simp only [if_pos c]
        refine Ev.bind g1 ?_
        simp only [if_pos c0]
        refine Ev.bind g2 ?_
        simp only [if_pos hj0,if_pos hj]
        refine Ev.bind hp ?_
        simp only [docR,Bool.false_eq_true,if_false]
        exact h1
      | some d =>
        rw [hd] at hp
        have hv:docV d=true:=by
          unfold parseR at hd
          split at hd
          · split at hd
            · rename_i hv
              obtain rfl:=Option.some.inj hd
              exact hv
            · cases hd
          · cases hd
        refine ⟨d,p+1+1,Ev.step (fun k=>by rw [spec_l1Draw.l0]) ?_,vdoc_of hv,by omega,by omega⟩
        simp only [if_pos c]
        refine Ev.bind g1 ?_
        simp only [if_pos c0]
        refine Ev.bind g2 ?_
        simp only [if_pos hj0,if_pos hj]
        refine Ev.bind hp ?_
        simp only [docR,if_true]
        exact Ev.now _
    · obtain ⟨d,q,h1,h2,h3,h4⟩:=J1 (p+1) (by omega) (by omega)
      refine ⟨d,q,Ev.step (fun k=>by rw [spec_l1Draw.l0]) ?_,h2,h3,h4⟩
      simp only [if_pos c]
      refine Ev.bind g1 ?_
      simp only [if_neg c0]
      exact h1
theorem draw_ev {b:List Int} (hb:Code b) (p:Int) (hp0:0≤p) (hp:p≤100000000):∃ (d:SDoc) (q:Int),Ev (fun k=>spec_l1Draw.f k b p) (d.f0,d.f1,d.f2,d.f3,q)∧VDoc d∧p≤q∧q≤p+20000:=by
  have key:∀ L:List ByteArray,0 < L.length→(∀ s ∈ L,s.size≤1000)→∃ (d:SDoc) (q:Int),Ev (fun k=>spec_l1Draw.l0 k L 0 b p) (d.f0,d.f1,d.f2,d.f3,q)∧VDoc d∧p≤q∧q≤p+20000:=by
    intro L h1 h2
    obtain ⟨d,q,h,v,m1,m2⟩:=draw_loop hb L h1 h2 3 0 (by omega) p hp0 (by omega)
    exact ⟨d,q,h,v,m1,by omega⟩
  have:∀ L:List ByteArray,(0 < L.length∧∀ s ∈ L,s.size≤1000)→(∀ k,spec_l1Draw.f k b p=spec_l1Draw.l0 k L 0 b p)→∃ (d:SDoc) (q:Int),Ev (fun k=>spec_l1Draw.f k b p) (d.f0,d.f1,d.f2,d.f3,q)∧VDoc d∧p≤q∧q≤p+20000:=by
    intro L hL hf
    obtain ⟨d,q,h,v⟩:=key L hL.1 hL.2
    exact ⟨d,q,Ev.congr hf h,v⟩
  refine this _ ?_ (fun k=>rfl)
  decide +kernel
end Go.Proofs.Ytdhdfmmefghijaa.Pure
namespace Go.Proofs.Ytdhdfmmefghijaa.Pure
open Go.RowKit Go.Proofs.Ytdhdfmmefghijaa.P Go.Proofs.YtdhdfmmefghijaaW.PrintWords Go.Proofs.YtdhdfmmefghijaaW.PrintLast Go.Proofs.YtdhdfmmefghijaaW.PrintMore
set_option linter.unusedVariables false
set_option linter.unusedSimpArgs false
theorem mszL_set:∀ (ks:List SDoc) (i:Nat) (y:SDoc) (h:i < ks.length),mszL (ks.set i y)+msz ks[i]=mszL ks+msz y
  | k :: ks,0,y,_=>by simp [mszL];omega
  | k :: ks,i+1,y,h=>by
    have:=mszL_set ks i y (by simpa using h)
    simp [mszL]
    omega
theorem mutate_ev {b:List Int} (hb:Code b):∀ (d:SDoc) (p:Int),0≤p→p+4 * dsz d≤800000000→msz d≤1000000→∃ (d':SDoc) (q:Int),Ev (fun k=>spec_l1Mutate.f k b p d.f0 d.f1 d.f2 d.f3) (d'.f0,d'.f1,d'.f2,d'.f3,q)∧msz d'≤msz d+13∧p≤q∧q≤p+4 * dsz d:=by
  intro d
  induction d using SDoc.ind with
  | h o n t ks ih =>
    intro p hp0 hp hm
    have hcp:=specCopy_ev ⟨o,n,t,ks⟩ (by omega)
    simp only [dsz] at hp ⊢
    have hml:=mszL_len ks
    simp only [msz] at hm
    have J0:∀ p':Int,0≤p'→p≤p'→p'≤p+1→∃ (d':SDoc) (q:Int),Ev (fun k=>spec_l1Mutate.j0 k false b p' o n t ks) (d'.f0,d'.f1,d'.f2,d'.f3,q)∧msz d'≤msz ⟨o,n,t,ks⟩+13∧p≤q∧q≤p+3:=by
      intro p' h0 h1 h2
      obtain ⟨r,g1,_,_⟩:=pick_ev hb p' 14 h0 (by omega)
      have S:∀ R,Ev (fun k=>(spec_l15Rd_pick.f k b p' 14).bind fun bt729=>(if bt729.1=0 then ((spec_l15Rd_num.f k b bt729.2 (([0,9,1,3,7]:List Int))).bind fun bt734=>(some (bt734.1,n,t,ks,bt734.2))) else (if bt729.1=1 then ((spec_l15Rd_num.f k b bt729.2 (([10,(-1),1]:List Int))).bind fun bt739=>(some (o,bt739.1,t,ks,bt739.2))) else (if bt729.1=2 then ((spec_l15Rd_of.f k b bt729.2 (([(⟨#[]⟩:ByteArray),(⟨#[65]⟩:ByteArray),(⟨#[97,98,99,100,101,102,103,104,105,106,107,108,109]⟩:ByteArray),(⟨#[120,32,121]⟩:ByteArray),(⟨#[122]⟩:ByteArray)]:List ByteArray))).bind fun bt744=>(some (o,n,bt744.1,ks,bt744.2))) else (if bt729.1=3 then (if ks.length < 2513169434916 then (some (o,n,t,(ks ++ [(⟨1,0,(⟨#[]⟩:ByteArray),([]:List (SDoc))⟩:SDoc)]),bt729.2)) else (none)) else (some (o,n,t,ks,bt729.2))))))) R→Ev (fun k=>spec_l1Mutate.j0 k false b p' o n t ks) R:=by
        intro R h
        refine Ev.step (fun k=>by rw [spec_l1Mutate.j0]) ?_
        simp only [Bool.false_eq_true,if_false]
        exact h
      by_cases c0:r=0
      · obtain ⟨s,_,g2⟩:=num_ev hb (p'+1) [0,9,1,3,7] (by simp) (by omega) (by omega)
        refine ⟨⟨s,n,t,ks⟩,p'+1+1,S _ (Ev.bind g1 ?_),by simp only [msz];omega,by omega,by omega⟩
        simp only [if_pos c0]
        exact Ev.bind g2 (Ev.now _)
      by_cases c1:r=1
      · obtain ⟨s,_,g2⟩:=num_ev hb (p'+1) [10,(-1),1] (by simp) (by omega) (by omega)
        refine ⟨⟨o,s,t,ks⟩,p'+1+1,S _ (Ev.bind g1 ?_),by simp only [msz];omega,by omega,by omega⟩
        simp only [if_neg c0,if_pos c1]
        exact Ev.bind g2 (Ev.now _)
      by_cases c2:r=2
      · obtain ⟨s,hs,g2⟩:=of_ev hb (p'+1) [(⟨#[]⟩:ByteArray),(⟨#[65]⟩:ByteArray),(⟨#[97,98,99,100,101,102,103,104,105,106,107,108,109]⟩:ByteArray),(⟨#[120,32,121]⟩:ByteArray),(⟨#[122]⟩:ByteArray)] (by simp) (by omega) (by omega)
        have hz:s.size≤13:=by
          have:∀ s ∈ [(⟨#[]⟩:ByteArray),(⟨#[65]⟩:ByteArray),(⟨#[97,98,99,100,101,102,103,104,105,106,107,108,109]⟩:ByteArray),(⟨#[120,32,121]⟩:ByteArray),(⟨#[122]⟩:ByteArray)],s.size≤13:=by decide +kernel
          exact this s hs
        refine ⟨⟨o,n,s,ks⟩,p'+1+1,S _ (Ev.bind g1 ?_),by simp only [msz];omega,by omega,by omega⟩
        simp only [if_neg c0,if_neg c1,if_pos c2]
        exact Ev.bind g2 (Ev.now _)
      by_cases c3:r=3
      · refine ⟨⟨o,n,t,ks ++ [⟨1,0,⟨#[]⟩,[]⟩]⟩,p'+1,S _ (Ev.bind g1 ?_),?_,by omega,by omega⟩
        · simp only [if_neg c0,if_neg c1,if_neg c2,if_pos c3,if_pos (show ks.length < 2513169434916 by omega)]
          exact Ev.now _
        · simp only [msz,mszL_app,mszL]
          show 1+t.size+(mszL ks+(1+0+0+0))≤_
          omega
      · refine ⟨⟨o,n,t,ks⟩,p'+1,S _ (Ev.bind g1 ?_),by simp only [msz];omega,by omega,by omega⟩
        simp only [if_neg c0,if_neg c1,if_neg c2,if_neg c3]
        exact Ev.now _
    by_cases c:(ks.length:Int) > 0
    · obtain ⟨r,g1,hr0,hr⟩:=pick_ev hb p 2 hp0 (by omega)
      by_cases cr:r > 0
      · obtain ⟨j,g2,hj0,hj⟩:=pick_ev hb (p+1) (ks.length:Int) (by omega) (by omega)
        have hj:=hj (by omega)
        have hjl:j.toNat < ks.length:=by omega
        have hmem:ks[j.toNat] ∈ ks:=List.getElem_mem hjl
        have hd:=dszL_mem hmem
        have hz:=mszL_mem hmem
        have hrd:rd_TDoc ks j=ks[j.toNat]:=by
          unfold rd_TDoc
          rw [List.getD_eq_getElem?_getD,List.getElem?_eq_getElem hjl]
          rfl
        obtain ⟨y,q,h,h1,h2,h3⟩:=ih _ hmem (p+1+1) (by omega) (by omega) (by omega)
        refine ⟨⟨o,n,t,ks.set j.toNat y⟩,q,Ev.step (fun k=>by rw [spec_l1Mutate.f]) (Ev.bind hcp ?_),?_,by omega,by omega⟩
        · simp only [if_pos c]
          refine Ev.bind g1 ?_
          rw [decide_eq_true cr]
          refine Ev.step (fun k=>by rw [spec_l1Mutate.j0]) ?_
          simp only [if_true]
          refine Ev.bind g2 ?_
          simp only [if_pos hj0,if_pos hj,hrd]
          refine Ev.bind h ?_
          simp only [SDoc_eta]
          exact Ev.now _
        · have:=mszL_set ks j.toNat y hjl
          simp only [msz]
          omega
      · obtain ⟨d',q,h,h1,h2,h3⟩:=J0 (p+1) (by omega) (by omega) (by omega)
        refine ⟨d',q,Ev.step (fun k=>by rw [spec_l1Mutate.f]) (Ev.bind hcp ?_),h1,h2,by omega⟩
        simp only [if_pos c]
        refine Ev.bind g1 ?_
        rw [decide_eq_false cr]
        exact h
    · obtain ⟨d',q,h,h1,h2,h3⟩:=J0 p hp0 (by omega) (by omega)
      refine ⟨d',q,Ev.step (fun k=>by rw [spec_l1Mutate.f]) (Ev.bind hcp ?_),h1,h2,by omega⟩
      simp only [if_neg c]
      exact h
theorem mutate2_ev {b:List Int} (hb:Code b) (d:SDoc) (p:Int) (hp0:0≤p) (hp:p≤700000000) (hm:msz d≤100000):∃ (d1 d2:SDoc) (q q2:Int),Ev (fun k=>spec_l1Mutate.f k b p d.f0 d.f1 d.f2 d.f3) (d1.f0,d1.f1,d1.f2,d1.f3,q)∧Ev (fun k=>spec_l1Mutate.f k b q d1.f0 d1.f1 d1.f2 d1.f3) (d2.f0,d2.f1,d2.f2,d2.f3,q2)∧msz d1≤msz d+13∧msz d2≤msz d+26∧p≤q∧q≤q2∧q2≤p+900000:=by
  have e:=dsz_msz d
  obtain ⟨d1,q,h,h1,h2,h3⟩:=mutate_ev hb d p hp0 (by omega) (by omega)
  have e1:=dsz_msz d1
  obtain ⟨d2,q2,k,k1,k2,k3⟩:=mutate_ev hb d1 q (by omega) (by omega) (by omega)
  exact ⟨d1,d2,q,q2,h,k,h1,by omega,h2,k2,by omega⟩
end Go.Proofs.Ytdhdfmmefghijaa.Pure
namespace Go.Proofs.Ytdhdfmmefghijaa.Pure
open Go.RowKit Go.Proofs.Ytdhdfmmefghijaa.P Go.Proofs.YtdhdfmmefghijaaW.PrintWords Go.Proofs.YtdhdfmmefghijaaW.PrintLast Go.Proofs.YtdhdfmmefghijaaW.PrintMore
set_option linter.unusedVariables false
set_option linter.unusedSimpArgs false
theorem drawValid_ev (l:List Int) (hl:l.length≤maxLen) (h:∀ x ∈ l,(Lit.int .u8 x).wf=true):∃ d:SDoc,Ev (fun k=>spec_DrawDocValid.f k l) (d.f0,d.f1,d.f2,d.f3)∧msz d≤1066:=by
  obtain ⟨b,hb,e⟩:=open_ev l hl h
  obtain ⟨d,q,h1,h2,h3,h4⟩:=draw_ev hb 0 (by omega) (by omega)
  have hm:=h2.2
  obtain ⟨d1,d2,q1,q2,i1,i2,i3,i4,i5,i6,i7⟩:=mutate2_ev hb d q (by omega) (by omega) (by omega)
  refine ⟨d2,Ev.congr (fun k=>by rw [spec_DrawDocValid.f,e]) ?_,by omega⟩
  simp only [Option.bind_some]
  exact Ev.bind h1 (Ev.bind i1 (Ev.bind i2 (Ev.now _)))
theorem drawOps_ev (l:List Int) (hl:l.length≤maxLen) (h:∀ x ∈ l,(Lit.int .u8 x).wf=true):∃ (d:SDoc) (op:Int),Ev (fun k=>spec_DrawCountOps.f k l) (d.f0,d.f1,d.f2,d.f3,op)∧msz d≤1066:=by
  obtain ⟨d,h1,h2⟩:=drawValid_ev l hl h
  obtain ⟨b,hb,e⟩:=open_ev l hl h
  obtain ⟨op,_,g⟩:=num_ev hb 0 [2,7,3,8,5,1,0] (by simp) (by omega) (by omega)
  refine ⟨d,op,Ev.congr (fun k=>by rw [spec_DrawCountOps.f,e]) ?_,h2⟩
  simp only [Option.bind_some]
  exact Ev.bind h1 (Ev.bind g (Ev.now _))
end Go.Proofs.Ytdhdfmmefghijaa.Pure
namespace Go.Proofs.Ytdhdfmmefghijaa.Pure
open Go.RowKit Go.Proofs.Ytdhdfmmefghijaa.P Go.Proofs.YtdhdfmmefghijaaW.PrintWords Go.Proofs.YtdhdfmmefghijaaW.PrintLast Go.Proofs.YtdhdfmmefghijaaW.PrintMore
set_option linter.unusedVariables false
set_option linter.unusedSimpArgs false
theorem implSize_loop (suf:List SDoc):∀ (pre:List SDoc) (acc:Int) (N:Int),N=((pre ++ suf).length:Int) →
    (∀ y,y ∈ suf→Ev (fun k=>impl_DocSize.f k y.f0 y.f1 y.f2 y.f3) (dsz y:Int))→0≤acc→acc+dszL suf≤9223372036854775807→pre.length+suf.length≤4611686018427387904 →
    Ev (fun k=>impl_DocSize.l0 k acc (pre ++ suf) N (pre.length:Int)) (acc+dszL suf):=by
  induction suf with
  | nil =>
    intro pre acc N hN _ h0 hs hm
    subst hN
    refine Ev.step (fun k=>by rw [impl_DocSize.l0]) ?_
    simp only [List.append_nil,Int.lt_irrefl,if_false,dszL,Int.natCast_zero,Int.add_zero]
    exact Ev.now _
  | cons y suf ih =>
    intro pre acc N hN hy h0 hs hm
    simp only [List.length_cons,dszL] at hm hs
    refine Ev.step (fun k=>by rw [impl_DocSize.l0]) ?_
    have c1:(pre.length:Int) < ((pre ++ y :: suf).length:Int):=by simp;omega
    have c0:(pre.length:Int) < N:=by omega
    have c2:(0:Int)≤(pre.length:Int):=by omega
    simp only [if_pos c0,if_pos c1,if_pos c2,rdD]
    refine Ev.bind (hy y List.mem_cons_self) ?_
    rw [w64 (i:=acc+dsz y) (by omega) (by omega),w64 (by omega) (by omega)]
    have:=ih (pre ++ [y]) (acc+dsz y) N (by rw [hN];simp) (fun z hz=>hy z (List.mem_cons_of_mem _ hz)) (by omega) (by omega) (by simp;omega)
    rw [List.append_assoc,show ((pre ++ [y]).length:Int)=(pre.length:Int)+1 by simp] at this
    rw [show acc+(dszL (y :: suf):Int)=acc+dsz y+dszL suf by simp [dszL];omega]
    exact this
theorem implSize_ev:∀ (d:SDoc),dsz d≤4611686018427387904→Ev (fun k=>impl_DocSize.f k d.f0 d.f1 d.f2 d.f3) (dsz d:Int):=by
  intro d
  induction d using SDoc.ind with
  | h o n t ks ih =>
    intro hd
    simp only [dsz] at hd
    refine Ev.step (fun k=>by rw [impl_DocSize.f]) ?_
    have:=implSize_loop ks [] 1 (ks.length:Int) (by simp) (fun y hy=>ih y hy (by have:=dszL_mem hy;omega)) (by omega) (by omega) (by have:=dszL_len ks;simp;omega)
    rw [show ((dsz ⟨o,n,t,ks⟩:Nat):Int)=1+(dszL ks:Int) by simp [dsz]]
    simpa using this
theorem specSize_ev (d:SDoc) (hd:dsz d≤4611686018427387904):Ev (fun k=>spec_DocSize.f k d.f0 d.f1 d.f2 d.f3) (dsz d:Int):=by
  refine Ev.congr (fun k=>by rw [spec_DocSize.f]) ?_
  refine Ev.bind (specCount_ev d hd) ?_
  exact Ev.now _
end Go.Proofs.Ytdhdfmmefghijaa.Pure
namespace Go.Proofs.Ytdhdfmmefghijaa
theorem closed3:laidOutB Try.prog=true∧mapsRowed Try.prog=true∧Try.prog.plainKeys=true:=Go.ClosedOfChecked.closed_of_checked Try.checked (by kernel_rfl) (by kernel_rfl) (by kernel_rfl)
def edgesL:List (List Nat):=[[],[],[1],[15,16,17,18],[19,20,21,20,22,22],[23,24,25,25,24,22,22,26,26],[27,26,28,24,28,26],[19,20,21,22,29,24,21,22,29,20,22],[30,31,32,33,34,34,32,34,34,34],[31,34,35,34,34,24,24,36,36],[30,32,33,34,34,24,22,22,22,26,26,26],[37,38,39,38],[40,36,41,41,22,20],[42,17,43,34,34,17,17,24],[40,36,17,24,41,25,34,42,17,43,34,36],[44,46,45],[47],[48,24],[],[23,44,49],[20],[21],[22],[44,51,50,50],[52],[53,54],[24,20],[23],[25,21],[54],[44,51,50,51,50],[44,51,55,51,50,50],[57,56],[58,25,59],[34],[35],[24,60],[44,51,55,50,50],[26,61],[28,62],[23],[25,63],[44,51,63,45],[64,25],[],[55,55,65,55],[65],[66],[47,67,68,69,70,48,71],[55],[59,55,55,50,55,49,49,65],[55,55,43,49,72,25,54,72],[16,52],[73,18,53],[54],[],[24,74],[],[],[59],[60,60,60,60],[61],[62],[75,63,63,63,63],[76,77,77,77],[55],[78],[],[79],[],[80],[81],[55,46,55,72,49,72,72,55,72,72,58,58,72,72,58,58,72,72,58],[],[74],[75],[],[64],[],[82],[],[80],[66,83,66,84,83,85],[],[],[86],[],[],[],[],[],[],[],[],[],[],[],[],[],[],[],[],[],[]]
theorem edges:Try.prog.funcs.toList.map Try.prog.leadsTo=edgesL:=by kernel_rfl
def clo (E:List (List Nat)):Nat→List Nat→List Nat→List Nat
 | 0,_,seen=>seen.reverse
 | _,[],seen=>seen.reverse
 | n+1,f :: todo,seen=>if seen.contains f then clo E n todo seen else clo E n ((E[f]?).getD []++todo) (f :: seen)
set_option maxRecDepth 100000 in
theorem elim_edges (f:Nat):(Try.prog.funcs[f]?).elim [] Try.prog.leadsTo=(edgesL[f]?).getD []:=by
 rw [← edges,List.getElem?_map,Array.getElem?_toList]
 cases Try.prog.funcs[f]? <;> rfl
theorem closureVia_clo:∀ (n:Nat) (todo seen:List Nat),Try.prog.closureVia n todo seen=clo edgesL n todo seen
 | 0,_,_=>by simp [Program.closureVia,clo]
 | n+1,[],_=>by simp [Program.closureVia,clo]
 | n+1,f :: todo,seen=>by
  rw [Program.closureVia,clo,elim_edges,closureVia_clo n,closureVia_clo n]
def fuelE:Nat:=1+(edgesL.map fun l=>l.length+1).sum
set_option maxRecDepth 100000 in
theorem fuel_eq:1+(Try.prog.funcs.toList.map fun g=>(Try.prog.leadsTo g).length+1).sum=fuelE:=by
 rw [fuelE,← edges,List.map_map]
 rfl
theorem closure_clo (f:Nat):Try.prog.closure f=clo edgesL fuelE [f] []:=by
 rw [Program.closure,fuel_eq,closureVia_clo]
noncomputable def unfB (fn:Func):Bool:=match fn.body with|some c=>c.unfollowed|none=>entryCalls fn
noncomputable def unfL:List Bool:=Try.prog.funcs.toList.map unfB
set_option maxRecDepth 100000 in
theorem any_unf (f:Nat):((Try.prog.funcs[f]?).any fun fn=>match fn.body with|some c=>c.unfollowed|none=>entryCalls fn)=(unfL[f]?).getD false:=by
 rw [unfL,List.getElem?_map,Array.getElem?_toList]
 cases Try.prog.funcs[f]? <;> rfl
set_option maxRecDepth 100000 in
theorem unfollowed_of {f:Nat} {L:List Nat} (h:clo edgesL fuelE [f] []=L):Try.prog.unfollowed f=L.any fun g=>(unfL[g]?).getD false:=by
 rw [Program.unfollowed,closure_clo,h]
 congr 1
 funext g
 exact any_unf g
set_option maxRecDepth 100000 in
theorem recurses_of {f:Nat} {L:List Nat} (h:clo edgesL fuelE [f] []=L):Try.prog.recurses f=((L.any fun g=>(unfL[g]?).getD false) || L.any fun g=>((edgesL[g]?).getD []).any fun h=>(clo edgesL fuelE [h] []).contains g):=by
 rw [Program.recurses,unfollowed_of h,closure_clo,h]
 congr 1
 congr 1
 funext g
 rw [elim_edges]
 congr 1
 funext h
 rw [closure_clo]
def signs:List Char:=([104,97,114,110,101,115,115,32,50,54,100,52,101,52,102,53,97,56,53,54,57,100,98,57,98,55,99,101,48,57,101,101,51,49,51,101,50,53,49,57,55,102,56,55,99,52,55,52,53,50,49,49,99,101,55,101,101,51,100,102,53,102,102,53,52,98,98,54,51,49,102,55,32,99,117,116,32,97,116,32,108,111,111,112,46,101,120,97,109,112,108,101,47,100,111,99,97,108,103,101,98,114,97,47,108,97,119,115,46,70,110,84,101,120,116,86,97,108,105,100,32,108,111,111,112,46,101,120,97,109,112,108,101,47,100,111,99,97,108,103,101,98,114,97,47,108,97,119,115,46,70,110,67,111,117,110,116,80,97,114,116,115,32,108,111,111,112,46,101,120,97,109,112,108,101,47,100,111,99,97,108,103,101,98,114,97,47,108,97,119,115,46,70,110,68,111,99,80,97,114,116,115,32,108,111,111,112,46,101,120,97,109,112,108,101,47,100,111,99,97,108,103,101,98,114,97,47,108,97,119,115,46,70,110,70,108,97,116,116,101,110,80,97,114,116,115,32,108,111,111,112,46,101,120,97,109,112,108,101,47,100,111,99,97,108,103,101,98,114,97,47,108,97,119,115,46,70,110,67,111,117,110,116,79,112,115,32,108,111,111,112,46,101,120,97,109,112,108,101,47,100,111,99,97,108,103,101,98,114,97,47,108,97,119,115,46,70,110,67,97,116,83,97,109,101,32,108,111,111,112,46,101,120,97,109,112,108,101,47,100,111,99,97,108,103,101,98,114,97,47,108,97,119,115,46,70,110,68,111,99,83,97,109,101,32,108,111,111,112,46,101,120,97,109,112,108,101,47,100,111,99,97,108,103,101,98,114,97,47,108,97,119,115,46,70,110,67,97,116,68,111,99,115,32,108,111,111,112,46,101,120,97,109,112,108,101,47,100,111,99,97,108,103,101,98,114,97,47,108,97,119,115,46,70,110,70,108,97,116,84,101,120,116,32,108,111,111,112,46,101,120,97,109,112,108,101,47,100,111,99,97,108,103,101,98,114,97,47,108,97,119,115,46,70,110,68,111,99,66,121,116,101,115,32,108,111,111,112,46,101,120,97,109,112,108,101,47,100,111,99,97,108,103,101,98,114,97,47,108,97,119,115,46,70,110,80,97,114,115,101,83,105,122,101,32,108,111,111,112,46,101,120,97,109,112,108,101,47,100,111,99,97,108,103,101,98,114,97,47,108,97,119,115,46,70,110,68,111,99,84,101,120,116]:List Nat).map Char.ofNat
def wordsL:List (List Char):=([[104,97,114,110,101,115,115],[50,54,100,52,101,52,102,53,97,56,53,54,57,100,98,57,98,55,99,101,48,57,101,101,51,49,51,101,50,53,49,57,55,102,56,55,99,52,55,52,53,50,49,49,99,101,55,101,101,51,100,102,53,102,102,53,52,98,98,54,51,49,102,55],[99,117,116],[97,116],[108,111,111,112,46,101,120,97,109,112,108,101,47,100,111,99,97,108,103,101,98,114,97,47,108,97,119,115,46,70,110,84,101,120,116,86,97,108,105,100],[108,111,111,112,46,101,120,97,109,112,108,101,47,100,111,99,97,108,103,101,98,114,97,47,108,97,119,115,46,70,110,67,111,117,110,116,80,97,114,116,115],[108,111,111,112,46,101,120,97,109,112,108,101,47,100,111,99,97,108,103,101,98,114,97,47,108,97,119,115,46,70,110,68,111,99,80,97,114,116,115],[108,111,111,112,46,101,120,97,109,112,108,101,47,100,111,99,97,108,103,101,98,114,97,47,108,97,119,115,46,70,110,70,108,97,116,116,101,110,80,97,114,116,115],[108,111,111,112,46,101,120,97,109,112,108,101,47,100,111,99,97,108,103,101,98,114,97,47,108,97,119,115,46,70,110,67,111,117,110,116,79,112,115],[108,111,111,112,46,101,120,97,109,112,108,101,47,100,111,99,97,108,103,101,98,114,97,47,108,97,119,115,46,70,110,67,97,116,83,97,109,101],[108,111,111,112,46,101,120,97,109,112,108,101,47,100,111,99,97,108,103,101,98,114,97,47,108,97,119,115,46,70,110,68,111,99,83,97,109,101],[108,111,111,112,46,101,120,97,109,112,108,101,47,100,111,99,97,108,103,101,98,114,97,47,108,97,119,115,46,70,110,67,97,116,68,111,99,115],[108,111,111,112,46,101,120,97,109,112,108,101,47,100,111,99,97,108,103,101,98,114,97,47,108,97,119,115,46,70,110,70,108,97,116,84,101,120,116],[108,111,111,112,46,101,120,97,109,112,108,101,47,100,111,99,97,108,103,101,98,114,97,47,108,97,119,115,46,70,110,68,111,99,66,121,116,101,115],[108,111,111,112,46,101,120,97,109,112,108,101,47,100,111,99,97,108,103,101,98,114,97,47,108,97,119,115,46,70,110,80,97,114,115,101,83,105,122,101],[108,111,111,112,46,101,120,97,109,112,108,101,47,100,111,99,97,108,103,101,98,114,97,47,108,97,119,115,46,70,110,68,111,99,84,101,120,116]]:List (List Nat)).map (List.map Char.ofNat)
theorem headI:Try.prog.initOrder=String.ofList signs:=by kernel_rfl
theorem headS:wordsSigns Try.prog.initOrder.toList=wordsL:=by
 rw [headI,String.toList_ofList]
 kernel_rfl
theorem headLifts_of {P : Program} {ws} (h : wordsSigns P.initOrder.toList = ws) : P.headLifts = if ((stripLifts liftWords (behindMainWord ws)).2.head? == some "cut".toList) = true then (stripLifts liftWords (behindMainWord ws)).1 else [] := by
 subst h;rfl
theorem headL:Try.prog.headLifts=[]:=(headLifts_of headS).trans (by kernel_rfl)
theorem liftsFinal_of {P : Program} {ws l} (h : wordsSigns P.initOrder.toList = ws) (hl : P.headLifts = l) : P.liftsFinal = (((behindMainWord ws).head? == some "carried".toList && (behindMainWord ws).take 3 != ["carried".toList, "gc".toList, "cut".toList]) || l.contains "finals") := by
 subst h;subst hl;rfl
theorem liftsF:Try.prog.liftsFinal=false:=(liftsFinal_of headS headL).trans (by kernel_rfl)
theorem mayEnter_of {P:Program} (h:wordsSigns P.initOrder.toList=wordsL) (h1:P.laysLater=false) (h2:P.bearsReflect=false):P.mayEnter=P.doorFits []:=by
 delta Program.mayEnter
 rw [h,h1,h2]
 kernel_rfl
theorem mayE:Try.prog.mayEnter=true:=(mayEnter_of headS (by kernel_rfl) (by kernel_rfl)).trans (by kernel_rfl)
theorem make_of {P:Program} (h:wordsSigns P.initOrder.toList=wordsL):P.make=some .cut:=by
 delta Program.make
 rw [h]
 kernel_rfl
theorem makeC:Try.prog.make=some .cut:=make_of headS
end Go.Proofs.Ytdhdfmmefghijaa
