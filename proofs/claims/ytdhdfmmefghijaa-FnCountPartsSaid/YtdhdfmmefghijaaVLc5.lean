/- CONTRACTS and lemmas: each contract says that a Go function of the program, called over the translation under the theorem's own hypotheses, returns what the Lean function beside it computes. -/
import Derived.Test.YtdhdfmmefghijaaVLc4
namespace Go.Proofs.Ytdhdfmmefghijaa.P
open Go.RowKit Go.Proofs.YtdhdfmmefghijaaW.PrintWords Go.Proofs.YtdhdfmmefghijaaW.PrintLast Go.Proofs.YtdhdfmmefghijaaW.PrintMore
attribute [local go_sem] max2_int min2_int max_two min_two max_three min_three max_four min_four
set_option linter.unusedVariables false
set_option linter.unusedSimpArgs false
mutual
def spec_l1Is.j0:Nat→Int→Bool→Int→Int→ByteArray→List (SDoc)→Option (Bool)
 | 0,_,_,_,_,_,_=>none
 | k+1,x1,x16,x169000,x169001,x169002,x169003=>if x16=true then (some false) else (if x169000=2 then ((spec_TextValid.f k x169002).bind fun t170=>(if t170=true then (spec_l1Is.j1 k x1 false x169000 x169001 x169002 x169003) else (spec_l1Is.j1 k x1 true x169000 x169001 x169002 x169003))) else (spec_l1Is.j1 k x1 (x169002.toList != ([]:List UInt8)) x169000 x169001 x169002 x169003))
def spec_l1Is.j1:Nat→Int→Bool→Int→Int→ByteArray→List (SDoc)→Option (Bool)
 | 0,_,_,_,_,_,_=>none
 | k+1,x1,x35,x169000,x169001,x169002,x169003=>if x35=true then (some false) else (if x169000=6 then (if x169001<0 then (spec_l1Is.j2 k x1 true x169000 x169001 x169002 x169003) else (if x169001>9 then (spec_l1Is.j2 k x1 true x169000 x169001 x169002 x169003) else (spec_l1Is.j2 k x1 false x169000 x169001 x169002 x169003))) else (spec_l1Is.j2 k x1 (x169001 != 0) x169000 x169001 x169002 x169003))
def spec_l1Is.j2:Nat→Int→Bool→Int→Int→ByteArray→List (SDoc)→Option (Bool)
 | 0,_,_,_,_,_,_=>none
 | k+1,x1,x58,x169000,x169001,x169002,x169003=>if x58=true then (some false) else (spec_l1Is.l0 k x1 0 x169000 x169001 x169002 x169003)
def spec_l1Is.l0:Nat→Int→Int→Int→Int→ByteArray→List (SDoc)→Option (Bool)
 | 0,_,_,_,_,_,_=>none
 | k+1,x1,x5,x169000,x169001,x169002,x169003=>if x5<(x169003.length:Int) then (if 0≤x5 then ((spec_l1Is.f k ((rd_TDoc x169003 x5).f0) ((rd_TDoc x169003 x5).f1) ((rd_TDoc x169003 x5).f2) ((rd_TDoc x169003 x5).f3) (wrap64 (x1 - 1))).bind fun t172=>(if t172=true then (spec_l1Is.l0 k x1 (wrap64 (x5+1)) x169000 x169001 x169002 x169003) else (some false))) else (none)) else (some true)
def spec_l1Is.f:Nat→Int→Int→ByteArray→List (SDoc)→Int→Option (Bool)
 | 0,_,_,_,_,_=>none
 | k+1,a0_0,a0_1,a0_2,l0_3,a1=>if a1=0 then (spec_l1Is.j0 k a1 true a0_0 a0_1 a0_2 l0_3) else ((spec_l1Kids.f k a0_0).bind fun t169=>(spec_l1Is.j0 k a1 ((l0_3.length:Int) != t169) a0_0 a0_1 a0_2 l0_3))
end
set_option maxHeartbeats 8000000 in
set_option maxRecDepth 100000 in
theorem spec_l1Is.calls (k:Nat):∀ (a0_0:Int) (a0_1:Int) (a0_2:ByteArray) (A0_3:Option Addr) (c0_3:Nat) (l0_3:List (SDoc)) (a1:Int) (r:Bool) (w:World) (hr0_3:Kd.C k27 w A0_3 l0_3.length l0_3) (hc0_3:l0_3.length≤c0_3) (h:spec_l1Is.f k a0_0 a0_1 a0_2 l0_3 a1=some r),
  Calls Try.prog 53 #[.agg #[.int .i64 a0_0,.int .i64 a0_1,.string a0_2,.slice A0_3 l0_3.length c0_3],.int .i64 a1] w fun e w'=>e=.returned (.bool r)∧Below w.heap.size w w':=by
 induction k using Nat.strongRecOn with
 | _ k ih =>
 intro a0_0 a0_1 a0_2 A0_3 c0_3 l0_3 a1 r w hr0_3 hc0_3 h
 cases k with
 | zero=>exact absurd h (by simp [spec_l1Is.f])
 | succ k =>
 simp only [spec_l1Is.f] at h
 have hu27:=Try.underlying27
 have HR0_3:=Aside0.mk hr0_3
 have HC0_3:=Aside0.mk hc0_3
 clear hr0_3 hc0_3
 have HB:=Aside0.mk (Below.refl w.heap.size w)
 have H:(if a1=0 then (spec_l1Is.j0 k a1 true a0_0 a0_1 a0_2 l0_3) else ((spec_l1Kids.f k a0_0).bind fun t169=>(spec_l1Is.j0 k a1 ((l0_3.length:Int) != t169) a0_0 a0_1 a0_2 l0_3)))=some r:=h
 clear h
 have HC3:=Aside0.mk H
 clear H
 go_enter Try.func53,Try.ntmps53
 go_upto_region 1 with (first|((with_reducible refine gate_dst (N:=2) rfl ?_);(try (refine gate_guard (by rfl) ?_;dsimp only));refine box_event ?hg (N:=2) ?hd (cs:=#[.int .i64 a0_0,.int .i64 a0_1,.string a0_2,.slice A0_3 l0_3.length c0_3]) (t:=27) ?hr ?_;(case hd=>rfl);(case hg=>rfl);(case hr=>first|(go_simp;done)|(go_simp;rfl));intro gb168 hg w4 hbox hb;have n0_:=Aside0.mk (below_step (by repeat (first|(with_reducible first|exact HB.out|apply below_alloc|apply pw_below_drewN|apply below_drew1)|exact HB.out)) hb);have n1_:=Aside0.mk (hbox);have n2_:=Aside0.mk ((by rw [hg];exact (below_size (by repeat (first|(with_reducible first|exact HB.out|apply below_alloc|apply pw_below_drewN|apply below_drew1)|exact HB.out))):w.heap.size≤gb168));have n3_:=Aside0.mk ((by rw [hg];exact (below_size (by repeat (first|(with_reducible first|exact HB.out|apply below_alloc|apply pw_below_drewN|apply below_drew1)|exact HB.out))):w.heap.size≤gb168));clear HB;have HB:=n0_;have BK168:=n1_;have GW168:=n2_;have GE168:=n3_;clear n0_ n1_ n2_ n3_;clear hb hbox hg))
 repeat (go_quiet (first|((with_reducible refine gate_dst (N:=2) rfl ?_);(try (refine gate_guard (by rfl) ?_;dsimp only));refine box_event ?hg (N:=2) ?hd (cs:=#[.int .i64 a0_0,.int .i64 a0_1,.string a0_2,.slice A0_3 l0_3.length c0_3]) (t:=27) ?hr ?_;(case hd=>rfl);(case hg=>rfl);(case hr=>first|(go_simp;done)|(go_simp;rfl));intro gb168 hg w4 hbox hb;have n0_:=Aside0.mk (below_step (by repeat (first|(with_reducible first|exact HB.out|apply below_alloc|apply pw_below_drewN|apply below_drew1)|exact HB.out)) hb);have n1_:=Aside0.mk (hbox);have n2_:=Aside0.mk ((by rw [hg];exact (below_size (by repeat (first|(with_reducible first|exact HB.out|apply below_alloc|apply pw_below_drewN|apply below_drew1)|exact HB.out))):w.heap.size≤gb168));have n3_:=Aside0.mk ((by rw [hg];exact (below_size (by repeat (first|(with_reducible first|exact HB.out|apply below_alloc|apply pw_below_drewN|apply below_drew1)|exact HB.out))):w.heap.size≤gb168));clear HB;have HB:=n0_;have BK168:=n1_;have GW168:=n2_;have GE168:=n3_;clear n0_ n1_ n2_ n3_;clear hb hbox hg));go_upto_region 1 with (first|((with_reducible refine gate_dst (N:=2) rfl ?_);(try (refine gate_guard (by rfl) ?_;dsimp only));refine box_event ?hg (N:=2) ?hd (cs:=#[.int .i64 a0_0,.int .i64 a0_1,.string a0_2,.slice A0_3 l0_3.length c0_3]) (t:=27) ?hr ?_;(case hd=>rfl);(case hg=>rfl);(case hr=>first|(go_simp;done)|(go_simp;rfl));intro gb168 hg w4 hbox hb;have n0_:=Aside0.mk (below_step (by repeat (first|(with_reducible first|exact HB.out|apply below_alloc|apply pw_below_drewN|apply below_drew1)|exact HB.out)) hb);have n1_:=Aside0.mk (hbox);have n2_:=Aside0.mk ((by rw [hg];exact (below_size (by repeat (first|(with_reducible first|exact HB.out|apply below_alloc|apply pw_below_drewN|apply below_drew1)|exact HB.out))):w.heap.size≤gb168));have n3_:=Aside0.mk ((by rw [hg];exact (below_size (by repeat (first|(with_reducible first|exact HB.out|apply below_alloc|apply pw_below_drewN|apply below_drew1)|exact HB.out))):w.heap.size≤gb168));clear HB;have HB:=n0_;have BK168:=n1_;have GW168:=n2_;have GE168:=n3_;clear n0_ n1_ n2_ n3_;clear hb hbox hg)))
 (try simp only [Act.put,List.setIfInBounds_toArray,List.set_cons_zero,List.set_cons_succ])
 go_cut [16] (fun v16 wc=>∃ (kq:Nat) (x16_2:Bool),v16=.bool x16_2∧Aside0 (spec_l1Is.j0 kq a1 x16_2 a0_0 a0_1 a0_2 l0_3=some r)∧Aside0 (kq≤k)∧Aside0 (wc.heap[gb168]?=some (.cells #[.int .i64 a0_0,.int .i64 a0_1,.string a0_2,(.slice A0_3 l0_3.length c0_3)] 27 (0,0)))∧Aside0 (Below w.heap.size w wc))
 case first =>
  have H:=HC3.out
  clear HC3
  by_cases c5:a1=0
  ·rw [if_pos c5] at H
   have c5b0:(a1 == 0)=true:=beq_iff_eq.mpr c5
   have c5b1:(a1 != 0)=false:=bne_eq_false_iff_eq.mpr c5
   clear c5
   (first|rw [c5b0]|(simp only [i64_w,i32_w];rw [c5b0])|skip)
   have H':=Aside0.mk H
   clear H
   go_wp2
   repeat (go_quiet (fail);try go_wp2)
   go_meet
   case rel=>exact ⟨_,(true),(by first|rfl|(simp;done)|(simp [*];done)),H',⟨by first|omega|exact Nat.le_refl _⟩,⟨by (with_reducible repeat (first|refine blk_drewN ?_ _|refine blk_drew ?_|refine blk_alloc ?_ _));exact BK168.out⟩,⟨by repeat (first|(with_reducible first|exact HB.out|apply below_alloc|apply pw_below_drewN|apply below_drew1|refine below_set ?_ GE168.out)|exact HB.out)⟩⟩
  ·rw [if_neg c5] at H
   have c5b0:(a1 == 0)=false:=beq_eq_false_iff_ne.mpr c5
   have c5b1:(a1 != 0)=true:=bne_iff_ne.mpr c5
   (first|rw [c5b0]|(simp only [i64_w,i32_w];rw [c5b0])|skip)
   replace H:=Option.bind_eq_some_iff.mp H
   obtain ⟨t169,A60,H⟩:=H
   replace H:(spec_l1Is.j0 k a1 ((l0_3.length:Int) != t169) a0_0 a0_1 a0_2 l0_3)=some r:=H
   have A6:=Aside0.mk A60
   clear A60
   have H':=Aside0.mk H
   clear H
   have hcz7_0:w4.cell? ⟨gb168,0,none⟩=some (.int .i64 a0_0):=(blk_cell BK168.out 0).trans rfl
   have hcz7_1:w4.cell? ⟨gb168,1,none⟩=some (.int .i64 a0_1):=(blk_cell BK168.out 1).trans rfl
   have hcz7_2:w4.cell? ⟨gb168,2,none⟩=some (.string a0_2):=(blk_cell BK168.out 2).trans rfl
   have hcz7_3:w4.cell? ⟨gb168,3,none⟩=some (.slice A0_3 l0_3.length c0_3):=(blk_cell BK168.out 3).trans rfl
   have hfz7_0:=blk_frozen BK168.out 0
   have hfz7_1:=blk_frozen BK168.out 1
   have hfz7_2:=blk_frozen BK168.out 2
   have hfz7_3:=blk_frozen BK168.out 3
   go_wp2_with (first|(go_at_call 73;(with_reducible refine (spec_l1Kids.calls k a0_0 t169 _ A6.out).mono ?_);rintro e w' ⟨rfl,⟨nd,rfl⟩⟩;(try first|exact ⟨rfl,_,World.drewN_drewN _ _ _⟩ | exact ⟨rfl,_,Eq.trans (World.drewN_drewN _ _ _) (congrArg (World.drewN _) (Nat.add_assoc _ _ _))⟩)))
   repeat (go_quiet (first|(go_at_call 73;(with_reducible refine (spec_l1Kids.calls k a0_0 t169 _ A6.out).mono ?_);rintro e w' ⟨rfl,⟨nd,rfl⟩⟩;(try first|exact ⟨rfl,_,World.drewN_drewN _ _ _⟩ | exact ⟨rfl,_,Eq.trans (World.drewN_drewN _ _ _) (congrArg (World.drewN _) (Nat.add_assoc _ _ _))⟩)));try go_wp2_with (first|(go_at_call 73;(with_reducible refine (spec_l1Kids.calls k a0_0 t169 _ A6.out).mono ?_);rintro e w' ⟨rfl,⟨nd,rfl⟩⟩;(try first|exact ⟨rfl,_,World.drewN_drewN _ _ _⟩ | exact ⟨rfl,_,Eq.trans (World.drewN_drewN _ _ _) (congrArg (World.drewN _) (Nat.add_assoc _ _ _))⟩))))
   go_meet
   case rel=>exact ⟨_,(((l0_3.length:Int) != t169)),(by first|rfl|(simp;done)|(simp [*];done)),H',⟨by first|omega|exact Nat.le_refl _⟩,⟨by (with_reducible repeat (first|refine blk_drewN ?_ _|refine blk_drew ?_|refine blk_alloc ?_ _));exact BK168.out⟩,⟨by repeat (first|(with_reducible first|exact HB.out|apply below_alloc|apply pw_below_drewN|apply below_drew1|refine below_set ?_ GE168.out)|exact HB.out)⟩⟩
 case rest =>
  clear HC3
  try clear p2 c5 c5b0 c5b1 hcz7_0 hcz7_1 hcz7_2 hcz7_3 hfz7_0 hfz7_1 hfz7_2 hfz7_3
  obtain ⟨kq,x16_2,rfl,HA,HJ2,BK168,HB⟩:=hcut
  cases kq with
  | zero=>exact absurd HA.out (by simp [spec_l1Is.j0])
  | succ kj2 =>
   have H:=HA.out
   clear HA
   simp only [spec_l1Is.j0] at H
   by_cases c8:x16_2=true
   ·subst c8
    have H1:(some false)=some r:=by rw [if_pos rfl] at H;exact H
    clear H
    have H:=H1
    clear H1
    obtain rfl:=Option.some.inj H
    go_wp2
    repeat (go_quiet (fail);try go_wp2)
    go_ret
    exact ⟨by first|rfl|(simp [errW_none,errW_some] <;> rfl)|(simp [*,errW_none,errW_some] <;> rfl),by repeat (first|(with_reducible first|exact HB.out|apply below_alloc|apply pw_below_drewN|apply below_drew1|refine below_set ?_ GE168.out)|exact HB.out)⟩
   ·replace c8:=Bool.eq_false_iff.mpr c8
    subst c8
    have H1:(if a0_0=2 then ((spec_TextValid.f kj2 a0_2).bind fun t170=>(if t170=true then (spec_l1Is.j1 kj2 a1 false a0_0 a0_1 a0_2 l0_3) else (spec_l1Is.j1 kj2 a1 true a0_0 a0_1 a0_2 l0_3))) else (spec_l1Is.j1 kj2 a1 (a0_2.toList != ([]:List UInt8)) a0_0 a0_1 a0_2 l0_3))=some r:=by rw [if_neg (show ¬ (false=true) by decide)] at H;exact H
    clear H
    have H:=H1
    clear H1
    have HC9:=Aside0.mk H
    clear H
    go_upto_region 3 with (fail)
    repeat (go_quiet (fail);go_upto_region 3 with (fail))
    go_cut [35] (fun v35 wc=>∃ (kq:Nat) (x35_8:Bool),v35=.bool x35_8∧Aside0 (spec_l1Is.j1 kq a1 x35_8 a0_0 a0_1 a0_2 l0_3=some r)∧Aside0 (kq≤kj2)∧Aside0 (wc.heap[gb168]?=some (.cells #[.int .i64 a0_0,.int .i64 a0_1,.string a0_2,(.slice A0_3 l0_3.length c0_3)] 27 (0,0)))∧Aside0 (Below w.heap.size w wc))
    case first =>
     have H:=HC9.out
     clear HC9
     by_cases c10:a0_0=2
     ·rw [if_pos c10] at H
      have c10b0:(a0_0 == 2)=true:=beq_iff_eq.mpr c10
      have c10b1:(a0_0 != 2)=false:=bne_eq_false_iff_eq.mpr c10
      clear c10
      (first|rw [c10b0]|(simp only [i64_w,i32_w];rw [c10b0])|skip)
      replace H:=Option.bind_eq_some_iff.mp H
      obtain ⟨t170,A110,H⟩:=H
      replace H:(if t170=true then (spec_l1Is.j1 kj2 a1 false a0_0 a0_1 a0_2 l0_3) else (spec_l1Is.j1 kj2 a1 true a0_0 a0_1 a0_2 l0_3))=some r:=H
      have A11:=Aside0.mk A110
      clear A110
      by_cases c12:t170=true
      ·subst c12
       have H1:(spec_l1Is.j1 kj2 a1 false a0_0 a0_1 a0_2 l0_3)=some r:=by rw [if_pos rfl] at H;exact H
       clear H
       have H:=H1
       clear H1
       have H':=Aside0.mk H
       clear H
       have hcz13_0:wc.cell? ⟨gb168,0,none⟩=some (.int .i64 a0_0):=(blk_cell BK168.out 0).trans rfl
       have hcz13_1:wc.cell? ⟨gb168,1,none⟩=some (.int .i64 a0_1):=(blk_cell BK168.out 1).trans rfl
       have hcz13_2:wc.cell? ⟨gb168,2,none⟩=some (.string a0_2):=(blk_cell BK168.out 2).trans rfl
       have hcz13_3:wc.cell? ⟨gb168,3,none⟩=some (.slice A0_3 l0_3.length c0_3):=(blk_cell BK168.out 3).trans rfl
       have hfz13_0:=blk_frozen BK168.out 0
       have hfz13_1:=blk_frozen BK168.out 1
       have hfz13_2:=blk_frozen BK168.out 2
       have hfz13_3:=blk_frozen BK168.out 3
       go_wp2_with (first|(go_at_call 18;(with_reducible refine (spec_TextValid.calls kj2 a0_2 true _ A11.out).mono ?_);rintro e w' ⟨rfl,⟨nd,rfl⟩⟩;(try first|exact ⟨rfl,_,World.drewN_drewN _ _ _⟩ | exact ⟨rfl,_,Eq.trans (World.drewN_drewN _ _ _) (congrArg (World.drewN _) (Nat.add_assoc _ _ _))⟩)))
       repeat (go_quiet (first|(go_at_call 18;(with_reducible refine (spec_TextValid.calls kj2 a0_2 true _ A11.out).mono ?_);rintro e w' ⟨rfl,⟨nd,rfl⟩⟩;(try first|exact ⟨rfl,_,World.drewN_drewN _ _ _⟩ | exact ⟨rfl,_,Eq.trans (World.drewN_drewN _ _ _) (congrArg (World.drewN _) (Nat.add_assoc _ _ _))⟩)));try go_wp2_with (first|(go_at_call 18;(with_reducible refine (spec_TextValid.calls kj2 a0_2 true _ A11.out).mono ?_);rintro e w' ⟨rfl,⟨nd,rfl⟩⟩;(try first|exact ⟨rfl,_,World.drewN_drewN _ _ _⟩ | exact ⟨rfl,_,Eq.trans (World.drewN_drewN _ _ _) (congrArg (World.drewN _) (Nat.add_assoc _ _ _))⟩))))
       go_meet
       case rel=>exact ⟨_,(false),(by first|rfl|(simp;done)|(simp [*];done)),H',⟨by have:=HJ2.out;first|omega|exact Nat.le_refl _⟩,⟨by (with_reducible repeat (first|refine blk_drewN ?_ _|refine blk_drew ?_|refine blk_alloc ?_ _));exact BK168.out⟩,⟨by repeat (first|(with_reducible first|exact HB.out|apply below_alloc|apply pw_below_drewN|apply below_drew1|refine below_set ?_ GE168.out)|exact HB.out)⟩⟩
      ·replace c12:=Bool.eq_false_iff.mpr c12
       subst c12
       have H1:(spec_l1Is.j1 kj2 a1 true a0_0 a0_1 a0_2 l0_3)=some r:=by rw [if_neg (show ¬ (false=true) by decide)] at H;exact H
       clear H
       have H:=H1
       clear H1
       have H':=Aside0.mk H
       clear H
       have hcz14_0:wc.cell? ⟨gb168,0,none⟩=some (.int .i64 a0_0):=(blk_cell BK168.out 0).trans rfl
       have hcz14_1:wc.cell? ⟨gb168,1,none⟩=some (.int .i64 a0_1):=(blk_cell BK168.out 1).trans rfl
       have hcz14_2:wc.cell? ⟨gb168,2,none⟩=some (.string a0_2):=(blk_cell BK168.out 2).trans rfl
       have hcz14_3:wc.cell? ⟨gb168,3,none⟩=some (.slice A0_3 l0_3.length c0_3):=(blk_cell BK168.out 3).trans rfl
       have hfz14_0:=blk_frozen BK168.out 0
       have hfz14_1:=blk_frozen BK168.out 1
       have hfz14_2:=blk_frozen BK168.out 2
       have hfz14_3:=blk_frozen BK168.out 3
       go_wp2_with (first|(go_at_call 18;(with_reducible refine (spec_TextValid.calls kj2 a0_2 false _ A11.out).mono ?_);rintro e w' ⟨rfl,⟨nd,rfl⟩⟩;(try first|exact ⟨rfl,_,World.drewN_drewN _ _ _⟩ | exact ⟨rfl,_,Eq.trans (World.drewN_drewN _ _ _) (congrArg (World.drewN _) (Nat.add_assoc _ _ _))⟩)))
       repeat (go_quiet (first|(go_at_call 18;(with_reducible refine (spec_TextValid.calls kj2 a0_2 false _ A11.out).mono ?_);rintro e w' ⟨rfl,⟨nd,rfl⟩⟩;(try first|exact ⟨rfl,_,World.drewN_drewN _ _ _⟩ | exact ⟨rfl,_,Eq.trans (World.drewN_drewN _ _ _) (congrArg (World.drewN _) (Nat.add_assoc _ _ _))⟩)));try go_wp2_with (first|(go_at_call 18;(with_reducible refine (spec_TextValid.calls kj2 a0_2 false _ A11.out).mono ?_);rintro e w' ⟨rfl,⟨nd,rfl⟩⟩;(try first|exact ⟨rfl,_,World.drewN_drewN _ _ _⟩ | exact ⟨rfl,_,Eq.trans (World.drewN_drewN _ _ _) (congrArg (World.drewN _) (Nat.add_assoc _ _ _))⟩))))
       go_meet
       case rel=>exact ⟨_,(true),(by first|rfl|(simp;done)|(simp [*];done)),H',⟨by have:=HJ2.out;first|omega|exact Nat.le_refl _⟩,⟨by (with_reducible repeat (first|refine blk_drewN ?_ _|refine blk_drew ?_|refine blk_alloc ?_ _));exact BK168.out⟩,⟨by repeat (first|(with_reducible first|exact HB.out|apply below_alloc|apply pw_below_drewN|apply below_drew1|refine below_set ?_ GE168.out)|exact HB.out)⟩⟩
     ·rw [if_neg c10] at H
      have c10b0:(a0_0 == 2)=false:=beq_eq_false_iff_ne.mpr c10
      have c10b1:(a0_0 != 2)=true:=bne_iff_ne.mpr c10
      (first|rw [c10b0]|(simp only [i64_w,i32_w];rw [c10b0])|skip)
      have H':=Aside0.mk H
      clear H
      have hcz15_0:wc.cell? ⟨gb168,0,none⟩=some (.int .i64 a0_0):=(blk_cell BK168.out 0).trans rfl
      have hcz15_1:wc.cell? ⟨gb168,1,none⟩=some (.int .i64 a0_1):=(blk_cell BK168.out 1).trans rfl
      have hcz15_2:wc.cell? ⟨gb168,2,none⟩=some (.string a0_2):=(blk_cell BK168.out 2).trans rfl
      have hcz15_3:wc.cell? ⟨gb168,3,none⟩=some (.slice A0_3 l0_3.length c0_3):=(blk_cell BK168.out 3).trans rfl
      have hfz15_0:=blk_frozen BK168.out 0
      have hfz15_1:=blk_frozen BK168.out 1
      have hfz15_2:=blk_frozen BK168.out 2
      have hfz15_3:=blk_frozen BK168.out 3
      go_wp2
      repeat (go_quiet (fail);try go_wp2)
      go_meet
      case rel=>exact ⟨_,((a0_2.toList != ([]:List UInt8))),(by first|rfl|(simp only [xp_isEmpty];done)|(simp;done)|(simp [*];done)),H',⟨by have:=HJ2.out;first|omega|exact Nat.le_refl _⟩,⟨by (with_reducible repeat (first|refine blk_drewN ?_ _|refine blk_drew ?_|refine blk_alloc ?_ _));exact BK168.out⟩,⟨by repeat (first|(with_reducible first|exact HB.out|apply below_alloc|apply pw_below_drewN|apply below_drew1|refine below_set ?_ GE168.out)|exact HB.out)⟩⟩
    case rest =>
     clear HC9
     try clear c1 p2 c5 c5b0 c5b1 c8 c10 c10b0 c10b1 c12 hcz13_0 hcz13_1 hcz13_2 hcz13_3 hcz14_0 hcz14_1 hcz14_2 hcz14_3 hcz15_0 hcz15_1 hcz15_2 hcz15_3 hcz7_0 hcz7_1 hcz7_2 hcz7_3 hfz13_0 hfz13_1 hfz13_2 hfz13_3 hfz14_0 hfz14_1 hfz14_2 hfz14_3 hfz15_0 hfz15_1 hfz15_2 hfz15_3 hfz7_0 hfz7_1 hfz7_2 hfz7_3 p2
     obtain ⟨kq,x35_8,rfl,HA,HJ8,BK168,HB⟩:=hcut
     cases kq with
     | zero=>exact absurd HA.out (by simp [spec_l1Is.j1])
     | succ kj8 =>
      have H:=HA.out
      clear HA
      simp only [spec_l1Is.j1] at H
      by_cases c16:x35_8=true
      ·subst c16
       have H1:(some false)=some r:=by rw [if_pos rfl] at H;exact H
       clear H
       have H:=H1
       clear H1
       obtain rfl:=Option.some.inj H
       go_wp2
       repeat (go_quiet (fail);try go_wp2)
       go_ret
       exact ⟨by first|rfl|(simp [errW_none,errW_some] <;> rfl)|(simp [*,errW_none,errW_some] <;> rfl),by repeat (first|(with_reducible first|exact HB.out|apply below_alloc|apply pw_below_drewN|apply below_drew1|refine below_set ?_ GE168.out)|exact HB.out)⟩
      ·replace c16:=Bool.eq_false_iff.mpr c16
       subst c16
       have H1:(if a0_0=6 then (if a0_1<0 then (spec_l1Is.j2 kj8 a1 true a0_0 a0_1 a0_2 l0_3) else (if a0_1>9 then (spec_l1Is.j2 kj8 a1 true a0_0 a0_1 a0_2 l0_3) else (spec_l1Is.j2 kj8 a1 false a0_0 a0_1 a0_2 l0_3))) else (spec_l1Is.j2 kj8 a1 (a0_1 != 0) a0_0 a0_1 a0_2 l0_3))=some r:=by rw [if_neg (show ¬ (false=true) by decide)] at H;exact H
       clear H
       have H:=H1
       clear H1
       have HC17:=Aside0.mk H
       clear H
       go_upto_region 5 with (fail)
       repeat (go_quiet (fail);go_upto_region 5 with (fail))
       go_cut [58] (fun v58 wc=>∃ (kq:Nat) (x58_16:Bool),v58=.bool x58_16∧Aside0 (spec_l1Is.j2 kq a1 x58_16 a0_0 a0_1 a0_2 l0_3=some r)∧Aside0 (kq≤kj8)∧Aside0 (wc.heap[gb168]?=some (.cells #[.int .i64 a0_0,.int .i64 a0_1,.string a0_2,(.slice A0_3 l0_3.length c0_3)] 27 (0,0)))∧Aside0 (Below w.heap.size w wc))
       case first =>
        have H:=HC17.out
        clear HC17
        by_cases c18:a0_0=6
        ·rw [if_pos c18] at H
         have c18b0:(a0_0 == 6)=true:=beq_iff_eq.mpr c18
         have c18b1:(a0_0 != 6)=false:=bne_eq_false_iff_eq.mpr c18
         clear c18
         (first|rw [c18b0]|(simp only [i64_w,i32_w];rw [c18b0])|skip)
         by_cases c19:a0_1<0
         ·rw [if_pos c19] at H
          have c19b0:decide (a0_1<0)=true:=decide_eq_true c19
          clear c19
          have H':=Aside0.mk H
          clear H
          have hcz20_0:wc.cell? ⟨gb168,0,none⟩=some (.int .i64 a0_0):=(blk_cell BK168.out 0).trans rfl
          have hcz20_1:wc.cell? ⟨gb168,1,none⟩=some (.int .i64 a0_1):=(blk_cell BK168.out 1).trans rfl
          have hcz20_2:wc.cell? ⟨gb168,2,none⟩=some (.string a0_2):=(blk_cell BK168.out 2).trans rfl
          have hcz20_3:wc.cell? ⟨gb168,3,none⟩=some (.slice A0_3 l0_3.length c0_3):=(blk_cell BK168.out 3).trans rfl
          have hfz20_0:=blk_frozen BK168.out 0
          have hfz20_1:=blk_frozen BK168.out 1
          have hfz20_2:=blk_frozen BK168.out 2
          have hfz20_3:=blk_frozen BK168.out 3
          go_wp2
          repeat (go_quiet (fail);try go_wp2)
          go_meet
          case rel=>exact ⟨_,(true),(by first|rfl|(simp;done)|(simp [*];done)),H',⟨by have:=HJ2.out;have:=HJ8.out;first|omega|exact Nat.le_refl _⟩,⟨by (with_reducible repeat (first|refine blk_drewN ?_ _|refine blk_drew ?_|refine blk_alloc ?_ _));exact BK168.out⟩,⟨by repeat (first|(with_reducible first|exact HB.out|apply below_alloc|apply pw_below_drewN|apply below_drew1|refine below_set ?_ GE168.out)|exact HB.out)⟩⟩
         ·rw [if_neg c19] at H
          have c19b0:decide (a0_1<0)=false:=decide_eq_false c19
          clear c19
          by_cases c21:a0_1>9
          ·rw [if_pos c21] at H
           have c21b0:decide (9<a0_1)=true:=decide_eq_true c21
           clear c21
           have H':=Aside0.mk H
           clear H
           have hcz22_0:wc.cell? ⟨gb168,0,none⟩=some (.int .i64 a0_0):=(blk_cell BK168.out 0).trans rfl
           have hcz22_1:wc.cell? ⟨gb168,1,none⟩=some (.int .i64 a0_1):=(blk_cell BK168.out 1).trans rfl
           have hcz22_2:wc.cell? ⟨gb168,2,none⟩=some (.string a0_2):=(blk_cell BK168.out 2).trans rfl
           have hcz22_3:wc.cell? ⟨gb168,3,none⟩=some (.slice A0_3 l0_3.length c0_3):=(blk_cell BK168.out 3).trans rfl
           have hfz22_0:=blk_frozen BK168.out 0
           have hfz22_1:=blk_frozen BK168.out 1
           have hfz22_2:=blk_frozen BK168.out 2
           have hfz22_3:=blk_frozen BK168.out 3
           go_wp2
           repeat (go_quiet (fail);try go_wp2)
           go_meet
           case rel=>exact ⟨_,(true),(by first|rfl|(simp;done)|(simp [*];done)),H',⟨by have:=HJ2.out;have:=HJ8.out;first|omega|exact Nat.le_refl _⟩,⟨by (with_reducible repeat (first|refine blk_drewN ?_ _|refine blk_drew ?_|refine blk_alloc ?_ _));exact BK168.out⟩,⟨by repeat (first|(with_reducible first|exact HB.out|apply below_alloc|apply pw_below_drewN|apply below_drew1|refine below_set ?_ GE168.out)|exact HB.out)⟩⟩
          ·rw [if_neg c21] at H
           have c21b0:decide (9<a0_1)=false:=decide_eq_false c21
           clear c21
           have H':=Aside0.mk H
           clear H
           have hcz23_0:wc.cell? ⟨gb168,0,none⟩=some (.int .i64 a0_0):=(blk_cell BK168.out 0).trans rfl
           have hcz23_1:wc.cell? ⟨gb168,1,none⟩=some (.int .i64 a0_1):=(blk_cell BK168.out 1).trans rfl
           have hcz23_2:wc.cell? ⟨gb168,2,none⟩=some (.string a0_2):=(blk_cell BK168.out 2).trans rfl
           have hcz23_3:wc.cell? ⟨gb168,3,none⟩=some (.slice A0_3 l0_3.length c0_3):=(blk_cell BK168.out 3).trans rfl
           have hfz23_0:=blk_frozen BK168.out 0
           have hfz23_1:=blk_frozen BK168.out 1
           have hfz23_2:=blk_frozen BK168.out 2
           have hfz23_3:=blk_frozen BK168.out 3
           go_wp2
           repeat (go_quiet (fail);try go_wp2)
           go_meet
           case rel=>exact ⟨_,(false),(by first|rfl|(simp;done)|(simp [*];done)),H',⟨by have:=HJ2.out;have:=HJ8.out;first|omega|exact Nat.le_refl _⟩,⟨by (with_reducible repeat (first|refine blk_drewN ?_ _|refine blk_drew ?_|refine blk_alloc ?_ _));exact BK168.out⟩,⟨by repeat (first|(with_reducible first|exact HB.out|apply below_alloc|apply pw_below_drewN|apply below_drew1|refine below_set ?_ GE168.out)|exact HB.out)⟩⟩
        ·rw [if_neg c18] at H
         have c18b0:(a0_0 == 6)=false:=beq_eq_false_iff_ne.mpr c18
         have c18b1:(a0_0 != 6)=true:=bne_iff_ne.mpr c18
         (first|rw [c18b0]|(simp only [i64_w,i32_w];rw [c18b0])|skip)
         have H':=Aside0.mk H
         clear H
         have hcz24_0:wc.cell? ⟨gb168,0,none⟩=some (.int .i64 a0_0):=(blk_cell BK168.out 0).trans rfl
         have hcz24_1:wc.cell? ⟨gb168,1,none⟩=some (.int .i64 a0_1):=(blk_cell BK168.out 1).trans rfl
         have hcz24_2:wc.cell? ⟨gb168,2,none⟩=some (.string a0_2):=(blk_cell BK168.out 2).trans rfl
         have hcz24_3:wc.cell? ⟨gb168,3,none⟩=some (.slice A0_3 l0_3.length c0_3):=(blk_cell BK168.out 3).trans rfl
         have hfz24_0:=blk_frozen BK168.out 0
         have hfz24_1:=blk_frozen BK168.out 1
         have hfz24_2:=blk_frozen BK168.out 2
         have hfz24_3:=blk_frozen BK168.out 3
         go_wp2
         repeat (go_quiet (fail);try go_wp2)
         go_meet
         case rel=>exact ⟨_,((a0_1 != 0)),(by first|rfl|(simp;done)|(simp [*];done)),H',⟨by have:=HJ2.out;have:=HJ8.out;first|omega|exact Nat.le_refl _⟩,⟨by (with_reducible repeat (first|refine blk_drewN ?_ _|refine blk_drew ?_|refine blk_alloc ?_ _));exact BK168.out⟩,⟨by repeat (first|(with_reducible first|exact HB.out|apply below_alloc|apply pw_below_drewN|apply below_drew1|refine below_set ?_ GE168.out)|exact HB.out)⟩⟩
       case rest =>
        clear HC17
        try clear c1 c2 p2 c5 c5b0 c5b1 c8 c10 c10b0 c10b1 c12 c16 c18 c18b0 c18b1 c19 c19b0 c21 c21b0 hcz13_0 hcz13_1 hcz13_2 hcz13_3 hcz14_0 hcz14_1 hcz14_2 hcz14_3 hcz15_0 hcz15_1 hcz15_2 hcz15_3 hcz20_0 hcz20_1 hcz20_2 hcz20_3 hcz22_0 hcz22_1 hcz22_2 hcz22_3 hcz23_0 hcz23_1 hcz23_2 hcz23_3 hcz24_0 hcz24_1 hcz24_2 hcz24_3 hcz7_0 hcz7_1 hcz7_2 hcz7_3 hfz13_0 hfz13_1 hfz13_2 hfz13_3 hfz14_0 hfz14_1 hfz14_2 hfz14_3 hfz15_0 hfz15_1 hfz15_2 hfz15_3 hfz20_0 hfz20_1 hfz20_2 hfz20_3 hfz22_0 hfz22_1 hfz22_2 hfz22_3 hfz23_0 hfz23_1 hfz23_2 hfz23_3 hfz24_0 hfz24_1 hfz24_2 hfz24_3 hfz7_0 hfz7_1 hfz7_2 hfz7_3 p2
        obtain ⟨kq,x58_16,rfl,HA,HJ16,BK168,HB⟩:=hcut
        cases kq with
        | zero=>exact absurd HA.out (by simp [spec_l1Is.j2])
        | succ kj16 =>
         have H:=HA.out
         clear HA
         simp only [spec_l1Is.j2] at H
         by_cases c25:x58_16=true
         ·subst c25
          have H1:(some false)=some r:=by rw [if_pos rfl] at H;exact H
          clear H
          have H:=H1
          clear H1
          obtain rfl:=Option.some.inj H
          go_wp2
          repeat (go_quiet (fail);try go_wp2)
          go_ret
          exact ⟨by first|rfl|(simp [errW_none,errW_some] <;> rfl)|(simp [*,errW_none,errW_some] <;> rfl),by repeat (first|(with_reducible first|exact HB.out|apply below_alloc|apply pw_below_drewN|apply below_drew1|refine below_set ?_ GE168.out)|exact HB.out)⟩
         ·replace c25:=Bool.eq_false_iff.mpr c25
          subst c25
          have H1:(spec_l1Is.l0 kj16 a1 0 a0_0 a0_1 a0_2 l0_3)=some r:=by rw [if_neg (show ¬ (false=true) by decide)] at H;exact H
          clear H
          have H:=H1
          clear H1
          have H':=Aside0.mk H
          clear H
          go_wp2
          repeat (go_quiet (fail);try go_wp2)
          go_loopg [5] kj16 (fun kq v5 w'=>∃ (x5_4:Int),v5=.int .i64 x5_4∧Aside0 (spec_l1Is.l0 kq a1 x5_4 a0_0 a0_1 a0_2 l0_3=some r)∧Aside0 (kq≤kj16)∧Aside0 (w'.heap[gb168]?=some (.cells #[.int .i64 a0_0,.int .i64 a0_1,.string a0_2,(.slice A0_3 l0_3.length c0_3)] 27 (0,0)))∧Aside0 (Below w.heap.size w w'))
          case atStart=>exact ⟨(0),(by first|rfl|(simp;done)|(simp [*];done)),H',⟨Nat.le_refl _⟩,⟨by (with_reducible repeat (first|refine blk_drewN ?_ _|refine blk_drew ?_|refine blk_alloc ?_ _));exact BK168.out⟩,⟨by repeat (first|(with_reducible first|exact HB.out|apply below_alloc|apply pw_below_drewN|apply below_drew1|refine below_set ?_ GE168.out)|exact HB.out)⟩⟩
          case round =>
           clear H'
           try clear c1 c2 p2 c5 c5b0 c5b1 c8 c10 c10b0 c10b1 c12 c16 c18 c18b0 c18b1 c19 c19b0 c21 c21b0 c25 hcz13_0 hcz13_1 hcz13_2 hcz13_3 hcz14_0 hcz14_1 hcz14_2 hcz14_3 hcz15_0 hcz15_1 hcz15_2 hcz15_3 hcz20_0 hcz20_1 hcz20_2 hcz20_3 hcz22_0 hcz22_1 hcz22_2 hcz22_3 hcz23_0 hcz23_1 hcz23_2 hcz23_3 hcz24_0 hcz24_1 hcz24_2 hcz24_3 hcz7_0 hcz7_1 hcz7_2 hcz7_3 hfz13_0 hfz13_1 hfz13_2 hfz13_3 hfz14_0 hfz14_1 hfz14_2 hfz14_3 hfz15_0 hfz15_1 hfz15_2 hfz15_3 hfz20_0 hfz20_1 hfz20_2 hfz20_3 hfz22_0 hfz22_1 hfz22_2 hfz22_3 hfz23_0 hfz23_1 hfz23_2 hfz23_3 hfz24_0 hfz24_1 hfz24_2 hfz24_3 hfz7_0 hfz7_1 hfz7_2 hfz7_3 p2
           (try clear BK168);(try clear HB)
           obtain ⟨x5_4,rfl,HA,HK4,BK168,HB⟩:=hrel
           cases gk with
           | zero=>exact absurd HA.out (by simp [spec_l1Is.l0])
           | succ k4 =>
            have H:=HA.out
            clear HA
            simp only [spec_l1Is.l0] at H
            by_cases c26:x5_4<(l0_3.length:Int)
            ·rw [if_pos c26] at H
             have c26b0:decide (x5_4<(l0_3.length:Int))=true:=decide_eq_true c26
             clear c26
             by_cases c27:0≤x5_4
             ·rw [if_pos c27] at H
              have c27b0:decide (0≤x5_4)=true:=decide_eq_true c27
              clear c27
              replace H:=Option.bind_eq_some_iff.mp H
              obtain ⟨t172,A280,H⟩:=H
              replace H:(if t172=true then (spec_l1Is.l0 k4 a1 (wrap64 (x5_4+1)) a0_0 a0_1 a0_2 l0_3) else (some false))=some r:=H
              have A28:=Aside0.mk A280
              clear A280
              by_cases c29:t172=true
              ·subst c29
               have H1:(spec_l1Is.l0 k4 a1 (wrap64 (x5_4+1)) a0_0 a0_1 a0_2 l0_3)=some r:=by rw [if_pos rfl] at H;exact H
               clear H
               have H:=H1
               clear H1
               have H':=Aside0.mk H
               clear H
               have hcz30_0:wr.cell? ⟨gb168,0,none⟩=some (.int .i64 a0_0):=(blk_cell BK168.out 0).trans rfl
               have hcz30_1:wr.cell? ⟨gb168,1,none⟩=some (.int .i64 a0_1):=(blk_cell BK168.out 1).trans rfl
               have hcz30_2:wr.cell? ⟨gb168,2,none⟩=some (.string a0_2):=(blk_cell BK168.out 2).trans rfl
               have hcz30_3:wr.cell? ⟨gb168,3,none⟩=some (.slice A0_3 l0_3.length c0_3):=(blk_cell BK168.out 3).trans rfl
               have hfz30_0:=blk_frozen BK168.out 0
               have hfz30_1:=blk_frozen BK168.out 1
               have hfz30_2:=blk_frozen BK168.out 2
               have hfz30_3:=blk_frozen BK168.out 3
               have p171:0≤(x5_4:Int):=of_decide_eq_true (by first|(with_reducible assumption)|assumption)
               have q171:x5_4<(l0_3.length:Int):=of_decide_eq_true (by first|(with_reducible assumption)|assumption)
               obtain ⟨ad171,A171_3,c171_3,e171,hx171_0,hx171_1,hx171_2,hx171_3,hl171_3,hi171_3⟩:=at_TDoc HR0_3.out x5_4 p171 q171
               cases e171
               replace hx171_0:=(HB.out.cell (World.block_lt_of_cell? w _ hx171_0)).trans hx171_0
               replace hx171_1:=(HB.out.cell (World.block_lt_of_cell? w _ hx171_1)).trans hx171_1
               replace hx171_2:=(HB.out.cell (World.block_lt_of_cell? w _ hx171_2)).trans hx171_2
               replace hx171_3:=(HB.out.cell (World.block_lt_of_cell? w _ hx171_3)).trans hx171_3
               have HR171_3:=Aside0.mk hi171_3
               have HC171_3:=Aside0.mk hl171_3
               clear hi171_3 hl171_3
               replace p171:=eq_true p171
               replace q171:=eq_true q171
               go_wp2_with (first|(go_at_call 53;(with_reducible refine (ih k4 (by have:=HJ2.out;have:=HJ8.out;have:=HJ16.out;have:=HK4.out;omega) ((rd_TDoc l0_3 x5_4).f0) ((rd_TDoc l0_3 x5_4).f1) ((rd_TDoc l0_3 x5_4).f2) _ _ ((rd_TDoc l0_3 x5_4).f3) (wrap64 (a1 - 1)) true _ ?side1 ?side2 A28.out).mono ?_);(case side1=>repeat (first|exact (Kd.C_below HR171_3.out HB.out)|(with_reducible refine Kd.C_alloc ?_ _)|(with_reducible refine Kd.C_drewN ?_ _)|(with_reducible refine Kd.C_drew ?_)));(case side2=>exact HC171_3.out);rintro e w31 ⟨rfl,hb⟩;have n0_:=Aside0.mk (blk_below (g:=gb168) (o:=.cells #[.int .i64 a0_0,.int .i64 a0_1,.string a0_2,.slice (some ad171) l0_3.length c0_3] 27 (0,0)) (by (with_reducible repeat (first|refine blk_drewN ?_ _|refine blk_drew ?_|refine blk_alloc ?_ _));exact BK168.out) hb);have n1_:=Aside0.mk (below_step (by repeat (first|(with_reducible first|exact HB.out|apply below_alloc|apply pw_below_drewN|apply below_drew1|refine below_set ?_ GE168.out)|exact HB.out)) hb);clear BK168;clear HB;have BK168:=n0_;have HB:=n1_;clear n0_ n1_;(try clear hb);(try clear hb2);(try clear hk);(try clear hi)))
               repeat (go_quiet (first|(go_at_call 53;(with_reducible refine (ih k4 (by have:=HJ2.out;have:=HJ8.out;have:=HJ16.out;have:=HK4.out;omega) ((rd_TDoc l0_3 x5_4).f0) ((rd_TDoc l0_3 x5_4).f1) ((rd_TDoc l0_3 x5_4).f2) _ _ ((rd_TDoc l0_3 x5_4).f3) (wrap64 (a1 - 1)) true _ ?side1 ?side2 A28.out).mono ?_);(case side1=>repeat (first|exact (Kd.C_below HR171_3.out HB.out)|(with_reducible refine Kd.C_alloc ?_ _)|(with_reducible refine Kd.C_drewN ?_ _)|(with_reducible refine Kd.C_drew ?_)));(case side2=>exact HC171_3.out);rintro e w31 ⟨rfl,hb⟩;have n0_:=Aside0.mk (blk_below (g:=gb168) (o:=.cells #[.int .i64 a0_0,.int .i64 a0_1,.string a0_2,.slice (some ad171) l0_3.length c0_3] 27 (0,0)) (by (with_reducible repeat (first|refine blk_drewN ?_ _|refine blk_drew ?_|refine blk_alloc ?_ _));exact BK168.out) hb);have n1_:=Aside0.mk (below_step (by repeat (first|(with_reducible first|exact HB.out|apply below_alloc|apply pw_below_drewN|apply below_drew1|refine below_set ?_ GE168.out)|exact HB.out)) hb);clear BK168;clear HB;have BK168:=n0_;have HB:=n1_;clear n0_ n1_;(try clear hb);(try clear hb2);(try clear hk);(try clear hi)));try go_wp2_with (first|(go_at_call 53;(with_reducible refine (ih k4 (by have:=HJ2.out;have:=HJ8.out;have:=HJ16.out;have:=HK4.out;omega) ((rd_TDoc l0_3 x5_4).f0) ((rd_TDoc l0_3 x5_4).f1) ((rd_TDoc l0_3 x5_4).f2) _ _ ((rd_TDoc l0_3 x5_4).f3) (wrap64 (a1 - 1)) true _ ?side1 ?side2 A28.out).mono ?_);(case side1=>repeat (first|exact (Kd.C_below HR171_3.out HB.out)|(with_reducible refine Kd.C_alloc ?_ _)|(with_reducible refine Kd.C_drewN ?_ _)|(with_reducible refine Kd.C_drew ?_)));(case side2=>exact HC171_3.out);rintro e w31 ⟨rfl,hb⟩;have n0_:=Aside0.mk (blk_below (g:=gb168) (o:=.cells #[.int .i64 a0_0,.int .i64 a0_1,.string a0_2,.slice (some ad171) l0_3.length c0_3] 27 (0,0)) (by (with_reducible repeat (first|refine blk_drewN ?_ _|refine blk_drew ?_|refine blk_alloc ?_ _));exact BK168.out) hb);have n1_:=Aside0.mk (below_step (by repeat (first|(with_reducible first|exact HB.out|apply below_alloc|apply pw_below_drewN|apply below_drew1|refine below_set ?_ GE168.out)|exact HB.out)) hb);clear BK168;clear HB;have BK168:=n0_;have HB:=n1_;clear n0_ n1_;(try clear hb);(try clear hb2);(try clear hk);(try clear hi))))
               go_roundg k4
               case measure=>have:=HJ2.out;have:=HJ8.out;have:=HJ16.out;have:=HK4.out;omega
               case rel=>exact ⟨(wrap64 (x5_4+1)),(by first|rfl|(simp;done)|(simp [*];done)),H',⟨by have:=HJ2.out;have:=HJ8.out;have:=HJ16.out;have:=HK4.out;omega⟩,⟨by (with_reducible repeat (first|refine blk_drewN ?_ _|refine blk_drew ?_|refine blk_alloc ?_ _));exact BK168.out⟩,⟨by repeat (first|(with_reducible first|exact HB.out|apply below_alloc|apply pw_below_drewN|apply below_drew1|refine below_set ?_ GE168.out)|exact HB.out)⟩⟩
              ·replace c29:=Bool.eq_false_iff.mpr c29
               subst c29
               have H1:(some false)=some r:=by rw [if_neg (show ¬ (false=true) by decide)] at H;exact H
               clear H
               have H:=H1
               clear H1
               obtain rfl:=Option.some.inj H
               have hcz32_0:wr.cell? ⟨gb168,0,none⟩=some (.int .i64 a0_0):=(blk_cell BK168.out 0).trans rfl
               have hcz32_1:wr.cell? ⟨gb168,1,none⟩=some (.int .i64 a0_1):=(blk_cell BK168.out 1).trans rfl
               have hcz32_2:wr.cell? ⟨gb168,2,none⟩=some (.string a0_2):=(blk_cell BK168.out 2).trans rfl
               have hcz32_3:wr.cell? ⟨gb168,3,none⟩=some (.slice A0_3 l0_3.length c0_3):=(blk_cell BK168.out 3).trans rfl
               have hfz32_0:=blk_frozen BK168.out 0
               have hfz32_1:=blk_frozen BK168.out 1
               have hfz32_2:=blk_frozen BK168.out 2
               have hfz32_3:=blk_frozen BK168.out 3
               have p171:0≤(x5_4:Int):=of_decide_eq_true (by first|(with_reducible assumption)|assumption)
               have q171:x5_4<(l0_3.length:Int):=of_decide_eq_true (by first|(with_reducible assumption)|assumption)
               (try clear hx171_0);(try clear hx171_1);(try clear hx171_2);(try clear hx171_3)
               obtain ⟨ad171,A171_3,c171_3,e171,hx171_0,hx171_1,hx171_2,hx171_3,hl171_3,hi171_3⟩:=at_TDoc HR0_3.out x5_4 p171 q171
               cases e171
               (try (have ea_:=Option.some.inj (hx171_3.symm.trans hw171_3);injection ea_ with ea_ en_ ec_;subst ea_;subst ec_;clear en_))
               replace hx171_0:=(HB.out.cell (World.block_lt_of_cell? w _ hx171_0)).trans hx171_0
               replace hx171_1:=(HB.out.cell (World.block_lt_of_cell? w _ hx171_1)).trans hx171_1
               replace hx171_2:=(HB.out.cell (World.block_lt_of_cell? w _ hx171_2)).trans hx171_2
               replace hx171_3:=(HB.out.cell (World.block_lt_of_cell? w _ hx171_3)).trans hx171_3
               have HR171_3:=Aside0.mk hi171_3
               have HC171_3:=Aside0.mk hl171_3
               clear hi171_3 hl171_3
               replace p171:=eq_true p171
               replace q171:=eq_true q171
               go_wp2_with (first|(go_at_call 53;(with_reducible refine (ih k4 (by have:=HJ2.out;have:=HJ8.out;have:=HJ16.out;have:=HK4.out;omega) ((rd_TDoc l0_3 x5_4).f0) ((rd_TDoc l0_3 x5_4).f1) ((rd_TDoc l0_3 x5_4).f2) _ _ ((rd_TDoc l0_3 x5_4).f3) (wrap64 (a1 - 1)) false _ ?side1 ?side2 A28.out).mono ?_);(case side1=>repeat (first|exact (Kd.C_below HR171_3.out HB.out)|(with_reducible refine Kd.C_alloc ?_ _)|(with_reducible refine Kd.C_drewN ?_ _)|(with_reducible refine Kd.C_drew ?_)));(case side2=>exact HC171_3.out);rintro e w33 ⟨rfl,hb⟩;have n0_:=Aside0.mk (blk_below (g:=gb168) (o:=.cells #[.int .i64 a0_0,.int .i64 a0_1,.string a0_2,.slice (some ad171) l0_3.length c0_3] 27 (0,0)) (by (with_reducible repeat (first|refine blk_drewN ?_ _|refine blk_drew ?_|refine blk_alloc ?_ _));exact BK168.out) hb);have n1_:=Aside0.mk (below_step (by repeat (first|(with_reducible first|exact HB.out|apply below_alloc|apply pw_below_drewN|apply below_drew1|refine below_set ?_ GE168.out)|exact HB.out)) hb);clear BK168;clear HB;have BK168:=n0_;have HB:=n1_;clear n0_ n1_;(try clear hb);(try clear hb2);(try clear hk);(try clear hi)))
               repeat (go_quiet (first|(go_at_call 53;(with_reducible refine (ih k4 (by have:=HJ2.out;have:=HJ8.out;have:=HJ16.out;have:=HK4.out;omega) ((rd_TDoc l0_3 x5_4).f0) ((rd_TDoc l0_3 x5_4).f1) ((rd_TDoc l0_3 x5_4).f2) _ _ ((rd_TDoc l0_3 x5_4).f3) (wrap64 (a1 - 1)) false _ ?side1 ?side2 A28.out).mono ?_);(case side1=>repeat (first|exact (Kd.C_below HR171_3.out HB.out)|(with_reducible refine Kd.C_alloc ?_ _)|(with_reducible refine Kd.C_drewN ?_ _)|(with_reducible refine Kd.C_drew ?_)));(case side2=>exact HC171_3.out);rintro e w33 ⟨rfl,hb⟩;have n0_:=Aside0.mk (blk_below (g:=gb168) (o:=.cells #[.int .i64 a0_0,.int .i64 a0_1,.string a0_2,.slice (some ad171) l0_3.length c0_3] 27 (0,0)) (by (with_reducible repeat (first|refine blk_drewN ?_ _|refine blk_drew ?_|refine blk_alloc ?_ _));exact BK168.out) hb);have n1_:=Aside0.mk (below_step (by repeat (first|(with_reducible first|exact HB.out|apply below_alloc|apply pw_below_drewN|apply below_drew1|refine below_set ?_ GE168.out)|exact HB.out)) hb);clear BK168;clear HB;have BK168:=n0_;have HB:=n1_;clear n0_ n1_;(try clear hb);(try clear hb2);(try clear hk);(try clear hi)));try go_wp2_with (first|(go_at_call 53;(with_reducible refine (ih k4 (by have:=HJ2.out;have:=HJ8.out;have:=HJ16.out;have:=HK4.out;omega) ((rd_TDoc l0_3 x5_4).f0) ((rd_TDoc l0_3 x5_4).f1) ((rd_TDoc l0_3 x5_4).f2) _ _ ((rd_TDoc l0_3 x5_4).f3) (wrap64 (a1 - 1)) false _ ?side1 ?side2 A28.out).mono ?_);(case side1=>repeat (first|exact (Kd.C_below HR171_3.out HB.out)|(with_reducible refine Kd.C_alloc ?_ _)|(with_reducible refine Kd.C_drewN ?_ _)|(with_reducible refine Kd.C_drew ?_)));(case side2=>exact HC171_3.out);rintro e w33 ⟨rfl,hb⟩;have n0_:=Aside0.mk (blk_below (g:=gb168) (o:=.cells #[.int .i64 a0_0,.int .i64 a0_1,.string a0_2,.slice (some ad171) l0_3.length c0_3] 27 (0,0)) (by (with_reducible repeat (first|refine blk_drewN ?_ _|refine blk_drew ?_|refine blk_alloc ?_ _));exact BK168.out) hb);have n1_:=Aside0.mk (below_step (by repeat (first|(with_reducible first|exact HB.out|apply below_alloc|apply pw_below_drewN|apply below_drew1|refine below_set ?_ GE168.out)|exact HB.out)) hb);clear BK168;clear HB;have BK168:=n0_;have HB:=n1_;clear n0_ n1_;(try clear hb);(try clear hb2);(try clear hk);(try clear hi))))
               go_ret
               exact ⟨by first|rfl|(simp [errW_none,errW_some] <;> rfl)|(simp [*,errW_none,errW_some] <;> rfl),by repeat (first|(with_reducible first|exact HB.out|apply below_alloc|apply pw_below_drewN|apply below_drew1|refine below_set ?_ GE168.out)|exact HB.out)⟩
             ·rw [if_neg c27] at H
              exact absurd H (by simp)
            ·rw [if_neg c26] at H
             have c26b0:decide (x5_4<(l0_3.length:Int))=false:=decide_eq_false c26
             clear c26
             obtain rfl:=Option.some.inj H
             have hcz34_0:wr.cell? ⟨gb168,0,none⟩=some (.int .i64 a0_0):=(blk_cell BK168.out 0).trans rfl
             have hcz34_1:wr.cell? ⟨gb168,1,none⟩=some (.int .i64 a0_1):=(blk_cell BK168.out 1).trans rfl
             have hcz34_2:wr.cell? ⟨gb168,2,none⟩=some (.string a0_2):=(blk_cell BK168.out 2).trans rfl
             have hcz34_3:wr.cell? ⟨gb168,3,none⟩=some (.slice A0_3 l0_3.length c0_3):=(blk_cell BK168.out 3).trans rfl
             have hfz34_0:=blk_frozen BK168.out 0
             have hfz34_1:=blk_frozen BK168.out 1
             have hfz34_2:=blk_frozen BK168.out 2
             have hfz34_3:=blk_frozen BK168.out 3
             go_wp2
             repeat (go_quiet (fail);try go_wp2)
             go_ret
             exact ⟨by first|rfl|(simp [errW_none,errW_some] <;> rfl)|(simp [*,errW_none,errW_some] <;> rfl),by repeat (first|(with_reducible first|exact HB.out|apply below_alloc|apply pw_below_drewN|apply below_drew1|refine below_set ?_ GE168.out)|exact HB.out)⟩
end Go.Proofs.Ytdhdfmmefghijaa.P
namespace Go.Proofs.Ytdhdfmmefghijaa.P
open Go.RowKit Go.Proofs.YtdhdfmmefghijaaW.PrintWords Go.Proofs.YtdhdfmmefghijaaW.PrintLast Go.Proofs.YtdhdfmmefghijaaW.PrintMore
attribute [local go_sem] max2_int min2_int max_two min_two max_three min_three max_four min_four
set_option linter.unusedVariables false
set_option linter.unusedSimpArgs false
def spec_DocValid.f (k:Nat) (a0_0:Int) (a0_1:Int) (a0_2:ByteArray) (l0_3:List (SDoc)):Option (Bool):=(spec_l1Is.f k a0_0 a0_1 a0_2 l0_3 40).bind fun t177=>(if t177=true then ((spec_l1Count.f k a0_0 a0_1 a0_2 l0_3).bind fun t178=>(some (decide (t178≤80)))) else (some false))
set_option maxHeartbeats 8000000 in
set_option maxRecDepth 100000 in
theorem spec_DocValid.calls (k:Nat) (a0_0:Int) (a0_1:Int) (a0_2:ByteArray) (A0_3:Option Addr) (c0_3:Nat) (l0_3:List (SDoc)) (r:Bool) (w:World) (hr0_3:Kd.C k27 w A0_3 l0_3.length l0_3) (hc0_3:l0_3.length≤c0_3) (h:spec_DocValid.f k a0_0 a0_1 a0_2 l0_3=some r) :
  Calls Try.prog 25 #[.agg #[.int .i64 a0_0,.int .i64 a0_1,.string a0_2,.slice A0_3 l0_3.length c0_3]] w fun e w'=>e=.returned (.bool r)∧Below w.heap.size w w':=by
 have hu27:=Try.underlying27
 have HR0_3:=Aside0.mk hr0_3
 have HC0_3:=Aside0.mk hc0_3
 clear hr0_3 hc0_3
 have HB:=Aside0.mk (Below.refl w.heap.size w)
 have H:((spec_l1Is.f k a0_0 a0_1 a0_2 l0_3 40).bind fun t177=>(if t177=true then ((spec_l1Count.f k a0_0 a0_1 a0_2 l0_3).bind fun t178=>(some (decide (t178≤80)))) else (some false)))=some r:=h
 clear h
 replace H:=Option.bind_eq_some_iff.mp H
 obtain ⟨t177,A20,H⟩:=H
 replace H:(if t177=true then ((spec_l1Count.f k a0_0 a0_1 a0_2 l0_3).bind fun t178=>(some (decide (t178≤80)))) else (some false))=some r:=H
 have A2:=Aside0.mk A20
 clear A20
 by_cases c3:t177=true
 ·subst c3
  have H1:((spec_l1Count.f k a0_0 a0_1 a0_2 l0_3).bind fun t178=>(some (decide (t178≤80))))=some r:=by rw [if_pos rfl] at H;exact H
  clear H
  have H:=H1
  clear H1
  replace H:=Option.bind_eq_some_iff.mp H
  obtain ⟨t178,A40,H⟩:=H
  replace H:(some (decide (t178≤80)))=some r:=H
  have A4:=Aside0.mk A40
  clear A40
  obtain rfl:=Option.some.inj H
  go_enter Try.func25,Try.ntmps25
  go_wp2_with (first|((with_reducible refine gate_dst (N:=1) rfl ?_);refine box_event ?hg (N:=1) ?hd (cs:=#[.int .i64 a0_0,.int .i64 a0_1,.string a0_2,.slice A0_3 l0_3.length c0_3]) (t:=27) ?hr ?_;(case hd=>rfl);(case hg=>rfl);(case hr=>first|(go_simp;done)|(go_simp;rfl));intro gb176 hg w5 hbox hb;have n0_:=Aside0.mk (below_step (by repeat (first|(with_reducible first|exact HB.out|apply below_alloc|apply pw_below_drewN|apply below_drew1)|exact HB.out)) hb);have n1_:=Aside0.mk (hbox);have n2_:=Aside0.mk ((by rw [hg];exact (below_size (by repeat (first|(with_reducible first|exact HB.out|apply below_alloc|apply pw_below_drewN|apply below_drew1)|exact HB.out))):w.heap.size≤gb176));have n3_:=Aside0.mk ((by rw [hg];exact (below_size (by repeat (first|(with_reducible first|exact HB.out|apply below_alloc|apply pw_below_drewN|apply below_drew1)|exact HB.out))):w.heap.size≤gb176));clear HB;have HB:=n0_;have BK176:=n1_;have GW176:=n2_;have GE176:=n3_;clear n0_ n1_ n2_ n3_;clear hb hbox hg;have hcz6_0:w5.cell? ⟨gb176,0,none⟩=some (.int .i64 a0_0):=(blk_cell BK176.out 0).trans rfl;have hcz6_1:w5.cell? ⟨gb176,1,none⟩=some (.int .i64 a0_1):=(blk_cell BK176.out 1).trans rfl;have hcz6_2:w5.cell? ⟨gb176,2,none⟩=some (.string a0_2):=(blk_cell BK176.out 2).trans rfl;have hcz6_3:w5.cell? ⟨gb176,3,none⟩=some (.slice A0_3 l0_3.length c0_3):=(blk_cell BK176.out 3).trans rfl;have hfz6_0:=blk_frozen BK176.out 0;have hfz6_1:=blk_frozen BK176.out 1;have hfz6_2:=blk_frozen BK176.out 2;have hfz6_3:=blk_frozen BK176.out 3)|((with_reducible refine gate_callee (f:=53) rfl ?_);refine goesL_ (some 4) rfl rfl Try.func53 (by kernel_rfl) rfl #[.agg #[.int .i64 a0_0,.int .i64 a0_1,.string a0_2,.slice A0_3 l0_3.length c0_3],.int .i64 40] rfl (by (try simp only [List.map_toArray,List.map_cons,List.map_nil]);first|done|rfl|(simp only [List.length_drop,List.length_take];rfl)) ?_;(with_reducible refine (spec_l1Is.calls k a0_0 a0_1 a0_2 _ _ l0_3 40 true _ ?side1 ?side2 A2.out).mono ?_);(case side1=>repeat (first|exact (Kd.C_below HR0_3.out HB.out)|(with_reducible refine Kd.C_alloc ?_ _)|(with_reducible refine Kd.C_drewN ?_ _)|(with_reducible refine Kd.C_drew ?_)));(case side2=>exact HC0_3.out);rintro e w7 ⟨rfl,hb⟩;refine ⟨_,rfl,?_⟩;have n0_:=Aside0.mk (blk_below (g:=gb176) (o:=.cells #[.int .i64 a0_0,.int .i64 a0_1,.string a0_2,.slice A0_3 l0_3.length c0_3] 27 (0,0)) (by (with_reducible repeat (first|refine blk_drewN ?_ _|refine blk_drew ?_|refine blk_alloc ?_ _));exact BK176.out) hb);have n1_:=Aside0.mk (below_step (by repeat (first|(with_reducible first|exact HB.out|apply below_alloc|apply pw_below_drewN|apply below_drew1|refine below_set ?_ GE176.out)|exact HB.out)) hb);clear BK176;clear HB;have BK176:=n0_;have HB:=n1_;clear n0_ n1_;(try clear hb);(try clear hb2);(try clear hk);(try clear hi);have hcz8_0:w7.cell? ⟨gb176,0,none⟩=some (.int .i64 a0_0):=(blk_cell BK176.out 0).trans rfl;have hcz8_1:w7.cell? ⟨gb176,1,none⟩=some (.int .i64 a0_1):=(blk_cell BK176.out 1).trans rfl;have hcz8_2:w7.cell? ⟨gb176,2,none⟩=some (.string a0_2):=(blk_cell BK176.out 2).trans rfl;have hcz8_3:w7.cell? ⟨gb176,3,none⟩=some (.slice A0_3 l0_3.length c0_3):=(blk_cell BK176.out 3).trans rfl;have hfz8_0:=blk_frozen BK176.out 0;have hfz8_1:=blk_frozen BK176.out 1;have hfz8_2:=blk_frozen BK176.out 2;have hfz8_3:=blk_frozen BK176.out 3)|(go_at_call 54;(with_reducible refine (spec_l1Count.calls k a0_0 a0_1 a0_2 _ _ l0_3 t178 _ ?side1 ?side2 A4.out).mono ?_);(case side1=>repeat (first|exact (Kd.C_below HR0_3.out HB.out)|(with_reducible refine Kd.C_alloc ?_ _)|(with_reducible refine Kd.C_drewN ?_ _)|(with_reducible refine Kd.C_drew ?_)));(case side2=>exact HC0_3.out);rintro e w9 ⟨rfl,hb⟩;have n0_:=Aside0.mk (blk_below (g:=gb176) (o:=.cells #[.int .i64 a0_0,.int .i64 a0_1,.string a0_2,.slice A0_3 l0_3.length c0_3] 27 (0,0)) (by (with_reducible repeat (first|refine blk_drewN ?_ _|refine blk_drew ?_|refine blk_alloc ?_ _));exact BK176.out) hb);have n1_:=Aside0.mk (below_step (by repeat (first|(with_reducible first|exact HB.out|apply below_alloc|apply pw_below_drewN|apply below_drew1|refine below_set ?_ GE176.out)|exact HB.out)) hb);clear BK176;clear HB;have BK176:=n0_;have HB:=n1_;clear n0_ n1_;(try clear hb);(try clear hb2);(try clear hk);(try clear hi)))
  go_ret
  exact ⟨by first|rfl|(simp [errW_none,errW_some] <;> rfl)|(simp [*,errW_none,errW_some] <;> rfl),by repeat (first|(with_reducible first|exact HB.out|apply below_alloc|apply pw_below_drewN|apply below_drew1|refine below_set ?_ GE176.out)|exact HB.out)⟩
 ·replace c3:=Bool.eq_false_iff.mpr c3
  subst c3
  have H1:(some false)=some r:=by rw [if_neg (show ¬ (false=true) by decide)] at H;exact H
  clear H
  have H:=H1
  clear H1
  obtain rfl:=Option.some.inj H
  go_enter Try.func25,Try.ntmps25
  go_wp2_with (first|((with_reducible refine gate_dst (N:=1) rfl ?_);refine box_event ?hg (N:=1) ?hd (cs:=#[.int .i64 a0_0,.int .i64 a0_1,.string a0_2,.slice A0_3 l0_3.length c0_3]) (t:=27) ?hr ?_;(case hd=>rfl);(case hg=>rfl);(case hr=>first|(go_simp;done)|(go_simp;rfl));intro gb176 hg w10 hbox hb;have n0_:=Aside0.mk (below_step (by repeat (first|(with_reducible first|exact HB.out|apply below_alloc|apply pw_below_drewN|apply below_drew1)|exact HB.out)) hb);have n1_:=Aside0.mk (hbox);have n2_:=Aside0.mk ((by rw [hg];exact (below_size (by repeat (first|(with_reducible first|exact HB.out|apply below_alloc|apply pw_below_drewN|apply below_drew1)|exact HB.out))):w.heap.size≤gb176));have n3_:=Aside0.mk ((by rw [hg];exact (below_size (by repeat (first|(with_reducible first|exact HB.out|apply below_alloc|apply pw_below_drewN|apply below_drew1)|exact HB.out))):w.heap.size≤gb176));clear HB;have HB:=n0_;have BK176:=n1_;have GW176:=n2_;have GE176:=n3_;clear n0_ n1_ n2_ n3_;clear hb hbox hg;have hcz11_0:w10.cell? ⟨gb176,0,none⟩=some (.int .i64 a0_0):=(blk_cell BK176.out 0).trans rfl;have hcz11_1:w10.cell? ⟨gb176,1,none⟩=some (.int .i64 a0_1):=(blk_cell BK176.out 1).trans rfl;have hcz11_2:w10.cell? ⟨gb176,2,none⟩=some (.string a0_2):=(blk_cell BK176.out 2).trans rfl;have hcz11_3:w10.cell? ⟨gb176,3,none⟩=some (.slice A0_3 l0_3.length c0_3):=(blk_cell BK176.out 3).trans rfl;have hfz11_0:=blk_frozen BK176.out 0;have hfz11_1:=blk_frozen BK176.out 1;have hfz11_2:=blk_frozen BK176.out 2;have hfz11_3:=blk_frozen BK176.out 3)|((with_reducible refine gate_callee (f:=53) rfl ?_);refine goesL_ (some 4) rfl rfl Try.func53 (by kernel_rfl) rfl #[.agg #[.int .i64 a0_0,.int .i64 a0_1,.string a0_2,.slice A0_3 l0_3.length c0_3],.int .i64 40] rfl (by (try simp only [List.map_toArray,List.map_cons,List.map_nil]);first|done|rfl|(simp only [List.length_drop,List.length_take];rfl)) ?_;(with_reducible refine (spec_l1Is.calls k a0_0 a0_1 a0_2 _ _ l0_3 40 false _ ?side1 ?side2 A2.out).mono ?_);(case side1=>repeat (first|exact (Kd.C_below HR0_3.out HB.out)|(with_reducible refine Kd.C_alloc ?_ _)|(with_reducible refine Kd.C_drewN ?_ _)|(with_reducible refine Kd.C_drew ?_)));(case side2=>exact HC0_3.out);rintro e w12 ⟨rfl,hb⟩;refine ⟨_,rfl,?_⟩;have n0_:=Aside0.mk (blk_below (g:=gb176) (o:=.cells #[.int .i64 a0_0,.int .i64 a0_1,.string a0_2,.slice A0_3 l0_3.length c0_3] 27 (0,0)) (by (with_reducible repeat (first|refine blk_drewN ?_ _|refine blk_drew ?_|refine blk_alloc ?_ _));exact BK176.out) hb);have n1_:=Aside0.mk (below_step (by repeat (first|(with_reducible first|exact HB.out|apply below_alloc|apply pw_below_drewN|apply below_drew1|refine below_set ?_ GE176.out)|exact HB.out)) hb);clear BK176;clear HB;have BK176:=n0_;have HB:=n1_;clear n0_ n1_;(try clear hb);(try clear hb2);(try clear hk);(try clear hi)))
  go_ret
  exact ⟨by first|rfl|(simp [errW_none,errW_some] <;> rfl)|(simp [*,errW_none,errW_some] <;> rfl),by repeat (first|(with_reducible first|exact HB.out|apply below_alloc|apply pw_below_drewN|apply below_drew1|refine below_set ?_ GE176.out)|exact HB.out)⟩
end Go.Proofs.Ytdhdfmmefghijaa.P
namespace Go.Proofs.Ytdhdfmmefghijaa.P
open Go.RowKit Go.Proofs.YtdhdfmmefghijaaW.PrintWords Go.Proofs.YtdhdfmmefghijaaW.PrintLast Go.Proofs.YtdhdfmmefghijaaW.PrintMore
attribute [local go_sem] max2_int min2_int max_two min_two max_three min_three max_four min_four
set_option linter.unusedVariables false
set_option linter.unusedSimpArgs false
mutual
def spec_l1Word.j1:Nat→ByteArray→Int→Int→Option (Int×Int×ByteArray×(List (SDoc))×Int)
 | 0,_,_,_=>none
 | k+1,x0,x1,x6=>if x6≥(x0.size:Int) then (some (0,0,(⟨#[]⟩:ByteArray),([]:List (SDoc)),(-1))) else (if 0≤(wrap64 (x1+1)) then (if (wrap64 (x1+1))≤x6 then (if x6≤(x0.size:Int) then (some (2,0,x0.extract ((wrap64 (x1+1)):Int).toNat (x6:Int).toNat,([]:List (SDoc)),wrap64 (x6+1))) else (none)) else (none)) else (none))
def spec_l1Word.l0:Nat→ByteArray→Int→Int→Option (Int×Int×ByteArray×(List (SDoc))×Int)
 | 0,_,_,_=>none
 | k+1,x0,x1,x6=>if x6<(x0.size:Int) then (if 0≤x6 then (if (bt x0 x6)=34 then (spec_l1Word.j1 k x0 x1 x6) else (spec_l1Word.l0 k x0 x1 (wrap64 (x6+1)))) else (none)) else (spec_l1Word.j1 k x0 x1 x6)
end
def spec_l1Word.f (k:Nat) (a0:ByteArray) (a1:Int):Option (Int×Int×ByteArray×(List (SDoc))×Int):=spec_l1Word.l0 k a0 a1 (wrap64 (a1+1))
set_option maxHeartbeats 8000000 in
set_option maxRecDepth 100000 in
theorem spec_l1Word.calls (k:Nat) (a0:ByteArray) (a1:Int) (r1:Int) (r2:Int) (r3:ByteArray) (r4:List (SDoc)) (r5:Int) (w:World) (h:spec_l1Word.f k a0 a1=some (r1,r2,r3,r4,r5)) :
  Calls Try.prog 76 #[.string a0,.int .i64 a1] w fun e w'=>∃ v3_:Value,e=.returned (.tuple #[.agg #[.int .i64 r1,.int .i64 r2,.string r3,v3_],.int .i64 r5])∧Kd.R k27 27 w' w.heap.size (fun _=>True) v3_ r4∧Below w.heap.size w w':=by
 have hu27:=Try.underlying27
 have HB:=Aside0.mk (Below.refl w.heap.size w)
 have H:(spec_l1Word.l0 k a0 a1 (wrap64 (a1+1)))=some (r1,r2,r3,r4,r5):=h
 clear h
 have HC3:=Aside0.mk H
 clear H
 go_enter Try.func76,Try.ntmps76
 go_upto_block 0 with (first|((with_reducible refine gate_dst (N:=4) rfl ?_);refine box_event ?hg (N:=4) ?hd (cs:=#[.int .i64 0,.int .i64 0,.string (⟨#[]⟩:ByteArray),.slice none 0 0]) (t:=27) ?hr ?_;(case hd=>rfl);(case hg=>rfl);(case hr=>first|(go_simp;done)|(go_simp;rfl));intro gb179 hg w4 hbox hb;have n0_:=Aside0.mk (below_step (by repeat (first|(with_reducible first|exact HB.out|apply below_alloc|apply pw_below_drewN|apply below_drew1)|exact HB.out)) hb);have n1_:=Aside0.mk (hbox);have n2_:=Aside0.mk ((by rw [hg];exact (below_size (by repeat (first|(with_reducible first|exact HB.out|apply below_alloc|apply pw_below_drewN|apply below_drew1)|exact HB.out))):w.heap.size≤gb179));have n3_:=Aside0.mk ((by rw [hg];exact (below_size (by repeat (first|(with_reducible first|exact HB.out|apply below_alloc|apply pw_below_drewN|apply below_drew1)|exact HB.out))):w.heap.size≤gb179));clear HB;have HB:=n0_;have BK179:=n1_;have GW179:=n2_;have GE179:=n3_;clear n0_ n1_ n2_ n3_;clear hb hbox hg))
 (try simp only [Act.put,List.setIfInBounds_toArray,List.set_cons_zero,List.set_cons_succ])
 go_cut [6] (fun v6 wc=>∃ (kq:Nat) (x6_2:Int),v6=.int .i64 x6_2∧Aside0 (spec_l1Word.j1 kq a0 a1 x6_2=some (r1,r2,r3,r4,r5))∧Aside0 (kq≤k)∧Aside0 (wc.heap[gb179]?=some (.cells #[.int .i64 0,.int .i64 0,.string (⟨#[]⟩:ByteArray),(.slice none 0 0)] 27 (0,0)))∧Aside0 (Below w.heap.size w wc))
 case first =>
  have H:=HC3.out
  clear HC3
  have H':=Aside0.mk H
  clear H
  go_wp2
  go_loopg [6] k (fun kq v6 w'=>∃ (x6_1:Int),v6=.int .i64 x6_1∧Aside0 (spec_l1Word.l0 kq a0 a1 x6_1=some (r1,r2,r3,r4,r5))∧Aside0 (kq≤k)∧Aside0 (w'.heap[gb179]?=some (.cells #[.int .i64 0,.int .i64 0,.string (⟨#[]⟩:ByteArray),(.slice none 0 0)] 27 (0,0)))∧Aside0 (Below w.heap.size w w'))
  case atStart=>exact ⟨(wrap64 (a1+1)),(by first|rfl|(simp;done)|(simp [*];done)),H',⟨Nat.le_refl _⟩,⟨by (with_reducible repeat (first|refine blk_drewN ?_ _|refine blk_drew ?_|refine blk_alloc ?_ _));exact BK179.out⟩,⟨by repeat (first|(with_reducible first|exact HB.out|apply below_alloc|apply pw_below_drewN|apply below_drew1|refine below_set ?_ GE179.out)|exact HB.out)⟩⟩
  case round =>
   clear H'
   try clear p2
   (try clear BK179);(try clear HB)
   obtain ⟨x6_1,rfl,HA,HK1,BK179,HB⟩:=hrel
   cases gk with
   | zero=>exact absurd HA.out (by simp [spec_l1Word.l0])
   | succ k1 =>
    have H:=HA.out
    clear HA
    simp only [spec_l1Word.l0] at H
    by_cases c5:x6_1<(a0.size:Int)
    ·rw [if_pos c5] at H
     have c5b0:decide (x6_1<(a0.size:Int))=true:=decide_eq_true c5
     clear c5
     (first|rw [c5b0]|(simp only [i64_w,i32_w];rw [c5b0])|skip)
     by_cases c6:0≤x6_1
     ·rw [if_pos c6] at H
      have c6b0:decide (0≤x6_1)=true:=decide_eq_true c6
      clear c6
      by_cases c8:(bt a0 x6_1)=34
      ·rw [if_pos c8] at H
       have c8b0:((bt a0 x6_1) == 34)=true:=beq_iff_eq.mpr c8
       have c8b1:((bt a0 x6_1) != 34)=false:=bne_eq_false_iff_eq.mpr c8
       clear c8
       have H':=Aside0.mk H
       clear H
       have p7:0≤(x6_1:Int):=of_decide_eq_true (by first|(with_reducible assumption)|assumption)
       have q7:x6_1<(a0.size:Int):=of_decide_eq_true (by first|(with_reducible assumption)|assumption)
       have hx7:=bt_at a0 x6_1
       replace p7:=eq_true p7
       replace q7:=eq_true q7
       go_wp2
       go_meet
       case rel=>exact ⟨_,(x6_1),(by first|rfl|(simp;done)|(simp [*];done)),H',⟨by have:=HK1.out;first|omega|exact Nat.le_refl _⟩,⟨by (with_reducible repeat (first|refine blk_drewN ?_ _|refine blk_drew ?_|refine blk_alloc ?_ _));exact BK179.out⟩,⟨by repeat (first|(with_reducible first|exact HB.out|apply below_alloc|apply pw_below_drewN|apply below_drew1|refine below_set ?_ GE179.out)|exact HB.out)⟩⟩
      ·rw [if_neg c8] at H
       have c8b0:((bt a0 x6_1) == 34)=false:=beq_eq_false_iff_ne.mpr c8
       have c8b1:((bt a0 x6_1) != 34)=true:=bne_iff_ne.mpr c8
       have H':=Aside0.mk H
       clear H
       have p7:0≤(x6_1:Int):=of_decide_eq_true (by first|(with_reducible assumption)|assumption)
       have q7:x6_1<(a0.size:Int):=of_decide_eq_true (by first|(with_reducible assumption)|assumption)
       have hx7:=bt_at a0 x6_1
       replace p7:=eq_true p7
       replace q7:=eq_true q7
       go_wp2
       go_roundg k1
       case measure=>have:=HK1.out;omega
       case rel=>exact ⟨(wrap64 (x6_1+1)),(by first|rfl|(simp;done)|(simp [*];done)),H',⟨by have:=HK1.out;omega⟩,⟨by (with_reducible repeat (first|refine blk_drewN ?_ _|refine blk_drew ?_|refine blk_alloc ?_ _));exact BK179.out⟩,⟨by repeat (first|(with_reducible first|exact HB.out|apply below_alloc|apply pw_below_drewN|apply below_drew1|refine below_set ?_ GE179.out)|exact HB.out)⟩⟩
     ·rw [if_neg c6] at H
      exact absurd H (by simp)
    ·rw [if_neg c5] at H
     have c5b0:decide (x6_1<(a0.size:Int))=false:=decide_eq_false c5
     clear c5
     (first|rw [c5b0]|(simp only [i64_w,i32_w];rw [c5b0])|skip)
     have H':=Aside0.mk H
     clear H
     go_wp2
     go_meet
     case rel=>exact ⟨_,(x6_1),(by first|rfl|(simp;done)|(simp [*];done)),H',⟨by have:=HK1.out;first|omega|exact Nat.le_refl _⟩,⟨by (with_reducible repeat (first|refine blk_drewN ?_ _|refine blk_drew ?_|refine blk_alloc ?_ _));exact BK179.out⟩,⟨by repeat (first|(with_reducible first|exact HB.out|apply below_alloc|apply pw_below_drewN|apply below_drew1|refine below_set ?_ GE179.out)|exact HB.out)⟩⟩
 case rest =>
  clear HC3
  try clear p2 c5 c5b0 c6 c6b0 p6 c7 p7 q7 hx7 c8 c8b0 c8b1 p2 p7 q7
  obtain ⟨kq,x6_2,rfl,HA,HJ2,BK179,HB⟩:=hcut
  cases kq with
  | zero=>exact absurd HA.out (by simp [spec_l1Word.j1])
  | succ kj2 =>
   have H:=HA.out
   clear HA
   simp only [spec_l1Word.j1] at H
   by_cases c9:x6_2≥(a0.size:Int)
   ·rw [if_pos c9] at H
    have c9b0:decide ((a0.size:Int)≤x6_2)=true:=decide_eq_true c9
    clear c9
    simp only [Option.some.injEq,Prod.mk.injEq] at H
    obtain ⟨rfl,rfl,rfl,rfl,rfl⟩:=H
    have hcz10_0:wc.cell? ⟨gb179,0,none⟩=some (.int .i64 0):=(blk_cell BK179.out 0).trans rfl
    have hcz10_1:wc.cell? ⟨gb179,1,none⟩=some (.int .i64 0):=(blk_cell BK179.out 1).trans rfl
    have hcz10_2:wc.cell? ⟨gb179,2,none⟩=some (.string (⟨#[]⟩:ByteArray)):=(blk_cell BK179.out 2).trans rfl
    have hcz10_3:wc.cell? ⟨gb179,3,none⟩=some (.slice none 0 0):=(blk_cell BK179.out 3).trans rfl
    have hfz10_0:=blk_frozen BK179.out 0
    have hfz10_1:=blk_frozen BK179.out 1
    have hfz10_2:=blk_frozen BK179.out 2
    have hfz10_3:=blk_frozen BK179.out 3
    go_wp2
    refine bodyPost_ret (results_ct rfl _ _ gb179 27 #[.int .i64 0,.int .i64 0,.string (⟨#[]⟩:ByteArray),.slice none 0 0] (0,0) _ rfl (by (with_reducible repeat (first|refine blk_drewN ?_ _|refine blk_drew ?_|refine blk_alloc ?_ _));refine blk_put (cs:=#[.int .i64 0,.int .i64 0,.string (⟨#[]⟩:ByteArray),.slice none 0 0]) ?_ 3 _ rfl;(with_reducible repeat (first|refine blk_drewN ?_ _|refine blk_drew ?_|refine blk_alloc ?_ _));refine blk_put (cs:=#[.int .i64 0,.int .i64 0,.string (⟨#[]⟩:ByteArray),.slice none 0 0]) ?_ 2 _ rfl;(with_reducible repeat (first|refine blk_drewN ?_ _|refine blk_drew ?_|refine blk_alloc ?_ _));refine blk_put (cs:=#[.int .i64 0,.int .i64 0,.string (⟨#[]⟩:ByteArray),.slice none 0 0]) ?_ 1 _ rfl;(with_reducible repeat (first|refine blk_drewN ?_ _|refine blk_drew ?_|refine blk_alloc ?_ _));refine blk_put (cs:=#[.int .i64 0,.int .i64 0,.string (⟨#[]⟩:ByteArray),.slice none 0 0]) ?_ 0 _ rfl;(with_reducible repeat (first|refine blk_drewN ?_ _|refine blk_drew ?_|refine blk_alloc ?_ _));exact BK179.out) Try.underlying27 rfl (by kernel_rfl)) rfl ?_
    exact ⟨_,by first|rfl|(simp [errW_none,errW_some] <;> rfl)|(simp [*,errW_none,errW_some] <;> rfl),by first|exact Kd.R_nil _ _ _ _ _|exact Kd.N_nil _ _ _ _ _|exact Kd.V_nil _ _ _ _ _|exact Kd.Q_nil _ _ _ _ _|exact Kd.S_nil _ _ _ _ _,by repeat (first|(with_reducible first|exact HB.out|apply below_alloc|apply pw_below_drewN|apply below_drew1|refine below_set ?_ GE179.out)|exact HB.out)⟩
   ·rw [if_neg c9] at H
    have c9b0:decide ((a0.size:Int)≤x6_2)=false:=decide_eq_false c9
    clear c9
    obtain ⟨ji11,hji11⟩:∃ j_:Int,(wrap64 (a1+1))=j_:=⟨_,rfl⟩
    replace H:(if 0≤(ji11) then (if (ji11)≤x6_2 then (if x6_2≤(a0.size:Int) then (some (2,0,a0.extract ((ji11):Int).toNat (x6_2:Int).toNat,([]:List (SDoc)),wrap64 (x6_2+1))) else (none)) else (none)) else (none))=some (r1,r2,r3,r4,r5):=by first|(rw [hji11] at H;exact H)|(simp only [hji11] at H ⊢;exact H)
    have hji11w:(IntKind.i64.wrap (a1+1))=ji11:=(i64_w _).trans hji11
    by_cases c12:0≤(ji11)
    ·rw [if_pos c12] at H
     have c12b0:=eq_true c12
     have c12b1:decide (0≤(ji11))=true:=decide_eq_true c12
     clear c12
     by_cases c13:(ji11)≤x6_2
     ·rw [if_pos c13] at H
      have c13b0:=eq_true c13
      have c13b1:decide ((ji11)≤x6_2)=true:=decide_eq_true c13
      clear c13
      by_cases c14:x6_2≤(a0.size:Int)
      ·rw [if_pos c14] at H
       have c14b0:=eq_true c14
       have c14b1:decide (x6_2≤(a0.size:Int))=true:=decide_eq_true c14
       clear c14
       simp only [Option.some.injEq,Prod.mk.injEq] at H
       obtain ⟨rfl,rfl,rfl,rfl,rfl⟩:=H
       have hcz15_0:wc.cell? ⟨gb179,0,none⟩=some (.int .i64 0):=(blk_cell BK179.out 0).trans rfl
       have hcz15_1:wc.cell? ⟨gb179,1,none⟩=some (.int .i64 0):=(blk_cell BK179.out 1).trans rfl
       have hcz15_2:wc.cell? ⟨gb179,2,none⟩=some (.string (⟨#[]⟩:ByteArray)):=(blk_cell BK179.out 2).trans rfl
       have hcz15_3:wc.cell? ⟨gb179,3,none⟩=some (.slice none 0 0):=(blk_cell BK179.out 3).trans rfl
       have hfz15_0:=blk_frozen BK179.out 0
       have hfz15_1:=blk_frozen BK179.out 1
       have hfz15_2:=blk_frozen BK179.out 2
       have hfz15_3:=blk_frozen BK179.out 3
       go_wp2
       refine bodyPost_ret (results_ct rfl _ _ gb179 27 #[.int .i64 2,.int .i64 0,.string (a0.extract ((ji11):Int).toNat (x6_2:Int).toNat),.slice none 0 0] (0,0) _ rfl (by (with_reducible repeat (first|refine blk_drewN ?_ _|refine blk_drew ?_|refine blk_alloc ?_ _));refine blk_put (cs:=#[.int .i64 2,.int .i64 0,.string (a0.extract ((ji11):Int).toNat (x6_2:Int).toNat),.slice none 0 0]) ?_ 3 _ rfl;(with_reducible repeat (first|refine blk_drewN ?_ _|refine blk_drew ?_|refine blk_alloc ?_ _));refine blk_put (cs:=#[.int .i64 2,.int .i64 0,.string (⟨#[]⟩:ByteArray),.slice none 0 0]) ?_ 2 _ rfl;(with_reducible repeat (first|refine blk_drewN ?_ _|refine blk_drew ?_|refine blk_alloc ?_ _));refine blk_put (cs:=#[.int .i64 2,.int .i64 0,.string (⟨#[]⟩:ByteArray),.slice none 0 0]) ?_ 1 _ rfl;(with_reducible repeat (first|refine blk_drewN ?_ _|refine blk_drew ?_|refine blk_alloc ?_ _));refine blk_put (cs:=#[.int .i64 0,.int .i64 0,.string (⟨#[]⟩:ByteArray),.slice none 0 0]) ?_ 0 _ rfl;(with_reducible repeat (first|refine blk_drewN ?_ _|refine blk_drew ?_|refine blk_alloc ?_ _));exact BK179.out) Try.underlying27 rfl (by kernel_rfl)) rfl ?_
       exact ⟨_,by first|rfl|(simp [errW_none,errW_some] <;> rfl)|(simp only [← hji11];first|rfl|(simp [errW_none,errW_some] <;> rfl))|(simp [*,errW_none,errW_some] <;> rfl),by first|exact Kd.R_nil _ _ _ _ _|exact Kd.N_nil _ _ _ _ _|exact Kd.V_nil _ _ _ _ _|exact Kd.Q_nil _ _ _ _ _|exact Kd.S_nil _ _ _ _ _,by repeat (first|(with_reducible first|exact HB.out|apply below_alloc|apply pw_below_drewN|apply below_drew1|refine below_set ?_ GE179.out)|exact HB.out)⟩
      ·rw [if_neg c14] at H
       exact absurd H (by simp)
     ·rw [if_neg c13] at H
      exact absurd H (by simp)
    ·rw [if_neg c12] at H
     exact absurd H (by simp)
end Go.Proofs.Ytdhdfmmefghijaa.P
namespace Go.Proofs.Ytdhdfmmefghijaa.P
open Go.RowKit Go.Proofs.YtdhdfmmefghijaaW.PrintWords Go.Proofs.YtdhdfmmefghijaaW.PrintLast Go.Proofs.YtdhdfmmefghijaaW.PrintMore
attribute [local go_sem] max2_int min2_int max_two min_two max_three min_three max_four min_four
set_option linter.unusedVariables false
set_option linter.unusedSimpArgs false
mutual
def spec_l1Read.j0:Nat→ByteArray→Int→Int→Bool→Option (Int×Int×ByteArray×(List (SDoc))×Int)
 | 0,_,_,_,_=>none
 | k+1,x0,x1,x2,x21=>if x21=true then (some (0,0,(⟨#[]⟩:ByteArray),([]:List (SDoc)),(-1))) else (if 0≤x1 then (if x1<(x0.size:Int) then (if (bt x0 x1)=126 then (some (1,0,(⟨#[]⟩:ByteArray),([]:List (SDoc)),wrap64 (x1+1))) else (if (bt x0 x1)=95 then (some (3,0,(⟨#[]⟩:ByteArray),([]:List (SDoc)),wrap64 (x1+1))) else (if (bt x0 x1)=46 then (some (4,0,(⟨#[]⟩:ByteArray),([]:List (SDoc)),wrap64 (x1+1))) else (if (bt x0 x1)=33 then (some (5,0,(⟨#[]⟩:ByteArray),([]:List (SDoc)),wrap64 (x1+1))) else (if (bt x0 x1)=34 then ((spec_l1Word.f k x0 x1).bind fun bt181=>(some (bt181.1,bt181.2.1,bt181.2.2.1,bt181.2.2.2.1,bt181.2.2.2.2))) else (if (bt x0 x1)=40 then ((spec_l1Inner.f k x0 (wrap64 (x1+1)) 2 41 x2).bind fun bt188=>(some (7,0,(⟨#[]⟩:ByteArray),bt188.1,bt188.2))) else (if (bt x0 x1)=91 then ((spec_l1Inner.f k x0 (wrap64 (x1+1)) 1 93 x2).bind fun bt192=>(some (8,0,(⟨#[]⟩:ByteArray),bt192.1,bt192.2))) else (if (bt x0 x1)≥48 then (if (bt x0 x1)≤57 then (if (wrap64 (x1+1))<(x0.size:Int) then (if 0≤(wrap64 (x1+1)) then (spec_l1Read.j1 k x0 x1 x2 ((bt x0 (wrap64 (x1+1))) == 60)) else (none)) else (spec_l1Read.j1 k x0 x1 x2 false)) else (spec_l1Read.j1 k x0 x1 x2 false)) else (spec_l1Read.j1 k x0 x1 x2 false))))))))) else (none)) else (none))
def spec_l1Read.j1:Nat→ByteArray→Int→Int→Bool→Option (Int×Int×ByteArray×(List (SDoc))×Int)
 | 0,_,_,_,_=>none
 | k+1,x0,x1,x2,x102=>if x102=true then ((spec_l1Inner.f k x0 (wrap64 (x1+2)) 1 62 x2).bind fun bt196=>(if 0≤x1 then (if x1<(x0.size:Int) then (some (6,((bt x0 x1) - 48) % 256,(⟨#[]⟩:ByteArray),bt196.1,bt196.2)) else (none)) else (none))) else (some (0,0,(⟨#[]⟩:ByteArray),([]:List (SDoc)),(-1)))
def spec_l1Read.f:Nat→ByteArray→Int→Int→Option (Int×Int×ByteArray×(List (SDoc))×Int)
 | 0,_,_,_=>none
 | k+1,a0,a1,a2=>if a1≥(a0.size:Int) then (spec_l1Read.j0 k a0 a1 a2 true) else (spec_l1Read.j0 k a0 a1 a2 (a2 == 0))
def spec_l1Inner.l0:Nat→ByteArray→Int→Int→Int→Int→List (SDoc)→Int→Option ((List (SDoc))×Int)
 | 0,_,_,_,_,_,_,_=>none
 | k+1,x0,x1,x2,x3,x4,x12,x13=>if x13<x2 then ((spec_l1Read.f k x0 x1 (wrap64 (x4 - 1))).bind fun bt203=>(if bt203.2.2.2.2<0 then (some (x12,(-1))) else (if x12.length<2513169434916 then (spec_l1Inner.l0 k x0 bt203.2.2.2.2 x2 x3 x4 (x12++[(⟨bt203.1,bt203.2.1,bt203.2.2.1,bt203.2.2.2.1⟩:SDoc)]) (wrap64 (x13+1))) else (none)))) else (if x1≥(x0.size:Int) then (some (x12,(-1))) else (if 0≤x1 then (if x1<(x0.size:Int) then (if (bt x0 x1)=x3 then (some (x12,wrap64 (x1+1))) else (some (x12,(-1)))) else (none)) else (none)))
def spec_l1Inner.f:Nat→ByteArray→Int→Int→Int→Int→Option ((List (SDoc))×Int)
 | 0,_,_,_,_,_=>none
 | k+1,a0,a1,a2,a3,a4=>spec_l1Inner.l0 k a0 a1 a2 a3 a4 (([]:List (SDoc))) 0
end
set_option maxHeartbeats 8000000 in
set_option maxRecDepth 100000 in
theorem spec_l1Read.calls_g (k:Nat):(∀ (a0:ByteArray) (a1:Int) (a2:Int) (r1:Int) (r2:Int) (r3:ByteArray) (r4:List (SDoc)) (r5:Int) (w:World) (h:spec_l1Read.f k a0 a1 a2=some (r1,r2,r3,r4,r5)),
  Calls Try.prog 64 #[.string a0,.int .i64 a1,.int .i64 a2] w fun e w'=>∃ v3_:Value,e=.returned (.tuple #[.agg #[.int .i64 r1,.int .i64 r2,.string r3,v3_],.int .i64 r5])∧Kd.R k27 27 w' w.heap.size (fun _=>True) v3_ r4∧Below w.heap.size w w') ∧
  (∀ (a0:ByteArray) (a1:Int) (a2:Int) (a3:Int) (a4:Int) (r1:List (SDoc)) (r2:Int) (w:World) (h:spec_l1Inner.f k a0 a1 a2 a3 a4=some (r1,r2)),
  Calls Try.prog 77 #[.string a0,.int .i64 a1,.int .i64 a2,.int .u8 a3,.int .i64 a4] w fun e w'=>∃ v0_:Value,e=.returned (.tuple #[v0_,.int .i64 r2])∧Kd.R k27 27 w' w.heap.size (fun _=>True) v0_ r1∧Below w.heap.size w w'):=by
 induction k using Nat.strongRecOn with
 | _ k ih0 =>
 refine ⟨?_,?_⟩
 ·have ih:=fun (m_:Nat) (hm_:m_<k)=>(ih0 m_ hm_).1
  have ih_spec_l1Inner:=fun (m_:Nat) (hm_:m_<k)=>(ih0 m_ hm_).2
  clear ih0
  intro a0 a1 a2 r1 r2 r3 r4 r5 w h
  cases k with
  | zero=>exact absurd h (by simp [spec_l1Read.f])
  | succ k =>
  simp only [spec_l1Read.f] at h
  have hu27:=Try.underlying27
  have HB:=Aside0.mk (Below.refl w.heap.size w)
  have H:(if a1≥(a0.size:Int) then (spec_l1Read.j0 k a0 a1 a2 true) else (spec_l1Read.j0 k a0 a1 a2 (a2 == 0)))=some (r1,r2,r3,r4,r5):=h
  clear h
  have HC4:=Aside0.mk H
  clear H
  go_enter Try.func64,Try.ntmps64
  go_upto_region 1 with (first|((with_reducible refine gate_dst (N:=6) rfl ?_);(try (refine gate_guard (by rfl) ?_;dsimp only));refine box_event ?hg (N:=6) ?hd (cs:=#[.int .i64 0,.int .i64 0,.string (⟨#[]⟩:ByteArray),.slice none 0 0]) (t:=27) ?hr ?_;(case hd=>rfl);(case hg=>rfl);(case hr=>first|(go_simp;done)|(go_simp;rfl));intro gb180 hg w5 hbox hb;have n0_:=Aside0.mk (below_step (by repeat (first|(with_reducible first|exact HB.out|apply below_alloc|apply pw_below_drewN|apply below_drew1)|exact HB.out)) hb);have n1_:=Aside0.mk (hbox);have n2_:=Aside0.mk ((by rw [hg];exact (below_size (by repeat (first|(with_reducible first|exact HB.out|apply below_alloc|apply pw_below_drewN|apply below_drew1)|exact HB.out))):w.heap.size≤gb180));have n3_:=Aside0.mk ((by rw [hg];exact (below_size (by repeat (first|(with_reducible first|exact HB.out|apply below_alloc|apply pw_below_drewN|apply below_drew1)|exact HB.out))):w.heap.size≤gb180));clear HB;have HB:=n0_;have BK180:=n1_;have GW180:=n2_;have GE180:=n3_;clear n0_ n1_ n2_ n3_;clear hb hbox hg))
  (try simp only [Act.put,List.setIfInBounds_toArray,List.set_cons_zero,List.set_cons_succ])
  go_cut [21] (fun v21 wc=>∃ (kq:Nat) (x21_3:Bool),v21=.bool x21_3∧Aside0 (spec_l1Read.j0 kq a0 a1 a2 x21_3=some (r1,r2,r3,r4,r5))∧Aside0 (kq≤k)∧Aside0 (wc.heap[gb180]?=some (.cells #[.int .i64 0,.int .i64 0,.string (⟨#[]⟩:ByteArray),(.slice none 0 0)] 27 (0,0)))∧Aside0 (Below w.heap.size w wc))
  case first =>
   have H:=HC4.out
   clear HC4
   by_cases c6:a1≥(a0.size:Int)
   ·rw [if_pos c6] at H
    have c6b0:decide ((a0.size:Int)≤a1)=true:=decide_eq_true c6
    clear c6
    (first|rw [c6b0]|(simp only [i64_w,i32_w];rw [c6b0])|skip)
    have H':=Aside0.mk H
    clear H
    go_wp2
    go_meet
    case rel=>exact ⟨_,(true),(by first|rfl|(simp;done)|(simp [*];done)),H',⟨by first|omega|exact Nat.le_refl _⟩,⟨by (with_reducible repeat (first|refine blk_drewN ?_ _|refine blk_drew ?_|refine blk_alloc ?_ _));exact BK180.out⟩,⟨by repeat (first|(with_reducible first|exact HB.out|apply below_alloc|apply pw_below_drewN|apply below_drew1|refine below_set ?_ GE180.out)|exact HB.out)⟩⟩
   ·rw [if_neg c6] at H
    have c6b0:decide ((a0.size:Int)≤a1)=false:=decide_eq_false c6
    clear c6
    (first|rw [c6b0]|(simp only [i64_w,i32_w];rw [c6b0])|skip)
    have H':=Aside0.mk H
    clear H
    go_wp2
    go_meet
    case rel=>exact ⟨_,((a2 == 0)),(by first|rfl|(simp;done)|(simp [*];done)),H',⟨by first|omega|exact Nat.le_refl _⟩,⟨by (with_reducible repeat (first|refine blk_drewN ?_ _|refine blk_drew ?_|refine blk_alloc ?_ _));exact BK180.out⟩,⟨by repeat (first|(with_reducible first|exact HB.out|apply below_alloc|apply pw_below_drewN|apply below_drew1|refine below_set ?_ GE180.out)|exact HB.out)⟩⟩
  case rest =>
   clear HC4
   try clear p2 c6 c6b0
   obtain ⟨kq,x21_3,rfl,HA,HJ3,BK180,HB⟩:=hcut
   cases kq with
   | zero=>exact absurd HA.out (by simp [spec_l1Read.j0])
   | succ kj3 =>
    have H:=HA.out
    clear HA
    simp only [spec_l1Read.j0] at H
    by_cases c7:x21_3=true
    ·subst c7
     have H1:(some (0,0,(⟨#[]⟩:ByteArray),([]:List (SDoc)),(-1)))=some (r1,r2,r3,r4,r5):=by rw [if_pos rfl] at H;exact H
     clear H
     have H:=H1
     clear H1
     simp only [Option.some.injEq,Prod.mk.injEq] at H
     obtain ⟨rfl,rfl,rfl,rfl,rfl⟩:=H
     have hcz8_0:wc.cell? ⟨gb180,0,none⟩=some (.int .i64 0):=(blk_cell BK180.out 0).trans rfl
     have hcz8_1:wc.cell? ⟨gb180,1,none⟩=some (.int .i64 0):=(blk_cell BK180.out 1).trans rfl
     have hcz8_2:wc.cell? ⟨gb180,2,none⟩=some (.string (⟨#[]⟩:ByteArray)):=(blk_cell BK180.out 2).trans rfl
     have hcz8_3:wc.cell? ⟨gb180,3,none⟩=some (.slice none 0 0):=(blk_cell BK180.out 3).trans rfl
     have hfz8_0:=blk_frozen BK180.out 0
     have hfz8_1:=blk_frozen BK180.out 1
     have hfz8_2:=blk_frozen BK180.out 2
     have hfz8_3:=blk_frozen BK180.out 3
     go_wp2
     refine bodyPost_ret (results_ct rfl _ _ gb180 27 #[.int .i64 0,.int .i64 0,.string (⟨#[]⟩:ByteArray),.slice none 0 0] (0,0) _ rfl (by (with_reducible repeat (first|refine blk_drewN ?_ _|refine blk_drew ?_|refine blk_alloc ?_ _));refine blk_put (cs:=#[.int .i64 0,.int .i64 0,.string (⟨#[]⟩:ByteArray),.slice none 0 0]) ?_ 3 _ rfl;(with_reducible repeat (first|refine blk_drewN ?_ _|refine blk_drew ?_|refine blk_alloc ?_ _));refine blk_put (cs:=#[.int .i64 0,.int .i64 0,.string (⟨#[]⟩:ByteArray),.slice none 0 0]) ?_ 2 _ rfl;(with_reducible repeat (first|refine blk_drewN ?_ _|refine blk_drew ?_|refine blk_alloc ?_ _));refine blk_put (cs:=#[.int .i64 0,.int .i64 0,.string (⟨#[]⟩:ByteArray),.slice none 0 0]) ?_ 1 _ rfl;(with_reducible repeat (first|refine blk_drewN ?_ _|refine blk_drew ?_|refine blk_alloc ?_ _));refine blk_put (cs:=#[.int .i64 0,.int .i64 0,.string (⟨#[]⟩:ByteArray),.slice none 0 0]) ?_ 0 _ rfl;(with_reducible repeat (first|refine blk_drewN ?_ _|refine blk_drew ?_|refine blk_alloc ?_ _));exact BK180.out) Try.underlying27 rfl (by kernel_rfl)) rfl ?_
     exact ⟨_,by first|rfl|(simp [errW_none,errW_some] <;> rfl)|(simp [*,errW_none,errW_some] <;> rfl),by first|exact Kd.R_nil _ _ _ _ _|exact Kd.N_nil _ _ _ _ _|exact Kd.V_nil _ _ _ _ _|exact Kd.Q_nil _ _ _ _ _|exact Kd.S_nil _ _ _ _ _,by repeat (first|(with_reducible first|exact HB.out|apply below_alloc|apply pw_below_drewN|apply below_drew1|refine below_set ?_ GE180.out)|exact HB.out)⟩
    ·replace c7:=Bool.eq_false_iff.mpr c7
     subst c7
     have H1:(if 0≤a1 then (if a1<(a0.size:Int) then (if (bt a0 a1)=126 then (some (1,0,(⟨#[]⟩:ByteArray),([]:List (SDoc)),wrap64 (a1+1))) else (if (bt a0 a1)=95 then (some (3,0,(⟨#[]⟩:ByteArray),([]:List (SDoc)),wrap64 (a1+1))) else (if (bt a0 a1)=46 then (some (4,0,(⟨#[]⟩:ByteArray),([]:List (SDoc)),wrap64 (a1+1))) else (if (bt a0 a1)=33 then (some (5,0,(⟨#[]⟩:ByteArray),([]:List (SDoc)),wrap64 (a1+1))) else (if (bt a0 a1)=34 then ((spec_l1Word.f kj3 a0 a1).bind fun bt181=>(some (bt181.1,bt181.2.1,bt181.2.2.1,bt181.2.2.2.1,bt181.2.2.2.2))) else (if (bt a0 a1)=40 then ((spec_l1Inner.f kj3 a0 (wrap64 (a1+1)) 2 41 a2).bind fun bt188=>(some (7,0,(⟨#[]⟩:ByteArray),bt188.1,bt188.2))) else (if (bt a0 a1)=91 then ((spec_l1Inner.f kj3 a0 (wrap64 (a1+1)) 1 93 a2).bind fun bt192=>(some (8,0,(⟨#[]⟩:ByteArray),bt192.1,bt192.2))) else (if (bt a0 a1)≥48 then (if (bt a0 a1)≤57 then (if (wrap64 (a1+1))<(a0.size:Int) then (if 0≤(wrap64 (a1+1)) then (spec_l1Read.j1 kj3 a0 a1 a2 ((bt a0 (wrap64 (a1+1))) == 60)) else (none)) else (spec_l1Read.j1 kj3 a0 a1 a2 false)) else (spec_l1Read.j1 kj3 a0 a1 a2 false)) else (spec_l1Read.j1 kj3 a0 a1 a2 false))))))))) else (none)) else (none))=some (r1,r2,r3,r4,r5):=by rw [if_neg (show ¬ (false=true) by decide)] at H;exact H
     clear H
     have H:=H1
     clear H1
     by_cases c9:0≤a1
     ·rw [if_pos c9] at H
      have c9b0:decide (0≤a1)=true:=decide_eq_true c9
      clear c9
      by_cases c10:a1<(a0.size:Int)
      ·rw [if_pos c10] at H
       have c10b0:decide (a1<(a0.size:Int))=true:=decide_eq_true c10
       clear c10
       by_cases c12:(bt a0 a1)=126
       ·rw [if_pos c12] at H
        have c12b0:((bt a0 a1) == 126)=true:=beq_iff_eq.mpr c12
        have c12b1:((bt a0 a1) != 126)=false:=bne_eq_false_iff_eq.mpr c12
        clear c12
        simp only [Option.some.injEq,Prod.mk.injEq] at H
        obtain ⟨rfl,rfl,rfl,rfl,rfl⟩:=H
        have p11:0≤(a1:Int):=of_decide_eq_true (by first|(with_reducible assumption)|assumption)
        have q11:a1<(a0.size:Int):=of_decide_eq_true (by first|(with_reducible assumption)|assumption)
        have hx11:=bt_at a0 a1
        replace p11:=eq_true p11
        replace q11:=eq_true q11
        have hcz13_0:wc.cell? ⟨gb180,0,none⟩=some (.int .i64 0):=(blk_cell BK180.out 0).trans rfl
        have hcz13_1:wc.cell? ⟨gb180,1,none⟩=some (.int .i64 0):=(blk_cell BK180.out 1).trans rfl
        have hcz13_2:wc.cell? ⟨gb180,2,none⟩=some (.string (⟨#[]⟩:ByteArray)):=(blk_cell BK180.out 2).trans rfl
        have hcz13_3:wc.cell? ⟨gb180,3,none⟩=some (.slice none 0 0):=(blk_cell BK180.out 3).trans rfl
        have hfz13_0:=blk_frozen BK180.out 0
        have hfz13_1:=blk_frozen BK180.out 1
        have hfz13_2:=blk_frozen BK180.out 2
        have hfz13_3:=blk_frozen BK180.out 3
        go_wp2
        refine bodyPost_ret (results_ct rfl _ _ gb180 27 #[.int .i64 1,.int .i64 0,.string (⟨#[]⟩:ByteArray),.slice none 0 0] (0,0) _ rfl (by (with_reducible repeat (first|refine blk_drewN ?_ _|refine blk_drew ?_|refine blk_alloc ?_ _));refine blk_put (cs:=#[.int .i64 1,.int .i64 0,.string (⟨#[]⟩:ByteArray),.slice none 0 0]) ?_ 3 _ rfl;(with_reducible repeat (first|refine blk_drewN ?_ _|refine blk_drew ?_|refine blk_alloc ?_ _));refine blk_put (cs:=#[.int .i64 1,.int .i64 0,.string (⟨#[]⟩:ByteArray),.slice none 0 0]) ?_ 2 _ rfl;(with_reducible repeat (first|refine blk_drewN ?_ _|refine blk_drew ?_|refine blk_alloc ?_ _));refine blk_put (cs:=#[.int .i64 1,.int .i64 0,.string (⟨#[]⟩:ByteArray),.slice none 0 0]) ?_ 1 _ rfl;(with_reducible repeat (first|refine blk_drewN ?_ _|refine blk_drew ?_|refine blk_alloc ?_ _));refine blk_put (cs:=#[.int .i64 0,.int .i64 0,.string (⟨#[]⟩:ByteArray),.slice none 0 0]) ?_ 0 _ rfl;(with_reducible repeat (first|refine blk_drewN ?_ _|refine blk_drew ?_|refine blk_alloc ?_ _));exact BK180.out) Try.underlying27 rfl (by kernel_rfl)) rfl ?_
        exact ⟨_,by first|rfl|(simp [errW_none,errW_some] <;> rfl)|(simp [*,errW_none,errW_some] <;> rfl),by first|exact Kd.R_nil _ _ _ _ _|exact Kd.N_nil _ _ _ _ _|exact Kd.V_nil _ _ _ _ _|exact Kd.Q_nil _ _ _ _ _|exact Kd.S_nil _ _ _ _ _,by repeat (first|(with_reducible first|exact HB.out|apply below_alloc|apply pw_below_drewN|apply below_drew1|refine below_set ?_ GE180.out)|exact HB.out)⟩
       ·rw [if_neg c12] at H
        have c12b0:((bt a0 a1) == 126)=false:=beq_eq_false_iff_ne.mpr c12
        have c12b1:((bt a0 a1) != 126)=true:=bne_iff_ne.mpr c12
        by_cases c14:(bt a0 a1)=95
        ·rw [if_pos c14] at H
         have c14b0:((bt a0 a1) == 95)=true:=beq_iff_eq.mpr c14
         have c14b1:((bt a0 a1) != 95)=false:=bne_eq_false_iff_eq.mpr c14
         clear c14
         simp only [Option.some.injEq,Prod.mk.injEq] at H
         obtain ⟨rfl,rfl,rfl,rfl,rfl⟩:=H
         have p11:0≤(a1:Int):=of_decide_eq_true (by first|(with_reducible assumption)|assumption)
         have q11:a1<(a0.size:Int):=of_decide_eq_true (by first|(with_reducible assumption)|assumption)
         have hx11:=bt_at a0 a1
         replace p11:=eq_true p11
         replace q11:=eq_true q11
         have hcz15_0:wc.cell? ⟨gb180,0,none⟩=some (.int .i64 0):=(blk_cell BK180.out 0).trans rfl
         have hcz15_1:wc.cell? ⟨gb180,1,none⟩=some (.int .i64 0):=(blk_cell BK180.out 1).trans rfl
         have hcz15_2:wc.cell? ⟨gb180,2,none⟩=some (.string (⟨#[]⟩:ByteArray)):=(blk_cell BK180.out 2).trans rfl
         have hcz15_3:wc.cell? ⟨gb180,3,none⟩=some (.slice none 0 0):=(blk_cell BK180.out 3).trans rfl
         have hfz15_0:=blk_frozen BK180.out 0
         have hfz15_1:=blk_frozen BK180.out 1
         have hfz15_2:=blk_frozen BK180.out 2
         have hfz15_3:=blk_frozen BK180.out 3
         go_wp2
         refine bodyPost_ret (results_ct rfl _ _ gb180 27 #[.int .i64 3,.int .i64 0,.string (⟨#[]⟩:ByteArray),.slice none 0 0] (0,0) _ rfl (by (with_reducible repeat (first|refine blk_drewN ?_ _|refine blk_drew ?_|refine blk_alloc ?_ _));refine blk_put (cs:=#[.int .i64 3,.int .i64 0,.string (⟨#[]⟩:ByteArray),.slice none 0 0]) ?_ 3 _ rfl;(with_reducible repeat (first|refine blk_drewN ?_ _|refine blk_drew ?_|refine blk_alloc ?_ _));refine blk_put (cs:=#[.int .i64 3,.int .i64 0,.string (⟨#[]⟩:ByteArray),.slice none 0 0]) ?_ 2 _ rfl;(with_reducible repeat (first|refine blk_drewN ?_ _|refine blk_drew ?_|refine blk_alloc ?_ _));refine blk_put (cs:=#[.int .i64 3,.int .i64 0,.string (⟨#[]⟩:ByteArray),.slice none 0 0]) ?_ 1 _ rfl;(with_reducible repeat (first|refine blk_drewN ?_ _|refine blk_drew ?_|refine blk_alloc ?_ _));refine blk_put (cs:=#[.int .i64 0,.int .i64 0,.string (⟨#[]⟩:ByteArray),.slice none 0 0]) ?_ 0 _ rfl;(with_reducible repeat (first|refine blk_drewN ?_ _|refine blk_drew ?_|refine blk_alloc ?_ _));exact BK180.out) Try.underlying27 rfl (by kernel_rfl)) rfl ?_
         exact ⟨_,by first|rfl|(simp [errW_none,errW_some] <;> rfl)|(simp [*,errW_none,errW_some] <;> rfl),by first|exact Kd.R_nil _ _ _ _ _|exact Kd.N_nil _ _ _ _ _|exact Kd.V_nil _ _ _ _ _|exact Kd.Q_nil _ _ _ _ _|exact Kd.S_nil _ _ _ _ _,by repeat (first|(with_reducible first|exact HB.out|apply below_alloc|apply pw_below_drewN|apply below_drew1|refine below_set ?_ GE180.out)|exact HB.out)⟩
        ·rw [if_neg c14] at H
         have c14b0:((bt a0 a1) == 95)=false:=beq_eq_false_iff_ne.mpr c14
         have c14b1:((bt a0 a1) != 95)=true:=bne_iff_ne.mpr c14
         by_cases c16:(bt a0 a1)=46
         ·rw [if_pos c16] at H
          have c16b0:((bt a0 a1) == 46)=true:=beq_iff_eq.mpr c16
          have c16b1:((bt a0 a1) != 46)=false:=bne_eq_false_iff_eq.mpr c16
          clear c16
          simp only [Option.some.injEq,Prod.mk.injEq] at H
          obtain ⟨rfl,rfl,rfl,rfl,rfl⟩:=H
          have p11:0≤(a1:Int):=of_decide_eq_true (by first|(with_reducible assumption)|assumption)
          have q11:a1<(a0.size:Int):=of_decide_eq_true (by first|(with_reducible assumption)|assumption)
          have hx11:=bt_at a0 a1
          replace p11:=eq_true p11
          replace q11:=eq_true q11
          have hcz17_0:wc.cell? ⟨gb180,0,none⟩=some (.int .i64 0):=(blk_cell BK180.out 0).trans rfl
          have hcz17_1:wc.cell? ⟨gb180,1,none⟩=some (.int .i64 0):=(blk_cell BK180.out 1).trans rfl
          have hcz17_2:wc.cell? ⟨gb180,2,none⟩=some (.string (⟨#[]⟩:ByteArray)):=(blk_cell BK180.out 2).trans rfl
          have hcz17_3:wc.cell? ⟨gb180,3,none⟩=some (.slice none 0 0):=(blk_cell BK180.out 3).trans rfl
          have hfz17_0:=blk_frozen BK180.out 0
          have hfz17_1:=blk_frozen BK180.out 1
          have hfz17_2:=blk_frozen BK180.out 2
          have hfz17_3:=blk_frozen BK180.out 3
          go_wp2
          refine bodyPost_ret (results_ct rfl _ _ gb180 27 #[.int .i64 4,.int .i64 0,.string (⟨#[]⟩:ByteArray),.slice none 0 0] (0,0) _ rfl (by (with_reducible repeat (first|refine blk_drewN ?_ _|refine blk_drew ?_|refine blk_alloc ?_ _));refine blk_put (cs:=#[.int .i64 4,.int .i64 0,.string (⟨#[]⟩:ByteArray),.slice none 0 0]) ?_ 3 _ rfl;(with_reducible repeat (first|refine blk_drewN ?_ _|refine blk_drew ?_|refine blk_alloc ?_ _));refine blk_put (cs:=#[.int .i64 4,.int .i64 0,.string (⟨#[]⟩:ByteArray),.slice none 0 0]) ?_ 2 _ rfl;(with_reducible repeat (first|refine blk_drewN ?_ _|refine blk_drew ?_|refine blk_alloc ?_ _));refine blk_put (cs:=#[.int .i64 4,.int .i64 0,.string (⟨#[]⟩:ByteArray),.slice none 0 0]) ?_ 1 _ rfl;(with_reducible repeat (first|refine blk_drewN ?_ _|refine blk_drew ?_|refine blk_alloc ?_ _));refine blk_put (cs:=#[.int .i64 0,.int .i64 0,.string (⟨#[]⟩:ByteArray),.slice none 0 0]) ?_ 0 _ rfl;(with_reducible repeat (first|refine blk_drewN ?_ _|refine blk_drew ?_|refine blk_alloc ?_ _));exact BK180.out) Try.underlying27 rfl (by kernel_rfl)) rfl ?_
          exact ⟨_,by first|rfl|(simp [errW_none,errW_some] <;> rfl)|(simp [*,errW_none,errW_some] <;> rfl),by first|exact Kd.R_nil _ _ _ _ _|exact Kd.N_nil _ _ _ _ _|exact Kd.V_nil _ _ _ _ _|exact Kd.Q_nil _ _ _ _ _|exact Kd.S_nil _ _ _ _ _,by repeat (first|(with_reducible first|exact HB.out|apply below_alloc|apply pw_below_drewN|apply below_drew1|refine below_set ?_ GE180.out)|exact HB.out)⟩
         ·rw [if_neg c16] at H
          have c16b0:((bt a0 a1) == 46)=false:=beq_eq_false_iff_ne.mpr c16
          have c16b1:((bt a0 a1) != 46)=true:=bne_iff_ne.mpr c16
          by_cases c18:(bt a0 a1)=33
          ·rw [if_pos c18] at H
           have c18b0:((bt a0 a1) == 33)=true:=beq_iff_eq.mpr c18
           have c18b1:((bt a0 a1) != 33)=false:=bne_eq_false_iff_eq.mpr c18
           clear c18
           simp only [Option.some.injEq,Prod.mk.injEq] at H
           obtain ⟨rfl,rfl,rfl,rfl,rfl⟩:=H
           have p11:0≤(a1:Int):=of_decide_eq_true (by first|(with_reducible assumption)|assumption)
           have q11:a1<(a0.size:Int):=of_decide_eq_true (by first|(with_reducible assumption)|assumption)
           have hx11:=bt_at a0 a1
           replace p11:=eq_true p11
           replace q11:=eq_true q11
           have hcz19_0:wc.cell? ⟨gb180,0,none⟩=some (.int .i64 0):=(blk_cell BK180.out 0).trans rfl
           have hcz19_1:wc.cell? ⟨gb180,1,none⟩=some (.int .i64 0):=(blk_cell BK180.out 1).trans rfl
           have hcz19_2:wc.cell? ⟨gb180,2,none⟩=some (.string (⟨#[]⟩:ByteArray)):=(blk_cell BK180.out 2).trans rfl
           have hcz19_3:wc.cell? ⟨gb180,3,none⟩=some (.slice none 0 0):=(blk_cell BK180.out 3).trans rfl
           have hfz19_0:=blk_frozen BK180.out 0
           have hfz19_1:=blk_frozen BK180.out 1
           have hfz19_2:=blk_frozen BK180.out 2
           have hfz19_3:=blk_frozen BK180.out 3
           go_wp2
           refine bodyPost_ret (results_ct rfl _ _ gb180 27 #[.int .i64 5,.int .i64 0,.string (⟨#[]⟩:ByteArray),.slice none 0 0] (0,0) _ rfl (by (with_reducible repeat (first|refine blk_drewN ?_ _|refine blk_drew ?_|refine blk_alloc ?_ _));refine blk_put (cs:=#[.int .i64 5,.int .i64 0,.string (⟨#[]⟩:ByteArray),.slice none 0 0]) ?_ 3 _ rfl;(with_reducible repeat (first|refine blk_drewN ?_ _|refine blk_drew ?_|refine blk_alloc ?_ _));refine blk_put (cs:=#[.int .i64 5,.int .i64 0,.string (⟨#[]⟩:ByteArray),.slice none 0 0]) ?_ 2 _ rfl;(with_reducible repeat (first|refine blk_drewN ?_ _|refine blk_drew ?_|refine blk_alloc ?_ _));refine blk_put (cs:=#[.int .i64 5,.int .i64 0,.string (⟨#[]⟩:ByteArray),.slice none 0 0]) ?_ 1 _ rfl;(with_reducible repeat (first|refine blk_drewN ?_ _|refine blk_drew ?_|refine blk_alloc ?_ _));refine blk_put (cs:=#[.int .i64 0,.int .i64 0,.string (⟨#[]⟩:ByteArray),.slice none 0 0]) ?_ 0 _ rfl;(with_reducible repeat (first|refine blk_drewN ?_ _|refine blk_drew ?_|refine blk_alloc ?_ _));exact BK180.out) Try.underlying27 rfl (by kernel_rfl)) rfl ?_
           exact ⟨_,by first|rfl|(simp [errW_none,errW_some] <;> rfl)|(simp [*,errW_none,errW_some] <;> rfl),by first|exact Kd.R_nil _ _ _ _ _|exact Kd.N_nil _ _ _ _ _|exact Kd.V_nil _ _ _ _ _|exact Kd.Q_nil _ _ _ _ _|exact Kd.S_nil _ _ _ _ _,by repeat (first|(with_reducible first|exact HB.out|apply below_alloc|apply pw_below_drewN|apply below_drew1|refine below_set ?_ GE180.out)|exact HB.out)⟩
          ·rw [if_neg c18] at H
           have c18b0:((bt a0 a1) == 33)=false:=beq_eq_false_iff_ne.mpr c18
           have c18b1:((bt a0 a1) != 33)=true:=bne_iff_ne.mpr c18
           by_cases c20:(bt a0 a1)=34
           ·rw [if_pos c20] at H
            have c20b0:((bt a0 a1) == 34)=true:=beq_iff_eq.mpr c20
            have c20b1:((bt a0 a1) != 34)=false:=bne_eq_false_iff_eq.mpr c20
            clear c20
            replace H:=Option.bind_eq_some_iff.mp H
            obtain ⟨⟨t181,t182,t183,t184,t187⟩,A210,H⟩:=H
            replace H:(some (t181,t182,t183,t184,t187))=some (r1,r2,r3,r4,r5):=H
            have A21:=Aside0.mk A210
            clear A210
            simp only [Option.some.injEq,Prod.mk.injEq] at H
            obtain ⟨rfl,rfl,rfl,rfl,rfl⟩:=H
            have p11:0≤(a1:Int):=of_decide_eq_true (by first|(with_reducible assumption)|assumption)
            have q11:a1<(a0.size:Int):=of_decide_eq_true (by first|(with_reducible assumption)|assumption)
            have hx11:=bt_at a0 a1
            replace p11:=eq_true p11
            replace q11:=eq_true q11
            go_wp2_with (first|((with_reducible refine gate_callee (f:=76) rfl ?_);refine goesL_ (some 50) rfl rfl Try.func76 (by kernel_rfl) rfl #[.string a0,.int .i64 a1] rfl (by (try simp only [List.map_toArray,List.map_cons,List.map_nil]);first|done|rfl|(simp only [List.length_drop,List.length_take];rfl)) ?_;(with_reducible refine (spec_l1Word.calls kj3 a0 a1 t181 t182 t183 t184 t187 _ A21.out).mono ?_);rintro e w22 ⟨v185,rfl,ho0,hb⟩;refine ⟨_,rfl,?_⟩;have n0_:=Aside0.mk (Kd.R_lower (Kd.R_newB ho0 (g:=gb180) (o:=.cells #[.int .i64 0,.int .i64 0,.string (⟨#[]⟩:ByteArray),.slice none 0 0] 27 (0,0)) (by (with_reducible repeat (first|refine blk_drewN ?_ _|refine blk_drew ?_|refine blk_alloc ?_ _));exact BK180.out)) (below_size (by repeat (first|(with_reducible first|exact HB.out|apply below_alloc|apply pw_below_drewN|apply below_drew1|refine below_set ?_ GE180.out)|exact HB.out))));have n1_:=Aside0.mk (blk_below (g:=gb180) (o:=.cells #[.int .i64 0,.int .i64 0,.string (⟨#[]⟩:ByteArray),.slice none 0 0] 27 (0,0)) (by (with_reducible repeat (first|refine blk_drewN ?_ _|refine blk_drew ?_|refine blk_alloc ?_ _));exact BK180.out) hb);have n2_:=Aside0.mk (below_step (by repeat (first|(with_reducible first|exact HB.out|apply below_alloc|apply pw_below_drewN|apply below_drew1|refine below_set ?_ GE180.out)|exact HB.out)) hb);clear BK180;clear HB;have HO186:=n0_;have BK180:=n1_;have HB:=n2_;clear n0_ n1_ n2_;(try clear hb);(try clear hb2);(try clear hk);(try clear hi);(try clear ho0);have hcz23_0:w22.cell? ⟨gb180,0,none⟩=some (.int .i64 0):=(blk_cell BK180.out 0).trans rfl;have hcz23_1:w22.cell? ⟨gb180,1,none⟩=some (.int .i64 0):=(blk_cell BK180.out 1).trans rfl;have hcz23_2:w22.cell? ⟨gb180,2,none⟩=some (.string (⟨#[]⟩:ByteArray)):=(blk_cell BK180.out 2).trans rfl;have hcz23_3:w22.cell? ⟨gb180,3,none⟩=some (.slice none 0 0):=(blk_cell BK180.out 3).trans rfl;have hfz23_0:=blk_frozen BK180.out 0;have hfz23_1:=blk_frozen BK180.out 1;have hfz23_2:=blk_frozen BK180.out 2;have hfz23_3:=blk_frozen BK180.out 3;obtain ⟨Ao24,co24,eo24⟩:=Kd.R_slice HO186.out;subst eo24))
            refine bodyPost_ret (results_ct rfl _ _ gb180 27 #[.int .i64 t181,.int .i64 t182,.string t183,.slice Ao24 t184.length co24] (0,0) _ rfl (by (with_reducible repeat (first|refine blk_drewN ?_ _|refine blk_drew ?_|refine blk_alloc ?_ _));refine blk_put (cs:=#[.int .i64 t181,.int .i64 t182,.string t183,.slice none 0 0]) ?_ 3 _ rfl;(with_reducible repeat (first|refine blk_drewN ?_ _|refine blk_drew ?_|refine blk_alloc ?_ _));refine blk_put (cs:=#[.int .i64 t181,.int .i64 t182,.string (⟨#[]⟩:ByteArray),.slice none 0 0]) ?_ 2 _ rfl;(with_reducible repeat (first|refine blk_drewN ?_ _|refine blk_drew ?_|refine blk_alloc ?_ _));refine blk_put (cs:=#[.int .i64 t181,.int .i64 0,.string (⟨#[]⟩:ByteArray),.slice none 0 0]) ?_ 1 _ rfl;(with_reducible repeat (first|refine blk_drewN ?_ _|refine blk_drew ?_|refine blk_alloc ?_ _));refine blk_put (cs:=#[.int .i64 0,.int .i64 0,.string (⟨#[]⟩:ByteArray),.slice none 0 0]) ?_ 0 _ rfl;(with_reducible repeat (first|refine blk_drewN ?_ _|refine blk_drew ?_|refine blk_alloc ?_ _));exact BK180.out) Try.underlying27 rfl (by kernel_rfl)) rfl ?_
            exact ⟨_,by first|rfl|(simp [errW_none,errW_some] <;> rfl)|(simp [*,errW_none,errW_some] <;> rfl),by (with_reducible repeat (first|apply Kd.R_alloc|apply Kd.R_drewN|apply Kd.R_drew));exact Kd.R_mono (Kd.R_far (p:=⟨gb180,3,none⟩) (Kd.R_far (p:=⟨gb180,2,none⟩) (Kd.R_far (p:=⟨gb180,1,none⟩) (Kd.R_far (p:=⟨gb180,0,none⟩) (Kd.R_mono HO186.out (fun k_ hk=>(⟨hk,hk.2⟩:_∧k_≠gb180))) (fun _ hk=>hk.2) (.int .i64 t181)) (fun _ hk=>hk.2) (.int .i64 t182)) (fun _ hk=>hk.2) (.string t183)) (fun _ hk=>hk.2) (.slice Ao24 t184.length co24)) (fun _ hk=>trivial),by repeat (first|(with_reducible first|exact HB.out|apply below_alloc|apply pw_below_drewN|apply below_drew1|refine below_set ?_ GE180.out)|exact HB.out)⟩
           ·rw [if_neg c20] at H
            have c20b0:((bt a0 a1) == 34)=false:=beq_eq_false_iff_ne.mpr c20
            have c20b1:((bt a0 a1) != 34)=true:=bne_iff_ne.mpr c20
            by_cases c25:(bt a0 a1)=40
            ·rw [if_pos c25] at H
             have c25b0:((bt a0 a1) == 40)=true:=beq_iff_eq.mpr c25
             have c25b1:((bt a0 a1) != 40)=false:=bne_eq_false_iff_eq.mpr c25
             clear c25
             replace H:=Option.bind_eq_some_iff.mp H
             obtain ⟨⟨t188,t189⟩,A260,H⟩:=H
             replace H:(some (7,0,(⟨#[]⟩:ByteArray),t188,t189))=some (r1,r2,r3,r4,r5):=H
             have A26:=Aside0.mk A260
             clear A260
             simp only [Option.some.injEq,Prod.mk.injEq] at H
             obtain ⟨rfl,rfl,rfl,rfl,rfl⟩:=H
             have p11:0≤(a1:Int):=of_decide_eq_true (by first|(with_reducible assumption)|assumption)
             have q11:a1<(a0.size:Int):=of_decide_eq_true (by first|(with_reducible assumption)|assumption)
             have hx11:=bt_at a0 a1
             replace p11:=eq_true p11
             replace q11:=eq_true q11
             go_wp2_with (first|((with_reducible refine gate_callee (f:=77) rfl ?_);refine goesL_ (some 60) rfl rfl Try.func77 (by kernel_rfl) rfl #[.string a0,.int .i64 (wrap64 (a1+1)),.int .i64 2,.int .u8 41,.int .i64 a2] rfl (by (try simp only [List.map_toArray,List.map_cons,List.map_nil]);first|done|rfl|(simp only [List.length_drop,List.length_take];rfl)) ?_;(with_reducible refine (ih_spec_l1Inner kj3 (by have:=HJ3.out;omega) a0 (wrap64 (a1+1)) 2 41 a2 t188 t189 _ A26.out).mono ?_);rintro e w27 ⟨v190,rfl,ho0,hb⟩;refine ⟨_,rfl,?_⟩;have n0_:=Aside0.mk (Kd.R_lower (Kd.R_newB ho0 (g:=gb180) (o:=.cells #[.int .i64 0,.int .i64 0,.string (⟨#[]⟩:ByteArray),.slice none 0 0] 27 (0,0)) (by (with_reducible repeat (first|refine blk_drewN ?_ _|refine blk_drew ?_|refine blk_alloc ?_ _));exact BK180.out)) (below_size (by repeat (first|(with_reducible first|exact HB.out|apply below_alloc|apply pw_below_drewN|apply below_drew1|refine below_set ?_ GE180.out)|exact HB.out))));have n1_:=Aside0.mk (blk_below (g:=gb180) (o:=.cells #[.int .i64 0,.int .i64 0,.string (⟨#[]⟩:ByteArray),.slice none 0 0] 27 (0,0)) (by (with_reducible repeat (first|refine blk_drewN ?_ _|refine blk_drew ?_|refine blk_alloc ?_ _));exact BK180.out) hb);have n2_:=Aside0.mk (below_step (by repeat (first|(with_reducible first|exact HB.out|apply below_alloc|apply pw_below_drewN|apply below_drew1|refine below_set ?_ GE180.out)|exact HB.out)) hb);clear BK180;clear HB;have HO191:=n0_;have BK180:=n1_;have HB:=n2_;clear n0_ n1_ n2_;(try clear hb);(try clear hb2);(try clear hk);(try clear hi);(try clear ho0);obtain ⟨Ao28,co28,eo28⟩:=Kd.R_slice HO191.out;subst eo28;have hcz29_0:w27.cell? ⟨gb180,0,none⟩=some (.int .i64 0):=(blk_cell BK180.out 0).trans rfl;have hcz29_1:w27.cell? ⟨gb180,1,none⟩=some (.int .i64 0):=(blk_cell BK180.out 1).trans rfl;have hcz29_2:w27.cell? ⟨gb180,2,none⟩=some (.string (⟨#[]⟩:ByteArray)):=(blk_cell BK180.out 2).trans rfl;have hcz29_3:w27.cell? ⟨gb180,3,none⟩=some (.slice none 0 0):=(blk_cell BK180.out 3).trans rfl;have hfz29_0:=blk_frozen BK180.out 0;have hfz29_1:=blk_frozen BK180.out 1;have hfz29_2:=blk_frozen BK180.out 2;have hfz29_3:=blk_frozen BK180.out 3))
             refine bodyPost_ret (results_ct rfl _ _ gb180 27 #[.int .i64 7,.int .i64 0,.string (⟨#[]⟩:ByteArray),.slice Ao28 t188.length co28] (0,0) _ rfl (by (with_reducible repeat (first|refine blk_drewN ?_ _|refine blk_drew ?_|refine blk_alloc ?_ _));refine blk_put (cs:=#[.int .i64 7,.int .i64 0,.string (⟨#[]⟩:ByteArray),.slice none 0 0]) ?_ 3 _ rfl;(with_reducible repeat (first|refine blk_drewN ?_ _|refine blk_drew ?_|refine blk_alloc ?_ _));refine blk_put (cs:=#[.int .i64 7,.int .i64 0,.string (⟨#[]⟩:ByteArray),.slice none 0 0]) ?_ 2 _ rfl;(with_reducible repeat (first|refine blk_drewN ?_ _|refine blk_drew ?_|refine blk_alloc ?_ _));refine blk_put (cs:=#[.int .i64 7,.int .i64 0,.string (⟨#[]⟩:ByteArray),.slice none 0 0]) ?_ 1 _ rfl;(with_reducible repeat (first|refine blk_drewN ?_ _|refine blk_drew ?_|refine blk_alloc ?_ _));refine blk_put (cs:=#[.int .i64 0,.int .i64 0,.string (⟨#[]⟩:ByteArray),.slice none 0 0]) ?_ 0 _ rfl;(with_reducible repeat (first|refine blk_drewN ?_ _|refine blk_drew ?_|refine blk_alloc ?_ _));exact BK180.out) Try.underlying27 rfl (by kernel_rfl)) rfl ?_
             exact ⟨_,by first|rfl|(simp [errW_none,errW_some] <;> rfl)|(simp [*,errW_none,errW_some] <;> rfl),by (with_reducible repeat (first|apply Kd.R_alloc|apply Kd.R_drewN|apply Kd.R_drew));exact Kd.R_mono (Kd.R_far (p:=⟨gb180,3,none⟩) (Kd.R_far (p:=⟨gb180,2,none⟩) (Kd.R_far (p:=⟨gb180,1,none⟩) (Kd.R_far (p:=⟨gb180,0,none⟩) (Kd.R_mono HO191.out (fun k_ hk=>(⟨hk,hk.2⟩:_∧k_≠gb180))) (fun _ hk=>hk.2) (.int .i64 7)) (fun _ hk=>hk.2) (.int .i64 0)) (fun _ hk=>hk.2) (.string (⟨#[]⟩:ByteArray))) (fun _ hk=>hk.2) (.slice Ao28 t188.length co28)) (fun _ hk=>trivial),by repeat (first|(with_reducible first|exact HB.out|apply below_alloc|apply pw_below_drewN|apply below_drew1|refine below_set ?_ GE180.out)|exact HB.out)⟩
            ·rw [if_neg c25] at H
             have c25b0:((bt a0 a1) == 40)=false:=beq_eq_false_iff_ne.mpr c25
             have c25b1:((bt a0 a1) != 40)=true:=bne_iff_ne.mpr c25
             by_cases c30:(bt a0 a1)=91
             ·rw [if_pos c30] at H
              have c30b0:((bt a0 a1) == 91)=true:=beq_iff_eq.mpr c30
              have c30b1:((bt a0 a1) != 91)=false:=bne_eq_false_iff_eq.mpr c30
              clear c30
              replace H:=Option.bind_eq_some_iff.mp H
              obtain ⟨⟨t192,t193⟩,A310,H⟩:=H
              replace H:(some (8,0,(⟨#[]⟩:ByteArray),t192,t193))=some (r1,r2,r3,r4,r5):=H
              have A31:=Aside0.mk A310
              clear A310
              simp only [Option.some.injEq,Prod.mk.injEq] at H
              obtain ⟨rfl,rfl,rfl,rfl,rfl⟩:=H
              have p11:0≤(a1:Int):=of_decide_eq_true (by first|(with_reducible assumption)|assumption)
              have q11:a1<(a0.size:Int):=of_decide_eq_true (by first|(with_reducible assumption)|assumption)
              have hx11:=bt_at a0 a1
              replace p11:=eq_true p11
              replace q11:=eq_true q11
              go_wp2_with (first|((with_reducible refine gate_callee (f:=77) rfl ?_);refine goesL_ (some 73) rfl rfl Try.func77 (by kernel_rfl) rfl #[.string a0,.int .i64 (wrap64 (a1+1)),.int .i64 1,.int .u8 93,.int .i64 a2] rfl (by (try simp only [List.map_toArray,List.map_cons,List.map_nil]);first|done|rfl|(simp only [List.length_drop,List.length_take];rfl)) ?_;(with_reducible refine (ih_spec_l1Inner kj3 (by have:=HJ3.out;omega) a0 (wrap64 (a1+1)) 1 93 a2 t192 t193 _ A31.out).mono ?_);rintro e w32 ⟨v194,rfl,ho0,hb⟩;refine ⟨_,rfl,?_⟩;have n0_:=Aside0.mk (Kd.R_lower (Kd.R_newB ho0 (g:=gb180) (o:=.cells #[.int .i64 0,.int .i64 0,.string (⟨#[]⟩:ByteArray),.slice none 0 0] 27 (0,0)) (by (with_reducible repeat (first|refine blk_drewN ?_ _|refine blk_drew ?_|refine blk_alloc ?_ _));exact BK180.out)) (below_size (by repeat (first|(with_reducible first|exact HB.out|apply below_alloc|apply pw_below_drewN|apply below_drew1|refine below_set ?_ GE180.out)|exact HB.out))));have n1_:=Aside0.mk (blk_below (g:=gb180) (o:=.cells #[.int .i64 0,.int .i64 0,.string (⟨#[]⟩:ByteArray),.slice none 0 0] 27 (0,0)) (by (with_reducible repeat (first|refine blk_drewN ?_ _|refine blk_drew ?_|refine blk_alloc ?_ _));exact BK180.out) hb);have n2_:=Aside0.mk (below_step (by repeat (first|(with_reducible first|exact HB.out|apply below_alloc|apply pw_below_drewN|apply below_drew1|refine below_set ?_ GE180.out)|exact HB.out)) hb);clear BK180;clear HB;have HO195:=n0_;have BK180:=n1_;have HB:=n2_;clear n0_ n1_ n2_;(try clear hb);(try clear hb2);(try clear hk);(try clear hi);(try clear ho0);obtain ⟨Ao33,co33,eo33⟩:=Kd.R_slice HO195.out;subst eo33;have hcz34_0:w32.cell? ⟨gb180,0,none⟩=some (.int .i64 0):=(blk_cell BK180.out 0).trans rfl;have hcz34_1:w32.cell? ⟨gb180,1,none⟩=some (.int .i64 0):=(blk_cell BK180.out 1).trans rfl;have hcz34_2:w32.cell? ⟨gb180,2,none⟩=some (.string (⟨#[]⟩:ByteArray)):=(blk_cell BK180.out 2).trans rfl;have hcz34_3:w32.cell? ⟨gb180,3,none⟩=some (.slice none 0 0):=(blk_cell BK180.out 3).trans rfl;have hfz34_0:=blk_frozen BK180.out 0;have hfz34_1:=blk_frozen BK180.out 1;have hfz34_2:=blk_frozen BK180.out 2;have hfz34_3:=blk_frozen BK180.out 3))
              refine bodyPost_ret (results_ct rfl _ _ gb180 27 #[.int .i64 8,.int .i64 0,.string (⟨#[]⟩:ByteArray),.slice Ao33 t192.length co33] (0,0) _ rfl (by (with_reducible repeat (first|refine blk_drewN ?_ _|refine blk_drew ?_|refine blk_alloc ?_ _));refine blk_put (cs:=#[.int .i64 8,.int .i64 0,.string (⟨#[]⟩:ByteArray),.slice none 0 0]) ?_ 3 _ rfl;(with_reducible repeat (first|refine blk_drewN ?_ _|refine blk_drew ?_|refine blk_alloc ?_ _));refine blk_put (cs:=#[.int .i64 8,.int .i64 0,.string (⟨#[]⟩:ByteArray),.slice none 0 0]) ?_ 2 _ rfl;(with_reducible repeat (first|refine blk_drewN ?_ _|refine blk_drew ?_|refine blk_alloc ?_ _));refine blk_put (cs:=#[.int .i64 8,.int .i64 0,.string (⟨#[]⟩:ByteArray),.slice none 0 0]) ?_ 1 _ rfl;(with_reducible repeat (first|refine blk_drewN ?_ _|refine blk_drew ?_|refine blk_alloc ?_ _));refine blk_put (cs:=#[.int .i64 0,.int .i64 0,.string (⟨#[]⟩:ByteArray),.slice none 0 0]) ?_ 0 _ rfl;(with_reducible repeat (first|refine blk_drewN ?_ _|refine blk_drew ?_|refine blk_alloc ?_ _));exact BK180.out) Try.underlying27 rfl (by kernel_rfl)) rfl ?_
              exact ⟨_,by first|rfl|(simp [errW_none,errW_some] <;> rfl)|(simp [*,errW_none,errW_some] <;> rfl),by (with_reducible repeat (first|apply Kd.R_alloc|apply Kd.R_drewN|apply Kd.R_drew));exact Kd.R_mono (Kd.R_far (p:=⟨gb180,3,none⟩) (Kd.R_far (p:=⟨gb180,2,none⟩) (Kd.R_far (p:=⟨gb180,1,none⟩) (Kd.R_far (p:=⟨gb180,0,none⟩) (Kd.R_mono HO195.out (fun k_ hk=>(⟨hk,hk.2⟩:_∧k_≠gb180))) (fun _ hk=>hk.2) (.int .i64 8)) (fun _ hk=>hk.2) (.int .i64 0)) (fun _ hk=>hk.2) (.string (⟨#[]⟩:ByteArray))) (fun _ hk=>hk.2) (.slice Ao33 t192.length co33)) (fun _ hk=>trivial),by repeat (first|(with_reducible first|exact HB.out|apply below_alloc|apply pw_below_drewN|apply below_drew1|refine below_set ?_ GE180.out)|exact HB.out)⟩
             ·rw [if_neg c30] at H
              have c30b0:((bt a0 a1) == 91)=false:=beq_eq_false_iff_ne.mpr c30
              have c30b1:((bt a0 a1) != 91)=true:=bne_iff_ne.mpr c30
              have HC35:=Aside0.mk H
              clear H
              have p11:0≤(a1:Int):=of_decide_eq_true (by first|(with_reducible assumption)|assumption)
              have q11:a1<(a0.size:Int):=of_decide_eq_true (by first|(with_reducible assumption)|assumption)
              have hx11:=bt_at a0 a1
              replace p11:=eq_true p11
              replace q11:=eq_true q11
              go_upto_region 20 with (fail)
              go_cut [102] (fun v102 wc=>∃ (kq:Nat) (x102_34:Bool),v102=.bool x102_34∧Aside0 (spec_l1Read.j1 kq a0 a1 a2 x102_34=some (r1,r2,r3,r4,r5))∧Aside0 (kq≤kj3)∧Aside0 (wc.heap[gb180]?=some (.cells #[.int .i64 0,.int .i64 0,.string (⟨#[]⟩:ByteArray),(.slice none 0 0)] 27 (0,0)))∧Aside0 (Below w.heap.size w wc))
              case first =>
               have H:=HC35.out
               clear HC35
               by_cases c37:(bt a0 a1)≥48
               ·rw [if_pos c37] at H
                have c37b0:decide (48≤(bt a0 a1))=true:=decide_eq_true c37
                clear c37
                (first|rw [c37b0]|(simp only [i64_w,i32_w];rw [c37b0])|skip)
                by_cases c39:(bt a0 a1)≤57
                ·rw [if_pos c39] at H
                 have c39b0:decide ((bt a0 a1)≤57)=true:=decide_eq_true c39
                 clear c39
                 by_cases c40:(wrap64 (a1+1))<(a0.size:Int)
                 ·rw [if_pos c40] at H
                  have c40b0:decide ((wrap64 (a1+1))<(a0.size:Int))=true:=decide_eq_true c40
                  clear c40
                  obtain ⟨ji41,hji41⟩:∃ j_:Int,(wrap64 (a1+1))=j_:=⟨_,rfl⟩
                  replace H:(if 0≤(ji41) then (spec_l1Read.j1 kj3 a0 a1 a2 ((bt a0 (ji41)) == 60)) else (none))=some (r1,r2,r3,r4,r5):=by first|(rw [hji41] at H;exact H)|(simp only [hji41] at H ⊢;exact H)
                  (try rw [hji41] at c40b0)
                  have hji41w:(IntKind.i64.wrap (a1+1))=ji41:=(i64_w _).trans hji41
                  by_cases c42:0≤(ji41)
                  ·rw [if_pos c42] at H
                   have c42b0:decide (0≤(ji41))=true:=decide_eq_true c42
                   clear c42
                   have H':=Aside0.mk H
                   clear H
                   have p36:0≤(a1:Int):=of_decide_eq_true (by first|(with_reducible assumption)|assumption)
                   have q36:a1<(a0.size:Int):=of_decide_eq_true (by first|(with_reducible assumption)|assumption)
                   have hx36:=bt_at a0 a1
                   replace p36:=eq_true p36
                   replace q36:=eq_true q36
                   have p38:0≤(a1:Int):=of_decide_eq_true (by first|(with_reducible assumption)|assumption)
                   have q38:a1<(a0.size:Int):=of_decide_eq_true (by first|(with_reducible assumption)|assumption)
                   have hx38:=bt_at a0 a1
                   replace p38:=eq_true p38
                   replace q38:=eq_true q38
                   have p43:0≤((ji41):Int):=of_decide_eq_true (by first|(with_reducible assumption)|assumption)
                   have q43:(ji41)<(a0.size:Int):=of_decide_eq_true (by first|(with_reducible assumption)|assumption)
                   have hx43:=bt_at a0 (ji41)
                   replace p43:=eq_true p43
                   replace q43:=eq_true q43
                   go_wp2
                   go_meet
                   case rel=>exact ⟨_,(((bt a0 (ji41)) == 60)),(by first|rfl|(simp;done)|(simp only [← hji41] <;> (first|rfl|simp))|(simp [*];done)),H',⟨by have:=HJ3.out;first|omega|exact Nat.le_refl _⟩,⟨by (with_reducible repeat (first|refine blk_drewN ?_ _|refine blk_drew ?_|refine blk_alloc ?_ _));exact BK180.out⟩,⟨by repeat (first|(with_reducible first|exact HB.out|apply below_alloc|apply pw_below_drewN|apply below_drew1|refine below_set ?_ GE180.out)|exact HB.out)⟩⟩
                  ·rw [if_neg c42] at H
                   exact absurd H (by simp)
                 ·rw [if_neg c40] at H
                  have c40b0:decide ((wrap64 (a1+1))<(a0.size:Int))=false:=decide_eq_false c40
                  clear c40
                  have H':=Aside0.mk H
                  clear H
                  have p36:0≤(a1:Int):=of_decide_eq_true (by first|(with_reducible assumption)|assumption)
                  have q36:a1<(a0.size:Int):=of_decide_eq_true (by first|(with_reducible assumption)|assumption)
                  have hx36:=bt_at a0 a1
                  replace p36:=eq_true p36
                  replace q36:=eq_true q36
                  have p38:0≤(a1:Int):=of_decide_eq_true (by first|(with_reducible assumption)|assumption)
                  have q38:a1<(a0.size:Int):=of_decide_eq_true (by first|(with_reducible assumption)|assumption)
                  have hx38:=bt_at a0 a1
                  replace p38:=eq_true p38
                  replace q38:=eq_true q38
                  go_wp2
                  go_meet
                  case rel=>exact ⟨_,(false),(by first|rfl|(simp;done)|(simp [*];done)),H',⟨by have:=HJ3.out;first|omega|exact Nat.le_refl _⟩,⟨by (with_reducible repeat (first|refine blk_drewN ?_ _|refine blk_drew ?_|refine blk_alloc ?_ _));exact BK180.out⟩,⟨by repeat (first|(with_reducible first|exact HB.out|apply below_alloc|apply pw_below_drewN|apply below_drew1|refine below_set ?_ GE180.out)|exact HB.out)⟩⟩
                ·rw [if_neg c39] at H
                 have c39b0:decide ((bt a0 a1)≤57)=false:=decide_eq_false c39
                 clear c39
                 have H':=Aside0.mk H
                 clear H
                 have p36:0≤(a1:Int):=of_decide_eq_true (by first|(with_reducible assumption)|assumption)
                 have q36:a1<(a0.size:Int):=of_decide_eq_true (by first|(with_reducible assumption)|assumption)
                 have hx36:=bt_at a0 a1
                 replace p36:=eq_true p36
                 replace q36:=eq_true q36
                 have p38:0≤(a1:Int):=of_decide_eq_true (by first|(with_reducible assumption)|assumption)
                 have q38:a1<(a0.size:Int):=of_decide_eq_true (by first|(with_reducible assumption)|assumption)
                 have hx38:=bt_at a0 a1
                 replace p38:=eq_true p38
                 replace q38:=eq_true q38
                 go_wp2
                 go_meet
                 case rel=>exact ⟨_,(false),(by first|rfl|(simp;done)|(simp [*];done)),H',⟨by have:=HJ3.out;first|omega|exact Nat.le_refl _⟩,⟨by (with_reducible repeat (first|refine blk_drewN ?_ _|refine blk_drew ?_|refine blk_alloc ?_ _));exact BK180.out⟩,⟨by repeat (first|(with_reducible first|exact HB.out|apply below_alloc|apply pw_below_drewN|apply below_drew1|refine below_set ?_ GE180.out)|exact HB.out)⟩⟩
               ·rw [if_neg c37] at H
                have c37b0:decide (48≤(bt a0 a1))=false:=decide_eq_false c37
                clear c37
                (first|rw [c37b0]|(simp only [i64_w,i32_w];rw [c37b0])|skip)
                have H':=Aside0.mk H
                clear H
                have p36:0≤(a1:Int):=of_decide_eq_true (by first|(with_reducible assumption)|assumption)
                have q36:a1<(a0.size:Int):=of_decide_eq_true (by first|(with_reducible assumption)|assumption)
                have hx36:=bt_at a0 a1
                replace p36:=eq_true p36
                replace q36:=eq_true q36
                go_wp2
                go_meet
                case rel=>exact ⟨_,(false),(by first|rfl|(simp;done)|(simp [*];done)),H',⟨by have:=HJ3.out;first|omega|exact Nat.le_refl _⟩,⟨by (with_reducible repeat (first|refine blk_drewN ?_ _|refine blk_drew ?_|refine blk_alloc ?_ _));exact BK180.out⟩,⟨by repeat (first|(with_reducible first|exact HB.out|apply below_alloc|apply pw_below_drewN|apply below_drew1|refine below_set ?_ GE180.out)|exact HB.out)⟩⟩
              case rest =>
               clear HC35
               try clear c1 p1 q1 hx1 c2 p2 c3 p3 q3 hx3 c4 p4 q4 hx4 c6 c6b0 p6 c7 c9 c9b0 c10 c10b0 p11 q11 hx11 c12 c12b0 c12b1 c14 c14b0 c14b1 c16 c16b0 c16b1 c18 c18b0 c18b1 c20 c20b0 c20b1 c25 c25b0 c25b1 c30 c30b0 c30b1 p36 q36 hx36 c37 c37b0 p38 q38 hx38 c39 c39b0 c40 c40b0 c42 c42b0 p43 q43 hx43 hcz13_0 hcz13_1 hcz13_2 hcz13_3 hcz15_0 hcz15_1 hcz15_2 hcz15_3 hcz17_0 hcz17_1 hcz17_2 hcz17_3 hcz19_0 hcz19_1 hcz19_2 hcz19_3 hcz23_0 hcz23_1 hcz23_2 hcz23_3 hcz29_0 hcz29_1 hcz29_2 hcz29_3 hcz34_0 hcz34_1 hcz34_2 hcz34_3 hcz8_0 hcz8_1 hcz8_2 hcz8_3 hfz13_0 hfz13_1 hfz13_2 hfz13_3 hfz15_0 hfz15_1 hfz15_2 hfz15_3 hfz17_0 hfz17_1 hfz17_2 hfz17_3 hfz19_0 hfz19_1 hfz19_2 hfz19_3 hfz23_0 hfz23_1 hfz23_2 hfz23_3 hfz29_0 hfz29_1 hfz29_2 hfz29_3 hfz34_0 hfz34_1 hfz34_2 hfz34_3 hfz8_0 hfz8_1 hfz8_2 hfz8_3 p11 p2 p36 p38 p43 q11 q36 q38 q43
               obtain ⟨kq,x102_34,rfl,HA,HJ34,BK180,HB⟩:=hcut
               cases kq with
               | zero=>exact absurd HA.out (by simp [spec_l1Read.j1])
               | succ kj34 =>
                have H:=HA.out
                clear HA
                simp only [spec_l1Read.j1] at H
                by_cases c44:x102_34=true
                ·subst c44
                 have H1:((spec_l1Inner.f kj34 a0 (wrap64 (a1+2)) 1 62 a2).bind fun bt196=>(if 0≤a1 then (if a1<(a0.size:Int) then (some (6,((bt a0 a1) - 48) % 256,(⟨#[]⟩:ByteArray),bt196.1,bt196.2)) else (none)) else (none)))=some (r1,r2,r3,r4,r5):=by rw [if_pos rfl] at H;exact H
                 clear H
                 have H:=H1
                 clear H1
                 replace H:=Option.bind_eq_some_iff.mp H
                 obtain ⟨⟨t196,t197⟩,A450,H⟩:=H
                 replace H:(if 0≤a1 then (if a1<(a0.size:Int) then (some (6,((bt a0 a1) - 48) % 256,(⟨#[]⟩:ByteArray),t196,t197)) else (none)) else (none))=some (r1,r2,r3,r4,r5):=H
                 have A45:=Aside0.mk A450
                 clear A450
                 by_cases c46:0≤a1
                 ·rw [if_pos c46] at H
                  have c46b0:decide (0≤a1)=true:=decide_eq_true c46
                  clear c46
                  by_cases c47:a1<(a0.size:Int)
                  ·rw [if_pos c47] at H
                   have c47b0:decide (a1<(a0.size:Int))=true:=decide_eq_true c47
                   clear c47
                   simp only [Option.some.injEq,Prod.mk.injEq] at H
                   obtain ⟨rfl,rfl,rfl,rfl,rfl⟩:=H
                   go_wp2_with (first|((with_reducible refine gate_callee (f:=77) rfl ?_);refine goesL_ (some 108) rfl rfl Try.func77 (by kernel_rfl) rfl #[.string a0,.int .i64 (wrap64 (a1+2)),.int .i64 1,.int .u8 62,.int .i64 a2] rfl (by (try simp only [List.map_toArray,List.map_cons,List.map_nil]);first|done|rfl|(simp only [List.length_drop,List.length_take];rfl)) ?_;(with_reducible refine (ih_spec_l1Inner kj34 (by have:=HJ3.out;have:=HJ34.out;omega) a0 (wrap64 (a1+2)) 1 62 a2 t196 t197 _ A45.out).mono ?_);rintro e w49 ⟨v198,rfl,ho0,hb⟩;refine ⟨_,rfl,?_⟩;have n0_:=Aside0.mk (Kd.R_lower (Kd.R_newB ho0 (g:=gb180) (o:=.cells #[.int .i64 0,.int .i64 0,.string (⟨#[]⟩:ByteArray),.slice none 0 0] 27 (0,0)) (by (with_reducible repeat (first|refine blk_drewN ?_ _|refine blk_drew ?_|refine blk_alloc ?_ _));exact BK180.out)) (below_size (by repeat (first|(with_reducible first|exact HB.out|apply below_alloc|apply pw_below_drewN|apply below_drew1|refine below_set ?_ GE180.out)|exact HB.out))));have n1_:=Aside0.mk (blk_below (g:=gb180) (o:=.cells #[.int .i64 0,.int .i64 0,.string (⟨#[]⟩:ByteArray),.slice none 0 0] 27 (0,0)) (by (with_reducible repeat (first|refine blk_drewN ?_ _|refine blk_drew ?_|refine blk_alloc ?_ _));exact BK180.out) hb);have n2_:=Aside0.mk (below_step (by repeat (first|(with_reducible first|exact HB.out|apply below_alloc|apply pw_below_drewN|apply below_drew1|refine below_set ?_ GE180.out)|exact HB.out)) hb);clear BK180;clear HB;have HO199:=n0_;have BK180:=n1_;have HB:=n2_;clear n0_ n1_ n2_;(try clear hb);(try clear hb2);(try clear hk);(try clear hi);(try clear ho0);have p48:0≤(a1:Int):=of_decide_eq_true (by first|(with_reducible assumption)|assumption);have q48:a1<(a0.size:Int):=of_decide_eq_true (by first|(with_reducible assumption)|assumption);have hx48:=bt_at a0 a1;replace p48:=eq_true p48;replace q48:=eq_true q48;obtain ⟨Ao50,co50,eo50⟩:=Kd.R_slice HO199.out;subst eo50;have hcz51_0:w49.cell? ⟨gb180,0,none⟩=some (.int .i64 0):=(blk_cell BK180.out 0).trans rfl;have hcz51_1:w49.cell? ⟨gb180,1,none⟩=some (.int .i64 0):=(blk_cell BK180.out 1).trans rfl;have hcz51_2:w49.cell? ⟨gb180,2,none⟩=some (.string (⟨#[]⟩:ByteArray)):=(blk_cell BK180.out 2).trans rfl;have hcz51_3:w49.cell? ⟨gb180,3,none⟩=some (.slice none 0 0):=(blk_cell BK180.out 3).trans rfl;have hfz51_0:=blk_frozen BK180.out 0;have hfz51_1:=blk_frozen BK180.out 1;have hfz51_2:=blk_frozen BK180.out 2;have hfz51_3:=blk_frozen BK180.out 3))
                   refine bodyPost_ret (results_ct rfl _ _ gb180 27 #[.int .i64 6,.int .i64 (((bt a0 a1) - 48) % 256),.string (⟨#[]⟩:ByteArray),.slice Ao50 t196.length co50] (0,0) _ rfl (by (with_reducible repeat (first|refine blk_drewN ?_ _|refine blk_drew ?_|refine blk_alloc ?_ _));refine blk_put (cs:=#[.int .i64 6,.int .i64 (((bt a0 a1) - 48) % 256),.string (⟨#[]⟩:ByteArray),.slice none 0 0]) ?_ 3 _ rfl;(with_reducible repeat (first|refine blk_drewN ?_ _|refine blk_drew ?_|refine blk_alloc ?_ _));refine blk_put (cs:=#[.int .i64 6,.int .i64 (((bt a0 a1) - 48) % 256),.string (⟨#[]⟩:ByteArray),.slice none 0 0]) ?_ 2 _ rfl;(with_reducible repeat (first|refine blk_drewN ?_ _|refine blk_drew ?_|refine blk_alloc ?_ _));refine blk_put (cs:=#[.int .i64 6,.int .i64 0,.string (⟨#[]⟩:ByteArray),.slice none 0 0]) ?_ 1 _ rfl;(with_reducible repeat (first|refine blk_drewN ?_ _|refine blk_drew ?_|refine blk_alloc ?_ _));refine blk_put (cs:=#[.int .i64 0,.int .i64 0,.string (⟨#[]⟩:ByteArray),.slice none 0 0]) ?_ 0 _ rfl;(with_reducible repeat (first|refine blk_drewN ?_ _|refine blk_drew ?_|refine blk_alloc ?_ _));exact BK180.out) Try.underlying27 rfl (by kernel_rfl)) rfl ?_
                   exact ⟨_,by first|rfl|(simp [errW_none,errW_some] <;> rfl)|(simp [*,errW_none,errW_some] <;> rfl),by (with_reducible repeat (first|apply Kd.R_alloc|apply Kd.R_drewN|apply Kd.R_drew));exact Kd.R_mono (Kd.R_far (p:=⟨gb180,3,none⟩) (Kd.R_far (p:=⟨gb180,2,none⟩) (Kd.R_far (p:=⟨gb180,1,none⟩) (Kd.R_far (p:=⟨gb180,0,none⟩) (Kd.R_mono HO199.out (fun k_ hk=>(⟨hk,hk.2⟩:_∧k_≠gb180))) (fun _ hk=>hk.2) (.int .i64 6)) (fun _ hk=>hk.2) (.int .i64 (((bt a0 a1) - 48) % 256))) (fun _ hk=>hk.2) (.string (⟨#[]⟩:ByteArray))) (fun _ hk=>hk.2) (.slice Ao50 t196.length co50)) (fun _ hk=>trivial),by repeat (first|(with_reducible first|exact HB.out|apply below_alloc|apply pw_below_drewN|apply below_drew1|refine below_set ?_ GE180.out)|exact HB.out)⟩
                  ·rw [if_neg c47] at H
                   exact absurd H (by simp)
                 ·rw [if_neg c46] at H
                  exact absurd H (by simp)
                ·replace c44:=Bool.eq_false_iff.mpr c44
                 subst c44
                 have H1:(some (0,0,(⟨#[]⟩:ByteArray),([]:List (SDoc)),(-1)))=some (r1,r2,r3,r4,r5):=by rw [if_neg (show ¬ (false=true) by decide)] at H;exact H
                 clear H
                 have H:=H1
                 clear H1
                 simp only [Option.some.injEq,Prod.mk.injEq] at H
                 obtain ⟨rfl,rfl,rfl,rfl,rfl⟩:=H
                 have hcz52_0:wc.cell? ⟨gb180,0,none⟩=some (.int .i64 0):=(blk_cell BK180.out 0).trans rfl
                 have hcz52_1:wc.cell? ⟨gb180,1,none⟩=some (.int .i64 0):=(blk_cell BK180.out 1).trans rfl
                 have hcz52_2:wc.cell? ⟨gb180,2,none⟩=some (.string (⟨#[]⟩:ByteArray)):=(blk_cell BK180.out 2).trans rfl
                 have hcz52_3:wc.cell? ⟨gb180,3,none⟩=some (.slice none 0 0):=(blk_cell BK180.out 3).trans rfl
                 have hfz52_0:=blk_frozen BK180.out 0
                 have hfz52_1:=blk_frozen BK180.out 1
                 have hfz52_2:=blk_frozen BK180.out 2
                 have hfz52_3:=blk_frozen BK180.out 3
                 go_wp2
                 refine bodyPost_ret (results_ct rfl _ _ gb180 27 #[.int .i64 0,.int .i64 0,.string (⟨#[]⟩:ByteArray),.slice none 0 0] (0,0) _ rfl (by (with_reducible repeat (first|refine blk_drewN ?_ _|refine blk_drew ?_|refine blk_alloc ?_ _));refine blk_put (cs:=#[.int .i64 0,.int .i64 0,.string (⟨#[]⟩:ByteArray),.slice none 0 0]) ?_ 3 _ rfl;(with_reducible repeat (first|refine blk_drewN ?_ _|refine blk_drew ?_|refine blk_alloc ?_ _));refine blk_put (cs:=#[.int .i64 0,.int .i64 0,.string (⟨#[]⟩:ByteArray),.slice none 0 0]) ?_ 2 _ rfl;(with_reducible repeat (first|refine blk_drewN ?_ _|refine blk_drew ?_|refine blk_alloc ?_ _));refine blk_put (cs:=#[.int .i64 0,.int .i64 0,.string (⟨#[]⟩:ByteArray),.slice none 0 0]) ?_ 1 _ rfl;(with_reducible repeat (first|refine blk_drewN ?_ _|refine blk_drew ?_|refine blk_alloc ?_ _));refine blk_put (cs:=#[.int .i64 0,.int .i64 0,.string (⟨#[]⟩:ByteArray),.slice none 0 0]) ?_ 0 _ rfl;(with_reducible repeat (first|refine blk_drewN ?_ _|refine blk_drew ?_|refine blk_alloc ?_ _));exact BK180.out) Try.underlying27 rfl (by kernel_rfl)) rfl ?_
                 exact ⟨_,by first|rfl|(simp [errW_none,errW_some] <;> rfl)|(simp [*,errW_none,errW_some] <;> rfl),by first|exact Kd.R_nil _ _ _ _ _|exact Kd.N_nil _ _ _ _ _|exact Kd.V_nil _ _ _ _ _|exact Kd.Q_nil _ _ _ _ _|exact Kd.S_nil _ _ _ _ _,by repeat (first|(with_reducible first|exact HB.out|apply below_alloc|apply pw_below_drewN|apply below_drew1|refine below_set ?_ GE180.out)|exact HB.out)⟩
      ·rw [if_neg c10] at H
       exact absurd H (by simp)
     ·rw [if_neg c9] at H
      exact absurd H (by simp)
 ·have ih_spec_l1Read:=fun (m_:Nat) (hm_:m_<k)=>(ih0 m_ hm_).1
  have ih:=fun (m_:Nat) (hm_:m_<k)=>(ih0 m_ hm_).2
  clear ih0
  intro a0 a1 a2 a3 a4 r1 r2 w h
  cases k with
  | zero=>exact absurd h (by simp [spec_l1Inner.f])
  | succ k =>
  simp only [spec_l1Inner.f] at h
  have hu27:=Try.underlying27
  have HB:=Aside0.mk (Below.refl w.heap.size w)
  have H:(spec_l1Inner.l0 k a0 a1 a2 a3 a4 (([]:List (SDoc))) 0)=some (r1,r2):=h
  clear h
  obtain ⟨y200,hy200⟩:∃ y_:List (SDoc),y_=(([]:List (SDoc))):=⟨_,rfl⟩
  replace H:(spec_l1Inner.l0 k a0 a1 a2 a3 a4 y200 0)=some (r1,r2):=by first|(rw [hy200];with_reducible exact H)|(have H2_:=(Option.bind_some _ _).symm.trans H;rw [hy200];with_reducible exact H2_)|(have H2_:=(Option.bind_some _ _).symm.trans H;with_reducible exact H2_)|with_reducible exact H|(rw [hy200];exact H)|exact H
  have Ny200:=Aside0.mk hy200
  clear hy200
  have H':=Aside0.mk H
  clear H
  go_enter Try.func77,Try.ntmps77
  go_wp2_with (first|((with_reducible refine gate_dst (N:=16) rfl ?_);refine Kd.R_lit k27 _ 27 ?hg (N:=16) ?hd (xs:=([]:List (SDoc))) (inner:=[]) (ok:=fun _=>True) (okp:=fun _=>True) ?hr ?hp (fun _ hk=>hk) trivial (Below.refl _ _) (Nat.le_refl _) (by simp) ?_;(case hd=>rfl);(case hg=>rfl);(case hr=>first|(go_simp;done)|(go_simp;rfl));(case hp=>exact (Reps.none _ _));intro v201 w6 ho7 hb hg_ hnew_;clear hg_ hnew_;(first|rw [← Ny200.out] at ho7|(simp only [Int.reduceToNat] at ho7;rw [← Ny200.out] at ho7));have n0_:=Aside0.mk (Kd.R_lower ho7 (below_size (by repeat (first|(with_reducible first|exact HB.out|apply below_alloc|apply pw_below_drewN|apply below_drew1)|exact HB.out))));have n1_:=Aside0.mk (below_step (by repeat (first|(with_reducible first|exact HB.out|apply below_alloc|apply pw_below_drewN|apply below_drew1)|exact HB.out)) hb);clear HB;have HO202:=n0_;have HB:=n1_;clear n0_ n1_;clear hb ho7))
  go_loopg [1,12,13] k (fun kq v1 v12 v13 w'=>∃ (x1_1:Int) (x12_1:List (SDoc)) (x13_1:Int),v1=.int .i64 x1_1∧v13=.int .i64 x13_1∧Aside0 (spec_l1Inner.l0 kq a0 x1_1 a2 a3 a4 x12_1 x13_1=some (r1,r2))∧Aside0 (kq≤k)∧Aside0 (Kd.R k27 27 w' w.heap.size (fun _=>True) v12 x12_1)∧Aside0 (Below w.heap.size w w'))
  case atStart=>exact ⟨(a1),(y200),(0),(by first|rfl|(simp;done)|(simp [*];done)),(by first|rfl|(simp;done)|(simp [*];done)),H',⟨Nat.le_refl _⟩,⟨by (with_reducible repeat (first|apply Kd.R_alloc|apply Kd.R_drewN|apply Kd.R_drew));exact HO202.out⟩,⟨by repeat (first|(with_reducible first|exact HB.out|apply below_alloc|apply pw_below_drewN|apply below_drew1)|exact HB.out)⟩⟩
  case round =>
   clear H'
   try clear p2 c7
   (try clear HO_12);(try clear HB)
   obtain ⟨x1_1,x12_1,x13_1,rfl,rfl,HA,HK1,HO_12,HB⟩:=hrel
   cases gk with
   | zero=>exact absurd HA.out (by simp [spec_l1Inner.l0])
   | succ k1 =>
    have H:=HA.out
    clear HA
    simp only [spec_l1Inner.l0] at H
    by_cases c8:x13_1<a2
    ·rw [if_pos c8] at H
     have c8b0:decide (x13_1<a2)=true:=decide_eq_true c8
     clear c8
     replace H:=Option.bind_eq_some_iff.mp H
     obtain ⟨⟨t203,t204,t205,t206,t209⟩,A90,H⟩:=H
     replace H:(if t209<0 then (some (x12_1,(-1))) else (if x12_1.length<2513169434916 then (spec_l1Inner.l0 k1 a0 t209 a2 a3 a4 (x12_1++[(⟨t203,t204,t205,t206⟩:SDoc)]) (wrap64 (x13_1+1))) else (none)))=some (r1,r2):=H
     have A9:=Aside0.mk A90
     clear A90
     by_cases c10:t209<0
     ·rw [if_pos c10] at H
      have c10b0:decide (t209<0)=true:=decide_eq_true c10
      clear c10
      simp only [Option.some.injEq,Prod.mk.injEq] at H
      obtain ⟨rfl,rfl⟩:=H
      go_wp2_with (first|((with_reducible refine gate_callee (f:=64) rfl ?_);refine goesL_ (some 27) rfl rfl Try.func64 (by kernel_rfl) rfl #[.string a0,.int .i64 x1_1,.int .i64 (wrap64 (a4 - 1))] rfl (by (try simp only [List.map_toArray,List.map_cons,List.map_nil]);first|done|rfl|(simp only [List.length_drop,List.length_take];rfl)) ?_;(with_reducible refine (ih_spec_l1Read k1 (by have:=HK1.out;omega) a0 x1_1 (wrap64 (a4 - 1)) t203 t204 t205 t206 t209 _ A9.out).mono ?_);rintro e w11 ⟨v207,rfl,ho0,hb⟩;refine ⟨_,rfl,?_⟩;have n0_:=Aside0.mk (Kd.R_elder' (by (with_reducible repeat (first|apply Kd.R_alloc|apply Kd.R_drewN|apply Kd.R_drew));exact HO_12.out) (Kd.R_base ho0) hb);have n1_:=Aside0.mk (Kd.R_lower (Kd.R_new' ho0 (Kd.R_lt (by (with_reducible repeat (first|apply Kd.R_alloc|apply Kd.R_drewN|apply Kd.R_drew));exact HO_12.out))) (below_size (by repeat (first|(with_reducible first|exact HB.out|apply below_alloc|apply pw_below_drewN|apply below_drew1)|exact HB.out))));have n2_:=Aside0.mk (below_step (by repeat (first|(with_reducible first|exact HB.out|apply below_alloc|apply pw_below_drewN|apply below_drew1)|exact HB.out)) hb);clear HO_12;clear HB;have HO_12:=n0_;have HO208:=n1_;have HB:=n2_;clear n0_ n1_ n2_;(try clear hb);(try clear hb2);(try clear hk);(try clear hi);(try clear ho0))|((with_reducible refine gate_dst (N:=14) rfl ?_);refine box_event ?hg (N:=14) ?hd (cs:=#[.int .i64 0,.int .i64 0,.string (⟨#[]⟩:ByteArray),.slice none 0 0]) (t:=27) ?hr ?_;(case hd=>rfl);(case hg=>rfl);(case hr=>first|(go_simp;done)|(go_simp;rfl));intro gb210 hg w12 hbox hb;have n0_:=Aside0.mk (Kd.R_below (Kd.R_elderB (by (with_reducible repeat (first|apply Kd.R_alloc|apply Kd.R_drewN|apply Kd.R_drew));exact HO_12.out) gb210 (Nat.le_of_eq hg.symm)) hb);have n1_:=Aside0.mk (Kd.R_below (Kd.R_elderB (by (with_reducible repeat (first|apply Kd.R_alloc|apply Kd.R_drewN|apply Kd.R_drew));exact HO208.out) gb210 (Nat.le_of_eq hg.symm)) hb);have n2_:=Aside0.mk (below_step (by repeat (first|(with_reducible first|exact HB.out|apply below_alloc|apply pw_below_drewN|apply below_drew1)|exact HB.out)) hb);have n3_:=Aside0.mk (hbox);have n4_:=Aside0.mk ((by rw [hg];exact (below_size (by repeat (first|(with_reducible first|exact HB.out|apply below_alloc|apply pw_below_drewN|apply below_drew1)|exact HB.out))):w.heap.size≤gb210));have n5_:=Aside0.mk ((by rw [hg];exact (below_size (by repeat (first|(with_reducible first|exact HB.out|apply below_alloc|apply pw_below_drewN|apply below_drew1)|exact HB.out))):w.heap.size≤gb210));clear HO_12;clear HO208;clear HB;have HO_12:=n0_;have HO208:=n1_;have HB:=n2_;have BK210:=n3_;have GW210:=n4_;have GE210:=n5_;clear n0_ n1_ n2_ n3_ n4_ n5_;clear hb hbox hg;have hcz13_0:w12.cell? ⟨gb210,0,none⟩=some (.int .i64 0):=(blk_cell BK210.out 0).trans rfl;have hcz13_1:w12.cell? ⟨gb210,1,none⟩=some (.int .i64 0):=(blk_cell BK210.out 1).trans rfl;have hcz13_2:w12.cell? ⟨gb210,2,none⟩=some (.string (⟨#[]⟩:ByteArray)):=(blk_cell BK210.out 2).trans rfl;have hcz13_3:w12.cell? ⟨gb210,3,none⟩=some (.slice none 0 0):=(blk_cell BK210.out 3).trans rfl;have hfz13_0:=blk_frozen BK210.out 0;have hfz13_1:=blk_frozen BK210.out 1;have hfz13_2:=blk_frozen BK210.out 2;have hfz13_3:=blk_frozen BK210.out 3;obtain ⟨Ao14,co14,eo14⟩:=Kd.R_slice HO208.out;subst eo14))
      go_ret2
      exact ⟨_,by first|rfl|(simp [errW_none,errW_some] <;> rfl)|(simp [*,errW_none,errW_some] <;> rfl),by (with_reducible repeat (first|apply Kd.R_alloc|apply Kd.R_drewN|apply Kd.R_drew));exact Kd.R_mono (Kd.R_far (p:=⟨gb210,3,none⟩) (Kd.R_far (p:=⟨gb210,2,none⟩) (Kd.R_far (p:=⟨gb210,1,none⟩) (Kd.R_far (p:=⟨gb210,0,none⟩) (Kd.R_mono HO_12.out (fun k_ hk=>(⟨hk,hk.2⟩:_∧k_≠gb210))) (fun _ hk=>hk.2) (.int .i64 t203)) (fun _ hk=>hk.2) (.int .i64 t204)) (fun _ hk=>hk.2) (.string t205)) (fun _ hk=>hk.2) (.slice Ao14 t206.length co14)) (fun _ hk=>trivial),by repeat (first|(with_reducible first|exact HB.out|apply below_alloc|apply pw_below_drewN|apply below_drew1|refine below_set ?_ GE210.out)|exact HB.out)⟩
     ·rw [if_neg c10] at H
      have c10b0:decide (t209<0)=false:=decide_eq_false c10
      clear c10
      by_cases c15:x12_1.length<2513169434916
      ·rw [if_pos c15] at H
       have LMc15:=Aside0.mk c15
       clear c15
       obtain ⟨y211,hy211⟩:∃ y_:List (SDoc),y_=(x12_1++[(⟨t203,t204,t205,t206⟩:SDoc)]):=⟨_,rfl⟩
       replace H:(spec_l1Inner.l0 k1 a0 t209 a2 a3 a4 y211 (wrap64 (x13_1+1)))=some (r1,r2):=by first|(rw [hy211];with_reducible exact H)|(have H2_:=(Option.bind_some _ _).symm.trans H;rw [hy211];with_reducible exact H2_)|(have H2_:=(Option.bind_some _ _).symm.trans H;with_reducible exact H2_)|with_reducible exact H|(rw [hy211];exact H)|exact H
       have Ny211:=Aside0.mk hy211
       clear hy211
       have H':=Aside0.mk H
       clear H
       go_wp2_with (first|((with_reducible refine gate_callee (f:=64) rfl ?_);refine goesL_ (some 27) rfl rfl Try.func64 (by kernel_rfl) rfl #[.string a0,.int .i64 x1_1,.int .i64 (wrap64 (a4 - 1))] rfl (by (try simp only [List.map_toArray,List.map_cons,List.map_nil]);first|done|rfl|(simp only [List.length_drop,List.length_take];rfl)) ?_;(with_reducible refine (ih_spec_l1Read k1 (by have:=HK1.out;omega) a0 x1_1 (wrap64 (a4 - 1)) t203 t204 t205 t206 t209 _ A9.out).mono ?_);rintro e w16 ⟨v207,rfl,ho0,hb⟩;refine ⟨_,rfl,?_⟩;have n0_:=Aside0.mk (Kd.R_elder' (by (with_reducible repeat (first|apply Kd.R_alloc|apply Kd.R_drewN|apply Kd.R_drew));exact HO_12.out) (Kd.R_base ho0) hb);have n1_:=Aside0.mk (Kd.R_lower (Kd.R_new' ho0 (Kd.R_lt (by (with_reducible repeat (first|apply Kd.R_alloc|apply Kd.R_drewN|apply Kd.R_drew));exact HO_12.out))) (below_size (by repeat (first|(with_reducible first|exact HB.out|apply below_alloc|apply pw_below_drewN|apply below_drew1)|exact HB.out))));have n2_:=Aside0.mk (below_step (by repeat (first|(with_reducible first|exact HB.out|apply below_alloc|apply pw_below_drewN|apply below_drew1)|exact HB.out)) hb);clear HO_12;clear HB;have HO_12:=n0_;have HO208:=n1_;have HB:=n2_;clear n0_ n1_ n2_;(try clear hb);(try clear hb2);(try clear hk);(try clear hi);(try clear ho0))|((with_reducible refine gate_dst (N:=14) rfl ?_);refine box_event ?hg (N:=14) ?hd (cs:=#[.int .i64 0,.int .i64 0,.string (⟨#[]⟩:ByteArray),.slice none 0 0]) (t:=27) ?hr ?_;(case hd=>rfl);(case hg=>rfl);(case hr=>first|(go_simp;done)|(go_simp;rfl));intro gb210 hg w17 hbox hb;have n0_:=Aside0.mk (Kd.R_below (Kd.R_elderB (by (with_reducible repeat (first|apply Kd.R_alloc|apply Kd.R_drewN|apply Kd.R_drew));exact HO_12.out) gb210 (Nat.le_of_eq hg.symm)) hb);have n1_:=Aside0.mk (Kd.R_below (Kd.R_elderB (by (with_reducible repeat (first|apply Kd.R_alloc|apply Kd.R_drewN|apply Kd.R_drew));exact HO208.out) gb210 (Nat.le_of_eq hg.symm)) hb);have n2_:=Aside0.mk (below_step (by repeat (first|(with_reducible first|exact HB.out|apply below_alloc|apply pw_below_drewN|apply below_drew1)|exact HB.out)) hb);have n3_:=Aside0.mk (hbox);have n4_:=Aside0.mk ((by rw [hg];exact (below_size (by repeat (first|(with_reducible first|exact HB.out|apply below_alloc|apply pw_below_drewN|apply below_drew1)|exact HB.out))):w.heap.size≤gb210));have n5_:=Aside0.mk ((by rw [hg];exact (below_size (by repeat (first|(with_reducible first|exact HB.out|apply below_alloc|apply pw_below_drewN|apply below_drew1)|exact HB.out))):w.heap.size≤gb210));clear HO_12;clear HO208;clear HB;have HO_12:=n0_;have HO208:=n1_;have HB:=n2_;have BK210:=n3_;have GW210:=n4_;have GE210:=n5_;clear n0_ n1_ n2_ n3_ n4_ n5_;clear hb hbox hg;have hcz18_0:w17.cell? ⟨gb210,0,none⟩=some (.int .i64 0):=(blk_cell BK210.out 0).trans rfl;have hcz18_1:w17.cell? ⟨gb210,1,none⟩=some (.int .i64 0):=(blk_cell BK210.out 1).trans rfl;have hcz18_2:w17.cell? ⟨gb210,2,none⟩=some (.string (⟨#[]⟩:ByteArray)):=(blk_cell BK210.out 2).trans rfl;have hcz18_3:w17.cell? ⟨gb210,3,none⟩=some (.slice none 0 0):=(blk_cell BK210.out 3).trans rfl;have hfz18_0:=blk_frozen BK210.out 0;have hfz18_1:=blk_frozen BK210.out 1;have hfz18_2:=blk_frozen BK210.out 2;have hfz18_3:=blk_frozen BK210.out 3;obtain ⟨Ao19,co19,eo19⟩:=Kd.R_slice HO208.out;subst eo19)|((with_reducible refine gate_store (t:=27) (p:=14) rfl ?_);refine store_event (t:=27) (p:=14) (v:=?vo_w20) (w1:=((((w17.setCell ⟨gb210,0,none⟩ (.int .i64 t203)).setCell ⟨gb210,1,none⟩ (.int .i64 t204)).setCell ⟨gb210,2,none⟩ (.string t205)).setCell ⟨gb210,3,none⟩ (.slice Ao19 t206.length co19))) ?hg ?ho ?hn ?hr ?_;(case ho=>rfl);(case hg=>rfl);(case hn=>rfl);(case hr=>first|(go_simp;done)|(go_simp;rfl));intro w20 hw;have n0_:Aside0 (Kd.R k27 27 w20 w.heap.size (fun k_=>some k_≠(.slice Ao19 t206.length co19:Value).ownBlock∧k_≠gb210) u12 x12_1):=⟨(by rw [hw];exact (by (with_reducible repeat (first|apply Kd.R_alloc|apply Kd.R_drewN|apply Kd.R_drew));exact Kd.R_mono (Kd.R_far (p:=⟨gb210,3,none⟩) (Kd.R_far (p:=⟨gb210,2,none⟩) (Kd.R_far (p:=⟨gb210,1,none⟩) (Kd.R_far (p:=⟨gb210,0,none⟩) (Kd.R_mono HO_12.out (fun k_ hk=>(⟨hk,hk.2⟩:_∧k_≠gb210))) (fun _ hk=>hk.2) (.int .i64 t203)) (fun _ hk=>hk.2) (.int .i64 t204)) (fun _ hk=>hk.2) (.string t205)) (fun _ hk=>hk.2) (.slice Ao19 t206.length co19)) (fun _ hk=>⟨hk.1.1.2,hk.1.2⟩)))⟩;have n1_:Aside0 (Kd.R k27 27 w20 w.heap.size (fun k_=>some k_≠(u12:Value).ownBlock∧k_≠gb210) (.slice Ao19 t206.length co19) t206):=⟨(by rw [hw];exact (by (with_reducible repeat (first|apply Kd.R_alloc|apply Kd.R_drewN|apply Kd.R_drew));exact Kd.R_mono (Kd.R_far (p:=⟨gb210,3,none⟩) (Kd.R_far (p:=⟨gb210,2,none⟩) (Kd.R_far (p:=⟨gb210,1,none⟩) (Kd.R_far (p:=⟨gb210,0,none⟩) (Kd.R_mono HO208.out (fun k_ hk=>(⟨hk,hk.2⟩:_∧k_≠gb210))) (fun _ hk=>hk.2) (.int .i64 t203)) (fun _ hk=>hk.2) (.int .i64 t204)) (fun _ hk=>hk.2) (.string t205)) (fun _ hk=>hk.2) (.slice Ao19 t206.length co19)) (fun _ hk=>⟨hk.1.1.2,hk.1.2⟩)))⟩;have n2_:Aside0 (w20.heap[gb210]?=some (.cells #[.int .i64 t203,.int .i64 t204,.string t205,.slice Ao19 t206.length co19] 27 (0,0))):=⟨(by rw [hw];exact (by (with_reducible repeat (first|refine blk_drewN ?_ _|refine blk_drew ?_|refine blk_alloc ?_ _));refine blk_put (cs:=#[.int .i64 t203,.int .i64 t204,.string t205,.slice none 0 0]) ?_ 3 _ rfl;(with_reducible repeat (first|refine blk_drewN ?_ _|refine blk_drew ?_|refine blk_alloc ?_ _));refine blk_put (cs:=#[.int .i64 t203,.int .i64 t204,.string (⟨#[]⟩:ByteArray),.slice none 0 0]) ?_ 2 _ rfl;(with_reducible repeat (first|refine blk_drewN ?_ _|refine blk_drew ?_|refine blk_alloc ?_ _));refine blk_put (cs:=#[.int .i64 t203,.int .i64 0,.string (⟨#[]⟩:ByteArray),.slice none 0 0]) ?_ 1 _ rfl;(with_reducible repeat (first|refine blk_drewN ?_ _|refine blk_drew ?_|refine blk_alloc ?_ _));refine blk_put (cs:=#[.int .i64 0,.int .i64 0,.string (⟨#[]⟩:ByteArray),.slice none 0 0]) ?_ 0 _ rfl;(with_reducible repeat (first|refine blk_drewN ?_ _|refine blk_drew ?_|refine blk_alloc ?_ _));exact BK210.out))⟩;have n3_:Aside0 (Below w.heap.size w w20):=⟨(by rw [hw];exact (by repeat (first|(with_reducible first|exact HB.out|apply below_alloc|apply pw_below_drewN|apply below_drew1|refine below_set ?_ GE210.out)|exact HB.out)))⟩;clear hw;clear HO_12;clear HO208;clear BK210;clear HB;have HO_12:=n0_;have HO208:=n1_;have BK210:=n2_;have HB:=n3_;clear n0_ n1_ n2_ n3_;have hcz21_0:w20.cell? ⟨gb210,0,none⟩=some (.int .i64 t203):=(blk_cell BK210.out 0).trans rfl;have hcz21_1:w20.cell? ⟨gb210,1,none⟩=some (.int .i64 t204):=(blk_cell BK210.out 1).trans rfl;have hcz21_2:w20.cell? ⟨gb210,2,none⟩=some (.string t205):=(blk_cell BK210.out 2).trans rfl;have hcz21_3:w20.cell? ⟨gb210,3,none⟩=some (.slice Ao19 t206.length co19):=(blk_cell BK210.out 3).trans rfl;have hfz21_0:=blk_frozen BK210.out 0;have hfz21_1:=blk_frozen BK210.out 1;have hfz21_2:=blk_frozen BK210.out 2;have hfz21_3:=blk_frozen BK210.out 3)|((with_reducible refine gate_builtin (b:=.append) (xs:=#[.tmp 33,.tmp 35]) rfl ?_);at_builtin;refine Kd.R_append k27 (w0:=w) w.heap.size rfl (.tmp 33) (.tmp 35) 25 27 (.agg #[(.int .i64 0),(.int .i64 0),(.string ⟨#[]⟩),(.slice none 0 0)]) 56 rfl Try.underlying25 info27 rfl (by decide) (by omega) u12 x12_1 (⟨t203,t204,t205,t206⟩:SDoc) [.int .i64 t203,.int .i64 t204,.string t205,.slice Ao19 t206.length co19] (fun k_=>k_≠gb210) (fun k_=>((fun k_=>k_≠gb210)) k_∧some k_≠(u12:Value).ownBlock) rfl rfl ?aP (fun _ hk=>hk) ?aF ?aO ?aB ?aS ?aL ?_;(case aP=>exact k27_mkM _ _ _ (⟨t203,t204,t205,t206⟩:SDoc) (Kd.R_mono (HO208.out) (fun k_ hk=>⟨hk.2,hk.1⟩)));(case aB=>exact (by repeat (first|(with_reducible first|exact HB.out|apply below_alloc|apply pw_below_drewN|apply below_drew1|refine below_set ?_ GE210.out)|exact HB.out)));(case aF=>exact (fun k_ hk=>Kd.freshB (g:=gb210) (o:=.cells #[.int .i64 t203,.int .i64 t204,.string t205,.slice Ao19 t206.length co19] 27 (0,0)) (by (with_reducible repeat (first|refine blk_drewN ?_ _|refine blk_drew ?_|refine blk_alloc ?_ _));exact BK210.out) k_ hk));(case aO=>exact (by (with_reducible repeat (first|apply Kd.R_alloc|apply Kd.R_drewN|apply Kd.R_drew));exact Kd.R_mono HO_12.out (fun _ hk=>hk.2)));(case aS=>exact (below_size (by repeat (first|(with_reducible first|exact HB.out|apply below_alloc|apply pw_below_drewN|apply below_drew1|refine below_set ?_ GE210.out)|exact HB.out))));(case aL=>have:=LMc15.out;omega);intro v212 w22 ho hb hg hat;rw [← Ny211.out] at ho;have n0_:=Aside0.mk (blk_grown (g:=gb210) (o:=.cells #[.int .i64 t203,.int .i64 t204,.string t205,.slice Ao19 t206.length co19] 27 (0,0)) (by (with_reducible repeat (first|refine blk_drewN ?_ _|refine blk_drew ?_|refine blk_alloc ?_ _));exact BK210.out) hg (Kd.R_away HO_12.out (fun _ hk=>hk.2)));have n1_:=Aside0.mk (hb);have n2_:=Aside0.mk (ho);clear BK210;clear HB;clear HO_12;clear HO208;have BK210:=n0_;have HB:=n1_;have HO213:=n2_;clear n0_ n1_ n2_;clear ho hb hg hat))
       go_roundg k1
       case measure=>have:=HK1.out;omega
       case rel=>exact ⟨(t209),(y211),(wrap64 (x13_1+1)),(by first|rfl|(simp;done)|(simp [*];done)),(by first|rfl|(simp;done)|(simp [*];done)),H',⟨by have:=HK1.out;omega⟩,⟨by (with_reducible repeat (first|apply Kd.R_alloc|apply Kd.R_drewN|apply Kd.R_drew));exact Kd.R_mono HO213.out (fun _ hk=>trivial)⟩,⟨by repeat (first|(with_reducible first|exact HB.out|apply below_alloc|apply pw_below_drewN|apply below_drew1|refine below_set ?_ GE210.out)|exact HB.out)⟩⟩
      ·rw [if_neg c15] at H
       exact absurd H (by simp)
    ·rw [if_neg c8] at H
     have c8b0:decide (x13_1<a2)=false:=decide_eq_false c8
     clear c8
     by_cases c23:x1_1≥(a0.size:Int)
     ·rw [if_pos c23] at H
      have c23b0:decide ((a0.size:Int)≤x1_1)=true:=decide_eq_true c23
      clear c23
      simp only [Option.some.injEq,Prod.mk.injEq] at H
      obtain ⟨rfl,rfl⟩:=H
      go_wp2
      go_ret2
      exact ⟨_,by first|rfl|(simp [errW_none,errW_some] <;> rfl)|(simp [*,errW_none,errW_some] <;> rfl),by (with_reducible repeat (first|apply Kd.R_alloc|apply Kd.R_drewN|apply Kd.R_drew));exact HO_12.out,by repeat (first|(with_reducible first|exact HB.out|apply below_alloc|apply pw_below_drewN|apply below_drew1)|exact HB.out)⟩
     ·rw [if_neg c23] at H
      have c23b0:decide ((a0.size:Int)≤x1_1)=false:=decide_eq_false c23
      clear c23
      by_cases c24:0≤x1_1
      ·rw [if_pos c24] at H
       have c24b0:decide (0≤x1_1)=true:=decide_eq_true c24
       clear c24
       by_cases c25:x1_1<(a0.size:Int)
       ·rw [if_pos c25] at H
        have c25b0:decide (x1_1<(a0.size:Int))=true:=decide_eq_true c25
        clear c25
        by_cases c27:(bt a0 x1_1)=a3
        ·rw [if_pos c27] at H
         have c27b0:((bt a0 x1_1) == a3)=true:=beq_iff_eq.mpr c27
         have c27b1:((bt a0 x1_1) != a3)=false:=bne_eq_false_iff_eq.mpr c27
         clear c27
         simp only [Option.some.injEq,Prod.mk.injEq] at H
         obtain ⟨rfl,rfl⟩:=H
         have p26:0≤(x1_1:Int):=of_decide_eq_true (by first|(with_reducible assumption)|assumption)
         have q26:x1_1<(a0.size:Int):=of_decide_eq_true (by first|(with_reducible assumption)|assumption)
         have hx26:=bt_at a0 x1_1
         replace p26:=eq_true p26
         replace q26:=eq_true q26
         go_wp2
         go_ret2
         exact ⟨_,by first|rfl|(simp [errW_none,errW_some] <;> rfl)|(simp [*,errW_none,errW_some] <;> rfl),by (with_reducible repeat (first|apply Kd.R_alloc|apply Kd.R_drewN|apply Kd.R_drew));exact HO_12.out,by repeat (first|(with_reducible first|exact HB.out|apply below_alloc|apply pw_below_drewN|apply below_drew1)|exact HB.out)⟩
        ·rw [if_neg c27] at H
         have c27b0:((bt a0 x1_1) == a3)=false:=beq_eq_false_iff_ne.mpr c27
         have c27b1:((bt a0 x1_1) != a3)=true:=bne_iff_ne.mpr c27
         simp only [Option.some.injEq,Prod.mk.injEq] at H
         obtain ⟨rfl,rfl⟩:=H
         have p26:0≤(x1_1:Int):=of_decide_eq_true (by first|(with_reducible assumption)|assumption)
         have q26:x1_1<(a0.size:Int):=of_decide_eq_true (by first|(with_reducible assumption)|assumption)
         have hx26:=bt_at a0 x1_1
         replace p26:=eq_true p26
         replace q26:=eq_true q26
         go_wp2
         go_ret2
         exact ⟨_,by first|rfl|(simp [errW_none,errW_some] <;> rfl)|(simp [*,errW_none,errW_some] <;> rfl),by (with_reducible repeat (first|apply Kd.R_alloc|apply Kd.R_drewN|apply Kd.R_drew));exact HO_12.out,by repeat (first|(with_reducible first|exact HB.out|apply below_alloc|apply pw_below_drewN|apply below_drew1)|exact HB.out)⟩
       ·rw [if_neg c25] at H
        exact absurd H (by simp)
      ·rw [if_neg c24] at H
       exact absurd H (by simp)
theorem spec_l1Read.calls (k:Nat):∀ (a0:ByteArray) (a1:Int) (a2:Int) (r1:Int) (r2:Int) (r3:ByteArray) (r4:List (SDoc)) (r5:Int) (w:World) (h:spec_l1Read.f k a0 a1 a2=some (r1,r2,r3,r4,r5)),
  Calls Try.prog 64 #[.string a0,.int .i64 a1,.int .i64 a2] w fun e w'=>∃ v3_:Value,e=.returned (.tuple #[.agg #[.int .i64 r1,.int .i64 r2,.string r3,v3_],.int .i64 r5])∧Kd.R k27 27 w' w.heap.size (fun _=>True) v3_ r4∧Below w.heap.size w w':=(spec_l1Read.calls_g k).1
end Go.Proofs.Ytdhdfmmefghijaa.P
namespace Go.Proofs.Ytdhdfmmefghijaa.P
open Go.RowKit Go.Proofs.YtdhdfmmefghijaaW.PrintWords Go.Proofs.YtdhdfmmefghijaaW.PrintLast Go.Proofs.YtdhdfmmefghijaaW.PrintMore
attribute [local go_sem] max2_int min2_int max_two min_two max_three min_three max_four min_four
set_option linter.unusedVariables false
set_option linter.unusedSimpArgs false
def spec_ParseDoc.f (k:Nat) (a0:ByteArray):Option (Int×Int×ByteArray×(List (SDoc))×Bool):=(spec_l1Read.f k a0 0 40).bind fun bt215=>(if bt215.2.2.2.2=(a0.size:Int) then ((spec_DocValid.f k bt215.1 bt215.2.1 bt215.2.2.1 bt215.2.2.2.1).bind fun t223=>(if t223=true then (some (bt215.1,bt215.2.1,bt215.2.2.1,bt215.2.2.2.1,true)) else (some (0,0,(⟨#[]⟩:ByteArray),([]:List (SDoc)),false)))) else (some (0,0,(⟨#[]⟩:ByteArray),([]:List (SDoc)),false)))
set_option maxHeartbeats 8000000 in
set_option maxRecDepth 100000 in
theorem spec_ParseDoc.calls (k:Nat) (a0:ByteArray) (r1:Int) (r2:Int) (r3:ByteArray) (r4:List (SDoc)) (r5:Bool) (w:World) (h:spec_ParseDoc.f k a0=some (r1,r2,r3,r4,r5)) :
  Calls Try.prog 43 #[.string a0] w fun e w'=>∃ v3_:Value,e=.returned (.tuple #[.agg #[.int .i64 r1,.int .i64 r2,.string r3,v3_],.bool r5])∧Kd.R k27 27 w' w.heap.size (fun _=>True) v3_ r4∧Below w.heap.size w w':=by
 have hu27:=Try.underlying27
 have HB:=Aside0.mk (Below.refl w.heap.size w)
 have H:((spec_l1Read.f k a0 0 40).bind fun bt215=>(if bt215.2.2.2.2=(a0.size:Int) then ((spec_DocValid.f k bt215.1 bt215.2.1 bt215.2.2.1 bt215.2.2.2.1).bind fun t223=>(if t223=true then (some (bt215.1,bt215.2.1,bt215.2.2.1,bt215.2.2.2.1,true)) else (some (0,0,(⟨#[]⟩:ByteArray),([]:List (SDoc)),false)))) else (some (0,0,(⟨#[]⟩:ByteArray),([]:List (SDoc)),false))))=some (r1,r2,r3,r4,r5):=h
 clear h
 replace H:=Option.bind_eq_some_iff.mp H
 obtain ⟨⟨t215,t216,t217,t218,t221⟩,A20,H⟩:=H
 replace H:(if t221=(a0.size:Int) then ((spec_DocValid.f k t215 t216 t217 t218).bind fun t223=>(if t223=true then (some (t215,t216,t217,t218,true)) else (some (0,0,(⟨#[]⟩:ByteArray),([]:List (SDoc)),false)))) else (some (0,0,(⟨#[]⟩:ByteArray),([]:List (SDoc)),false)))=some (r1,r2,r3,r4,r5):=H
 have A2:=Aside0.mk A20
 clear A20
 by_cases c3:t221=(a0.size:Int)
 ·rw [if_pos c3] at H
  have c3b0:(t221 == (a0.size:Int))=true:=beq_iff_eq.mpr c3
  have c3b1:(t221 != (a0.size:Int))=false:=bne_eq_false_iff_eq.mpr c3
  clear c3
  replace H:=Option.bind_eq_some_iff.mp H
  obtain ⟨t223,A40,H⟩:=H
  replace H:(if t223=true then (some (t215,t216,t217,t218,true)) else (some (0,0,(⟨#[]⟩:ByteArray),([]:List (SDoc)),false)))=some (r1,r2,r3,r4,r5):=H
  have A4:=Aside0.mk A40
  clear A40
  by_cases c5:t223=true
  ·subst c5
   have H1:(some (t215,t216,t217,t218,true))=some (r1,r2,r3,r4,r5):=by rw [if_pos rfl] at H;exact H
   clear H
   have H:=H1
   clear H1
   simp only [Option.some.injEq,Prod.mk.injEq] at H
   obtain ⟨rfl,rfl,rfl,rfl,rfl⟩:=H
   go_enter Try.func43,Try.ntmps43
   go_wp2_with (first|((with_reducible refine gate_dst (N:=2) rfl ?_);refine box_event ?hg (N:=2) ?hd (cs:=#[.int .i64 0,.int .i64 0,.string (⟨#[]⟩:ByteArray),.slice none 0 0]) (t:=27) ?hr ?_;(case hd=>rfl);(case hg=>rfl);(case hr=>first|(go_simp;done)|(go_simp;rfl));intro gb214 hg w6 hbox hb;have n0_:=Aside0.mk (below_step (by repeat (first|(with_reducible first|exact HB.out|apply below_alloc|apply pw_below_drewN|apply below_drew1)|exact HB.out)) hb);have n1_:=Aside0.mk (hbox);have n2_:=Aside0.mk ((by rw [hg];exact (below_size (by repeat (first|(with_reducible first|exact HB.out|apply below_alloc|apply pw_below_drewN|apply below_drew1)|exact HB.out))):w.heap.size≤gb214));have n3_:=Aside0.mk ((by rw [hg];exact (below_size (by repeat (first|(with_reducible first|exact HB.out|apply below_alloc|apply pw_below_drewN|apply below_drew1)|exact HB.out))):w.heap.size≤gb214));clear HB;have HB:=n0_;have BK214:=n1_;have GW214:=n2_;have GE214:=n3_;clear n0_ n1_ n2_ n3_;clear hb hbox hg)|((with_reducible refine gate_callee (f:=64) rfl ?_);refine goesL_ (some 8) rfl rfl Try.func64 (by kernel_rfl) rfl #[.string a0,.int .i64 0,.int .i64 40] rfl (by (try simp only [List.map_toArray,List.map_cons,List.map_nil]);first|done|rfl|(simp only [List.length_drop,List.length_take];rfl)) ?_;(with_reducible refine (spec_l1Read.calls k a0 0 40 t215 t216 t217 t218 t221 _ A2.out).mono ?_);rintro e w7 ⟨v219,rfl,ho0,hb⟩;refine ⟨_,rfl,?_⟩;have n0_:=Aside0.mk (Kd.R_lower (Kd.R_newB ho0 (g:=gb214) (o:=.cells #[.int .i64 0,.int .i64 0,.string (⟨#[]⟩:ByteArray),.slice none 0 0] 27 (0,0)) (by (with_reducible repeat (first|refine blk_drewN ?_ _|refine blk_drew ?_|refine blk_alloc ?_ _));exact BK214.out)) (below_size (by repeat (first|(with_reducible first|exact HB.out|apply below_alloc|apply pw_below_drewN|apply below_drew1|refine below_set ?_ GE214.out)|exact HB.out))));have n1_:=Aside0.mk (blk_below (g:=gb214) (o:=.cells #[.int .i64 0,.int .i64 0,.string (⟨#[]⟩:ByteArray),.slice none 0 0] 27 (0,0)) (by (with_reducible repeat (first|refine blk_drewN ?_ _|refine blk_drew ?_|refine blk_alloc ?_ _));exact BK214.out) hb);have n2_:=Aside0.mk (below_step (by repeat (first|(with_reducible first|exact HB.out|apply below_alloc|apply pw_below_drewN|apply below_drew1|refine below_set ?_ GE214.out)|exact HB.out)) hb);clear BK214;clear HB;have HO220:=n0_;have BK214:=n1_;have HB:=n2_;clear n0_ n1_ n2_;(try clear hb);(try clear hb2);(try clear hk);(try clear hi);(try clear ho0))|((with_reducible refine gate_dst (N:=4) rfl ?_);refine box_event ?hg (N:=4) ?hd (cs:=#[.int .i64 0,.int .i64 0,.string (⟨#[]⟩:ByteArray),.slice none 0 0]) (t:=27) ?hr ?_;(case hd=>rfl);(case hg=>rfl);(case hr=>first|(go_simp;done)|(go_simp;rfl));intro gb222 hg w8 hbox hb;have n0_:=Aside0.mk (Kd.R_below (Kd.R_elderB (by (with_reducible repeat (first|apply Kd.R_alloc|apply Kd.R_drewN|apply Kd.R_drew));exact HO220.out) gb222 (Nat.le_of_eq hg.symm)) hb);have n1_:=Aside0.mk (blk_below (g:=gb214) (o:=.cells #[.int .i64 0,.int .i64 0,.string (⟨#[]⟩:ByteArray),.slice none 0 0] 27 (0,0)) (by (with_reducible repeat (first|refine blk_drewN ?_ _|refine blk_drew ?_|refine blk_alloc ?_ _));exact BK214.out) hb);have n2_:=Aside0.mk (below_step (by repeat (first|(with_reducible first|exact HB.out|apply below_alloc|apply pw_below_drewN|apply below_drew1|refine below_set ?_ GE214.out)|exact HB.out)) hb);have n3_:=Aside0.mk (hbox);have n4_:=Aside0.mk ((by rw [hg];exact (below_size (by repeat (first|(with_reducible first|exact HB.out|apply below_alloc|apply pw_below_drewN|apply below_drew1|refine below_set ?_ GE214.out)|exact HB.out))):w.heap.size≤gb222));have n5_:=Aside0.mk ((by rw [hg];exact (below_size (by repeat (first|(with_reducible first|exact HB.out|apply below_alloc|apply pw_below_drewN|apply below_drew1|refine below_set ?_ GE214.out)|exact HB.out))):w.heap.size≤gb222));have n6_:=Aside0.mk ((by rw [hg];exact Nat.ne_of_lt (blk_lt (g:=gb214) (o:=.cells #[.int .i64 0,.int .i64 0,.string (⟨#[]⟩:ByteArray),.slice none 0 0] 27 (0,0)) (by (with_reducible repeat (first|refine blk_drewN ?_ _|refine blk_drew ?_|refine blk_alloc ?_ _));exact BK214.out)):gb214≠gb222));have n7_:=Aside0.mk ((by rw [hg];exact Nat.ne_of_gt (blk_lt (g:=gb214) (o:=.cells #[.int .i64 0,.int .i64 0,.string (⟨#[]⟩:ByteArray),.slice none 0 0] 27 (0,0)) (by (with_reducible repeat (first|refine blk_drewN ?_ _|refine blk_drew ?_|refine blk_alloc ?_ _));exact BK214.out)):gb222≠gb214));clear HO220;clear BK214;clear HB;have HO220:=n0_;have BK214:=n1_;have HB:=n2_;have BK222:=n3_;have GW222:=n4_;have GE222:=n5_;have NB214_222:=n6_;have NB222_214:=n7_;clear n0_ n1_ n2_ n3_ n4_ n5_ n6_ n7_;clear hb hbox hg;have hnb9:=NB222_214.out;have hnc9:=NB214_222.out;have hcz10_0:w8.cell? ⟨gb222,0,none⟩=some (.int .i64 0):=(blk_cell BK222.out 0).trans rfl;have hcz10_1:w8.cell? ⟨gb222,1,none⟩=some (.int .i64 0):=(blk_cell BK222.out 1).trans rfl;have hcz10_2:w8.cell? ⟨gb222,2,none⟩=some (.string (⟨#[]⟩:ByteArray)):=(blk_cell BK222.out 2).trans rfl;have hcz10_3:w8.cell? ⟨gb222,3,none⟩=some (.slice none 0 0):=(blk_cell BK222.out 3).trans rfl;have hfz10_0:=blk_frozen BK222.out 0;have hfz10_1:=blk_frozen BK222.out 1;have hfz10_2:=blk_frozen BK222.out 2;have hfz10_3:=blk_frozen BK222.out 3;obtain ⟨Ao11,co11,eo11⟩:=Kd.R_slice HO220.out;subst eo11)|(go_at_call 25;(with_reducible refine (spec_DocValid.calls k t215 t216 t217 _ _ t218 true _ ?side1 ?side2 A4.out).mono ?_);(case side1=>exact (Kd.R_reads' (e:=27) (base:=w.heap.size) (n:=t218.length) (c:=co11) (by (with_reducible repeat (first|apply Kd.R_alloc|apply Kd.R_drewN|apply Kd.R_drew));exact (Kd.R_mono (Kd.R_far (p:=⟨gb222,3,none⟩) (Kd.R_far (p:=⟨gb222,2,none⟩) (Kd.R_far (p:=⟨gb222,1,none⟩) (Kd.R_far (p:=⟨gb222,0,none⟩) (Kd.R_mono HO220.out (fun k_ hk=>(⟨hk,hk.2⟩:_∧k_≠gb222))) (fun _ hk=>hk.2) (.int .i64 t215)) (fun _ hk=>hk.2) (.int .i64 t216)) (fun _ hk=>hk.2) (.string t217)) (fun _ hk=>hk.2) (.slice Ao11 t218.length co11)) (fun _ h_=>h_.1)))).2.2);(case side2=>exact (Kd.R_reads' HO220.out).2.1);rintro e w12 ⟨rfl,hb⟩;have n0_:=Aside0.mk (Kd.R_below (by (with_reducible repeat (first|apply Kd.R_alloc|apply Kd.R_drewN|apply Kd.R_drew));exact (Kd.R_mono (Kd.R_far (p:=⟨gb222,3,none⟩) (Kd.R_far (p:=⟨gb222,2,none⟩) (Kd.R_far (p:=⟨gb222,1,none⟩) (Kd.R_far (p:=⟨gb222,0,none⟩) (Kd.R_mono HO220.out (fun k_ hk=>(⟨hk,hk.2⟩:_∧k_≠gb222))) (fun _ hk=>hk.2) (.int .i64 t215)) (fun _ hk=>hk.2) (.int .i64 t216)) (fun _ hk=>hk.2) (.string t217)) (fun _ hk=>hk.2) (.slice Ao11 t218.length co11)) (fun _ h_=>h_.1))) hb);have n1_:=Aside0.mk (blk_below (g:=gb214) (o:=.cells #[.int .i64 0,.int .i64 0,.string (⟨#[]⟩:ByteArray),.slice none 0 0] 27 (0,0)) (by (with_reducible repeat (first|refine blk_drewN ?_ _|refine blk_drew ?_|refine blk_alloc ?_ _));refine blk_far ?_ NB214_222.out _;(with_reducible repeat (first|refine blk_drewN ?_ _|refine blk_drew ?_|refine blk_alloc ?_ _));refine blk_far ?_ NB214_222.out _;(with_reducible repeat (first|refine blk_drewN ?_ _|refine blk_drew ?_|refine blk_alloc ?_ _));refine blk_far ?_ NB214_222.out _;(with_reducible repeat (first|refine blk_drewN ?_ _|refine blk_drew ?_|refine blk_alloc ?_ _));refine blk_far ?_ NB214_222.out _;(with_reducible repeat (first|refine blk_drewN ?_ _|refine blk_drew ?_|refine blk_alloc ?_ _));exact BK214.out) hb);have n2_:=Aside0.mk (blk_below (g:=gb222) (o:=.cells #[.int .i64 t215,.int .i64 t216,.string t217,.slice Ao11 t218.length co11] 27 (0,0)) (by (with_reducible repeat (first|refine blk_drewN ?_ _|refine blk_drew ?_|refine blk_alloc ?_ _));refine blk_put (cs:=#[.int .i64 t215,.int .i64 t216,.string t217,.slice none 0 0]) ?_ 3 _ rfl;(with_reducible repeat (first|refine blk_drewN ?_ _|refine blk_drew ?_|refine blk_alloc ?_ _));refine blk_put (cs:=#[.int .i64 t215,.int .i64 t216,.string (⟨#[]⟩:ByteArray),.slice none 0 0]) ?_ 2 _ rfl;(with_reducible repeat (first|refine blk_drewN ?_ _|refine blk_drew ?_|refine blk_alloc ?_ _));refine blk_put (cs:=#[.int .i64 t215,.int .i64 0,.string (⟨#[]⟩:ByteArray),.slice none 0 0]) ?_ 1 _ rfl;(with_reducible repeat (first|refine blk_drewN ?_ _|refine blk_drew ?_|refine blk_alloc ?_ _));refine blk_put (cs:=#[.int .i64 0,.int .i64 0,.string (⟨#[]⟩:ByteArray),.slice none 0 0]) ?_ 0 _ rfl;(with_reducible repeat (first|refine blk_drewN ?_ _|refine blk_drew ?_|refine blk_alloc ?_ _));exact BK222.out) hb);have n3_:=Aside0.mk (below_step (by repeat (first|(with_reducible first|exact HB.out|apply below_alloc|apply pw_below_drewN|apply below_drew1|refine below_set ?_ GE214.out|refine below_set ?_ GE222.out)|exact HB.out)) hb);clear HO220;clear BK214;clear BK222;clear HB;have HO220:=n0_;have BK214:=n1_;have BK222:=n2_;have HB:=n3_;clear n0_ n1_ n2_ n3_;(try clear hb);(try clear hb2);(try clear hk);(try clear hi);have hcz13_0:w12.cell? ⟨gb222,0,none⟩=some (.int .i64 t215):=(blk_cell BK222.out 0).trans rfl;have hcz13_1:w12.cell? ⟨gb222,1,none⟩=some (.int .i64 t216):=(blk_cell BK222.out 1).trans rfl;have hcz13_2:w12.cell? ⟨gb222,2,none⟩=some (.string t217):=(blk_cell BK222.out 2).trans rfl;have hcz13_3:w12.cell? ⟨gb222,3,none⟩=some (.slice Ao11 t218.length co11):=(blk_cell BK222.out 3).trans rfl;have hfz13_0:=blk_frozen BK222.out 0;have hfz13_1:=blk_frozen BK222.out 1;have hfz13_2:=blk_frozen BK222.out 2;have hfz13_3:=blk_frozen BK222.out 3;have hcz14_0:w12.cell? ⟨gb214,0,none⟩=some (.int .i64 0):=(blk_cell BK214.out 0).trans rfl;have hcz14_1:w12.cell? ⟨gb214,1,none⟩=some (.int .i64 0):=(blk_cell BK214.out 1).trans rfl;have hcz14_2:w12.cell? ⟨gb214,2,none⟩=some (.string (⟨#[]⟩:ByteArray)):=(blk_cell BK214.out 2).trans rfl;have hcz14_3:w12.cell? ⟨gb214,3,none⟩=some (.slice none 0 0):=(blk_cell BK214.out 3).trans rfl;have hfz14_0:=blk_frozen BK214.out 0;have hfz14_1:=blk_frozen BK214.out 1;have hfz14_2:=blk_frozen BK214.out 2;have hfz14_3:=blk_frozen BK214.out 3))
   refine bodyPost_ret (results_ct rfl _ _ gb214 27 #[.int .i64 t215,.int .i64 t216,.string t217,.slice Ao11 t218.length co11] (0,0) _ rfl (by (with_reducible repeat (first|refine blk_drewN ?_ _|refine blk_drew ?_|refine blk_alloc ?_ _));refine blk_put (cs:=#[.int .i64 t215,.int .i64 t216,.string t217,.slice none 0 0]) ?_ 3 _ rfl;(with_reducible repeat (first|refine blk_drewN ?_ _|refine blk_drew ?_|refine blk_alloc ?_ _));refine blk_put (cs:=#[.int .i64 t215,.int .i64 t216,.string (⟨#[]⟩:ByteArray),.slice none 0 0]) ?_ 2 _ rfl;(with_reducible repeat (first|refine blk_drewN ?_ _|refine blk_drew ?_|refine blk_alloc ?_ _));refine blk_put (cs:=#[.int .i64 t215,.int .i64 0,.string (⟨#[]⟩:ByteArray),.slice none 0 0]) ?_ 1 _ rfl;(with_reducible repeat (first|refine blk_drewN ?_ _|refine blk_drew ?_|refine blk_alloc ?_ _));refine blk_put (cs:=#[.int .i64 0,.int .i64 0,.string (⟨#[]⟩:ByteArray),.slice none 0 0]) ?_ 0 _ rfl;(with_reducible repeat (first|refine blk_drewN ?_ _|refine blk_drew ?_|refine blk_alloc ?_ _));exact BK214.out) Try.underlying27 rfl (by kernel_rfl)) rfl ?_
   exact ⟨_,by first|rfl|(simp [errW_none,errW_some] <;> rfl)|(simp [*,errW_none,errW_some] <;> rfl),by (with_reducible repeat (first|apply Kd.R_alloc|apply Kd.R_drewN|apply Kd.R_drew));exact Kd.R_mono (Kd.R_far (p:=⟨gb214,3,none⟩) (Kd.R_far (p:=⟨gb214,2,none⟩) (Kd.R_far (p:=⟨gb214,1,none⟩) (Kd.R_far (p:=⟨gb214,0,none⟩) (Kd.R_mono HO220.out (fun k_ hk=>(⟨hk,hk.1.2⟩:_∧k_≠gb214))) (fun _ hk=>hk.2) (.int .i64 t215)) (fun _ hk=>hk.2) (.int .i64 t216)) (fun _ hk=>hk.2) (.string t217)) (fun _ hk=>hk.2) (.slice Ao11 t218.length co11)) (fun _ hk=>trivial),by repeat (first|(with_reducible first|exact HB.out|apply below_alloc|apply pw_below_drewN|apply below_drew1|refine below_set ?_ GE214.out|refine below_set ?_ GE222.out)|exact HB.out)⟩
  ·replace c5:=Bool.eq_false_iff.mpr c5
   subst c5
   have H1:(some (0,0,(⟨#[]⟩:ByteArray),([]:List (SDoc)),false))=some (r1,r2,r3,r4,r5):=by rw [if_neg (show ¬ (false=true) by decide)] at H;exact H
   clear H
   have H:=H1
   clear H1
   simp only [Option.some.injEq,Prod.mk.injEq] at H
   obtain ⟨rfl,rfl,rfl,rfl,rfl⟩:=H
   go_enter Try.func43,Try.ntmps43
   go_wp2_with (first|((with_reducible refine gate_dst (N:=2) rfl ?_);refine box_event ?hg (N:=2) ?hd (cs:=#[.int .i64 0,.int .i64 0,.string (⟨#[]⟩:ByteArray),.slice none 0 0]) (t:=27) ?hr ?_;(case hd=>rfl);(case hg=>rfl);(case hr=>first|(go_simp;done)|(go_simp;rfl));intro gb214 hg w15 hbox hb;have n0_:=Aside0.mk (below_step (by repeat (first|(with_reducible first|exact HB.out|apply below_alloc|apply pw_below_drewN|apply below_drew1)|exact HB.out)) hb);have n1_:=Aside0.mk (hbox);have n2_:=Aside0.mk ((by rw [hg];exact (below_size (by repeat (first|(with_reducible first|exact HB.out|apply below_alloc|apply pw_below_drewN|apply below_drew1)|exact HB.out))):w.heap.size≤gb214));have n3_:=Aside0.mk ((by rw [hg];exact (below_size (by repeat (first|(with_reducible first|exact HB.out|apply below_alloc|apply pw_below_drewN|apply below_drew1)|exact HB.out))):w.heap.size≤gb214));clear HB;have HB:=n0_;have BK214:=n1_;have GW214:=n2_;have GE214:=n3_;clear n0_ n1_ n2_ n3_;clear hb hbox hg)|((with_reducible refine gate_callee (f:=64) rfl ?_);refine goesL_ (some 8) rfl rfl Try.func64 (by kernel_rfl) rfl #[.string a0,.int .i64 0,.int .i64 40] rfl (by (try simp only [List.map_toArray,List.map_cons,List.map_nil]);first|done|rfl|(simp only [List.length_drop,List.length_take];rfl)) ?_;(with_reducible refine (spec_l1Read.calls k a0 0 40 t215 t216 t217 t218 t221 _ A2.out).mono ?_);rintro e w16 ⟨v219,rfl,ho0,hb⟩;refine ⟨_,rfl,?_⟩;have n0_:=Aside0.mk (Kd.R_lower (Kd.R_newB ho0 (g:=gb214) (o:=.cells #[.int .i64 0,.int .i64 0,.string (⟨#[]⟩:ByteArray),.slice none 0 0] 27 (0,0)) (by (with_reducible repeat (first|refine blk_drewN ?_ _|refine blk_drew ?_|refine blk_alloc ?_ _));exact BK214.out)) (below_size (by repeat (first|(with_reducible first|exact HB.out|apply below_alloc|apply pw_below_drewN|apply below_drew1|refine below_set ?_ GE214.out)|exact HB.out))));have n1_:=Aside0.mk (blk_below (g:=gb214) (o:=.cells #[.int .i64 0,.int .i64 0,.string (⟨#[]⟩:ByteArray),.slice none 0 0] 27 (0,0)) (by (with_reducible repeat (first|refine blk_drewN ?_ _|refine blk_drew ?_|refine blk_alloc ?_ _));exact BK214.out) hb);have n2_:=Aside0.mk (below_step (by repeat (first|(with_reducible first|exact HB.out|apply below_alloc|apply pw_below_drewN|apply below_drew1|refine below_set ?_ GE214.out)|exact HB.out)) hb);clear BK214;clear HB;have HO220:=n0_;have BK214:=n1_;have HB:=n2_;clear n0_ n1_ n2_;(try clear hb);(try clear hb2);(try clear hk);(try clear hi);(try clear ho0))|((with_reducible refine gate_dst (N:=4) rfl ?_);refine box_event ?hg (N:=4) ?hd (cs:=#[.int .i64 0,.int .i64 0,.string (⟨#[]⟩:ByteArray),.slice none 0 0]) (t:=27) ?hr ?_;(case hd=>rfl);(case hg=>rfl);(case hr=>first|(go_simp;done)|(go_simp;rfl));intro gb222 hg w17 hbox hb;have n0_:=Aside0.mk (Kd.R_below (Kd.R_elderB (by (with_reducible repeat (first|apply Kd.R_alloc|apply Kd.R_drewN|apply Kd.R_drew));exact HO220.out) gb222 (Nat.le_of_eq hg.symm)) hb);have n1_:=Aside0.mk (blk_below (g:=gb214) (o:=.cells #[.int .i64 0,.int .i64 0,.string (⟨#[]⟩:ByteArray),.slice none 0 0] 27 (0,0)) (by (with_reducible repeat (first|refine blk_drewN ?_ _|refine blk_drew ?_|refine blk_alloc ?_ _));exact BK214.out) hb);have n2_:=Aside0.mk (below_step (by repeat (first|(with_reducible first|exact HB.out|apply below_alloc|apply pw_below_drewN|apply below_drew1|refine below_set ?_ GE214.out)|exact HB.out)) hb);have n3_:=Aside0.mk (hbox);have n4_:=Aside0.mk ((by rw [hg];exact (below_size (by repeat (first|(with_reducible first|exact HB.out|apply below_alloc|apply pw_below_drewN|apply below_drew1|refine below_set ?_ GE214.out)|exact HB.out))):w.heap.size≤gb222));have n5_:=Aside0.mk ((by rw [hg];exact (below_size (by repeat (first|(with_reducible first|exact HB.out|apply below_alloc|apply pw_below_drewN|apply below_drew1|refine below_set ?_ GE214.out)|exact HB.out))):w.heap.size≤gb222));have n6_:=Aside0.mk ((by rw [hg];exact Nat.ne_of_lt (blk_lt (g:=gb214) (o:=.cells #[.int .i64 0,.int .i64 0,.string (⟨#[]⟩:ByteArray),.slice none 0 0] 27 (0,0)) (by (with_reducible repeat (first|refine blk_drewN ?_ _|refine blk_drew ?_|refine blk_alloc ?_ _));exact BK214.out)):gb214≠gb222));have n7_:=Aside0.mk ((by rw [hg];exact Nat.ne_of_gt (blk_lt (g:=gb214) (o:=.cells #[.int .i64 0,.int .i64 0,.string (⟨#[]⟩:ByteArray),.slice none 0 0] 27 (0,0)) (by (with_reducible repeat (first|refine blk_drewN ?_ _|refine blk_drew ?_|refine blk_alloc ?_ _));exact BK214.out)):gb222≠gb214));clear HO220;clear BK214;clear HB;have HO220:=n0_;have BK214:=n1_;have HB:=n2_;have BK222:=n3_;have GW222:=n4_;have GE222:=n5_;have NB214_222:=n6_;have NB222_214:=n7_;clear n0_ n1_ n2_ n3_ n4_ n5_ n6_ n7_;clear hb hbox hg;have hnb18:=NB222_214.out;have hnc18:=NB214_222.out;have hcz19_0:w17.cell? ⟨gb222,0,none⟩=some (.int .i64 0):=(blk_cell BK222.out 0).trans rfl;have hcz19_1:w17.cell? ⟨gb222,1,none⟩=some (.int .i64 0):=(blk_cell BK222.out 1).trans rfl;have hcz19_2:w17.cell? ⟨gb222,2,none⟩=some (.string (⟨#[]⟩:ByteArray)):=(blk_cell BK222.out 2).trans rfl;have hcz19_3:w17.cell? ⟨gb222,3,none⟩=some (.slice none 0 0):=(blk_cell BK222.out 3).trans rfl;have hfz19_0:=blk_frozen BK222.out 0;have hfz19_1:=blk_frozen BK222.out 1;have hfz19_2:=blk_frozen BK222.out 2;have hfz19_3:=blk_frozen BK222.out 3;obtain ⟨Ao20,co20,eo20⟩:=Kd.R_slice HO220.out;subst eo20)|(go_at_call 25;(with_reducible refine (spec_DocValid.calls k t215 t216 t217 _ _ t218 false _ ?side1 ?side2 A4.out).mono ?_);(case side1=>exact (Kd.R_reads' (e:=27) (base:=w.heap.size) (n:=t218.length) (c:=co20) (by (with_reducible repeat (first|apply Kd.R_alloc|apply Kd.R_drewN|apply Kd.R_drew));exact (Kd.R_mono (Kd.R_far (p:=⟨gb222,3,none⟩) (Kd.R_far (p:=⟨gb222,2,none⟩) (Kd.R_far (p:=⟨gb222,1,none⟩) (Kd.R_far (p:=⟨gb222,0,none⟩) (Kd.R_mono HO220.out (fun k_ hk=>(⟨hk,hk.2⟩:_∧k_≠gb222))) (fun _ hk=>hk.2) (.int .i64 t215)) (fun _ hk=>hk.2) (.int .i64 t216)) (fun _ hk=>hk.2) (.string t217)) (fun _ hk=>hk.2) (.slice Ao20 t218.length co20)) (fun _ h_=>h_.1)))).2.2);(case side2=>exact (Kd.R_reads' HO220.out).2.1);rintro e w21 ⟨rfl,hb⟩;have n0_:=Aside0.mk (Kd.R_below (by (with_reducible repeat (first|apply Kd.R_alloc|apply Kd.R_drewN|apply Kd.R_drew));exact (Kd.R_mono (Kd.R_far (p:=⟨gb222,3,none⟩) (Kd.R_far (p:=⟨gb222,2,none⟩) (Kd.R_far (p:=⟨gb222,1,none⟩) (Kd.R_far (p:=⟨gb222,0,none⟩) (Kd.R_mono HO220.out (fun k_ hk=>(⟨hk,hk.2⟩:_∧k_≠gb222))) (fun _ hk=>hk.2) (.int .i64 t215)) (fun _ hk=>hk.2) (.int .i64 t216)) (fun _ hk=>hk.2) (.string t217)) (fun _ hk=>hk.2) (.slice Ao20 t218.length co20)) (fun _ h_=>h_.1))) hb);have n1_:=Aside0.mk (blk_below (g:=gb214) (o:=.cells #[.int .i64 0,.int .i64 0,.string (⟨#[]⟩:ByteArray),.slice none 0 0] 27 (0,0)) (by (with_reducible repeat (first|refine blk_drewN ?_ _|refine blk_drew ?_|refine blk_alloc ?_ _));refine blk_far ?_ NB214_222.out _;(with_reducible repeat (first|refine blk_drewN ?_ _|refine blk_drew ?_|refine blk_alloc ?_ _));refine blk_far ?_ NB214_222.out _;(with_reducible repeat (first|refine blk_drewN ?_ _|refine blk_drew ?_|refine blk_alloc ?_ _));refine blk_far ?_ NB214_222.out _;(with_reducible repeat (first|refine blk_drewN ?_ _|refine blk_drew ?_|refine blk_alloc ?_ _));refine blk_far ?_ NB214_222.out _;(with_reducible repeat (first|refine blk_drewN ?_ _|refine blk_drew ?_|refine blk_alloc ?_ _));exact BK214.out) hb);have n2_:=Aside0.mk (blk_below (g:=gb222) (o:=.cells #[.int .i64 t215,.int .i64 t216,.string t217,.slice Ao20 t218.length co20] 27 (0,0)) (by (with_reducible repeat (first|refine blk_drewN ?_ _|refine blk_drew ?_|refine blk_alloc ?_ _));refine blk_put (cs:=#[.int .i64 t215,.int .i64 t216,.string t217,.slice none 0 0]) ?_ 3 _ rfl;(with_reducible repeat (first|refine blk_drewN ?_ _|refine blk_drew ?_|refine blk_alloc ?_ _));refine blk_put (cs:=#[.int .i64 t215,.int .i64 t216,.string (⟨#[]⟩:ByteArray),.slice none 0 0]) ?_ 2 _ rfl;(with_reducible repeat (first|refine blk_drewN ?_ _|refine blk_drew ?_|refine blk_alloc ?_ _));refine blk_put (cs:=#[.int .i64 t215,.int .i64 0,.string (⟨#[]⟩:ByteArray),.slice none 0 0]) ?_ 1 _ rfl;(with_reducible repeat (first|refine blk_drewN ?_ _|refine blk_drew ?_|refine blk_alloc ?_ _));refine blk_put (cs:=#[.int .i64 0,.int .i64 0,.string (⟨#[]⟩:ByteArray),.slice none 0 0]) ?_ 0 _ rfl;(with_reducible repeat (first|refine blk_drewN ?_ _|refine blk_drew ?_|refine blk_alloc ?_ _));exact BK222.out) hb);have n3_:=Aside0.mk (below_step (by repeat (first|(with_reducible first|exact HB.out|apply below_alloc|apply pw_below_drewN|apply below_drew1|refine below_set ?_ GE214.out|refine below_set ?_ GE222.out)|exact HB.out)) hb);clear HO220;clear BK214;clear BK222;clear HB;have HO220:=n0_;have BK214:=n1_;have BK222:=n2_;have HB:=n3_;clear n0_ n1_ n2_ n3_;(try clear hb);(try clear hb2);(try clear hk);(try clear hi);have hcz22_0:w21.cell? ⟨gb214,0,none⟩=some (.int .i64 0):=(blk_cell BK214.out 0).trans rfl;have hcz22_1:w21.cell? ⟨gb214,1,none⟩=some (.int .i64 0):=(blk_cell BK214.out 1).trans rfl;have hcz22_2:w21.cell? ⟨gb214,2,none⟩=some (.string (⟨#[]⟩:ByteArray)):=(blk_cell BK214.out 2).trans rfl;have hcz22_3:w21.cell? ⟨gb214,3,none⟩=some (.slice none 0 0):=(blk_cell BK214.out 3).trans rfl;have hfz22_0:=blk_frozen BK214.out 0;have hfz22_1:=blk_frozen BK214.out 1;have hfz22_2:=blk_frozen BK214.out 2;have hfz22_3:=blk_frozen BK214.out 3))
   refine bodyPost_ret (results_ct rfl _ _ gb214 27 #[.int .i64 0,.int .i64 0,.string (⟨#[]⟩:ByteArray),.slice none 0 0] (0,0) _ rfl (by (with_reducible repeat (first|refine blk_drewN ?_ _|refine blk_drew ?_|refine blk_alloc ?_ _));refine blk_put (cs:=#[.int .i64 0,.int .i64 0,.string (⟨#[]⟩:ByteArray),.slice none 0 0]) ?_ 3 _ rfl;(with_reducible repeat (first|refine blk_drewN ?_ _|refine blk_drew ?_|refine blk_alloc ?_ _));refine blk_put (cs:=#[.int .i64 0,.int .i64 0,.string (⟨#[]⟩:ByteArray),.slice none 0 0]) ?_ 2 _ rfl;(with_reducible repeat (first|refine blk_drewN ?_ _|refine blk_drew ?_|refine blk_alloc ?_ _));refine blk_put (cs:=#[.int .i64 0,.int .i64 0,.string (⟨#[]⟩:ByteArray),.slice none 0 0]) ?_ 1 _ rfl;(with_reducible repeat (first|refine blk_drewN ?_ _|refine blk_drew ?_|refine blk_alloc ?_ _));refine blk_put (cs:=#[.int .i64 0,.int .i64 0,.string (⟨#[]⟩:ByteArray),.slice none 0 0]) ?_ 0 _ rfl;(with_reducible repeat (first|refine blk_drewN ?_ _|refine blk_drew ?_|refine blk_alloc ?_ _));exact BK214.out) Try.underlying27 rfl (by kernel_rfl)) rfl ?_
   exact ⟨_,by first|rfl|(simp [errW_none,errW_some] <;> rfl)|(simp [*,errW_none,errW_some] <;> rfl),by first|exact Kd.R_nil _ _ _ _ _|exact Kd.N_nil _ _ _ _ _|exact Kd.V_nil _ _ _ _ _|exact Kd.Q_nil _ _ _ _ _|exact Kd.S_nil _ _ _ _ _,by repeat (first|(with_reducible first|exact HB.out|apply below_alloc|apply pw_below_drewN|apply below_drew1|refine below_set ?_ GE214.out|refine below_set ?_ GE222.out)|exact HB.out)⟩
 ·rw [if_neg c3] at H
  have c3b0:(t221 == (a0.size:Int))=false:=beq_eq_false_iff_ne.mpr c3
  have c3b1:(t221 != (a0.size:Int))=true:=bne_iff_ne.mpr c3
  simp only [Option.some.injEq,Prod.mk.injEq] at H
  obtain ⟨rfl,rfl,rfl,rfl,rfl⟩:=H
  go_enter Try.func43,Try.ntmps43
  go_wp2_with (first|((with_reducible refine gate_dst (N:=2) rfl ?_);refine box_event ?hg (N:=2) ?hd (cs:=#[.int .i64 0,.int .i64 0,.string (⟨#[]⟩:ByteArray),.slice none 0 0]) (t:=27) ?hr ?_;(case hd=>rfl);(case hg=>rfl);(case hr=>first|(go_simp;done)|(go_simp;rfl));intro gb214 hg w23 hbox hb;have n0_:=Aside0.mk (below_step (by repeat (first|(with_reducible first|exact HB.out|apply below_alloc|apply pw_below_drewN|apply below_drew1)|exact HB.out)) hb);have n1_:=Aside0.mk (hbox);have n2_:=Aside0.mk ((by rw [hg];exact (below_size (by repeat (first|(with_reducible first|exact HB.out|apply below_alloc|apply pw_below_drewN|apply below_drew1)|exact HB.out))):w.heap.size≤gb214));have n3_:=Aside0.mk ((by rw [hg];exact (below_size (by repeat (first|(with_reducible first|exact HB.out|apply below_alloc|apply pw_below_drewN|apply below_drew1)|exact HB.out))):w.heap.size≤gb214));clear HB;have HB:=n0_;have BK214:=n1_;have GW214:=n2_;have GE214:=n3_;clear n0_ n1_ n2_ n3_;clear hb hbox hg)|((with_reducible refine gate_callee (f:=64) rfl ?_);refine goesL_ (some 8) rfl rfl Try.func64 (by kernel_rfl) rfl #[.string a0,.int .i64 0,.int .i64 40] rfl (by (try simp only [List.map_toArray,List.map_cons,List.map_nil]);first|done|rfl|(simp only [List.length_drop,List.length_take];rfl)) ?_;(with_reducible refine (spec_l1Read.calls k a0 0 40 t215 t216 t217 t218 t221 _ A2.out).mono ?_);rintro e w24 ⟨v219,rfl,ho0,hb⟩;refine ⟨_,rfl,?_⟩;have n0_:=Aside0.mk (Kd.R_lower (Kd.R_newB ho0 (g:=gb214) (o:=.cells #[.int .i64 0,.int .i64 0,.string (⟨#[]⟩:ByteArray),.slice none 0 0] 27 (0,0)) (by (with_reducible repeat (first|refine blk_drewN ?_ _|refine blk_drew ?_|refine blk_alloc ?_ _));exact BK214.out)) (below_size (by repeat (first|(with_reducible first|exact HB.out|apply below_alloc|apply pw_below_drewN|apply below_drew1|refine below_set ?_ GE214.out)|exact HB.out))));have n1_:=Aside0.mk (blk_below (g:=gb214) (o:=.cells #[.int .i64 0,.int .i64 0,.string (⟨#[]⟩:ByteArray),.slice none 0 0] 27 (0,0)) (by (with_reducible repeat (first|refine blk_drewN ?_ _|refine blk_drew ?_|refine blk_alloc ?_ _));exact BK214.out) hb);have n2_:=Aside0.mk (below_step (by repeat (first|(with_reducible first|exact HB.out|apply below_alloc|apply pw_below_drewN|apply below_drew1|refine below_set ?_ GE214.out)|exact HB.out)) hb);clear BK214;clear HB;have HO220:=n0_;have BK214:=n1_;have HB:=n2_;clear n0_ n1_ n2_;(try clear hb);(try clear hb2);(try clear hk);(try clear hi);(try clear ho0))|((with_reducible refine gate_dst (N:=4) rfl ?_);refine box_event ?hg (N:=4) ?hd (cs:=#[.int .i64 0,.int .i64 0,.string (⟨#[]⟩:ByteArray),.slice none 0 0]) (t:=27) ?hr ?_;(case hd=>rfl);(case hg=>rfl);(case hr=>first|(go_simp;done)|(go_simp;rfl));intro gb222 hg w25 hbox hb;have n0_:=Aside0.mk (Kd.R_below (Kd.R_elderB (by (with_reducible repeat (first|apply Kd.R_alloc|apply Kd.R_drewN|apply Kd.R_drew));exact HO220.out) gb222 (Nat.le_of_eq hg.symm)) hb);have n1_:=Aside0.mk (blk_below (g:=gb214) (o:=.cells #[.int .i64 0,.int .i64 0,.string (⟨#[]⟩:ByteArray),.slice none 0 0] 27 (0,0)) (by (with_reducible repeat (first|refine blk_drewN ?_ _|refine blk_drew ?_|refine blk_alloc ?_ _));exact BK214.out) hb);have n2_:=Aside0.mk (below_step (by repeat (first|(with_reducible first|exact HB.out|apply below_alloc|apply pw_below_drewN|apply below_drew1|refine below_set ?_ GE214.out)|exact HB.out)) hb);have n3_:=Aside0.mk (hbox);have n4_:=Aside0.mk ((by rw [hg];exact (below_size (by repeat (first|(with_reducible first|exact HB.out|apply below_alloc|apply pw_below_drewN|apply below_drew1|refine below_set ?_ GE214.out)|exact HB.out))):w.heap.size≤gb222));have n5_:=Aside0.mk ((by rw [hg];exact (below_size (by repeat (first|(with_reducible first|exact HB.out|apply below_alloc|apply pw_below_drewN|apply below_drew1|refine below_set ?_ GE214.out)|exact HB.out))):w.heap.size≤gb222));have n6_:=Aside0.mk ((by rw [hg];exact Nat.ne_of_lt (blk_lt (g:=gb214) (o:=.cells #[.int .i64 0,.int .i64 0,.string (⟨#[]⟩:ByteArray),.slice none 0 0] 27 (0,0)) (by (with_reducible repeat (first|refine blk_drewN ?_ _|refine blk_drew ?_|refine blk_alloc ?_ _));exact BK214.out)):gb214≠gb222));have n7_:=Aside0.mk ((by rw [hg];exact Nat.ne_of_gt (blk_lt (g:=gb214) (o:=.cells #[.int .i64 0,.int .i64 0,.string (⟨#[]⟩:ByteArray),.slice none 0 0] 27 (0,0)) (by (with_reducible repeat (first|refine blk_drewN ?_ _|refine blk_drew ?_|refine blk_alloc ?_ _));exact BK214.out)):gb222≠gb214));clear HO220;clear BK214;clear HB;have HO220:=n0_;have BK214:=n1_;have HB:=n2_;have BK222:=n3_;have GW222:=n4_;have GE222:=n5_;have NB214_222:=n6_;have NB222_214:=n7_;clear n0_ n1_ n2_ n3_ n4_ n5_ n6_ n7_;clear hb hbox hg;have hnb26:=NB222_214.out;have hnc26:=NB214_222.out;have hcz27_0:w25.cell? ⟨gb222,0,none⟩=some (.int .i64 0):=(blk_cell BK222.out 0).trans rfl;have hcz27_1:w25.cell? ⟨gb222,1,none⟩=some (.int .i64 0):=(blk_cell BK222.out 1).trans rfl;have hcz27_2:w25.cell? ⟨gb222,2,none⟩=some (.string (⟨#[]⟩:ByteArray)):=(blk_cell BK222.out 2).trans rfl;have hcz27_3:w25.cell? ⟨gb222,3,none⟩=some (.slice none 0 0):=(blk_cell BK222.out 3).trans rfl;have hfz27_0:=blk_frozen BK222.out 0;have hfz27_1:=blk_frozen BK222.out 1;have hfz27_2:=blk_frozen BK222.out 2;have hfz27_3:=blk_frozen BK222.out 3;obtain ⟨Ao28,co28,eo28⟩:=Kd.R_slice HO220.out;subst eo28;have hcz29_0:w25.cell? ⟨gb214,0,none⟩=some (.int .i64 0):=(blk_cell BK214.out 0).trans rfl;have hcz29_1:w25.cell? ⟨gb214,1,none⟩=some (.int .i64 0):=(blk_cell BK214.out 1).trans rfl;have hcz29_2:w25.cell? ⟨gb214,2,none⟩=some (.string (⟨#[]⟩:ByteArray)):=(blk_cell BK214.out 2).trans rfl;have hcz29_3:w25.cell? ⟨gb214,3,none⟩=some (.slice none 0 0):=(blk_cell BK214.out 3).trans rfl;have hfz29_0:=blk_frozen BK214.out 0;have hfz29_1:=blk_frozen BK214.out 1;have hfz29_2:=blk_frozen BK214.out 2;have hfz29_3:=blk_frozen BK214.out 3))
  refine bodyPost_ret (results_ct rfl _ _ gb214 27 #[.int .i64 0,.int .i64 0,.string (⟨#[]⟩:ByteArray),.slice none 0 0] (0,0) _ rfl (by (with_reducible repeat (first|refine blk_drewN ?_ _|refine blk_drew ?_|refine blk_alloc ?_ _));refine blk_put (cs:=#[.int .i64 0,.int .i64 0,.string (⟨#[]⟩:ByteArray),.slice none 0 0]) ?_ 3 _ rfl;(with_reducible repeat (first|refine blk_drewN ?_ _|refine blk_drew ?_|refine blk_alloc ?_ _));refine blk_put (cs:=#[.int .i64 0,.int .i64 0,.string (⟨#[]⟩:ByteArray),.slice none 0 0]) ?_ 2 _ rfl;(with_reducible repeat (first|refine blk_drewN ?_ _|refine blk_drew ?_|refine blk_alloc ?_ _));refine blk_put (cs:=#[.int .i64 0,.int .i64 0,.string (⟨#[]⟩:ByteArray),.slice none 0 0]) ?_ 1 _ rfl;(with_reducible repeat (first|refine blk_drewN ?_ _|refine blk_drew ?_|refine blk_alloc ?_ _));refine blk_put (cs:=#[.int .i64 0,.int .i64 0,.string (⟨#[]⟩:ByteArray),.slice none 0 0]) ?_ 0 _ rfl;(with_reducible repeat (first|refine blk_drewN ?_ _|refine blk_drew ?_|refine blk_alloc ?_ _));refine blk_far ?_ NB214_222.out _;(with_reducible repeat (first|refine blk_drewN ?_ _|refine blk_drew ?_|refine blk_alloc ?_ _));refine blk_far ?_ NB214_222.out _;(with_reducible repeat (first|refine blk_drewN ?_ _|refine blk_drew ?_|refine blk_alloc ?_ _));refine blk_far ?_ NB214_222.out _;(with_reducible repeat (first|refine blk_drewN ?_ _|refine blk_drew ?_|refine blk_alloc ?_ _));refine blk_far ?_ NB214_222.out _;(with_reducible repeat (first|refine blk_drewN ?_ _|refine blk_drew ?_|refine blk_alloc ?_ _));exact BK214.out) Try.underlying27 rfl (by kernel_rfl)) rfl ?_
  exact ⟨_,by first|rfl|(simp [errW_none,errW_some] <;> rfl)|(simp [*,errW_none,errW_some] <;> rfl),by first|exact Kd.R_nil _ _ _ _ _|exact Kd.N_nil _ _ _ _ _|exact Kd.V_nil _ _ _ _ _|exact Kd.Q_nil _ _ _ _ _|exact Kd.S_nil _ _ _ _ _,by repeat (first|(with_reducible first|exact HB.out|apply below_alloc|apply pw_below_drewN|apply below_drew1|refine below_set ?_ GE214.out|refine below_set ?_ GE222.out)|exact HB.out)⟩
end Go.Proofs.Ytdhdfmmefghijaa.P
namespace Go.Proofs.Ytdhdfmmefghijaa.P
open Go.RowKit Go.Proofs.YtdhdfmmefghijaaW.PrintWords Go.Proofs.YtdhdfmmefghijaaW.PrintLast Go.Proofs.YtdhdfmmefghijaaW.PrintMore
attribute [local go_sem] max2_int min2_int max_two min_two max_three min_three max_four min_four
set_option linter.unusedVariables false
set_option linter.unusedSimpArgs false
def spec_l1Word2.f (k:Nat) (s0_0:List Int) (s0_1:Int):Option (ByteArray×Int):=(spec_l15Rd_of.f k s0_0 s0_1 (([(⟨#[97]⟩:ByteArray),(⟨#[98,98]⟩:ByteArray),(⟨#[99,99,99]⟩:ByteArray),(⟨#[100,100,100,100]⟩:ByteArray),(⟨#[102,40]⟩:ByteArray),(⟨#[41]⟩:ByteArray),(⟨#[44]⟩:ByteArray),(⟨#[120,61,49]⟩:ByteArray),(⟨#[97,98,99,100,101,102,103,104]⟩:ByteArray),(⟨#[101]⟩:ByteArray)]:List ByteArray))).bind fun bt227=>(some (bt227.1,bt227.2))
set_option maxHeartbeats 8000000 in
set_option maxRecDepth 100000 in
theorem spec_l1Word2.calls (k:Nat) (g:Nat) (s0_0:List Int) (s0_1:Int) (r1:ByteArray) (r2:Int) (w0 w:World) (hI:IsS66 w0 w g s0_0 s0_1) (hB:Below w0.heap.size w0 w) (h:spec_l1Word2.f k s0_0 s0_1=some (r1,r2)) :
  Calls Try.prog 46 #[.pointer (some ⟨g,0,none⟩)] w fun e w'=>e=.returned (.string r1)∧IsS66 w0 w' g s0_0 r2∧Below w0.heap.size w0 w'∧KeepBut w w' g none:=by
 have HI0:=Aside0.mk hI
 have HK:=Aside0.mk (KeepBut.refl w g none)
 have HL:=Aside0.mk hB.size
 clear hI
 have HW0:=Aside0.mk hB.size
 have HB:=Aside0.mk hB
 clear hB
 have H:((spec_l15Rd_of.f k s0_0 s0_1 (([(⟨#[97]⟩:ByteArray),(⟨#[98,98]⟩:ByteArray),(⟨#[99,99,99]⟩:ByteArray),(⟨#[100,100,100,100]⟩:ByteArray),(⟨#[102,40]⟩:ByteArray),(⟨#[41]⟩:ByteArray),(⟨#[44]⟩:ByteArray),(⟨#[120,61,49]⟩:ByteArray),(⟨#[97,98,99,100,101,102,103,104]⟩:ByteArray),(⟨#[101]⟩:ByteArray)]:List ByteArray))).bind fun bt227=>(some (bt227.1,bt227.2)))=some (r1,r2):=h
 clear h
 obtain ⟨y224,hy224⟩:∃ y_:List ByteArray,y_=(([(⟨#[97]⟩:ByteArray),(⟨#[98,98]⟩:ByteArray),(⟨#[99,99,99]⟩:ByteArray),(⟨#[100,100,100,100]⟩:ByteArray),(⟨#[102,40]⟩:ByteArray),(⟨#[41]⟩:ByteArray),(⟨#[44]⟩:ByteArray),(⟨#[120,61,49]⟩:ByteArray),(⟨#[97,98,99,100,101,102,103,104]⟩:ByteArray),(⟨#[101]⟩:ByteArray)]:List ByteArray)):=⟨_,rfl⟩
 replace H:((spec_l15Rd_of.f k s0_0 s0_1 y224).bind fun bt227=>(some (bt227.1,bt227.2)))=some (r1,r2):=by first|(rw [hy224];with_reducible exact H)|(have H2_:=(Option.bind_some _ _).symm.trans H;rw [hy224];with_reducible exact H2_)|(have H2_:=(Option.bind_some _ _).symm.trans H;with_reducible exact H2_)|with_reducible exact H|(rw [hy224];exact H)|exact H
 have Ny224:=Aside0.mk hy224
 clear hy224
 replace H:=Option.bind_eq_some_iff.mp H
 obtain ⟨⟨t227,t228⟩,A20,H⟩:=H
 replace H:(some (t227,t228))=some (r1,r2):=H
 have A2:=Aside0.mk A20
 clear A20
 simp only [Option.some.injEq,Prod.mk.injEq] at H
 obtain ⟨rfl,rfl⟩:=H
 go_enter Try.func46,Try.ntmps46
 go_wp2_with (first|((with_reducible refine gate_dst (N:=4) rfl ?_);refine Kd.R_lit Kd.string _ 9 ?hg (N:=4) ?hd (xs:=([(⟨#[97]⟩:ByteArray),(⟨#[98,98]⟩:ByteArray),(⟨#[99,99,99]⟩:ByteArray),(⟨#[100,100,100,100]⟩:ByteArray),(⟨#[102,40]⟩:ByteArray),(⟨#[41]⟩:ByteArray),(⟨#[44]⟩:ByteArray),(⟨#[120,61,49]⟩:ByteArray),(⟨#[97,98,99,100,101,102,103,104]⟩:ByteArray),(⟨#[101]⟩:ByteArray)]:List ByteArray)) (inner:=[.string (⟨#[97]⟩:ByteArray),.string (⟨#[98,98]⟩:ByteArray),.string (⟨#[99,99,99]⟩:ByteArray),.string (⟨#[100,100,100,100]⟩:ByteArray),.string (⟨#[102,40]⟩:ByteArray),.string (⟨#[41]⟩:ByteArray),.string (⟨#[44]⟩:ByteArray),.string (⟨#[120,61,49]⟩:ByteArray),.string (⟨#[97,98,99,100,101,102,103,104]⟩:ByteArray),.string (⟨#[101]⟩:ByteArray)]) (ok:=fun _=>True) (okp:=fun _=>True) ?hr ?hp (fun _ hk=>hk) trivial (Below.refl _ _) (Nat.le_refl _) (by simp) ?_;(case hd=>rfl);(case hg=>rfl);(case hr=>first|(go_simp;done)|(go_simp;rfl));(case hp=>exact (Reps.one (show Kd.M Kd.string _ _ _ (⟨#[97]⟩:ByteArray) [.string (⟨#[97]⟩:ByteArray)] from rfl) (Reps.one (show Kd.M Kd.string _ _ _ (⟨#[98,98]⟩:ByteArray) [.string (⟨#[98,98]⟩:ByteArray)] from rfl) (Reps.one (show Kd.M Kd.string _ _ _ (⟨#[99,99,99]⟩:ByteArray) [.string (⟨#[99,99,99]⟩:ByteArray)] from rfl) (Reps.one (show Kd.M Kd.string _ _ _ (⟨#[100,100,100,100]⟩:ByteArray) [.string (⟨#[100,100,100,100]⟩:ByteArray)] from rfl) (Reps.one (show Kd.M Kd.string _ _ _ (⟨#[102,40]⟩:ByteArray) [.string (⟨#[102,40]⟩:ByteArray)] from rfl) (Reps.one (show Kd.M Kd.string _ _ _ (⟨#[41]⟩:ByteArray) [.string (⟨#[41]⟩:ByteArray)] from rfl) (Reps.one (show Kd.M Kd.string _ _ _ (⟨#[44]⟩:ByteArray) [.string (⟨#[44]⟩:ByteArray)] from rfl) (Reps.one (show Kd.M Kd.string _ _ _ (⟨#[120,61,49]⟩:ByteArray) [.string (⟨#[120,61,49]⟩:ByteArray)] from rfl) (Reps.one (show Kd.M Kd.string _ _ _ (⟨#[97,98,99,100,101,102,103,104]⟩:ByteArray) [.string (⟨#[97,98,99,100,101,102,103,104]⟩:ByteArray)] from rfl) (Reps.one (show Kd.M Kd.string _ _ _ (⟨#[101]⟩:ByteArray) [.string (⟨#[101]⟩:ByteArray)] from rfl) (Reps.none _ _))))))))))));intro v225 w3 ho4 hb hg_ hnew_;clear hg_ hnew_;(first|rw [← Ny224.out] at ho4|(simp only [Int.reduceToNat] at ho4;rw [← Ny224.out] at ho4));have n0_:=Aside0.mk (Kd.R_lower ho4 (keep_size (w:=w) (g:=g) (row:=none) (by repeat (first|(with_reducible first|exact HK.out|apply KeepBut.set_|apply keep_drewN|apply keep_drew|apply keep_alloc)|exact HK.out))));have n1_:=Aside0.mk (IsS66.below (by repeat (first|(with_reducible first|exact HI0.out|apply IsS66.alloc|apply IsS66.drewN|apply IsS66.drew|apply IsS66.set_1)|exact HI0.out)) hb);have n2_:=Aside0.mk (KeepBut.trans (by repeat (first|(with_reducible first|exact HK.out|apply KeepBut.set_|apply keep_drewN|apply keep_drew|apply keep_alloc)|exact HK.out)) (KeepBut.of_below hb g none) (.inl rfl));have n3_:=Aside0.mk (below_step (by repeat (first|(with_reducible first|exact HB.out|apply below_alloc|apply pw_below_drewN|apply below_drew1|refine below_set ?_ (IsS66.ge HI0.out))|exact HB.out)) hb);clear HI0;clear HK;clear HB;have HO226:=n0_;have HI0:=n1_;have HK:=n2_;have HB:=n3_;clear n0_ n1_ n2_ n3_;clear hb ho4;obtain ⟨Ao5,co5,eo5⟩:=Kd.R_slice HO226.out;subst eo5)|((with_reducible refine gate_callee (f:=65) rfl ?_);refine goesL_ (some 5) rfl rfl Try.func65 (by kernel_rfl) rfl #[.pointer (some ⟨g,0,none⟩),.slice Ao5 y224.length co5] rfl (by (try simp only [List.map_toArray,List.map_cons,List.map_nil]);first|done|rfl|(simp only [List.length_drop,List.length_take];rfl)) ?_;(with_reducible refine (spec_l15Rd_of.calls k g s0_0 s0_1 _ _ y224 t227 t228 w0 _ ?side1 ?side2 ?side3 ?side4 ?side5 A2.out).mono ?_);(case side1=>repeat (first|(with_reducible first|exact HI0.out|apply IsS66.alloc|apply IsS66.drewN|apply IsS66.drew|apply IsS66.set_1)|exact HI0.out));(case side2=>repeat (first|(with_reducible first|exact HB.out|apply below_alloc|apply pw_below_drewN|apply below_drew1|refine below_set ?_ (IsS66.ge HI0.out))|exact HB.out));(case side3=>repeat (first|exact (Kd.R_reads' HO226.out).2.2|(with_reducible refine Kd.C_alloc ?_ _)|(with_reducible refine Kd.C_drewN ?_ _)|(with_reducible refine Kd.C_drew ?_)));(case side4=>exact (Kd.R_reads' HO226.out).2.1);(case side5=>exact far_slice (IsS66.own_ne HI0.out HO226.out (by decide)));rintro e w6 ⟨rfl,hi,hb,hk⟩;refine ⟨_,rfl,?_⟩;have n0_:=Aside0.mk (Kd.R_mono (Kd.R_keep (IsS66.apart (show IsS66 w0 _ g s0_0 s0_1 from by repeat (first|(with_reducible first|exact HI0.out|apply IsS66.alloc|apply IsS66.drewN|apply IsS66.drew|apply IsS66.set_1)|exact HI0.out)) (by (with_reducible repeat (first|apply Kd.R_alloc|apply Kd.R_drewN|apply Kd.R_drew));exact HO226.out) (by decide)) hk (fun _ h=>h.2)) (fun _ h=>h.1));have n1_:=Aside0.mk (KeepBut.trans (by repeat (first|(with_reducible first|exact HK.out|apply KeepBut.set_|apply keep_drewN|apply keep_drew|apply keep_alloc)|exact HK.out)) hk (.inl rfl));have n2_:=Aside0.mk (hb);have n3_:=Aside0.mk (hi);clear HO226;clear HK;clear HB;clear HI0;have HO226:=n0_;have HK:=n1_;have HB:=n2_;have HI0:=n3_;clear n0_ n1_ n2_ n3_;(try clear hb);(try clear hb2);(try clear hk);(try clear hi)))
 go_ret
 exact ⟨by first|rfl|(simp [errW_none,errW_some] <;> rfl)|(simp [*,errW_none,errW_some] <;> rfl),by repeat (first|(with_reducible first|exact HI0.out|apply IsS66.alloc|apply IsS66.drewN|apply IsS66.drew|apply IsS66.set_1)|exact HI0.out),by repeat (first|(with_reducible first|exact HB.out|apply below_alloc|apply pw_below_drewN|apply below_drew1|refine below_set ?_ (IsS66.ge HI0.out))|exact HB.out),by repeat (first|(with_reducible first|exact HK.out|apply KeepBut.set_|apply keep_drewN|apply keep_drew|apply keep_alloc)|exact HK.out)⟩
end Go.Proofs.Ytdhdfmmefghijaa.P
namespace Go.Proofs.Ytdhdfmmefghijaa.P
open Go.RowKit Go.Proofs.YtdhdfmmefghijaaW.PrintWords Go.Proofs.YtdhdfmmefghijaaW.PrintLast Go.Proofs.YtdhdfmmefghijaaW.PrintMore
attribute [local go_sem] max2_int min2_int max_two min_two max_three min_three max_four min_four
set_option linter.unusedVariables false
set_option linter.unusedSimpArgs false
def spec_l1Cat.f (a0_0:Int) (a0_1:Int) (a0_2:ByteArray) (l0_3:List (SDoc)) (a1_0:Int) (a1_1:Int) (a1_2:ByteArray) (l1_3:List (SDoc)):Option (Int×Int×ByteArray×(List (SDoc))):=some (7,0,(⟨#[]⟩:ByteArray),(([(⟨a0_0,a0_1,a0_2,l0_3⟩:SDoc),(⟨a1_0,a1_1,a1_2,l1_3⟩:SDoc)]:List (SDoc))))
set_option maxHeartbeats 8000000 in
set_option maxRecDepth 100000 in
theorem spec_l1Cat.calls (a0_0:Int) (a0_1:Int) (a0_2:ByteArray) (P0_3_:Nat→Prop) (A0_3:Option Addr) (c0_3:Nat) (l0_3:List (SDoc)) (a1_0:Int) (a1_1:Int) (a1_2:ByteArray) (P1_3_:Nat→Prop) (A1_3:Option Addr) (c1_3:Nat) (l1_3:List (SDoc)) (r1:Int) (r2:Int) (r3:ByteArray) (r4:List (SDoc)) (w:World) (hs0_3:Kd.V k27 27 w w.heap.size (fun k_=>P0_3_ k_) (.slice A0_3 l0_3.length c0_3) l0_3) (hs1_3:Kd.V k27 27 w w.heap.size (fun k_=>P1_3_ k_) (.slice A1_3 l1_3.length c1_3) l1_3) (h:spec_l1Cat.f a0_0 a0_1 a0_2 l0_3 a1_0 a1_1 a1_2 l1_3=some (r1,r2,r3,r4)) :
  Calls Try.prog 58 #[.agg #[.int .i64 a0_0,.int .i64 a0_1,.string a0_2,.slice A0_3 l0_3.length c0_3],.agg #[.int .i64 a1_0,.int .i64 a1_1,.string a1_2,.slice A1_3 l1_3.length c1_3]] w fun e w'=>∃ v3_:Value,e=.returned (.agg #[.int .i64 r1,.int .i64 r2,.string r3,v3_])∧Kd.N k27 27 w' w.heap.size (fun k_=>((P0_3_ k_∨P1_3_ k_)∨w.heap.size≤k_)) v3_ r4∧Below w.heap.size w w':=by
 have hu27:=Try.underlying27
 have HO0_3:=Aside0.mk (show Kd.V k27 27 w w.heap.size (fun k_=>((P0_3_ k_∨P1_3_ k_)∨w.heap.size≤k_)) (.slice A0_3 l0_3.length c0_3) l0_3 from Kd.V_mono hs0_3 (fun k_ hk=>.inl (.inl hk)))
 have HO1_3:=Aside0.mk (show Kd.V k27 27 w w.heap.size (fun k_=>((P0_3_ k_∨P1_3_ k_)∨w.heap.size≤k_)) (.slice A1_3 l1_3.length c1_3) l1_3 from Kd.V_mono hs1_3 (fun k_ hk=>.inl (.inr hk)))
 have HB:=Aside0.mk (Below.refl w.heap.size w)
 have H:(some (7,0,(⟨#[]⟩:ByteArray),(([(⟨a0_0,a0_1,a0_2,l0_3⟩:SDoc),(⟨a1_0,a1_1,a1_2,l1_3⟩:SDoc)]:List (SDoc)))))=some (r1,r2,r3,r4):=h
 clear h
 obtain ⟨y232,hy232⟩:∃ y_:List (SDoc),y_=(([(⟨a0_0,a0_1,a0_2,l0_3⟩:SDoc),(⟨a1_0,a1_1,a1_2,l1_3⟩:SDoc)]:List (SDoc))):=⟨_,rfl⟩
 replace H:(some (7,0,(⟨#[]⟩:ByteArray),y232))=some (r1,r2,r3,r4):=by first|(rw [hy232];with_reducible exact H)|(have H2_:=(Option.bind_some _ _).symm.trans H;rw [hy232];with_reducible exact H2_)|(have H2_:=(Option.bind_some _ _).symm.trans H;with_reducible exact H2_)|with_reducible exact H|(rw [hy232];exact H)|exact H
 have Ny232:=Aside0.mk hy232
 clear hy232
 simp only [Option.some.injEq,Prod.mk.injEq] at H
 obtain ⟨rfl,rfl,rfl,rfl⟩:=H
 go_enter Try.func58,Try.ntmps58
 go_wp2_with (first|((with_reducible refine gate_dst (N:=2) rfl ?_);refine box_event ?hg (N:=2) ?hd (cs:=#[.int .i64 a0_0,.int .i64 a0_1,.string a0_2,.slice A0_3 l0_3.length c0_3]) (t:=27) ?hr ?_;(case hd=>rfl);(case hg=>rfl);(case hr=>first|(go_simp;done)|(go_simp;rfl));intro gb229 hg w3 hbox hb;have n0_:=Aside0.mk (Kd.V_below (Kd.V_elderB (by (with_reducible repeat (first|apply Kd.V_alloc|apply Kd.V_drewN|apply Kd.V_drew));exact HO0_3.out) gb229 (Nat.le_of_eq hg.symm)) hb);have n1_:=Aside0.mk (Kd.V_below (Kd.V_elderB (by (with_reducible repeat (first|apply Kd.V_alloc|apply Kd.V_drewN|apply Kd.V_drew));exact HO1_3.out) gb229 (Nat.le_of_eq hg.symm)) hb);have n2_:=Aside0.mk (below_step (by repeat (first|(with_reducible first|exact HB.out|apply below_alloc|apply pw_below_drewN|apply below_drew1)|exact HB.out)) hb);have n3_:=Aside0.mk (hbox);have n4_:=Aside0.mk ((by rw [hg];exact (below_size (by repeat (first|(with_reducible first|exact HB.out|apply below_alloc|apply pw_below_drewN|apply below_drew1)|exact HB.out))):w.heap.size≤gb229));have n5_:=Aside0.mk ((by rw [hg];exact (below_size (by repeat (first|(with_reducible first|exact HB.out|apply below_alloc|apply pw_below_drewN|apply below_drew1)|exact HB.out))):w.heap.size≤gb229));clear HO0_3;clear HO1_3;clear HB;have HO0_3:=n0_;have HO1_3:=n1_;have HB:=n2_;have BK229:=n3_;have GW229:=n4_;have GE229:=n5_;clear n0_ n1_ n2_ n3_ n4_ n5_;clear hb hbox hg)|((with_reducible refine gate_dst (N:=3) rfl ?_);refine box_event ?hg (N:=3) ?hd (cs:=#[.int .i64 a1_0,.int .i64 a1_1,.string a1_2,.slice A1_3 l1_3.length c1_3]) (t:=27) ?hr ?_;(case hd=>rfl);(case hg=>rfl);(case hr=>first|(go_simp;done)|(go_simp;rfl));intro gb230 hg w4 hbox hb;have n0_:=Aside0.mk (Kd.V_below (Kd.V_elderB (by (with_reducible repeat (first|apply Kd.V_alloc|apply Kd.V_drewN|apply Kd.V_drew));exact HO0_3.out) gb230 (Nat.le_of_eq hg.symm)) hb);have n1_:=Aside0.mk (Kd.V_below (Kd.V_elderB (by (with_reducible repeat (first|apply Kd.V_alloc|apply Kd.V_drewN|apply Kd.V_drew));exact HO1_3.out) gb230 (Nat.le_of_eq hg.symm)) hb);have n2_:=Aside0.mk (blk_below (g:=gb229) (o:=.cells #[.int .i64 a0_0,.int .i64 a0_1,.string a0_2,.slice A0_3 l0_3.length c0_3] 27 (0,0)) (by (with_reducible repeat (first|refine blk_drewN ?_ _|refine blk_drew ?_|refine blk_alloc ?_ _));exact BK229.out) hb);have n3_:=Aside0.mk (below_step (by repeat (first|(with_reducible first|exact HB.out|apply below_alloc|apply pw_below_drewN|apply below_drew1|refine below_set ?_ GE229.out)|exact HB.out)) hb);have n4_:=Aside0.mk (hbox);have n5_:=Aside0.mk ((by rw [hg];exact (below_size (by repeat (first|(with_reducible first|exact HB.out|apply below_alloc|apply pw_below_drewN|apply below_drew1|refine below_set ?_ GE229.out)|exact HB.out))):w.heap.size≤gb230));have n6_:=Aside0.mk ((by rw [hg];exact (below_size (by repeat (first|(with_reducible first|exact HB.out|apply below_alloc|apply pw_below_drewN|apply below_drew1|refine below_set ?_ GE229.out)|exact HB.out))):w.heap.size≤gb230));have n7_:=Aside0.mk ((by rw [hg];exact Nat.ne_of_lt (blk_lt (g:=gb229) (o:=.cells #[.int .i64 a0_0,.int .i64 a0_1,.string a0_2,.slice A0_3 l0_3.length c0_3] 27 (0,0)) (by (with_reducible repeat (first|refine blk_drewN ?_ _|refine blk_drew ?_|refine blk_alloc ?_ _));exact BK229.out)):gb229≠gb230));have n8_:=Aside0.mk ((by rw [hg];exact Nat.ne_of_gt (blk_lt (g:=gb229) (o:=.cells #[.int .i64 a0_0,.int .i64 a0_1,.string a0_2,.slice A0_3 l0_3.length c0_3] 27 (0,0)) (by (with_reducible repeat (first|refine blk_drewN ?_ _|refine blk_drew ?_|refine blk_alloc ?_ _));exact BK229.out)):gb230≠gb229));clear HO0_3;clear HO1_3;clear BK229;clear HB;have HO0_3:=n0_;have HO1_3:=n1_;have BK229:=n2_;have HB:=n3_;have BK230:=n4_;have GW230:=n5_;have GE230:=n6_;have NB229_230:=n7_;have NB230_229:=n8_;clear n0_ n1_ n2_ n3_ n4_ n5_ n6_ n7_ n8_;clear hb hbox hg)|((with_reducible refine gate_dst (N:=4) rfl ?_);refine box_event ?hg (N:=4) ?hd (cs:=#[.int .i64 0,.int .i64 0,.string (⟨#[]⟩:ByteArray),.slice none 0 0]) (t:=27) ?hr ?_;(case hd=>rfl);(case hg=>rfl);(case hr=>first|(go_simp;done)|(go_simp;rfl));intro gb231 hg w5 hbox hb;have n0_:=Aside0.mk (Kd.V_below (Kd.V_elderB (by (with_reducible repeat (first|apply Kd.V_alloc|apply Kd.V_drewN|apply Kd.V_drew));exact HO0_3.out) gb231 (Nat.le_of_eq hg.symm)) hb);have n1_:=Aside0.mk (Kd.V_below (Kd.V_elderB (by (with_reducible repeat (first|apply Kd.V_alloc|apply Kd.V_drewN|apply Kd.V_drew));exact HO1_3.out) gb231 (Nat.le_of_eq hg.symm)) hb);have n2_:=Aside0.mk (blk_below (g:=gb229) (o:=.cells #[.int .i64 a0_0,.int .i64 a0_1,.string a0_2,.slice A0_3 l0_3.length c0_3] 27 (0,0)) (by (with_reducible repeat (first|refine blk_drewN ?_ _|refine blk_drew ?_|refine blk_alloc ?_ _));exact BK229.out) hb);have n3_:=Aside0.mk (blk_below (g:=gb230) (o:=.cells #[.int .i64 a1_0,.int .i64 a1_1,.string a1_2,.slice A1_3 l1_3.length c1_3] 27 (0,0)) (by (with_reducible repeat (first|refine blk_drewN ?_ _|refine blk_drew ?_|refine blk_alloc ?_ _));exact BK230.out) hb);have n4_:=Aside0.mk (below_step (by repeat (first|(with_reducible first|exact HB.out|apply below_alloc|apply pw_below_drewN|apply below_drew1|refine below_set ?_ GE229.out|refine below_set ?_ GE230.out)|exact HB.out)) hb);have n5_:=Aside0.mk (hbox);have n6_:=Aside0.mk ((by rw [hg];exact (below_size (by repeat (first|(with_reducible first|exact HB.out|apply below_alloc|apply pw_below_drewN|apply below_drew1|refine below_set ?_ GE229.out|refine below_set ?_ GE230.out)|exact HB.out))):w.heap.size≤gb231));have n7_:=Aside0.mk ((by rw [hg];exact (below_size (by repeat (first|(with_reducible first|exact HB.out|apply below_alloc|apply pw_below_drewN|apply below_drew1|refine below_set ?_ GE229.out|refine below_set ?_ GE230.out)|exact HB.out))):w.heap.size≤gb231));have n8_:=Aside0.mk ((by rw [hg];exact Nat.ne_of_lt (blk_lt (g:=gb229) (o:=.cells #[.int .i64 a0_0,.int .i64 a0_1,.string a0_2,.slice A0_3 l0_3.length c0_3] 27 (0,0)) (by (with_reducible repeat (first|refine blk_drewN ?_ _|refine blk_drew ?_|refine blk_alloc ?_ _));exact BK229.out)):gb229≠gb231));have n9_:=Aside0.mk ((by rw [hg];exact Nat.ne_of_gt (blk_lt (g:=gb229) (o:=.cells #[.int .i64 a0_0,.int .i64 a0_1,.string a0_2,.slice A0_3 l0_3.length c0_3] 27 (0,0)) (by (with_reducible repeat (first|refine blk_drewN ?_ _|refine blk_drew ?_|refine blk_alloc ?_ _));exact BK229.out)):gb231≠gb229));have n10_:=Aside0.mk ((by rw [hg];exact Nat.ne_of_lt (blk_lt (g:=gb230) (o:=.cells #[.int .i64 a1_0,.int .i64 a1_1,.string a1_2,.slice A1_3 l1_3.length c1_3] 27 (0,0)) (by (with_reducible repeat (first|refine blk_drewN ?_ _|refine blk_drew ?_|refine blk_alloc ?_ _));exact BK230.out)):gb230≠gb231));have n11_:=Aside0.mk ((by rw [hg];exact Nat.ne_of_gt (blk_lt (g:=gb230) (o:=.cells #[.int .i64 a1_0,.int .i64 a1_1,.string a1_2,.slice A1_3 l1_3.length c1_3] 27 (0,0)) (by (with_reducible repeat (first|refine blk_drewN ?_ _|refine blk_drew ?_|refine blk_alloc ?_ _));exact BK230.out)):gb231≠gb230));clear HO0_3;clear HO1_3;clear BK229;clear BK230;clear HB;have HO0_3:=n0_;have HO1_3:=n1_;have BK229:=n2_;have BK230:=n3_;have HB:=n4_;have BK231:=n5_;have GW231:=n6_;have GE231:=n7_;have NB229_231:=n8_;have NB231_229:=n9_;have NB230_231:=n10_;have NB231_230:=n11_;clear n0_ n1_ n2_ n3_ n4_ n5_ n6_ n7_ n8_ n9_ n10_ n11_;clear hb hbox hg;have hnb6:=NB229_230.out;have hnc6:=NB230_229.out;have hnb7:=NB229_231.out;have hnc7:=NB231_229.out;have hcz8_0:w5.cell? ⟨gb229,0,none⟩=some (.int .i64 a0_0):=(blk_cell BK229.out 0).trans rfl;have hcz8_1:w5.cell? ⟨gb229,1,none⟩=some (.int .i64 a0_1):=(blk_cell BK229.out 1).trans rfl;have hcz8_2:w5.cell? ⟨gb229,2,none⟩=some (.string a0_2):=(blk_cell BK229.out 2).trans rfl;have hcz8_3:w5.cell? ⟨gb229,3,none⟩=some (.slice A0_3 l0_3.length c0_3):=(blk_cell BK229.out 3).trans rfl;have hfz8_0:=blk_frozen BK229.out 0;have hfz8_1:=blk_frozen BK229.out 1;have hfz8_2:=blk_frozen BK229.out 2;have hfz8_3:=blk_frozen BK229.out 3;have hnb9:=NB230_231.out;have hnc9:=NB231_230.out;have hcz10_0:w5.cell? ⟨gb230,0,none⟩=some (.int .i64 a1_0):=(blk_cell BK230.out 0).trans rfl;have hcz10_1:w5.cell? ⟨gb230,1,none⟩=some (.int .i64 a1_1):=(blk_cell BK230.out 1).trans rfl;have hcz10_2:w5.cell? ⟨gb230,2,none⟩=some (.string a1_2):=(blk_cell BK230.out 2).trans rfl;have hcz10_3:w5.cell? ⟨gb230,3,none⟩=some (.slice A1_3 l1_3.length c1_3):=(blk_cell BK230.out 3).trans rfl;have hfz10_0:=blk_frozen BK230.out 0;have hfz10_1:=blk_frozen BK230.out 1;have hfz10_2:=blk_frozen BK230.out 2;have hfz10_3:=blk_frozen BK230.out 3)|((with_reducible refine gate_dst (N:=7) rfl ?_);refine Kd.N_lit k27 _ 27 ?hg (N':=7) ?hd (xs:=([(⟨a0_0,a0_1,a0_2,l0_3⟩:SDoc),(⟨a1_0,a1_1,a1_2,l1_3⟩:SDoc)]:List (SDoc))) (inner:=[.int .i64 a0_0,.int .i64 a0_1,.string a0_2,.slice A0_3 l0_3.length c0_3,.int .i64 a1_0,.int .i64 a1_1,.string a1_2,.slice A1_3 l1_3.length c1_3]) (ok:=(fun k_=>((P0_3_ k_∨P1_3_ k_)∨w.heap.size≤k_)∧k_≠gb229∧k_≠gb230∧k_≠gb231)) (okp:=(fun k_=>((P0_3_ k_∨P1_3_ k_)∨w.heap.size≤k_)∧k_≠gb229∧k_≠gb230∧k_≠gb231)) ?hr ?hp (fun _ hk=>hk) ((show ∀ k_,w5.heap.size≤k_→(fun k_=>((P0_3_ k_∨P1_3_ k_)∨w.heap.size≤k_)∧k_≠gb229∧k_≠gb230∧k_≠gb231) k_ from fun k_ hk=>⟨(.inr (Nat.le_trans (below_size (by repeat (first|(with_reducible first|exact HB.out|apply below_alloc|apply pw_below_drewN|apply below_drew1|refine below_set ?_ GE229.out|refine below_set ?_ GE230.out|refine below_set ?_ GE231.out)|exact HB.out))) hk)),Kd.freshB (g:=gb229) (o:=.cells #[.int .i64 a0_0,.int .i64 a0_1,.string a0_2,.slice A0_3 l0_3.length c0_3] 27 (0,0)) (by (with_reducible repeat (first|refine blk_drewN ?_ _|refine blk_drew ?_|refine blk_alloc ?_ _));exact BK229.out) k_ hk,Kd.freshB (g:=gb230) (o:=.cells #[.int .i64 a1_0,.int .i64 a1_1,.string a1_2,.slice A1_3 l1_3.length c1_3] 27 (0,0)) (by (with_reducible repeat (first|refine blk_drewN ?_ _|refine blk_drew ?_|refine blk_alloc ?_ _));exact BK230.out) k_ hk,Kd.freshB (g:=gb231) (o:=.cells #[.int .i64 0,.int .i64 0,.string (⟨#[]⟩:ByteArray),.slice none 0 0] 27 (0,0)) (by (with_reducible repeat (first|refine blk_drewN ?_ _|refine blk_drew ?_|refine blk_alloc ?_ _));exact BK231.out) k_ hk⟩) _ (Nat.le_refl _)) (Below.refl _ _) (Nat.le_refl _) (by simp) ?_;(case hd=>rfl);(case hg=>rfl);(case hr=>first|(go_simp;done)|(go_simp;rfl));(case hp=>exact (Reps.c4 (show Kd.FK k27 _ _ (⟨a0_0,a0_1,a0_2,l0_3⟩:SDoc) [.int .i64 a0_0,.int .i64 a0_1,.string a0_2,.slice A0_3 l0_3.length c0_3] from (k27_mkF _ _ (⟨a0_0,a0_1,a0_2,l0_3⟩:SDoc) (Kd.V_reads' (Kd.V_mono (ok':=(fun k_=>((P0_3_ k_∨P1_3_ k_)∨w.heap.size≤k_)∧k_≠gb229∧k_≠gb230∧k_≠gb231)) (HO0_3.out) (fun k_ hk=>⟨hk.1.1.1,⟨hk.1.1.2,⟨hk.1.2,hk.2⟩⟩⟩))).2.1 (Kd.V_F (Kd.V_mono (ok':=(fun k_=>((P0_3_ k_∨P1_3_ k_)∨w.heap.size≤k_)∧k_≠gb229∧k_≠gb230∧k_≠gb231)) (HO0_3.out) (fun k_ hk=>⟨hk.1.1.1,⟨hk.1.1.2,⟨hk.1.2,hk.2⟩⟩⟩))))) (Reps.c4 (show Kd.FK k27 _ _ (⟨a1_0,a1_1,a1_2,l1_3⟩:SDoc) [.int .i64 a1_0,.int .i64 a1_1,.string a1_2,.slice A1_3 l1_3.length c1_3] from (k27_mkF _ _ (⟨a1_0,a1_1,a1_2,l1_3⟩:SDoc) (Kd.V_reads' (Kd.V_mono (ok':=(fun k_=>((P0_3_ k_∨P1_3_ k_)∨w.heap.size≤k_)∧k_≠gb229∧k_≠gb230∧k_≠gb231)) (HO1_3.out) (fun k_ hk=>⟨hk.1.1.1,⟨hk.1.1.2,⟨hk.1.2,hk.2⟩⟩⟩))).2.1 (Kd.V_F (Kd.V_mono (ok':=(fun k_=>((P0_3_ k_∨P1_3_ k_)∨w.heap.size≤k_)∧k_≠gb229∧k_≠gb230∧k_≠gb231)) (HO1_3.out) (fun k_ hk=>⟨hk.1.1.1,⟨hk.1.1.2,⟨hk.1.2,hk.2⟩⟩⟩))))) (Reps.none _ _))));intro v233 w11 ho12 hb hg_ hnew_;clear hg_ hnew_;(first|rw [← Ny232.out] at ho12|(simp only [Int.reduceToNat] at ho12;rw [← Ny232.out] at ho12));have n0_:=Aside0.mk (Kd.V_elder' (by (with_reducible repeat (first|apply Kd.V_alloc|apply Kd.V_drewN|apply Kd.V_drew));exact HO0_3.out) (Kd.N_base ho12) hb);have n1_:=Aside0.mk (Kd.V_elder' (by (with_reducible repeat (first|apply Kd.V_alloc|apply Kd.V_drewN|apply Kd.V_drew));exact HO1_3.out) (Kd.N_base ho12) hb);have n2_:=Aside0.mk (Kd.N_lower ho12 (below_size (by repeat (first|(with_reducible first|exact HB.out|apply below_alloc|apply pw_below_drewN|apply below_drew1|refine below_set ?_ GE229.out|refine below_set ?_ GE230.out|refine below_set ?_ GE231.out)|exact HB.out))));have n3_:=Aside0.mk (blk_below (g:=gb229) (o:=.cells #[.int .i64 a0_0,.int .i64 a0_1,.string a0_2,.slice A0_3 l0_3.length c0_3] 27 (0,0)) (by (with_reducible repeat (first|refine blk_drewN ?_ _|refine blk_drew ?_|refine blk_alloc ?_ _));exact BK229.out) hb);have n4_:=Aside0.mk (blk_below (g:=gb230) (o:=.cells #[.int .i64 a1_0,.int .i64 a1_1,.string a1_2,.slice A1_3 l1_3.length c1_3] 27 (0,0)) (by (with_reducible repeat (first|refine blk_drewN ?_ _|refine blk_drew ?_|refine blk_alloc ?_ _));exact BK230.out) hb);have n5_:=Aside0.mk (blk_below (g:=gb231) (o:=.cells #[.int .i64 0,.int .i64 0,.string (⟨#[]⟩:ByteArray),.slice none 0 0] 27 (0,0)) (by (with_reducible repeat (first|refine blk_drewN ?_ _|refine blk_drew ?_|refine blk_alloc ?_ _));exact BK231.out) hb);have n6_:=Aside0.mk (below_step (by repeat (first|(with_reducible first|exact HB.out|apply below_alloc|apply pw_below_drewN|apply below_drew1|refine below_set ?_ GE229.out|refine below_set ?_ GE230.out|refine below_set ?_ GE231.out)|exact HB.out)) hb);clear HO0_3;clear HO1_3;clear BK229;clear BK230;clear BK231;clear HB;have HO0_3:=n0_;have HO1_3:=n1_;have HO234:=n2_;have BK229:=n3_;have BK230:=n4_;have BK231:=n5_;have HB:=n6_;clear n0_ n1_ n2_ n3_ n4_ n5_ n6_;clear hb ho12;obtain ⟨Ao13,co13,eo13⟩:=Kd.N_slice HO234.out;subst eo13;have hcz14_0:w11.cell? ⟨gb231,0,none⟩=some (.int .i64 0):=(blk_cell BK231.out 0).trans rfl;have hcz14_1:w11.cell? ⟨gb231,1,none⟩=some (.int .i64 0):=(blk_cell BK231.out 1).trans rfl;have hcz14_2:w11.cell? ⟨gb231,2,none⟩=some (.string (⟨#[]⟩:ByteArray)):=(blk_cell BK231.out 2).trans rfl;have hcz14_3:w11.cell? ⟨gb231,3,none⟩=some (.slice none 0 0):=(blk_cell BK231.out 3).trans rfl;have hfz14_0:=blk_frozen BK231.out 0;have hfz14_1:=blk_frozen BK231.out 1;have hfz14_2:=blk_frozen BK231.out 2;have hfz14_3:=blk_frozen BK231.out 3))
 refine bodyPost_ret (results_cell_row rfl _ _ gb231 27 #[.int .i64 7,.int .i64 0,.string (⟨#[]⟩:ByteArray),.slice Ao13 y232.length co13] (0,0) _ rfl (by (with_reducible repeat (first|refine blk_drewN ?_ _|refine blk_drew ?_|refine blk_alloc ?_ _));refine blk_put (cs:=#[.int .i64 7,.int .i64 0,.string (⟨#[]⟩:ByteArray),.slice none 0 0]) ?_ 3 _ rfl;(with_reducible repeat (first|refine blk_drewN ?_ _|refine blk_drew ?_|refine blk_alloc ?_ _));refine blk_put (cs:=#[.int .i64 7,.int .i64 0,.string (⟨#[]⟩:ByteArray),.slice none 0 0]) ?_ 2 _ rfl;(with_reducible repeat (first|refine blk_drewN ?_ _|refine blk_drew ?_|refine blk_alloc ?_ _));refine blk_put (cs:=#[.int .i64 7,.int .i64 0,.string (⟨#[]⟩:ByteArray),.slice none 0 0]) ?_ 1 _ rfl;(with_reducible repeat (first|refine blk_drewN ?_ _|refine blk_drew ?_|refine blk_alloc ?_ _));refine blk_put (cs:=#[.int .i64 0,.int .i64 0,.string (⟨#[]⟩:ByteArray),.slice none 0 0]) ?_ 0 _ rfl;(with_reducible repeat (first|refine blk_drewN ?_ _|refine blk_drew ?_|refine blk_alloc ?_ _));exact BK231.out) Try.underlying27 rfl (by kernel_rfl)) rfl ?_
 exact ⟨_,by first|rfl|(simp [errW_none,errW_some] <;> rfl)|(simp [*,errW_none,errW_some] <;> rfl),by (with_reducible repeat (first|apply Kd.N_alloc|apply Kd.N_drewN|apply Kd.N_drew));exact Kd.N_mono (Kd.N_far (p:=⟨gb231,3,none⟩) (Kd.N_far (p:=⟨gb231,2,none⟩) (Kd.N_far (p:=⟨gb231,1,none⟩) (Kd.N_far (p:=⟨gb231,0,none⟩) (Kd.N_mono HO234.out (fun k_ hk=>(⟨hk,hk.2.2.2⟩:_∧k_≠gb231))) (fun _ hk=>hk.2) (.int .i64 7)) (fun _ hk=>hk.2) (.int .i64 0)) (fun _ hk=>hk.2) (.string (⟨#[]⟩:ByteArray))) (fun _ hk=>hk.2) (.slice Ao13 y232.length co13)) (fun _ hk=>hk.1.1),by repeat (first|(with_reducible first|exact HB.out|apply below_alloc|apply pw_below_drewN|apply below_drew1|refine below_set ?_ GE229.out|refine below_set ?_ GE230.out|refine below_set ?_ GE231.out)|exact HB.out)⟩
end Go.Proofs.Ytdhdfmmefghijaa.P
