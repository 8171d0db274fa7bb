/- CONTRACTS and lemmas: each contract says that a Go function of the program, called over the translation under the theorem's own hypotheses, returns what the Lean function beside it computes. -/
import Derived.Test.YtdhdfmmefghijaaVFnParseSize4
namespace Go.Proofs.Ytdhdfmmefghijaa.P
open Go.RowKit Go.Proofs.YtdhdfmmefghijaaW.PrintWords Go.Proofs.YtdhdfmmefghijaaW.PrintLast Go.Proofs.YtdhdfmmefghijaaW.PrintMore
attribute [local go_sem] max2_int min2_int max_two min_two max_three min_three max_four min_four
set_option linter.unusedVariables false
set_option linter.unusedSimpArgs false
mutual
def spec_l1Is.j0:Nat→Int→Bool→Int→Int→ByteArray→List (SDoc)→Option (Bool)
 | 0,_,_,_,_,_,_=>none
 | k+1,x1,x16,x271000,x271001,x271002,x271003=>if x16=true then (some false) else (if x271000=2 then ((spec_TextValid.f k x271002).bind fun t272=>(if t272=true then (spec_l1Is.j1 k x1 false x271000 x271001 x271002 x271003) else (spec_l1Is.j1 k x1 true x271000 x271001 x271002 x271003))) else (spec_l1Is.j1 k x1 (x271002.toList != ([]:List UInt8)) x271000 x271001 x271002 x271003))
def spec_l1Is.j1:Nat→Int→Bool→Int→Int→ByteArray→List (SDoc)→Option (Bool)
 | 0,_,_,_,_,_,_=>none
 | k+1,x1,x35,x271000,x271001,x271002,x271003=>if x35=true then (some false) else (if x271000=6 then (if x271001 < 0 then (spec_l1Is.j2 k x1 true x271000 x271001 x271002 x271003) else (if x271001 > 9 then (spec_l1Is.j2 k x1 true x271000 x271001 x271002 x271003) else (spec_l1Is.j2 k x1 false x271000 x271001 x271002 x271003))) else (spec_l1Is.j2 k x1 (x271001 != 0) x271000 x271001 x271002 x271003))
def spec_l1Is.j2:Nat→Int→Bool→Int→Int→ByteArray→List (SDoc)→Option (Bool)
 | 0,_,_,_,_,_,_=>none
 | k+1,x1,x58,x271000,x271001,x271002,x271003=>if x58=true then (some false) else (spec_l1Is.l0 k x1 0 x271000 x271001 x271002 x271003)
def spec_l1Is.l0:Nat→Int→Int→Int→Int→ByteArray→List (SDoc)→Option (Bool)
 | 0,_,_,_,_,_,_=>none
 | k+1,x1,x5,x271000,x271001,x271002,x271003=>if x5 < (x271003.length:Int) then (if 0≤x5 then ((spec_l1Is.f k ((rd_TDoc x271003 x5).f0) ((rd_TDoc x271003 x5).f1) ((rd_TDoc x271003 x5).f2) ((rd_TDoc x271003 x5).f3) (wrap64 (x1 - 1))).bind fun t274=>(if t274=true then (spec_l1Is.l0 k x1 (wrap64 (x5+1)) x271000 x271001 x271002 x271003) else (some false))) else (none)) else (some true)
def spec_l1Is.f:Nat→Int→Int→ByteArray→List (SDoc)→Int→Option (Bool)
 | 0,_,_,_,_,_=>none
 | k+1,a0_0,a0_1,a0_2,l0_3,a1=>if a1=0 then (spec_l1Is.j0 k a1 true a0_0 a0_1 a0_2 l0_3) else ((spec_l1Kids.f k a0_0).bind fun t271=>(spec_l1Is.j0 k a1 ((l0_3.length:Int) != t271) a0_0 a0_1 a0_2 l0_3))
end
set_option maxHeartbeats 8000000 in
set_option maxRecDepth 100000 in
theorem spec_l1Is.calls (k:Nat):∀ (a0_0:Int) (a0_1:Int) (a0_2:ByteArray) (A0_3:Option Addr) (c0_3:Nat) (l0_3:List (SDoc)) (a1:Int) (r:Bool) (w:World) (hr0_3:Kd.C k27 w A0_3 l0_3.length l0_3) (hc0_3:l0_3.length≤c0_3) (h:spec_l1Is.f k a0_0 a0_1 a0_2 l0_3 a1=some r),
  Calls Try.prog 53 #[.agg #[.int .i64 a0_0,.int .i64 a0_1,.string a0_2,.slice A0_3 l0_3.length c0_3],.int .i64 a1] w fun e w'=>e=.returned (.bool r)∧Below w.heap.size w w':=by
 induction k using Nat.strongRecOn with
 | _ k ih =>
 intro a0_0 a0_1 a0_2 A0_3 c0_3 l0_3 a1 r w hr0_3 hc0_3 h
 cases k with
 | zero=>exact absurd h (by simp [spec_l1Is.f])
 | succ k =>
 simp only [spec_l1Is.f] at h
 have hu27:=Try.underlying27
 have HR0_3:=Aside0.mk hr0_3
 have HC0_3:=Aside0.mk hc0_3
 clear hr0_3 hc0_3
 have HB:=Aside0.mk (Below.refl w.heap.size w)
 have H:(if a1=0 then (spec_l1Is.j0 k a1 true a0_0 a0_1 a0_2 l0_3) else ((spec_l1Kids.f k a0_0).bind fun t271=>(spec_l1Is.j0 k a1 ((l0_3.length:Int) != t271) a0_0 a0_1 a0_2 l0_3)))=some r:=h
 clear h
 have HC3:=Aside0.mk H
 clear H
 go_enter Try.func53,Try.ntmps53
 go_upto_region 1 with (first|((with_reducible refine gate_dst (N:=2) rfl ?_);(try (refine gate_guard (by rfl) ?_;dsimp only));refine box_event ?hg (N:=2) ?hd (cs:=#[.int .i64 a0_0,.int .i64 a0_1,.string a0_2,.slice A0_3 l0_3.length c0_3]) (t:=27) ?hr ?_;(case hd=>rfl);(case hg=>rfl);(case hr=>first|(go_simp;done)|(go_simp;rfl));intro gb270 hg w4 hbox hb;have n0_:=Aside0.mk (below_step (gB HB) hb);have n1_:=Aside0.mk (hbox);have n2_:=Aside0.mk ((by rw [hg];exact (below_size (gB HB)):w.heap.size≤gb270));have n3_:=Aside0.mk ((by rw [hg];exact (below_size (gB HB)):w.heap.size≤gb270));clear HB;have HB:=n0_;have BK270:=n1_;have GW270:=n2_;have GE270:=n3_;clear n0_ n1_ n2_ n3_;clear hb hbox hg))
 repeat (go_quiet (first|((with_reducible refine gate_dst (N:=2) rfl ?_);(try (refine gate_guard (by rfl) ?_;dsimp only));refine box_event ?hg (N:=2) ?hd (cs:=#[.int .i64 a0_0,.int .i64 a0_1,.string a0_2,.slice A0_3 l0_3.length c0_3]) (t:=27) ?hr ?_;(case hd=>rfl);(case hg=>rfl);(case hr=>first|(go_simp;done)|(go_simp;rfl));intro gb270 hg w4 hbox hb;have n0_:=Aside0.mk (below_step (gB HB) hb);have n1_:=Aside0.mk (hbox);have n2_:=Aside0.mk ((by rw [hg];exact (below_size (gB HB)):w.heap.size≤gb270));have n3_:=Aside0.mk ((by rw [hg];exact (below_size (gB HB)):w.heap.size≤gb270));clear HB;have HB:=n0_;have BK270:=n1_;have GW270:=n2_;have GE270:=n3_;clear n0_ n1_ n2_ n3_;clear hb hbox hg));go_upto_region 1 with (first|((with_reducible refine gate_dst (N:=2) rfl ?_);(try (refine gate_guard (by rfl) ?_;dsimp only));refine box_event ?hg (N:=2) ?hd (cs:=#[.int .i64 a0_0,.int .i64 a0_1,.string a0_2,.slice A0_3 l0_3.length c0_3]) (t:=27) ?hr ?_;(case hd=>rfl);(case hg=>rfl);(case hr=>first|(go_simp;done)|(go_simp;rfl));intro gb270 hg w4 hbox hb;have n0_:=Aside0.mk (below_step (gB HB) hb);have n1_:=Aside0.mk (hbox);have n2_:=Aside0.mk ((by rw [hg];exact (below_size (gB HB)):w.heap.size≤gb270));have n3_:=Aside0.mk ((by rw [hg];exact (below_size (gB HB)):w.heap.size≤gb270));clear HB;have HB:=n0_;have BK270:=n1_;have GW270:=n2_;have GE270:=n3_;clear n0_ n1_ n2_ n3_;clear hb hbox hg)))
 (try simp only [Act.put,List.setIfInBounds_toArray,List.set_cons_zero,List.set_cons_succ])
 go_cut [16] (fun v16 wc=>∃ (kq:Nat) (x16_2:Bool),v16=.bool x16_2∧Aside0 (spec_l1Is.j0 kq a1 x16_2 a0_0 a0_1 a0_2 l0_3=some r)∧Aside0 (kq≤k)∧Aside0 (wc.heap[gb270]?=some (.cells #[.int .i64 a0_0,.int .i64 a0_1,.string a0_2,(.slice A0_3 l0_3.length c0_3)] 27 (0,0)))∧Aside0 (Below w.heap.size w wc))
 case first =>
  have H:=HC3.out
  clear HC3
  by_cases c5:a1=0
  ·rw [if_pos c5] at H
   have c5b0:(a1 == 0)=true:=beq_iff_eq.mpr c5
   have c5b1:(a1 != 0)=false:=bne_eq_false_iff_eq.mpr c5
   clear c5
   (first|rw [c5b0]|(simp only [i64_w,i32_w];rw [c5b0])|skip)
   have H':=Aside0.mk H
   clear H
   go_wp2
   repeat (go_quiet (fail);try go_wp2)
   go_meet
   case rel=>exact ⟨_,(true),(by first|rfl|(simp;done)|(simp [*];done)),H',⟨by first|omega|exact Nat.le_refl _⟩,⟨gK BK270⟩,⟨by repeat (first|exact gB HB|refine below_set ?_ GE270.out)⟩⟩
  ·rw [if_neg c5] at H
   have c5b0:(a1 == 0)=false:=beq_eq_false_iff_ne.mpr c5
   have c5b1:(a1 != 0)=true:=bne_iff_ne.mpr c5
   (first|rw [c5b0]|(simp only [i64_w,i32_w];rw [c5b0])|skip)
   replace H:=Option.bind_eq_some_iff.mp H
   obtain ⟨t271,A60,H⟩:=H
   replace H:(spec_l1Is.j0 k a1 ((l0_3.length:Int) != t271) a0_0 a0_1 a0_2 l0_3)=some r:=H
   have A6:=Aside0.mk A60
   clear A60
   have H':=Aside0.mk H
   clear H
   have hcz7_0:w4.cell? ⟨gb270,0,none⟩=some (.int .i64 a0_0):=(blk_cell BK270.out 0).trans rfl
   have hcz7_1:w4.cell? ⟨gb270,1,none⟩=some (.int .i64 a0_1):=(blk_cell BK270.out 1).trans rfl
   have hcz7_2:w4.cell? ⟨gb270,2,none⟩=some (.string a0_2):=(blk_cell BK270.out 2).trans rfl
   have hcz7_3:w4.cell? ⟨gb270,3,none⟩=some (.slice A0_3 l0_3.length c0_3):=(blk_cell BK270.out 3).trans rfl
   have hfz7_0:=blk_frozen BK270.out 0
   have hfz7_1:=blk_frozen BK270.out 1
   have hfz7_2:=blk_frozen BK270.out 2
   have hfz7_3:=blk_frozen BK270.out 3
   go_wp2_with (first|(go_at_call 73;(with_reducible refine (spec_l1Kids.calls k a0_0 t271 _ A6.out).mono ?_);rintro e w' ⟨rfl,⟨nd,rfl⟩⟩;(try first|exact ⟨rfl,_,World.drewN_drewN _ _ _⟩ | exact ⟨rfl,_,Eq.trans (World.drewN_drewN _ _ _) (congrArg (World.drewN _) (Nat.add_assoc _ _ _))⟩)))
   repeat (go_quiet (first|(go_at_call 73;(with_reducible refine (spec_l1Kids.calls k a0_0 t271 _ A6.out).mono ?_);rintro e w' ⟨rfl,⟨nd,rfl⟩⟩;(try first|exact ⟨rfl,_,World.drewN_drewN _ _ _⟩ | exact ⟨rfl,_,Eq.trans (World.drewN_drewN _ _ _) (congrArg (World.drewN _) (Nat.add_assoc _ _ _))⟩)));try go_wp2_with (first|(go_at_call 73;(with_reducible refine (spec_l1Kids.calls k a0_0 t271 _ A6.out).mono ?_);rintro e w' ⟨rfl,⟨nd,rfl⟩⟩;(try first|exact ⟨rfl,_,World.drewN_drewN _ _ _⟩ | exact ⟨rfl,_,Eq.trans (World.drewN_drewN _ _ _) (congrArg (World.drewN _) (Nat.add_assoc _ _ _))⟩))))
   go_meet
   case rel=>exact ⟨_,(((l0_3.length:Int) != t271)),(by first|rfl|(simp;done)|(simp [*];done)),H',⟨by first|omega|exact Nat.le_refl _⟩,⟨gK BK270⟩,⟨by repeat (first|exact gB HB|refine below_set ?_ GE270.out)⟩⟩
 case rest =>
  clear HC3
  try clear p2 c5 c5b0 c5b1 hcz7_0 hcz7_1 hcz7_2 hcz7_3 hfz7_0 hfz7_1 hfz7_2 hfz7_3
  obtain ⟨kq,x16_2,rfl,HA,HJ2,BK270,HB⟩:=hcut
  cases kq with
  | zero=>exact absurd HA.out (by simp [spec_l1Is.j0])
  | succ kj2 =>
   have H:=HA.out
   clear HA
   simp only [spec_l1Is.j0] at H
   by_cases c8:x16_2=true
   ·subst c8
    have H1:(some false)=some r:=by rw [if_pos rfl] at H;exact H
    clear H
    have H:=H1
    clear H1
    obtain rfl:=Option.some.inj H
    go_wp2
    repeat (go_quiet (fail);try go_wp2)
    go_ret
    exact ⟨by first|rfl|(simp [errW_none,errW_some] <;> rfl)|(simp [*,errW_none,errW_some] <;> rfl),by repeat (first|exact gB HB|refine below_set ?_ GE270.out)⟩
   ·replace c8:=Bool.eq_false_iff.mpr c8
    subst c8
    have H1:(if a0_0=2 then ((spec_TextValid.f kj2 a0_2).bind fun t272=>(if t272=true then (spec_l1Is.j1 kj2 a1 false a0_0 a0_1 a0_2 l0_3) else (spec_l1Is.j1 kj2 a1 true a0_0 a0_1 a0_2 l0_3))) else (spec_l1Is.j1 kj2 a1 (a0_2.toList != ([]:List UInt8)) a0_0 a0_1 a0_2 l0_3))=some r:=by rw [if_neg (show ¬ (false=true) by decide)] at H;exact H
    clear H
    have H:=H1
    clear H1
    have HC9:=Aside0.mk H
    clear H
    go_upto_region 3 with (fail)
    repeat (go_quiet (fail);go_upto_region 3 with (fail))
    go_cut [35] (fun v35 wc=>∃ (kq:Nat) (x35_8:Bool),v35=.bool x35_8∧Aside0 (spec_l1Is.j1 kq a1 x35_8 a0_0 a0_1 a0_2 l0_3=some r)∧Aside0 (kq≤kj2)∧Aside0 (wc.heap[gb270]?=some (.cells #[.int .i64 a0_0,.int .i64 a0_1,.string a0_2,(.slice A0_3 l0_3.length c0_3)] 27 (0,0)))∧Aside0 (Below w.heap.size w wc))
    case first =>
     have H:=HC9.out
     clear HC9
     by_cases c10:a0_0=2
     ·rw [if_pos c10] at H
      have c10b0:(a0_0 == 2)=true:=beq_iff_eq.mpr c10
      have c10b1:(a0_0 != 2)=false:=bne_eq_false_iff_eq.mpr c10
      clear c10
      (first|rw [c10b0]|(simp only [i64_w,i32_w];rw [c10b0])|skip)
      replace H:=Option.bind_eq_some_iff.mp H
      obtain ⟨t272,A110,H⟩:=H
      replace H:(if t272=true then (spec_l1Is.j1 kj2 a1 false a0_0 a0_1 a0_2 l0_3) else (spec_l1Is.j1 kj2 a1 true a0_0 a0_1 a0_2 l0_3))=some r:=H
      have A11:=Aside0.mk A110
      clear A110
      by_cases c12:t272=true
      ·subst c12
       have H1:(spec_l1Is.j1 kj2 a1 false a0_0 a0_1 a0_2 l0_3)=some r:=by rw [if_pos rfl] at H;exact H
       clear H
       have H:=H1
       clear H1
       have H':=Aside0.mk H
       clear H
       have hcz13_0:wc.cell? ⟨gb270,0,none⟩=some (.int .i64 a0_0):=(blk_cell BK270.out 0).trans rfl
       have hcz13_1:wc.cell? ⟨gb270,1,none⟩=some (.int .i64 a0_1):=(blk_cell BK270.out 1).trans rfl
       have hcz13_2:wc.cell? ⟨gb270,2,none⟩=some (.string a0_2):=(blk_cell BK270.out 2).trans rfl
       have hcz13_3:wc.cell? ⟨gb270,3,none⟩=some (.slice A0_3 l0_3.length c0_3):=(blk_cell BK270.out 3).trans rfl
       have hfz13_0:=blk_frozen BK270.out 0
       have hfz13_1:=blk_frozen BK270.out 1
       have hfz13_2:=blk_frozen BK270.out 2
       have hfz13_3:=blk_frozen BK270.out 3
       go_wp2_with (first|(go_at_call 18;(with_reducible refine (spec_TextValid.calls kj2 a0_2 true _ A11.out).mono ?_);rintro e w' ⟨rfl,⟨nd,rfl⟩⟩;(try first|exact ⟨rfl,_,World.drewN_drewN _ _ _⟩ | exact ⟨rfl,_,Eq.trans (World.drewN_drewN _ _ _) (congrArg (World.drewN _) (Nat.add_assoc _ _ _))⟩)))
       repeat (go_quiet (first|(go_at_call 18;(with_reducible refine (spec_TextValid.calls kj2 a0_2 true _ A11.out).mono ?_);rintro e w' ⟨rfl,⟨nd,rfl⟩⟩;(try first|exact ⟨rfl,_,World.drewN_drewN _ _ _⟩ | exact ⟨rfl,_,Eq.trans (World.drewN_drewN _ _ _) (congrArg (World.drewN _) (Nat.add_assoc _ _ _))⟩)));try go_wp2_with (first|(go_at_call 18;(with_reducible refine (spec_TextValid.calls kj2 a0_2 true _ A11.out).mono ?_);rintro e w' ⟨rfl,⟨nd,rfl⟩⟩;(try first|exact ⟨rfl,_,World.drewN_drewN _ _ _⟩ | exact ⟨rfl,_,Eq.trans (World.drewN_drewN _ _ _) (congrArg (World.drewN _) (Nat.add_assoc _ _ _))⟩))))
       go_meet
       case rel=>exact ⟨_,(false),(by first|rfl|(simp;done)|(simp [*];done)),H',⟨by have:=HJ2.out;first|omega|exact Nat.le_refl _⟩,⟨gK BK270⟩,⟨by repeat (first|exact gB HB|refine below_set ?_ GE270.out)⟩⟩
      ·replace c12:=Bool.eq_false_iff.mpr c12
       subst c12
       have H1:(spec_l1Is.j1 kj2 a1 true a0_0 a0_1 a0_2 l0_3)=some r:=by rw [if_neg (show ¬ (false=true) by decide)] at H;exact H
       clear H
       have H:=H1
       clear H1
       have H':=Aside0.mk H
       clear H
       have hcz14_0:wc.cell? ⟨gb270,0,none⟩=some (.int .i64 a0_0):=(blk_cell BK270.out 0).trans rfl
       have hcz14_1:wc.cell? ⟨gb270,1,none⟩=some (.int .i64 a0_1):=(blk_cell BK270.out 1).trans rfl
       have hcz14_2:wc.cell? ⟨gb270,2,none⟩=some (.string a0_2):=(blk_cell BK270.out 2).trans rfl
       have hcz14_3:wc.cell? ⟨gb270,3,none⟩=some (.slice A0_3 l0_3.length c0_3):=(blk_cell BK270.out 3).trans rfl
       have hfz14_0:=blk_frozen BK270.out 0
       have hfz14_1:=blk_frozen BK270.out 1
       have hfz14_2:=blk_frozen BK270.out 2
       have hfz14_3:=blk_frozen BK270.out 3
       go_wp2_with (first|(go_at_call 18;(with_reducible refine (spec_TextValid.calls kj2 a0_2 false _ A11.out).mono ?_);rintro e w' ⟨rfl,⟨nd,rfl⟩⟩;(try first|exact ⟨rfl,_,World.drewN_drewN _ _ _⟩ | exact ⟨rfl,_,Eq.trans (World.drewN_drewN _ _ _) (congrArg (World.drewN _) (Nat.add_assoc _ _ _))⟩)))
       repeat (go_quiet (first|(go_at_call 18;(with_reducible refine (spec_TextValid.calls kj2 a0_2 false _ A11.out).mono ?_);rintro e w' ⟨rfl,⟨nd,rfl⟩⟩;(try first|exact ⟨rfl,_,World.drewN_drewN _ _ _⟩ | exact ⟨rfl,_,Eq.trans (World.drewN_drewN _ _ _) (congrArg (World.drewN _) (Nat.add_assoc _ _ _))⟩)));try go_wp2_with (first|(go_at_call 18;(with_reducible refine (spec_TextValid.calls kj2 a0_2 false _ A11.out).mono ?_);rintro e w' ⟨rfl,⟨nd,rfl⟩⟩;(try first|exact ⟨rfl,_,World.drewN_drewN _ _ _⟩ | exact ⟨rfl,_,Eq.trans (World.drewN_drewN _ _ _) (congrArg (World.drewN _) (Nat.add_assoc _ _ _))⟩))))
       go_meet
       case rel=>exact ⟨_,(true),(by first|rfl|(simp;done)|(simp [*];done)),H',⟨by have:=HJ2.out;first|omega|exact Nat.le_refl _⟩,⟨gK BK270⟩,⟨by repeat (first|exact gB HB|refine below_set ?_ GE270.out)⟩⟩
     ·rw [if_neg c10] at H
      have c10b0:(a0_0 == 2)=false:=beq_eq_false_iff_ne.mpr c10
      have c10b1:(a0_0 != 2)=true:=bne_iff_ne.mpr c10
      (first|rw [c10b0]|(simp only [i64_w,i32_w];rw [c10b0])|skip)
      have H':=Aside0.mk H
      clear H
      have hcz15_0:wc.cell? ⟨gb270,0,none⟩=some (.int .i64 a0_0):=(blk_cell BK270.out 0).trans rfl
      have hcz15_1:wc.cell? ⟨gb270,1,none⟩=some (.int .i64 a0_1):=(blk_cell BK270.out 1).trans rfl
      have hcz15_2:wc.cell? ⟨gb270,2,none⟩=some (.string a0_2):=(blk_cell BK270.out 2).trans rfl
      have hcz15_3:wc.cell? ⟨gb270,3,none⟩=some (.slice A0_3 l0_3.length c0_3):=(blk_cell BK270.out 3).trans rfl
      have hfz15_0:=blk_frozen BK270.out 0
      have hfz15_1:=blk_frozen BK270.out 1
      have hfz15_2:=blk_frozen BK270.out 2
      have hfz15_3:=blk_frozen BK270.out 3
      go_wp2
      repeat (go_quiet (fail);try go_wp2)
      go_meet
      case rel=>exact ⟨_,((a0_2.toList != ([]:List UInt8))),(by first|rfl|(simp only [xp_isEmpty];done)|(simp;done)|(simp [*];done)),H',⟨by have:=HJ2.out;first|omega|exact Nat.le_refl _⟩,⟨gK BK270⟩,⟨by repeat (first|exact gB HB|refine below_set ?_ GE270.out)⟩⟩
    case rest =>
     clear HC9
     try clear c1 p2 c5 c5b0 c5b1 c8 c10 c10b0 c10b1 c12 hcz13_0 hcz13_1 hcz13_2 hcz13_3 hcz14_0 hcz14_1 hcz14_2 hcz14_3 hcz15_0 hcz15_1 hcz15_2 hcz15_3 hcz7_0 hcz7_1 hcz7_2 hcz7_3 hfz13_0 hfz13_1 hfz13_2 hfz13_3 hfz14_0 hfz14_1 hfz14_2 hfz14_3 hfz15_0 hfz15_1 hfz15_2 hfz15_3 hfz7_0 hfz7_1 hfz7_2 hfz7_3 p2
     obtain ⟨kq,x35_8,rfl,HA,HJ8,BK270,HB⟩:=hcut
     cases kq with
     | zero=>exact absurd HA.out (by simp [spec_l1Is.j1])
     | succ kj8 =>
      have H:=HA.out
      clear HA
      simp only [spec_l1Is.j1] at H
      by_cases c16:x35_8=true
      ·subst c16
       have H1:(some false)=some r:=by rw [if_pos rfl] at H;exact H
       clear H
       have H:=H1
       clear H1
       obtain rfl:=Option.some.inj H
       go_wp2
       repeat (go_quiet (fail);try go_wp2)
       go_ret
       exact ⟨by first|rfl|(simp [errW_none,errW_some] <;> rfl)|(simp [*,errW_none,errW_some] <;> rfl),by repeat (first|exact gB HB|refine below_set ?_ GE270.out)⟩
      ·replace c16:=Bool.eq_false_iff.mpr c16
       subst c16
       have H1:(if a0_0=6 then (if a0_1 < 0 then (spec_l1Is.j2 kj8 a1 true a0_0 a0_1 a0_2 l0_3) else (if a0_1 > 9 then (spec_l1Is.j2 kj8 a1 true a0_0 a0_1 a0_2 l0_3) else (spec_l1Is.j2 kj8 a1 false a0_0 a0_1 a0_2 l0_3))) else (spec_l1Is.j2 kj8 a1 (a0_1 != 0) a0_0 a0_1 a0_2 l0_3))=some r:=by rw [if_neg (show ¬ (false=true) by decide)] at H;exact H
       clear H
       have H:=H1
       clear H1
       have HC17:=Aside0.mk H
       clear H
       go_upto_region 5 with (fail)
       repeat (go_quiet (fail);go_upto_region 5 with (fail))
       go_cut [58] (fun v58 wc=>∃ (kq:Nat) (x58_16:Bool),v58=.bool x58_16∧Aside0 (spec_l1Is.j2 kq a1 x58_16 a0_0 a0_1 a0_2 l0_3=some r)∧Aside0 (kq≤kj8)∧Aside0 (wc.heap[gb270]?=some (.cells #[.int .i64 a0_0,.int .i64 a0_1,.string a0_2,(.slice A0_3 l0_3.length c0_3)] 27 (0,0)))∧Aside0 (Below w.heap.size w wc))
       case first =>
        have H:=HC17.out
        clear HC17
        by_cases c18:a0_0=6
        ·rw [if_pos c18] at H
         have c18b0:(a0_0 == 6)=true:=beq_iff_eq.mpr c18
         have c18b1:(a0_0 != 6)=false:=bne_eq_false_iff_eq.mpr c18
         clear c18
         (first|rw [c18b0]|(simp only [i64_w,i32_w];rw [c18b0])|skip)
         by_cases c19:a0_1 < 0
         ·rw [if_pos c19] at H
          have c19b0:decide (a0_1 < 0)=true:=decide_eq_true c19
          clear c19
          have H':=Aside0.mk H
          clear H
          have hcz20_0:wc.cell? ⟨gb270,0,none⟩=some (.int .i64 a0_0):=(blk_cell BK270.out 0).trans rfl
          have hcz20_1:wc.cell? ⟨gb270,1,none⟩=some (.int .i64 a0_1):=(blk_cell BK270.out 1).trans rfl
          have hcz20_2:wc.cell? ⟨gb270,2,none⟩=some (.string a0_2):=(blk_cell BK270.out 2).trans rfl
          have hcz20_3:wc.cell? ⟨gb270,3,none⟩=some (.slice A0_3 l0_3.length c0_3):=(blk_cell BK270.out 3).trans rfl
          have hfz20_0:=blk_frozen BK270.out 0
          have hfz20_1:=blk_frozen BK270.out 1
          have hfz20_2:=blk_frozen BK270.out 2
          have hfz20_3:=blk_frozen BK270.out 3
          go_wp2
          repeat (go_quiet (fail);try go_wp2)
          go_meet
          case rel=>exact ⟨_,(true),(by first|rfl|(simp;done)|(simp [*];done)),H',⟨by have:=HJ2.out;have:=HJ8.out;first|omega|exact Nat.le_refl _⟩,⟨gK BK270⟩,⟨by repeat (first|exact gB HB|refine below_set ?_ GE270.out)⟩⟩
         ·rw [if_neg c19] at H
          have c19b0:decide (a0_1 < 0)=false:=decide_eq_false c19
          clear c19
          by_cases c21:a0_1 > 9
          ·rw [if_pos c21] at H
           have c21b0:decide (9 < a0_1)=true:=decide_eq_true c21
           clear c21
           have H':=Aside0.mk H
           clear H
           have hcz22_0:wc.cell? ⟨gb270,0,none⟩=some (.int .i64 a0_0):=(blk_cell BK270.out 0).trans rfl
           have hcz22_1:wc.cell? ⟨gb270,1,none⟩=some (.int .i64 a0_1):=(blk_cell BK270.out 1).trans rfl
           have hcz22_2:wc.cell? ⟨gb270,2,none⟩=some (.string a0_2):=(blk_cell BK270.out 2).trans rfl
           have hcz22_3:wc.cell? ⟨gb270,3,none⟩=some (.slice A0_3 l0_3.length c0_3):=(blk_cell BK270.out 3).trans rfl
           have hfz22_0:=blk_frozen BK270.out 0
           have hfz22_1:=blk_frozen BK270.out 1
           have hfz22_2:=blk_frozen BK270.out 2
           have hfz22_3:=blk_frozen BK270.out 3
           go_wp2
           repeat (go_quiet (fail);try go_wp2)
           go_meet
           case rel=>exact ⟨_,(true),(by first|rfl|(simp;done)|(simp [*];done)),H',⟨by have:=HJ2.out;have:=HJ8.out;first|omega|exact Nat.le_refl _⟩,⟨gK BK270⟩,⟨by repeat (first|exact gB HB|refine below_set ?_ GE270.out)⟩⟩
          ·rw [if_neg c21] at H
           have c21b0:decide (9 < a0_1)=false:=decide_eq_false c21
           clear c21
           have H':=Aside0.mk H
           clear H
           have hcz23_0:wc.cell? ⟨gb270,0,none⟩=some (.int .i64 a0_0):=(blk_cell BK270.out 0).trans rfl
           have hcz23_1:wc.cell? ⟨gb270,1,none⟩=some (.int .i64 a0_1):=(blk_cell BK270.out 1).trans rfl
           have hcz23_2:wc.cell? ⟨gb270,2,none⟩=some (.string a0_2):=(blk_cell BK270.out 2).trans rfl
           have hcz23_3:wc.cell? ⟨gb270,3,none⟩=some (.slice A0_3 l0_3.length c0_3):=(blk_cell BK270.out 3).trans rfl
           have hfz23_0:=blk_frozen BK270.out 0
           have hfz23_1:=blk_frozen BK270.out 1
           have hfz23_2:=blk_frozen BK270.out 2
           have hfz23_3:=blk_frozen BK270.out 3
           go_wp2
           repeat (go_quiet (fail);try go_wp2)
           go_meet
           case rel=>exact ⟨_,(false),(by first|rfl|(simp;done)|(simp [*];done)),H',⟨by have:=HJ2.out;have:=HJ8.out;first|omega|exact Nat.le_refl _⟩,⟨gK BK270⟩,⟨by repeat (first|exact gB HB|refine below_set ?_ GE270.out)⟩⟩
        ·rw [if_neg c18] at H
         have c18b0:(a0_0 == 6)=false:=beq_eq_false_iff_ne.mpr c18
         have c18b1:(a0_0 != 6)=true:=bne_iff_ne.mpr c18
         (first|rw [c18b0]|(simp only [i64_w,i32_w];rw [c18b0])|skip)
         have H':=Aside0.mk H
         clear H
         have hcz24_0:wc.cell? ⟨gb270,0,none⟩=some (.int .i64 a0_0):=(blk_cell BK270.out 0).trans rfl
         have hcz24_1:wc.cell? ⟨gb270,1,none⟩=some (.int .i64 a0_1):=(blk_cell BK270.out 1).trans rfl
         have hcz24_2:wc.cell? ⟨gb270,2,none⟩=some (.string a0_2):=(blk_cell BK270.out 2).trans rfl
         have hcz24_3:wc.cell? ⟨gb270,3,none⟩=some (.slice A0_3 l0_3.length c0_3):=(blk_cell BK270.out 3).trans rfl
         have hfz24_0:=blk_frozen BK270.out 0
         have hfz24_1:=blk_frozen BK270.out 1
         have hfz24_2:=blk_frozen BK270.out 2
         have hfz24_3:=blk_frozen BK270.out 3
         go_wp2
         repeat (go_quiet (fail);try go_wp2)
         go_meet
         case rel=>exact ⟨_,((a0_1 != 0)),(by first|rfl|(simp;done)|(simp [*];done)),H',⟨by have:=HJ2.out;have:=HJ8.out;first|omega|exact Nat.le_refl _⟩,⟨gK BK270⟩,⟨by repeat (first|exact gB HB|refine below_set ?_ GE270.out)⟩⟩
       case rest =>
        clear HC17
        try clear c1 c2 p2 c5 c5b0 c5b1 c8 c10 c10b0 c10b1 c12 c16 c18 c18b0 c18b1 c19 c19b0 c21 c21b0 hcz13_0 hcz13_1 hcz13_2 hcz13_3 hcz14_0 hcz14_1 hcz14_2 hcz14_3 hcz15_0 hcz15_1 hcz15_2 hcz15_3 hcz20_0 hcz20_1 hcz20_2 hcz20_3 hcz22_0 hcz22_1 hcz22_2 hcz22_3 hcz23_0 hcz23_1 hcz23_2 hcz23_3 hcz24_0 hcz24_1 hcz24_2 hcz24_3 hcz7_0 hcz7_1 hcz7_2 hcz7_3 hfz13_0 hfz13_1 hfz13_2 hfz13_3 hfz14_0 hfz14_1 hfz14_2 hfz14_3 hfz15_0 hfz15_1 hfz15_2 hfz15_3 hfz20_0 hfz20_1 hfz20_2 hfz20_3 hfz22_0 hfz22_1 hfz22_2 hfz22_3 hfz23_0 hfz23_1 hfz23_2 hfz23_3 hfz24_0 hfz24_1 hfz24_2 hfz24_3 hfz7_0 hfz7_1 hfz7_2 hfz7_3 p2
        obtain ⟨kq,x58_16,rfl,HA,HJ16,BK270,HB⟩:=hcut
        cases kq with
        | zero=>exact absurd HA.out (by simp [spec_l1Is.j2])
        | succ kj16 =>
         have H:=HA.out
         clear HA
         simp only [spec_l1Is.j2] at H
         by_cases c25:x58_16=true
         ·subst c25
          have H1:(some false)=some r:=by rw [if_pos rfl] at H;exact H
          clear H
          have H:=H1
          clear H1
          obtain rfl:=Option.some.inj H
          go_wp2
          repeat (go_quiet (fail);try go_wp2)
          go_ret
          exact ⟨by first|rfl|(simp [errW_none,errW_some] <;> rfl)|(simp [*,errW_none,errW_some] <;> rfl),by repeat (first|exact gB HB|refine below_set ?_ GE270.out)⟩
         ·replace c25:=Bool.eq_false_iff.mpr c25
          subst c25
          have H1:(spec_l1Is.l0 kj16 a1 0 a0_0 a0_1 a0_2 l0_3)=some r:=by rw [if_neg (show ¬ (false=true) by decide)] at H;exact H
          clear H
          have H:=H1
          clear H1
          have H':=Aside0.mk H
          clear H
          go_wp2
          repeat (go_quiet (fail);try go_wp2)
          go_loopg [5] kj16 (fun kq v5 w'=>∃ (x5_4:Int),v5=.int .i64 x5_4∧Aside0 (spec_l1Is.l0 kq a1 x5_4 a0_0 a0_1 a0_2 l0_3=some r)∧Aside0 (kq≤kj16)∧Aside0 (w'.heap[gb270]?=some (.cells #[.int .i64 a0_0,.int .i64 a0_1,.string a0_2,(.slice A0_3 l0_3.length c0_3)] 27 (0,0)))∧Aside0 (Below w.heap.size w w'))
          case atStart=>exact ⟨(0),(by first|rfl|(simp;done)|(simp [*];done)),H',⟨Nat.le_refl _⟩,⟨gK BK270⟩,⟨by repeat (first|exact gB HB|refine below_set ?_ GE270.out)⟩⟩
          case round =>
           clear H'
           try clear c1 c2 p2 c5 c5b0 c5b1 c8 c10 c10b0 c10b1 c12 c16 c18 c18b0 c18b1 c19 c19b0 c21 c21b0 c25 hcz13_0 hcz13_1 hcz13_2 hcz13_3 hcz14_0 hcz14_1 hcz14_2 hcz14_3 hcz15_0 hcz15_1 hcz15_2 hcz15_3 hcz20_0 hcz20_1 hcz20_2 hcz20_3 hcz22_0 hcz22_1 hcz22_2 hcz22_3 hcz23_0 hcz23_1 hcz23_2 hcz23_3 hcz24_0 hcz24_1 hcz24_2 hcz24_3 hcz7_0 hcz7_1 hcz7_2 hcz7_3 hfz13_0 hfz13_1 hfz13_2 hfz13_3 hfz14_0 hfz14_1 hfz14_2 hfz14_3 hfz15_0 hfz15_1 hfz15_2 hfz15_3 hfz20_0 hfz20_1 hfz20_2 hfz20_3 hfz22_0 hfz22_1 hfz22_2 hfz22_3 hfz23_0 hfz23_1 hfz23_2 hfz23_3 hfz24_0 hfz24_1 hfz24_2 hfz24_3 hfz7_0 hfz7_1 hfz7_2 hfz7_3 p2
           (try clear BK270);(try clear HB)
           obtain ⟨x5_4,rfl,HA,HK4,BK270,HB⟩:=hrel
           cases gk with
           | zero=>exact absurd HA.out (by simp [spec_l1Is.l0])
           | succ k4 =>
            have H:=HA.out
            clear HA
            simp only [spec_l1Is.l0] at H
            by_cases c26:x5_4 < (l0_3.length:Int)
            ·rw [if_pos c26] at H
             have c26b0:decide (x5_4 < (l0_3.length:Int))=true:=decide_eq_true c26
             clear c26
             by_cases c27:0≤x5_4
             ·rw [if_pos c27] at H
              have c27b0:decide (0≤x5_4)=true:=decide_eq_true c27
              clear c27
              replace H:=Option.bind_eq_some_iff.mp H
              obtain ⟨t274,A280,H⟩:=H
              replace H:(if t274=true then (spec_l1Is.l0 k4 a1 (wrap64 (x5_4+1)) a0_0 a0_1 a0_2 l0_3) else (some false))=some r:=H
              have A28:=Aside0.mk A280
              clear A280
              by_cases c29:t274=true
              ·subst c29
               have H1:(spec_l1Is.l0 k4 a1 (wrap64 (x5_4+1)) a0_0 a0_1 a0_2 l0_3)=some r:=by rw [if_pos rfl] at H;exact H
               clear H
               have H:=H1
               clear H1
               have H':=Aside0.mk H
               clear H
               have hcz30_0:wr.cell? ⟨gb270,0,none⟩=some (.int .i64 a0_0):=(blk_cell BK270.out 0).trans rfl
               have hcz30_1:wr.cell? ⟨gb270,1,none⟩=some (.int .i64 a0_1):=(blk_cell BK270.out 1).trans rfl
               have hcz30_2:wr.cell? ⟨gb270,2,none⟩=some (.string a0_2):=(blk_cell BK270.out 2).trans rfl
               have hcz30_3:wr.cell? ⟨gb270,3,none⟩=some (.slice A0_3 l0_3.length c0_3):=(blk_cell BK270.out 3).trans rfl
               have hfz30_0:=blk_frozen BK270.out 0
               have hfz30_1:=blk_frozen BK270.out 1
               have hfz30_2:=blk_frozen BK270.out 2
               have hfz30_3:=blk_frozen BK270.out 3
               have p273:0≤(x5_4:Int):=of_decide_eq_true (by first|(with_reducible assumption)|assumption)
               have q273:x5_4 < (l0_3.length:Int):=of_decide_eq_true (by first|(with_reducible assumption)|assumption)
               obtain ⟨ad273,A273_3,c273_3,e273,hx273_0,hx273_1,hx273_2,hx273_3,hl273_3,hi273_3⟩:=at_TDoc HR0_3.out x5_4 p273 q273
               cases e273
               replace hx273_0:=(HB.out.cell (World.block_lt_of_cell? w _ hx273_0)).trans hx273_0
               replace hx273_1:=(HB.out.cell (World.block_lt_of_cell? w _ hx273_1)).trans hx273_1
               replace hx273_2:=(HB.out.cell (World.block_lt_of_cell? w _ hx273_2)).trans hx273_2
               replace hx273_3:=(HB.out.cell (World.block_lt_of_cell? w _ hx273_3)).trans hx273_3
               have HR273_3:=Aside0.mk hi273_3
               have HC273_3:=Aside0.mk hl273_3
               clear hi273_3 hl273_3
               replace p273:=eq_true p273
               replace q273:=eq_true q273
               go_wp2_with (first|(go_at_call 53;(with_reducible refine (ih k4 (by have:=HJ2.out;have:=HJ8.out;have:=HJ16.out;have:=HK4.out;omega) ((rd_TDoc l0_3 x5_4).f0) ((rd_TDoc l0_3 x5_4).f1) ((rd_TDoc l0_3 x5_4).f2) _ _ ((rd_TDoc l0_3 x5_4).f3) (wrap64 (a1 - 1)) true _ ?side1 ?side2 A28.out).mono ?_);(case side1=>exact gC (Kd.C_below HR273_3.out HB.out));(case side2=>exact HC273_3.out);rintro e w31 ⟨rfl,hb⟩;have n0_:=Aside0.mk (blk_below (g:=gb270) (o:=.cells #[.int .i64 a0_0,.int .i64 a0_1,.string a0_2,.slice (some ad273) l0_3.length c0_3] 27 (0,0)) (gK BK270) hb);have n1_:=Aside0.mk (below_step (by repeat (first|exact gB HB|refine below_set ?_ GE270.out)) hb);clear BK270;clear HB;have BK270:=n0_;have HB:=n1_;clear n0_ n1_;(try clear hb);(try clear hb2);(try clear hk);(try clear hi)))
               repeat (go_quiet (first|(go_at_call 53;(with_reducible refine (ih k4 (by have:=HJ2.out;have:=HJ8.out;have:=HJ16.out;have:=HK4.out;omega) ((rd_TDoc l0_3 x5_4).f0) ((rd_TDoc l0_3 x5_4).f1) ((rd_TDoc l0_3 x5_4).f2) _ _ ((rd_TDoc l0_3 x5_4).f3) (wrap64 (a1 - 1)) true _ ?side1 ?side2 A28.out).mono ?_);(case side1=>exact gC (Kd.C_below HR273_3.out HB.out));(case side2=>exact HC273_3.out);rintro e w31 ⟨rfl,hb⟩;have n0_:=Aside0.mk (blk_below (g:=gb270) (o:=.cells #[.int .i64 a0_0,.int .i64 a0_1,.string a0_2,.slice (some ad273) l0_3.length c0_3] 27 (0,0)) (gK BK270) hb);have n1_:=Aside0.mk (below_step (by repeat (first|exact gB HB|refine below_set ?_ GE270.out)) hb);clear BK270;clear HB;have BK270:=n0_;have HB:=n1_;clear n0_ n1_;(try clear hb);(try clear hb2);(try clear hk);(try clear hi)));try go_wp2_with (first|(go_at_call 53;(with_reducible refine (ih k4 (by have:=HJ2.out;have:=HJ8.out;have:=HJ16.out;have:=HK4.out;omega) ((rd_TDoc l0_3 x5_4).f0) ((rd_TDoc l0_3 x5_4).f1) ((rd_TDoc l0_3 x5_4).f2) _ _ ((rd_TDoc l0_3 x5_4).f3) (wrap64 (a1 - 1)) true _ ?side1 ?side2 A28.out).mono ?_);(case side1=>exact gC (Kd.C_below HR273_3.out HB.out));(case side2=>exact HC273_3.out);rintro e w31 ⟨rfl,hb⟩;have n0_:=Aside0.mk (blk_below (g:=gb270) (o:=.cells #[.int .i64 a0_0,.int .i64 a0_1,.string a0_2,.slice (some ad273) l0_3.length c0_3] 27 (0,0)) (gK BK270) hb);have n1_:=Aside0.mk (below_step (by repeat (first|exact gB HB|refine below_set ?_ GE270.out)) hb);clear BK270;clear HB;have BK270:=n0_;have HB:=n1_;clear n0_ n1_;(try clear hb);(try clear hb2);(try clear hk);(try clear hi))))
               go_roundg k4
               case measure=>have:=HJ2.out;have:=HJ8.out;have:=HJ16.out;have:=HK4.out;omega
               case rel=>exact ⟨(wrap64 (x5_4+1)),(by first|rfl|(simp;done)|(simp [*];done)),H',⟨by have:=HJ2.out;have:=HJ8.out;have:=HJ16.out;have:=HK4.out;omega⟩,⟨gK BK270⟩,⟨by repeat (first|exact gB HB|refine below_set ?_ GE270.out)⟩⟩
              ·replace c29:=Bool.eq_false_iff.mpr c29
               subst c29
               have H1:(some false)=some r:=by rw [if_neg (show ¬ (false=true) by decide)] at H;exact H
               clear H
               have H:=H1
               clear H1
               obtain rfl:=Option.some.inj H
               have hcz32_0:wr.cell? ⟨gb270,0,none⟩=some (.int .i64 a0_0):=(blk_cell BK270.out 0).trans rfl
               have hcz32_1:wr.cell? ⟨gb270,1,none⟩=some (.int .i64 a0_1):=(blk_cell BK270.out 1).trans rfl
               have hcz32_2:wr.cell? ⟨gb270,2,none⟩=some (.string a0_2):=(blk_cell BK270.out 2).trans rfl
               have hcz32_3:wr.cell? ⟨gb270,3,none⟩=some (.slice A0_3 l0_3.length c0_3):=(blk_cell BK270.out 3).trans rfl
               have hfz32_0:=blk_frozen BK270.out 0
               have hfz32_1:=blk_frozen BK270.out 1
               have hfz32_2:=blk_frozen BK270.out 2
               have hfz32_3:=blk_frozen BK270.out 3
               have p273:0≤(x5_4:Int):=of_decide_eq_true (by first|(with_reducible assumption)|assumption)
               have q273:x5_4 < (l0_3.length:Int):=of_decide_eq_true (by first|(with_reducible assumption)|assumption)
               (try clear hx273_0);(try clear hx273_1);(try clear hx273_2);(try clear hx273_3)
               obtain ⟨ad273,A273_3,c273_3,e273,hx273_0,hx273_1,hx273_2,hx273_3,hl273_3,hi273_3⟩:=at_TDoc HR0_3.out x5_4 p273 q273
               cases e273
               (try (have ea_:=Option.some.inj (hx273_3.symm.trans hw273_3);injection ea_ with ea_ en_ ec_;subst ea_;subst ec_;clear en_))
               replace hx273_0:=(HB.out.cell (World.block_lt_of_cell? w _ hx273_0)).trans hx273_0
               replace hx273_1:=(HB.out.cell (World.block_lt_of_cell? w _ hx273_1)).trans hx273_1
               replace hx273_2:=(HB.out.cell (World.block_lt_of_cell? w _ hx273_2)).trans hx273_2
               replace hx273_3:=(HB.out.cell (World.block_lt_of_cell? w _ hx273_3)).trans hx273_3
               have HR273_3:=Aside0.mk hi273_3
               have HC273_3:=Aside0.mk hl273_3
               clear hi273_3 hl273_3
               replace p273:=eq_true p273
               replace q273:=eq_true q273
               go_wp2_with (first|(go_at_call 53;(with_reducible refine (ih k4 (by have:=HJ2.out;have:=HJ8.out;have:=HJ16.out;have:=HK4.out;omega) ((rd_TDoc l0_3 x5_4).f0) ((rd_TDoc l0_3 x5_4).f1) ((rd_TDoc l0_3 x5_4).f2) _ _ ((rd_TDoc l0_3 x5_4).f3) (wrap64 (a1 - 1)) false _ ?side1 ?side2 A28.out).mono ?_);(case side1=>exact gC (Kd.C_below HR273_3.out HB.out));(case side2=>exact HC273_3.out);rintro e w33 ⟨rfl,hb⟩;have n0_:=Aside0.mk (blk_below (g:=gb270) (o:=.cells #[.int .i64 a0_0,.int .i64 a0_1,.string a0_2,.slice (some ad273) l0_3.length c0_3] 27 (0,0)) (gK BK270) hb);have n1_:=Aside0.mk (below_step (by repeat (first|exact gB HB|refine below_set ?_ GE270.out)) hb);clear BK270;clear HB;have BK270:=n0_;have HB:=n1_;clear n0_ n1_;(try clear hb);(try clear hb2);(try clear hk);(try clear hi)))
               repeat (go_quiet (first|(go_at_call 53;(with_reducible refine (ih k4 (by have:=HJ2.out;have:=HJ8.out;have:=HJ16.out;have:=HK4.out;omega) ((rd_TDoc l0_3 x5_4).f0) ((rd_TDoc l0_3 x5_4).f1) ((rd_TDoc l0_3 x5_4).f2) _ _ ((rd_TDoc l0_3 x5_4).f3) (wrap64 (a1 - 1)) false _ ?side1 ?side2 A28.out).mono ?_);(case side1=>exact gC (Kd.C_below HR273_3.out HB.out));(case side2=>exact HC273_3.out);rintro e w33 ⟨rfl,hb⟩;have n0_:=Aside0.mk (blk_below (g:=gb270) (o:=.cells #[.int .i64 a0_0,.int .i64 a0_1,.string a0_2,.slice (some ad273) l0_3.length c0_3] 27 (0,0)) (gK BK270) hb);have n1_:=Aside0.mk (below_step (by repeat (first|exact gB HB|refine below_set ?_ GE270.out)) hb);clear BK270;clear HB;have BK270:=n0_;have HB:=n1_;clear n0_ n1_;(try clear hb);(try clear hb2);(try clear hk);(try clear hi)));try go_wp2_with (first|(go_at_call 53;(with_reducible refine (ih k4 (by have:=HJ2.out;have:=HJ8.out;have:=HJ16.out;have:=HK4.out;omega) ((rd_TDoc l0_3 x5_4).f0) ((rd_TDoc l0_3 x5_4).f1) ((rd_TDoc l0_3 x5_4).f2) _ _ ((rd_TDoc l0_3 x5_4).f3) (wrap64 (a1 - 1)) false _ ?side1 ?side2 A28.out).mono ?_);(case side1=>exact gC (Kd.C_below HR273_3.out HB.out));(case side2=>exact HC273_3.out);rintro e w33 ⟨rfl,hb⟩;have n0_:=Aside0.mk (blk_below (g:=gb270) (o:=.cells #[.int .i64 a0_0,.int .i64 a0_1,.string a0_2,.slice (some ad273) l0_3.length c0_3] 27 (0,0)) (gK BK270) hb);have n1_:=Aside0.mk (below_step (by repeat (first|exact gB HB|refine below_set ?_ GE270.out)) hb);clear BK270;clear HB;have BK270:=n0_;have HB:=n1_;clear n0_ n1_;(try clear hb);(try clear hb2);(try clear hk);(try clear hi))))
               go_ret
               exact ⟨by first|rfl|(simp [errW_none,errW_some] <;> rfl)|(simp [*,errW_none,errW_some] <;> rfl),by repeat (first|exact gB HB|refine below_set ?_ GE270.out)⟩
             ·rw [if_neg c27] at H
              exact absurd H (by simp)
            ·rw [if_neg c26] at H
             have c26b0:decide (x5_4 < (l0_3.length:Int))=false:=decide_eq_false c26
             clear c26
             obtain rfl:=Option.some.inj H
             have hcz34_0:wr.cell? ⟨gb270,0,none⟩=some (.int .i64 a0_0):=(blk_cell BK270.out 0).trans rfl
             have hcz34_1:wr.cell? ⟨gb270,1,none⟩=some (.int .i64 a0_1):=(blk_cell BK270.out 1).trans rfl
             have hcz34_2:wr.cell? ⟨gb270,2,none⟩=some (.string a0_2):=(blk_cell BK270.out 2).trans rfl
             have hcz34_3:wr.cell? ⟨gb270,3,none⟩=some (.slice A0_3 l0_3.length c0_3):=(blk_cell BK270.out 3).trans rfl
             have hfz34_0:=blk_frozen BK270.out 0
             have hfz34_1:=blk_frozen BK270.out 1
             have hfz34_2:=blk_frozen BK270.out 2
             have hfz34_3:=blk_frozen BK270.out 3
             go_wp2
             repeat (go_quiet (fail);try go_wp2)
             go_ret
             exact ⟨by first|rfl|(simp [errW_none,errW_some] <;> rfl)|(simp [*,errW_none,errW_some] <;> rfl),by repeat (first|exact gB HB|refine below_set ?_ GE270.out)⟩
end Go.Proofs.Ytdhdfmmefghijaa.P
namespace Go.Proofs.Ytdhdfmmefghijaa.P
open Go.RowKit Go.Proofs.YtdhdfmmefghijaaW.PrintWords Go.Proofs.YtdhdfmmefghijaaW.PrintLast Go.Proofs.YtdhdfmmefghijaaW.PrintMore
attribute [local go_sem] max2_int min2_int max_two min_two max_three min_three max_four min_four
set_option linter.unusedVariables false
set_option linter.unusedSimpArgs false
mutual
def spec_l1Count.l0:Nat→Int→Int→Int→Int→ByteArray→List (SDoc)→Option (Int)
 | 0,_,_,_,_,_,_=>none
 | k+1,x3,x4,x276000,x276001,x276002,x276003=>if x4 < (x276003.length:Int) then (if 0≤x4 then ((spec_l1Count.f k ((rd_TDoc x276003 x4).f0) ((rd_TDoc x276003 x4).f1) ((rd_TDoc x276003 x4).f2) ((rd_TDoc x276003 x4).f3)).bind fun t277=>(spec_l1Count.l0 k (wrap64 (x3+t277)) (wrap64 (x4+1)) x276000 x276001 x276002 x276003)) else (none)) else (some x3)
def spec_l1Count.f:Nat→Int→Int→ByteArray→List (SDoc)→Option (Int)
 | 0,_,_,_,_=>none
 | k+1,a0_0,a0_1,a0_2,l0_3=>spec_l1Count.l0 k 1 0 a0_0 a0_1 a0_2 l0_3
end
set_option maxHeartbeats 8000000 in
set_option maxRecDepth 100000 in
theorem spec_l1Count.calls (k:Nat):∀ (a0_0:Int) (a0_1:Int) (a0_2:ByteArray) (A0_3:Option Addr) (c0_3:Nat) (l0_3:List (SDoc)) (r:Int) (w:World) (hr0_3:Kd.C k27 w A0_3 l0_3.length l0_3) (hc0_3:l0_3.length≤c0_3) (h:spec_l1Count.f k a0_0 a0_1 a0_2 l0_3=some r),
  Calls Try.prog 54 #[.agg #[.int .i64 a0_0,.int .i64 a0_1,.string a0_2,.slice A0_3 l0_3.length c0_3]] w fun e w'=>e=.returned (.int .i64 r)∧Below w.heap.size w w':=by
 induction k using Nat.strongRecOn with
 | _ k ih =>
 intro a0_0 a0_1 a0_2 A0_3 c0_3 l0_3 r w hr0_3 hc0_3 h
 cases k with
 | zero=>exact absurd h (by simp [spec_l1Count.f])
 | succ k =>
 simp only [spec_l1Count.f] at h
 have hu27:=Try.underlying27
 have HR0_3:=Aside0.mk hr0_3
 have HC0_3:=Aside0.mk hc0_3
 clear hr0_3 hc0_3
 have HB:=Aside0.mk (Below.refl w.heap.size w)
 have H:(spec_l1Count.l0 k 1 0 a0_0 a0_1 a0_2 l0_3)=some r:=h
 clear h
 have H':=Aside0.mk H
 clear H
 go_enter Try.func54,Try.ntmps54
 go_wp2_with (first|((with_reducible refine gate_dst (N:=1) rfl ?_);refine box_event ?hg (N:=1) ?hd (cs:=#[.int .i64 a0_0,.int .i64 a0_1,.string a0_2,.slice A0_3 l0_3.length c0_3]) (t:=27) ?hr ?_;(case hd=>rfl);(case hg=>rfl);(case hr=>first|(go_simp;done)|(go_simp;rfl));intro gb275 hg w2 hbox hb;have n0_:=Aside0.mk (below_step (by repeat (first|(with_reducible first|exact HB.out|apply below_alloc|apply pw_below_drewN|apply below_drew1)|exact HB.out)) hb);have n1_:=Aside0.mk (hbox);have n2_:=Aside0.mk ((by rw [hg];exact (below_size (by repeat (first|(with_reducible first|exact HB.out|apply below_alloc|apply pw_below_drewN|apply below_drew1)|exact HB.out))):w.heap.size≤gb275));have n3_:=Aside0.mk ((by rw [hg];exact (below_size (by repeat (first|(with_reducible first|exact HB.out|apply below_alloc|apply pw_below_drewN|apply below_drew1)|exact HB.out))):w.heap.size≤gb275));clear HB;have HB:=n0_;have BK275:=n1_;have GW275:=n2_;have GE275:=n3_;clear n0_ n1_ n2_ n3_;clear hb hbox hg))
 go_loopg [3,4] k (fun kq v3 v4 w'=>∃ (x3_1:Int) (x4_1:Int),v3=.int .i64 x3_1∧v4=.int .i64 x4_1∧Aside0 (spec_l1Count.l0 kq x3_1 x4_1 a0_0 a0_1 a0_2 l0_3=some r)∧Aside0 (kq≤k)∧Aside0 (w'.heap[gb275]?=some (.cells #[.int .i64 a0_0,.int .i64 a0_1,.string a0_2,(.slice A0_3 l0_3.length c0_3)] 27 (0,0)))∧Aside0 (Below w.heap.size w w'))
 case atStart=>exact ⟨(1),(0),(by first|rfl|(simp;done)|(simp [*];done)),(by first|rfl|(simp;done)|(simp [*];done)),H',⟨Nat.le_refl _⟩,⟨by (with_reducible repeat (first|refine blk_drewN ?_ _|refine blk_drew ?_|refine blk_alloc ?_ _));exact BK275.out⟩,⟨by repeat (first|(with_reducible first|exact HB.out|apply below_alloc|apply pw_below_drewN|apply below_drew1|refine below_set ?_ GE275.out)|exact HB.out)⟩⟩
 case round =>
  clear H'
  try clear p2
  (try clear BK275);(try clear HB)
  obtain ⟨x3_1,x4_1,rfl,rfl,HA,HK1,BK275,HB⟩:=hrel
  cases gk with
  | zero=>exact absurd HA.out (by simp [spec_l1Count.l0])
  | succ k1 =>
   have H:=HA.out
   clear HA
   simp only [spec_l1Count.l0] at H
   by_cases c3:x4_1 < (l0_3.length:Int)
   ·rw [if_pos c3] at H
    have c3b0:decide (x4_1 < (l0_3.length:Int))=true:=decide_eq_true c3
    clear c3
    by_cases c4:0≤x4_1
    ·rw [if_pos c4] at H
     have c4b0:decide (0≤x4_1)=true:=decide_eq_true c4
     clear c4
     replace H:=Option.bind_eq_some_iff.mp H
     obtain ⟨t277,A50,H⟩:=H
     replace H:(spec_l1Count.l0 k1 (wrap64 (x3_1+t277)) (wrap64 (x4_1+1)) a0_0 a0_1 a0_2 l0_3)=some r:=H
     have A5:=Aside0.mk A50
     clear A50
     have H':=Aside0.mk H
     clear H
     have hcz6_0:wr.cell? ⟨gb275,0,none⟩=some (.int .i64 a0_0):=(blk_cell BK275.out 0).trans rfl
     have hcz6_1:wr.cell? ⟨gb275,1,none⟩=some (.int .i64 a0_1):=(blk_cell BK275.out 1).trans rfl
     have hcz6_2:wr.cell? ⟨gb275,2,none⟩=some (.string a0_2):=(blk_cell BK275.out 2).trans rfl
     have hcz6_3:wr.cell? ⟨gb275,3,none⟩=some (.slice A0_3 l0_3.length c0_3):=(blk_cell BK275.out 3).trans rfl
     have hfz6_0:=blk_frozen BK275.out 0
     have hfz6_1:=blk_frozen BK275.out 1
     have hfz6_2:=blk_frozen BK275.out 2
     have hfz6_3:=blk_frozen BK275.out 3
     have p276:0≤(x4_1:Int):=of_decide_eq_true (by first|(with_reducible assumption)|assumption)
     have q276:x4_1 < (l0_3.length:Int):=of_decide_eq_true (by first|(with_reducible assumption)|assumption)
     obtain ⟨ad276,A276_3,c276_3,e276,hx276_0,hx276_1,hx276_2,hx276_3,hl276_3,hi276_3⟩:=at_TDoc HR0_3.out x4_1 p276 q276
     cases e276
     replace hx276_0:=(HB.out.cell (World.block_lt_of_cell? w _ hx276_0)).trans hx276_0
     replace hx276_1:=(HB.out.cell (World.block_lt_of_cell? w _ hx276_1)).trans hx276_1
     replace hx276_2:=(HB.out.cell (World.block_lt_of_cell? w _ hx276_2)).trans hx276_2
     replace hx276_3:=(HB.out.cell (World.block_lt_of_cell? w _ hx276_3)).trans hx276_3
     have HR276_3:=Aside0.mk hi276_3
     have HC276_3:=Aside0.mk hl276_3
     clear hi276_3 hl276_3
     replace p276:=eq_true p276
     replace q276:=eq_true q276
     go_wp2_with (first|((with_reducible refine gate_callee (f:=54) rfl ?_);refine goesL_ (some 18) rfl rfl Try.func54 (by kernel_rfl) rfl #[.agg #[.int .i64 ((rd_TDoc l0_3 x4_1).f0),.int .i64 ((rd_TDoc l0_3 x4_1).f1),.string ((rd_TDoc l0_3 x4_1).f2),.slice A276_3 ((rd_TDoc l0_3 x4_1).f3).length c276_3]] rfl (by (try simp only [List.map_toArray,List.map_cons,List.map_nil]);first|done|rfl|(simp only [List.length_drop,List.length_take];rfl)) ?_;(with_reducible refine (ih k1 (by have:=HK1.out;omega) ((rd_TDoc l0_3 x4_1).f0) ((rd_TDoc l0_3 x4_1).f1) ((rd_TDoc l0_3 x4_1).f2) _ _ ((rd_TDoc l0_3 x4_1).f3) t277 _ ?side1 ?side2 A5.out).mono ?_);(case side1=>repeat (first|exact (Kd.C_below HR276_3.out HB.out)|(with_reducible refine Kd.C_alloc ?_ _)|(with_reducible refine Kd.C_drewN ?_ _)|(with_reducible refine Kd.C_drew ?_)));(case side2=>exact HC276_3.out);rintro e w7 ⟨rfl,hb⟩;refine ⟨_,rfl,?_⟩;have n0_:=Aside0.mk (blk_below (g:=gb275) (o:=.cells #[.int .i64 a0_0,.int .i64 a0_1,.string a0_2,.slice (some ad276) l0_3.length c0_3] 27 (0,0)) (by (with_reducible repeat (first|refine blk_drewN ?_ _|refine blk_drew ?_|refine blk_alloc ?_ _));exact BK275.out) hb);have n1_:=Aside0.mk (below_step (by repeat (first|(with_reducible first|exact HB.out|apply below_alloc|apply pw_below_drewN|apply below_drew1|refine below_set ?_ GE275.out)|exact HB.out)) hb);clear BK275;clear HB;have BK275:=n0_;have HB:=n1_;clear n0_ n1_;(try clear hb);(try clear hb2);(try clear hk);(try clear hi)))
     go_roundg k1
     case measure=>have:=HK1.out;omega
     case rel=>exact ⟨(wrap64 (x3_1+t277)),(wrap64 (x4_1+1)),(by first|rfl|(simp;done)|(simp [*];done)),(by first|rfl|(simp;done)|(simp [*];done)),H',⟨by have:=HK1.out;omega⟩,⟨by (with_reducible repeat (first|refine blk_drewN ?_ _|refine blk_drew ?_|refine blk_alloc ?_ _));exact BK275.out⟩,⟨by repeat (first|(with_reducible first|exact HB.out|apply below_alloc|apply pw_below_drewN|apply below_drew1|refine below_set ?_ GE275.out)|exact HB.out)⟩⟩
    ·rw [if_neg c4] at H
     exact absurd H (by simp)
   ·rw [if_neg c3] at H
    have c3b0:decide (x4_1 < (l0_3.length:Int))=false:=decide_eq_false c3
    clear c3
    obtain rfl:=Option.some.inj H
    have hcz8_0:wr.cell? ⟨gb275,0,none⟩=some (.int .i64 a0_0):=(blk_cell BK275.out 0).trans rfl
    have hcz8_1:wr.cell? ⟨gb275,1,none⟩=some (.int .i64 a0_1):=(blk_cell BK275.out 1).trans rfl
    have hcz8_2:wr.cell? ⟨gb275,2,none⟩=some (.string a0_2):=(blk_cell BK275.out 2).trans rfl
    have hcz8_3:wr.cell? ⟨gb275,3,none⟩=some (.slice A0_3 l0_3.length c0_3):=(blk_cell BK275.out 3).trans rfl
    have hfz8_0:=blk_frozen BK275.out 0
    have hfz8_1:=blk_frozen BK275.out 1
    have hfz8_2:=blk_frozen BK275.out 2
    have hfz8_3:=blk_frozen BK275.out 3
    go_wp2
    go_ret
    exact ⟨by first|rfl|(simp [errW_none,errW_some] <;> rfl)|(simp [*,errW_none,errW_some] <;> rfl),by repeat (first|(with_reducible first|exact HB.out|apply below_alloc|apply pw_below_drewN|apply below_drew1|refine below_set ?_ GE275.out)|exact HB.out)⟩
end Go.Proofs.Ytdhdfmmefghijaa.P
namespace Go.Proofs.Ytdhdfmmefghijaa.P
open Go.RowKit Go.Proofs.YtdhdfmmefghijaaW.PrintWords Go.Proofs.YtdhdfmmefghijaaW.PrintLast Go.Proofs.YtdhdfmmefghijaaW.PrintMore
attribute [local go_sem] max2_int min2_int max_two min_two max_three min_three max_four min_four
set_option linter.unusedVariables false
set_option linter.unusedSimpArgs false
def spec_DocValid.f (k:Nat) (a0_0:Int) (a0_1:Int) (a0_2:ByteArray) (l0_3:List (SDoc)):Option (Bool):=(spec_l1Is.f k a0_0 a0_1 a0_2 l0_3 40).bind fun t279=>(if t279=true then ((spec_l1Count.f k a0_0 a0_1 a0_2 l0_3).bind fun t280=>(some (decide (t280≤80)))) else (some false))
set_option maxHeartbeats 8000000 in
set_option maxRecDepth 100000 in
theorem spec_DocValid.calls (k:Nat) (a0_0:Int) (a0_1:Int) (a0_2:ByteArray) (A0_3:Option Addr) (c0_3:Nat) (l0_3:List (SDoc)) (r:Bool) (w:World) (hr0_3:Kd.C k27 w A0_3 l0_3.length l0_3) (hc0_3:l0_3.length≤c0_3) (h:spec_DocValid.f k a0_0 a0_1 a0_2 l0_3=some r) :
  Calls Try.prog 25 #[.agg #[.int .i64 a0_0,.int .i64 a0_1,.string a0_2,.slice A0_3 l0_3.length c0_3]] w fun e w'=>e=.returned (.bool r)∧Below w.heap.size w w':=by
 have hu27:=Try.underlying27
 have HR0_3:=Aside0.mk hr0_3
 have HC0_3:=Aside0.mk hc0_3
 clear hr0_3 hc0_3
 have HB:=Aside0.mk (Below.refl w.heap.size w)
 have H:((spec_l1Is.f k a0_0 a0_1 a0_2 l0_3 40).bind fun t279=>(if t279=true then ((spec_l1Count.f k a0_0 a0_1 a0_2 l0_3).bind fun t280=>(some (decide (t280≤80)))) else (some false)))=some r:=h
 clear h
 replace H:=Option.bind_eq_some_iff.mp H
 obtain ⟨t279,A20,H⟩:=H
 replace H:(if t279=true then ((spec_l1Count.f k a0_0 a0_1 a0_2 l0_3).bind fun t280=>(some (decide (t280≤80)))) else (some false))=some r:=H
 have A2:=Aside0.mk A20
 clear A20
 by_cases c3:t279=true
 ·subst c3
  have H1:((spec_l1Count.f k a0_0 a0_1 a0_2 l0_3).bind fun t280=>(some (decide (t280≤80))))=some r:=by rw [if_pos rfl] at H;exact H
  clear H
  have H:=H1
  clear H1
  replace H:=Option.bind_eq_some_iff.mp H
  obtain ⟨t280,A40,H⟩:=H
  replace H:(some (decide (t280≤80)))=some r:=H
  have A4:=Aside0.mk A40
  clear A40
  obtain rfl:=Option.some.inj H
  go_enter Try.func25,Try.ntmps25
  go_wp2_with (first|((with_reducible refine gate_dst (N:=1) rfl ?_);refine box_event ?hg (N:=1) ?hd (cs:=#[.int .i64 a0_0,.int .i64 a0_1,.string a0_2,.slice A0_3 l0_3.length c0_3]) (t:=27) ?hr ?_;(case hd=>rfl);(case hg=>rfl);(case hr=>first|(go_simp;done)|(go_simp;rfl));intro gb278 hg w5 hbox hb;have n0_:=Aside0.mk (below_step (by repeat (first|(with_reducible first|exact HB.out|apply below_alloc|apply pw_below_drewN|apply below_drew1)|exact HB.out)) hb);have n1_:=Aside0.mk (hbox);have n2_:=Aside0.mk ((by rw [hg];exact (below_size (by repeat (first|(with_reducible first|exact HB.out|apply below_alloc|apply pw_below_drewN|apply below_drew1)|exact HB.out))):w.heap.size≤gb278));have n3_:=Aside0.mk ((by rw [hg];exact (below_size (by repeat (first|(with_reducible first|exact HB.out|apply below_alloc|apply pw_below_drewN|apply below_drew1)|exact HB.out))):w.heap.size≤gb278));clear HB;have HB:=n0_;have BK278:=n1_;have GW278:=n2_;have GE278:=n3_;clear n0_ n1_ n2_ n3_;clear hb hbox hg;have hcz6_0:w5.cell? ⟨gb278,0,none⟩=some (.int .i64 a0_0):=(blk_cell BK278.out 0).trans rfl;have hcz6_1:w5.cell? ⟨gb278,1,none⟩=some (.int .i64 a0_1):=(blk_cell BK278.out 1).trans rfl;have hcz6_2:w5.cell? ⟨gb278,2,none⟩=some (.string a0_2):=(blk_cell BK278.out 2).trans rfl;have hcz6_3:w5.cell? ⟨gb278,3,none⟩=some (.slice A0_3 l0_3.length c0_3):=(blk_cell BK278.out 3).trans rfl;have hfz6_0:=blk_frozen BK278.out 0;have hfz6_1:=blk_frozen BK278.out 1;have hfz6_2:=blk_frozen BK278.out 2;have hfz6_3:=blk_frozen BK278.out 3)|((with_reducible refine gate_callee (f:=53) rfl ?_);refine goesL_ (some 4) rfl rfl Try.func53 (by kernel_rfl) rfl #[.agg #[.int .i64 a0_0,.int .i64 a0_1,.string a0_2,.slice A0_3 l0_3.length c0_3],.int .i64 40] rfl (by (try simp only [List.map_toArray,List.map_cons,List.map_nil]);first|done|rfl|(simp only [List.length_drop,List.length_take];rfl)) ?_;(with_reducible refine (spec_l1Is.calls k a0_0 a0_1 a0_2 _ _ l0_3 40 true _ ?side1 ?side2 A2.out).mono ?_);(case side1=>repeat (first|exact (Kd.C_below HR0_3.out HB.out)|(with_reducible refine Kd.C_alloc ?_ _)|(with_reducible refine Kd.C_drewN ?_ _)|(with_reducible refine Kd.C_drew ?_)));(case side2=>exact HC0_3.out);rintro e w7 ⟨rfl,hb⟩;refine ⟨_,rfl,?_⟩;have n0_:=Aside0.mk (blk_below (g:=gb278) (o:=.cells #[.int .i64 a0_0,.int .i64 a0_1,.string a0_2,.slice A0_3 l0_3.length c0_3] 27 (0,0)) (by (with_reducible repeat (first|refine blk_drewN ?_ _|refine blk_drew ?_|refine blk_alloc ?_ _));exact BK278.out) hb);have n1_:=Aside0.mk (below_step (by repeat (first|(with_reducible first|exact HB.out|apply below_alloc|apply pw_below_drewN|apply below_drew1|refine below_set ?_ GE278.out)|exact HB.out)) hb);clear BK278;clear HB;have BK278:=n0_;have HB:=n1_;clear n0_ n1_;(try clear hb);(try clear hb2);(try clear hk);(try clear hi);have hcz8_0:w7.cell? ⟨gb278,0,none⟩=some (.int .i64 a0_0):=(blk_cell BK278.out 0).trans rfl;have hcz8_1:w7.cell? ⟨gb278,1,none⟩=some (.int .i64 a0_1):=(blk_cell BK278.out 1).trans rfl;have hcz8_2:w7.cell? ⟨gb278,2,none⟩=some (.string a0_2):=(blk_cell BK278.out 2).trans rfl;have hcz8_3:w7.cell? ⟨gb278,3,none⟩=some (.slice A0_3 l0_3.length c0_3):=(blk_cell BK278.out 3).trans rfl;have hfz8_0:=blk_frozen BK278.out 0;have hfz8_1:=blk_frozen BK278.out 1;have hfz8_2:=blk_frozen BK278.out 2;have hfz8_3:=blk_frozen BK278.out 3)|(go_at_call 54;(with_reducible refine (spec_l1Count.calls k a0_0 a0_1 a0_2 _ _ l0_3 t280 _ ?side1 ?side2 A4.out).mono ?_);(case side1=>repeat (first|exact (Kd.C_below HR0_3.out HB.out)|(with_reducible refine Kd.C_alloc ?_ _)|(with_reducible refine Kd.C_drewN ?_ _)|(with_reducible refine Kd.C_drew ?_)));(case side2=>exact HC0_3.out);rintro e w9 ⟨rfl,hb⟩;have n0_:=Aside0.mk (blk_below (g:=gb278) (o:=.cells #[.int .i64 a0_0,.int .i64 a0_1,.string a0_2,.slice A0_3 l0_3.length c0_3] 27 (0,0)) (by (with_reducible repeat (first|refine blk_drewN ?_ _|refine blk_drew ?_|refine blk_alloc ?_ _));exact BK278.out) hb);have n1_:=Aside0.mk (below_step (by repeat (first|(with_reducible first|exact HB.out|apply below_alloc|apply pw_below_drewN|apply below_drew1|refine below_set ?_ GE278.out)|exact HB.out)) hb);clear BK278;clear HB;have BK278:=n0_;have HB:=n1_;clear n0_ n1_;(try clear hb);(try clear hb2);(try clear hk);(try clear hi)))
  go_ret
  exact ⟨by first|rfl|(simp [errW_none,errW_some] <;> rfl)|(simp [*,errW_none,errW_some] <;> rfl),by repeat (first|(with_reducible first|exact HB.out|apply below_alloc|apply pw_below_drewN|apply below_drew1|refine below_set ?_ GE278.out)|exact HB.out)⟩
 ·replace c3:=Bool.eq_false_iff.mpr c3
  subst c3
  have H1:(some false)=some r:=by rw [if_neg (show ¬ (false=true) by decide)] at H;exact H
  clear H
  have H:=H1
  clear H1
  obtain rfl:=Option.some.inj H
  go_enter Try.func25,Try.ntmps25
  go_wp2_with (first|((with_reducible refine gate_dst (N:=1) rfl ?_);refine box_event ?hg (N:=1) ?hd (cs:=#[.int .i64 a0_0,.int .i64 a0_1,.string a0_2,.slice A0_3 l0_3.length c0_3]) (t:=27) ?hr ?_;(case hd=>rfl);(case hg=>rfl);(case hr=>first|(go_simp;done)|(go_simp;rfl));intro gb278 hg w10 hbox hb;have n0_:=Aside0.mk (below_step (by repeat (first|(with_reducible first|exact HB.out|apply below_alloc|apply pw_below_drewN|apply below_drew1)|exact HB.out)) hb);have n1_:=Aside0.mk (hbox);have n2_:=Aside0.mk ((by rw [hg];exact (below_size (by repeat (first|(with_reducible first|exact HB.out|apply below_alloc|apply pw_below_drewN|apply below_drew1)|exact HB.out))):w.heap.size≤gb278));have n3_:=Aside0.mk ((by rw [hg];exact (below_size (by repeat (first|(with_reducible first|exact HB.out|apply below_alloc|apply pw_below_drewN|apply below_drew1)|exact HB.out))):w.heap.size≤gb278));clear HB;have HB:=n0_;have BK278:=n1_;have GW278:=n2_;have GE278:=n3_;clear n0_ n1_ n2_ n3_;clear hb hbox hg;have hcz11_0:w10.cell? ⟨gb278,0,none⟩=some (.int .i64 a0_0):=(blk_cell BK278.out 0).trans rfl;have hcz11_1:w10.cell? ⟨gb278,1,none⟩=some (.int .i64 a0_1):=(blk_cell BK278.out 1).trans rfl;have hcz11_2:w10.cell? ⟨gb278,2,none⟩=some (.string a0_2):=(blk_cell BK278.out 2).trans rfl;have hcz11_3:w10.cell? ⟨gb278,3,none⟩=some (.slice A0_3 l0_3.length c0_3):=(blk_cell BK278.out 3).trans rfl;have hfz11_0:=blk_frozen BK278.out 0;have hfz11_1:=blk_frozen BK278.out 1;have hfz11_2:=blk_frozen BK278.out 2;have hfz11_3:=blk_frozen BK278.out 3)|((with_reducible refine gate_callee (f:=53) rfl ?_);refine goesL_ (some 4) rfl rfl Try.func53 (by kernel_rfl) rfl #[.agg #[.int .i64 a0_0,.int .i64 a0_1,.string a0_2,.slice A0_3 l0_3.length c0_3],.int .i64 40] rfl (by (try simp only [List.map_toArray,List.map_cons,List.map_nil]);first|done|rfl|(simp only [List.length_drop,List.length_take];rfl)) ?_;(with_reducible refine (spec_l1Is.calls k a0_0 a0_1 a0_2 _ _ l0_3 40 false _ ?side1 ?side2 A2.out).mono ?_);(case side1=>repeat (first|exact (Kd.C_below HR0_3.out HB.out)|(with_reducible refine Kd.C_alloc ?_ _)|(with_reducible refine Kd.C_drewN ?_ _)|(with_reducible refine Kd.C_drew ?_)));(case side2=>exact HC0_3.out);rintro e w12 ⟨rfl,hb⟩;refine ⟨_,rfl,?_⟩;have n0_:=Aside0.mk (blk_below (g:=gb278) (o:=.cells #[.int .i64 a0_0,.int .i64 a0_1,.string a0_2,.slice A0_3 l0_3.length c0_3] 27 (0,0)) (by (with_reducible repeat (first|refine blk_drewN ?_ _|refine blk_drew ?_|refine blk_alloc ?_ _));exact BK278.out) hb);have n1_:=Aside0.mk (below_step (by repeat (first|(with_reducible first|exact HB.out|apply below_alloc|apply pw_below_drewN|apply below_drew1|refine below_set ?_ GE278.out)|exact HB.out)) hb);clear BK278;clear HB;have BK278:=n0_;have HB:=n1_;clear n0_ n1_;(try clear hb);(try clear hb2);(try clear hk);(try clear hi)))
  go_ret
  exact ⟨by first|rfl|(simp [errW_none,errW_some] <;> rfl)|(simp [*,errW_none,errW_some] <;> rfl),by repeat (first|(with_reducible first|exact HB.out|apply below_alloc|apply pw_below_drewN|apply below_drew1|refine below_set ?_ GE278.out)|exact HB.out)⟩
end Go.Proofs.Ytdhdfmmefghijaa.P
namespace Go.Proofs.Ytdhdfmmefghijaa.P
open Go.RowKit Go.Proofs.YtdhdfmmefghijaaW.PrintWords Go.Proofs.YtdhdfmmefghijaaW.PrintLast Go.Proofs.YtdhdfmmefghijaaW.PrintMore
attribute [local go_sem] max2_int min2_int max_two min_two max_three min_three max_four min_four
set_option linter.unusedVariables false
set_option linter.unusedSimpArgs false
mutual
def spec_l1Word.j1:Nat→ByteArray→Int→Int→Option (Int × Int × ByteArray × (List (SDoc)) × Int)
 | 0,_,_,_=>none
 | k+1,x0,x1,x6=>if x6 ≥ (x0.size:Int) then (some (0,0,(⟨#[]⟩:ByteArray),([]:List (SDoc)),(-1))) else (if 0≤(wrap64 (x1+1)) then (if (wrap64 (x1+1))≤x6 then (if x6≤(x0.size:Int) then (some (2,0,x0.extract ((wrap64 (x1+1)):Int).toNat (x6:Int).toNat,([]:List (SDoc)),wrap64 (x6+1))) else (none)) else (none)) else (none))
def spec_l1Word.l0:Nat→ByteArray→Int→Int→Option (Int × Int × ByteArray × (List (SDoc)) × Int)
 | 0,_,_,_=>none
 | k+1,x0,x1,x6=>if x6 < (x0.size:Int) then (if 0≤x6 then (if (bt x0 x6)=34 then (spec_l1Word.j1 k x0 x1 x6) else (spec_l1Word.l0 k x0 x1 (wrap64 (x6+1)))) else (none)) else (spec_l1Word.j1 k x0 x1 x6)
end
def spec_l1Word.f (k:Nat) (a0:ByteArray) (a1:Int):Option (Int × Int × ByteArray × (List (SDoc)) × Int):=spec_l1Word.l0 k a0 a1 (wrap64 (a1+1))
set_option maxHeartbeats 8000000 in
set_option maxRecDepth 100000 in
theorem spec_l1Word.calls (k:Nat) (a0:ByteArray) (a1:Int) (r1:Int) (r2:Int) (r3:ByteArray) (r4:List (SDoc)) (r5:Int) (w:World) (h:spec_l1Word.f k a0 a1=some (r1,r2,r3,r4,r5)) :
  Calls Try.prog 76 #[.string a0,.int .i64 a1] w fun e w'=>∃ v3_:Value,e=.returned (.tuple #[.agg #[.int .i64 r1,.int .i64 r2,.string r3,v3_],.int .i64 r5])∧Kd.R k27 27 w' w.heap.size (fun _=>True) v3_ r4∧Below w.heap.size w w':=by
 have hu27:=Try.underlying27
 have HB:=Aside0.mk (Below.refl w.heap.size w)
 have H:(spec_l1Word.l0 k a0 a1 (wrap64 (a1+1)))=some (r1,r2,r3,r4,r5):=h
 clear h
 have HC3:=Aside0.mk H
 clear H
 go_enter Try.func76,Try.ntmps76
 go_upto_block 0 with (first|((with_reducible refine gate_dst (N:=4) rfl ?_);refine box_event ?hg (N:=4) ?hd (cs:=#[.int .i64 0,.int .i64 0,.string (⟨#[]⟩:ByteArray),.slice none 0 0]) (t:=27) ?hr ?_;(case hd=>rfl);(case hg=>rfl);(case hr=>first|(go_simp;done)|(go_simp;rfl));intro gb281 hg w4 hbox hb;have n0_:=Aside0.mk (below_step (gB HB) hb);have n1_:=Aside0.mk (hbox);have n2_:=Aside0.mk ((by rw [hg];exact (below_size (gB HB)):w.heap.size≤gb281));have n3_:=Aside0.mk ((by rw [hg];exact (below_size (gB HB)):w.heap.size≤gb281));clear HB;have HB:=n0_;have BK281:=n1_;have GW281:=n2_;have GE281:=n3_;clear n0_ n1_ n2_ n3_;clear hb hbox hg))
 (try simp only [Act.put,List.setIfInBounds_toArray,List.set_cons_zero,List.set_cons_succ])
 go_cut [6] (fun v6 wc=>∃ (kq:Nat) (x6_2:Int),v6=.int .i64 x6_2∧Aside0 (spec_l1Word.j1 kq a0 a1 x6_2=some (r1,r2,r3,r4,r5))∧Aside0 (kq≤k)∧Aside0 (wc.heap[gb281]?=some (.cells #[.int .i64 0,.int .i64 0,.string (⟨#[]⟩:ByteArray),(.slice none 0 0)] 27 (0,0)))∧Aside0 (Below w.heap.size w wc))
 case first =>
  have H:=HC3.out
  clear HC3
  have H':=Aside0.mk H
  clear H
  go_wp2
  go_loopg [6] k (fun kq v6 w'=>∃ (x6_1:Int),v6=.int .i64 x6_1∧Aside0 (spec_l1Word.l0 kq a0 a1 x6_1=some (r1,r2,r3,r4,r5))∧Aside0 (kq≤k)∧Aside0 (w'.heap[gb281]?=some (.cells #[.int .i64 0,.int .i64 0,.string (⟨#[]⟩:ByteArray),(.slice none 0 0)] 27 (0,0)))∧Aside0 (Below w.heap.size w w'))
  case atStart=>exact ⟨(wrap64 (a1+1)),(by first|rfl|(simp;done)|(simp [*];done)),H',⟨Nat.le_refl _⟩,⟨gK BK281⟩,⟨by repeat (first|exact gB HB|refine below_set ?_ GE281.out)⟩⟩
  case round =>
   clear H'
   try clear p2
   (try clear BK281);(try clear HB)
   obtain ⟨x6_1,rfl,HA,HK1,BK281,HB⟩:=hrel
   cases gk with
   | zero=>exact absurd HA.out (by simp [spec_l1Word.l0])
   | succ k1 =>
    have H:=HA.out
    clear HA
    simp only [spec_l1Word.l0] at H
    by_cases c5:x6_1 < (a0.size:Int)
    ·rw [if_pos c5] at H
     have c5b0:decide (x6_1 < (a0.size:Int))=true:=decide_eq_true c5
     clear c5
     (first|rw [c5b0]|(simp only [i64_w,i32_w];rw [c5b0])|skip)
     by_cases c6:0≤x6_1
     ·rw [if_pos c6] at H
      have c6b0:decide (0≤x6_1)=true:=decide_eq_true c6
      clear c6
      by_cases c8:(bt a0 x6_1)=34
      ·rw [if_pos c8] at H
       have c8b0:((bt a0 x6_1) == 34)=true:=beq_iff_eq.mpr c8
       have c8b1:((bt a0 x6_1) != 34)=false:=bne_eq_false_iff_eq.mpr c8
       clear c8
       have H':=Aside0.mk H
       clear H
       have p7:0≤(x6_1:Int):=of_decide_eq_true (by first|(with_reducible assumption)|assumption)
       have q7:x6_1 < (a0.size:Int):=of_decide_eq_true (by first|(with_reducible assumption)|assumption)
       have hx7:=bt_at a0 x6_1
       replace p7:=eq_true p7
       replace q7:=eq_true q7
       go_wp2
       go_meet
       case rel=>exact ⟨_,(x6_1),(by first|rfl|(simp;done)|(simp [*];done)),H',⟨by have:=HK1.out;first|omega|exact Nat.le_refl _⟩,⟨gK BK281⟩,⟨by repeat (first|exact gB HB|refine below_set ?_ GE281.out)⟩⟩
      ·rw [if_neg c8] at H
       have c8b0:((bt a0 x6_1) == 34)=false:=beq_eq_false_iff_ne.mpr c8
       have c8b1:((bt a0 x6_1) != 34)=true:=bne_iff_ne.mpr c8
       have H':=Aside0.mk H
       clear H
       have p7:0≤(x6_1:Int):=of_decide_eq_true (by first|(with_reducible assumption)|assumption)
       have q7:x6_1 < (a0.size:Int):=of_decide_eq_true (by first|(with_reducible assumption)|assumption)
       have hx7:=bt_at a0 x6_1
       replace p7:=eq_true p7
       replace q7:=eq_true q7
       go_wp2
       go_roundg k1
       case measure=>have:=HK1.out;omega
       case rel=>exact ⟨(wrap64 (x6_1+1)),(by first|rfl|(simp;done)|(simp [*];done)),H',⟨by have:=HK1.out;omega⟩,⟨gK BK281⟩,⟨by repeat (first|exact gB HB|refine below_set ?_ GE281.out)⟩⟩
     ·rw [if_neg c6] at H
      exact absurd H (by simp)
    ·rw [if_neg c5] at H
     have c5b0:decide (x6_1 < (a0.size:Int))=false:=decide_eq_false c5
     clear c5
     (first|rw [c5b0]|(simp only [i64_w,i32_w];rw [c5b0])|skip)
     have H':=Aside0.mk H
     clear H
     go_wp2
     go_meet
     case rel=>exact ⟨_,(x6_1),(by first|rfl|(simp;done)|(simp [*];done)),H',⟨by have:=HK1.out;first|omega|exact Nat.le_refl _⟩,⟨gK BK281⟩,⟨by repeat (first|exact gB HB|refine below_set ?_ GE281.out)⟩⟩
 case rest =>
  clear HC3
  try clear p2 c5 c5b0 c6 c6b0 p6 c7 p7 q7 hx7 c8 c8b0 c8b1 p2 p7 q7
  obtain ⟨kq,x6_2,rfl,HA,HJ2,BK281,HB⟩:=hcut
  cases kq with
  | zero=>exact absurd HA.out (by simp [spec_l1Word.j1])
  | succ kj2 =>
   have H:=HA.out
   clear HA
   simp only [spec_l1Word.j1] at H
   by_cases c9:x6_2 ≥ (a0.size:Int)
   ·rw [if_pos c9] at H
    have c9b0:decide ((a0.size:Int)≤x6_2)=true:=decide_eq_true c9
    clear c9
    simp only [Option.some.injEq,Prod.mk.injEq] at H
    obtain ⟨rfl,rfl,rfl,rfl,rfl⟩:=H
    have hcz10_0:wc.cell? ⟨gb281,0,none⟩=some (.int .i64 0):=(blk_cell BK281.out 0).trans rfl
    have hcz10_1:wc.cell? ⟨gb281,1,none⟩=some (.int .i64 0):=(blk_cell BK281.out 1).trans rfl
    have hcz10_2:wc.cell? ⟨gb281,2,none⟩=some (.string (⟨#[]⟩:ByteArray)):=(blk_cell BK281.out 2).trans rfl
    have hcz10_3:wc.cell? ⟨gb281,3,none⟩=some (.slice none 0 0):=(blk_cell BK281.out 3).trans rfl
    have hfz10_0:=blk_frozen BK281.out 0
    have hfz10_1:=blk_frozen BK281.out 1
    have hfz10_2:=blk_frozen BK281.out 2
    have hfz10_3:=blk_frozen BK281.out 3
    go_wp2
    refine bodyPost_ret (results_ct rfl _ _ gb281 27 #[.int .i64 0,.int .i64 0,.string (⟨#[]⟩:ByteArray),.slice none 0 0] (0,0) _ rfl (by (with_reducible repeat (first|refine blk_drewN ?_ _|refine blk_drew ?_|refine blk_alloc ?_ _));refine blk_put (cs:=#[.int .i64 0,.int .i64 0,.string (⟨#[]⟩:ByteArray),.slice none 0 0]) ?_ 3 _ rfl;(with_reducible repeat (first|refine blk_drewN ?_ _|refine blk_drew ?_|refine blk_alloc ?_ _));refine blk_put (cs:=#[.int .i64 0,.int .i64 0,.string (⟨#[]⟩:ByteArray),.slice none 0 0]) ?_ 2 _ rfl;(with_reducible repeat (first|refine blk_drewN ?_ _|refine blk_drew ?_|refine blk_alloc ?_ _));refine blk_put (cs:=#[.int .i64 0,.int .i64 0,.string (⟨#[]⟩:ByteArray),.slice none 0 0]) ?_ 1 _ rfl;(with_reducible repeat (first|refine blk_drewN ?_ _|refine blk_drew ?_|refine blk_alloc ?_ _));refine blk_put (cs:=#[.int .i64 0,.int .i64 0,.string (⟨#[]⟩:ByteArray),.slice none 0 0]) ?_ 0 _ rfl;(with_reducible repeat (first|refine blk_drewN ?_ _|refine blk_drew ?_|refine blk_alloc ?_ _));exact BK281.out) Try.underlying27 rfl (by kernel_rfl)) rfl ?_
    exact ⟨_,by first|rfl|(simp [errW_none,errW_some] <;> rfl)|(simp [*,errW_none,errW_some] <;> rfl),by first|exact Kd.R_nil _ _ _ _ _|exact Kd.N_nil _ _ _ _ _|exact Kd.V_nil _ _ _ _ _|exact Kd.Q_nil _ _ _ _ _|exact Kd.S_nil _ _ _ _ _,by repeat (first|exact gB HB|refine below_set ?_ GE281.out)⟩
   ·rw [if_neg c9] at H
    have c9b0:decide ((a0.size:Int)≤x6_2)=false:=decide_eq_false c9
    clear c9
    obtain ⟨ji11,hji11⟩:∃ j_:Int,(wrap64 (a1+1))=j_:=⟨_,rfl⟩
    replace H:(if 0≤(ji11) then (if (ji11)≤x6_2 then (if x6_2≤(a0.size:Int) then (some (2,0,a0.extract ((ji11):Int).toNat (x6_2:Int).toNat,([]:List (SDoc)),wrap64 (x6_2+1))) else (none)) else (none)) else (none))=some (r1,r2,r3,r4,r5):=by first|(rw [hji11] at H;exact H)|(simp only [hji11] at H ⊢;exact H)
    have hji11w:(IntKind.i64.wrap (a1+1))=ji11:=(i64_w _).trans hji11
    by_cases c12:0≤(ji11)
    ·rw [if_pos c12] at H
     have c12b0:=eq_true c12
     have c12b1:decide (0≤(ji11))=true:=decide_eq_true c12
     clear c12
     by_cases c13:(ji11)≤x6_2
     ·rw [if_pos c13] at H
      have c13b0:=eq_true c13
      have c13b1:decide ((ji11)≤x6_2)=true:=decide_eq_true c13
      clear c13
      by_cases c14:x6_2≤(a0.size:Int)
      ·rw [if_pos c14] at H
       have c14b0:=eq_true c14
       have c14b1:decide (x6_2≤(a0.size:Int))=true:=decide_eq_true c14
       clear c14
       simp only [Option.some.injEq,Prod.mk.injEq] at H
       obtain ⟨rfl,rfl,rfl,rfl,rfl⟩:=H
       have hcz15_0:wc.cell? ⟨gb281,0,none⟩=some (.int .i64 0):=(blk_cell BK281.out 0).trans rfl
       have hcz15_1:wc.cell? ⟨gb281,1,none⟩=some (.int .i64 0):=(blk_cell BK281.out 1).trans rfl
       have hcz15_2:wc.cell? ⟨gb281,2,none⟩=some (.string (⟨#[]⟩:ByteArray)):=(blk_cell BK281.out 2).trans rfl
       have hcz15_3:wc.cell? ⟨gb281,3,none⟩=some (.slice none 0 0):=(blk_cell BK281.out 3).trans rfl
       have hfz15_0:=blk_frozen BK281.out 0
       have hfz15_1:=blk_frozen BK281.out 1
       have hfz15_2:=blk_frozen BK281.out 2
       have hfz15_3:=blk_frozen BK281.out 3
       go_wp2
       refine bodyPost_ret (results_ct rfl _ _ gb281 27 #[.int .i64 2,.int .i64 0,.string (a0.extract ((ji11):Int).toNat (x6_2:Int).toNat),.slice none 0 0] (0,0) _ rfl (by (with_reducible repeat (first|refine blk_drewN ?_ _|refine blk_drew ?_|refine blk_alloc ?_ _));refine blk_put (cs:=#[.int .i64 2,.int .i64 0,.string (a0.extract ((ji11):Int).toNat (x6_2:Int).toNat),.slice none 0 0]) ?_ 3 _ rfl;(with_reducible repeat (first|refine blk_drewN ?_ _|refine blk_drew ?_|refine blk_alloc ?_ _));refine blk_put (cs:=#[.int .i64 2,.int .i64 0,.string (⟨#[]⟩:ByteArray),.slice none 0 0]) ?_ 2 _ rfl;(with_reducible repeat (first|refine blk_drewN ?_ _|refine blk_drew ?_|refine blk_alloc ?_ _));refine blk_put (cs:=#[.int .i64 2,.int .i64 0,.string (⟨#[]⟩:ByteArray),.slice none 0 0]) ?_ 1 _ rfl;(with_reducible repeat (first|refine blk_drewN ?_ _|refine blk_drew ?_|refine blk_alloc ?_ _));refine blk_put (cs:=#[.int .i64 0,.int .i64 0,.string (⟨#[]⟩:ByteArray),.slice none 0 0]) ?_ 0 _ rfl;(with_reducible repeat (first|refine blk_drewN ?_ _|refine blk_drew ?_|refine blk_alloc ?_ _));exact BK281.out) Try.underlying27 rfl (by kernel_rfl)) rfl ?_
       exact ⟨_,by first|rfl|(simp [errW_none,errW_some] <;> rfl)|(simp only [← hji11];first|rfl|(simp [errW_none,errW_some] <;> rfl))|(simp [*,errW_none,errW_some] <;> rfl),by first|exact Kd.R_nil _ _ _ _ _|exact Kd.N_nil _ _ _ _ _|exact Kd.V_nil _ _ _ _ _|exact Kd.Q_nil _ _ _ _ _|exact Kd.S_nil _ _ _ _ _,by repeat (first|exact gB HB|refine below_set ?_ GE281.out)⟩
      ·rw [if_neg c14] at H
       exact absurd H (by simp)
     ·rw [if_neg c13] at H
      exact absurd H (by simp)
    ·rw [if_neg c12] at H
     exact absurd H (by simp)
end Go.Proofs.Ytdhdfmmefghijaa.P
namespace Go.Proofs.Ytdhdfmmefghijaa.P
open Go.RowKit Go.Proofs.YtdhdfmmefghijaaW.PrintWords Go.Proofs.YtdhdfmmefghijaaW.PrintLast Go.Proofs.YtdhdfmmefghijaaW.PrintMore
attribute [local go_sem] max2_int min2_int max_two min_two max_three min_three max_four min_four
set_option linter.unusedVariables false
set_option linter.unusedSimpArgs false
mutual
def spec_l1Read.j0:Nat→ByteArray→Int→Int→Bool→Option (Int × Int × ByteArray × (List (SDoc)) × Int)
 | 0,_,_,_,_=>none
 | k+1,x0,x1,x2,x21=>if x21=true then (some (0,0,(⟨#[]⟩:ByteArray),([]:List (SDoc)),(-1))) else (if 0≤x1 then (if x1 < (x0.size:Int) then (if (bt x0 x1)=126 then (some (1,0,(⟨#[]⟩:ByteArray),([]:List (SDoc)),wrap64 (x1+1))) else (if (bt x0 x1)=95 then (some (3,0,(⟨#[]⟩:ByteArray),([]:List (SDoc)),wrap64 (x1+1))) else (if (bt x0 x1)=46 then (some (4,0,(⟨#[]⟩:ByteArray),([]:List (SDoc)),wrap64 (x1+1))) else (if (bt x0 x1)=33 then (some (5,0,(⟨#[]⟩:ByteArray),([]:List (SDoc)),wrap64 (x1+1))) else (if (bt x0 x1)=34 then ((spec_l1Word.f k x0 x1).bind fun bt283=>(some (bt283.1,bt283.2.1,bt283.2.2.1,bt283.2.2.2.1,bt283.2.2.2.2))) else (if (bt x0 x1)=40 then ((spec_l1Inner.f k x0 (wrap64 (x1+1)) 2 41 x2).bind fun bt290=>(some (7,0,(⟨#[]⟩:ByteArray),bt290.1,bt290.2))) else (if (bt x0 x1)=91 then ((spec_l1Inner.f k x0 (wrap64 (x1+1)) 1 93 x2).bind fun bt294=>(some (8,0,(⟨#[]⟩:ByteArray),bt294.1,bt294.2))) else (if (bt x0 x1) ≥ 48 then (if (bt x0 x1)≤57 then (if (wrap64 (x1+1)) < (x0.size:Int) then (if 0≤(wrap64 (x1+1)) then (spec_l1Read.j1 k x0 x1 x2 ((bt x0 (wrap64 (x1+1))) == 60)) else (none)) else (spec_l1Read.j1 k x0 x1 x2 false)) else (spec_l1Read.j1 k x0 x1 x2 false)) else (spec_l1Read.j1 k x0 x1 x2 false))))))))) else (none)) else (none))
def spec_l1Read.j1:Nat→ByteArray→Int→Int→Bool→Option (Int × Int × ByteArray × (List (SDoc)) × Int)
 | 0,_,_,_,_=>none
 | k+1,x0,x1,x2,x102=>if x102=true then ((spec_l1Inner.f k x0 (wrap64 (x1+2)) 1 62 x2).bind fun bt298=>(if 0≤x1 then (if x1 < (x0.size:Int) then (some (6,((bt x0 x1) - 48) % 256,(⟨#[]⟩:ByteArray),bt298.1,bt298.2)) else (none)) else (none))) else (some (0,0,(⟨#[]⟩:ByteArray),([]:List (SDoc)),(-1)))
def spec_l1Read.f:Nat→ByteArray→Int→Int→Option (Int × Int × ByteArray × (List (SDoc)) × Int)
 | 0,_,_,_=>none
 | k+1,a0,a1,a2=>if a1 ≥ (a0.size:Int) then (spec_l1Read.j0 k a0 a1 a2 true) else (spec_l1Read.j0 k a0 a1 a2 (a2 == 0))
def spec_l1Inner.l0:Nat→ByteArray→Int→Int→Int→Int→List (SDoc)→Int→Option ((List (SDoc)) × Int)
 | 0,_,_,_,_,_,_,_=>none
 | k+1,x0,x1,x2,x3,x4,x12,x13=>if x13 < x2 then ((spec_l1Read.f k x0 x1 (wrap64 (x4 - 1))).bind fun bt305=>(if bt305.2.2.2.2 < 0 then (some (x12,(-1))) else (if x12.length < 2513169434916 then (spec_l1Inner.l0 k x0 bt305.2.2.2.2 x2 x3 x4 (x12++[(⟨bt305.1,bt305.2.1,bt305.2.2.1,bt305.2.2.2.1⟩:SDoc)]) (wrap64 (x13+1))) else (none)))) else (if x1 ≥ (x0.size:Int) then (some (x12,(-1))) else (if 0≤x1 then (if x1 < (x0.size:Int) then (if (bt x0 x1)=x3 then (some (x12,wrap64 (x1+1))) else (some (x12,(-1)))) else (none)) else (none)))
def spec_l1Inner.f:Nat→ByteArray→Int→Int→Int→Int→Option ((List (SDoc)) × Int)
 | 0,_,_,_,_,_=>none
 | k+1,a0,a1,a2,a3,a4=>spec_l1Inner.l0 k a0 a1 a2 a3 a4 (([]:List (SDoc))) 0
end
set_option maxHeartbeats 8000000 in
set_option maxRecDepth 100000 in
theorem spec_l1Read.calls_g (k:Nat):(∀ (a0:ByteArray) (a1:Int) (a2:Int) (r1:Int) (r2:Int) (r3:ByteArray) (r4:List (SDoc)) (r5:Int) (w:World) (h:spec_l1Read.f k a0 a1 a2=some (r1,r2,r3,r4,r5)),
  Calls Try.prog 64 #[.string a0,.int .i64 a1,.int .i64 a2] w fun e w'=>∃ v3_:Value,e=.returned (.tuple #[.agg #[.int .i64 r1,.int .i64 r2,.string r3,v3_],.int .i64 r5])∧Kd.R k27 27 w' w.heap.size (fun _=>True) v3_ r4∧Below w.heap.size w w') ∧
  (∀ (a0:ByteArray) (a1:Int) (a2:Int) (a3:Int) (a4:Int) (r1:List (SDoc)) (r2:Int) (w:World) (h:spec_l1Inner.f k a0 a1 a2 a3 a4=some (r1,r2)),
  Calls Try.prog 77 #[.string a0,.int .i64 a1,.int .i64 a2,.int .u8 a3,.int .i64 a4] w fun e w'=>∃ v0_:Value,e=.returned (.tuple #[v0_,.int .i64 r2])∧Kd.R k27 27 w' w.heap.size (fun _=>True) v0_ r1∧Below w.heap.size w w'):=by
 induction k using Nat.strongRecOn with
 | _ k ih0 =>
 refine ⟨?_,?_⟩
 ·have ih:=fun (m_:Nat) (hm_:m_ < k)=>(ih0 m_ hm_).1
  have ih_spec_l1Inner:=fun (m_:Nat) (hm_:m_ < k)=>(ih0 m_ hm_).2
  clear ih0
  intro a0 a1 a2 r1 r2 r3 r4 r5 w h
  cases k with
  | zero=>exact absurd h (by simp [spec_l1Read.f])
  | succ k =>
  simp only [spec_l1Read.f] at h
  have hu27:=Try.underlying27
  have HB:=Aside0.mk (Below.refl w.heap.size w)
  have H:(if a1 ≥ (a0.size:Int) then (spec_l1Read.j0 k a0 a1 a2 true) else (spec_l1Read.j0 k a0 a1 a2 (a2 == 0)))=some (r1,r2,r3,r4,r5):=h
  clear h
  have HC4:=Aside0.mk H
  clear H
  go_enter Try.func64,Try.ntmps64
  go_upto_region 1 with (first|((with_reducible refine gate_dst (N:=6) rfl ?_);(try (refine gate_guard (by rfl) ?_;dsimp only));refine box_event ?hg (N:=6) ?hd (cs:=#[.int .i64 0,.int .i64 0,.string (⟨#[]⟩:ByteArray),.slice none 0 0]) (t:=27) ?hr ?_;(case hd=>rfl);(case hg=>rfl);(case hr=>first|(go_simp;done)|(go_simp;rfl));intro gb282 hg w5 hbox hb;have n0_:=Aside0.mk (below_step (gB HB) hb);have n1_:=Aside0.mk (hbox);have n2_:=Aside0.mk ((by rw [hg];exact (below_size (gB HB)):w.heap.size≤gb282));have n3_:=Aside0.mk ((by rw [hg];exact (below_size (gB HB)):w.heap.size≤gb282));clear HB;have HB:=n0_;have BK282:=n1_;have GW282:=n2_;have GE282:=n3_;clear n0_ n1_ n2_ n3_;clear hb hbox hg))
  (try simp only [Act.put,List.setIfInBounds_toArray,List.set_cons_zero,List.set_cons_succ])
  go_cut [21] (fun v21 wc=>∃ (kq:Nat) (x21_3:Bool),v21=.bool x21_3∧Aside0 (spec_l1Read.j0 kq a0 a1 a2 x21_3=some (r1,r2,r3,r4,r5))∧Aside0 (kq≤k)∧Aside0 (wc.heap[gb282]?=some (.cells #[.int .i64 0,.int .i64 0,.string (⟨#[]⟩:ByteArray),(.slice none 0 0)] 27 (0,0)))∧Aside0 (Below w.heap.size w wc))
  case first =>
   have H:=HC4.out
   clear HC4
   by_cases c6:a1 ≥ (a0.size:Int)
   ·rw [if_pos c6] at H
    have c6b0:decide ((a0.size:Int)≤a1)=true:=decide_eq_true c6
    clear c6
    (first|rw [c6b0]|(simp only [i64_w,i32_w];rw [c6b0])|skip)
    have H':=Aside0.mk H
    clear H
    go_wp2
    go_meet
    case rel=>exact ⟨_,(true),(by first|rfl|(simp;done)|(simp [*];done)),H',⟨by first|omega|exact Nat.le_refl _⟩,⟨gK BK282⟩,⟨by repeat (first|exact gB HB|refine below_set ?_ GE282.out)⟩⟩
   ·rw [if_neg c6] at H
    have c6b0:decide ((a0.size:Int)≤a1)=false:=decide_eq_false c6
    clear c6
    (first|rw [c6b0]|(simp only [i64_w,i32_w];rw [c6b0])|skip)
    have H':=Aside0.mk H
    clear H
    go_wp2
    go_meet
    case rel=>exact ⟨_,((a2 == 0)),(by first|rfl|(simp;done)|(simp [*];done)),H',⟨by first|omega|exact Nat.le_refl _⟩,⟨gK BK282⟩,⟨by repeat (first|exact gB HB|refine below_set ?_ GE282.out)⟩⟩
  case rest =>
   clear HC4
   try clear p2 c6 c6b0
   obtain ⟨kq,x21_3,rfl,HA,HJ3,BK282,HB⟩:=hcut
   cases kq with
   | zero=>exact absurd HA.out (by simp [spec_l1Read.j0])
   | succ kj3 =>
    have H:=HA.out
    clear HA
    simp only [spec_l1Read.j0] at H
    by_cases c7:x21_3=true
    ·subst c7
     have H1:(some (0,0,(⟨#[]⟩:ByteArray),([]:List (SDoc)),(-1)))=some (r1,r2,r3,r4,r5):=by rw [if_pos rfl] at H;exact H
     clear H
     have H:=H1
     clear H1
     simp only [Option.some.injEq,Prod.mk.injEq] at H
     obtain ⟨rfl,rfl,rfl,rfl,rfl⟩:=H
     have hcz8_0:wc.cell? ⟨gb282,0,none⟩=some (.int .i64 0):=(blk_cell BK282.out 0).trans rfl
     have hcz8_1:wc.cell? ⟨gb282,1,none⟩=some (.int .i64 0):=(blk_cell BK282.out 1).trans rfl
     have hcz8_2:wc.cell? ⟨gb282,2,none⟩=some (.string (⟨#[]⟩:ByteArray)):=(blk_cell BK282.out 2).trans rfl
     have hcz8_3:wc.cell? ⟨gb282,3,none⟩=some (.slice none 0 0):=(blk_cell BK282.out 3).trans rfl
     have hfz8_0:=blk_frozen BK282.out 0
     have hfz8_1:=blk_frozen BK282.out 1
     have hfz8_2:=blk_frozen BK282.out 2
     have hfz8_3:=blk_frozen BK282.out 3
     go_wp2
     refine bodyPost_ret (results_ct rfl _ _ gb282 27 #[.int .i64 0,.int .i64 0,.string (⟨#[]⟩:ByteArray),.slice none 0 0] (0,0) _ rfl (by (with_reducible repeat (first|refine blk_drewN ?_ _|refine blk_drew ?_|refine blk_alloc ?_ _));refine blk_put (cs:=#[.int .i64 0,.int .i64 0,.string (⟨#[]⟩:ByteArray),.slice none 0 0]) ?_ 3 _ rfl;(with_reducible repeat (first|refine blk_drewN ?_ _|refine blk_drew ?_|refine blk_alloc ?_ _));refine blk_put (cs:=#[.int .i64 0,.int .i64 0,.string (⟨#[]⟩:ByteArray),.slice none 0 0]) ?_ 2 _ rfl;(with_reducible repeat (first|refine blk_drewN ?_ _|refine blk_drew ?_|refine blk_alloc ?_ _));refine blk_put (cs:=#[.int .i64 0,.int .i64 0,.string (⟨#[]⟩:ByteArray),.slice none 0 0]) ?_ 1 _ rfl;(with_reducible repeat (first|refine blk_drewN ?_ _|refine blk_drew ?_|refine blk_alloc ?_ _));refine blk_put (cs:=#[.int .i64 0,.int .i64 0,.string (⟨#[]⟩:ByteArray),.slice none 0 0]) ?_ 0 _ rfl;(with_reducible repeat (first|refine blk_drewN ?_ _|refine blk_drew ?_|refine blk_alloc ?_ _));exact BK282.out) Try.underlying27 rfl (by kernel_rfl)) rfl ?_
     exact ⟨_,by first|rfl|(simp [errW_none,errW_some] <;> rfl)|(simp [*,errW_none,errW_some] <;> rfl),by first|exact Kd.R_nil _ _ _ _ _|exact Kd.N_nil _ _ _ _ _|exact Kd.V_nil _ _ _ _ _|exact Kd.Q_nil _ _ _ _ _|exact Kd.S_nil _ _ _ _ _,by repeat (first|exact gB HB|refine below_set ?_ GE282.out)⟩
    ·replace c7:=Bool.eq_false_iff.mpr c7
     subst c7
     have H1:(if 0≤a1 then (if a1 < (a0.size:Int) then (if (bt a0 a1)=126 then (some (1,0,(⟨#[]⟩:ByteArray),([]:List (SDoc)),wrap64 (a1+1))) else (if (bt a0 a1)=95 then (some (3,0,(⟨#[]⟩:ByteArray),([]:List (SDoc)),wrap64 (a1+1))) else (if (bt a0 a1)=46 then (some (4,0,(⟨#[]⟩:ByteArray),([]:List (SDoc)),wrap64 (a1+1))) else (if (bt a0 a1)=33 then (some (5,0,(⟨#[]⟩:ByteArray),([]:List (SDoc)),wrap64 (a1+1))) else (if (bt a0 a1)=34 then ((spec_l1Word.f kj3 a0 a1).bind fun bt283=>(some (bt283.1,bt283.2.1,bt283.2.2.1,bt283.2.2.2.1,bt283.2.2.2.2))) else (if (bt a0 a1)=40 then ((spec_l1Inner.f kj3 a0 (wrap64 (a1+1)) 2 41 a2).bind fun bt290=>(some (7,0,(⟨#[]⟩:ByteArray),bt290.1,bt290.2))) else (if (bt a0 a1)=91 then ((spec_l1Inner.f kj3 a0 (wrap64 (a1+1)) 1 93 a2).bind fun bt294=>(some (8,0,(⟨#[]⟩:ByteArray),bt294.1,bt294.2))) else (if (bt a0 a1) ≥ 48 then (if (bt a0 a1)≤57 then (if (wrap64 (a1+1)) < (a0.size:Int) then (if 0≤(wrap64 (a1+1)) then (spec_l1Read.j1 kj3 a0 a1 a2 ((bt a0 (wrap64 (a1+1))) == 60)) else (none)) else (spec_l1Read.j1 kj3 a0 a1 a2 false)) else (spec_l1Read.j1 kj3 a0 a1 a2 false)) else (spec_l1Read.j1 kj3 a0 a1 a2 false))))))))) else (none)) else (none))=some (r1,r2,r3,r4,r5):=by rw [if_neg (show ¬ (false=true) by decide)] at H;exact H
     clear H
     have H:=H1
     clear H1
     by_cases c9:0≤a1
     ·rw [if_pos c9] at H
      have c9b0:decide (0≤a1)=true:=decide_eq_true c9
      clear c9
      by_cases c10:a1 < (a0.size:Int)
      ·rw [if_pos c10] at H
       have c10b0:decide (a1 < (a0.size:Int))=true:=decide_eq_true c10
       clear c10
       by_cases c12:(bt a0 a1)=126
       ·rw [if_pos c12] at H
        have c12b0:((bt a0 a1) == 126)=true:=beq_iff_eq.mpr c12
        have c12b1:((bt a0 a1) != 126)=false:=bne_eq_false_iff_eq.mpr c12
        clear c12
        simp only [Option.some.injEq,Prod.mk.injEq] at H
        obtain ⟨rfl,rfl,rfl,rfl,rfl⟩:=H
        have p11:0≤(a1:Int):=of_decide_eq_true (by first|(with_reducible assumption)|assumption)
        have q11:a1 < (a0.size:Int):=of_decide_eq_true (by first|(with_reducible assumption)|assumption)
        have hx11:=bt_at a0 a1
        replace p11:=eq_true p11
        replace q11:=eq_true q11
        have hcz13_0:wc.cell? ⟨gb282,0,none⟩=some (.int .i64 0):=(blk_cell BK282.out 0).trans rfl
        have hcz13_1:wc.cell? ⟨gb282,1,none⟩=some (.int .i64 0):=(blk_cell BK282.out 1).trans rfl
        have hcz13_2:wc.cell? ⟨gb282,2,none⟩=some (.string (⟨#[]⟩:ByteArray)):=(blk_cell BK282.out 2).trans rfl
        have hcz13_3:wc.cell? ⟨gb282,3,none⟩=some (.slice none 0 0):=(blk_cell BK282.out 3).trans rfl
        have hfz13_0:=blk_frozen BK282.out 0
        have hfz13_1:=blk_frozen BK282.out 1
        have hfz13_2:=blk_frozen BK282.out 2
        have hfz13_3:=blk_frozen BK282.out 3
        go_wp2
        refine bodyPost_ret (results_ct rfl _ _ gb282 27 #[.int .i64 1,.int .i64 0,.string (⟨#[]⟩:ByteArray),.slice none 0 0] (0,0) _ rfl (by (with_reducible repeat (first|refine blk_drewN ?_ _|refine blk_drew ?_|refine blk_alloc ?_ _));refine blk_put (cs:=#[.int .i64 1,.int .i64 0,.string (⟨#[]⟩:ByteArray),.slice none 0 0]) ?_ 3 _ rfl;(with_reducible repeat (first|refine blk_drewN ?_ _|refine blk_drew ?_|refine blk_alloc ?_ _));refine blk_put (cs:=#[.int .i64 1,.int .i64 0,.string (⟨#[]⟩:ByteArray),.slice none 0 0]) ?_ 2 _ rfl;(with_reducible repeat (first|refine blk_drewN ?_ _|refine blk_drew ?_|refine blk_alloc ?_ _));refine blk_put (cs:=#[.int .i64 1,.int .i64 0,.string (⟨#[]⟩:ByteArray),.slice none 0 0]) ?_ 1 _ rfl;(with_reducible repeat (first|refine blk_drewN ?_ _|refine blk_drew ?_|refine blk_alloc ?_ _));refine blk_put (cs:=#[.int .i64 0,.int .i64 0,.string (⟨#[]⟩:ByteArray),.slice none 0 0]) ?_ 0 _ rfl;(with_reducible repeat (first|refine blk_drewN ?_ _|refine blk_drew ?_|refine blk_alloc ?_ _));exact BK282.out) Try.underlying27 rfl (by kernel_rfl)) rfl ?_
        exact ⟨_,by first|rfl|(simp [errW_none,errW_some] <;> rfl)|(simp [*,errW_none,errW_some] <;> rfl),by first|exact Kd.R_nil _ _ _ _ _|exact Kd.N_nil _ _ _ _ _|exact Kd.V_nil _ _ _ _ _|exact Kd.Q_nil _ _ _ _ _|exact Kd.S_nil _ _ _ _ _,by repeat (first|exact gB HB|refine below_set ?_ GE282.out)⟩
       ·rw [if_neg c12] at H
        have c12b0:((bt a0 a1) == 126)=false:=beq_eq_false_iff_ne.mpr c12
        have c12b1:((bt a0 a1) != 126)=true:=bne_iff_ne.mpr c12
        by_cases c14:(bt a0 a1)=95
        ·rw [if_pos c14] at H
         have c14b0:((bt a0 a1) == 95)=true:=beq_iff_eq.mpr c14
         have c14b1:((bt a0 a1) != 95)=false:=bne_eq_false_iff_eq.mpr c14
         clear c14
         simp only [Option.some.injEq,Prod.mk.injEq] at H
         obtain ⟨rfl,rfl,rfl,rfl,rfl⟩:=H
         have p11:0≤(a1:Int):=of_decide_eq_true (by first|(with_reducible assumption)|assumption)
         have q11:a1 < (a0.size:Int):=of_decide_eq_true (by first|(with_reducible assumption)|assumption)
         have hx11:=bt_at a0 a1
         replace p11:=eq_true p11
         replace q11:=eq_true q11
         have hcz15_0:wc.cell? ⟨gb282,0,none⟩=some (.int .i64 0):=(blk_cell BK282.out 0).trans rfl
         have hcz15_1:wc.cell? ⟨gb282,1,none⟩=some (.int .i64 0):=(blk_cell BK282.out 1).trans rfl
         have hcz15_2:wc.cell? ⟨gb282,2,none⟩=some (.string (⟨#[]⟩:ByteArray)):=(blk_cell BK282.out 2).trans rfl
         have hcz15_3:wc.cell? ⟨gb282,3,none⟩=some (.slice none 0 0):=(blk_cell BK282.out 3).trans rfl
         have hfz15_0:=blk_frozen BK282.out 0
         have hfz15_1:=blk_frozen BK282.out 1
         have hfz15_2:=blk_frozen BK282.out 2
         have hfz15_3:=blk_frozen BK282.out 3
         go_wp2
         refine bodyPost_ret (results_ct rfl _ _ gb282 27 #[.int .i64 3,.int .i64 0,.string (⟨#[]⟩:ByteArray),.slice none 0 0] (0,0) _ rfl (by (with_reducible repeat (first|refine blk_drewN ?_ _|refine blk_drew ?_|refine blk_alloc ?_ _));refine blk_put (cs:=#[.int .i64 3,.int .i64 0,.string (⟨#[]⟩:ByteArray),.slice none 0 0]) ?_ 3 _ rfl;(with_reducible repeat (first|refine blk_drewN ?_ _|refine blk_drew ?_|refine blk_alloc ?_ _));refine blk_put (cs:=#[.int .i64 3,.int .i64 0,.string (⟨#[]⟩:ByteArray),.slice none 0 0]) ?_ 2 _ rfl;(with_reducible repeat (first|refine blk_drewN ?_ _|refine blk_drew ?_|refine blk_alloc ?_ _));refine blk_put (cs:=#[.int .i64 3,.int .i64 0,.string (⟨#[]⟩:ByteArray),.slice none 0 0]) ?_ 1 _ rfl;(with_reducible repeat (first|refine blk_drewN ?_ _|refine blk_drew ?_|refine blk_alloc ?_ _));refine blk_put (cs:=#[.int .i64 0,.int .i64 0,.string (⟨#[]⟩:ByteArray),.slice none 0 0]) ?_ 0 _ rfl;(with_reducible repeat (first|refine blk_drewN ?_ _|refine blk_drew ?_|refine blk_alloc ?_ _));exact BK282.out) Try.underlying27 rfl (by kernel_rfl)) rfl ?_
         exact ⟨_,by first|rfl|(simp [errW_none,errW_some] <;> rfl)|(simp [*,errW_none,errW_some] <;> rfl),by first|exact Kd.R_nil _ _ _ _ _|exact Kd.N_nil _ _ _ _ _|exact Kd.V_nil _ _ _ _ _|exact Kd.Q_nil _ _ _ _ _|exact Kd.S_nil _ _ _ _ _,by repeat (first|exact gB HB|refine below_set ?_ GE282.out)⟩
        ·rw [if_neg c14] at H
         have c14b0:((bt a0 a1) == 95)=false:=beq_eq_false_iff_ne.mpr c14
         have c14b1:((bt a0 a1) != 95)=true:=bne_iff_ne.mpr c14
         by_cases c16:(bt a0 a1)=46
         ·rw [if_pos c16] at H
          have c16b0:((bt a0 a1) == 46)=true:=beq_iff_eq.mpr c16
          have c16b1:((bt a0 a1) != 46)=false:=bne_eq_false_iff_eq.mpr c16
          clear c16
          simp only [Option.some.injEq,Prod.mk.injEq] at H
          obtain ⟨rfl,rfl,rfl,rfl,rfl⟩:=H
          have p11:0≤(a1:Int):=of_decide_eq_true (by first|(with_reducible assumption)|assumption)
          have q11:a1 < (a0.size:Int):=of_decide_eq_true (by first|(with_reducible assumption)|assumption)
          have hx11:=bt_at a0 a1
          replace p11:=eq_true p11
          replace q11:=eq_true q11
          have hcz17_0:wc.cell? ⟨gb282,0,none⟩=some (.int .i64 0):=(blk_cell BK282.out 0).trans rfl
          have hcz17_1:wc.cell? ⟨gb282,1,none⟩=some (.int .i64 0):=(blk_cell BK282.out 1).trans rfl
          have hcz17_2:wc.cell? ⟨gb282,2,none⟩=some (.string (⟨#[]⟩:ByteArray)):=(blk_cell BK282.out 2).trans rfl
          have hcz17_3:wc.cell? ⟨gb282,3,none⟩=some (.slice none 0 0):=(blk_cell BK282.out 3).trans rfl
          have hfz17_0:=blk_frozen BK282.out 0
          have hfz17_1:=blk_frozen BK282.out 1
          have hfz17_2:=blk_frozen BK282.out 2
          have hfz17_3:=blk_frozen BK282.out 3
          go_wp2
          refine bodyPost_ret (results_ct rfl _ _ gb282 27 #[.int .i64 4,.int .i64 0,.string (⟨#[]⟩:ByteArray),.slice none 0 0] (0,0) _ rfl (by (with_reducible repeat (first|refine blk_drewN ?_ _|refine blk_drew ?_|refine blk_alloc ?_ _));refine blk_put (cs:=#[.int .i64 4,.int .i64 0,.string (⟨#[]⟩:ByteArray),.slice none 0 0]) ?_ 3 _ rfl;(with_reducible repeat (first|refine blk_drewN ?_ _|refine blk_drew ?_|refine blk_alloc ?_ _));refine blk_put (cs:=#[.int .i64 4,.int .i64 0,.string (⟨#[]⟩:ByteArray),.slice none 0 0]) ?_ 2 _ rfl;(with_reducible repeat (first|refine blk_drewN ?_ _|refine blk_drew ?_|refine blk_alloc ?_ _));refine blk_put (cs:=#[.int .i64 4,.int .i64 0,.string (⟨#[]⟩:ByteArray),.slice none 0 0]) ?_ 1 _ rfl;(with_reducible repeat (first|refine blk_drewN ?_ _|refine blk_drew ?_|refine blk_alloc ?_ _));refine blk_put (cs:=#[.int .i64 0,.int .i64 0,.string (⟨#[]⟩:ByteArray),.slice none 0 0]) ?_ 0 _ rfl;(with_reducible repeat (first|refine blk_drewN ?_ _|refine blk_drew ?_|refine blk_alloc ?_ _));exact BK282.out) Try.underlying27 rfl (by kernel_rfl)) rfl ?_
          exact ⟨_,by first|rfl|(simp [errW_none,errW_some] <;> rfl)|(simp [*,errW_none,errW_some] <;> rfl),by first|exact Kd.R_nil _ _ _ _ _|exact Kd.N_nil _ _ _ _ _|exact Kd.V_nil _ _ _ _ _|exact Kd.Q_nil _ _ _ _ _|exact Kd.S_nil _ _ _ _ _,by repeat (first|exact gB HB|refine below_set ?_ GE282.out)⟩
         ·rw [if_neg c16] at H
          have c16b0:((bt a0 a1) == 46)=false:=beq_eq_false_iff_ne.mpr c16
          have c16b1:((bt a0 a1) != 46)=true:=bne_iff_ne.mpr c16
          by_cases c18:(bt a0 a1)=33
          ·rw [if_pos c18] at H
           have c18b0:((bt a0 a1) == 33)=true:=beq_iff_eq.mpr c18
           have c18b1:((bt a0 a1) != 33)=false:=bne_eq_false_iff_eq.mpr c18
           clear c18
           simp only [Option.some.injEq,Prod.mk.injEq] at H
           obtain ⟨rfl,rfl,rfl,rfl,rfl⟩:=H
           have p11:0≤(a1:Int):=of_decide_eq_true (by first|(with_reducible assumption)|assumption)
           have q11:a1 < (a0.size:Int):=of_decide_eq_true (by first|(with_reducible assumption)|assumption)
           have hx11:=bt_at a0 a1
           replace p11:=eq_true p11
           replace q11:=eq_true q11
           have hcz19_0:wc.cell? ⟨gb282,0,none⟩=some (.int .i64 0):=(blk_cell BK282.out 0).trans rfl
           have hcz19_1:wc.cell? ⟨gb282,1,none⟩=some (.int .i64 0):=(blk_cell BK282.out 1).trans rfl
           have hcz19_2:wc.cell? ⟨gb282,2,none⟩=some (.string (⟨#[]⟩:ByteArray)):=(blk_cell BK282.out 2).trans rfl
           have hcz19_3:wc.cell? ⟨gb282,3,none⟩=some (.slice none 0 0):=(blk_cell BK282.out 3).trans rfl
           have hfz19_0:=blk_frozen BK282.out 0
           have hfz19_1:=blk_frozen BK282.out 1
           have hfz19_2:=blk_frozen BK282.out 2
           have hfz19_3:=blk_frozen BK282.out 3
           go_wp2
           refine bodyPost_ret (results_ct rfl _ _ gb282 27 #[.int .i64 5,.int .i64 0,.string (⟨#[]⟩:ByteArray),.slice none 0 0] (0,0) _ rfl (by (with_reducible repeat (first|refine blk_drewN ?_ _|refine blk_drew ?_|refine blk_alloc ?_ _));refine blk_put (cs:=#[.int .i64 5,.int .i64 0,.string (⟨#[]⟩:ByteArray),.slice none 0 0]) ?_ 3 _ rfl;(with_reducible repeat (first|refine blk_drewN ?_ _|refine blk_drew ?_|refine blk_alloc ?_ _));refine blk_put (cs:=#[.int .i64 5,.int .i64 0,.string (⟨#[]⟩:ByteArray),.slice none 0 0]) ?_ 2 _ rfl;(with_reducible repeat (first|refine blk_drewN ?_ _|refine blk_drew ?_|refine blk_alloc ?_ _));refine blk_put (cs:=#[.int .i64 5,.int .i64 0,.string (⟨#[]⟩:ByteArray),.slice none 0 0]) ?_ 1 _ rfl;(with_reducible repeat (first|refine blk_drewN ?_ _|refine blk_drew ?_|refine blk_alloc ?_ _));refine blk_put (cs:=#[.int .i64 0,.int .i64 0,.string (⟨#[]⟩:ByteArray),.slice none 0 0]) ?_ 0 _ rfl;(with_reducible repeat (first|refine blk_drewN ?_ _|refine blk_drew ?_|refine blk_alloc ?_ _));exact BK282.out) Try.underlying27 rfl (by kernel_rfl)) rfl ?_
           exact ⟨_,by first|rfl|(simp [errW_none,errW_some] <;> rfl)|(simp [*,errW_none,errW_some] <;> rfl),by first|exact Kd.R_nil _ _ _ _ _|exact Kd.N_nil _ _ _ _ _|exact Kd.V_nil _ _ _ _ _|exact Kd.Q_nil _ _ _ _ _|exact Kd.S_nil _ _ _ _ _,by repeat (first|exact gB HB|refine below_set ?_ GE282.out)⟩
          ·rw [if_neg c18] at H
           have c18b0:((bt a0 a1) == 33)=false:=beq_eq_false_iff_ne.mpr c18
           have c18b1:((bt a0 a1) != 33)=true:=bne_iff_ne.mpr c18
           by_cases c20:(bt a0 a1)=34
           ·rw [if_pos c20] at H
            have c20b0:((bt a0 a1) == 34)=true:=beq_iff_eq.mpr c20
            have c20b1:((bt a0 a1) != 34)=false:=bne_eq_false_iff_eq.mpr c20
            clear c20
            replace H:=Option.bind_eq_some_iff.mp H
            obtain ⟨⟨t283,t284,t285,t286,t289⟩,A210,H⟩:=H
            replace H:(some (t283,t284,t285,t286,t289))=some (r1,r2,r3,r4,r5):=H
            have A21:=Aside0.mk A210
            clear A210
            simp only [Option.some.injEq,Prod.mk.injEq] at H
            obtain ⟨rfl,rfl,rfl,rfl,rfl⟩:=H
            have p11:0≤(a1:Int):=of_decide_eq_true (by first|(with_reducible assumption)|assumption)
            have q11:a1 < (a0.size:Int):=of_decide_eq_true (by first|(with_reducible assumption)|assumption)
            have hx11:=bt_at a0 a1
            replace p11:=eq_true p11
            replace q11:=eq_true q11
            go_wp2_with (first|((with_reducible refine gate_callee (f:=76) rfl ?_);refine goesL_ (some 50) rfl rfl Try.func76 (by kernel_rfl) rfl #[.string a0,.int .i64 a1] rfl (by (try simp only [List.map_toArray,List.map_cons,List.map_nil]);first|done|rfl|(simp only [List.length_drop,List.length_take];rfl)) ?_;(with_reducible refine (spec_l1Word.calls kj3 a0 a1 t283 t284 t285 t286 t289 _ A21.out).mono ?_);rintro e w22 ⟨v287,rfl,ho0,hb⟩;refine ⟨_,rfl,?_⟩;have n0_:=Aside0.mk (Kd.R_lower (Kd.R_newB ho0 (g:=gb282) (o:=.cells #[.int .i64 0,.int .i64 0,.string (⟨#[]⟩:ByteArray),.slice none 0 0] 27 (0,0)) (gK BK282)) (below_size (by repeat (first|exact gB HB|refine below_set ?_ GE282.out))));have n1_:=Aside0.mk (blk_below (g:=gb282) (o:=.cells #[.int .i64 0,.int .i64 0,.string (⟨#[]⟩:ByteArray),.slice none 0 0] 27 (0,0)) (gK BK282) hb);have n2_:=Aside0.mk (below_step (by repeat (first|exact gB HB|refine below_set ?_ GE282.out)) hb);clear BK282;clear HB;have HO288:=n0_;have BK282:=n1_;have HB:=n2_;clear n0_ n1_ n2_;(try clear hb);(try clear hb2);(try clear hk);(try clear hi);(try clear ho0);have hcz23_0:w22.cell? ⟨gb282,0,none⟩=some (.int .i64 0):=(blk_cell BK282.out 0).trans rfl;have hcz23_1:w22.cell? ⟨gb282,1,none⟩=some (.int .i64 0):=(blk_cell BK282.out 1).trans rfl;have hcz23_2:w22.cell? ⟨gb282,2,none⟩=some (.string (⟨#[]⟩:ByteArray)):=(blk_cell BK282.out 2).trans rfl;have hcz23_3:w22.cell? ⟨gb282,3,none⟩=some (.slice none 0 0):=(blk_cell BK282.out 3).trans rfl;have hfz23_0:=blk_frozen BK282.out 0;have hfz23_1:=blk_frozen BK282.out 1;have hfz23_2:=blk_frozen BK282.out 2;have hfz23_3:=blk_frozen BK282.out 3;obtain ⟨Ao24,co24,eo24⟩:=Kd.R_slice HO288.out;subst eo24))
            refine bodyPost_ret (results_ct rfl _ _ gb282 27 #[.int .i64 t283,.int .i64 t284,.string t285,.slice Ao24 t286.length co24] (0,0) _ rfl (by (with_reducible repeat (first|refine blk_drewN ?_ _|refine blk_drew ?_|refine blk_alloc ?_ _));refine blk_put (cs:=#[.int .i64 t283,.int .i64 t284,.string t285,.slice none 0 0]) ?_ 3 _ rfl;(with_reducible repeat (first|refine blk_drewN ?_ _|refine blk_drew ?_|refine blk_alloc ?_ _));refine blk_put (cs:=#[.int .i64 t283,.int .i64 t284,.string (⟨#[]⟩:ByteArray),.slice none 0 0]) ?_ 2 _ rfl;(with_reducible repeat (first|refine blk_drewN ?_ _|refine blk_drew ?_|refine blk_alloc ?_ _));refine blk_put (cs:=#[.int .i64 t283,.int .i64 0,.string (⟨#[]⟩:ByteArray),.slice none 0 0]) ?_ 1 _ rfl;(with_reducible repeat (first|refine blk_drewN ?_ _|refine blk_drew ?_|refine blk_alloc ?_ _));refine blk_put (cs:=#[.int .i64 0,.int .i64 0,.string (⟨#[]⟩:ByteArray),.slice none 0 0]) ?_ 0 _ rfl;(with_reducible repeat (first|refine blk_drewN ?_ _|refine blk_drew ?_|refine blk_alloc ?_ _));exact BK282.out) Try.underlying27 rfl (by kernel_rfl)) rfl ?_
            exact ⟨_,by first|rfl|(simp [errW_none,errW_some] <;> rfl)|(simp [*,errW_none,errW_some] <;> rfl),by (with_reducible repeat (first|apply Kd.R_alloc|apply Kd.R_drewN|apply Kd.R_drew));exact Kd.R_mono (Kd.R_far (p:=⟨gb282,3,none⟩) (Kd.R_far (p:=⟨gb282,2,none⟩) (Kd.R_far (p:=⟨gb282,1,none⟩) (Kd.R_far (p:=⟨gb282,0,none⟩) (Kd.R_mono HO288.out (fun k_ hk=>(⟨hk,hk.2⟩:_∧k_ ≠ gb282))) (fun _ hk=>hk.2) (.int .i64 t283)) (fun _ hk=>hk.2) (.int .i64 t284)) (fun _ hk=>hk.2) (.string t285)) (fun _ hk=>hk.2) (.slice Ao24 t286.length co24)) (fun _ hk=>trivial),by repeat (first|exact gB HB|refine below_set ?_ GE282.out)⟩
           ·rw [if_neg c20] at H
            have c20b0:((bt a0 a1) == 34)=false:=beq_eq_false_iff_ne.mpr c20
            have c20b1:((bt a0 a1) != 34)=true:=bne_iff_ne.mpr c20
            by_cases c25:(bt a0 a1)=40
            ·rw [if_pos c25] at H
             have c25b0:((bt a0 a1) == 40)=true:=beq_iff_eq.mpr c25
             have c25b1:((bt a0 a1) != 40)=false:=bne_eq_false_iff_eq.mpr c25
             clear c25
             replace H:=Option.bind_eq_some_iff.mp H
             obtain ⟨⟨t290,t291⟩,A260,H⟩:=H
             replace H:(some (7,0,(⟨#[]⟩:ByteArray),t290,t291))=some (r1,r2,r3,r4,r5):=H
             have A26:=Aside0.mk A260
             clear A260
             simp only [Option.some.injEq,Prod.mk.injEq] at H
             obtain ⟨rfl,rfl,rfl,rfl,rfl⟩:=H
             have p11:0≤(a1:Int):=of_decide_eq_true (by first|(with_reducible assumption)|assumption)
             have q11:a1 < (a0.size:Int):=of_decide_eq_true (by first|(with_reducible assumption)|assumption)
             have hx11:=bt_at a0 a1
             replace p11:=eq_true p11
             replace q11:=eq_true q11
             go_wp2_with (first|((with_reducible refine gate_callee (f:=77) rfl ?_);refine goesL_ (some 60) rfl rfl Try.func77 (by kernel_rfl) rfl #[.string a0,.int .i64 (wrap64 (a1+1)),.int .i64 2,.int .u8 41,.int .i64 a2] rfl (by (try simp only [List.map_toArray,List.map_cons,List.map_nil]);first|done|rfl|(simp only [List.length_drop,List.length_take];rfl)) ?_;(with_reducible refine (ih_spec_l1Inner kj3 (by have:=HJ3.out;omega) a0 (wrap64 (a1+1)) 2 41 a2 t290 t291 _ A26.out).mono ?_);rintro e w27 ⟨v292,rfl,ho0,hb⟩;refine ⟨_,rfl,?_⟩;have n0_:=Aside0.mk (Kd.R_lower (Kd.R_newB ho0 (g:=gb282) (o:=.cells #[.int .i64 0,.int .i64 0,.string (⟨#[]⟩:ByteArray),.slice none 0 0] 27 (0,0)) (gK BK282)) (below_size (by repeat (first|exact gB HB|refine below_set ?_ GE282.out))));have n1_:=Aside0.mk (blk_below (g:=gb282) (o:=.cells #[.int .i64 0,.int .i64 0,.string (⟨#[]⟩:ByteArray),.slice none 0 0] 27 (0,0)) (gK BK282) hb);have n2_:=Aside0.mk (below_step (by repeat (first|exact gB HB|refine below_set ?_ GE282.out)) hb);clear BK282;clear HB;have HO293:=n0_;have BK282:=n1_;have HB:=n2_;clear n0_ n1_ n2_;(try clear hb);(try clear hb2);(try clear hk);(try clear hi);(try clear ho0);obtain ⟨Ao28,co28,eo28⟩:=Kd.R_slice HO293.out;subst eo28;have hcz29_0:w27.cell? ⟨gb282,0,none⟩=some (.int .i64 0):=(blk_cell BK282.out 0).trans rfl;have hcz29_1:w27.cell? ⟨gb282,1,none⟩=some (.int .i64 0):=(blk_cell BK282.out 1).trans rfl;have hcz29_2:w27.cell? ⟨gb282,2,none⟩=some (.string (⟨#[]⟩:ByteArray)):=(blk_cell BK282.out 2).trans rfl;have hcz29_3:w27.cell? ⟨gb282,3,none⟩=some (.slice none 0 0):=(blk_cell BK282.out 3).trans rfl;have hfz29_0:=blk_frozen BK282.out 0;have hfz29_1:=blk_frozen BK282.out 1;have hfz29_2:=blk_frozen BK282.out 2;have hfz29_3:=blk_frozen BK282.out 3))
             refine bodyPost_ret (results_ct rfl _ _ gb282 27 #[.int .i64 7,.int .i64 0,.string (⟨#[]⟩:ByteArray),.slice Ao28 t290.length co28] (0,0) _ rfl (by (with_reducible repeat (first|refine blk_drewN ?_ _|refine blk_drew ?_|refine blk_alloc ?_ _));refine blk_put (cs:=#[.int .i64 7,.int .i64 0,.string (⟨#[]⟩:ByteArray),.slice none 0 0]) ?_ 3 _ rfl;(with_reducible repeat (first|refine blk_drewN ?_ _|refine blk_drew ?_|refine blk_alloc ?_ _));refine blk_put (cs:=#[.int .i64 7,.int .i64 0,.string (⟨#[]⟩:ByteArray),.slice none 0 0]) ?_ 2 _ rfl;(with_reducible repeat (first|refine blk_drewN ?_ _|refine blk_drew ?_|refine blk_alloc ?_ _));refine blk_put (cs:=#[.int .i64 7,.int .i64 0,.string (⟨#[]⟩:ByteArray),.slice none 0 0]) ?_ 1 _ rfl;(with_reducible repeat (first|refine blk_drewN ?_ _|refine blk_drew ?_|refine blk_alloc ?_ _));refine blk_put (cs:=#[.int .i64 0,.int .i64 0,.string (⟨#[]⟩:ByteArray),.slice none 0 0]) ?_ 0 _ rfl;(with_reducible repeat (first|refine blk_drewN ?_ _|refine blk_drew ?_|refine blk_alloc ?_ _));exact BK282.out) Try.underlying27 rfl (by kernel_rfl)) rfl ?_
             exact ⟨_,by first|rfl|(simp [errW_none,errW_some] <;> rfl)|(simp [*,errW_none,errW_some] <;> rfl),by (with_reducible repeat (first|apply Kd.R_alloc|apply Kd.R_drewN|apply Kd.R_drew));exact Kd.R_mono (Kd.R_far (p:=⟨gb282,3,none⟩) (Kd.R_far (p:=⟨gb282,2,none⟩) (Kd.R_far (p:=⟨gb282,1,none⟩) (Kd.R_far (p:=⟨gb282,0,none⟩) (Kd.R_mono HO293.out (fun k_ hk=>(⟨hk,hk.2⟩:_∧k_ ≠ gb282))) (fun _ hk=>hk.2) (.int .i64 7)) (fun _ hk=>hk.2) (.int .i64 0)) (fun _ hk=>hk.2) (.string (⟨#[]⟩:ByteArray))) (fun _ hk=>hk.2) (.slice Ao28 t290.length co28)) (fun _ hk=>trivial),by repeat (first|exact gB HB|refine below_set ?_ GE282.out)⟩
            ·rw [if_neg c25] at H
             have c25b0:((bt a0 a1) == 40)=false:=beq_eq_false_iff_ne.mpr c25
             have c25b1:((bt a0 a1) != 40)=true:=bne_iff_ne.mpr c25
             by_cases c30:(bt a0 a1)=91
             ·rw [if_pos c30] at H
              have c30b0:((bt a0 a1) == 91)=true:=beq_iff_eq.mpr c30
              have c30b1:((bt a0 a1) != 91)=false:=bne_eq_false_iff_eq.mpr c30
              clear c30
              replace H:=Option.bind_eq_some_iff.mp H
              obtain ⟨⟨t294,t295⟩,A310,H⟩:=H
              replace H:(some (8,0,(⟨#[]⟩:ByteArray),t294,t295))=some (r1,r2,r3,r4,r5):=H
              have A31:=Aside0.mk A310
              clear A310
              simp only [Option.some.injEq,Prod.mk.injEq] at H
              obtain ⟨rfl,rfl,rfl,rfl,rfl⟩:=H
              have p11:0≤(a1:Int):=of_decide_eq_true (by first|(with_reducible assumption)|assumption)
              have q11:a1 < (a0.size:Int):=of_decide_eq_true (by first|(with_reducible assumption)|assumption)
              have hx11:=bt_at a0 a1
              replace p11:=eq_true p11
              replace q11:=eq_true q11
              go_wp2_with (first|((with_reducible refine gate_callee (f:=77) rfl ?_);refine goesL_ (some 73) rfl rfl Try.func77 (by kernel_rfl) rfl #[.string a0,.int .i64 (wrap64 (a1+1)),.int .i64 1,.int .u8 93,.int .i64 a2] rfl (by (try simp only [List.map_toArray,List.map_cons,List.map_nil]);first|done|rfl|(simp only [List.length_drop,List.length_take];rfl)) ?_;(with_reducible refine (ih_spec_l1Inner kj3 (by have:=HJ3.out;omega) a0 (wrap64 (a1+1)) 1 93 a2 t294 t295 _ A31.out).mono ?_);rintro e w32 ⟨v296,rfl,ho0,hb⟩;refine ⟨_,rfl,?_⟩;have n0_:=Aside0.mk (Kd.R_lower (Kd.R_newB ho0 (g:=gb282) (o:=.cells #[.int .i64 0,.int .i64 0,.string (⟨#[]⟩:ByteArray),.slice none 0 0] 27 (0,0)) (gK BK282)) (below_size (by repeat (first|exact gB HB|refine below_set ?_ GE282.out))));have n1_:=Aside0.mk (blk_below (g:=gb282) (o:=.cells #[.int .i64 0,.int .i64 0,.string (⟨#[]⟩:ByteArray),.slice none 0 0] 27 (0,0)) (gK BK282) hb);have n2_:=Aside0.mk (below_step (by repeat (first|exact gB HB|refine below_set ?_ GE282.out)) hb);clear BK282;clear HB;have HO297:=n0_;have BK282:=n1_;have HB:=n2_;clear n0_ n1_ n2_;(try clear hb);(try clear hb2);(try clear hk);(try clear hi);(try clear ho0);obtain ⟨Ao33,co33,eo33⟩:=Kd.R_slice HO297.out;subst eo33;have hcz34_0:w32.cell? ⟨gb282,0,none⟩=some (.int .i64 0):=(blk_cell BK282.out 0).trans rfl;have hcz34_1:w32.cell? ⟨gb282,1,none⟩=some (.int .i64 0):=(blk_cell BK282.out 1).trans rfl;have hcz34_2:w32.cell? ⟨gb282,2,none⟩=some (.string (⟨#[]⟩:ByteArray)):=(blk_cell BK282.out 2).trans rfl;have hcz34_3:w32.cell? ⟨gb282,3,none⟩=some (.slice none 0 0):=(blk_cell BK282.out 3).trans rfl;have hfz34_0:=blk_frozen BK282.out 0;have hfz34_1:=blk_frozen BK282.out 1;have hfz34_2:=blk_frozen BK282.out 2;have hfz34_3:=blk_frozen BK282.out 3))
              refine bodyPost_ret (results_ct rfl _ _ gb282 27 #[.int .i64 8,.int .i64 0,.string (⟨#[]⟩:ByteArray),.slice Ao33 t294.length co33] (0,0) _ rfl (by (with_reducible repeat (first|refine blk_drewN ?_ _|refine blk_drew ?_|refine blk_alloc ?_ _));refine blk_put (cs:=#[.int .i64 8,.int .i64 0,.string (⟨#[]⟩:ByteArray),.slice none 0 0]) ?_ 3 _ rfl;(with_reducible repeat (first|refine blk_drewN ?_ _|refine blk_drew ?_|refine blk_alloc ?_ _));refine blk_put (cs:=#[.int .i64 8,.int .i64 0,.string (⟨#[]⟩:ByteArray),.slice none 0 0]) ?_ 2 _ rfl;(with_reducible repeat (first|refine blk_drewN ?_ _|refine blk_drew ?_|refine blk_alloc ?_ _));refine blk_put (cs:=#[.int .i64 8,.int .i64 0,.string (⟨#[]⟩:ByteArray),.slice none 0 0]) ?_ 1 _ rfl;(with_reducible repeat (first|refine blk_drewN ?_ _|refine blk_drew ?_|refine blk_alloc ?_ _));refine blk_put (cs:=#[.int .i64 0,.int .i64 0,.string (⟨#[]⟩:ByteArray),.slice none 0 0]) ?_ 0 _ rfl;(with_reducible repeat (first|refine blk_drewN ?_ _|refine blk_drew ?_|refine blk_alloc ?_ _));exact BK282.out) Try.underlying27 rfl (by kernel_rfl)) rfl ?_
              exact ⟨_,by first|rfl|(simp [errW_none,errW_some] <;> rfl)|(simp [*,errW_none,errW_some] <;> rfl),by (with_reducible repeat (first|apply Kd.R_alloc|apply Kd.R_drewN|apply Kd.R_drew));exact Kd.R_mono (Kd.R_far (p:=⟨gb282,3,none⟩) (Kd.R_far (p:=⟨gb282,2,none⟩) (Kd.R_far (p:=⟨gb282,1,none⟩) (Kd.R_far (p:=⟨gb282,0,none⟩) (Kd.R_mono HO297.out (fun k_ hk=>(⟨hk,hk.2⟩:_∧k_ ≠ gb282))) (fun _ hk=>hk.2) (.int .i64 8)) (fun _ hk=>hk.2) (.int .i64 0)) (fun _ hk=>hk.2) (.string (⟨#[]⟩:ByteArray))) (fun _ hk=>hk.2) (.slice Ao33 t294.length co33)) (fun _ hk=>trivial),by repeat (first|exact gB HB|refine below_set ?_ GE282.out)⟩
             ·rw [if_neg c30] at H
              have c30b0:((bt a0 a1) == 91)=false:=beq_eq_false_iff_ne.mpr c30
              have c30b1:((bt a0 a1) != 91)=true:=bne_iff_ne.mpr c30
              have HC35:=Aside0.mk H
              clear H
              have p11:0≤(a1:Int):=of_decide_eq_true (by first|(with_reducible assumption)|assumption)
              have q11:a1 < (a0.size:Int):=of_decide_eq_true (by first|(with_reducible assumption)|assumption)
              have hx11:=bt_at a0 a1
              replace p11:=eq_true p11
              replace q11:=eq_true q11
              go_upto_region 20 with (fail)
              go_cut [102] (fun v102 wc=>∃ (kq:Nat) (x102_34:Bool),v102=.bool x102_34∧Aside0 (spec_l1Read.j1 kq a0 a1 a2 x102_34=some (r1,r2,r3,r4,r5))∧Aside0 (kq≤kj3)∧Aside0 (wc.heap[gb282]?=some (.cells #[.int .i64 0,.int .i64 0,.string (⟨#[]⟩:ByteArray),(.slice none 0 0)] 27 (0,0)))∧Aside0 (Below w.heap.size w wc))
              case first =>
               have H:=HC35.out
               clear HC35
               by_cases c37:(bt a0 a1) ≥ 48
               ·rw [if_pos c37] at H
                have c37b0:decide (48≤(bt a0 a1))=true:=decide_eq_true c37
                clear c37
                (first|rw [c37b0]|(simp only [i64_w,i32_w];rw [c37b0])|skip)
                by_cases c39:(bt a0 a1)≤57
                ·rw [if_pos c39] at H
                 have c39b0:decide ((bt a0 a1)≤57)=true:=decide_eq_true c39
                 clear c39
                 by_cases c40:(wrap64 (a1+1)) < (a0.size:Int)
                 ·rw [if_pos c40] at H
                  have c40b0:decide ((wrap64 (a1+1)) < (a0.size:Int))=true:=decide_eq_true c40
                  clear c40
                  obtain ⟨ji41,hji41⟩:∃ j_:Int,(wrap64 (a1+1))=j_:=⟨_,rfl⟩
                  replace H:(if 0≤(ji41) then (spec_l1Read.j1 kj3 a0 a1 a2 ((bt a0 (ji41)) == 60)) else (none))=some (r1,r2,r3,r4,r5):=by first|(rw [hji41] at H;exact H)|(simp only [hji41] at H ⊢;exact H)
                  (try rw [hji41] at c40b0)
                  have hji41w:(IntKind.i64.wrap (a1+1))=ji41:=(i64_w _).trans hji41
                  by_cases c42:0≤(ji41)
                  ·rw [if_pos c42] at H
                   have c42b0:decide (0≤(ji41))=true:=decide_eq_true c42
                   clear c42
                   have H':=Aside0.mk H
                   clear H
                   have p36:0≤(a1:Int):=of_decide_eq_true (by first|(with_reducible assumption)|assumption)
                   have q36:a1 < (a0.size:Int):=of_decide_eq_true (by first|(with_reducible assumption)|assumption)
                   have hx36:=bt_at a0 a1
                   replace p36:=eq_true p36
                   replace q36:=eq_true q36
                   have p38:0≤(a1:Int):=of_decide_eq_true (by first|(with_reducible assumption)|assumption)
                   have q38:a1 < (a0.size:Int):=of_decide_eq_true (by first|(with_reducible assumption)|assumption)
                   have hx38:=bt_at a0 a1
                   replace p38:=eq_true p38
                   replace q38:=eq_true q38
                   have p43:0≤((ji41):Int):=of_decide_eq_true (by first|(with_reducible assumption)|assumption)
                   have q43:(ji41) < (a0.size:Int):=of_decide_eq_true (by first|(with_reducible assumption)|assumption)
                   have hx43:=bt_at a0 (ji41)
                   replace p43:=eq_true p43
                   replace q43:=eq_true q43
                   go_wp2
                   go_meet
                   case rel=>exact ⟨_,(((bt a0 (ji41)) == 60)),(by first|rfl|(simp;done)|(simp only [← hji41] <;> (first|rfl|simp))|(simp [*];done)),H',⟨by have:=HJ3.out;first|omega|exact Nat.le_refl _⟩,⟨gK BK282⟩,⟨by repeat (first|exact gB HB|refine below_set ?_ GE282.out)⟩⟩
                  ·rw [if_neg c42] at H
                   exact absurd H (by simp)
                 ·rw [if_neg c40] at H
                  have c40b0:decide ((wrap64 (a1+1)) < (a0.size:Int))=false:=decide_eq_false c40
                  clear c40
                  have H':=Aside0.mk H
                  clear H
                  have p36:0≤(a1:Int):=of_decide_eq_true (by first|(with_reducible assumption)|assumption)
                  have q36:a1 < (a0.size:Int):=of_decide_eq_true (by first|(with_reducible assumption)|assumption)
                  have hx36:=bt_at a0 a1
                  replace p36:=eq_true p36
                  replace q36:=eq_true q36
                  have p38:0≤(a1:Int):=of_decide_eq_true (by first|(with_reducible assumption)|assumption)
                  have q38:a1 < (a0.size:Int):=of_decide_eq_true (by first|(with_reducible assumption)|assumption)
                  have hx38:=bt_at a0 a1
                  replace p38:=eq_true p38
                  replace q38:=eq_true q38
                  go_wp2
                  go_meet
                  case rel=>exact ⟨_,(false),(by first|rfl|(simp;done)|(simp [*];done)),H',⟨by have:=HJ3.out;first|omega|exact Nat.le_refl _⟩,⟨gK BK282⟩,⟨by repeat (first|exact gB HB|refine below_set ?_ GE282.out)⟩⟩
                ·rw [if_neg c39] at H
                 have c39b0:decide ((bt a0 a1)≤57)=false:=decide_eq_false c39
                 clear c39
                 have H':=Aside0.mk H
                 clear H
                 have p36:0≤(a1:Int):=of_decide_eq_true (by first|(with_reducible assumption)|assumption)
                 have q36:a1 < (a0.size:Int):=of_decide_eq_true (by first|(with_reducible assumption)|assumption)
                 have hx36:=bt_at a0 a1
                 replace p36:=eq_true p36
                 replace q36:=eq_true q36
                 have p38:0≤(a1:Int):=of_decide_eq_true (by first|(with_reducible assumption)|assumption)
                 have q38:a1 < (a0.size:Int):=of_decide_eq_true (by first|(with_reducible assumption)|assumption)
                 have hx38:=bt_at a0 a1
                 replace p38:=eq_true p38
                 replace q38:=eq_true q38
                 go_wp2
                 go_meet
                 case rel=>exact ⟨_,(false),(by first|rfl|(simp;done)|(simp [*];done)),H',⟨by have:=HJ3.out;first|omega|exact Nat.le_refl _⟩,⟨gK BK282⟩,⟨by repeat (first|exact gB HB|refine below_set ?_ GE282.out)⟩⟩
               ·rw [if_neg c37] at H
                have c37b0:decide (48≤(bt a0 a1))=false:=decide_eq_false c37
                clear c37
                (first|rw [c37b0]|(simp only [i64_w,i32_w];rw [c37b0])|skip)
                have H':=Aside0.mk H
                clear H
                have p36:0≤(a1:Int):=of_decide_eq_true (by first|(with_reducible assumption)|assumption)
                have q36:a1 < (a0.size:Int):=of_decide_eq_true (by first|(with_reducible assumption)|assumption)
                have hx36:=bt_at a0 a1
                replace p36:=eq_true p36
                replace q36:=eq_true q36
                go_wp2
                go_meet
                case rel=>exact ⟨_,(false),(by first|rfl|(simp;done)|(simp [*];done)),H',⟨by have:=HJ3.out;first|omega|exact Nat.le_refl _⟩,⟨gK BK282⟩,⟨by repeat (first|exact gB HB|refine below_set ?_ GE282.out)⟩⟩
              case rest =>
               clear HC35
               try clear c1 p1 q1 hx1 c2 p2 c3 p3 q3 hx3 c4 p4 q4 hx4 c6 c6b0 p6 c7 c9 c9b0 c10 c10b0 p11 q11 hx11 c12 c12b0 c12b1 c14 c14b0 c14b1 c16 c16b0 c16b1 c18 c18b0 c18b1 c20 c20b0 c20b1 c25 c25b0 c25b1 c30 c30b0 c30b1 p36 q36 hx36 c37 c37b0 p38 q38 hx38 c39 c39b0 c40 c40b0 c42 c42b0 p43 q43 hx43 hcz13_0 hcz13_1 hcz13_2 hcz13_3 hcz15_0 hcz15_1 hcz15_2 hcz15_3 hcz17_0 hcz17_1 hcz17_2 hcz17_3 hcz19_0 hcz19_1 hcz19_2 hcz19_3 hcz23_0 hcz23_1 hcz23_2 hcz23_3 hcz29_0 hcz29_1 hcz29_2 hcz29_3 hcz34_0 hcz34_1 hcz34_2 hcz34_3 hcz8_0 hcz8_1 hcz8_2 hcz8_3 hfz13_0 hfz13_1 hfz13_2 hfz13_3 hfz15_0 hfz15_1 hfz15_2 hfz15_3 hfz17_0 hfz17_1 hfz17_2 hfz17_3 hfz19_0 hfz19_1 hfz19_2 hfz19_3 hfz23_0 hfz23_1 hfz23_2 hfz23_3 hfz29_0 hfz29_1 hfz29_2 hfz29_3 hfz34_0 hfz34_1 hfz34_2 hfz34_3 hfz8_0 hfz8_1 hfz8_2 hfz8_3 p11 p2 p36 p38 p43 q11 q36 q38 q43
               obtain ⟨kq,x102_34,rfl,HA,HJ34,BK282,HB⟩:=hcut
               cases kq with
               | zero=>exact absurd HA.out (by simp [spec_l1Read.j1])
               | succ kj34 =>
                have H:=HA.out
                clear HA
                simp only [spec_l1Read.j1] at H
                by_cases c44:x102_34=true
                ·subst c44
                 have H1:((spec_l1Inner.f kj34 a0 (wrap64 (a1+2)) 1 62 a2).bind fun bt298=>(if 0≤a1 then (if a1 < (a0.size:Int) then (some (6,((bt a0 a1) - 48) % 256,(⟨#[]⟩:ByteArray),bt298.1,bt298.2)) else (none)) else (none)))=some (r1,r2,r3,r4,r5):=by rw [if_pos rfl] at H;exact H
                 clear H
                 have H:=H1
                 clear H1
                 replace H:=Option.bind_eq_some_iff.mp H
                 obtain ⟨⟨t298,t299⟩,A450,H⟩:=H
                 replace H:(if 0≤a1 then (if a1 < (a0.size:Int) then (some (6,((bt a0 a1) - 48) % 256,(⟨#[]⟩:ByteArray),t298,t299)) else (none)) else (none))=some (r1,r2,r3,r4,r5):=H
                 have A45:=Aside0.mk A450
                 clear A450
                 by_cases c46:0≤a1
                 ·rw [if_pos c46] at H
                  have c46b0:decide (0≤a1)=true:=decide_eq_true c46
                  clear c46
                  by_cases c47:a1 < (a0.size:Int)
                  ·rw [if_pos c47] at H
                   have c47b0:decide (a1 < (a0.size:Int))=true:=decide_eq_true c47
                   clear c47
                   simp only [Option.some.injEq,Prod.mk.injEq] at H
                   obtain ⟨rfl,rfl,rfl,rfl,rfl⟩:=H
                   go_wp2_with (first|((with_reducible refine gate_callee (f:=77) rfl ?_);refine goesL_ (some 108) rfl rfl Try.func77 (by kernel_rfl) rfl #[.string a0,.int .i64 (wrap64 (a1+2)),.int .i64 1,.int .u8 62,.int .i64 a2] rfl (by (try simp only [List.map_toArray,List.map_cons,List.map_nil]);first|done|rfl|(simp only [List.length_drop,List.length_take];rfl)) ?_;(with_reducible refine (ih_spec_l1Inner kj34 (by have:=HJ3.out;have:=HJ34.out;omega) a0 (wrap64 (a1+2)) 1 62 a2 t298 t299 _ A45.out).mono ?_);rintro e w49 ⟨v300,rfl,ho0,hb⟩;refine ⟨_,rfl,?_⟩;have n0_:=Aside0.mk (Kd.R_lower (Kd.R_newB ho0 (g:=gb282) (o:=.cells #[.int .i64 0,.int .i64 0,.string (⟨#[]⟩:ByteArray),.slice none 0 0] 27 (0,0)) (gK BK282)) (below_size (by repeat (first|exact gB HB|refine below_set ?_ GE282.out))));have n1_:=Aside0.mk (blk_below (g:=gb282) (o:=.cells #[.int .i64 0,.int .i64 0,.string (⟨#[]⟩:ByteArray),.slice none 0 0] 27 (0,0)) (gK BK282) hb);have n2_:=Aside0.mk (below_step (by repeat (first|exact gB HB|refine below_set ?_ GE282.out)) hb);clear BK282;clear HB;have HO301:=n0_;have BK282:=n1_;have HB:=n2_;clear n0_ n1_ n2_;(try clear hb);(try clear hb2);(try clear hk);(try clear hi);(try clear ho0);have p48:0≤(a1:Int):=of_decide_eq_true (by first|(with_reducible assumption)|assumption);have q48:a1 < (a0.size:Int):=of_decide_eq_true (by first|(with_reducible assumption)|assumption);have hx48:=bt_at a0 a1;replace p48:=eq_true p48;replace q48:=eq_true q48;obtain ⟨Ao50,co50,eo50⟩:=Kd.R_slice HO301.out;subst eo50;have hcz51_0:w49.cell? ⟨gb282,0,none⟩=some (.int .i64 0):=(blk_cell BK282.out 0).trans rfl;have hcz51_1:w49.cell? ⟨gb282,1,none⟩=some (.int .i64 0):=(blk_cell BK282.out 1).trans rfl;have hcz51_2:w49.cell? ⟨gb282,2,none⟩=some (.string (⟨#[]⟩:ByteArray)):=(blk_cell BK282.out 2).trans rfl;have hcz51_3:w49.cell? ⟨gb282,3,none⟩=some (.slice none 0 0):=(blk_cell BK282.out 3).trans rfl;have hfz51_0:=blk_frozen BK282.out 0;have hfz51_1:=blk_frozen BK282.out 1;have hfz51_2:=blk_frozen BK282.out 2;have hfz51_3:=blk_frozen BK282.out 3))
                   refine bodyPost_ret (results_ct rfl _ _ gb282 27 #[.int .i64 6,.int .i64 (((bt a0 a1) - 48) % 256),.string (⟨#[]⟩:ByteArray),.slice Ao50 t298.length co50] (0,0) _ rfl (by (with_reducible repeat (first|refine blk_drewN ?_ _|refine blk_drew ?_|refine blk_alloc ?_ _));refine blk_put (cs:=#[.int .i64 6,.int .i64 (((bt a0 a1) - 48) % 256),.string (⟨#[]⟩:ByteArray),.slice none 0 0]) ?_ 3 _ rfl;(with_reducible repeat (first|refine blk_drewN ?_ _|refine blk_drew ?_|refine blk_alloc ?_ _));refine blk_put (cs:=#[.int .i64 6,.int .i64 (((bt a0 a1) - 48) % 256),.string (⟨#[]⟩:ByteArray),.slice none 0 0]) ?_ 2 _ rfl;(with_reducible repeat (first|refine blk_drewN ?_ _|refine blk_drew ?_|refine blk_alloc ?_ _));refine blk_put (cs:=#[.int .i64 6,.int .i64 0,.string (⟨#[]⟩:ByteArray),.slice none 0 0]) ?_ 1 _ rfl;(with_reducible repeat (first|refine blk_drewN ?_ _|refine blk_drew ?_|refine blk_alloc ?_ _));refine blk_put (cs:=#[.int .i64 0,.int .i64 0,.string (⟨#[]⟩:ByteArray),.slice none 0 0]) ?_ 0 _ rfl;(with_reducible repeat (first|refine blk_drewN ?_ _|refine blk_drew ?_|refine blk_alloc ?_ _));exact BK282.out) Try.underlying27 rfl (by kernel_rfl)) rfl ?_
                   exact ⟨_,by first|rfl|(simp [errW_none,errW_some] <;> rfl)|(simp [*,errW_none,errW_some] <;> rfl),by (with_reducible repeat (first|apply Kd.R_alloc|apply Kd.R_drewN|apply Kd.R_drew));exact Kd.R_mono (Kd.R_far (p:=⟨gb282,3,none⟩) (Kd.R_far (p:=⟨gb282,2,none⟩) (Kd.R_far (p:=⟨gb282,1,none⟩) (Kd.R_far (p:=⟨gb282,0,none⟩) (Kd.R_mono HO301.out (fun k_ hk=>(⟨hk,hk.2⟩:_∧k_ ≠ gb282))) (fun _ hk=>hk.2) (.int .i64 6)) (fun _ hk=>hk.2) (.int .i64 (((bt a0 a1) - 48) % 256))) (fun _ hk=>hk.2) (.string (⟨#[]⟩:ByteArray))) (fun _ hk=>hk.2) (.slice Ao50 t298.length co50)) (fun _ hk=>trivial),by repeat (first|exact gB HB|refine below_set ?_ GE282.out)⟩
                  ·rw [if_neg c47] at H
                   exact absurd H (by simp)
                 ·rw [if_neg c46] at H
                  exact absurd H (by simp)
                ·replace c44:=Bool.eq_false_iff.mpr c44
                 subst c44
                 have H1:(some (0,0,(⟨#[]⟩:ByteArray),([]:List (SDoc)),(-1)))=some (r1,r2,r3,r4,r5):=by rw [if_neg (show ¬ (false=true) by decide)] at H;exact H
                 clear H
                 have H:=H1
                 clear H1
                 simp only [Option.some.injEq,Prod.mk.injEq] at H
                 obtain ⟨rfl,rfl,rfl,rfl,rfl⟩:=H
                 have hcz52_0:wc.cell? ⟨gb282,0,none⟩=some (.int .i64 0):=(blk_cell BK282.out 0).trans rfl
                 have hcz52_1:wc.cell? ⟨gb282,1,none⟩=some (.int .i64 0):=(blk_cell BK282.out 1).trans rfl
                 have hcz52_2:wc.cell? ⟨gb282,2,none⟩=some (.string (⟨#[]⟩:ByteArray)):=(blk_cell BK282.out 2).trans rfl
                 have hcz52_3:wc.cell? ⟨gb282,3,none⟩=some (.slice none 0 0):=(blk_cell BK282.out 3).trans rfl
                 have hfz52_0:=blk_frozen BK282.out 0
                 have hfz52_1:=blk_frozen BK282.out 1
                 have hfz52_2:=blk_frozen BK282.out 2
                 have hfz52_3:=blk_frozen BK282.out 3
                 go_wp2
                 refine bodyPost_ret (results_ct rfl _ _ gb282 27 #[.int .i64 0,.int .i64 0,.string (⟨#[]⟩:ByteArray),.slice none 0 0] (0,0) _ rfl (by (with_reducible repeat (first|refine blk_drewN ?_ _|refine blk_drew ?_|refine blk_alloc ?_ _));refine blk_put (cs:=#[.int .i64 0,.int .i64 0,.string (⟨#[]⟩:ByteArray),.slice none 0 0]) ?_ 3 _ rfl;(with_reducible repeat (first|refine blk_drewN ?_ _|refine blk_drew ?_|refine blk_alloc ?_ _));refine blk_put (cs:=#[.int .i64 0,.int .i64 0,.string (⟨#[]⟩:ByteArray),.slice none 0 0]) ?_ 2 _ rfl;(with_reducible repeat (first|refine blk_drewN ?_ _|refine blk_drew ?_|refine blk_alloc ?_ _));refine blk_put (cs:=#[.int .i64 0,.int .i64 0,.string (⟨#[]⟩:ByteArray),.slice none 0 0]) ?_ 1 _ rfl;(with_reducible repeat (first|refine blk_drewN ?_ _|refine blk_drew ?_|refine blk_alloc ?_ _));refine blk_put (cs:=#[.int .i64 0,.int .i64 0,.string (⟨#[]⟩:ByteArray),.slice none 0 0]) ?_ 0 _ rfl;(with_reducible repeat (first|refine blk_drewN ?_ _|refine blk_drew ?_|refine blk_alloc ?_ _));exact BK282.out) Try.underlying27 rfl (by kernel_rfl)) rfl ?_
                 exact ⟨_,by first|rfl|(simp [errW_none,errW_some] <;> rfl)|(simp [*,errW_none,errW_some] <;> rfl),by first|exact Kd.R_nil _ _ _ _ _|exact Kd.N_nil _ _ _ _ _|exact Kd.V_nil _ _ _ _ _|exact Kd.Q_nil _ _ _ _ _|exact Kd.S_nil _ _ _ _ _,by repeat (first|exact gB HB|refine below_set ?_ GE282.out)⟩
      ·rw [if_neg c10] at H
       exact absurd H (by simp)
     ·rw [if_neg c9] at H
      exact absurd H (by simp)
 ·have ih_spec_l1Read:=fun (m_:Nat) (hm_:m_ < k)=>(ih0 m_ hm_).1
  have ih:=fun (m_:Nat) (hm_:m_ < k)=>(ih0 m_ hm_).2
  clear ih0
  intro a0 a1 a2 a3 a4 r1 r2 w h
  cases k with
  | zero=>exact absurd h (by simp [spec_l1Inner.f])
  | succ k =>
  simp only [spec_l1Inner.f] at h
  have hu27:=Try.underlying27
  have HB:=Aside0.mk (Below.refl w.heap.size w)
  have H:(spec_l1Inner.l0 k a0 a1 a2 a3 a4 (([]:List (SDoc))) 0)=some (r1,r2):=h
  clear h
  obtain ⟨y302,hy302⟩:∃ y_:List (SDoc),y_=(([]:List (SDoc))):=⟨_,rfl⟩
  replace H:(spec_l1Inner.l0 k a0 a1 a2 a3 a4 y302 0)=some (r1,r2):=by first|(rw [hy302];with_reducible exact H)|(have H2_:=(Option.bind_some _ _).symm.trans H;rw [hy302];with_reducible exact H2_)|(have H2_:=(Option.bind_some _ _).symm.trans H;with_reducible exact H2_)|with_reducible exact H|(rw [hy302];exact H)|exact H
  have Ny302:=Aside0.mk hy302
  clear hy302
  have H':=Aside0.mk H
  clear H
  go_enter Try.func77,Try.ntmps77
  go_wp2_with (first|((with_reducible refine gate_dst (N:=16) rfl ?_);refine Kd.R_lit k27 _ 27 ?hg (N:=16) ?hd (xs:=([]:List (SDoc))) (inner:=[]) (ok:=fun _=>True) (okp:=fun _=>True) ?hr ?hp (fun _ hk=>hk) trivial (Below.refl _ _) (Nat.le_refl _) (by simp) ?_;(case hd=>rfl);(case hg=>rfl);(case hr=>first|(go_simp;done)|(go_simp;rfl));(case hp=>exact (Reps.none _ _));intro v303 w6 ho7 hb hg_ hnew_;clear hg_ hnew_;(first|rw [← Ny302.out] at ho7|(simp only [Int.reduceToNat] at ho7;rw [← Ny302.out] at ho7));have n0_:=Aside0.mk (Kd.R_lower ho7 (below_size (gB HB)));have n1_:=Aside0.mk (below_step (gB HB) hb);clear HB;have HO304:=n0_;have HB:=n1_;clear n0_ n1_;clear hb ho7))
  go_loopg [1,12,13] k (fun kq v1 v12 v13 w'=>∃ (x1_1:Int) (x12_1:List (SDoc)) (x13_1:Int),v1=.int .i64 x1_1∧v13=.int .i64 x13_1∧Aside0 (spec_l1Inner.l0 kq a0 x1_1 a2 a3 a4 x12_1 x13_1=some (r1,r2))∧Aside0 (kq≤k)∧Aside0 (Kd.R k27 27 w' w.heap.size (fun _=>True) v12 x12_1)∧Aside0 (Below w.heap.size w w'))
  case atStart=>exact ⟨(a1),(y302),(0),(by first|rfl|(simp;done)|(simp [*];done)),(by first|rfl|(simp;done)|(simp [*];done)),H',⟨Nat.le_refl _⟩,⟨gR HO304⟩,⟨gB HB⟩⟩
  case round =>
   clear H'
   try clear p2 c7
   (try clear HO_12);(try clear HB)
   obtain ⟨x1_1,x12_1,x13_1,rfl,rfl,HA,HK1,HO_12,HB⟩:=hrel
   cases gk with
   | zero=>exact absurd HA.out (by simp [spec_l1Inner.l0])
   | succ k1 =>
    have H:=HA.out
    clear HA
    simp only [spec_l1Inner.l0] at H
    by_cases c8:x13_1 < a2
    ·rw [if_pos c8] at H
     have c8b0:decide (x13_1 < a2)=true:=decide_eq_true c8
     clear c8
     replace H:=Option.bind_eq_some_iff.mp H
     obtain ⟨⟨t305,t306,t307,t308,t311⟩,A90,H⟩:=H
     replace H:(if t311 < 0 then (some (x12_1,(-1))) else (if x12_1.length < 2513169434916 then (spec_l1Inner.l0 k1 a0 t311 a2 a3 a4 (x12_1++[(⟨t305,t306,t307,t308⟩:SDoc)]) (wrap64 (x13_1+1))) else (none)))=some (r1,r2):=H
     have A9:=Aside0.mk A90
     clear A90
     by_cases c10:t311 < 0
     ·rw [if_pos c10] at H
      have c10b0:decide (t311 < 0)=true:=decide_eq_true c10
      clear c10
      simp only [Option.some.injEq,Prod.mk.injEq] at H
      obtain ⟨rfl,rfl⟩:=H
      go_wp2_with (first|((with_reducible refine gate_callee (f:=64) rfl ?_);refine goesL_ (some 27) rfl rfl Try.func64 (by kernel_rfl) rfl #[.string a0,.int .i64 x1_1,.int .i64 (wrap64 (a4 - 1))] rfl (by (try simp only [List.map_toArray,List.map_cons,List.map_nil]);first|done|rfl|(simp only [List.length_drop,List.length_take];rfl)) ?_;(with_reducible refine (ih_spec_l1Read k1 (by have:=HK1.out;omega) a0 x1_1 (wrap64 (a4 - 1)) t305 t306 t307 t308 t311 _ A9.out).mono ?_);rintro e w11 ⟨v309,rfl,ho0,hb⟩;refine ⟨_,rfl,?_⟩;have n0_:=Aside0.mk (Kd.R_elder' (gR HO_12) (Kd.R_base ho0) hb);have n1_:=Aside0.mk (Kd.R_lower (Kd.R_new' ho0 (Kd.R_lt (gR HO_12))) (below_size (gB HB)));have n2_:=Aside0.mk (below_step (gB HB) hb);clear HO_12;clear HB;have HO_12:=n0_;have HO310:=n1_;have HB:=n2_;clear n0_ n1_ n2_;(try clear hb);(try clear hb2);(try clear hk);(try clear hi);(try clear ho0))|((with_reducible refine gate_dst (N:=14) rfl ?_);refine box_event ?hg (N:=14) ?hd (cs:=#[.int .i64 0,.int .i64 0,.string (⟨#[]⟩:ByteArray),.slice none 0 0]) (t:=27) ?hr ?_;(case hd=>rfl);(case hg=>rfl);(case hr=>first|(go_simp;done)|(go_simp;rfl));intro gb312 hg w12 hbox hb;have n0_:=Aside0.mk (Kd.R_below (Kd.R_elderB (gR HO_12) gb312 (Nat.le_of_eq hg.symm)) hb);have n1_:=Aside0.mk (Kd.R_below (Kd.R_elderB (gR HO310) gb312 (Nat.le_of_eq hg.symm)) hb);have n2_:=Aside0.mk (below_step (gB HB) hb);have n3_:=Aside0.mk (hbox);have n4_:=Aside0.mk ((by rw [hg];exact (below_size (gB HB)):w.heap.size≤gb312));have n5_:=Aside0.mk ((by rw [hg];exact (below_size (gB HB)):w.heap.size≤gb312));clear HO_12;clear HO310;clear HB;have HO_12:=n0_;have HO310:=n1_;have HB:=n2_;have BK312:=n3_;have GW312:=n4_;have GE312:=n5_;clear n0_ n1_ n2_ n3_ n4_ n5_;clear hb hbox hg;have hcz13_0:w12.cell? ⟨gb312,0,none⟩=some (.int .i64 0):=(blk_cell BK312.out 0).trans rfl;have hcz13_1:w12.cell? ⟨gb312,1,none⟩=some (.int .i64 0):=(blk_cell BK312.out 1).trans rfl;have hcz13_2:w12.cell? ⟨gb312,2,none⟩=some (.string (⟨#[]⟩:ByteArray)):=(blk_cell BK312.out 2).trans rfl;have hcz13_3:w12.cell? ⟨gb312,3,none⟩=some (.slice none 0 0):=(blk_cell BK312.out 3).trans rfl;have hfz13_0:=blk_frozen BK312.out 0;have hfz13_1:=blk_frozen BK312.out 1;have hfz13_2:=blk_frozen BK312.out 2;have hfz13_3:=blk_frozen BK312.out 3;obtain ⟨Ao14,co14,eo14⟩:=Kd.R_slice HO310.out;subst eo14))
      go_ret2
      exact ⟨_,by first|rfl|(simp [errW_none,errW_some] <;> rfl)|(simp [*,errW_none,errW_some] <;> rfl),by (with_reducible repeat (first|apply Kd.R_alloc|apply Kd.R_drewN|apply Kd.R_drew));exact Kd.R_mono (Kd.R_far (p:=⟨gb312,3,none⟩) (Kd.R_far (p:=⟨gb312,2,none⟩) (Kd.R_far (p:=⟨gb312,1,none⟩) (Kd.R_far (p:=⟨gb312,0,none⟩) (Kd.R_mono HO_12.out (fun k_ hk=>(⟨hk,hk.2⟩:_∧k_ ≠ gb312))) (fun _ hk=>hk.2) (.int .i64 t305)) (fun _ hk=>hk.2) (.int .i64 t306)) (fun _ hk=>hk.2) (.string t307)) (fun _ hk=>hk.2) (.slice Ao14 t308.length co14)) (fun _ hk=>trivial),by repeat (first|exact gB HB|refine below_set ?_ GE312.out)⟩
     ·rw [if_neg c10] at H
      have c10b0:decide (t311 < 0)=false:=decide_eq_false c10
      clear c10
      by_cases c15:x12_1.length < 2513169434916
      ·rw [if_pos c15] at H
       have LMc15:=Aside0.mk c15
       clear c15
       obtain ⟨y313,hy313⟩:∃ y_:List (SDoc),y_=(x12_1++[(⟨t305,t306,t307,t308⟩:SDoc)]):=⟨_,rfl⟩
       replace H:(spec_l1Inner.l0 k1 a0 t311 a2 a3 a4 y313 (wrap64 (x13_1+1)))=some (r1,r2):=by first|(rw [hy313];with_reducible exact H)|(have H2_:=(Option.bind_some _ _).symm.trans H;rw [hy313];with_reducible exact H2_)|(have H2_:=(Option.bind_some _ _).symm.trans H;with_reducible exact H2_)|with_reducible exact H|(rw [hy313];exact H)|exact H
       have Ny313:=Aside0.mk hy313
       clear hy313
       have H':=Aside0.mk H
       clear H
       go_wp2_with (first|((with_reducible refine gate_callee (f:=64) rfl ?_);refine goesL_ (some 27) rfl rfl Try.func64 (by kernel_rfl) rfl #[.string a0,.int .i64 x1_1,.int .i64 (wrap64 (a4 - 1))] rfl (by (try simp only [List.map_toArray,List.map_cons,List.map_nil]);first|done|rfl|(simp only [List.length_drop,List.length_take];rfl)) ?_;(with_reducible refine (ih_spec_l1Read k1 (by have:=HK1.out;omega) a0 x1_1 (wrap64 (a4 - 1)) t305 t306 t307 t308 t311 _ A9.out).mono ?_);rintro e w16 ⟨v309,rfl,ho0,hb⟩;refine ⟨_,rfl,?_⟩;have n0_:=Aside0.mk (Kd.R_elder' (gR HO_12) (Kd.R_base ho0) hb);have n1_:=Aside0.mk (Kd.R_lower (Kd.R_new' ho0 (Kd.R_lt (gR HO_12))) (below_size (gB HB)));have n2_:=Aside0.mk (below_step (gB HB) hb);clear HO_12;clear HB;have HO_12:=n0_;have HO310:=n1_;have HB:=n2_;clear n0_ n1_ n2_;(try clear hb);(try clear hb2);(try clear hk);(try clear hi);(try clear ho0))|((with_reducible refine gate_dst (N:=14) rfl ?_);refine box_event ?hg (N:=14) ?hd (cs:=#[.int .i64 0,.int .i64 0,.string (⟨#[]⟩:ByteArray),.slice none 0 0]) (t:=27) ?hr ?_;(case hd=>rfl);(case hg=>rfl);(case hr=>first|(go_simp;done)|(go_simp;rfl));intro gb312 hg w17 hbox hb;have n0_:=Aside0.mk (Kd.R_below (Kd.R_elderB (gR HO_12) gb312 (Nat.le_of_eq hg.symm)) hb);have n1_:=Aside0.mk (Kd.R_below (Kd.R_elderB (gR HO310) gb312 (Nat.le_of_eq hg.symm)) hb);have n2_:=Aside0.mk (below_step (gB HB) hb);have n3_:=Aside0.mk (hbox);have n4_:=Aside0.mk ((by rw [hg];exact (below_size (gB HB)):w.heap.size≤gb312));have n5_:=Aside0.mk ((by rw [hg];exact (below_size (gB HB)):w.heap.size≤gb312));clear HO_12;clear HO310;clear HB;have HO_12:=n0_;have HO310:=n1_;have HB:=n2_;have BK312:=n3_;have GW312:=n4_;have GE312:=n5_;clear n0_ n1_ n2_ n3_ n4_ n5_;clear hb hbox hg;have hcz18_0:w17.cell? ⟨gb312,0,none⟩=some (.int .i64 0):=(blk_cell BK312.out 0).trans rfl;have hcz18_1:w17.cell? ⟨gb312,1,none⟩=some (.int .i64 0):=(blk_cell BK312.out 1).trans rfl;have hcz18_2:w17.cell? ⟨gb312,2,none⟩=some (.string (⟨#[]⟩:ByteArray)):=(blk_cell BK312.out 2).trans rfl;have hcz18_3:w17.cell? ⟨gb312,3,none⟩=some (.slice none 0 0):=(blk_cell BK312.out 3).trans rfl;have hfz18_0:=blk_frozen BK312.out 0;have hfz18_1:=blk_frozen BK312.out 1;have hfz18_2:=blk_frozen BK312.out 2;have hfz18_3:=blk_frozen BK312.out 3;obtain ⟨Ao19,co19,eo19⟩:=Kd.R_slice HO310.out;subst eo19)|((with_reducible refine gate_store (t:=27) (p:=14) rfl ?_);refine store_event (t:=27) (p:=14) (v:=?vo_w20) (w1:=((((w17.setCell ⟨gb312,0,none⟩ (.int .i64 t305)).setCell ⟨gb312,1,none⟩ (.int .i64 t306)).setCell ⟨gb312,2,none⟩ (.string t307)).setCell ⟨gb312,3,none⟩ (.slice Ao19 t308.length co19))) ?hg ?ho ?hn ?hr ?_;(case ho=>rfl);(case hg=>rfl);(case hn=>rfl);(case hr=>first|(go_simp;done)|(go_simp;rfl));intro w20 hw;have n0_:Aside0 (Kd.R k27 27 w20 w.heap.size (fun k_=>some k_ ≠ (.slice Ao19 t308.length co19:Value).ownBlock∧k_ ≠ gb312) u12 x12_1):=⟨(by rw [hw];exact (by (with_reducible repeat (first|apply Kd.R_alloc|apply Kd.R_drewN|apply Kd.R_drew));exact Kd.R_mono (Kd.R_far (p:=⟨gb312,3,none⟩) (Kd.R_far (p:=⟨gb312,2,none⟩) (Kd.R_far (p:=⟨gb312,1,none⟩) (Kd.R_far (p:=⟨gb312,0,none⟩) (Kd.R_mono HO_12.out (fun k_ hk=>(⟨hk,hk.2⟩:_∧k_ ≠ gb312))) (fun _ hk=>hk.2) (.int .i64 t305)) (fun _ hk=>hk.2) (.int .i64 t306)) (fun _ hk=>hk.2) (.string t307)) (fun _ hk=>hk.2) (.slice Ao19 t308.length co19)) (fun _ hk=>⟨hk.1.1.2,hk.1.2⟩)))⟩;have n1_:Aside0 (Kd.R k27 27 w20 w.heap.size (fun k_=>some k_ ≠ (u12:Value).ownBlock∧k_ ≠ gb312) (.slice Ao19 t308.length co19) t308):=⟨(by rw [hw];exact (by (with_reducible repeat (first|apply Kd.R_alloc|apply Kd.R_drewN|apply Kd.R_drew));exact Kd.R_mono (Kd.R_far (p:=⟨gb312,3,none⟩) (Kd.R_far (p:=⟨gb312,2,none⟩) (Kd.R_far (p:=⟨gb312,1,none⟩) (Kd.R_far (p:=⟨gb312,0,none⟩) (Kd.R_mono HO310.out (fun k_ hk=>(⟨hk,hk.2⟩:_∧k_ ≠ gb312))) (fun _ hk=>hk.2) (.int .i64 t305)) (fun _ hk=>hk.2) (.int .i64 t306)) (fun _ hk=>hk.2) (.string t307)) (fun _ hk=>hk.2) (.slice Ao19 t308.length co19)) (fun _ hk=>⟨hk.1.1.2,hk.1.2⟩)))⟩;have n2_:Aside0 (w20.heap[gb312]?=some (.cells #[.int .i64 t305,.int .i64 t306,.string t307,.slice Ao19 t308.length co19] 27 (0,0))):=⟨(by rw [hw];exact (by (with_reducible repeat (first|refine blk_drewN ?_ _|refine blk_drew ?_|refine blk_alloc ?_ _));refine blk_put (cs:=#[.int .i64 t305,.int .i64 t306,.string t307,.slice none 0 0]) ?_ 3 _ rfl;(with_reducible repeat (first|refine blk_drewN ?_ _|refine blk_drew ?_|refine blk_alloc ?_ _));refine blk_put (cs:=#[.int .i64 t305,.int .i64 t306,.string (⟨#[]⟩:ByteArray),.slice none 0 0]) ?_ 2 _ rfl;(with_reducible repeat (first|refine blk_drewN ?_ _|refine blk_drew ?_|refine blk_alloc ?_ _));refine blk_put (cs:=#[.int .i64 t305,.int .i64 0,.string (⟨#[]⟩:ByteArray),.slice none 0 0]) ?_ 1 _ rfl;(with_reducible repeat (first|refine blk_drewN ?_ _|refine blk_drew ?_|refine blk_alloc ?_ _));refine blk_put (cs:=#[.int .i64 0,.int .i64 0,.string (⟨#[]⟩:ByteArray),.slice none 0 0]) ?_ 0 _ rfl;(with_reducible repeat (first|refine blk_drewN ?_ _|refine blk_drew ?_|refine blk_alloc ?_ _));exact BK312.out))⟩;have n3_:Aside0 (Below w.heap.size w w20):=⟨(by rw [hw];exact (by repeat (first|exact gB HB|refine below_set ?_ GE312.out)))⟩;clear hw;clear HO_12;clear HO310;clear BK312;clear HB;have HO_12:=n0_;have HO310:=n1_;have BK312:=n2_;have HB:=n3_;clear n0_ n1_ n2_ n3_;have hcz21_0:w20.cell? ⟨gb312,0,none⟩=some (.int .i64 t305):=(blk_cell BK312.out 0).trans rfl;have hcz21_1:w20.cell? ⟨gb312,1,none⟩=some (.int .i64 t306):=(blk_cell BK312.out 1).trans rfl;have hcz21_2:w20.cell? ⟨gb312,2,none⟩=some (.string t307):=(blk_cell BK312.out 2).trans rfl;have hcz21_3:w20.cell? ⟨gb312,3,none⟩=some (.slice Ao19 t308.length co19):=(blk_cell BK312.out 3).trans rfl;have hfz21_0:=blk_frozen BK312.out 0;have hfz21_1:=blk_frozen BK312.out 1;have hfz21_2:=blk_frozen BK312.out 2;have hfz21_3:=blk_frozen BK312.out 3)|((with_reducible refine gate_builtin (b:=.append) (xs:=#[.tmp 33,.tmp 35]) rfl ?_);at_builtin;refine Kd.R_append k27 (w0:=w) w.heap.size rfl (.tmp 33) (.tmp 35) 25 27 (.agg #[(.int .i64 0),(.int .i64 0),(.string ⟨#[]⟩),(.slice none 0 0)]) 56 rfl Try.underlying25 info27 rfl (by decide) (by omega) u12 x12_1 (⟨t305,t306,t307,t308⟩:SDoc) [.int .i64 t305,.int .i64 t306,.string t307,.slice Ao19 t308.length co19] (fun k_=>k_ ≠ gb312) (fun k_=>((fun k_=>k_ ≠ gb312)) k_∧some k_ ≠ (u12:Value).ownBlock) rfl rfl ?aP (fun _ hk=>hk) ?aF ?aO ?aB ?aS ?aL ?_;(case aP=>exact k27_mkM _ _ _ (⟨t305,t306,t307,t308⟩:SDoc) (Kd.R_mono (HO310.out) (fun k_ hk=>⟨hk.2,hk.1⟩)));(case aB=>exact (by repeat (first|exact gB HB|refine below_set ?_ GE312.out)));(case aF=>exact (fun k_ hk=>Kd.freshB (g:=gb312) (o:=.cells #[.int .i64 t305,.int .i64 t306,.string t307,.slice Ao19 t308.length co19] 27 (0,0)) (gK BK312) k_ hk));(case aO=>exact (by (with_reducible repeat (first|apply Kd.R_alloc|apply Kd.R_drewN|apply Kd.R_drew));exact Kd.R_mono HO_12.out (fun _ hk=>hk.2)));(case aS=>exact (below_size (by repeat (first|exact gB HB|refine below_set ?_ GE312.out))));(case aL=>have:=LMc15.out;omega);intro v314 w22 ho hb hg hat;rw [← Ny313.out] at ho;have n0_:=Aside0.mk (blk_grown (g:=gb312) (o:=.cells #[.int .i64 t305,.int .i64 t306,.string t307,.slice Ao19 t308.length co19] 27 (0,0)) (gK BK312) hg (Kd.R_away HO_12.out (fun _ hk=>hk.2)));have n1_:=Aside0.mk (hb);have n2_:=Aside0.mk (ho);clear BK312;clear HB;clear HO_12;clear HO310;have BK312:=n0_;have HB:=n1_;have HO315:=n2_;clear n0_ n1_ n2_;clear ho hb hg hat))
       go_roundg k1
       case measure=>have:=HK1.out;omega
       case rel=>exact ⟨(t311),(y313),(wrap64 (x13_1+1)),(by first|rfl|(simp;done)|(simp [*];done)),(by first|rfl|(simp;done)|(simp [*];done)),H',⟨by have:=HK1.out;omega⟩,⟨by (with_reducible repeat (first|apply Kd.R_alloc|apply Kd.R_drewN|apply Kd.R_drew));exact Kd.R_mono HO315.out (fun _ hk=>trivial)⟩,⟨by repeat (first|exact gB HB|refine below_set ?_ GE312.out)⟩⟩
      ·rw [if_neg c15] at H
       exact absurd H (by simp)
    ·rw [if_neg c8] at H
     have c8b0:decide (x13_1 < a2)=false:=decide_eq_false c8
     clear c8
     by_cases c23:x1_1 ≥ (a0.size:Int)
     ·rw [if_pos c23] at H
      have c23b0:decide ((a0.size:Int)≤x1_1)=true:=decide_eq_true c23
      clear c23
      simp only [Option.some.injEq,Prod.mk.injEq] at H
      obtain ⟨rfl,rfl⟩:=H
      go_wp2
      go_ret2
      exact ⟨_,by first|rfl|(simp [errW_none,errW_some] <;> rfl)|(simp [*,errW_none,errW_some] <;> rfl),gR HO_12,gB HB⟩
     ·rw [if_neg c23] at H
      have c23b0:decide ((a0.size:Int)≤x1_1)=false:=decide_eq_false c23
      clear c23
      by_cases c24:0≤x1_1
      ·rw [if_pos c24] at H
       have c24b0:decide (0≤x1_1)=true:=decide_eq_true c24
       clear c24
       by_cases c25:x1_1 < (a0.size:Int)
       ·rw [if_pos c25] at H
        have c25b0:decide (x1_1 < (a0.size:Int))=true:=decide_eq_true c25
        clear c25
        by_cases c27:(bt a0 x1_1)=a3
        ·rw [if_pos c27] at H
         have c27b0:((bt a0 x1_1) == a3)=true:=beq_iff_eq.mpr c27
         have c27b1:((bt a0 x1_1) != a3)=false:=bne_eq_false_iff_eq.mpr c27
         clear c27
         simp only [Option.some.injEq,Prod.mk.injEq] at H
         obtain ⟨rfl,rfl⟩:=H
         have p26:0≤(x1_1:Int):=of_decide_eq_true (by first|(with_reducible assumption)|assumption)
         have q26:x1_1 < (a0.size:Int):=of_decide_eq_true (by first|(with_reducible assumption)|assumption)
         have hx26:=bt_at a0 x1_1
         replace p26:=eq_true p26
         replace q26:=eq_true q26
         go_wp2
         go_ret2
         exact ⟨_,by first|rfl|(simp [errW_none,errW_some] <;> rfl)|(simp [*,errW_none,errW_some] <;> rfl),gR HO_12,gB HB⟩
        ·rw [if_neg c27] at H
         have c27b0:((bt a0 x1_1) == a3)=false:=beq_eq_false_iff_ne.mpr c27
         have c27b1:((bt a0 x1_1) != a3)=true:=bne_iff_ne.mpr c27
         simp only [Option.some.injEq,Prod.mk.injEq] at H
         obtain ⟨rfl,rfl⟩:=H
         have p26:0≤(x1_1:Int):=of_decide_eq_true (by first|(with_reducible assumption)|assumption)
         have q26:x1_1 < (a0.size:Int):=of_decide_eq_true (by first|(with_reducible assumption)|assumption)
         have hx26:=bt_at a0 x1_1
         replace p26:=eq_true p26
         replace q26:=eq_true q26
         go_wp2
         go_ret2
         exact ⟨_,by first|rfl|(simp [errW_none,errW_some] <;> rfl)|(simp [*,errW_none,errW_some] <;> rfl),gR HO_12,gB HB⟩
       ·rw [if_neg c25] at H
        exact absurd H (by simp)
      ·rw [if_neg c24] at H
       exact absurd H (by simp)
theorem spec_l1Read.calls (k:Nat):∀ (a0:ByteArray) (a1:Int) (a2:Int) (r1:Int) (r2:Int) (r3:ByteArray) (r4:List (SDoc)) (r5:Int) (w:World) (h:spec_l1Read.f k a0 a1 a2=some (r1,r2,r3,r4,r5)),
  Calls Try.prog 64 #[.string a0,.int .i64 a1,.int .i64 a2] w fun e w'=>∃ v3_:Value,e=.returned (.tuple #[.agg #[.int .i64 r1,.int .i64 r2,.string r3,v3_],.int .i64 r5])∧Kd.R k27 27 w' w.heap.size (fun _=>True) v3_ r4∧Below w.heap.size w w':=(spec_l1Read.calls_g k).1
end Go.Proofs.Ytdhdfmmefghijaa.P
namespace Go.Proofs.Ytdhdfmmefghijaa.P
open Go.RowKit Go.Proofs.YtdhdfmmefghijaaW.PrintWords Go.Proofs.YtdhdfmmefghijaaW.PrintLast Go.Proofs.YtdhdfmmefghijaaW.PrintMore
attribute [local go_sem] max2_int min2_int max_two min_two max_three min_three max_four min_four
set_option linter.unusedVariables false
set_option linter.unusedSimpArgs false
def spec_ParseDoc.f (k:Nat) (a0:ByteArray):Option (Int × Int × ByteArray × (List (SDoc)) × Bool):=(spec_l1Read.f k a0 0 40).bind fun bt317=>(if bt317.2.2.2.2=(a0.size:Int) then ((spec_DocValid.f k bt317.1 bt317.2.1 bt317.2.2.1 bt317.2.2.2.1).bind fun t325=>(if t325=true then (some (bt317.1,bt317.2.1,bt317.2.2.1,bt317.2.2.2.1,true)) else (some (0,0,(⟨#[]⟩:ByteArray),([]:List (SDoc)),false)))) else (some (0,0,(⟨#[]⟩:ByteArray),([]:List (SDoc)),false)))
set_option maxHeartbeats 8000000 in
set_option maxRecDepth 100000 in
theorem spec_ParseDoc.calls (k:Nat) (a0:ByteArray) (r1:Int) (r2:Int) (r3:ByteArray) (r4:List (SDoc)) (r5:Bool) (w:World) (h:spec_ParseDoc.f k a0=some (r1,r2,r3,r4,r5)) :
  Calls Try.prog 43 #[.string a0] w fun e w'=>∃ v3_:Value,e=.returned (.tuple #[.agg #[.int .i64 r1,.int .i64 r2,.string r3,v3_],.bool r5])∧Kd.R k27 27 w' w.heap.size (fun _=>True) v3_ r4∧Below w.heap.size w w':=by
 have hu27:=Try.underlying27
 have HB:=Aside0.mk (Below.refl w.heap.size w)
 have H:((spec_l1Read.f k a0 0 40).bind fun bt317=>(if bt317.2.2.2.2=(a0.size:Int) then ((spec_DocValid.f k bt317.1 bt317.2.1 bt317.2.2.1 bt317.2.2.2.1).bind fun t325=>(if t325=true then (some (bt317.1,bt317.2.1,bt317.2.2.1,bt317.2.2.2.1,true)) else (some (0,0,(⟨#[]⟩:ByteArray),([]:List (SDoc)),false)))) else (some (0,0,(⟨#[]⟩:ByteArray),([]:List (SDoc)),false))))=some (r1,r2,r3,r4,r5):=h
 clear h
 replace H:=Option.bind_eq_some_iff.mp H
 obtain ⟨⟨t317,t318,t319,t320,t323⟩,A20,H⟩:=H
 replace H:(if t323=(a0.size:Int) then ((spec_DocValid.f k t317 t318 t319 t320).bind fun t325=>(if t325=true then (some (t317,t318,t319,t320,true)) else (some (0,0,(⟨#[]⟩:ByteArray),([]:List (SDoc)),false)))) else (some (0,0,(⟨#[]⟩:ByteArray),([]:List (SDoc)),false)))=some (r1,r2,r3,r4,r5):=H
 have A2:=Aside0.mk A20
 clear A20
 by_cases c3:t323=(a0.size:Int)
 ·rw [if_pos c3] at H
  have c3b0:(t323 == (a0.size:Int))=true:=beq_iff_eq.mpr c3
  have c3b1:(t323 != (a0.size:Int))=false:=bne_eq_false_iff_eq.mpr c3
  clear c3
  replace H:=Option.bind_eq_some_iff.mp H
  obtain ⟨t325,A40,H⟩:=H
  replace H:(if t325=true then (some (t317,t318,t319,t320,true)) else (some (0,0,(⟨#[]⟩:ByteArray),([]:List (SDoc)),false)))=some (r1,r2,r3,r4,r5):=H
  have A4:=Aside0.mk A40
  clear A40
  by_cases c5:t325=true
  ·subst c5
   have H1:(some (t317,t318,t319,t320,true))=some (r1,r2,r3,r4,r5):=by rw [if_pos rfl] at H;exact H
   clear H
   have H:=H1
   clear H1
   simp only [Option.some.injEq,Prod.mk.injEq] at H
   obtain ⟨rfl,rfl,rfl,rfl,rfl⟩:=H
   go_enter Try.func43,Try.ntmps43
   go_wp2_with (first|((with_reducible refine gate_dst (N:=2) rfl ?_);refine box_event ?hg (N:=2) ?hd (cs:=#[.int .i64 0,.int .i64 0,.string (⟨#[]⟩:ByteArray),.slice none 0 0]) (t:=27) ?hr ?_;(case hd=>rfl);(case hg=>rfl);(case hr=>first|(go_simp;done)|(go_simp;rfl));intro gb316 hg w6 hbox hb;have n0_:=Aside0.mk (below_step (gB HB) hb);have n1_:=Aside0.mk (hbox);have n2_:=Aside0.mk ((by rw [hg];exact (below_size (gB HB)):w.heap.size≤gb316));have n3_:=Aside0.mk ((by rw [hg];exact (below_size (gB HB)):w.heap.size≤gb316));clear HB;have HB:=n0_;have BK316:=n1_;have GW316:=n2_;have GE316:=n3_;clear n0_ n1_ n2_ n3_;clear hb hbox hg)|((with_reducible refine gate_callee (f:=64) rfl ?_);refine goesL_ (some 8) rfl rfl Try.func64 (by kernel_rfl) rfl #[.string a0,.int .i64 0,.int .i64 40] rfl (by (try simp only [List.map_toArray,List.map_cons,List.map_nil]);first|done|rfl|(simp only [List.length_drop,List.length_take];rfl)) ?_;(with_reducible refine (spec_l1Read.calls k a0 0 40 t317 t318 t319 t320 t323 _ A2.out).mono ?_);rintro e w7 ⟨v321,rfl,ho0,hb⟩;refine ⟨_,rfl,?_⟩;have n0_:=Aside0.mk (Kd.R_lower (Kd.R_newB ho0 (g:=gb316) (o:=.cells #[.int .i64 0,.int .i64 0,.string (⟨#[]⟩:ByteArray),.slice none 0 0] 27 (0,0)) (gK BK316)) (below_size (by repeat (first|exact gB HB|refine below_set ?_ GE316.out))));have n1_:=Aside0.mk (blk_below (g:=gb316) (o:=.cells #[.int .i64 0,.int .i64 0,.string (⟨#[]⟩:ByteArray),.slice none 0 0] 27 (0,0)) (gK BK316) hb);have n2_:=Aside0.mk (below_step (by repeat (first|exact gB HB|refine below_set ?_ GE316.out)) hb);clear BK316;clear HB;have HO322:=n0_;have BK316:=n1_;have HB:=n2_;clear n0_ n1_ n2_;(try clear hb);(try clear hb2);(try clear hk);(try clear hi);(try clear ho0))|((with_reducible refine gate_dst (N:=4) rfl ?_);refine box_event ?hg (N:=4) ?hd (cs:=#[.int .i64 0,.int .i64 0,.string (⟨#[]⟩:ByteArray),.slice none 0 0]) (t:=27) ?hr ?_;(case hd=>rfl);(case hg=>rfl);(case hr=>first|(go_simp;done)|(go_simp;rfl));intro gb324 hg w8 hbox hb;have n0_:=Aside0.mk (Kd.R_below (Kd.R_elderB (gR HO322) gb324 (Nat.le_of_eq hg.symm)) hb);have n1_:=Aside0.mk (blk_below (g:=gb316) (o:=.cells #[.int .i64 0,.int .i64 0,.string (⟨#[]⟩:ByteArray),.slice none 0 0] 27 (0,0)) (gK BK316) hb);have n2_:=Aside0.mk (below_step (by repeat (first|exact gB HB|refine below_set ?_ GE316.out)) hb);have n3_:=Aside0.mk (hbox);have n4_:=Aside0.mk ((by rw [hg];exact (below_size (by repeat (first|exact gB HB|refine below_set ?_ GE316.out))):w.heap.size≤gb324));have n5_:=Aside0.mk ((by rw [hg];exact (below_size (by repeat (first|exact gB HB|refine below_set ?_ GE316.out))):w.heap.size≤gb324));have n6_:=Aside0.mk ((by rw [hg];exact Nat.ne_of_lt (blk_lt (g:=gb316) (o:=.cells #[.int .i64 0,.int .i64 0,.string (⟨#[]⟩:ByteArray),.slice none 0 0] 27 (0,0)) (gK BK316)):gb316 ≠ gb324));have n7_:=Aside0.mk ((by rw [hg];exact Nat.ne_of_gt (blk_lt (g:=gb316) (o:=.cells #[.int .i64 0,.int .i64 0,.string (⟨#[]⟩:ByteArray),.slice none 0 0] 27 (0,0)) (gK BK316)):gb324 ≠ gb316));clear HO322;clear BK316;clear HB;have HO322:=n0_;have BK316:=n1_;have HB:=n2_;have BK324:=n3_;have GW324:=n4_;have GE324:=n5_;have NB316_324:=n6_;have NB324_316:=n7_;clear n0_ n1_ n2_ n3_ n4_ n5_ n6_ n7_;clear hb hbox hg;have hnb9:=NB324_316.out;have hnc9:=NB316_324.out;have hcz10_0:w8.cell? ⟨gb324,0,none⟩=some (.int .i64 0):=(blk_cell BK324.out 0).trans rfl;have hcz10_1:w8.cell? ⟨gb324,1,none⟩=some (.int .i64 0):=(blk_cell BK324.out 1).trans rfl;have hcz10_2:w8.cell? ⟨gb324,2,none⟩=some (.string (⟨#[]⟩:ByteArray)):=(blk_cell BK324.out 2).trans rfl;have hcz10_3:w8.cell? ⟨gb324,3,none⟩=some (.slice none 0 0):=(blk_cell BK324.out 3).trans rfl;have hfz10_0:=blk_frozen BK324.out 0;have hfz10_1:=blk_frozen BK324.out 1;have hfz10_2:=blk_frozen BK324.out 2;have hfz10_3:=blk_frozen BK324.out 3;obtain ⟨Ao11,co11,eo11⟩:=Kd.R_slice HO322.out;subst eo11)|(go_at_call 25;(with_reducible refine (spec_DocValid.calls k t317 t318 t319 _ _ t320 true _ ?side1 ?side2 A4.out).mono ?_);(case side1=>exact (Kd.R_reads' (e:=27) (base:=w.heap.size) (n:=t320.length) (c:=co11) (by (with_reducible repeat (first|apply Kd.R_alloc|apply Kd.R_drewN|apply Kd.R_drew));exact (Kd.R_mono (Kd.R_far (p:=⟨gb324,3,none⟩) (Kd.R_far (p:=⟨gb324,2,none⟩) (Kd.R_far (p:=⟨gb324,1,none⟩) (Kd.R_far (p:=⟨gb324,0,none⟩) (Kd.R_mono HO322.out (fun k_ hk=>(⟨hk,hk.2⟩:_∧k_ ≠ gb324))) (fun _ hk=>hk.2) (.int .i64 t317)) (fun _ hk=>hk.2) (.int .i64 t318)) (fun _ hk=>hk.2) (.string t319)) (fun _ hk=>hk.2) (.slice Ao11 t320.length co11)) (fun _ h_=>h_.1)))).2.2);(case side2=>exact (Kd.R_reads' HO322.out).2.1);rintro e w12 ⟨rfl,hb⟩;have n0_:=Aside0.mk (Kd.R_below (by (with_reducible repeat (first|apply Kd.R_alloc|apply Kd.R_drewN|apply Kd.R_drew));exact (Kd.R_mono (Kd.R_far (p:=⟨gb324,3,none⟩) (Kd.R_far (p:=⟨gb324,2,none⟩) (Kd.R_far (p:=⟨gb324,1,none⟩) (Kd.R_far (p:=⟨gb324,0,none⟩) (Kd.R_mono HO322.out (fun k_ hk=>(⟨hk,hk.2⟩:_∧k_ ≠ gb324))) (fun _ hk=>hk.2) (.int .i64 t317)) (fun _ hk=>hk.2) (.int .i64 t318)) (fun _ hk=>hk.2) (.string t319)) (fun _ hk=>hk.2) (.slice Ao11 t320.length co11)) (fun _ h_=>h_.1))) hb);have n1_:=Aside0.mk (blk_below (g:=gb316) (o:=.cells #[.int .i64 0,.int .i64 0,.string (⟨#[]⟩:ByteArray),.slice none 0 0] 27 (0,0)) (by (with_reducible repeat (first|refine blk_drewN ?_ _|refine blk_drew ?_|refine blk_alloc ?_ _));refine blk_far ?_ NB316_324.out _;(with_reducible repeat (first|refine blk_drewN ?_ _|refine blk_drew ?_|refine blk_alloc ?_ _));refine blk_far ?_ NB316_324.out _;(with_reducible repeat (first|refine blk_drewN ?_ _|refine blk_drew ?_|refine blk_alloc ?_ _));refine blk_far ?_ NB316_324.out _;(with_reducible repeat (first|refine blk_drewN ?_ _|refine blk_drew ?_|refine blk_alloc ?_ _));refine blk_far ?_ NB316_324.out _;(with_reducible repeat (first|refine blk_drewN ?_ _|refine blk_drew ?_|refine blk_alloc ?_ _));exact BK316.out) hb);have n2_:=Aside0.mk (blk_below (g:=gb324) (o:=.cells #[.int .i64 t317,.int .i64 t318,.string t319,.slice Ao11 t320.length co11] 27 (0,0)) (by (with_reducible repeat (first|refine blk_drewN ?_ _|refine blk_drew ?_|refine blk_alloc ?_ _));refine blk_put (cs:=#[.int .i64 t317,.int .i64 t318,.string t319,.slice none 0 0]) ?_ 3 _ rfl;(with_reducible repeat (first|refine blk_drewN ?_ _|refine blk_drew ?_|refine blk_alloc ?_ _));refine blk_put (cs:=#[.int .i64 t317,.int .i64 t318,.string (⟨#[]⟩:ByteArray),.slice none 0 0]) ?_ 2 _ rfl;(with_reducible repeat (first|refine blk_drewN ?_ _|refine blk_drew ?_|refine blk_alloc ?_ _));refine blk_put (cs:=#[.int .i64 t317,.int .i64 0,.string (⟨#[]⟩:ByteArray),.slice none 0 0]) ?_ 1 _ rfl;(with_reducible repeat (first|refine blk_drewN ?_ _|refine blk_drew ?_|refine blk_alloc ?_ _));refine blk_put (cs:=#[.int .i64 0,.int .i64 0,.string (⟨#[]⟩:ByteArray),.slice none 0 0]) ?_ 0 _ rfl;(with_reducible repeat (first|refine blk_drewN ?_ _|refine blk_drew ?_|refine blk_alloc ?_ _));exact BK324.out) hb);have n3_:=Aside0.mk (below_step (by repeat (first|exact gB HB|refine below_set ?_ GE316.out|refine below_set ?_ GE324.out)) hb);clear HO322;clear BK316;clear BK324;clear HB;have HO322:=n0_;have BK316:=n1_;have BK324:=n2_;have HB:=n3_;clear n0_ n1_ n2_ n3_;(try clear hb);(try clear hb2);(try clear hk);(try clear hi);have hcz13_0:w12.cell? ⟨gb324,0,none⟩=some (.int .i64 t317):=(blk_cell BK324.out 0).trans rfl;have hcz13_1:w12.cell? ⟨gb324,1,none⟩=some (.int .i64 t318):=(blk_cell BK324.out 1).trans rfl;have hcz13_2:w12.cell? ⟨gb324,2,none⟩=some (.string t319):=(blk_cell BK324.out 2).trans rfl;have hcz13_3:w12.cell? ⟨gb324,3,none⟩=some (.slice Ao11 t320.length co11):=(blk_cell BK324.out 3).trans rfl;have hfz13_0:=blk_frozen BK324.out 0;have hfz13_1:=blk_frozen BK324.out 1;have hfz13_2:=blk_frozen BK324.out 2;have hfz13_3:=blk_frozen BK324.out 3;have hcz14_0:w12.cell? ⟨gb316,0,none⟩=some (.int .i64 0):=(blk_cell BK316.out 0).trans rfl;have hcz14_1:w12.cell? ⟨gb316,1,none⟩=some (.int .i64 0):=(blk_cell BK316.out 1).trans rfl;have hcz14_2:w12.cell? ⟨gb316,2,none⟩=some (.string (⟨#[]⟩:ByteArray)):=(blk_cell BK316.out 2).trans rfl;have hcz14_3:w12.cell? ⟨gb316,3,none⟩=some (.slice none 0 0):=(blk_cell BK316.out 3).trans rfl;have hfz14_0:=blk_frozen BK316.out 0;have hfz14_1:=blk_frozen BK316.out 1;have hfz14_2:=blk_frozen BK316.out 2;have hfz14_3:=blk_frozen BK316.out 3))
   refine bodyPost_ret (results_ct rfl _ _ gb316 27 #[.int .i64 t317,.int .i64 t318,.string t319,.slice Ao11 t320.length co11] (0,0) _ rfl (by (with_reducible repeat (first|refine blk_drewN ?_ _|refine blk_drew ?_|refine blk_alloc ?_ _));refine blk_put (cs:=#[.int .i64 t317,.int .i64 t318,.string t319,.slice none 0 0]) ?_ 3 _ rfl;(with_reducible repeat (first|refine blk_drewN ?_ _|refine blk_drew ?_|refine blk_alloc ?_ _));refine blk_put (cs:=#[.int .i64 t317,.int .i64 t318,.string (⟨#[]⟩:ByteArray),.slice none 0 0]) ?_ 2 _ rfl;(with_reducible repeat (first|refine blk_drewN ?_ _|refine blk_drew ?_|refine blk_alloc ?_ _));refine blk_put (cs:=#[.int .i64 t317,.int .i64 0,.string (⟨#[]⟩:ByteArray),.slice none 0 0]) ?_ 1 _ rfl;(with_reducible repeat (first|refine blk_drewN ?_ _|refine blk_drew ?_|refine blk_alloc ?_ _));refine blk_put (cs:=#[.int .i64 0,.int .i64 0,.string (⟨#[]⟩:ByteArray),.slice none 0 0]) ?_ 0 _ rfl;(with_reducible repeat (first|refine blk_drewN ?_ _|refine blk_drew ?_|refine blk_alloc ?_ _));exact BK316.out) Try.underlying27 rfl (by kernel_rfl)) rfl ?_
   exact ⟨_,by first|rfl|(simp [errW_none,errW_some] <;> rfl)|(simp [*,errW_none,errW_some] <;> rfl),by (with_reducible repeat (first|apply Kd.R_alloc|apply Kd.R_drewN|apply Kd.R_drew));exact Kd.R_mono (Kd.R_far (p:=⟨gb316,3,none⟩) (Kd.R_far (p:=⟨gb316,2,none⟩) (Kd.R_far (p:=⟨gb316,1,none⟩) (Kd.R_far (p:=⟨gb316,0,none⟩) (Kd.R_mono HO322.out (fun k_ hk=>(⟨hk,hk.1.2⟩:_∧k_ ≠ gb316))) (fun _ hk=>hk.2) (.int .i64 t317)) (fun _ hk=>hk.2) (.int .i64 t318)) (fun _ hk=>hk.2) (.string t319)) (fun _ hk=>hk.2) (.slice Ao11 t320.length co11)) (fun _ hk=>trivial),by repeat (first|exact gB HB|refine below_set ?_ GE316.out|refine below_set ?_ GE324.out)⟩
  ·replace c5:=Bool.eq_false_iff.mpr c5
   subst c5
   have H1:(some (0,0,(⟨#[]⟩:ByteArray),([]:List (SDoc)),false))=some (r1,r2,r3,r4,r5):=by rw [if_neg (show ¬ (false=true) by decide)] at H;exact H
   clear H
   have H:=H1
   clear H1
   simp only [Option.some.injEq,Prod.mk.injEq] at H
   obtain ⟨rfl,rfl,rfl,rfl,rfl⟩:=H
   go_enter Try.func43,Try.ntmps43
   go_wp2_with (first|((with_reducible refine gate_dst (N:=2) rfl ?_);refine box_event ?hg (N:=2) ?hd (cs:=#[.int .i64 0,.int .i64 0,.string (⟨#[]⟩:ByteArray),.slice none 0 0]) (t:=27) ?hr ?_;(case hd=>rfl);(case hg=>rfl);(case hr=>first|(go_simp;done)|(go_simp;rfl));intro gb316 hg w15 hbox hb;have n0_:=Aside0.mk (below_step (gB HB) hb);have n1_:=Aside0.mk (hbox);have n2_:=Aside0.mk ((by rw [hg];exact (below_size (gB HB)):w.heap.size≤gb316));have n3_:=Aside0.mk ((by rw [hg];exact (below_size (gB HB)):w.heap.size≤gb316));clear HB;have HB:=n0_;have BK316:=n1_;have GW316:=n2_;have GE316:=n3_;clear n0_ n1_ n2_ n3_;clear hb hbox hg)|((with_reducible refine gate_callee (f:=64) rfl ?_);refine goesL_ (some 8) rfl rfl Try.func64 (by kernel_rfl) rfl #[.string a0,.int .i64 0,.int .i64 40] rfl (by (try simp only [List.map_toArray,List.map_cons,List.map_nil]);first|done|rfl|(simp only [List.length_drop,List.length_take];rfl)) ?_;(with_reducible refine (spec_l1Read.calls k a0 0 40 t317 t318 t319 t320 t323 _ A2.out).mono ?_);rintro e w16 ⟨v321,rfl,ho0,hb⟩;refine ⟨_,rfl,?_⟩;have n0_:=Aside0.mk (Kd.R_lower (Kd.R_newB ho0 (g:=gb316) (o:=.cells #[.int .i64 0,.int .i64 0,.string (⟨#[]⟩:ByteArray),.slice none 0 0] 27 (0,0)) (gK BK316)) (below_size (by repeat (first|exact gB HB|refine below_set ?_ GE316.out))));have n1_:=Aside0.mk (blk_below (g:=gb316) (o:=.cells #[.int .i64 0,.int .i64 0,.string (⟨#[]⟩:ByteArray),.slice none 0 0] 27 (0,0)) (gK BK316) hb);have n2_:=Aside0.mk (below_step (by repeat (first|exact gB HB|refine below_set ?_ GE316.out)) hb);clear BK316;clear HB;have HO322:=n0_;have BK316:=n1_;have HB:=n2_;clear n0_ n1_ n2_;(try clear hb);(try clear hb2);(try clear hk);(try clear hi);(try clear ho0))|((with_reducible refine gate_dst (N:=4) rfl ?_);refine box_event ?hg (N:=4) ?hd (cs:=#[.int .i64 0,.int .i64 0,.string (⟨#[]⟩:ByteArray),.slice none 0 0]) (t:=27) ?hr ?_;(case hd=>rfl);(case hg=>rfl);(case hr=>first|(go_simp;done)|(go_simp;rfl));intro gb324 hg w17 hbox hb;have n0_:=Aside0.mk (Kd.R_below (Kd.R_elderB (gR HO322) gb324 (Nat.le_of_eq hg.symm)) hb);have n1_:=Aside0.mk (blk_below (g:=gb316) (o:=.cells #[.int .i64 0,.int .i64 0,.string (⟨#[]⟩:ByteArray),.slice none 0 0] 27 (0,0)) (gK BK316) hb);have n2_:=Aside0.mk (below_step (by repeat (first|exact gB HB|refine below_set ?_ GE316.out)) hb);have n3_:=Aside0.mk (hbox);have n4_:=Aside0.mk ((by rw [hg];exact (below_size (by repeat (first|exact gB HB|refine below_set ?_ GE316.out))):w.heap.size≤gb324));have n5_:=Aside0.mk ((by rw [hg];exact (below_size (by repeat (first|exact gB HB|refine below_set ?_ GE316.out))):w.heap.size≤gb324));have n6_:=Aside0.mk ((by rw [hg];exact Nat.ne_of_lt (blk_lt (g:=gb316) (o:=.cells #[.int .i64 0,.int .i64 0,.string (⟨#[]⟩:ByteArray),.slice none 0 0] 27 (0,0)) (gK BK316)):gb316 ≠ gb324));have n7_:=Aside0.mk ((by rw [hg];exact Nat.ne_of_gt (blk_lt (g:=gb316) (o:=.cells #[.int .i64 0,.int .i64 0,.string (⟨#[]⟩:ByteArray),.slice none 0 0] 27 (0,0)) (gK BK316)):gb324 ≠ gb316));clear HO322;clear BK316;clear HB;have HO322:=n0_;have BK316:=n1_;have HB:=n2_;have BK324:=n3_;have GW324:=n4_;have GE324:=n5_;have NB316_324:=n6_;have NB324_316:=n7_;clear n0_ n1_ n2_ n3_ n4_ n5_ n6_ n7_;clear hb hbox hg;have hnb18:=NB324_316.out;have hnc18:=NB316_324.out;have hcz19_0:w17.cell? ⟨gb324,0,none⟩=some (.int .i64 0):=(blk_cell BK324.out 0).trans rfl;have hcz19_1:w17.cell? ⟨gb324,1,none⟩=some (.int .i64 0):=(blk_cell BK324.out 1).trans rfl;have hcz19_2:w17.cell? ⟨gb324,2,none⟩=some (.string (⟨#[]⟩:ByteArray)):=(blk_cell BK324.out 2).trans rfl;have hcz19_3:w17.cell? ⟨gb324,3,none⟩=some (.slice none 0 0):=(blk_cell BK324.out 3).trans rfl;have hfz19_0:=blk_frozen BK324.out 0;have hfz19_1:=blk_frozen BK324.out 1;have hfz19_2:=blk_frozen BK324.out 2;have hfz19_3:=blk_frozen BK324.out 3;obtain ⟨Ao20,co20,eo20⟩:=Kd.R_slice HO322.out;subst eo20)|(go_at_call 25;(with_reducible refine (spec_DocValid.calls k t317 t318 t319 _ _ t320 false _ ?side1 ?side2 A4.out).mono ?_);(case side1=>exact (Kd.R_reads' (e:=27) (base:=w.heap.size) (n:=t320.length) (c:=co20) (by (with_reducible repeat (first|apply Kd.R_alloc|apply Kd.R_drewN|apply Kd.R_drew));exact (Kd.R_mono (Kd.R_far (p:=⟨gb324,3,none⟩) (Kd.R_far (p:=⟨gb324,2,none⟩) (Kd.R_far (p:=⟨gb324,1,none⟩) (Kd.R_far (p:=⟨gb324,0,none⟩) (Kd.R_mono HO322.out (fun k_ hk=>(⟨hk,hk.2⟩:_∧k_ ≠ gb324))) (fun _ hk=>hk.2) (.int .i64 t317)) (fun _ hk=>hk.2) (.int .i64 t318)) (fun _ hk=>hk.2) (.string t319)) (fun _ hk=>hk.2) (.slice Ao20 t320.length co20)) (fun _ h_=>h_.1)))).2.2);(case side2=>exact (Kd.R_reads' HO322.out).2.1);rintro e w21 ⟨rfl,hb⟩;have n0_:=Aside0.mk (Kd.R_below (by (with_reducible repeat (first|apply Kd.R_alloc|apply Kd.R_drewN|apply Kd.R_drew));exact (Kd.R_mono (Kd.R_far (p:=⟨gb324,3,none⟩) (Kd.R_far (p:=⟨gb324,2,none⟩) (Kd.R_far (p:=⟨gb324,1,none⟩) (Kd.R_far (p:=⟨gb324,0,none⟩) (Kd.R_mono HO322.out (fun k_ hk=>(⟨hk,hk.2⟩:_∧k_ ≠ gb324))) (fun _ hk=>hk.2) (.int .i64 t317)) (fun _ hk=>hk.2) (.int .i64 t318)) (fun _ hk=>hk.2) (.string t319)) (fun _ hk=>hk.2) (.slice Ao20 t320.length co20)) (fun _ h_=>h_.1))) hb);have n1_:=Aside0.mk (blk_below (g:=gb316) (o:=.cells #[.int .i64 0,.int .i64 0,.string (⟨#[]⟩:ByteArray),.slice none 0 0] 27 (0,0)) (by (with_reducible repeat (first|refine blk_drewN ?_ _|refine blk_drew ?_|refine blk_alloc ?_ _));refine blk_far ?_ NB316_324.out _;(with_reducible repeat (first|refine blk_drewN ?_ _|refine blk_drew ?_|refine blk_alloc ?_ _));refine blk_far ?_ NB316_324.out _;(with_reducible repeat (first|refine blk_drewN ?_ _|refine blk_drew ?_|refine blk_alloc ?_ _));refine blk_far ?_ NB316_324.out _;(with_reducible repeat (first|refine blk_drewN ?_ _|refine blk_drew ?_|refine blk_alloc ?_ _));refine blk_far ?_ NB316_324.out _;(with_reducible repeat (first|refine blk_drewN ?_ _|refine blk_drew ?_|refine blk_alloc ?_ _));exact BK316.out) hb);have n2_:=Aside0.mk (blk_below (g:=gb324) (o:=.cells #[.int .i64 t317,.int .i64 t318,.string t319,.slice Ao20 t320.length co20] 27 (0,0)) (by (with_reducible repeat (first|refine blk_drewN ?_ _|refine blk_drew ?_|refine blk_alloc ?_ _));refine blk_put (cs:=#[.int .i64 t317,.int .i64 t318,.string t319,.slice none 0 0]) ?_ 3 _ rfl;(with_reducible repeat (first|refine blk_drewN ?_ _|refine blk_drew ?_|refine blk_alloc ?_ _));refine blk_put (cs:=#[.int .i64 t317,.int .i64 t318,.string (⟨#[]⟩:ByteArray),.slice none 0 0]) ?_ 2 _ rfl;(with_reducible repeat (first|refine blk_drewN ?_ _|refine blk_drew ?_|refine blk_alloc ?_ _));refine blk_put (cs:=#[.int .i64 t317,.int .i64 0,.string (⟨#[]⟩:ByteArray),.slice none 0 0]) ?_ 1 _ rfl;(with_reducible repeat (first|refine blk_drewN ?_ _|refine blk_drew ?_|refine blk_alloc ?_ _));refine blk_put (cs:=#[.int .i64 0,.int .i64 0,.string (⟨#[]⟩:ByteArray),.slice none 0 0]) ?_ 0 _ rfl;(with_reducible repeat (first|refine blk_drewN ?_ _|refine blk_drew ?_|refine blk_alloc ?_ _));exact BK324.out) hb);have n3_:=Aside0.mk (below_step (by repeat (first|exact gB HB|refine below_set ?_ GE316.out|refine below_set ?_ GE324.out)) hb);clear HO322;clear BK316;clear BK324;clear HB;have HO322:=n0_;have BK316:=n1_;have BK324:=n2_;have HB:=n3_;clear n0_ n1_ n2_ n3_;(try clear hb);(try clear hb2);(try clear hk);(try clear hi);have hcz22_0:w21.cell? ⟨gb316,0,none⟩=some (.int .i64 0):=(blk_cell BK316.out 0).trans rfl;have hcz22_1:w21.cell? ⟨gb316,1,none⟩=some (.int .i64 0):=(blk_cell BK316.out 1).trans rfl;have hcz22_2:w21.cell? ⟨gb316,2,none⟩=some (.string (⟨#[]⟩:ByteArray)):=(blk_cell BK316.out 2).trans rfl;have hcz22_3:w21.cell? ⟨gb316,3,none⟩=some (.slice none 0 0):=(blk_cell BK316.out 3).trans rfl;have hfz22_0:=blk_frozen BK316.out 0;have hfz22_1:=blk_frozen BK316.out 1;have hfz22_2:=blk_frozen BK316.out 2;have hfz22_3:=blk_frozen BK316.out 3))
   refine bodyPost_ret (results_ct rfl _ _ gb316 27 #[.int .i64 0,.int .i64 0,.string (⟨#[]⟩:ByteArray),.slice none 0 0] (0,0) _ rfl (by (with_reducible repeat (first|refine blk_drewN ?_ _|refine blk_drew ?_|refine blk_alloc ?_ _));refine blk_put (cs:=#[.int .i64 0,.int .i64 0,.string (⟨#[]⟩:ByteArray),.slice none 0 0]) ?_ 3 _ rfl;(with_reducible repeat (first|refine blk_drewN ?_ _|refine blk_drew ?_|refine blk_alloc ?_ _));refine blk_put (cs:=#[.int .i64 0,.int .i64 0,.string (⟨#[]⟩:ByteArray),.slice none 0 0]) ?_ 2 _ rfl;(with_reducible repeat (first|refine blk_drewN ?_ _|refine blk_drew ?_|refine blk_alloc ?_ _));refine blk_put (cs:=#[.int .i64 0,.int .i64 0,.string (⟨#[]⟩:ByteArray),.slice none 0 0]) ?_ 1 _ rfl;(with_reducible repeat (first|refine blk_drewN ?_ _|refine blk_drew ?_|refine blk_alloc ?_ _));refine blk_put (cs:=#[.int .i64 0,.int .i64 0,.string (⟨#[]⟩:ByteArray),.slice none 0 0]) ?_ 0 _ rfl;(with_reducible repeat (first|refine blk_drewN ?_ _|refine blk_drew ?_|refine blk_alloc ?_ _));exact BK316.out) Try.underlying27 rfl (by kernel_rfl)) rfl ?_
   exact ⟨_,by first|rfl|(simp [errW_none,errW_some] <;> rfl)|(simp [*,errW_none,errW_some] <;> rfl),by first|exact Kd.R_nil _ _ _ _ _|exact Kd.N_nil _ _ _ _ _|exact Kd.V_nil _ _ _ _ _|exact Kd.Q_nil _ _ _ _ _|exact Kd.S_nil _ _ _ _ _,by repeat (first|exact gB HB|refine below_set ?_ GE316.out|refine below_set ?_ GE324.out)⟩
 ·rw [if_neg c3] at H
  have c3b0:(t323 == (a0.size:Int))=false:=beq_eq_false_iff_ne.mpr c3
  have c3b1:(t323 != (a0.size:Int))=true:=bne_iff_ne.mpr c3
  simp only [Option.some.injEq,Prod.mk.injEq] at H
  obtain ⟨rfl,rfl,rfl,rfl,rfl⟩:=H
  go_enter Try.func43,Try.ntmps43
  go_wp2_with (first|((with_reducible refine gate_dst (N:=2) rfl ?_);refine box_event ?hg (N:=2) ?hd (cs:=#[.int .i64 0,.int .i64 0,.string (⟨#[]⟩:ByteArray),.slice none 0 0]) (t:=27) ?hr ?_;(case hd=>rfl);(case hg=>rfl);(case hr=>first|(go_simp;done)|(go_simp;rfl));intro gb316 hg w23 hbox hb;have n0_:=Aside0.mk (below_step (gB HB) hb);have n1_:=Aside0.mk (hbox);have n2_:=Aside0.mk ((by rw [hg];exact (below_size (gB HB)):w.heap.size≤gb316));have n3_:=Aside0.mk ((by rw [hg];exact (below_size (gB HB)):w.heap.size≤gb316));clear HB;have HB:=n0_;have BK316:=n1_;have GW316:=n2_;have GE316:=n3_;clear n0_ n1_ n2_ n3_;clear hb hbox hg)|((with_reducible refine gate_callee (f:=64) rfl ?_);refine goesL_ (some 8) rfl rfl Try.func64 (by kernel_rfl) rfl #[.string a0,.int .i64 0,.int .i64 40] rfl (by (try simp only [List.map_toArray,List.map_cons,List.map_nil]);first|done|rfl|(simp only [List.length_drop,List.length_take];rfl)) ?_;(with_reducible refine (spec_l1Read.calls k a0 0 40 t317 t318 t319 t320 t323 _ A2.out).mono ?_);rintro e w24 ⟨v321,rfl,ho0,hb⟩;refine ⟨_,rfl,?_⟩;have n0_:=Aside0.mk (Kd.R_lower (Kd.R_newB ho0 (g:=gb316) (o:=.cells #[.int .i64 0,.int .i64 0,.string (⟨#[]⟩:ByteArray),.slice none 0 0] 27 (0,0)) (gK BK316)) (below_size (by repeat (first|exact gB HB|refine below_set ?_ GE316.out))));have n1_:=Aside0.mk (blk_below (g:=gb316) (o:=.cells #[.int .i64 0,.int .i64 0,.string (⟨#[]⟩:ByteArray),.slice none 0 0] 27 (0,0)) (gK BK316) hb);have n2_:=Aside0.mk (below_step (by repeat (first|exact gB HB|refine below_set ?_ GE316.out)) hb);clear BK316;clear HB;have HO322:=n0_;have BK316:=n1_;have HB:=n2_;clear n0_ n1_ n2_;(try clear hb);(try clear hb2);(try clear hk);(try clear hi);(try clear ho0))|((with_reducible refine gate_dst (N:=4) rfl ?_);refine box_event ?hg (N:=4) ?hd (cs:=#[.int .i64 0,.int .i64 0,.string (⟨#[]⟩:ByteArray),.slice none 0 0]) (t:=27) ?hr ?_;(case hd=>rfl);(case hg=>rfl);(case hr=>first|(go_simp;done)|(go_simp;rfl));intro gb324 hg w25 hbox hb;have n0_:=Aside0.mk (Kd.R_below (Kd.R_elderB (gR HO322) gb324 (Nat.le_of_eq hg.symm)) hb);have n1_:=Aside0.mk (blk_below (g:=gb316) (o:=.cells #[.int .i64 0,.int .i64 0,.string (⟨#[]⟩:ByteArray),.slice none 0 0] 27 (0,0)) (gK BK316) hb);have n2_:=Aside0.mk (below_step (by repeat (first|exact gB HB|refine below_set ?_ GE316.out)) hb);have n3_:=Aside0.mk (hbox);have n4_:=Aside0.mk ((by rw [hg];exact (below_size (by repeat (first|exact gB HB|refine below_set ?_ GE316.out))):w.heap.size≤gb324));have n5_:=Aside0.mk ((by rw [hg];exact (below_size (by repeat (first|exact gB HB|refine below_set ?_ GE316.out))):w.heap.size≤gb324));have n6_:=Aside0.mk ((by rw [hg];exact Nat.ne_of_lt (blk_lt (g:=gb316) (o:=.cells #[.int .i64 0,.int .i64 0,.string (⟨#[]⟩:ByteArray),.slice none 0 0] 27 (0,0)) (gK BK316)):gb316 ≠ gb324));have n7_:=Aside0.mk ((by rw [hg];exact Nat.ne_of_gt (blk_lt (g:=gb316) (o:=.cells #[.int .i64 0,.int .i64 0,.string (⟨#[]⟩:ByteArray),.slice none 0 0] 27 (0,0)) (gK BK316)):gb324 ≠ gb316));clear HO322;clear BK316;clear HB;have HO322:=n0_;have BK316:=n1_;have HB:=n2_;have BK324:=n3_;have GW324:=n4_;have GE324:=n5_;have NB316_324:=n6_;have NB324_316:=n7_;clear n0_ n1_ n2_ n3_ n4_ n5_ n6_ n7_;clear hb hbox hg;have hnb26:=NB324_316.out;have hnc26:=NB316_324.out;have hcz27_0:w25.cell? ⟨gb324,0,none⟩=some (.int .i64 0):=(blk_cell BK324.out 0).trans rfl;have hcz27_1:w25.cell? ⟨gb324,1,none⟩=some (.int .i64 0):=(blk_cell BK324.out 1).trans rfl;have hcz27_2:w25.cell? ⟨gb324,2,none⟩=some (.string (⟨#[]⟩:ByteArray)):=(blk_cell BK324.out 2).trans rfl;have hcz27_3:w25.cell? ⟨gb324,3,none⟩=some (.slice none 0 0):=(blk_cell BK324.out 3).trans rfl;have hfz27_0:=blk_frozen BK324.out 0;have hfz27_1:=blk_frozen BK324.out 1;have hfz27_2:=blk_frozen BK324.out 2;have hfz27_3:=blk_frozen BK324.out 3;obtain ⟨Ao28,co28,eo28⟩:=Kd.R_slice HO322.out;subst eo28;have hcz29_0:w25.cell? ⟨gb316,0,none⟩=some (.int .i64 0):=(blk_cell BK316.out 0).trans rfl;have hcz29_1:w25.cell? ⟨gb316,1,none⟩=some (.int .i64 0):=(blk_cell BK316.out 1).trans rfl;have hcz29_2:w25.cell? ⟨gb316,2,none⟩=some (.string (⟨#[]⟩:ByteArray)):=(blk_cell BK316.out 2).trans rfl;have hcz29_3:w25.cell? ⟨gb316,3,none⟩=some (.slice none 0 0):=(blk_cell BK316.out 3).trans rfl;have hfz29_0:=blk_frozen BK316.out 0;have hfz29_1:=blk_frozen BK316.out 1;have hfz29_2:=blk_frozen BK316.out 2;have hfz29_3:=blk_frozen BK316.out 3))
  refine bodyPost_ret (results_ct rfl _ _ gb316 27 #[.int .i64 0,.int .i64 0,.string (⟨#[]⟩:ByteArray),.slice none 0 0] (0,0) _ rfl (by (with_reducible repeat (first|refine blk_drewN ?_ _|refine blk_drew ?_|refine blk_alloc ?_ _));refine blk_put (cs:=#[.int .i64 0,.int .i64 0,.string (⟨#[]⟩:ByteArray),.slice none 0 0]) ?_ 3 _ rfl;(with_reducible repeat (first|refine blk_drewN ?_ _|refine blk_drew ?_|refine blk_alloc ?_ _));refine blk_put (cs:=#[.int .i64 0,.int .i64 0,.string (⟨#[]⟩:ByteArray),.slice none 0 0]) ?_ 2 _ rfl;(with_reducible repeat (first|refine blk_drewN ?_ _|refine blk_drew ?_|refine blk_alloc ?_ _));refine blk_put (cs:=#[.int .i64 0,.int .i64 0,.string (⟨#[]⟩:ByteArray),.slice none 0 0]) ?_ 1 _ rfl;(with_reducible repeat (first|refine blk_drewN ?_ _|refine blk_drew ?_|refine blk_alloc ?_ _));refine blk_put (cs:=#[.int .i64 0,.int .i64 0,.string (⟨#[]⟩:ByteArray),.slice none 0 0]) ?_ 0 _ rfl;(with_reducible repeat (first|refine blk_drewN ?_ _|refine blk_drew ?_|refine blk_alloc ?_ _));refine blk_far ?_ NB316_324.out _;(with_reducible repeat (first|refine blk_drewN ?_ _|refine blk_drew ?_|refine blk_alloc ?_ _));refine blk_far ?_ NB316_324.out _;(with_reducible repeat (first|refine blk_drewN ?_ _|refine blk_drew ?_|refine blk_alloc ?_ _));refine blk_far ?_ NB316_324.out _;(with_reducible repeat (first|refine blk_drewN ?_ _|refine blk_drew ?_|refine blk_alloc ?_ _));refine blk_far ?_ NB316_324.out _;(with_reducible repeat (first|refine blk_drewN ?_ _|refine blk_drew ?_|refine blk_alloc ?_ _));exact BK316.out) Try.underlying27 rfl (by kernel_rfl)) rfl ?_
  exact ⟨_,by first|rfl|(simp [errW_none,errW_some] <;> rfl)|(simp [*,errW_none,errW_some] <;> rfl),by first|exact Kd.R_nil _ _ _ _ _|exact Kd.N_nil _ _ _ _ _|exact Kd.V_nil _ _ _ _ _|exact Kd.Q_nil _ _ _ _ _|exact Kd.S_nil _ _ _ _ _,by repeat (first|exact gB HB|refine below_set ?_ GE316.out|refine below_set ?_ GE324.out)⟩
end Go.Proofs.Ytdhdfmmefghijaa.P
namespace Go.Proofs.Ytdhdfmmefghijaa.P
open Go.RowKit Go.Proofs.YtdhdfmmefghijaaW.PrintWords Go.Proofs.YtdhdfmmefghijaaW.PrintLast Go.Proofs.YtdhdfmmefghijaaW.PrintMore
attribute [local go_sem] max2_int min2_int max_two min_two max_three min_three max_four min_four
set_option linter.unusedVariables false
set_option linter.unusedSimpArgs false
mutual
def impl_DocSame.j0:Nat→Bool→Int→Int→ByteArray→List (SDoc)→Int→Int→ByteArray→List (SDoc)→Option (Bool)
 | 0,_,_,_,_,_,_,_,_,_=>none
 | k+1,x33,x597000,x597001,x597002,x597003,x598000,x598001,x598002,x598003=>if x33=true then (some false) else (impl_DocSame.l0 k (x597003.length:Int) 0 x597000 x597001 x597002 x597003 x598000 x598001 x598002 x598003)
def impl_DocSame.l0:Nat→Int→Int→Int→Int→ByteArray→List (SDoc)→Int→Int→ByteArray→List (SDoc)→Option (Bool)
 | 0,_,_,_,_,_,_,_,_,_,_=>none
 | k+1,x36,x37,x597000,x597001,x597002,x597003,x598000,x598001,x598002,x598003=>if x37 < x36 then (if 0≤x37 then (if x37 < (x597003.length:Int) then (if x37 < (x598003.length:Int) then ((impl_DocSame.f k ((rd_TDoc x597003 x37).f0) ((rd_TDoc x597003 x37).f1) ((rd_TDoc x597003 x37).f2) ((rd_TDoc x597003 x37).f3) ((rd_TDoc x598003 x37).f0) ((rd_TDoc x598003 x37).f1) ((rd_TDoc x598003 x37).f2) ((rd_TDoc x598003 x37).f3)).bind fun t600=>(if t600=true then (impl_DocSame.l0 k x36 (wrap64 (x37+1)) x597000 x597001 x597002 x597003 x598000 x598001 x598002 x598003) else (some false))) else (none)) else (none)) else (none)) else (some true)
def impl_DocSame.f:Nat→Int→Int→ByteArray→List (SDoc)→Int→Int→ByteArray→List (SDoc)→Option (Bool)
 | 0,_,_,_,_,_,_,_,_=>none
 | k+1,a0_0,a0_1,a0_2,l0_3,a1_0,a1_1,a1_2,l1_3=>if a0_0=a1_0 then (if a0_1=a1_1 then (if a0_2.toList=a1_2.toList then (impl_DocSame.j0 k ((l0_3.length:Int) != (l1_3.length:Int)) a0_0 a0_1 a0_2 l0_3 a1_0 a1_1 a1_2 l1_3) else (impl_DocSame.j0 k true a0_0 a0_1 a0_2 l0_3 a1_0 a1_1 a1_2 l1_3)) else (impl_DocSame.j0 k true a0_0 a0_1 a0_2 l0_3 a1_0 a1_1 a1_2 l1_3)) else (impl_DocSame.j0 k true a0_0 a0_1 a0_2 l0_3 a1_0 a1_1 a1_2 l1_3)
end
def impl_DocSame.T6:Bool × List (List Nat × List Nat):=(true,[([],[]),([0],[0]),([],[]),([1,2],[1,2]),([3],[3]),([],[]),([5],[5]),([],[]),([6,7],[6,7]),([8],[8]),([4,9],[4,9]),([10],[10])])
def impl_DocSame.B6:List Nat:=[0,1,0,7,15,0,32,0,224,480,1023,2047]
theorem impl_DocSame.tab6:rtab .any (opsOf Try.f34 6)=impl_DocSame.T6:=by kernel_rfl
theorem impl_DocSame.bits6:waitsOk impl_DocSame.T6.2 impl_DocSame.B6=true:=by kernel_rfl
set_option maxHeartbeats 8000000 in
set_option maxRecDepth 100000 in
theorem impl_DocSame.calls (k:Nat):∀ (a0_0:Int) (a0_1:Int) (a0_2:ByteArray) (A0_3:Option Addr) (c0_3:Nat) (l0_3:List (SDoc)) (a1_0:Int) (a1_1:Int) (a1_2:ByteArray) (A1_3:Option Addr) (c1_3:Nat) (l1_3:List (SDoc)) (r:Bool) (w:World) (hr0_3:Kd.C k27 w A0_3 l0_3.length l0_3) (hc0_3:l0_3.length≤c0_3) (hr1_3:Kd.C k27 w A1_3 l1_3.length l1_3) (hc1_3:l1_3.length≤c1_3) (h:impl_DocSame.f k a0_0 a0_1 a0_2 l0_3 a1_0 a1_1 a1_2 l1_3=some r),
  Calls Try.prog 34 #[.agg #[.int .i64 a0_0,.int .i64 a0_1,.string a0_2,.slice A0_3 l0_3.length c0_3],.agg #[.int .i64 a1_0,.int .i64 a1_1,.string a1_2,.slice A1_3 l1_3.length c1_3]] w fun e w'=>e=.returned (.bool r)∧Below w.heap.size w w':=by
 induction k using Nat.strongRecOn with
 | _ k ih =>
 intro a0_0 a0_1 a0_2 A0_3 c0_3 l0_3 a1_0 a1_1 a1_2 A1_3 c1_3 l1_3 r w hr0_3 hc0_3 hr1_3 hc1_3 h
 cases k with
 | zero=>exact absurd h (by simp [impl_DocSame.f])
 | succ k =>
 simp only [impl_DocSame.f] at h
 have hu27:=Try.underlying27
 have HR0_3:=Aside0.mk hr0_3
 have HC0_3:=Aside0.mk hc0_3
 clear hr0_3 hc0_3
 have HR1_3:=Aside0.mk hr1_3
 have HC1_3:=Aside0.mk hc1_3
 clear hr1_3 hc1_3
 have HB:=Aside0.mk (Below.refl w.heap.size w)
 have H:(if a0_0=a1_0 then (if a0_1=a1_1 then (if a0_2.toList=a1_2.toList then (impl_DocSame.j0 k ((l0_3.length:Int) != (l1_3.length:Int)) a0_0 a0_1 a0_2 l0_3 a1_0 a1_1 a1_2 l1_3) else (impl_DocSame.j0 k true a0_0 a0_1 a0_2 l0_3 a1_0 a1_1 a1_2 l1_3)) else (impl_DocSame.j0 k true a0_0 a0_1 a0_2 l0_3 a1_0 a1_1 a1_2 l1_3)) else (impl_DocSame.j0 k true a0_0 a0_1 a0_2 l0_3 a1_0 a1_1 a1_2 l1_3))=some r:=h
 clear h
 have HC3:=Aside0.mk H
 clear H
 go_enter Try.func34,Try.ntmps34
 go_upto_region 1 with (first|((with_reducible refine gate_dst (N:=2) rfl ?_);(try (refine gate_guard (by rfl) ?_;dsimp only));refine box_event ?hg (N:=2) ?hd (cs:=#[.int .i64 a0_0,.int .i64 a0_1,.string a0_2,.slice A0_3 l0_3.length c0_3]) (t:=27) ?hr ?_;(case hd=>rfl);(case hg=>rfl);(case hr=>first|(go_simp;done)|(go_simp;rfl));intro gb596 hg w4 hbox hb;have n0_:=Aside0.mk (below_step (gB HB) hb);have n1_:=Aside0.mk (hbox);have n2_:=Aside0.mk ((by rw [hg];exact (below_size (gB HB)):w.heap.size≤gb596));have n3_:=Aside0.mk ((by rw [hg];exact (below_size (gB HB)):w.heap.size≤gb596));clear HB;have HB:=n0_;have BK596:=n1_;have GW596:=n2_;have GE596:=n3_;clear n0_ n1_ n2_ n3_;clear hb hbox hg)|((with_reducible refine gate_dst (N:=3) rfl ?_);(try (refine gate_guard (by rfl) ?_;dsimp only));refine box_event ?hg (N:=3) ?hd (cs:=#[.int .i64 a1_0,.int .i64 a1_1,.string a1_2,.slice A1_3 l1_3.length c1_3]) (t:=27) ?hr ?_;(case hd=>rfl);(case hg=>rfl);(case hr=>first|(go_simp;done)|(go_simp;rfl));intro gb597 hg w5 hbox hb;have n0_:=Aside0.mk (blk_below (g:=gb596) (o:=.cells #[.int .i64 a0_0,.int .i64 a0_1,.string a0_2,.slice A0_3 l0_3.length c0_3] 27 (0,0)) (gK BK596) hb);have n1_:=Aside0.mk (below_step (by repeat (first|exact gB HB|refine below_set ?_ GE596.out)) hb);have n2_:=Aside0.mk (hbox);have n3_:=Aside0.mk ((by rw [hg];exact (below_size (by repeat (first|exact gB HB|refine below_set ?_ GE596.out))):w.heap.size≤gb597));have n4_:=Aside0.mk ((by rw [hg];exact (below_size (by repeat (first|exact gB HB|refine below_set ?_ GE596.out))):w.heap.size≤gb597));have n5_:=Aside0.mk ((by rw [hg];exact Nat.ne_of_lt (blk_lt (g:=gb596) (o:=.cells #[.int .i64 a0_0,.int .i64 a0_1,.string a0_2,.slice A0_3 l0_3.length c0_3] 27 (0,0)) (gK BK596)):gb596 ≠ gb597));have n6_:=Aside0.mk ((by rw [hg];exact Nat.ne_of_gt (blk_lt (g:=gb596) (o:=.cells #[.int .i64 a0_0,.int .i64 a0_1,.string a0_2,.slice A0_3 l0_3.length c0_3] 27 (0,0)) (gK BK596)):gb597 ≠ gb596));clear BK596;clear HB;have BK596:=n0_;have HB:=n1_;have BK597:=n2_;have GW597:=n3_;have GE597:=n4_;have NB596_597:=n5_;have NB597_596:=n6_;clear n0_ n1_ n2_ n3_ n4_ n5_ n6_;clear hb hbox hg))
 (try simp only [Act.put,List.setIfInBounds_toArray,List.set_cons_zero,List.set_cons_succ])
 go_cut [33] (fun v33 wc=>∃ (kq:Nat) (x33_2:Bool),v33=.bool x33_2∧Aside0 (impl_DocSame.j0 kq x33_2 a0_0 a0_1 a0_2 l0_3 a1_0 a1_1 a1_2 l1_3=some r)∧Aside0 (kq≤k)∧Aside0 (wc.heap[gb596]?=some (.cells #[.int .i64 a0_0,.int .i64 a0_1,.string a0_2,(.slice A0_3 l0_3.length c0_3)] 27 (0,0)))∧Aside0 (wc.heap[gb597]?=some (.cells #[.int .i64 a1_0,.int .i64 a1_1,.string a1_2,(.slice A1_3 l1_3.length c1_3)] 27 (0,0)))∧Aside0 (Below w.heap.size w wc))
 case first =>
  have H:=HC3.out
  clear HC3
  by_cases c6:a0_0=a1_0
  ·rw [if_pos c6] at H
   have c6b0:(a0_0 == a1_0)=true:=beq_iff_eq.mpr c6
   have c6b1:(a0_0 != a1_0)=false:=bne_eq_false_iff_eq.mpr c6
   clear c6
   (first|rw [c6b0]|(simp only [i64_w,i32_w];rw [c6b0])|skip)
   by_cases c7:a0_1=a1_1
   ·rw [if_pos c7] at H
    have c7b0:(a0_1 == a1_1)=true:=beq_iff_eq.mpr c7
    have c7b1:(a0_1 != a1_1)=false:=bne_eq_false_iff_eq.mpr c7
    clear c7
    by_cases c8:a0_2.toList=a1_2.toList
    ·rw [if_pos c8] at H
     have c8b0:(a0_2.toList == a1_2.toList)=true:=beq_iff_eq.mpr c8
     have c8b1:(a0_2.toList != a1_2.toList)=false:=bne_eq_false_iff_eq.mpr c8
     clear c8
     have H':=Aside0.mk H
     clear H
     have hnb9:=NB596_597.out
     have hnc9:=NB597_596.out
     have hcz10_0:w5.cell? ⟨gb596,0,none⟩=some (.int .i64 a0_0):=(blk_cell BK596.out 0).trans rfl
     have hcz10_1:w5.cell? ⟨gb596,1,none⟩=some (.int .i64 a0_1):=(blk_cell BK596.out 1).trans rfl
     have hcz10_2:w5.cell? ⟨gb596,2,none⟩=some (.string a0_2):=(blk_cell BK596.out 2).trans rfl
     have hcz10_3:w5.cell? ⟨gb596,3,none⟩=some (.slice A0_3 l0_3.length c0_3):=(blk_cell BK596.out 3).trans rfl
     have hfz10_0:=blk_frozen BK596.out 0
     have hfz10_1:=blk_frozen BK596.out 1
     have hfz10_2:=blk_frozen BK596.out 2
     have hfz10_3:=blk_frozen BK596.out 3
     have hcz11_0:w5.cell? ⟨gb597,0,none⟩=some (.int .i64 a1_0):=(blk_cell BK597.out 0).trans rfl
     have hcz11_1:w5.cell? ⟨gb597,1,none⟩=some (.int .i64 a1_1):=(blk_cell BK597.out 1).trans rfl
     have hcz11_2:w5.cell? ⟨gb597,2,none⟩=some (.string a1_2):=(blk_cell BK597.out 2).trans rfl
     have hcz11_3:w5.cell? ⟨gb597,3,none⟩=some (.slice A1_3 l1_3.length c1_3):=(blk_cell BK597.out 3).trans rfl
     have hfz11_0:=blk_frozen BK597.out 0
     have hfz11_1:=blk_frozen BK597.out 1
     have hfz11_2:=blk_frozen BK597.out 2
     have hfz11_3:=blk_frozen BK597.out 3
     go_wp2
     go_meet
     case rel=>exact ⟨_,(((l0_3.length:Int) != (l1_3.length:Int))),(by first|rfl|(simp;done)|(simp [*];done)),H',⟨by first|omega|exact Nat.le_refl _⟩,⟨gK BK596⟩,⟨gK BK597⟩,⟨by repeat (first|exact gB HB|refine below_set ?_ GE596.out|refine below_set ?_ GE597.out)⟩⟩
    ·rw [if_neg c8] at H
     have c8b0:(a0_2.toList == a1_2.toList)=false:=beq_eq_false_iff_ne.mpr c8
     have c8b1:(a0_2.toList != a1_2.toList)=true:=bne_iff_ne.mpr c8
     have H':=Aside0.mk H
     clear H
     have hnb12:=NB596_597.out
     have hnc12:=NB597_596.out
     have hcz13_0:w5.cell? ⟨gb596,0,none⟩=some (.int .i64 a0_0):=(blk_cell BK596.out 0).trans rfl
     have hcz13_1:w5.cell? ⟨gb596,1,none⟩=some (.int .i64 a0_1):=(blk_cell BK596.out 1).trans rfl
     have hcz13_2:w5.cell? ⟨gb596,2,none⟩=some (.string a0_2):=(blk_cell BK596.out 2).trans rfl
     have hcz13_3:w5.cell? ⟨gb596,3,none⟩=some (.slice A0_3 l0_3.length c0_3):=(blk_cell BK596.out 3).trans rfl
     have hfz13_0:=blk_frozen BK596.out 0
     have hfz13_1:=blk_frozen BK596.out 1
     have hfz13_2:=blk_frozen BK596.out 2
     have hfz13_3:=blk_frozen BK596.out 3
     have hcz14_0:w5.cell? ⟨gb597,0,none⟩=some (.int .i64 a1_0):=(blk_cell BK597.out 0).trans rfl
     have hcz14_1:w5.cell? ⟨gb597,1,none⟩=some (.int .i64 a1_1):=(blk_cell BK597.out 1).trans rfl
     have hcz14_2:w5.cell? ⟨gb597,2,none⟩=some (.string a1_2):=(blk_cell BK597.out 2).trans rfl
     have hcz14_3:w5.cell? ⟨gb597,3,none⟩=some (.slice A1_3 l1_3.length c1_3):=(blk_cell BK597.out 3).trans rfl
     have hfz14_0:=blk_frozen BK597.out 0
     have hfz14_1:=blk_frozen BK597.out 1
     have hfz14_2:=blk_frozen BK597.out 2
     have hfz14_3:=blk_frozen BK597.out 3
     go_wp2
     go_meet
     case rel=>exact ⟨_,(true),(by first|rfl|(simp;done)|(simp [*];done)),H',⟨by first|omega|exact Nat.le_refl _⟩,⟨gK BK596⟩,⟨gK BK597⟩,⟨by repeat (first|exact gB HB|refine below_set ?_ GE596.out|refine below_set ?_ GE597.out)⟩⟩
   ·rw [if_neg c7] at H
    have c7b0:(a0_1 == a1_1)=false:=beq_eq_false_iff_ne.mpr c7
    have c7b1:(a0_1 != a1_1)=true:=bne_iff_ne.mpr c7
    have H':=Aside0.mk H
    clear H
    have hnb15:=NB596_597.out
    have hnc15:=NB597_596.out
    have hcz16_0:w5.cell? ⟨gb596,0,none⟩=some (.int .i64 a0_0):=(blk_cell BK596.out 0).trans rfl
    have hcz16_1:w5.cell? ⟨gb596,1,none⟩=some (.int .i64 a0_1):=(blk_cell BK596.out 1).trans rfl
    have hcz16_2:w5.cell? ⟨gb596,2,none⟩=some (.string a0_2):=(blk_cell BK596.out 2).trans rfl
    have hcz16_3:w5.cell? ⟨gb596,3,none⟩=some (.slice A0_3 l0_3.length c0_3):=(blk_cell BK596.out 3).trans rfl
    have hfz16_0:=blk_frozen BK596.out 0
    have hfz16_1:=blk_frozen BK596.out 1
    have hfz16_2:=blk_frozen BK596.out 2
    have hfz16_3:=blk_frozen BK596.out 3
    have hcz17_0:w5.cell? ⟨gb597,0,none⟩=some (.int .i64 a1_0):=(blk_cell BK597.out 0).trans rfl
    have hcz17_1:w5.cell? ⟨gb597,1,none⟩=some (.int .i64 a1_1):=(blk_cell BK597.out 1).trans rfl
    have hcz17_2:w5.cell? ⟨gb597,2,none⟩=some (.string a1_2):=(blk_cell BK597.out 2).trans rfl
    have hcz17_3:w5.cell? ⟨gb597,3,none⟩=some (.slice A1_3 l1_3.length c1_3):=(blk_cell BK597.out 3).trans rfl
    have hfz17_0:=blk_frozen BK597.out 0
    have hfz17_1:=blk_frozen BK597.out 1
    have hfz17_2:=blk_frozen BK597.out 2
    have hfz17_3:=blk_frozen BK597.out 3
    go_wp2
    go_meet
    case rel=>exact ⟨_,(true),(by first|rfl|(simp;done)|(simp [*];done)),H',⟨by first|omega|exact Nat.le_refl _⟩,⟨gK BK596⟩,⟨gK BK597⟩,⟨by repeat (first|exact gB HB|refine below_set ?_ GE596.out|refine below_set ?_ GE597.out)⟩⟩
  ·rw [if_neg c6] at H
   have c6b0:(a0_0 == a1_0)=false:=beq_eq_false_iff_ne.mpr c6
   have c6b1:(a0_0 != a1_0)=true:=bne_iff_ne.mpr c6
   (first|rw [c6b0]|(simp only [i64_w,i32_w];rw [c6b0])|skip)
   have H':=Aside0.mk H
   clear H
   have hnb18:=NB596_597.out
   have hnc18:=NB597_596.out
   have hcz19_0:w5.cell? ⟨gb596,0,none⟩=some (.int .i64 a0_0):=(blk_cell BK596.out 0).trans rfl
   have hcz19_1:w5.cell? ⟨gb596,1,none⟩=some (.int .i64 a0_1):=(blk_cell BK596.out 1).trans rfl
   have hcz19_2:w5.cell? ⟨gb596,2,none⟩=some (.string a0_2):=(blk_cell BK596.out 2).trans rfl
   have hcz19_3:w5.cell? ⟨gb596,3,none⟩=some (.slice A0_3 l0_3.length c0_3):=(blk_cell BK596.out 3).trans rfl
   have hfz19_0:=blk_frozen BK596.out 0
   have hfz19_1:=blk_frozen BK596.out 1
   have hfz19_2:=blk_frozen BK596.out 2
   have hfz19_3:=blk_frozen BK596.out 3
   have hcz20_0:w5.cell? ⟨gb597,0,none⟩=some (.int .i64 a1_0):=(blk_cell BK597.out 0).trans rfl
   have hcz20_1:w5.cell? ⟨gb597,1,none⟩=some (.int .i64 a1_1):=(blk_cell BK597.out 1).trans rfl
   have hcz20_2:w5.cell? ⟨gb597,2,none⟩=some (.string a1_2):=(blk_cell BK597.out 2).trans rfl
   have hcz20_3:w5.cell? ⟨gb597,3,none⟩=some (.slice A1_3 l1_3.length c1_3):=(blk_cell BK597.out 3).trans rfl
   have hfz20_0:=blk_frozen BK597.out 0
   have hfz20_1:=blk_frozen BK597.out 1
   have hfz20_2:=blk_frozen BK597.out 2
   have hfz20_3:=blk_frozen BK597.out 3
   go_wp2
   go_meet
   case rel=>exact ⟨_,(true),(by first|rfl|(simp;done)|(simp [*];done)),H',⟨by first|omega|exact Nat.le_refl _⟩,⟨gK BK596⟩,⟨gK BK597⟩,⟨by repeat (first|exact gB HB|refine below_set ?_ GE596.out|refine below_set ?_ GE597.out)⟩⟩
 case rest =>
  clear HC3
  try clear c1 p2 c3 c6 c6b0 c6b1 c7 c7b0 c7b1 c8 c8b0 c8b1 c9 c12 c15 c18 hcz10_0 hcz10_1 hcz10_2 hcz10_3 hcz11_0 hcz11_1 hcz11_2 hcz11_3 hcz13_0 hcz13_1 hcz13_2 hcz13_3 hcz14_0 hcz14_1 hcz14_2 hcz14_3 hcz16_0 hcz16_1 hcz16_2 hcz16_3 hcz17_0 hcz17_1 hcz17_2 hcz17_3 hcz19_0 hcz19_1 hcz19_2 hcz19_3 hcz20_0 hcz20_1 hcz20_2 hcz20_3 hfz10_0 hfz10_1 hfz10_2 hfz10_3 hfz11_0 hfz11_1 hfz11_2 hfz11_3 hfz13_0 hfz13_1 hfz13_2 hfz13_3 hfz14_0 hfz14_1 hfz14_2 hfz14_3 hfz16_0 hfz16_1 hfz16_2 hfz16_3 hfz17_0 hfz17_1 hfz17_2 hfz17_3 hfz19_0 hfz19_1 hfz19_2 hfz19_3 hfz20_0 hfz20_1 hfz20_2 hfz20_3
  obtain ⟨kq,x33_2,rfl,HA,HJ2,BK596,BK597,HB⟩:=hcut
  cases kq with
  | zero=>exact absurd HA.out (by simp [impl_DocSame.j0])
  | succ kj2 =>
   have H:=HA.out
   clear HA
   simp only [impl_DocSame.j0] at H
   by_cases c21:x33_2=true
   ·subst c21
    have H1:(some false)=some r:=by rw [if_pos rfl] at H;exact H
    clear H
    have H:=H1
    clear H1
    obtain rfl:=Option.some.inj H
    go_wp2
    go_ret
    exact ⟨by first|rfl|(simp [errW_none,errW_some] <;> rfl)|(simp [*,errW_none,errW_some] <;> rfl),by repeat (first|exact gB HB|refine below_set ?_ GE596.out|refine below_set ?_ GE597.out)⟩
   ·replace c21:=Bool.eq_false_iff.mpr c21
    subst c21
    have H1:(impl_DocSame.l0 kj2 (l0_3.length:Int) 0 a0_0 a0_1 a0_2 l0_3 a1_0 a1_1 a1_2 l1_3)=some r:=by rw [if_neg (show ¬ (false=true) by decide)] at H;exact H
    clear H
    have H:=H1
    clear H1
    have H':=Aside0.mk H
    clear H
    have hnb22:=NB596_597.out
    have hnc22:=NB597_596.out
    have hcz23_0:wc.cell? ⟨gb596,0,none⟩=some (.int .i64 a0_0):=(blk_cell BK596.out 0).trans rfl
    have hcz23_1:wc.cell? ⟨gb596,1,none⟩=some (.int .i64 a0_1):=(blk_cell BK596.out 1).trans rfl
    have hcz23_2:wc.cell? ⟨gb596,2,none⟩=some (.string a0_2):=(blk_cell BK596.out 2).trans rfl
    have hcz23_3:wc.cell? ⟨gb596,3,none⟩=some (.slice A0_3 l0_3.length c0_3):=(blk_cell BK596.out 3).trans rfl
    have hfz23_0:=blk_frozen BK596.out 0
    have hfz23_1:=blk_frozen BK596.out 1
    have hfz23_2:=blk_frozen BK596.out 2
    have hfz23_3:=blk_frozen BK596.out 3
    go_wp2
    go_loopg [37] kj2 (fun kq v37 w'=>∃ (x37_2:Int),v37=.int .i64 x37_2∧Aside0 (impl_DocSame.l0 kq (l0_3.length:Int) x37_2 a0_0 a0_1 a0_2 l0_3 a1_0 a1_1 a1_2 l1_3=some r)∧Aside0 (kq≤kj2)∧Aside0 (w'.heap[gb596]?=some (.cells #[.int .i64 a0_0,.int .i64 a0_1,.string a0_2,(.slice A0_3 l0_3.length c0_3)] 27 (0,0)))∧Aside0 (w'.heap[gb597]?=some (.cells #[.int .i64 a1_0,.int .i64 a1_1,.string a1_2,(.slice A1_3 l1_3.length c1_3)] 27 (0,0)))∧Aside0 (Below w.heap.size w w'))
    case atStart=>exact ⟨(0),(by first|rfl|(simp;done)|(simp [*];done)),H',⟨Nat.le_refl _⟩,⟨gK BK596⟩,⟨gK BK597⟩,⟨by repeat (first|exact gB HB|refine below_set ?_ GE596.out|refine below_set ?_ GE597.out)⟩⟩
    case round =>
     clear H'
     try clear c1 c2 p2 c3 c6 c6b0 c6b1 c7 c7b0 c7b1 c8 c8b0 c8b1 c9 c12 c15 c18 c21 c22 hcz10_0 hcz10_1 hcz10_2 hcz10_3 hcz11_0 hcz11_1 hcz11_2 hcz11_3 hcz13_0 hcz13_1 hcz13_2 hcz13_3 hcz14_0 hcz14_1 hcz14_2 hcz14_3 hcz16_0 hcz16_1 hcz16_2 hcz16_3 hcz17_0 hcz17_1 hcz17_2 hcz17_3 hcz19_0 hcz19_1 hcz19_2 hcz19_3 hcz20_0 hcz20_1 hcz20_2 hcz20_3 hcz23_0 hcz23_1 hcz23_2 hcz23_3 hfz10_0 hfz10_1 hfz10_2 hfz10_3 hfz11_0 hfz11_1 hfz11_2 hfz11_3 hfz13_0 hfz13_1 hfz13_2 hfz13_3 hfz14_0 hfz14_1 hfz14_2 hfz14_3 hfz16_0 hfz16_1 hfz16_2 hfz16_3 hfz17_0 hfz17_1 hfz17_2 hfz17_3 hfz19_0 hfz19_1 hfz19_2 hfz19_3 hfz20_0 hfz20_1 hfz20_2 hfz20_3 hfz23_0 hfz23_1 hfz23_2 hfz23_3 p2
     (try clear BK596);(try clear BK597);(try clear HB)
     obtain ⟨x37_2,rfl,HA,HK2,BK596,BK597,HB⟩:=hrel
     cases gk with
     | zero=>exact absurd HA.out (by simp [impl_DocSame.l0])
     | succ k2 =>
      have H:=HA.out
      clear HA
      simp only [impl_DocSame.l0] at H
      by_cases c24:x37_2 < (l0_3.length:Int)
      ·rw [if_pos c24] at H
       have c24b0:decide (x37_2 < (l0_3.length:Int))=true:=decide_eq_true c24
       clear c24
       by_cases c25:0≤x37_2
       ·rw [if_pos c25] at H
        have c25b0:decide (0≤x37_2)=true:=decide_eq_true c25
        clear c25
        by_cases c26:x37_2 < (l0_3.length:Int)
        ·rw [if_pos c26] at H
         have c26b0:decide (x37_2 < (l0_3.length:Int))=true:=decide_eq_true c26
         clear c26
         by_cases c27:x37_2 < (l1_3.length:Int)
         ·rw [if_pos c27] at H
          have c27b0:decide (x37_2 < (l1_3.length:Int))=true:=decide_eq_true c27
          clear c27
          replace H:=Option.bind_eq_some_iff.mp H
          obtain ⟨t600,A280,H⟩:=H
          replace H:(if t600=true then (impl_DocSame.l0 k2 (l0_3.length:Int) (wrap64 (x37_2+1)) a0_0 a0_1 a0_2 l0_3 a1_0 a1_1 a1_2 l1_3) else (some false))=some r:=H
          have A28:=Aside0.mk A280
          clear A280
          by_cases c29:t600=true
          ·subst c29
           have H1:(impl_DocSame.l0 k2 (l0_3.length:Int) (wrap64 (x37_2+1)) a0_0 a0_1 a0_2 l0_3 a1_0 a1_1 a1_2 l1_3)=some r:=by rw [if_pos rfl] at H;exact H
           clear H
           have H:=H1
           clear H1
           have H':=Aside0.mk H
           clear H
           try go_wp2
           have n0_:=Aside0.mk (blk_drew BK596.out)
           have n1_:=Aside0.mk (blk_drew BK597.out)
           have n2_:=Aside0.mk (below_drew1 HB.out)
           clear BK596
           clear BK597
           clear HB
           have BK596:=n0_
           have BK597:=n1_
           have HB:=n2_
           clear n0_ n1_ n2_
           have p598:0≤(x37_2:Int):=of_decide_eq_true (by first|(with_reducible assumption)|assumption)
           have q598:x37_2 < (l0_3.length:Int):=of_decide_eq_true (by first|(with_reducible assumption)|assumption)
           obtain ⟨ad598,A598_3,c598_3,e598,hx598_0,hx598_1,hx598_2,hx598_3,hl598_3,hi598_3⟩:=at_TDoc HR0_3.out x37_2 p598 q598
           have hw598_3:=hx598_3
           have hw598_2:=hx598_2
           have hw598_1:=hx598_1
           have hw598_0:=hx598_0
           cases e598
           replace hx598_0:=(HB.out.cell (World.block_lt_of_cell? w _ hx598_0)).trans hx598_0
           replace hx598_1:=(HB.out.cell (World.block_lt_of_cell? w _ hx598_1)).trans hx598_1
           replace hx598_2:=(HB.out.cell (World.block_lt_of_cell? w _ hx598_2)).trans hx598_2
           replace hx598_3:=(HB.out.cell (World.block_lt_of_cell? w _ hx598_3)).trans hx598_3
           have HR598_3:=Aside0.mk hi598_3
           have HC598_3:=Aside0.mk hl598_3
           clear hi598_3 hl598_3
           replace p598:=eq_true p598
           replace q598:=eq_true q598
           have p599:0≤(x37_2:Int):=of_decide_eq_true (by first|(with_reducible assumption)|assumption)
           have q599:x37_2 < (l1_3.length:Int):=of_decide_eq_true (by first|(with_reducible assumption)|assumption)
           obtain ⟨ad599,A599_3,c599_3,e599,hx599_0,hx599_1,hx599_2,hx599_3,hl599_3,hi599_3⟩:=at_TDoc HR1_3.out x37_2 p599 q599
           have hw599_3:=hx599_3
           have hw599_2:=hx599_2
           have hw599_1:=hx599_1
           have hw599_0:=hx599_0
           cases e599
           replace hx599_0:=(HB.out.cell (World.block_lt_of_cell? w _ hx599_0)).trans hx599_0
           replace hx599_1:=(HB.out.cell (World.block_lt_of_cell? w _ hx599_1)).trans hx599_1
           replace hx599_2:=(HB.out.cell (World.block_lt_of_cell? w _ hx599_2)).trans hx599_2
           replace hx599_3:=(HB.out.cell (World.block_lt_of_cell? w _ hx599_3)).trans hx599_3
           have HR599_3:=Aside0.mk hi599_3
           have HC599_3:=Aside0.mk hl599_3
           clear hi599_3 hl599_3
           replace p599:=eq_true p599
           replace q599:=eq_true q599
           refine start_ (n:=12) (S:=fun w'=>w'.cell? ⟨gb596,0,none⟩=some (.int .i64 a0_0)∧w'.cell? ⟨gb596,1,none⟩=some (.int .i64 a0_1)∧w'.cell? ⟨gb596,2,none⟩=some (.string a0_2)∧w'.cell? ⟨gb596,3,none⟩=some (.slice (some ad598) l0_3.length c0_3)∧w'.cell? ⟨gb597,0,none⟩=some (.int .i64 a1_0)∧w'.cell? ⟨gb597,1,none⟩=some (.int .i64 a1_1)∧w'.cell? ⟨gb597,2,none⟩=some (.string a1_2)∧w'.cell? ⟨gb597,3,none⟩=some (.slice (some ad599) l1_3.length c1_3)∧w'.cell? (ad598.add ((x37_2).toNat * 4))=some (.int .i64 ((rd_TDoc l0_3 x37_2).f0))∧w'.cell? ⟨(ad598.add ((x37_2).toNat * 4)).block,(ad598.add ((x37_2).toNat * 4)).off+1,none⟩=some (.int .i64 ((rd_TDoc l0_3 x37_2).f1))∧w'.cell? ⟨(ad598.add ((x37_2).toNat * 4)).block,(ad598.add ((x37_2).toNat * 4)).off+2,none⟩=some (.string ((rd_TDoc l0_3 x37_2).f2))∧w'.cell? ⟨(ad598.add ((x37_2).toNat * 4)).block,(ad598.add ((x37_2).toNat * 4)).off+3,none⟩=some (.slice A598_3 ((rd_TDoc l0_3 x37_2).f3).length c598_3)∧w'.cell? (ad599.add ((x37_2).toNat * 4))=some (.int .i64 ((rd_TDoc l1_3 x37_2).f0))∧w'.cell? ⟨(ad599.add ((x37_2).toNat * 4)).block,(ad599.add ((x37_2).toNat * 4)).off+1,none⟩=some (.int .i64 ((rd_TDoc l1_3 x37_2).f1))∧w'.cell? ⟨(ad599.add ((x37_2).toNat * 4)).block,(ad599.add ((x37_2).toNat * 4)).off+2,none⟩=some (.string ((rd_TDoc l1_3 x37_2).f2))∧w'.cell? ⟨(ad599.add ((x37_2).toNat * 4)).block,(ad599.add ((x37_2).toNat * 4)).off+3,none⟩=some (.slice A599_3 ((rd_TDoc l1_3 x37_2).f3).length c599_3)) (ds:=[]) #[false,false,false,false,false,false,false,false,false,false,false,false] (by kernel_rfl) rfl rfl ⟨(blk_cell BK596.out 0).trans rfl,(blk_cell BK596.out 1).trans rfl,(blk_cell BK596.out 2).trans rfl,(blk_cell BK596.out 3).trans rfl,(blk_cell BK597.out 0).trans rfl,(blk_cell BK597.out 1).trans rfl,(blk_cell BK597.out 2).trans rfl,(blk_cell BK597.out 3).trans rfl,((HB.out.cell (World.block_lt_of_cell? w _ hw598_0)).trans hw598_0),((HB.out.cell (World.block_lt_of_cell? w _ hw598_1)).trans hw598_1),((HB.out.cell (World.block_lt_of_cell? w _ hw598_2)).trans hw598_2),((HB.out.cell (World.block_lt_of_cell? w _ hw598_3)).trans hw598_3),((HB.out.cell (World.block_lt_of_cell? w _ hw599_0)).trans hw599_0),((HB.out.cell (World.block_lt_of_cell? w _ hw599_1)).trans hw599_1),((HB.out.cell (World.block_lt_of_cell? w _ hw599_2)).trans hw599_2),((HB.out.cell (World.block_lt_of_cell? w _ hw599_3)).trans hw599_3)⟩ (fun hHeld=>?_);refine with_tabW impl_DocSame.tab6 impl_DocSame.bits6 (fun HT_ HW_=>?_)
           generalize wr.drew=w30 at BK596 BK597 HB HR598_3 HR599_3 hx598_0 hx598_1 hx598_2 hx598_3 hx599_0 hx599_1 hx599_2 hx599_3 hHeld ⊢
           refine pure_ (i:=0) (N:=some 40) (v:=?_) (a':=?_) #[true,false,false,false,false,false,false,false,false,false,false,false] rfl rfl (any_of HT_.out (by kernel_rfl)) (fun _ _ _ h=>h) (Or.inl ⟨by rfl,?_⟩) ?_ ?_
           rotate_left
           ·intro w'
            go_simp
            with_reducible rfl
           rotate_left
           ·simp only [Act.put,List.setIfInBounds_toArray,List.set_cons_zero,List.set_cons_succ,i64_w,i32_w]
            rfl
           refine pure_ (i:=2) (N:=some 42) (v:=?_) (a':=?_) #[true,false,true,false,false,false,false,false,false,false,false,false] rfl rfl (any_of HT_.out (by kernel_rfl)) (fun _ _ _ h=>h) (Or.inl ⟨by rfl,?_⟩) ?_ ?_
           rotate_left
           ·intro w'
            go_simp
            with_reducible rfl
           rotate_left
           ·simp only [Act.put,List.setIfInBounds_toArray,List.set_cons_zero,List.set_cons_succ,i64_w,i32_w]
            rfl
           refine pure_ (i:=5) (N:=some 45) (v:=?_) (a':=?_) #[true,false,true,false,false,true,false,false,false,false,false,false] rfl rfl (any_of HT_.out (by kernel_rfl)) (fun _ _ _ h=>h) (Or.inl ⟨by rfl,?_⟩) ?_ ?_
           rotate_left
           ·intro w'
            go_simp
            with_reducible rfl
           rotate_left
           ·simp only [Act.put,List.setIfInBounds_toArray,List.set_cons_zero,List.set_cons_succ,i64_w,i32_w]
            rfl
           refine pure_ (i:=7) (N:=some 47) (v:=?_) (a':=?_) #[true,false,true,false,false,true,false,true,false,false,false,false] rfl rfl (any_of HT_.out (by kernel_rfl)) (fun _ _ _ h=>h) (Or.inl ⟨by rfl,?_⟩) ?_ ?_
           rotate_left
           ·intro w'
            go_simp
            with_reducible rfl
           rotate_left
           ·simp only [Act.put,List.setIfInBounds_toArray,List.set_cons_zero,List.set_cons_succ,i64_w,i32_w]
            rfl
           refine take_ (i:=1) (N:=some 41) (v:=?_) (a':=?_) #[true,true,true,false,false,true,false,true,false,false,false,false] rfl rfl (take_ofW HT_.out HW_.out (by kernel_rfl)) (fun _ _ _ h=>h) (Or.inl ⟨by rfl,?_⟩) hHeld ?_ ?_
           rotate_left
           ·rintro w' ⟨s0,s1,s2,s3,s4,s5,s6,s7,s8,s9,s10,s11,s12,s13,s14,s15⟩
            go_simp
            with_reducible rfl
           rotate_left
           ·simp only [Act.put,List.setIfInBounds_toArray,List.set_cons_zero,List.set_cons_succ,i64_w,i32_w]
            rfl
           refine pure_ (i:=3) (N:=some 43) (v:=?_) (a':=?_) #[true,true,true,true,false,true,false,true,false,false,false,false] rfl rfl (any_of HT_.out (by kernel_rfl)) (fun _ _ _ h=>h) (Or.inl ⟨by rfl,?_⟩) ?_ ?_
           rotate_left
           ·intro w'
            go_simp
            with_reducible rfl
           rotate_left
           ·simp only [Act.put,List.setIfInBounds_toArray,List.set_cons_zero,List.set_cons_succ,i64_w,i32_w]
            rfl
           refine take_ (i:=4) (N:=some 44) (v:=?_) (a':=?_) #[true,true,true,true,true,true,false,true,false,false,false,false] rfl rfl (take_ofW HT_.out HW_.out (by kernel_rfl)) (fun _ _ _ h=>h) (Or.inl ⟨by rfl,?_⟩) hHeld ?_ ?_
           rotate_left
           ·rintro w' ⟨s0,s1,s2,s3,s4,s5,s6,s7,s8,s9,s10,s11,s12,s13,s14,s15⟩
            go_simp
            with_reducible rfl
           rotate_left
           ·simp only [Act.put,List.setIfInBounds_toArray,List.set_cons_zero,List.set_cons_succ,i64_w,i32_w]
            rfl
           refine take_ (i:=6) (N:=some 46) (v:=?_) (a':=?_) #[true,true,true,true,true,true,true,true,false,false,false,false] rfl rfl (take_ofW HT_.out HW_.out (by kernel_rfl)) (fun _ _ _ h=>h) (Or.inl ⟨by rfl,?_⟩) hHeld ?_ ?_
           rotate_left
           ·rintro w' ⟨s0,s1,s2,s3,s4,s5,s6,s7,s8,s9,s10,s11,s12,s13,s14,s15⟩
            go_simp
            with_reducible rfl
           rotate_left
           ·simp only [Act.put,List.setIfInBounds_toArray,List.set_cons_zero,List.set_cons_succ,i64_w,i32_w]
            rfl
           refine pure_ (i:=8) (N:=some 48) (v:=?_) (a':=?_) #[true,true,true,true,true,true,true,true,true,false,false,false] rfl rfl (any_of HT_.out (by kernel_rfl)) (fun _ _ _ h=>h) (Or.inl ⟨by rfl,?_⟩) ?_ ?_
           rotate_left
           ·intro w'
            go_simp
            with_reducible rfl
           rotate_left
           ·simp only [Act.put,List.setIfInBounds_toArray,List.set_cons_zero,List.set_cons_succ,i64_w,i32_w]
            rfl
           refine take_ (i:=9) (N:=some 49) (v:=?_) (a':=?_) #[true,true,true,true,true,true,true,true,true,true,false,false] rfl rfl (take_ofW HT_.out HW_.out (by kernel_rfl)) (fun _ _ _ h=>h) (Or.inl ⟨by rfl,?_⟩) hHeld ?_ ?_
           rotate_left
           ·rintro w' ⟨s0,s1,s2,s3,s4,s5,s6,s7,s8,s9,s10,s11,s12,s13,s14,s15⟩
            go_simp
            with_reducible rfl
           rotate_left
           ·simp only [Act.put,List.setIfInBounds_toArray,List.set_cons_zero,List.set_cons_succ,i64_w,i32_w]
            rfl
           refine one_ (i:=10) (N:=some 50) #[true,true,true,true,true,true,true,true,true,true,true,false] rfl rfl (one_of HT_.out (by kernel_rfl)) (by decide) (fun K hK=>?_)
           refine goes_ Try.func34 (by kernel_rfl) rfl #[.agg #[.int .i64 ((rd_TDoc l0_3 x37_2).f0),.int .i64 ((rd_TDoc l0_3 x37_2).f1),.string ((rd_TDoc l0_3 x37_2).f2),.slice A598_3 ((rd_TDoc l0_3 x37_2).f3).length c598_3],.agg #[.int .i64 ((rd_TDoc l1_3 x37_2).f0),.int .i64 ((rd_TDoc l1_3 x37_2).f1),.string ((rd_TDoc l1_3 x37_2).f2),.slice A599_3 ((rd_TDoc l1_3 x37_2).f3).length c599_3]] (by rfl) rfl rfl (by (try simp only [List.map_toArray,List.map_cons,List.map_nil]);first|done|rfl|(simp only [List.length_drop,List.length_take];rfl)) ?_
           with_reducible refine (ih k2 (by have:=HJ2.out;have:=HK2.out;omega) ((rd_TDoc l0_3 x37_2).f0) ((rd_TDoc l0_3 x37_2).f1) ((rd_TDoc l0_3 x37_2).f2) _ _ ((rd_TDoc l0_3 x37_2).f3) ((rd_TDoc l1_3 x37_2).f0) ((rd_TDoc l1_3 x37_2).f1) ((rd_TDoc l1_3 x37_2).f2) _ _ ((rd_TDoc l1_3 x37_2).f3) true _ ?side1 ?side2 ?side3 ?side4 A28.out).mono ?_
           (case side1=>exact gC (Kd.C_below HR598_3.out HB.out))
           (case side2=>exact HC598_3.out)
           (case side3=>exact gC (Kd.C_below HR599_3.out HB.out))
           (case side4=>exact HC599_3.out)
           rintro e w31 ⟨rfl,hb⟩
           refine ⟨_,rfl,?_⟩
           have n0_:=Aside0.mk (blk_below (g:=gb596) (o:=.cells #[.int .i64 a0_0,.int .i64 a0_1,.string a0_2,.slice (some ad598) l0_3.length c0_3] 27 (0,0)) (gK BK596) hb)
           have n1_:=Aside0.mk (blk_below (g:=gb597) (o:=.cells #[.int .i64 a1_0,.int .i64 a1_1,.string a1_2,.slice (some ad599) l1_3.length c1_3] 27 (0,0)) (gK BK597) hb)
           have n2_:=Aside0.mk (below_step (by repeat (first|exact gB HB|refine below_set ?_ GE596.out|refine below_set ?_ GE597.out)) hb)
           clear BK596
           clear BK597
           clear HB
           have BK596:=n0_
           have BK597:=n1_
           have HB:=n2_
           clear n0_ n1_ n2_
           (try clear hb)
           (try clear hb2)
           (try clear hk)
           (try clear hi)
           refine hK.out _ _ ⟨(blk_cell BK596.out 0).trans rfl,(blk_cell BK596.out 1).trans rfl,(blk_cell BK596.out 2).trans rfl,(blk_cell BK596.out 3).trans rfl,(blk_cell BK597.out 0).trans rfl,(blk_cell BK597.out 1).trans rfl,(blk_cell BK597.out 2).trans rfl,(blk_cell BK597.out 3).trans rfl,((HB.out.cell (World.block_lt_of_cell? w _ hw598_0)).trans hw598_0),((HB.out.cell (World.block_lt_of_cell? w _ hw598_1)).trans hw598_1),((HB.out.cell (World.block_lt_of_cell? w _ hw598_2)).trans hw598_2),((HB.out.cell (World.block_lt_of_cell? w _ hw598_3)).trans hw598_3),((HB.out.cell (World.block_lt_of_cell? w _ hw599_0)).trans hw599_0),((HB.out.cell (World.block_lt_of_cell? w _ hw599_1)).trans hw599_1),((HB.out.cell (World.block_lt_of_cell? w _ hw599_2)).trans hw599_2),((HB.out.cell (World.block_lt_of_cell? w _ hw599_3)).trans hw599_3)⟩ (fun hHeld=>?_)
           clear hK K
           refine norm_ (a':=?_) ?_ ?_
           rotate_left
           ·show Act.put _ (some 50) _=_
            simp only [Act.put,List.setIfInBounds_toArray,List.set_cons_zero,List.set_cons_succ,i64_w,i32_w]
            rfl
           refine pure_ (i:=11) (N:=some 51) (v:=?_) (a':=?_) #[true,true,true,true,true,true,true,true,true,true,true,true] rfl rfl (any_of HT_.out (by kernel_rfl)) (fun _ _ _ h=>h) (Or.inl ⟨by rfl,?_⟩) ?_ ?_
           rotate_left
           ·intro w'
            go_simp
            with_reducible rfl
           rotate_left
           ·simp only [Act.put,List.setIfInBounds_toArray,List.set_cons_zero,List.set_cons_succ,i64_w,i32_w]
            rfl
           refine done_ (done_of HT_.out (by kernel_rfl)) ?_
           try go_wp2
           go_roundg k2
           case measure=>have:=HJ2.out;have:=HK2.out;omega
           case rel=>exact ⟨(wrap64 (x37_2+1)),(by first|rfl|(simp;done)|(simp [*];done)),H',⟨by have:=HJ2.out;have:=HK2.out;omega⟩,⟨gK BK596⟩,⟨gK BK597⟩,⟨by repeat (first|exact gB HB|refine below_set ?_ GE596.out|refine below_set ?_ GE597.out)⟩⟩
          ·replace c29:=Bool.eq_false_iff.mpr c29
           subst c29
           have H1:(some false)=some r:=by rw [if_neg (show ¬ (false=true) by decide)] at H;exact H
           clear H
           have H:=H1
           clear H1
           obtain rfl:=Option.some.inj H
           try go_wp2
           have n0_:=Aside0.mk (blk_drew BK596.out)
           have n1_:=Aside0.mk (blk_drew BK597.out)
           have n2_:=Aside0.mk (below_drew1 HB.out)
           clear BK596
           clear BK597
           clear HB
           have BK596:=n0_
           have BK597:=n1_
           have HB:=n2_
           clear n0_ n1_ n2_
           have p598:0≤(x37_2:Int):=of_decide_eq_true (by first|(with_reducible assumption)|assumption)
           have q598:x37_2 < (l0_3.length:Int):=of_decide_eq_true (by first|(with_reducible assumption)|assumption)
           (try clear hx598_0);(try clear hx598_1);(try clear hx598_2);(try clear hx598_3)
           obtain ⟨ad598,A598_3,c598_3,e598,hx598_0,hx598_1,hx598_2,hx598_3,hl598_3,hi598_3⟩:=at_TDoc HR0_3.out x37_2 p598 q598
           (try (have ea_:=Option.some.inj (hx598_3.symm.trans hw598_3);injection ea_ with ea_ en_ ec_;subst ea_;subst ec_;clear en_))
           have hw598_3:=hx598_3
           have hw598_2:=hx598_2
           have hw598_1:=hx598_1
           have hw598_0:=hx598_0
           cases e598
           replace hx598_0:=(HB.out.cell (World.block_lt_of_cell? w _ hx598_0)).trans hx598_0
           replace hx598_1:=(HB.out.cell (World.block_lt_of_cell? w _ hx598_1)).trans hx598_1
           replace hx598_2:=(HB.out.cell (World.block_lt_of_cell? w _ hx598_2)).trans hx598_2
           replace hx598_3:=(HB.out.cell (World.block_lt_of_cell? w _ hx598_3)).trans hx598_3
           have HR598_3:=Aside0.mk hi598_3
           have HC598_3:=Aside0.mk hl598_3
           clear hi598_3 hl598_3
           replace p598:=eq_true p598
           replace q598:=eq_true q598
           have p599:0≤(x37_2:Int):=of_decide_eq_true (by first|(with_reducible assumption)|assumption)
           have q599:x37_2 < (l1_3.length:Int):=of_decide_eq_true (by first|(with_reducible assumption)|assumption)
           (try clear hx599_0);(try clear hx599_1);(try clear hx599_2);(try clear hx599_3)
           obtain ⟨ad599,A599_3,c599_3,e599,hx599_0,hx599_1,hx599_2,hx599_3,hl599_3,hi599_3⟩:=at_TDoc HR1_3.out x37_2 p599 q599
           (try (have ea_:=Option.some.inj (hx599_3.symm.trans hw599_3);injection ea_ with ea_ en_ ec_;subst ea_;subst ec_;clear en_))
           have hw599_3:=hx599_3
           have hw599_2:=hx599_2
           have hw599_1:=hx599_1
           have hw599_0:=hx599_0
           cases e599
           replace hx599_0:=(HB.out.cell (World.block_lt_of_cell? w _ hx599_0)).trans hx599_0
           replace hx599_1:=(HB.out.cell (World.block_lt_of_cell? w _ hx599_1)).trans hx599_1
           replace hx599_2:=(HB.out.cell (World.block_lt_of_cell? w _ hx599_2)).trans hx599_2
           replace hx599_3:=(HB.out.cell (World.block_lt_of_cell? w _ hx599_3)).trans hx599_3
           have HR599_3:=Aside0.mk hi599_3
           have HC599_3:=Aside0.mk hl599_3
           clear hi599_3 hl599_3
           replace p599:=eq_true p599
           replace q599:=eq_true q599
           refine start_ (n:=12) (S:=fun w'=>w'.cell? ⟨gb596,0,none⟩=some (.int .i64 a0_0)∧w'.cell? ⟨gb596,1,none⟩=some (.int .i64 a0_1)∧w'.cell? ⟨gb596,2,none⟩=some (.string a0_2)∧w'.cell? ⟨gb596,3,none⟩=some (.slice (some ad598) l0_3.length c0_3)∧w'.cell? ⟨gb597,0,none⟩=some (.int .i64 a1_0)∧w'.cell? ⟨gb597,1,none⟩=some (.int .i64 a1_1)∧w'.cell? ⟨gb597,2,none⟩=some (.string a1_2)∧w'.cell? ⟨gb597,3,none⟩=some (.slice (some ad599) l1_3.length c1_3)∧w'.cell? (ad598.add ((x37_2).toNat * 4))=some (.int .i64 ((rd_TDoc l0_3 x37_2).f0))∧w'.cell? ⟨(ad598.add ((x37_2).toNat * 4)).block,(ad598.add ((x37_2).toNat * 4)).off+1,none⟩=some (.int .i64 ((rd_TDoc l0_3 x37_2).f1))∧w'.cell? ⟨(ad598.add ((x37_2).toNat * 4)).block,(ad598.add ((x37_2).toNat * 4)).off+2,none⟩=some (.string ((rd_TDoc l0_3 x37_2).f2))∧w'.cell? ⟨(ad598.add ((x37_2).toNat * 4)).block,(ad598.add ((x37_2).toNat * 4)).off+3,none⟩=some (.slice A598_3 ((rd_TDoc l0_3 x37_2).f3).length c598_3)∧w'.cell? (ad599.add ((x37_2).toNat * 4))=some (.int .i64 ((rd_TDoc l1_3 x37_2).f0))∧w'.cell? ⟨(ad599.add ((x37_2).toNat * 4)).block,(ad599.add ((x37_2).toNat * 4)).off+1,none⟩=some (.int .i64 ((rd_TDoc l1_3 x37_2).f1))∧w'.cell? ⟨(ad599.add ((x37_2).toNat * 4)).block,(ad599.add ((x37_2).toNat * 4)).off+2,none⟩=some (.string ((rd_TDoc l1_3 x37_2).f2))∧w'.cell? ⟨(ad599.add ((x37_2).toNat * 4)).block,(ad599.add ((x37_2).toNat * 4)).off+3,none⟩=some (.slice A599_3 ((rd_TDoc l1_3 x37_2).f3).length c599_3)) (ds:=[]) #[false,false,false,false,false,false,false,false,false,false,false,false] (by kernel_rfl) rfl rfl ⟨(blk_cell BK596.out 0).trans rfl,(blk_cell BK596.out 1).trans rfl,(blk_cell BK596.out 2).trans rfl,(blk_cell BK596.out 3).trans rfl,(blk_cell BK597.out 0).trans rfl,(blk_cell BK597.out 1).trans rfl,(blk_cell BK597.out 2).trans rfl,(blk_cell BK597.out 3).trans rfl,((HB.out.cell (World.block_lt_of_cell? w _ hw598_0)).trans hw598_0),((HB.out.cell (World.block_lt_of_cell? w _ hw598_1)).trans hw598_1),((HB.out.cell (World.block_lt_of_cell? w _ hw598_2)).trans hw598_2),((HB.out.cell (World.block_lt_of_cell? w _ hw598_3)).trans hw598_3),((HB.out.cell (World.block_lt_of_cell? w _ hw599_0)).trans hw599_0),((HB.out.cell (World.block_lt_of_cell? w _ hw599_1)).trans hw599_1),((HB.out.cell (World.block_lt_of_cell? w _ hw599_2)).trans hw599_2),((HB.out.cell (World.block_lt_of_cell? w _ hw599_3)).trans hw599_3)⟩ (fun hHeld=>?_);refine with_tabW impl_DocSame.tab6 impl_DocSame.bits6 (fun HT_ HW_=>?_)
           generalize wr.drew=w32 at BK596 BK597 HB HR598_3 HR599_3 hx598_0 hx598_1 hx598_2 hx598_3 hx599_0 hx599_1 hx599_2 hx599_3 hHeld ⊢
           refine pure_ (i:=0) (N:=some 40) (v:=?_) (a':=?_) #[true,false,false,false,false,false,false,false,false,false,false,false] rfl rfl (any_of HT_.out (by kernel_rfl)) (fun _ _ _ h=>h) (Or.inl ⟨by rfl,?_⟩) ?_ ?_
           rotate_left
           ·intro w'
            go_simp
            with_reducible rfl
           rotate_left
           ·simp only [Act.put,List.setIfInBounds_toArray,List.set_cons_zero,List.set_cons_succ,i64_w,i32_w]
            rfl
           refine pure_ (i:=2) (N:=some 42) (v:=?_) (a':=?_) #[true,false,true,false,false,false,false,false,false,false,false,false] rfl rfl (any_of HT_.out (by kernel_rfl)) (fun _ _ _ h=>h) (Or.inl ⟨by rfl,?_⟩) ?_ ?_
           rotate_left
           ·intro w'
            go_simp
            with_reducible rfl
           rotate_left
           ·simp only [Act.put,List.setIfInBounds_toArray,List.set_cons_zero,List.set_cons_succ,i64_w,i32_w]
            rfl
           refine pure_ (i:=5) (N:=some 45) (v:=?_) (a':=?_) #[true,false,true,false,false,true,false,false,false,false,false,false] rfl rfl (any_of HT_.out (by kernel_rfl)) (fun _ _ _ h=>h) (Or.inl ⟨by rfl,?_⟩) ?_ ?_
           rotate_left
           ·intro w'
            go_simp
            with_reducible rfl
           rotate_left
           ·simp only [Act.put,List.setIfInBounds_toArray,List.set_cons_zero,List.set_cons_succ,i64_w,i32_w]
            rfl
           refine pure_ (i:=7) (N:=some 47) (v:=?_) (a':=?_) #[true,false,true,false,false,true,false,true,false,false,false,false] rfl rfl (any_of HT_.out (by kernel_rfl)) (fun _ _ _ h=>h) (Or.inl ⟨by rfl,?_⟩) ?_ ?_
           rotate_left
           ·intro w'
            go_simp
            with_reducible rfl
           rotate_left
           ·simp only [Act.put,List.setIfInBounds_toArray,List.set_cons_zero,List.set_cons_succ,i64_w,i32_w]
            rfl
           refine take_ (i:=1) (N:=some 41) (v:=?_) (a':=?_) #[true,true,true,false,false,true,false,true,false,false,false,false] rfl rfl (take_ofW HT_.out HW_.out (by kernel_rfl)) (fun _ _ _ h=>h) (Or.inl ⟨by rfl,?_⟩) hHeld ?_ ?_
           rotate_left
           ·rintro w' ⟨s0,s1,s2,s3,s4,s5,s6,s7,s8,s9,s10,s11,s12,s13,s14,s15⟩
            go_simp
            with_reducible rfl
           rotate_left
           ·simp only [Act.put,List.setIfInBounds_toArray,List.set_cons_zero,List.set_cons_succ,i64_w,i32_w]
            rfl
           refine pure_ (i:=3) (N:=some 43) (v:=?_) (a':=?_) #[true,true,true,true,false,true,false,true,false,false,false,false] rfl rfl (any_of HT_.out (by kernel_rfl)) (fun _ _ _ h=>h) (Or.inl ⟨by rfl,?_⟩) ?_ ?_
           rotate_left
           ·intro w'
            go_simp
            with_reducible rfl
           rotate_left
           ·simp only [Act.put,List.setIfInBounds_toArray,List.set_cons_zero,List.set_cons_succ,i64_w,i32_w]
            rfl
           refine take_ (i:=4) (N:=some 44) (v:=?_) (a':=?_) #[true,true,true,true,true,true,false,true,false,false,false,false] rfl rfl (take_ofW HT_.out HW_.out (by kernel_rfl)) (fun _ _ _ h=>h) (Or.inl ⟨by rfl,?_⟩) hHeld ?_ ?_
           rotate_left
           ·rintro w' ⟨s0,s1,s2,s3,s4,s5,s6,s7,s8,s9,s10,s11,s12,s13,s14,s15⟩
            go_simp
            with_reducible rfl
           rotate_left
           ·simp only [Act.put,List.setIfInBounds_toArray,List.set_cons_zero,List.set_cons_succ,i64_w,i32_w]
            rfl
           refine take_ (i:=6) (N:=some 46) (v:=?_) (a':=?_) #[true,true,true,true,true,true,true,true,false,false,false,false] rfl rfl (take_ofW HT_.out HW_.out (by kernel_rfl)) (fun _ _ _ h=>h) (Or.inl ⟨by rfl,?_⟩) hHeld ?_ ?_
           rotate_left
           ·rintro w' ⟨s0,s1,s2,s3,s4,s5,s6,s7,s8,s9,s10,s11,s12,s13,s14,s15⟩
            go_simp
            with_reducible rfl
           rotate_left
           ·simp only [Act.put,List.setIfInBounds_toArray,List.set_cons_zero,List.set_cons_succ,i64_w,i32_w]
            rfl
           refine pure_ (i:=8) (N:=some 48) (v:=?_) (a':=?_) #[true,true,true,true,true,true,true,true,true,false,false,false] rfl rfl (any_of HT_.out (by kernel_rfl)) (fun _ _ _ h=>h) (Or.inl ⟨by rfl,?_⟩) ?_ ?_
           rotate_left
           ·intro w'
            go_simp
            with_reducible rfl
           rotate_left
           ·simp only [Act.put,List.setIfInBounds_toArray,List.set_cons_zero,List.set_cons_succ,i64_w,i32_w]
            rfl
           refine take_ (i:=9) (N:=some 49) (v:=?_) (a':=?_) #[true,true,true,true,true,true,true,true,true,true,false,false] rfl rfl (take_ofW HT_.out HW_.out (by kernel_rfl)) (fun _ _ _ h=>h) (Or.inl ⟨by rfl,?_⟩) hHeld ?_ ?_
           rotate_left
           ·rintro w' ⟨s0,s1,s2,s3,s4,s5,s6,s7,s8,s9,s10,s11,s12,s13,s14,s15⟩
            go_simp
            with_reducible rfl
           rotate_left
           ·simp only [Act.put,List.setIfInBounds_toArray,List.set_cons_zero,List.set_cons_succ,i64_w,i32_w]
            rfl
           refine one_ (i:=10) (N:=some 50) #[true,true,true,true,true,true,true,true,true,true,true,false] rfl rfl (one_of HT_.out (by kernel_rfl)) (by decide) (fun K hK=>?_)
           refine goes_ Try.func34 (by kernel_rfl) rfl #[.agg #[.int .i64 ((rd_TDoc l0_3 x37_2).f0),.int .i64 ((rd_TDoc l0_3 x37_2).f1),.string ((rd_TDoc l0_3 x37_2).f2),.slice A598_3 ((rd_TDoc l0_3 x37_2).f3).length c598_3],.agg #[.int .i64 ((rd_TDoc l1_3 x37_2).f0),.int .i64 ((rd_TDoc l1_3 x37_2).f1),.string ((rd_TDoc l1_3 x37_2).f2),.slice A599_3 ((rd_TDoc l1_3 x37_2).f3).length c599_3]] (by rfl) rfl rfl (by (try simp only [List.map_toArray,List.map_cons,List.map_nil]);first|done|rfl|(simp only [List.length_drop,List.length_take];rfl)) ?_
           with_reducible refine (ih k2 (by have:=HJ2.out;have:=HK2.out;omega) ((rd_TDoc l0_3 x37_2).f0) ((rd_TDoc l0_3 x37_2).f1) ((rd_TDoc l0_3 x37_2).f2) _ _ ((rd_TDoc l0_3 x37_2).f3) ((rd_TDoc l1_3 x37_2).f0) ((rd_TDoc l1_3 x37_2).f1) ((rd_TDoc l1_3 x37_2).f2) _ _ ((rd_TDoc l1_3 x37_2).f3) false _ ?side1 ?side2 ?side3 ?side4 A28.out).mono ?_
           (case side1=>exact gC (Kd.C_below HR598_3.out HB.out))
           (case side2=>exact HC598_3.out)
           (case side3=>exact gC (Kd.C_below HR599_3.out HB.out))
           (case side4=>exact HC599_3.out)
           rintro e w33 ⟨rfl,hb⟩
           refine ⟨_,rfl,?_⟩
           have n0_:=Aside0.mk (blk_below (g:=gb596) (o:=.cells #[.int .i64 a0_0,.int .i64 a0_1,.string a0_2,.slice (some ad598) l0_3.length c0_3] 27 (0,0)) (gK BK596) hb)
           have n1_:=Aside0.mk (blk_below (g:=gb597) (o:=.cells #[.int .i64 a1_0,.int .i64 a1_1,.string a1_2,.slice (some ad599) l1_3.length c1_3] 27 (0,0)) (gK BK597) hb)
           have n2_:=Aside0.mk (below_step (by repeat (first|exact gB HB|refine below_set ?_ GE596.out|refine below_set ?_ GE597.out)) hb)
           clear BK596
           clear BK597
           clear HB
           have BK596:=n0_
           have BK597:=n1_
           have HB:=n2_
           clear n0_ n1_ n2_
           (try clear hb)
           (try clear hb2)
           (try clear hk)
           (try clear hi)
           refine hK.out _ _ ⟨(blk_cell BK596.out 0).trans rfl,(blk_cell BK596.out 1).trans rfl,(blk_cell BK596.out 2).trans rfl,(blk_cell BK596.out 3).trans rfl,(blk_cell BK597.out 0).trans rfl,(blk_cell BK597.out 1).trans rfl,(blk_cell BK597.out 2).trans rfl,(blk_cell BK597.out 3).trans rfl,((HB.out.cell (World.block_lt_of_cell? w _ hw598_0)).trans hw598_0),((HB.out.cell (World.block_lt_of_cell? w _ hw598_1)).trans hw598_1),((HB.out.cell (World.block_lt_of_cell? w _ hw598_2)).trans hw598_2),((HB.out.cell (World.block_lt_of_cell? w _ hw598_3)).trans hw598_3),((HB.out.cell (World.block_lt_of_cell? w _ hw599_0)).trans hw599_0),((HB.out.cell (World.block_lt_of_cell? w _ hw599_1)).trans hw599_1),((HB.out.cell (World.block_lt_of_cell? w _ hw599_2)).trans hw599_2),((HB.out.cell (World.block_lt_of_cell? w _ hw599_3)).trans hw599_3)⟩ (fun hHeld=>?_)
           clear hK K
           refine norm_ (a':=?_) ?_ ?_
           rotate_left
           ·show Act.put _ (some 50) _=_
            simp only [Act.put,List.setIfInBounds_toArray,List.set_cons_zero,List.set_cons_succ,i64_w,i32_w]
            rfl
           refine pure_ (i:=11) (N:=some 51) (v:=?_) (a':=?_) #[true,true,true,true,true,true,true,true,true,true,true,true] rfl rfl (any_of HT_.out (by kernel_rfl)) (fun _ _ _ h=>h) (Or.inl ⟨by rfl,?_⟩) ?_ ?_
           rotate_left
           ·intro w'
            go_simp
            with_reducible rfl
           rotate_left
           ·simp only [Act.put,List.setIfInBounds_toArray,List.set_cons_zero,List.set_cons_succ,i64_w,i32_w]
            rfl
           refine done_ (done_of HT_.out (by kernel_rfl)) ?_
           try go_wp2
           go_ret
           exact ⟨by first|rfl|(simp [errW_none,errW_some] <;> rfl)|(simp [*,errW_none,errW_some] <;> rfl),by repeat (first|exact gB HB|refine below_set ?_ GE596.out|refine below_set ?_ GE597.out)⟩
         ·rw [if_neg c27] at H
          exact absurd H (by simp)
        ·rw [if_neg c26] at H
         exact absurd H (by simp)
       ·rw [if_neg c25] at H
        exact absurd H (by simp)
      ·rw [if_neg c24] at H
       have c24b0:decide (x37_2 < (l0_3.length:Int))=false:=decide_eq_false c24
       clear c24
       obtain rfl:=Option.some.inj H
       go_wp2
       go_ret
       exact ⟨by first|rfl|(simp [errW_none,errW_some] <;> rfl)|(simp [*,errW_none,errW_some] <;> rfl),by repeat (first|exact gB HB|refine below_set ?_ GE596.out|refine below_set ?_ GE597.out)⟩
end Go.Proofs.Ytdhdfmmefghijaa.P
namespace Go.Proofs.Ytdhdfmmefghijaa.P
open Go.RowKit Go.Proofs.YtdhdfmmefghijaaW.PrintWords Go.Proofs.YtdhdfmmefghijaaW.PrintLast Go.Proofs.YtdhdfmmefghijaaW.PrintMore
attribute [local go_sem] max2_int min2_int max_two min_two max_three min_three max_four min_four
set_option linter.unusedVariables false
set_option linter.unusedSimpArgs false
def IsS66 (w0 W:World) (g:Nat) (f0:List Int) (f1:Int):Prop:=∃ A0 c0,W.heap[g]?=some (.cells #[.slice A0 f0.length c0,.int .i64 f1] 66 (0,0))∧w0.heap.size≤g∧Kd.C (Kd.int .u8) w0 A0 f0.length f0
theorem IsS66.grown {w0 W:World} {g:Nat} {f0:List Int} {f1:Int} {W1:World} {row:Option Nat} (h:IsS66 w0 W g f0 f1) (hw:W.grownBy W1 row) (hne:some g ≠ row):IsS66 w0 W1 g f0 f1:=by
 obtain ⟨A0,c0,hb,hg,hr0⟩:=h
 exact ⟨A0,c0,blk_grown hb hw hne,hg,hr0⟩
theorem IsS66.fresh {w0 W:World} {g:Nat} {f0:List Int} {f1:Int} (h:IsS66 w0 W g f0 f1):∀ k,W.heap.size≤k→k ≠ g:=by
 obtain ⟨A0,c0,hb,hg,hr0⟩:=h
 exact Kd.freshB hb
theorem IsS66.kept {w0 W:World} {g:Nat} {f0:List Int} {f1:Int} {W1:World} {S:Nat→Prop} (h:IsS66 w0 W g f0 f1) (hk:Kept W W1 S) (hne:¬ S g):IsS66 w0 W1 g f0 f1:=by
 obtain ⟨A0,c0,hb,hg,hr0⟩:=h
 exact ⟨A0,c0,blk_kept hb hk hne,hg,hr0⟩
theorem IsS66.below {w0 W:World} {g:Nat} {f0:List Int} {f1:Int} {W1:World} (h:IsS66 w0 W g f0 f1) (hw:Below W.heap.size W W1):IsS66 w0 W1 g f0 f1:=h.grown (grown_of_below hw none) (by simp)
theorem IsS66.alloc {w0 W:World} {g:Nat} {f0:List Int} {f1:Int} (h:IsS66 w0 W g f0 f1) (o:Obj):IsS66 w0 (W.alloc o) g f0 f1:=h.below (below_alloc (Below.refl _ _) o)
theorem IsS66.drewN {w0 W:World} {g:Nat} {f0:List Int} {f1:Int} (h:IsS66 w0 W g f0 f1) (m:Nat):IsS66 w0 (W.drewN m) g f0 f1:=h
theorem IsS66.drew {w0 W:World} {g:Nat} {f0:List Int} {f1:Int} (h:IsS66 w0 W g f0 f1):IsS66 w0 W.drew g f0 f1:=h
theorem IsS66.at_ {w0 W:World} {g:Nat} {f0:List Int} {f1:Int} {w':World} {m:Nat} (hq:W.drewN m=w') (h:IsS66 w0 W g f0 f1):IsS66 w0 w' g f0 f1:=by subst hq;exact IsS66.drewN h m
theorem IsS66.apart {w0 W:World} {g:Nat} {f0:List Int} {f1:Int} {α:Type} {d:Kd α} {e:Nat} {base:Nat} {ok:Nat→Prop} {v:Value} {xs:List α} (h:IsS66 w0 W g f0 f1) (ho:d.R e W base ok v xs) (ht:∀ q,q ∈ e :: d.E→q ≠ 66):d.R e W base (fun k=>ok k∧k ≠ g) v xs:=by
 obtain ⟨A0,c0,hb,hg,hr0⟩:=h
 exact Kd.R_types ho hb ht
theorem IsS66.own_ne {w0 W:World} {g:Nat} {f0:List Int} {f1:Int} {α:Type} {d:Kd α} {e:Nat} {base:Nat} {ok:Nat→Prop} {v:Value} {xs:List α} (h:IsS66 w0 W g f0 f1) (ho:d.R e W base ok v xs) (ht:e ≠ 66):some g ≠ v.ownBlock:=by
 obtain ⟨A0,c0,hb,hg,hr0⟩:=h
 exact Kd.R_ne ho hb ht
theorem IsS66.lt {w0 W:World} {g:Nat} {f0:List Int} {f1:Int} (h:IsS66 w0 W g f0 f1):g < W.heap.size:=by
 obtain ⟨A0,c0,hb,hg,hr0⟩:=h
 exact blk_lt hb
theorem IsS66.ge {w0 W:World} {g:Nat} {f0:List Int} {f1:Int} (h:IsS66 w0 W g f0 f1):w0.heap.size≤g:=by
 obtain ⟨A0,c0,hb,hg,hr0⟩:=h
 exact hg
theorem IsS66.far {w0 W:World} {g:Nat} {f0:List Int} {f1:Int} {p:Addr} (h:IsS66 w0 W g f0 f1) (hne:g ≠ p.block) (u:Value):IsS66 w0 (W.setCell p u) g f0 f1:=by
 obtain ⟨A0,c0,hb,hg,hr0⟩:=h
 exact ⟨A0,c0,blk_far hb hne u,hg,hr0⟩
theorem cellS66_0 {W:World} {g:Nat} {A0:Option Addr} {c0:Nat} {f0:List Int} {f1:Int} (h:W.heap[g]?=some (.cells #[.slice A0 f0.length c0,.int .i64 f1] 66 (0,0))):W.cell? ⟨g,0,none⟩=some (.slice A0 f0.length c0):=(blk_cell h 0).trans rfl
theorem cellS66_1 {W:World} {g:Nat} {A0:Option Addr} {c0:Nat} {f0:List Int} {f1:Int} (h:W.heap[g]?=some (.cells #[.slice A0 f0.length c0,.int .i64 f1] 66 (0,0))):W.cell? ⟨g,1,none⟩=some (.int .i64 f1):=(blk_cell h 1).trans rfl
theorem IsS66.set_1 {w0 W:World} {g:Nat} {f0:List Int} {f1:Int} (h:IsS66 w0 W g f0 f1) (x:Int):IsS66 w0 (W.setCell ⟨g,1,none⟩ (.int .i64 x)) g f0 x:=by
 obtain ⟨A0,c0,hb,hg,hr0⟩:=h
 exact ⟨A0,c0,by simpa using blk_set hb 1 (.int .i64 x),hg,hr0⟩
def spec_l15Open.f (l0:List Int):Option (List Int × Int):=if (l0.length:Int) > 2000 then (if 2000≤(l0.length:Int) then (some (l0.take 2000,0)) else (none)) else (some (l0,0))
set_option maxHeartbeats 8000000 in
set_option maxRecDepth 100000 in
theorem spec_l15Open.calls (A0:Option Addr) (c0:Nat) (l0:List Int) (r1:List Int) (r2:Int) (w0 w:World) (hB:Below w0.heap.size w0 w) (hr0:Kd.C (Kd.int .u8) w0 A0 l0.length l0) (hc0:l0.length≤c0) (h:spec_l15Open.f l0=some (r1,r2)) :
  Calls Try.prog 44 #[.slice A0 l0.length c0] w fun e w'=>∃ g_:Nat,e=.returned (.pointer (some ⟨g_,0,none⟩))∧IsS66 w0 w' g_ r1 r2∧Below w0.heap.size w0 w'∧Below w.heap.size w w':=by
 have hu66:=Try.underlying66
 have HR0:=Aside0.mk hr0
 have HC0:=Aside0.mk hc0
 clear hr0 hc0
 have HBW:=Aside0.mk (Below.refl w.heap.size w)
 have HW0:=Aside0.mk hB.size
 have HB:=Aside0.mk hB
 clear hB
 have H:(if (l0.length:Int) > 2000 then (if 2000≤(l0.length:Int) then (some (l0.take 2000,0)) else (none)) else (some (l0,0)))=some (r1,r2):=h
 clear h
 by_cases c2:(l0.length:Int) > 2000
 ·rw [if_pos c2] at H
  have c2b0:decide (2000 < (l0.length:Int))=true:=decide_eq_true c2
  have c2b1:decide (2000 < l0.length)=true:=decide_eq_true (by omega)
  clear c2
  by_cases c3:2000≤(l0.length:Int)
  ·rw [if_pos c3] at H
   have c3b0:=eq_true c3
   have c3b1:decide (2000≤(l0.length:Int))=true:=decide_eq_true c3
   clear c3
   simp only [Option.some.injEq,Prod.mk.injEq] at H
   obtain ⟨rfl,rfl⟩:=H
   obtain ⟨i04,hi04,_,hsz4,_⟩:=info_parts info5
   obtain ⟨hcut4,hA4,hC4⟩:=print_take_of (P:=Try.prog) (Value.int .u8) 0 22 5 .i64 Try.underlying22 hi04 hsz4 A0 c0 l0 2000 (by omega) (of_decide_eq_true (by first|(with_reducible assumption)|assumption)) HC0.out
   have HR101:=Aside0.mk (Kd.C_of_reads (h1:=fun _=>rfl) (hA4 _ (Kd.reads_of_C HR0.out)))
   have HC101:=Aside0.mk hC4
   clear hA4 hC4 hi04 hsz4
   go_enter Try.func44,Try.ntmps44
   go_wp2_with (first|((with_reducible refine gate_dst (N:=10) rfl ?_);refine box_event ?hg (N:=10) ?hd (cs:=#[.slice A0 (l0.take 2000).length c0,.int .i64 0]) (t:=66) ?hr ?_;(case hd=>rfl);(case hg=>rfl);(case hr=>first|(go_simp;done)|(go_simp;rfl));intro gb102 hg w5 hbox hb;have n0_:=Aside0.mk (below_step HBW.out hb);have n1_:=Aside0.mk (below_step (gB HB) hb);have n2_:=Aside0.mk (hbox);have n3_:=Aside0.mk ((by rw [hg];exact (below_size (gB HBW)):w.heap.size≤gb102));have n4_:=Aside0.mk ((Nat.le_trans HW0.out (by rw [hg];exact (below_size (gB HBW)):w.heap.size≤gb102):w0.heap.size≤gb102));clear HBW;clear HB;have HBW:=n0_;have HB:=n1_;have BK102:=n2_;have GW102:=n3_;have GE102:=n4_;clear n0_ n1_ n2_ n3_ n4_;clear hb hbox hg))
   go_ret
   exact ⟨_,rfl,(show IsS66 w0 _ gb102 (l0.take 2000) 0 from ⟨_,_,gK BK102,GE102.out,HR101.out⟩),by repeat (first|exact gB HB|refine below_set ?_ GE102.out),by repeat (first|exact gB HBW|refine below_set ?_ GW102.out)⟩
  ·rw [if_neg c3] at H
   exact absurd H (by simp)
 ·rw [if_neg c2] at H
  have c2b0:decide (2000 < (l0.length:Int))=false:=decide_eq_false c2
  have c2b1:decide (2000 < l0.length)=false:=decide_eq_false (by omega)
  clear c2
  simp only [Option.some.injEq,Prod.mk.injEq] at H
  obtain ⟨rfl,rfl⟩:=H
  go_enter Try.func44,Try.ntmps44
  go_wp2_with (first|((with_reducible refine gate_dst (N:=10) rfl ?_);refine box_event ?hg (N:=10) ?hd (cs:=#[.slice A0 l0.length c0,.int .i64 0]) (t:=66) ?hr ?_;(case hd=>rfl);(case hg=>rfl);(case hr=>first|(go_simp;done)|(go_simp;rfl));intro gb103 hg w6 hbox hb;have n0_:=Aside0.mk (below_step HBW.out hb);have n1_:=Aside0.mk (below_step (gB HB) hb);have n2_:=Aside0.mk (hbox);have n3_:=Aside0.mk ((by rw [hg];exact (below_size (gB HBW)):w.heap.size≤gb103));have n4_:=Aside0.mk ((Nat.le_trans HW0.out (by rw [hg];exact (below_size (gB HBW)):w.heap.size≤gb103):w0.heap.size≤gb103));clear HBW;clear HB;have HBW:=n0_;have HB:=n1_;have BK103:=n2_;have GW103:=n3_;have GE103:=n4_;clear n0_ n1_ n2_ n3_ n4_;clear hb hbox hg))
  go_ret
  exact ⟨_,rfl,(show IsS66 w0 _ gb103 l0 0 from ⟨_,_,gK BK103,GE103.out,HR0.out⟩),by repeat (first|exact gB HB|refine below_set ?_ GE103.out),by repeat (first|exact gB HBW|refine below_set ?_ GW103.out)⟩
end Go.Proofs.Ytdhdfmmefghijaa.P
namespace Go.Proofs.Ytdhdfmmefghijaa.P
open Go.RowKit Go.Proofs.YtdhdfmmefghijaaW.PrintWords Go.Proofs.YtdhdfmmefghijaaW.PrintLast Go.Proofs.YtdhdfmmefghijaaW.PrintMore
attribute [local go_sem] max2_int min2_int max_two min_two max_three min_three max_four min_four
set_option linter.unusedVariables false
set_option linter.unusedSimpArgs false
def spec_l15Rd_pick.j0:Nat→Int→Bool→List Int→Int→Option (Int × Int)
 | 0,_,_,_,_=>none
 | k+1,x1,x24,x1000,x1001=>if x24=true then (some (0,x1001)) else (if (wrap64 (x1001 - 1)) < (x1000.length:Int) then (if 0≤(wrap64 (x1001 - 1)) then (if x1=0 then (none) else (some (Int.tmod (wrap64 (rd x1000 (wrap64 (x1001 - 1)))) x1,x1001))) else (none)) else (if (x1000.length:Int)=0 then (none) else (if 0≤(Int.tmod (wrap64 (x1001 - 1)) (x1000.length:Int)) then (if (Int.tmod (wrap64 (x1001 - 1)) (x1000.length:Int)) < (x1000.length:Int) then (if 0≤(Int.tmod (wrap64 ((wrap64 ((wrap64 (x1001 - 1)) * 7))+3)) (x1000.length:Int)) then (if (Int.tmod (wrap64 ((wrap64 ((wrap64 (x1001 - 1)) * 7))+3)) (x1000.length:Int)) < (x1000.length:Int) then (if x1=0 then (none) else (some (Int.tmod (Go.bits .xor .i64 (wrap64 ((wrap64 ((wrap64 ((wrap64 ((wrap64 (rd x1000 (Int.tmod (wrap64 (x1001 - 1)) (x1000.length:Int)))) * 131))+(wrap64 ((wrap64 (rd x1000 (Int.tmod (wrap64 ((wrap64 ((wrap64 (x1001 - 1)) * 7))+3)) (x1000.length:Int)))) * 1117))))+(wrap64 ((wrap64 (x1001 - 1)) * 29))))+(wrap64 ((wrap64 (Int.tdiv (wrap64 (x1001 - 1)) (x1000.length:Int))) * 53)))) (wrap64 (Int.tdiv (wrap64 ((wrap64 ((wrap64 ((wrap64 ((wrap64 (rd x1000 (Int.tmod (wrap64 (x1001 - 1)) (x1000.length:Int)))) * 131))+(wrap64 ((wrap64 (rd x1000 (Int.tmod (wrap64 ((wrap64 ((wrap64 (x1001 - 1)) * 7))+3)) (x1000.length:Int)))) * 1117))))+(wrap64 ((wrap64 (x1001 - 1)) * 29))))+(wrap64 ((wrap64 (Int.tdiv (wrap64 (x1001 - 1)) (x1000.length:Int))) * 53)))) 64))) x1,x1001))) else (none)) else (none)) else (none)) else (none))))
def spec_l15Rd_pick.f (k:Nat) (s0_0:List Int) (s0_1:Int) (a1:Int):Option (Int × Int):=if a1 < 1 then (spec_l15Rd_pick.j0 k a1 true s0_0 (wrap64 (s0_1+1))) else (spec_l15Rd_pick.j0 k a1 ((s0_0.length:Int) == 0) s0_0 (wrap64 (s0_1+1)))
set_option maxHeartbeats 8000000 in
set_option maxRecDepth 100000 in
theorem spec_l15Rd_pick.calls (k:Nat) (g:Nat) (s0_0:List Int) (s0_1:Int) (a1:Int) (r1:Int) (r2:Int) (w0 w:World) (hI:IsS66 w0 w g s0_0 s0_1) (hB:Below w0.heap.size w0 w) (h:spec_l15Rd_pick.f k s0_0 s0_1 a1=some (r1,r2)) :
  Calls Try.prog 55 #[.pointer (some ⟨g,0,none⟩),.int .i64 a1] w fun e w'=>e=.returned (.int .i64 r1)∧IsS66 w0 w' g s0_0 r2∧Below w0.heap.size w0 w'∧KeepBut w w' g none:=by
 have HI0:=Aside0.mk hI
 have HK:=Aside0.mk (KeepBut.refl w g none)
 have HL:=Aside0.mk hB.size
 clear hI
 have HW0:=Aside0.mk hB.size
 have HB:=Aside0.mk hB
 clear hB
 have H:(if a1 < 1 then (spec_l15Rd_pick.j0 k a1 true s0_0 (wrap64 (s0_1+1))) else (spec_l15Rd_pick.j0 k a1 ((s0_0.length:Int) == 0) s0_0 (wrap64 (s0_1+1))))=some (r1,r2):=h
 clear h
 have HC3:=Aside0.mk H
 clear H
 obtain ⟨ASz4_0,cSz4_0,HGz4,hgz4,HSz4_0⟩:=HI0.out
 have hcz4_0:=cellS66_0 HGz4
 have hcz4_1:=cellS66_1 HGz4
 have hfz4_1:=blk_frozen HGz4 1
 clear HGz4 hgz4
 go_enter Try.func55,Try.ntmps55
 go_upto_region 2 with (fail)
 repeat (go_quiet (fail);go_upto_region 2 with (fail))
 go_cut [24] (fun v24 wc=>∃ (kq:Nat) (x24_2:Bool),v24=.bool x24_2∧Aside0 (spec_l15Rd_pick.j0 kq a1 x24_2 s0_0 (wrap64 (s0_1+1))=some (r1,r2))∧Aside0 (kq≤k)∧Aside0 (IsS66 w0 wc g s0_0 (wrap64 (s0_1+1)))∧Aside0 (KeepBut w wc g none)∧Aside0 (Below w0.heap.size w0 wc))
 case first =>
  have H:=HC3.out
  clear HC3
  by_cases c5:a1 < 1
  ·rw [if_pos c5] at H
   have c5b0:decide (a1 < 1)=true:=decide_eq_true c5
   clear c5
   (first|rw [c5b0]|(simp only [i64_w,i32_w];rw [c5b0])|skip)
   have H':=Aside0.mk H
   clear H
   go_wp2
   repeat (go_quiet (fail);try go_wp2)
   go_meet
   case rel=>exact ⟨_,(true),(by first|rfl|(simp;done)|(simp [*];done)),H',⟨by first|omega|exact Nat.le_refl _⟩,⟨by repeat (first|(with_reducible first|exact HI0.out|apply IsS66.alloc|apply IsS66.drewN|apply IsS66.drew|apply IsS66.set_1)|exact HI0.out)⟩,⟨by repeat (first|exact gW HK|apply KeepBut.set_)⟩,⟨by repeat (first|exact gB HB|refine below_set ?_ (IsS66.ge HI0.out))⟩⟩
  ·rw [if_neg c5] at H
   have c5b0:decide (a1 < 1)=false:=decide_eq_false c5
   clear c5
   (first|rw [c5b0]|(simp only [i64_w,i32_w];rw [c5b0])|skip)
   have H':=Aside0.mk H
   clear H
   obtain ⟨ASz6_0,cSz6_0,HGz6,hgz6,HSz6_0⟩:=HI0.out
   have hcz6_0:=cellS66_0 HGz6
   have hcz6_1:=cellS66_1 HGz6
   have hfz6_1:=blk_frozen HGz6 1
   clear HGz6 hgz6
   go_wp2
   repeat (go_quiet (fail);try go_wp2)
   go_meet
   case rel=>exact ⟨_,(((s0_0.length:Int) == 0)),(by first|rfl|(simp;done)|(simp [*];done)),H',⟨by first|omega|exact Nat.le_refl _⟩,⟨by repeat (first|(with_reducible first|exact HI0.out|apply IsS66.alloc|apply IsS66.drewN|apply IsS66.drew|apply IsS66.set_1)|exact HI0.out)⟩,⟨by repeat (first|exact gW HK|apply KeepBut.set_)⟩,⟨by repeat (first|exact gB HB|refine below_set ?_ (IsS66.ge HI0.out))⟩⟩
 case rest =>
  clear HC3
  try clear p2 c5 c5b0 p6 hcz4_0 hcz4_1 hcz6_0 hcz6_1 hfz4_1 hfz6_1
  obtain ⟨kq,x24_2,rfl,HA,HJ2,HI0,HK,HB⟩:=hcut
  cases kq with
  | zero=>exact absurd HA.out (by simp [spec_l15Rd_pick.j0])
  | succ kj2 =>
   have H:=HA.out
   clear HA
   simp only [spec_l15Rd_pick.j0] at H
   by_cases c7:x24_2=true
   ·subst c7
    have H1:(some (0,(wrap64 (s0_1+1))))=some (r1,r2):=by rw [if_pos rfl] at H;exact H
    clear H
    have H:=H1
    clear H1
    simp only [Option.some.injEq,Prod.mk.injEq] at H
    obtain ⟨rfl,rfl⟩:=H
    go_wp2
    repeat (go_quiet (fail);try go_wp2)
    go_ret
    exact ⟨by first|rfl|(simp [errW_none,errW_some] <;> rfl)|(simp [*,errW_none,errW_some] <;> rfl),by repeat (first|(with_reducible first|exact HI0.out|apply IsS66.alloc|apply IsS66.drewN|apply IsS66.drew|apply IsS66.set_1)|exact HI0.out),by repeat (first|exact gB HB|refine below_set ?_ (IsS66.ge HI0.out)),by repeat (first|exact gW HK|apply KeepBut.set_)⟩
   ·replace c7:=Bool.eq_false_iff.mpr c7
    subst c7
    have H1:(if (wrap64 ((wrap64 (s0_1+1)) - 1)) < (s0_0.length:Int) then (if 0≤(wrap64 ((wrap64 (s0_1+1)) - 1)) then (if a1=0 then (none) else (some (Int.tmod (wrap64 (rd s0_0 (wrap64 ((wrap64 (s0_1+1)) - 1)))) a1,(wrap64 (s0_1+1))))) else (none)) else (if (s0_0.length:Int)=0 then (none) else (if 0≤(Int.tmod (wrap64 ((wrap64 (s0_1+1)) - 1)) (s0_0.length:Int)) then (if (Int.tmod (wrap64 ((wrap64 (s0_1+1)) - 1)) (s0_0.length:Int)) < (s0_0.length:Int) then (if 0≤(Int.tmod (wrap64 ((wrap64 ((wrap64 ((wrap64 (s0_1+1)) - 1)) * 7))+3)) (s0_0.length:Int)) then (if (Int.tmod (wrap64 ((wrap64 ((wrap64 ((wrap64 (s0_1+1)) - 1)) * 7))+3)) (s0_0.length:Int)) < (s0_0.length:Int) then (if a1=0 then (none) else (some (Int.tmod (Go.bits .xor .i64 (wrap64 ((wrap64 ((wrap64 ((wrap64 ((wrap64 (rd s0_0 (Int.tmod (wrap64 ((wrap64 (s0_1+1)) - 1)) (s0_0.length:Int)))) * 131))+(wrap64 ((wrap64 (rd s0_0 (Int.tmod (wrap64 ((wrap64 ((wrap64 ((wrap64 (s0_1+1)) - 1)) * 7))+3)) (s0_0.length:Int)))) * 1117))))+(wrap64 ((wrap64 ((wrap64 (s0_1+1)) - 1)) * 29))))+(wrap64 ((wrap64 (Int.tdiv (wrap64 ((wrap64 (s0_1+1)) - 1)) (s0_0.length:Int))) * 53)))) (wrap64 (Int.tdiv (wrap64 ((wrap64 ((wrap64 ((wrap64 ((wrap64 (rd s0_0 (Int.tmod (wrap64 ((wrap64 (s0_1+1)) - 1)) (s0_0.length:Int)))) * 131))+(wrap64 ((wrap64 (rd s0_0 (Int.tmod (wrap64 ((wrap64 ((wrap64 ((wrap64 (s0_1+1)) - 1)) * 7))+3)) (s0_0.length:Int)))) * 1117))))+(wrap64 ((wrap64 ((wrap64 (s0_1+1)) - 1)) * 29))))+(wrap64 ((wrap64 (Int.tdiv (wrap64 ((wrap64 (s0_1+1)) - 1)) (s0_0.length:Int))) * 53)))) 64))) a1,(wrap64 (s0_1+1))))) else (none)) else (none)) else (none)) else (none))))=some (r1,r2):=by rw [if_neg (show ¬ (false=true) by decide)] at H;exact H
    clear H
    have H:=H1
    clear H1
    by_cases c8:(wrap64 ((wrap64 (s0_1+1)) - 1)) < (s0_0.length:Int)
    ·rw [if_pos c8] at H
     have c8b0:decide ((wrap64 ((wrap64 (s0_1+1)) - 1)) < (s0_0.length:Int))=true:=decide_eq_true c8
     clear c8
     obtain ⟨ji9,hji9⟩:∃ j_:Int,(wrap64 ((wrap64 (s0_1+1)) - 1))=j_:=⟨_,rfl⟩
     replace H:(if 0≤(ji9) then (if a1=0 then (none) else (some (Int.tmod (wrap64 (rd s0_0 (ji9))) a1,(wrap64 (s0_1+1))))) else (none))=some (r1,r2):=by first|(rw [hji9] at H;exact H)|(simp only [hji9] at H ⊢;exact H)
     (try rw [hji9] at c8b0)
     have hji9w:(IntKind.i64.wrap ((wrap64 (s0_1+1)) - 1))=ji9:=(i64_w _).trans hji9
     by_cases c10:0≤(ji9)
     ·rw [if_pos c10] at H
      have c10b0:decide (0≤(ji9))=true:=decide_eq_true c10
      clear c10
      by_cases c11:a1=0
      ·rw [if_pos c11] at H
       exact absurd H (by simp)
      ·rw [if_neg c11] at H
       have c11b0:(a1 == 0)=false:=beq_eq_false_iff_ne.mpr c11
       have c11b1:(a1 != 0)=true:=bne_iff_ne.mpr c11
       simp only [Option.some.injEq,Prod.mk.injEq] at H
       obtain ⟨rfl,rfl⟩:=H
       obtain ⟨ASz12_0,cSz12_0,HGz12,hgz12,HSz12_0⟩:=HI0.out
       have hcz12_0:=cellS66_0 HGz12
       have hcz12_1:=cellS66_1 HGz12
       have hfz12_1:=blk_frozen HGz12 1
       clear HGz12 hgz12
       have p104:0≤((ji9):Int):=of_decide_eq_true (by first|(with_reducible assumption)|assumption)
       have q104:(ji9) < (s0_0.length:Int):=of_decide_eq_true (by first|(with_reducible assumption)|assumption)
       obtain ⟨ad104,e104,hx104_0⟩:=Kd.at_int HSz12_0 (ji9) p104 q104
       cases e104
       replace hx104_0:=pw_cell_below HB.out hx104_0
       replace p104:=eq_true p104
       replace q104:=eq_true q104
       go_wp2
       repeat (go_quiet (fail);try go_wp2)
       go_ret
       exact ⟨by first|rfl|(simp [errW_none,errW_some] <;> rfl)|(simp only [← hji9];first|rfl|(simp [errW_none,errW_some] <;> rfl))|(simp [*,errW_none,errW_some] <;> rfl),by repeat (first|(with_reducible first|exact HI0.out|apply IsS66.alloc|apply IsS66.drewN|apply IsS66.drew|apply IsS66.set_1)|exact HI0.out),by repeat (first|exact gB HB|refine below_set ?_ (IsS66.ge HI0.out)),by repeat (first|exact gW HK|apply KeepBut.set_)⟩
     ·rw [if_neg c10] at H
      exact absurd H (by simp)
    ·rw [if_neg c8] at H
     have c8b0:decide ((wrap64 ((wrap64 (s0_1+1)) - 1)) < (s0_0.length:Int))=false:=decide_eq_false c8
     clear c8
     by_cases c13:(s0_0.length:Int)=0
     ·rw [if_pos c13] at H
      exact absurd H (by simp)
     ·rw [if_neg c13] at H
      have c13b0:((s0_0.length:Int) == 0)=false:=beq_eq_false_iff_ne.mpr c13
      have c13b1:((s0_0.length:Int) != 0)=true:=bne_iff_ne.mpr c13
      have c13b2:¬ (s0_0=[]):=fun h_=>c13 (by rw [h_];rfl)
      obtain ⟨ji14,hji14⟩:∃ j_:Int,(Int.tmod (wrap64 ((wrap64 (s0_1+1)) - 1)) (s0_0.length:Int))=j_:=⟨_,rfl⟩
      replace H:(if 0≤(ji14) then (if (ji14) < (s0_0.length:Int) then (if 0≤(Int.tmod (wrap64 ((wrap64 ((wrap64 ((wrap64 (s0_1+1)) - 1)) * 7))+3)) (s0_0.length:Int)) then (if (Int.tmod (wrap64 ((wrap64 ((wrap64 ((wrap64 (s0_1+1)) - 1)) * 7))+3)) (s0_0.length:Int)) < (s0_0.length:Int) then (if a1=0 then (none) else (some (Int.tmod (Go.bits .xor .i64 (wrap64 ((wrap64 ((wrap64 ((wrap64 ((wrap64 (rd s0_0 (ji14))) * 131))+(wrap64 ((wrap64 (rd s0_0 (Int.tmod (wrap64 ((wrap64 ((wrap64 ((wrap64 (s0_1+1)) - 1)) * 7))+3)) (s0_0.length:Int)))) * 1117))))+(wrap64 ((wrap64 ((wrap64 (s0_1+1)) - 1)) * 29))))+(wrap64 ((wrap64 (Int.tdiv (wrap64 ((wrap64 (s0_1+1)) - 1)) (s0_0.length:Int))) * 53)))) (wrap64 (Int.tdiv (wrap64 ((wrap64 ((wrap64 ((wrap64 ((wrap64 (rd s0_0 (ji14))) * 131))+(wrap64 ((wrap64 (rd s0_0 (Int.tmod (wrap64 ((wrap64 ((wrap64 ((wrap64 (s0_1+1)) - 1)) * 7))+3)) (s0_0.length:Int)))) * 1117))))+(wrap64 ((wrap64 ((wrap64 (s0_1+1)) - 1)) * 29))))+(wrap64 ((wrap64 (Int.tdiv (wrap64 ((wrap64 (s0_1+1)) - 1)) (s0_0.length:Int))) * 53)))) 64))) a1,(wrap64 (s0_1+1))))) else (none)) else (none)) else (none)) else (none))=some (r1,r2):=by first|(rw [hji14] at H;exact H)|(simp only [hji14] at H ⊢;exact H)
      by_cases c15:0≤(ji14)
      ·rw [if_pos c15] at H
       have c15b0:decide (0≤(ji14))=true:=decide_eq_true c15
       clear c15
       by_cases c16:(ji14) < (s0_0.length:Int)
       ·rw [if_pos c16] at H
        have c16b0:decide ((ji14) < (s0_0.length:Int))=true:=decide_eq_true c16
        clear c16
        obtain ⟨ji17,hji17⟩:∃ j_:Int,(Int.tmod (wrap64 ((wrap64 ((wrap64 ((wrap64 (s0_1+1)) - 1)) * 7))+3)) (s0_0.length:Int))=j_:=⟨_,rfl⟩
        replace H:(if 0≤(ji17) then (if (ji17) < (s0_0.length:Int) then (if a1=0 then (none) else (some (Int.tmod (Go.bits .xor .i64 (wrap64 ((wrap64 ((wrap64 ((wrap64 ((wrap64 (rd s0_0 (ji14))) * 131))+(wrap64 ((wrap64 (rd s0_0 (ji17))) * 1117))))+(wrap64 ((wrap64 ((wrap64 (s0_1+1)) - 1)) * 29))))+(wrap64 ((wrap64 (Int.tdiv (wrap64 ((wrap64 (s0_1+1)) - 1)) (s0_0.length:Int))) * 53)))) (wrap64 (Int.tdiv (wrap64 ((wrap64 ((wrap64 ((wrap64 ((wrap64 (rd s0_0 (ji14))) * 131))+(wrap64 ((wrap64 (rd s0_0 (ji17))) * 1117))))+(wrap64 ((wrap64 ((wrap64 (s0_1+1)) - 1)) * 29))))+(wrap64 ((wrap64 (Int.tdiv (wrap64 ((wrap64 (s0_1+1)) - 1)) (s0_0.length:Int))) * 53)))) 64))) a1,(wrap64 (s0_1+1))))) else (none)) else (none))=some (r1,r2):=by first|(rw [hji17] at H;exact H)|(simp only [hji17] at H ⊢;exact H)
        by_cases c18:0≤(ji17)
        ·rw [if_pos c18] at H
         have c18b0:decide (0≤(ji17))=true:=decide_eq_true c18
         clear c18
         by_cases c19:(ji17) < (s0_0.length:Int)
         ·rw [if_pos c19] at H
          have c19b0:decide ((ji17) < (s0_0.length:Int))=true:=decide_eq_true c19
          clear c19
          by_cases c20:a1=0
          ·rw [if_pos c20] at H
           exact absurd H (by simp)
          ·rw [if_neg c20] at H
           have c20b0:(a1 == 0)=false:=beq_eq_false_iff_ne.mpr c20
           have c20b1:(a1 != 0)=true:=bne_iff_ne.mpr c20
           simp only [Option.some.injEq,Prod.mk.injEq] at H
           obtain ⟨rfl,rfl⟩:=H
           obtain ⟨ASz21_0,cSz21_0,HGz21,hgz21,HSz21_0⟩:=HI0.out
           have hcz21_0:=cellS66_0 HGz21
           have hcz21_1:=cellS66_1 HGz21
           have hfz21_1:=blk_frozen HGz21 1
           clear HGz21 hgz21
           have p105:0≤((ji14):Int):=of_decide_eq_true (by first|(with_reducible assumption)|assumption)
           have q105:(ji14) < (s0_0.length:Int):=of_decide_eq_true (by first|(with_reducible assumption)|assumption)
           obtain ⟨ad105,e105,hx105_0⟩:=Kd.at_int HSz21_0 (ji14) p105 q105
           cases e105
           replace hx105_0:=pw_cell_below HB.out hx105_0
           replace p105:=eq_true p105
           replace q105:=eq_true q105
           have p106:0≤((ji17):Int):=of_decide_eq_true (by first|(with_reducible assumption)|assumption)
           have q106:(ji17) < (s0_0.length:Int):=of_decide_eq_true (by first|(with_reducible assumption)|assumption)
           obtain ⟨ad106,e106,hx106_0⟩:=Kd.at_int HSz21_0 (ji17) p106 q106
           obtain rfl:ad105=ad106:=(by injection e106)
           replace hx106_0:=pw_cell_below HB.out hx106_0
           replace p106:=eq_true p106
           replace q106:=eq_true q106
           go_wp2
           repeat (go_quiet (fail);try go_wp2)
           go_ret
           exact ⟨by first|rfl|(simp [errW_none,errW_some] <;> rfl)|(simp only [← hji14,← hji17];first|rfl|(simp [errW_none,errW_some] <;> rfl))|(simp [*,errW_none,errW_some] <;> rfl),by repeat (first|(with_reducible first|exact HI0.out|apply IsS66.alloc|apply IsS66.drewN|apply IsS66.drew|apply IsS66.set_1)|exact HI0.out),by repeat (first|exact gB HB|refine below_set ?_ (IsS66.ge HI0.out)),by repeat (first|exact gW HK|apply KeepBut.set_)⟩
         ·rw [if_neg c19] at H
          exact absurd H (by simp)
        ·rw [if_neg c18] at H
         exact absurd H (by simp)
       ·rw [if_neg c16] at H
        exact absurd H (by simp)
      ·rw [if_neg c15] at H
       exact absurd H (by simp)
end Go.Proofs.Ytdhdfmmefghijaa.P
namespace Go.Proofs.Ytdhdfmmefghijaa.P
open Go.RowKit Go.Proofs.YtdhdfmmefghijaaW.PrintWords Go.Proofs.YtdhdfmmefghijaaW.PrintLast Go.Proofs.YtdhdfmmefghijaaW.PrintMore
attribute [local go_sem] max2_int min2_int max_two min_two max_three min_three max_four min_four
set_option linter.unusedVariables false
set_option linter.unusedSimpArgs false
def spec_l15Rd_of.f (k:Nat) (s0_0:List Int) (s0_1:Int) (l1:List ByteArray):Option (ByteArray × Int):=(spec_l15Rd_pick.f k s0_0 s0_1 (l1.length:Int)).bind fun bt107=>(if 0≤bt107.1 then (if bt107.1 < (l1.length:Int) then (some (rdOf ByteArray.empty l1 bt107.1,bt107.2)) else (none)) else (none))
set_option maxHeartbeats 8000000 in
set_option maxRecDepth 100000 in
theorem spec_l15Rd_of.calls (k:Nat) (g:Nat) (s0_0:List Int) (s0_1:Int) (A1:Option Addr) (c1:Nat) (l1:List ByteArray) (r1:ByteArray) (r2:Int) (w0 w:World) (hI:IsS66 w0 w g s0_0 s0_1) (hB:Below w0.heap.size w0 w) (hr1:Kd.C Kd.string w A1 l1.length l1) (hc1:l1.length≤c1) (hf1:∀ ad,A1=some ad→0 < l1.length→ad.block ≠ g) (h:spec_l15Rd_of.f k s0_0 s0_1 l1=some (r1,r2)) :
  Calls Try.prog 65 #[.pointer (some ⟨g,0,none⟩),.slice A1 l1.length c1] w fun e w'=>e=.returned (.string r1)∧IsS66 w0 w' g s0_0 r2∧Below w0.heap.size w0 w'∧KeepBut w w' g none:=by
 have HR1:=Aside0.mk hr1
 have HC1:=Aside0.mk hc1
 clear hr1 hc1
 have HI0:=Aside0.mk hI
 have HK:=Aside0.mk (KeepBut.refl w g none)
 have HL:=Aside0.mk hB.size
 clear hI
 have HW0:=Aside0.mk hB.size
 have HB:=Aside0.mk hB
 clear hB
 have H:((spec_l15Rd_pick.f k s0_0 s0_1 (l1.length:Int)).bind fun bt107=>(if 0≤bt107.1 then (if bt107.1 < (l1.length:Int) then (some (rdOf ByteArray.empty l1 bt107.1,bt107.2)) else (none)) else (none)))=some (r1,r2):=h
 clear h
 replace H:=Option.bind_eq_some_iff.mp H
 obtain ⟨⟨t107,t108⟩,A30,H⟩:=H
 replace H:(if 0≤t107 then (if t107 < (l1.length:Int) then (some (rdOf ByteArray.empty l1 t107,t108)) else (none)) else (none))=some (r1,r2):=H
 have A3:=Aside0.mk A30
 clear A30
 by_cases c4:0≤t107
 ·rw [if_pos c4] at H
  have c4b0:decide (0≤t107)=true:=decide_eq_true c4
  clear c4
  by_cases c5:t107 < (l1.length:Int)
  ·rw [if_pos c5] at H
   have c5b0:decide (t107 < (l1.length:Int))=true:=decide_eq_true c5
   clear c5
   simp only [Option.some.injEq,Prod.mk.injEq] at H
   obtain ⟨rfl,rfl⟩:=H
   go_enter Try.func65,Try.ntmps65
   go_wp2_with (first|((with_reducible refine gate_callee (f:=55) rfl ?_);refine goesL_ (some 9) rfl rfl Try.func55 (by kernel_rfl) rfl #[.pointer (some ⟨g,0,none⟩),.int .i64 (l1.length:Int)] rfl (by (try simp only [List.map_toArray,List.map_cons,List.map_nil]);first|done|rfl|(simp only [List.length_drop,List.length_take];rfl)) ?_;(with_reducible refine (spec_l15Rd_pick.calls k g s0_0 s0_1 (l1.length:Int) t107 t108 w0 _ ?side1 ?side2 A3.out).mono ?_);(case side1=>repeat (first|(with_reducible first|exact HI0.out|apply IsS66.alloc|apply IsS66.drewN|apply IsS66.drew|apply IsS66.set_1)|exact HI0.out));(case side2=>repeat (first|(with_reducible first|exact HB.out|apply below_alloc|apply pw_below_drewN|apply below_drew1|refine below_set ?_ (IsS66.ge HI0.out))|exact HB.out));rintro e w6 ⟨rfl,hi,hb,hk⟩;refine ⟨_,rfl,?_⟩;have n0_:=Aside0.mk (KeepBut.trans (by repeat (first|(with_reducible first|exact HK.out|apply KeepBut.set_|apply keep_drewN|apply keep_drew|apply keep_alloc)|exact HK.out)) hk (.inl rfl));have n1_:=Aside0.mk (hb);have n2_:=Aside0.mk (hi);clear HK;clear HB;clear HI0;have HK:=n0_;have HB:=n1_;have HI0:=n2_;clear n0_ n1_ n2_;(try clear hb);(try clear hb2);(try clear hk);(try clear hi);have p109:0≤(t107:Int):=of_decide_eq_true (by first|(with_reducible assumption)|assumption);have q109:t107 < (l1.length:Int):=of_decide_eq_true (by first|(with_reducible assumption)|assumption);obtain ⟨ad109,e109,hx109_0⟩:=Kd.at_string HR1.out t107 p109 q109;cases e109;replace hx109_0:=keep_cell HK.out hx109_0 (by first|(rw [add_block];exact hf1 _ rfl (by omega))|exact hf1 _ rfl (by omega)|exact hf1 ad109 rfl (by omega));replace p109:=eq_true p109;replace q109:=eq_true q109))
   go_ret
   exact ⟨by first|rfl|(simp [errW_none,errW_some] <;> rfl)|(simp [*,errW_none,errW_some] <;> rfl),by repeat (first|(with_reducible first|exact HI0.out|apply IsS66.alloc|apply IsS66.drewN|apply IsS66.drew|apply IsS66.set_1)|exact HI0.out),by repeat (first|(with_reducible first|exact HB.out|apply below_alloc|apply pw_below_drewN|apply below_drew1|refine below_set ?_ (IsS66.ge HI0.out))|exact HB.out),by repeat (first|(with_reducible first|exact HK.out|apply KeepBut.set_|apply keep_drewN|apply keep_drew|apply keep_alloc)|exact HK.out)⟩
  ·rw [if_neg c5] at H
   exact absurd H (by simp)
 ·rw [if_neg c4] at H
  exact absurd H (by simp)
end Go.Proofs.Ytdhdfmmefghijaa.P
namespace Go.Proofs.Ytdhdfmmefghijaa.P
open Go.RowKit Go.Proofs.YtdhdfmmefghijaaW.PrintWords Go.Proofs.YtdhdfmmefghijaaW.PrintLast Go.Proofs.YtdhdfmmefghijaaW.PrintMore
attribute [local go_sem] max2_int min2_int max_two min_two max_three min_three max_four min_four
set_option linter.unusedVariables false
set_option linter.unusedSimpArgs false
def spec_l1Bend.j0:Nat→ByteArray→List ByteArray→Bool→List Int→Int→Option (ByteArray × Int)
 | 0,_,_,_,_,_=>none
 | k+1,x1,x2,x15,x1000,x1001=>if x15=true then (some (x1,x1001)) else ((spec_l15Rd_pick.f k x1000 x1001 (x1.size:Int)).bind fun bt112=>(if 0≤bt112.1 then (if bt112.1≤(x1.size:Int) then ((spec_l15Rd_of.f k x1000 bt112.2 x2).bind fun bt114=>(if (x1.extract 0 (bt112.1:Int).toNat).size+bt114.1.size≤9223372036854775807 then ((spec_l15Rd_pick.f k x1000 bt114.2 2).bind fun bt116=>(if 0≤(wrap64 (bt112.1+bt116.1)) then (if (wrap64 (bt112.1+bt116.1))≤(x1.size:Int) then (if ((x1.extract 0 (bt112.1:Int).toNat)++bt114.1).size+(x1.extract ((wrap64 (bt112.1+bt116.1)):Int).toNat x1.size).size≤9223372036854775807 then (some (((x1.extract 0 (bt112.1:Int).toNat)++bt114.1)++(x1.extract ((wrap64 (bt112.1+bt116.1)):Int).toNat x1.size),bt116.2)) else (none)) else (none)) else (none))) else (none))) else (none)) else (none)))
def spec_l1Bend.f (k:Nat) (s0_0:List Int) (s0_1:Int) (a1:ByteArray) (l2:List ByteArray):Option (ByteArray × Int):=if (a1.size:Int)=0 then (spec_l1Bend.j0 k a1 l2 true s0_0 s0_1) else ((spec_l15Rd_pick.f k s0_0 s0_1 2).bind fun bt110=>(spec_l1Bend.j0 k a1 l2 (bt110.1 == 0) s0_0 bt110.2))
def spec_l1Bend.T4:Bool × List (List Nat × List Nat):=(true,[([],[]),([],[]),([0,1],[0,1]),([],[]),([],[]),([3,4],[3,4]),([2,5],[2,5]),([],[]),([],[]),([],[]),([9,5],[9]),([8,10],[8,10]),([7,11],[7,11]),([6,12],[6,12]),([13,10,0,1,2,3,4,5,6,7,8,9,10,11,12,13],[13])])
def spec_l1Bend.B4:List Nat:=[0,0,3,0,0,24,63,0,0,0,568,1848,4024,8191,16383]
theorem spec_l1Bend.tab4:rtab .any (opsOf Try.f45 4)=spec_l1Bend.T4:=by kernel_rfl
theorem spec_l1Bend.bits4:waitsOk spec_l1Bend.T4.2 spec_l1Bend.B4=true:=by kernel_rfl
set_option maxHeartbeats 8000000 in
set_option maxRecDepth 100000 in
theorem spec_l1Bend.calls (k:Nat) (g:Nat) (s0_0:List Int) (s0_1:Int) (a1:ByteArray) (A2:Option Addr) (c2:Nat) (l2:List ByteArray) (r1:ByteArray) (r2:Int) (w0 w:World) (hI:IsS66 w0 w g s0_0 s0_1) (hB:Below w0.heap.size w0 w) (hr2:Kd.C Kd.string w A2 l2.length l2) (hc2:l2.length≤c2) (hf2:∀ ad,A2=some ad→0 < l2.length→ad.block ≠ g) (h:spec_l1Bend.f k s0_0 s0_1 a1 l2=some (r1,r2)) :
  Calls Try.prog 45 #[.pointer (some ⟨g,0,none⟩),.string a1,.slice A2 l2.length c2] w fun e w'=>e=.returned (.string r1)∧IsS66 w0 w' g s0_0 r2∧Below w0.heap.size w0 w'∧KeepBut w w' g none:=by
 have HR2:=Aside0.mk hr2
 have HC2:=Aside0.mk hc2
 clear hr2 hc2
 have HI0:=Aside0.mk hI
 have HK:=Aside0.mk (KeepBut.refl w g none)
 have HL:=Aside0.mk hB.size
 clear hI
 have HW0:=Aside0.mk hB.size
 have HB:=Aside0.mk hB
 clear hB
 have H:(if (a1.size:Int)=0 then (spec_l1Bend.j0 k a1 l2 true s0_0 s0_1) else ((spec_l15Rd_pick.f k s0_0 s0_1 2).bind fun bt110=>(spec_l1Bend.j0 k a1 l2 (bt110.1 == 0) s0_0 bt110.2)))=some (r1,r2):=h
 clear h
 have HC4:=Aside0.mk H
 clear H
 go_enter Try.func45,Try.ntmps45
 go_upto_region 1 with (fail)
 go_cut [15] (fun v15 wc=>∃ (kq:Nat) (x15_3:Bool) (x1001_3:Int),v15=.bool x15_3∧Aside0 (spec_l1Bend.j0 kq a1 l2 x15_3 s0_0 x1001_3=some (r1,r2))∧Aside0 (kq≤k)∧Aside0 (IsS66 w0 wc g s0_0 x1001_3)∧Aside0 (KeepBut w wc g none)∧Aside0 (Below w0.heap.size w0 wc))
 case first =>
  have H:=HC4.out
  clear HC4
  by_cases c5:(a1.size:Int)=0
  ·rw [if_pos c5] at H
   have c5b0:((a1.size:Int) == 0)=true:=beq_iff_eq.mpr c5
   have c5b1:((a1.size:Int) != 0)=false:=bne_eq_false_iff_eq.mpr c5
   clear c5
   (first|rw [c5b0]|(simp only [i64_w,i32_w];rw [c5b0])|skip)
   have H':=Aside0.mk H
   clear H
   go_wp2
   go_meet
   case rel=>exact ⟨_,(true),(s0_1),(by first|rfl|(simp;done)|(simp [*];done)),H',⟨by first|omega|exact Nat.le_refl _⟩,⟨by repeat (first|(with_reducible first|exact HI0.out|apply IsS66.alloc|apply IsS66.drewN|apply IsS66.drew|apply IsS66.set_1)|exact HI0.out)⟩,⟨by repeat (first|exact gW HK|apply KeepBut.set_)⟩,⟨by repeat (first|exact gB HB|refine below_set ?_ (IsS66.ge HI0.out))⟩⟩
  ·rw [if_neg c5] at H
   have c5b0:((a1.size:Int) == 0)=false:=beq_eq_false_iff_ne.mpr c5
   have c5b1:((a1.size:Int) != 0)=true:=bne_iff_ne.mpr c5
   (first|rw [c5b0]|(simp only [i64_w,i32_w];rw [c5b0])|skip)
   replace H:=Option.bind_eq_some_iff.mp H
   obtain ⟨⟨t110,t111⟩,A60,H⟩:=H
   replace H:(spec_l1Bend.j0 k a1 l2 (t110 == 0) s0_0 t111)=some (r1,r2):=H
   have A6:=Aside0.mk A60
   clear A60
   have H':=Aside0.mk H
   clear H
   go_wp2_with (first|(go_at_call 55;(with_reducible refine (spec_l15Rd_pick.calls k g s0_0 s0_1 2 t110 t111 w0 _ ?side1 ?side2 A6.out).mono ?_);(case side1=>repeat (first|(with_reducible first|exact HI0.out|apply IsS66.alloc|apply IsS66.drewN|apply IsS66.drew|apply IsS66.set_1)|exact HI0.out));(case side2=>repeat (first|exact gB HB|refine below_set ?_ (IsS66.ge HI0.out)));rintro e w7 ⟨rfl,hi,hb,hk⟩;have n0_:=Aside0.mk (KeepBut.trans (by repeat (first|exact gW HK|apply KeepBut.set_)) hk (.inl rfl));have n1_:=Aside0.mk (hb);have n2_:=Aside0.mk (hi);clear HK;clear HB;clear HI0;have HK:=n0_;have HB:=n1_;have HI0:=n2_;clear n0_ n1_ n2_;(try clear hb);(try clear hb2);(try clear hk);(try clear hi)))
   go_meet
   case rel=>exact ⟨_,((t110 == 0)),(t111),(by first|rfl|(simp;done)|(simp [*];done)),H',⟨by first|omega|exact Nat.le_refl _⟩,⟨by repeat (first|(with_reducible first|exact HI0.out|apply IsS66.alloc|apply IsS66.drewN|apply IsS66.drew|apply IsS66.set_1)|exact HI0.out)⟩,⟨by repeat (first|exact gW HK|apply KeepBut.set_)⟩,⟨by repeat (first|exact gB HB|refine below_set ?_ (IsS66.ge HI0.out))⟩⟩
 case rest =>
  clear HC4
  try clear c2 p2 c4 c5 c5b0 c5b1
  obtain ⟨kq,x15_3,x1001_3,rfl,HA,HJ3,HI0,HK,HB⟩:=hcut
  cases kq with
  | zero=>exact absurd HA.out (by simp [spec_l1Bend.j0])
  | succ kj3 =>
   have H:=HA.out
   clear HA
   simp only [spec_l1Bend.j0] at H
   by_cases c8:x15_3=true
   ·subst c8
    have H1:(some (a1,x1001_3))=some (r1,r2):=by rw [if_pos rfl] at H;exact H
    clear H
    have H:=H1
    clear H1
    simp only [Option.some.injEq,Prod.mk.injEq] at H
    obtain ⟨rfl,rfl⟩:=H
    go_wp2
    go_ret
    exact ⟨by first|rfl|(simp [errW_none,errW_some] <;> rfl)|(simp [*,errW_none,errW_some] <;> rfl),by repeat (first|(with_reducible first|exact HI0.out|apply IsS66.alloc|apply IsS66.drewN|apply IsS66.drew|apply IsS66.set_1)|exact HI0.out),by repeat (first|exact gB HB|refine below_set ?_ (IsS66.ge HI0.out)),by repeat (first|exact gW HK|apply KeepBut.set_)⟩
   ·replace c8:=Bool.eq_false_iff.mpr c8
    subst c8
    have H1:((spec_l15Rd_pick.f kj3 s0_0 x1001_3 (a1.size:Int)).bind fun bt112=>(if 0≤bt112.1 then (if bt112.1≤(a1.size:Int) then ((spec_l15Rd_of.f kj3 s0_0 bt112.2 l2).bind fun bt114=>(if (a1.extract 0 (bt112.1:Int).toNat).size+bt114.1.size≤9223372036854775807 then ((spec_l15Rd_pick.f kj3 s0_0 bt114.2 2).bind fun bt116=>(if 0≤(wrap64 (bt112.1+bt116.1)) then (if (wrap64 (bt112.1+bt116.1))≤(a1.size:Int) then (if ((a1.extract 0 (bt112.1:Int).toNat)++bt114.1).size+(a1.extract ((wrap64 (bt112.1+bt116.1)):Int).toNat a1.size).size≤9223372036854775807 then (some (((a1.extract 0 (bt112.1:Int).toNat)++bt114.1)++(a1.extract ((wrap64 (bt112.1+bt116.1)):Int).toNat a1.size),bt116.2)) else (none)) else (none)) else (none))) else (none))) else (none)) else (none)))=some (r1,r2):=by rw [if_neg (show ¬ (false=true) by decide)] at H;exact H
    clear H
    have H:=H1
    clear H1
    replace H:=Option.bind_eq_some_iff.mp H
    obtain ⟨⟨t112,t113⟩,A90,H⟩:=H
    replace H:(if 0≤t112 then (if t112≤(a1.size:Int) then ((spec_l15Rd_of.f kj3 s0_0 t113 l2).bind fun bt114=>(if (a1.extract 0 (t112:Int).toNat).size+bt114.1.size≤9223372036854775807 then ((spec_l15Rd_pick.f kj3 s0_0 bt114.2 2).bind fun bt116=>(if 0≤(wrap64 (t112+bt116.1)) then (if (wrap64 (t112+bt116.1))≤(a1.size:Int) then (if ((a1.extract 0 (t112:Int).toNat)++bt114.1).size+(a1.extract ((wrap64 (t112+bt116.1)):Int).toNat a1.size).size≤9223372036854775807 then (some (((a1.extract 0 (t112:Int).toNat)++bt114.1)++(a1.extract ((wrap64 (t112+bt116.1)):Int).toNat a1.size),bt116.2)) else (none)) else (none)) else (none))) else (none))) else (none)) else (none))=some (r1,r2):=H
    have A9:=Aside0.mk A90
    clear A90
    by_cases c10:0≤t112
    ·rw [if_pos c10] at H
     have c10b0:=eq_true c10
     have c10b1:decide (0≤t112)=true:=decide_eq_true c10
     clear c10
     by_cases c11:t112≤(a1.size:Int)
     ·rw [if_pos c11] at H
      have c11b0:=eq_true c11
      have c11b1:decide (t112≤(a1.size:Int))=true:=decide_eq_true c11
      clear c11
      replace H:=Option.bind_eq_some_iff.mp H
      obtain ⟨⟨t114,t115⟩,A120,H⟩:=H
      replace H:(if (a1.extract 0 (t112:Int).toNat).size+t114.size≤9223372036854775807 then ((spec_l15Rd_pick.f kj3 s0_0 t115 2).bind fun bt116=>(if 0≤(wrap64 (t112+bt116.1)) then (if (wrap64 (t112+bt116.1))≤(a1.size:Int) then (if ((a1.extract 0 (t112:Int).toNat)++t114).size+(a1.extract ((wrap64 (t112+bt116.1)):Int).toNat a1.size).size≤9223372036854775807 then (some (((a1.extract 0 (t112:Int).toNat)++t114)++(a1.extract ((wrap64 (t112+bt116.1)):Int).toNat a1.size),bt116.2)) else (none)) else (none)) else (none))) else (none))=some (r1,r2):=H
      have A12:=Aside0.mk A120
      clear A120
      by_cases c13:(a1.extract 0 (t112:Int).toNat).size+t114.size≤9223372036854775807
      ·rw [if_pos c13] at H
       have c13b0:=eq_true c13
       have c13b1:decide ((a1.extract 0 (t112:Int).toNat).size+t114.size≤9223372036854775807)=true:=decide_eq_true c13
       try (have c13b4:=c13;(conv at c13b4=>(lhs;simp));have c13b5:=eq_false (Nat.not_lt.2 c13b4))
       try (have c13b6:=c13;(conv at c13b6=>(lhs;simp [go_sem]));have c13b7:=eq_false (Nat.not_lt.2 c13b6))
       try (have c13b8:=c13;(conv at c13b8=>(lhs;simp [go_sem, *]));have c13b9:=eq_false (Nat.not_lt.2 c13b8))
       try have c13b2:(9223372036854775807 < (a1.extract 0 (t112:Int).toNat).size+t114.size)=False:=eq_false (Nat.not_lt.2 c13)
       replace H:=Option.bind_eq_some_iff.mp H
       obtain ⟨⟨t116,t117⟩,A140,H⟩:=H
       replace H:(if 0≤(wrap64 (t112+t116)) then (if (wrap64 (t112+t116))≤(a1.size:Int) then (if ((a1.extract 0 (t112:Int).toNat)++t114).size+(a1.extract ((wrap64 (t112+t116)):Int).toNat a1.size).size≤9223372036854775807 then (some (((a1.extract 0 (t112:Int).toNat)++t114)++(a1.extract ((wrap64 (t112+t116)):Int).toNat a1.size),t117)) else (none)) else (none)) else (none))=some (r1,r2):=H
       have A14:=Aside0.mk A140
       clear A140
       obtain ⟨ji15,hji15⟩:∃ j_:Int,(wrap64 (t112+t116))=j_:=⟨_,rfl⟩
       replace H:(if 0≤(ji15) then (if (ji15)≤(a1.size:Int) then (if ((a1.extract 0 (t112:Int).toNat)++t114).size+(a1.extract ((ji15):Int).toNat a1.size).size≤9223372036854775807 then (some (((a1.extract 0 (t112:Int).toNat)++t114)++(a1.extract ((ji15):Int).toNat a1.size),t117)) else (none)) else (none)) else (none))=some (r1,r2):=by first|(rw [hji15] at H;exact H)|(simp only [hji15] at H ⊢;exact H)
       (try rw [hji15] at A9)
       (try rw [hji15] at A12)
       (try rw [hji15] at A14)
       have hji15w:(IntKind.i64.wrap (t112+t116))=ji15:=(i64_w _).trans hji15
       by_cases c16:0≤(ji15)
       ·rw [if_pos c16] at H
        have c16b0:=eq_true c16
        have c16b1:decide (0≤(ji15))=true:=decide_eq_true c16
        clear c16
        by_cases c17:(ji15)≤(a1.size:Int)
        ·rw [if_pos c17] at H
         have c17b0:=eq_true c17
         have c17b1:decide ((ji15)≤(a1.size:Int))=true:=decide_eq_true c17
         clear c17
         by_cases c18:((a1.extract 0 (t112:Int).toNat)++t114).size+(a1.extract ((ji15):Int).toNat a1.size).size≤9223372036854775807
         ·rw [if_pos c18] at H
          have c18b0:=eq_true c18
          have c18b1:decide (((a1.extract 0 (t112:Int).toNat)++t114).size+(a1.extract ((ji15):Int).toNat a1.size).size≤9223372036854775807)=true:=decide_eq_true c18
          try (have c18b4:=c18;(conv at c18b4=>(lhs;simp));have c18b5:=eq_false (Nat.not_lt.2 c18b4))
          try (have c18b6:=c18;(conv at c18b6=>(lhs;simp [go_sem]));have c18b7:=eq_false (Nat.not_lt.2 c18b6))
          try (have c18b8:=c18;(conv at c18b8=>(lhs;simp [go_sem, *]));have c18b9:=eq_false (Nat.not_lt.2 c18b8))
          try have c18b2:(9223372036854775807 < ((a1.extract 0 (t112:Int).toNat)++t114).size+(a1.extract ((ji15):Int).toNat a1.size).size)=False:=eq_false (Nat.not_lt.2 c18)
          simp only [Option.some.injEq,Prod.mk.injEq] at H
          obtain ⟨rfl,rfl⟩:=H
          try go_wp2_with (first|((with_reducible refine gate_callee (f:=55) rfl ?_);refine goesL_ (some 20) rfl rfl Try.func55 (by kernel_rfl) rfl #[.pointer (some ⟨g,0,none⟩),.int .i64 (a1.size:Int)] rfl (by (try simp only [List.map_toArray,List.map_cons,List.map_nil]);first|done|rfl|(simp only [List.length_drop,List.length_take];rfl)) ?_;(with_reducible refine (spec_l15Rd_pick.calls kj3 g s0_0 x1001_3 (a1.size:Int) t112 t113 w0 _ ?side1 ?side2 A9.out).mono ?_);(case side1=>repeat (first|(with_reducible first|exact HI0.out|apply IsS66.alloc|apply IsS66.drewN|apply IsS66.drew|apply IsS66.set_1)|exact HI0.out));(case side2=>repeat (first|exact gB HB|refine below_set ?_ (IsS66.ge HI0.out)));rintro e w19 ⟨rfl,hi,hb,hk⟩;refine ⟨_,rfl,?_⟩;have n0_:=Aside0.mk (KeepBut.trans (by repeat (first|exact gW HK|apply KeepBut.set_)) hk (.inl rfl));have n1_:=Aside0.mk (hb);have n2_:=Aside0.mk (hi);clear HK;clear HB;clear HI0;have HK:=n0_;have HB:=n1_;have HI0:=n2_;clear n0_ n1_ n2_;(try clear hb);(try clear hb2);(try clear hk);(try clear hi)))
          have n0_:=Aside0.mk (IsS66.drew HI0.out)
          have n1_:=Aside0.mk (keep_drew HK.out)
          have n2_:=Aside0.mk (below_drew1 HB.out)
          clear HI0
          clear HK
          clear HB
          have HI0:=n0_
          have HK:=n1_
          have HB:=n2_
          clear n0_ n1_ n2_
          refine start_ (n:=15) (S:=fun w'=>True) (ds:=[]) #[false,false,false,false,false,false,false,false,false,false,false,false,false,false,false] (by kernel_rfl) rfl rfl trivial (fun hHeld=>?_);refine with_tabW spec_l1Bend.tab4 spec_l1Bend.bits4 (fun HT_ HW_=>?_)
          generalize w19.drew=w20 at HI0 HK HB hHeld ⊢
          refine pure_ (i:=0) (N:=some 21) (v:=?_) (a':=?_) #[true,false,false,false,false,false,false,false,false,false,false,false,false,false,false] rfl rfl (any_of HT_.out (by kernel_rfl)) (fun _ _ _ h=>h) (Or.inl ⟨by rfl,?_⟩) ?_ ?_
          rotate_left
          ·intro w'
           go_simp
           with_reducible rfl
          rotate_left
          ·simp only [Act.put,List.setIfInBounds_toArray,List.set_cons_zero,List.set_cons_succ,i64_w,i32_w]
           rfl
          refine pure_ (i:=1) (N:=some 22) (v:=?_) (a':=?_) #[true,true,false,false,false,false,false,false,false,false,false,false,false,false,false] rfl rfl (any_of HT_.out (by kernel_rfl)) (fun _ _ _ h=>h) (Or.inl ⟨by rfl,?_⟩) ?_ ?_
          rotate_left
          ·intro w'
           go_simp
           with_reducible rfl
          rotate_left
          ·simp only [Act.put,List.setIfInBounds_toArray,List.set_cons_zero,List.set_cons_succ,i64_w,i32_w]
           rfl
          refine pure_ (i:=2) (N:=some 23) (v:=?_) (a':=?_) #[true,true,true,false,false,false,false,false,false,false,false,false,false,false,false] rfl rfl (any_of HT_.out (by kernel_rfl)) (fun _ _ _ h=>h) (Or.inl ⟨by rfl,?_⟩) ?_ ?_
          rotate_left
          ·intro w'
           go_simp
           with_reducible rfl
          rotate_left
          ·simp only [Act.put,List.setIfInBounds_toArray,List.set_cons_zero,List.set_cons_succ,i64_w,i32_w]
           rfl
          refine pure_ (i:=3) (N:=some 24) (v:=?_) (a':=?_) #[true,true,true,true,false,false,false,false,false,false,false,false,false,false,false] rfl rfl (any_of HT_.out (by kernel_rfl)) (fun _ _ _ h=>h) (Or.inl ⟨by rfl,?_⟩) ?_ ?_
          rotate_left
          ·intro w'
           go_simp
           with_reducible rfl
          rotate_left
          ·simp only [Act.put,List.setIfInBounds_toArray,List.set_cons_zero,List.set_cons_succ,i64_w,i32_w]
           rfl
          refine pure_ (i:=4) (N:=some 25) (v:=?_) (a':=?_) #[true,true,true,true,true,false,false,false,false,false,false,false,false,false,false] rfl rfl (any_of HT_.out (by kernel_rfl)) (fun _ _ _ h=>h) (Or.inl ⟨by rfl,?_⟩) ?_ ?_
          rotate_left
          ·intro w'
           go_simp
           with_reducible rfl
          rotate_left
          ·simp only [Act.put,List.setIfInBounds_toArray,List.set_cons_zero,List.set_cons_succ,i64_w,i32_w]
           rfl
          refine pure_ (i:=7) (N:=some 28) (v:=?_) (a':=?_) #[true,true,true,true,true,false,false,true,false,false,false,false,false,false,false] rfl rfl (any_of HT_.out (by kernel_rfl)) (fun _ _ _ h=>h) (Or.inl ⟨by rfl,?_⟩) ?_ ?_
          rotate_left
          ·intro w'
           go_simp
           with_reducible rfl
          rotate_left
          ·simp only [Act.put,List.setIfInBounds_toArray,List.set_cons_zero,List.set_cons_succ,i64_w,i32_w]
           rfl
          refine pure_ (i:=8) (N:=some 29) (v:=?_) (a':=?_) #[true,true,true,true,true,false,false,true,true,false,false,false,false,false,false] rfl rfl (any_of HT_.out (by kernel_rfl)) (fun _ _ _ h=>h) (Or.inl ⟨by rfl,?_⟩) ?_ ?_
          rotate_left
          ·intro w'
           go_simp
           with_reducible rfl
          rotate_left
          ·simp only [Act.put,List.setIfInBounds_toArray,List.set_cons_zero,List.set_cons_succ,i64_w,i32_w]
           rfl
          refine pure_ (i:=9) (N:=some 30) (v:=?_) (a':=?_) #[true,true,true,true,true,false,false,true,true,true,false,false,false,false,false] rfl rfl (any_of HT_.out (by kernel_rfl)) (fun _ _ _ h=>h) (Or.inl ⟨by rfl,?_⟩) ?_ ?_
          rotate_left
          ·intro w'
           go_simp
           with_reducible rfl
          rotate_left
          ·simp only [Act.put,List.setIfInBounds_toArray,List.set_cons_zero,List.set_cons_succ,i64_w,i32_w]
           rfl
          refine one_ (i:=5) (N:=some 26) #[true,true,true,true,true,true,false,true,true,true,false,false,false,false,false] rfl rfl (one_of HT_.out (by kernel_rfl)) (by decide) (fun K hK=>?_)
          refine goes_ Try.func65 (by kernel_rfl) rfl #[.pointer (some ⟨g,0,none⟩),.slice A2 l2.length c2] (by rfl) rfl rfl (by (try simp only [List.map_toArray,List.map_cons,List.map_nil]);first|done|rfl|(simp only [List.length_drop,List.length_take];rfl)) ?_
          with_reducible refine (spec_l15Rd_of.calls kj3 g s0_0 t113 _ _ l2 t114 t115 w0 _ ?side1 ?side2 ?side3 ?side4 ?side5 A12.out).mono ?_
          (case side1=>repeat (first|(with_reducible first|exact HI0.out|apply IsS66.alloc|apply IsS66.drewN|apply IsS66.drew|apply IsS66.set_1)|exact HI0.out))
          (case side2=>repeat (first|exact gB HB|refine below_set ?_ (IsS66.ge HI0.out)))
          (case side3=>exact Kd.C_keep (⟨#[]⟩:ByteArray) HR2.out (by repeat (first|exact gW HK|apply KeepBut.set_)) hf2)
          (case side4=>exact HC2.out)
          (case side5=>exact hf2)
          rintro e w21 ⟨rfl,hi,hb,hk⟩
          refine ⟨_,rfl,?_⟩
          have n0_:=Aside0.mk (KeepBut.trans (by repeat (first|exact gW HK|apply KeepBut.set_)) hk (.inl rfl))
          have n1_:=Aside0.mk (hb)
          have n2_:=Aside0.mk (hi)
          clear HK
          clear HB
          clear HI0
          have HK:=n0_
          have HB:=n1_
          have HI0:=n2_
          clear n0_ n1_ n2_
          (try clear hb)
          (try clear hb2)
          (try clear hk)
          (try clear hi)
          refine hK.out _ _ trivial (fun hHeld=>?_)
          clear hK K
          refine norm_ (a':=?_) ?_ ?_
          rotate_left
          ·show Act.put _ (some 26) _=_
           simp only [Act.put,List.setIfInBounds_toArray,List.set_cons_zero,List.set_cons_succ,i64_w,i32_w]
           rfl
          refine pure_ (i:=6) (N:=some 27) (v:=?_) (a':=?_) #[true,true,true,true,true,true,true,true,true,true,false,false,false,false,false] rfl rfl (any_of HT_.out (by kernel_rfl)) (fun _ _ _ h=>h) (Or.inl ⟨by rfl,?_⟩) ?_ ?_
          rotate_left
          ·intro w'
           go_simp
           with_reducible rfl
          rotate_left
          ·simp only [Act.put,List.setIfInBounds_toArray,List.set_cons_zero,List.set_cons_succ,i64_w,i32_w]
           rfl
          refine one_ (i:=10) (N:=some 31) #[true,true,true,true,true,true,true,true,true,true,true,false,false,false,false] rfl rfl (one_of HT_.out (by kernel_rfl)) (by decide) (fun K hK=>?_)
          refine goes_ Try.func55 (by kernel_rfl) rfl #[.pointer (some ⟨g,0,none⟩),.int .i64 2] (by rfl) rfl rfl (by (try simp only [List.map_toArray,List.map_cons,List.map_nil]);first|done|rfl|(simp only [List.length_drop,List.length_take];rfl)) ?_
          with_reducible refine (spec_l15Rd_pick.calls kj3 g s0_0 t115 2 t116 t117 w0 _ ?side1 ?side2 A14.out).mono ?_
          (case side1=>repeat (first|(with_reducible first|exact HI0.out|apply IsS66.alloc|apply IsS66.drewN|apply IsS66.drew|apply IsS66.set_1)|exact HI0.out))
          (case side2=>repeat (first|exact gB HB|refine below_set ?_ (IsS66.ge HI0.out)))
          rintro e w22 ⟨rfl,hi,hb,hk⟩
          refine ⟨_,rfl,?_⟩
          have n0_:=Aside0.mk (KeepBut.trans (by repeat (first|exact gW HK|apply KeepBut.set_)) hk (.inl rfl))
          have n1_:=Aside0.mk (hb)
          have n2_:=Aside0.mk (hi)
          clear HK
          clear HB
          clear HI0
          have HK:=n0_
          have HB:=n1_
          have HI0:=n2_
          clear n0_ n1_ n2_
          (try clear hb)
          (try clear hb2)
          (try clear hk)
          (try clear hi)
          refine hK.out _ _ trivial (fun hHeld=>?_)
          clear hK K
          refine norm_ (a':=?_) ?_ ?_
          rotate_left
          ·show Act.put _ (some 31) _=_
           simp only [Act.put,List.setIfInBounds_toArray,List.set_cons_zero,List.set_cons_succ,i64_w,i32_w]
           rfl
          refine pure_ (i:=11) (N:=some 32) (v:=?_) (a':=?_) #[true,true,true,true,true,true,true,true,true,true,true,true,false,false,false] rfl rfl (any_of HT_.out (by kernel_rfl)) (fun _ _ _ h=>h) (Or.inl ⟨by rfl,?_⟩) ?_ ?_
          rotate_left
          ·intro w'
           go_simp
           with_reducible rfl
          rotate_left
          ·simp only [Act.put,List.setIfInBounds_toArray,List.set_cons_zero,List.set_cons_succ,i64_w,i32_w]
           rfl
          refine pure_ (i:=12) (N:=some 33) (v:=?_) (a':=?_) #[true,true,true,true,true,true,true,true,true,true,true,true,true,false,false] rfl rfl (any_of HT_.out (by kernel_rfl)) (fun _ _ _ h=>h) (Or.inl ⟨by rfl,?_⟩) ?_ ?_
          rotate_left
          ·intro w'
           go_simp
           with_reducible rfl
          rotate_left
          ·simp only [Act.put,List.setIfInBounds_toArray,List.set_cons_zero,List.set_cons_succ,i64_w,i32_w]
           rfl
          refine pure_ (i:=13) (N:=some 34) (v:=?_) (a':=?_) #[true,true,true,true,true,true,true,true,true,true,true,true,true,true,false] rfl rfl (any_of HT_.out (by kernel_rfl)) (fun _ _ _ h=>h) (Or.inl ⟨by rfl,?_⟩) ?_ ?_
          rotate_left
          ·intro w'
           go_simp
           with_reducible rfl
          rotate_left
          ·simp only [Act.put,List.setIfInBounds_toArray,List.set_cons_zero,List.set_cons_succ,i64_w,i32_w]
           rfl
          refine pure_ (i:=14) (N:=some 6) (v:=?_) (a':=?_) #[true,true,true,true,true,true,true,true,true,true,true,true,true,true,true] rfl rfl (any_of HT_.out (by kernel_rfl)) (fun _ _ _ h=>h) (Or.inl ⟨by rfl,?_⟩) ?_ ?_
          rotate_left
          ·intro w'
           go_simp
           with_reducible rfl
          rotate_left
          ·simp only [Act.put,List.setIfInBounds_toArray,List.set_cons_zero,List.set_cons_succ,i64_w,i32_w]
           rfl
          refine done_ (done_of HT_.out (by kernel_rfl)) ?_
          try go_wp2
          go_ret
          exact ⟨by first|rfl|(simp [errW_none,errW_some] <;> rfl)|(simp only [← hji15];first|rfl|(simp [errW_none,errW_some] <;> rfl))|(simp [*,errW_none,errW_some] <;> rfl),by repeat (first|(with_reducible first|exact HI0.out|apply IsS66.alloc|apply IsS66.drewN|apply IsS66.drew|apply IsS66.set_1)|exact HI0.out),by repeat (first|exact gB HB|refine below_set ?_ (IsS66.ge HI0.out)),by repeat (first|exact gW HK|apply KeepBut.set_)⟩
         ·rw [if_neg c18] at H
          exact absurd H (by simp)
        ·rw [if_neg c17] at H
         exact absurd H (by simp)
       ·rw [if_neg c16] at H
        exact absurd H (by simp)
      ·rw [if_neg c13] at H
       exact absurd H (by simp)
     ·rw [if_neg c11] at H
      exact absurd H (by simp)
    ·rw [if_neg c10] at H
     exact absurd H (by simp)
end Go.Proofs.Ytdhdfmmefghijaa.P
namespace Go.Proofs.Ytdhdfmmefghijaa.P
open Go.RowKit Go.Proofs.YtdhdfmmefghijaaW.PrintWords Go.Proofs.YtdhdfmmefghijaaW.PrintLast Go.Proofs.YtdhdfmmefghijaaW.PrintMore
attribute [local go_sem] max2_int min2_int max_two min_two max_three min_three max_four min_four
set_option linter.unusedVariables false
set_option linter.unusedSimpArgs false
def spec_l15Rd_num.f (k:Nat) (s0_0:List Int) (s0_1:Int) (l1:List Int):Option (Int × Int):=(spec_l15Rd_pick.f k s0_0 s0_1 (l1.length:Int)).bind fun bt212=>(if 0≤bt212.1 then (if bt212.1 < (l1.length:Int) then (some (rd l1 bt212.1,bt212.2)) else (none)) else (none))
set_option maxHeartbeats 8000000 in
set_option maxRecDepth 100000 in
theorem spec_l15Rd_num.calls (k:Nat) (g:Nat) (s0_0:List Int) (s0_1:Int) (A1:Option Addr) (c1:Nat) (l1:List Int) (r1:Int) (r2:Int) (w0 w:World) (hI:IsS66 w0 w g s0_0 s0_1) (hB:Below w0.heap.size w0 w) (hr1:Kd.C (Kd.int .i64) w A1 l1.length l1) (hc1:l1.length≤c1) (hf1:∀ ad,A1=some ad→0 < l1.length→ad.block ≠ g) (h:spec_l15Rd_num.f k s0_0 s0_1 l1=some (r1,r2)) :
  Calls Try.prog 49 #[.pointer (some ⟨g,0,none⟩),.slice A1 l1.length c1] w fun e w'=>e=.returned (.int .i64 r1)∧IsS66 w0 w' g s0_0 r2∧Below w0.heap.size w0 w'∧KeepBut w w' g none:=by
 have HR1:=Aside0.mk hr1
 have HC1:=Aside0.mk hc1
 clear hr1 hc1
 have HI0:=Aside0.mk hI
 have HK:=Aside0.mk (KeepBut.refl w g none)
 have HL:=Aside0.mk hB.size
 clear hI
 have HW0:=Aside0.mk hB.size
 have HB:=Aside0.mk hB
 clear hB
 have H:((spec_l15Rd_pick.f k s0_0 s0_1 (l1.length:Int)).bind fun bt212=>(if 0≤bt212.1 then (if bt212.1 < (l1.length:Int) then (some (rd l1 bt212.1,bt212.2)) else (none)) else (none)))=some (r1,r2):=h
 clear h
 replace H:=Option.bind_eq_some_iff.mp H
 obtain ⟨⟨t212,t213⟩,A30,H⟩:=H
 replace H:(if 0≤t212 then (if t212 < (l1.length:Int) then (some (rd l1 t212,t213)) else (none)) else (none))=some (r1,r2):=H
 have A3:=Aside0.mk A30
 clear A30
 by_cases c4:0≤t212
 ·rw [if_pos c4] at H
  have c4b0:decide (0≤t212)=true:=decide_eq_true c4
  clear c4
  by_cases c5:t212 < (l1.length:Int)
  ·rw [if_pos c5] at H
   have c5b0:decide (t212 < (l1.length:Int))=true:=decide_eq_true c5
   clear c5
   simp only [Option.some.injEq,Prod.mk.injEq] at H
   obtain ⟨rfl,rfl⟩:=H
   go_enter Try.func49,Try.ntmps49
   go_wp2_with (first|((with_reducible refine gate_callee (f:=55) rfl ?_);refine goesL_ (some 9) rfl rfl Try.func55 (by kernel_rfl) rfl #[.pointer (some ⟨g,0,none⟩),.int .i64 (l1.length:Int)] rfl (by (try simp only [List.map_toArray,List.map_cons,List.map_nil]);first|done|rfl|(simp only [List.length_drop,List.length_take];rfl)) ?_;(with_reducible refine (spec_l15Rd_pick.calls k g s0_0 s0_1 (l1.length:Int) t212 t213 w0 _ ?side1 ?side2 A3.out).mono ?_);(case side1=>repeat (first|(with_reducible first|exact HI0.out|apply IsS66.alloc|apply IsS66.drewN|apply IsS66.drew|apply IsS66.set_1)|exact HI0.out));(case side2=>repeat (first|(with_reducible first|exact HB.out|apply below_alloc|apply pw_below_drewN|apply below_drew1|refine below_set ?_ (IsS66.ge HI0.out))|exact HB.out));rintro e w6 ⟨rfl,hi,hb,hk⟩;refine ⟨_,rfl,?_⟩;have n0_:=Aside0.mk (KeepBut.trans (by repeat (first|(with_reducible first|exact HK.out|apply KeepBut.set_|apply keep_drewN|apply keep_drew|apply keep_alloc)|exact HK.out)) hk (.inl rfl));have n1_:=Aside0.mk (hb);have n2_:=Aside0.mk (hi);clear HK;clear HB;clear HI0;have HK:=n0_;have HB:=n1_;have HI0:=n2_;clear n0_ n1_ n2_;(try clear hb);(try clear hb2);(try clear hk);(try clear hi);have p214:0≤(t212:Int):=of_decide_eq_true (by first|(with_reducible assumption)|assumption);have q214:t212 < (l1.length:Int):=of_decide_eq_true (by first|(with_reducible assumption)|assumption);obtain ⟨ad214,e214,hx214_0⟩:=Kd.at_int HR1.out t212 p214 q214;cases e214;replace hx214_0:=keep_cell HK.out hx214_0 (by first|(rw [add_block];exact hf1 _ rfl (by omega))|exact hf1 _ rfl (by omega)|exact hf1 ad214 rfl (by omega));replace p214:=eq_true p214;replace q214:=eq_true q214))
   go_ret
   exact ⟨by first|rfl|(simp [errW_none,errW_some] <;> rfl)|(simp [*,errW_none,errW_some] <;> rfl),by repeat (first|(with_reducible first|exact HI0.out|apply IsS66.alloc|apply IsS66.drewN|apply IsS66.drew|apply IsS66.set_1)|exact HI0.out),by repeat (first|(with_reducible first|exact HB.out|apply below_alloc|apply pw_below_drewN|apply below_drew1|refine below_set ?_ (IsS66.ge HI0.out))|exact HB.out),by repeat (first|(with_reducible first|exact HK.out|apply KeepBut.set_|apply keep_drewN|apply keep_drew|apply keep_alloc)|exact HK.out)⟩
  ·rw [if_neg c5] at H
   exact absurd H (by simp)
 ·rw [if_neg c4] at H
  exact absurd H (by simp)
end Go.Proofs.Ytdhdfmmefghijaa.P
