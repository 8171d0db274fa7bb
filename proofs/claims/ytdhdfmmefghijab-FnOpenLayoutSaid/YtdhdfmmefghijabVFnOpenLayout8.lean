/- CONTRACTS and lemmas: each contract says that a Go function of the program, called over the translation under the theorem's own hypotheses, returns what the Lean function beside it computes. -/
import Derived.Test.YtdhdfmmefghijabVFnOpenLayout7
namespace Go.Proofs.Ytdhdfmmefghijab.P
open Go.RowKit Go.Proofs.YtdhdfmmefghijabW.PrintWords Go.Proofs.YtdhdfmmefghijabW.PrintLast Go.Proofs.YtdhdfmmefghijabW.PrintMore
attribute [local go_sem] max2_int min2_int max_two min_two max_three min_three max_four min_four
set_option linter.unusedVariables false
set_option linter.unusedSimpArgs false
mutual
def impl_openRows.j0:Nat→Int→Bool→Int→Int→ByteArray→List (SDoc)→Option ((List (SRow)))
 | 0,_,_,_,_,_,_=>none
 | k+1,x4,x11,x785000,x785001,x785002,x785003=>if x11=true then (some (([(⟨0,(⟨#[]⟩:ByteArray)⟩:SRow),(⟨0,(⟨#[]⟩:ByteArray)⟩:SRow)]:List (SRow)))) else (if x4=6 then (if 0<(x785003.length:Int) then ((impl_openRows.f k ((rd_TDoc x785003 0).f0) ((rd_TDoc x785003 0).f1) ((rd_TDoc x785003 0).f2) ((rd_TDoc x785003 0).f3)).bind fun t792=>((impl_nestRows.f k x785001 t792).bind fun t795=>(some t795))) else (none)) else (if x4=7 then (if 0<(x785003.length:Int) then ((impl_openRows.f k ((rd_TDoc x785003 0).f0) ((rd_TDoc x785003 0).f1) ((rd_TDoc x785003 0).f2) ((rd_TDoc x785003 0).f3)).bind fun t799=>(if 1<(x785003.length:Int) then ((impl_openRows.f k ((rd_TDoc x785003 1).f0) ((rd_TDoc x785003 1).f1) ((rd_TDoc x785003 1).f2) ((rd_TDoc x785003 1).f3)).bind fun t803=>((impl_catRows.f t799 t803).bind fun t806=>(some t806))) else (none))) else (none)) else (if x4=8 then (if 0<(x785003.length:Int) then ((impl_openRows.f k ((rd_TDoc x785003 0).f0) ((rd_TDoc x785003 0).f1) ((rd_TDoc x785003 0).f2) ((rd_TDoc x785003 0).f3)).bind fun t810=>(some t810)) else (none)) else (some (([(⟨0,(⟨#[]⟩:ByteArray)⟩:SRow)]:List (SRow)))))))
def impl_openRows.f:Nat→Int→Int→ByteArray→List (SDoc)→Option ((List (SRow)))
 | 0,_,_,_,_=>none
 | k+1,a0_0,a0_1,a0_2,l0_3=>if a0_0=2 then (some (([(⟨0,a0_2⟩:SRow)]:List (SRow)))) else (if a0_0=3 then (impl_openRows.j0 k a0_0 (a0_0 == 3) a0_0 a0_1 a0_2 l0_3) else (if a0_0=4 then (impl_openRows.j0 k a0_0 (a0_0 == 4) a0_0 a0_1 a0_2 l0_3) else (impl_openRows.j0 k a0_0 (a0_0 == 5) a0_0 a0_1 a0_2 l0_3)))
end
def impl_openRows.T9:Bool×List (List Nat×List Nat):=(true,[([],[]),([0],[0]),([],[]),([2],[2]),([3],[3]),([4],[4]),([5],[5]),([1,6,6],[1,6]),([7,7,0,1,2,3,4,5,6,7],[7])])
def impl_openRows.B9:List Nat:=[0,1,0,4,12,28,60,127,255]
theorem impl_openRows.tab9:rtab .any (opsOf Try.f51 9)=impl_openRows.T9:=by kernel_rfl
theorem impl_openRows.bits9:waitsOk impl_openRows.T9.2 impl_openRows.B9=true:=by kernel_rfl
def impl_openRows.T11:Bool×List (List Nat×List Nat):=(true,[([],[]),([0],[0]),([1],[1]),([2],[2]),([3],[3]),([],[]),([5],[5]),([6],[6]),([7],[7]),([8,4],[8]),([4,9,9],[4,9]),([10,10,0,1,2,3,4,5,6,7,8,9,10],[10])])
def impl_openRows.B11:List Nat:=[0,1,3,7,15,0,32,96,224,511,1023,2047]
theorem impl_openRows.tab11:rtab .any (opsOf Try.f51 11)=impl_openRows.T11:=by kernel_rfl
theorem impl_openRows.bits11:waitsOk impl_openRows.T11.2 impl_openRows.B11=true:=by kernel_rfl
set_option maxHeartbeats 8000000 in
set_option maxRecDepth 100000 in
theorem impl_openRows.calls (k:Nat):∀ (a0_0:Int) (a0_1:Int) (a0_2:ByteArray) (A0_3:Option Addr) (c0_3:Nat) (l0_3:List (SDoc)) (r:List (SRow)) (w:World) (hr0_3:Kd.C k39 w A0_3 l0_3.length l0_3) (hc0_3:l0_3.length≤c0_3) (h:impl_openRows.f k a0_0 a0_1 a0_2 l0_3=some r),
  Calls Try.prog 51 #[.agg #[.int .i64 a0_0,.int .i64 a0_1,.string a0_2,.slice A0_3 l0_3.length c0_3]] w fun e w'=>∃ v0_:Value,e=.returned (v0_)∧Kd.R k30 30 w' w.heap.size (fun _=>True) v0_ r∧Below w.heap.size w w':=by
 induction k using Nat.strongRecOn with
 | _ k ih =>
 intro a0_0 a0_1 a0_2 A0_3 c0_3 l0_3 r w hr0_3 hc0_3 h
 cases k with
 | zero=>exact absurd h (by simp [impl_openRows.f])
 | succ k =>
 simp only [impl_openRows.f] at h
 have hu39:=Try.underlying39
 have hu30:=Try.underlying30
 have HR0_3:=Aside0.mk hr0_3
 have HC0_3:=Aside0.mk hc0_3
 clear hr0_3 hc0_3
 have HB:=Aside0.mk (Below.refl w.heap.size w)
 have H:(if a0_0=2 then (some (([(⟨0,a0_2⟩:SRow)]:List (SRow)))) else (if a0_0=3 then (impl_openRows.j0 k a0_0 (a0_0 == 3) a0_0 a0_1 a0_2 l0_3) else (if a0_0=4 then (impl_openRows.j0 k a0_0 (a0_0 == 4) a0_0 a0_1 a0_2 l0_3) else (impl_openRows.j0 k a0_0 (a0_0 == 5) a0_0 a0_1 a0_2 l0_3))))=some r:=h
 clear h
 by_cases c2:a0_0=2
 ·rw [if_pos c2] at H
  have c2b0:(a0_0 == 2)=true:=beq_iff_eq.mpr c2
  have c2b1:(a0_0 != 2)=false:=bne_eq_false_iff_eq.mpr c2
  clear c2
  obtain ⟨y785,hy785⟩:∃ y_:List (SRow),y_=(([(⟨0,a0_2⟩:SRow)]:List (SRow))):=⟨_,rfl⟩
  replace H:(some y785)=some r:=by first|(rw [hy785];with_reducible exact H)|(have H2_:=(Option.bind_some _ _).symm.trans H;rw [hy785];with_reducible exact H2_)|(have H2_:=(Option.bind_some _ _).symm.trans H;with_reducible exact H2_)|with_reducible exact H|(rw [hy785];exact H)|exact H
  have Ny785:=Aside0.mk hy785
  clear hy785
  obtain rfl:=Option.some.inj H
  go_enter Try.func51,Try.ntmps51
  go_wp2_with (first|((with_reducible refine gate_dst (N:=1) rfl ?_);refine box_event ?hg (N:=1) ?hd (cs:=#[.int .i64 a0_0,.int .i64 a0_1,.string a0_2,.slice A0_3 l0_3.length c0_3]) (t:=39) ?hr ?_;(case hd=>rfl);(case hg=>rfl);(case hr=>first|(go_simp;done)|(go_simp;rfl));intro gb784 hg w3 hbox hb;have n0_:=Aside0.mk (below_step (gB HB) hb);have n1_:=Aside0.mk (hbox);have n2_:=Aside0.mk ((by rw [hg];exact (below_size (gB HB)):w.heap.size≤gb784));have n3_:=Aside0.mk ((by rw [hg];exact (below_size (gB HB)):w.heap.size≤gb784));clear HB;have HB:=n0_;have BK784:=n1_;have GW784:=n2_;have GE784:=n3_;clear n0_ n1_ n2_ n3_;clear hb hbox hg;have hcz4_0:w3.cell? ⟨gb784,0,none⟩=some (.int .i64 a0_0):=(blk_cell BK784.out 0).trans rfl;have hcz4_1:w3.cell? ⟨gb784,1,none⟩=some (.int .i64 a0_1):=(blk_cell BK784.out 1).trans rfl;have hcz4_2:w3.cell? ⟨gb784,2,none⟩=some (.string a0_2):=(blk_cell BK784.out 2).trans rfl;have hcz4_3:w3.cell? ⟨gb784,3,none⟩=some (.slice A0_3 l0_3.length c0_3):=(blk_cell BK784.out 3).trans rfl;have hfz4_0:=blk_frozen BK784.out 0;have hfz4_1:=blk_frozen BK784.out 1;have hfz4_2:=blk_frozen BK784.out 2;have hfz4_3:=blk_frozen BK784.out 3)|((with_reducible refine gate_dst (N:=10) rfl ?_);refine Kd.R_lit k30 _ 30 ?hg (N:=10) ?hd (xs:=([(⟨0,a0_2⟩:SRow)]:List (SRow))) (inner:=[.int .i64 0,.string a0_2]) (ok:=fun _=>True) (okp:=fun _=>True) ?hr ?hp (fun _ hk=>hk) trivial (Below.refl _ _) (Nat.le_refl _) (by simp) ?_;(case hd=>rfl);(case hg=>rfl);(case hr=>first|(go_simp;done)|(go_simp;rfl));(case hp=>exact (Reps.c2 (show Kd.M k30 _ _ _ (⟨0,a0_2⟩:SRow) [.int .i64 0,.string a0_2] from (k30_mkM _ _ _ (⟨0,a0_2⟩:SRow) )) (Reps.none _ _)));intro v786 w5 ho6 hb hg_ hnew_;clear hg_ hnew_;(first|rw [← Ny785.out] at ho6|(simp only [Int.reduceToNat] at ho6;rw [← Ny785.out] at ho6));have n0_:=Aside0.mk (Kd.R_lower ho6 (below_size (by repeat (first|exact gB HB|refine below_set ?_ GE784.out))));have n1_:=Aside0.mk (blk_below (g:=gb784) (o:=.cells #[.int .i64 a0_0,.int .i64 a0_1,.string a0_2,.slice A0_3 l0_3.length c0_3] 39 (0,0)) (gK BK784) hb);have n2_:=Aside0.mk (below_step (by repeat (first|exact gB HB|refine below_set ?_ GE784.out)) hb);clear BK784;clear HB;have HO787:=n0_;have BK784:=n1_;have HB:=n2_;clear n0_ n1_ n2_;clear hb ho6))
  go_ret
  exact ⟨_,by first|rfl|(simp [errW_none,errW_some] <;> rfl)|(simp [*,errW_none,errW_some] <;> rfl),gR HO787,by repeat (first|exact gB HB|refine below_set ?_ GE784.out)⟩
 ·rw [if_neg c2] at H
  have c2b0:(a0_0 == 2)=false:=beq_eq_false_iff_ne.mpr c2
  have c2b1:(a0_0 != 2)=true:=bne_iff_ne.mpr c2
  have HC7:=Aside0.mk H
  clear H
  go_enter Try.func51,Try.ntmps51
  go_upto_if 11 with (first|((with_reducible refine gate_dst (N:=1) rfl ?_);refine box_event ?hg (N:=1) ?hd (cs:=#[.int .i64 a0_0,.int .i64 a0_1,.string a0_2,.slice A0_3 l0_3.length c0_3]) (t:=39) ?hr ?_;(case hd=>rfl);(case hg=>rfl);(case hr=>first|(go_simp;done)|(go_simp;rfl));intro gb784 hg w8 hbox hb;have n0_:=Aside0.mk (below_step (gB HB) hb);have n1_:=Aside0.mk (hbox);have n2_:=Aside0.mk ((by rw [hg];exact (below_size (gB HB)):w.heap.size≤gb784));have n3_:=Aside0.mk ((by rw [hg];exact (below_size (gB HB)):w.heap.size≤gb784));clear HB;have HB:=n0_;have BK784:=n1_;have GW784:=n2_;have GE784:=n3_;clear n0_ n1_ n2_ n3_;clear hb hbox hg;have hcz9_0:w8.cell? ⟨gb784,0,none⟩=some (.int .i64 a0_0):=(blk_cell BK784.out 0).trans rfl;have hcz9_1:w8.cell? ⟨gb784,1,none⟩=some (.int .i64 a0_1):=(blk_cell BK784.out 1).trans rfl;have hcz9_2:w8.cell? ⟨gb784,2,none⟩=some (.string a0_2):=(blk_cell BK784.out 2).trans rfl;have hcz9_3:w8.cell? ⟨gb784,3,none⟩=some (.slice A0_3 l0_3.length c0_3):=(blk_cell BK784.out 3).trans rfl;have hfz9_0:=blk_frozen BK784.out 0;have hfz9_1:=blk_frozen BK784.out 1;have hfz9_2:=blk_frozen BK784.out 2;have hfz9_3:=blk_frozen BK784.out 3))
  (try simp only [Act.put,List.setIfInBounds_toArray,List.set_cons_zero,List.set_cons_succ])
  go_cut [11] (fun v11 wc=>∃ (kq:Nat) (x11_6:Bool),v11=.bool x11_6∧Aside0 (impl_openRows.j0 kq a0_0 x11_6 a0_0 a0_1 a0_2 l0_3=some r)∧Aside0 (kq≤k)∧Aside0 (wc.heap[gb784]?=some (.cells #[.int .i64 a0_0,.int .i64 a0_1,.string a0_2,(.slice A0_3 l0_3.length c0_3)] 39 (0,0)))∧Aside0 (Below w.heap.size w wc))
  case first =>
   have H:=HC7.out
   clear HC7
   by_cases c10:a0_0=3
   ·rw [if_pos c10] at H
    have c10b0:(a0_0 == 3)=true:=beq_iff_eq.mpr c10
    have c10b1:(a0_0 != 3)=false:=bne_eq_false_iff_eq.mpr c10
    clear c10
    (first|rw [c10b0]|(simp only [i64_w,i32_w];rw [c10b0])|skip)
    have H':=Aside0.mk H
    clear H
    go_wp2
    go_meet
    case rel=>exact ⟨_,((a0_0 == 3)),(by first|rfl|(simp;done)|(simp [*];done)),H',⟨by first|omega|exact Nat.le_refl _⟩,⟨gK BK784⟩,⟨by repeat (first|exact gB HB|refine below_set ?_ GE784.out)⟩⟩
   ·rw [if_neg c10] at H
    have c10b0:(a0_0 == 3)=false:=beq_eq_false_iff_ne.mpr c10
    have c10b1:(a0_0 != 3)=true:=bne_iff_ne.mpr c10
    (first|rw [c10b0]|(simp only [i64_w,i32_w];rw [c10b0])|skip)
    by_cases c11:a0_0=4
    ·rw [if_pos c11] at H
     have c11b0:(a0_0 == 4)=true:=beq_iff_eq.mpr c11
     have c11b1:(a0_0 != 4)=false:=bne_eq_false_iff_eq.mpr c11
     clear c11
     have H':=Aside0.mk H
     clear H
     go_wp2
     go_meet
     case rel=>exact ⟨_,((a0_0 == 4)),(by first|rfl|(simp;done)|(simp [*];done)),H',⟨by first|omega|exact Nat.le_refl _⟩,⟨gK BK784⟩,⟨by repeat (first|exact gB HB|refine below_set ?_ GE784.out)⟩⟩
    ·rw [if_neg c11] at H
     have c11b0:(a0_0 == 4)=false:=beq_eq_false_iff_ne.mpr c11
     have c11b1:(a0_0 != 4)=true:=bne_iff_ne.mpr c11
     have H':=Aside0.mk H
     clear H
     go_wp2
     go_meet
     case rel=>exact ⟨_,((a0_0 == 5)),(by first|rfl|(simp;done)|(simp [*];done)),H',⟨by first|omega|exact Nat.le_refl _⟩,⟨gK BK784⟩,⟨by repeat (first|exact gB HB|refine below_set ?_ GE784.out)⟩⟩
  case rest =>
   clear HC7
   try clear c1 c2 c2b0 c2b1 p2 c5 c10 c10b0 c10b1 c11 c11b0 c11b1 hcz4_0 hcz4_1 hcz4_2 hcz4_3 hcz9_0 hcz9_1 hcz9_2 hcz9_3 hfz4_0 hfz4_1 hfz4_2 hfz4_3 hfz9_0 hfz9_1 hfz9_2 hfz9_3
   obtain ⟨kq,x11_6,rfl,HA,HJ6,BK784,HB⟩:=hcut
   cases kq with
   | zero=>exact absurd HA.out (by simp [impl_openRows.j0])
   | succ kj6 =>
    have H:=HA.out
    clear HA
    simp only [impl_openRows.j0] at H
    by_cases c12:x11_6=true
    ·subst c12
     have H1:(some (([(⟨0,(⟨#[]⟩:ByteArray)⟩:SRow),(⟨0,(⟨#[]⟩:ByteArray)⟩:SRow)]:List (SRow))))=some r:=by rw [if_pos rfl] at H;exact H
     clear H
     have H:=H1
     clear H1
     obtain ⟨y788,hy788⟩:∃ y_:List (SRow),y_=(([(⟨0,(⟨#[]⟩:ByteArray)⟩:SRow),(⟨0,(⟨#[]⟩:ByteArray)⟩:SRow)]:List (SRow))):=⟨_,rfl⟩
     replace H:(some y788)=some r:=by first|(rw [hy788];with_reducible exact H)|(have H2_:=(Option.bind_some _ _).symm.trans H;rw [hy788];with_reducible exact H2_)|(have H2_:=(Option.bind_some _ _).symm.trans H;with_reducible exact H2_)|with_reducible exact H|(rw [hy788];exact H)|exact H
     have Ny788:=Aside0.mk hy788
     clear hy788
     obtain rfl:=Option.some.inj H
     go_wp2_with (first|((with_reducible refine gate_dst (N:=17) rfl ?_);refine Kd.R_lit k30 _ 30 ?hg (N:=17) ?hd (xs:=([(⟨0,(⟨#[]⟩:ByteArray)⟩:SRow),(⟨0,(⟨#[]⟩:ByteArray)⟩:SRow)]:List (SRow))) (inner:=[.int .i64 0,.string (⟨#[]⟩:ByteArray),.int .i64 0,.string (⟨#[]⟩:ByteArray)]) (ok:=fun _=>True) (okp:=fun _=>True) ?hr ?hp (fun _ hk=>hk) trivial (Below.refl _ _) (Nat.le_refl _) (by simp) ?_;(case hd=>rfl);(case hg=>rfl);(case hr=>first|(go_simp;done)|(go_simp;rfl));(case hp=>exact (Reps.c2 (show Kd.M k30 _ _ _ (⟨0,(⟨#[]⟩:ByteArray)⟩:SRow) [.int .i64 0,.string (⟨#[]⟩:ByteArray)] from (k30_mkM _ _ _ (⟨0,(⟨#[]⟩:ByteArray)⟩:SRow) )) (Reps.c2 (show Kd.M k30 _ _ _ (⟨0,(⟨#[]⟩:ByteArray)⟩:SRow) [.int .i64 0,.string (⟨#[]⟩:ByteArray)] from (k30_mkM _ _ _ (⟨0,(⟨#[]⟩:ByteArray)⟩:SRow) )) (Reps.none _ _))));intro v789 w13 ho14 hb hg_ hnew_;clear hg_ hnew_;(first|rw [← Ny788.out] at ho14|(simp only [Int.reduceToNat] at ho14;rw [← Ny788.out] at ho14));have n0_:=Aside0.mk (Kd.R_lower ho14 (below_size (by repeat (first|exact gB HB|refine below_set ?_ GE784.out))));have n1_:=Aside0.mk (blk_below (g:=gb784) (o:=.cells #[.int .i64 a0_0,.int .i64 a0_1,.string a0_2,.slice A0_3 l0_3.length c0_3] 39 (0,0)) (gK BK784) hb);have n2_:=Aside0.mk (below_step (by repeat (first|exact gB HB|refine below_set ?_ GE784.out)) hb);clear BK784;clear HB;have HO790:=n0_;have BK784:=n1_;have HB:=n2_;clear n0_ n1_ n2_;clear hb ho14))
     go_ret
     exact ⟨_,by first|rfl|(simp [errW_none,errW_some] <;> rfl)|(simp [*,errW_none,errW_some] <;> rfl),gR HO790,by repeat (first|exact gB HB|refine below_set ?_ GE784.out)⟩
    ·replace c12:=Bool.eq_false_iff.mpr c12
     subst c12
     have H1:(if a0_0=6 then (if 0<(l0_3.length:Int) then ((impl_openRows.f kj6 ((rd_TDoc l0_3 0).f0) ((rd_TDoc l0_3 0).f1) ((rd_TDoc l0_3 0).f2) ((rd_TDoc l0_3 0).f3)).bind fun t792=>((impl_nestRows.f kj6 a0_1 t792).bind fun t795=>(some t795))) else (none)) else (if a0_0=7 then (if 0<(l0_3.length:Int) then ((impl_openRows.f kj6 ((rd_TDoc l0_3 0).f0) ((rd_TDoc l0_3 0).f1) ((rd_TDoc l0_3 0).f2) ((rd_TDoc l0_3 0).f3)).bind fun t799=>(if 1<(l0_3.length:Int) then ((impl_openRows.f kj6 ((rd_TDoc l0_3 1).f0) ((rd_TDoc l0_3 1).f1) ((rd_TDoc l0_3 1).f2) ((rd_TDoc l0_3 1).f3)).bind fun t803=>((impl_catRows.f t799 t803).bind fun t806=>(some t806))) else (none))) else (none)) else (if a0_0=8 then (if 0<(l0_3.length:Int) then ((impl_openRows.f kj6 ((rd_TDoc l0_3 0).f0) ((rd_TDoc l0_3 0).f1) ((rd_TDoc l0_3 0).f2) ((rd_TDoc l0_3 0).f3)).bind fun t810=>(some t810)) else (none)) else (some (([(⟨0,(⟨#[]⟩:ByteArray)⟩:SRow)]:List (SRow)))))))=some r:=by rw [if_neg (show ¬ (false=true) by decide)] at H;exact H
     clear H
     have H:=H1
     clear H1
     by_cases c15:a0_0=6
     ·rw [if_pos c15] at H
      have c15b0:(a0_0 == 6)=true:=beq_iff_eq.mpr c15
      have c15b1:(a0_0 != 6)=false:=bne_eq_false_iff_eq.mpr c15
      clear c15
      by_cases c16:0<(l0_3.length:Int)
      ·rw [if_pos c16] at H
       have c16b0:decide (0<(l0_3.length:Int))=true:=decide_eq_true c16
       have c16b1:decide (0<l0_3.length)=true:=decide_eq_true (by omega)
       clear c16
       replace H:=Option.bind_eq_some_iff.mp H
       obtain ⟨t792,A170,H⟩:=H
       replace H:((impl_nestRows.f kj6 a0_1 t792).bind fun t795=>(some t795))=some r:=H
       have A17:=Aside0.mk A170
       clear A170
       replace H:=Option.bind_eq_some_iff.mp H
       obtain ⟨t795,A180,H⟩:=H
       replace H:(some t795)=some r:=H
       have A18:=Aside0.mk A180
       clear A180
       obtain rfl:=Option.some.inj H
       try go_wp2
       have n0_:=Aside0.mk (blk_drew BK784.out)
       have n1_:=Aside0.mk (below_drew1 HB.out)
       clear BK784
       clear HB
       have BK784:=n0_
       have HB:=n1_
       clear n0_ n1_
       have p791:0≤(0:Int):=(by omega)
       have q791:0<(l0_3.length:Int):=of_decide_eq_true (by first|(with_reducible assumption)|assumption)
       obtain ⟨ad791,A791_3,c791_3,e791,hx791_0,hx791_1,hx791_2,hx791_3,hl791_3,hi791_3⟩:=at_TDoc HR0_3.out 0 p791 q791
       have hw791_3:=hx791_3
       (try rw [show ((0:Int)).toNat=0 from rfl] at hw791_3)
       (try rw [show 0 * 4=0 from rfl] at hw791_3)
       (try rw [Addr.add_zero'] at hw791_3)
       have hw791_2:=hx791_2
       (try rw [show ((0:Int)).toNat=0 from rfl] at hw791_2)
       (try rw [show 0 * 4=0 from rfl] at hw791_2)
       (try rw [Addr.add_zero'] at hw791_2)
       have hw791_1:=hx791_1
       (try rw [show ((0:Int)).toNat=0 from rfl] at hw791_1)
       (try rw [show 0 * 4=0 from rfl] at hw791_1)
       (try rw [Addr.add_zero'] at hw791_1)
       have hw791_0:=hx791_0
       (try rw [show ((0:Int)).toNat=0 from rfl] at hw791_0)
       (try rw [show 0 * 4=0 from rfl] at hw791_0)
       (try rw [Addr.add_zero'] at hw791_0)
       cases e791
       have qi791:(0<l0_3.length)=True:=eq_true (by omega)
       (try rw [show ((0:Int)).toNat=0 from rfl] at hx791_0)
       (try rw [show 0 * 4=0 from rfl] at hx791_0)
       (try rw [Addr.add_zero'] at hx791_0)
       (try rw [show ((0:Int)).toNat=0 from rfl] at hx791_1)
       (try rw [show 0 * 4=0 from rfl] at hx791_1)
       (try rw [Addr.add_zero'] at hx791_1)
       (try rw [show ((0:Int)).toNat=0 from rfl] at hx791_2)
       (try rw [show 0 * 4=0 from rfl] at hx791_2)
       (try rw [Addr.add_zero'] at hx791_2)
       (try rw [show ((0:Int)).toNat=0 from rfl] at hx791_3)
       (try rw [show 0 * 4=0 from rfl] at hx791_3)
       (try rw [Addr.add_zero'] at hx791_3)
       replace hx791_0:=(HB.out.cell (World.block_lt_of_cell? w _ hx791_0)).trans hx791_0
       replace hx791_1:=(HB.out.cell (World.block_lt_of_cell? w _ hx791_1)).trans hx791_1
       replace hx791_2:=(HB.out.cell (World.block_lt_of_cell? w _ hx791_2)).trans hx791_2
       replace hx791_3:=(HB.out.cell (World.block_lt_of_cell? w _ hx791_3)).trans hx791_3
       have HR791_3:=Aside0.mk hi791_3
       have HC791_3:=Aside0.mk hl791_3
       clear hi791_3 hl791_3
       replace p791:=eq_true p791
       replace q791:=eq_true q791
       refine start_ (n:=9) (S:=fun w'=>w'.cell? ⟨gb784,0,none⟩=some (.int .i64 a0_0)∧w'.cell? ⟨gb784,1,none⟩=some (.int .i64 a0_1)∧w'.cell? ⟨gb784,2,none⟩=some (.string a0_2)∧w'.cell? ⟨gb784,3,none⟩=some (.slice (some ad791) l0_3.length c0_3)∧w'.cell? ad791=some (.int .i64 ((rd_TDoc l0_3 0).f0))∧w'.cell? ⟨ad791.block,ad791.off+1,none⟩=some (.int .i64 ((rd_TDoc l0_3 0).f1))∧w'.cell? ⟨ad791.block,ad791.off+2,none⟩=some (.string ((rd_TDoc l0_3 0).f2))∧w'.cell? ⟨ad791.block,ad791.off+3,none⟩=some (.slice A791_3 ((rd_TDoc l0_3 0).f3).length c791_3)) (ds:=[]) #[false,false,false,false,false,false,false,false,false] (by kernel_rfl) rfl rfl ⟨(blk_cell BK784.out 0).trans rfl,(blk_cell BK784.out 1).trans rfl,(blk_cell BK784.out 2).trans rfl,(blk_cell BK784.out 3).trans rfl,((HB.out.cell (World.block_lt_of_cell? w _ hw791_0)).trans hw791_0),((HB.out.cell (World.block_lt_of_cell? w _ hw791_1)).trans hw791_1),((HB.out.cell (World.block_lt_of_cell? w _ hw791_2)).trans hw791_2),((HB.out.cell (World.block_lt_of_cell? w _ hw791_3)).trans hw791_3)⟩ (fun hHeld=>?_);refine with_tabW impl_openRows.tab9 impl_openRows.bits9 (fun HT_ HW_=>?_)
       generalize wc.drew=w19 at BK784 HB HR791_3 hx791_0 hx791_1 hx791_2 hx791_3 hHeld ⊢
       refine pure_ (i:=0) (N:=some 20) (v:=?_) (a':=?_) #[true,false,false,false,false,false,false,false,false] rfl rfl (any_of HT_.out (by kernel_rfl)) (fun _ _ _ h=>h) (Or.inl ⟨by rfl,?_⟩) ?_ ?_
       rotate_left
       ·intro w'
        go_simp
        with_reducible rfl
       rotate_left
       ·simp only [Act.put,List.setIfInBounds_toArray,List.set_cons_zero,List.set_cons_succ,i64_w,i32_w]
        rfl
       refine pure_ (i:=2) (N:=some 22) (v:=?_) (a':=?_) #[true,false,true,false,false,false,false,false,false] rfl rfl (any_of HT_.out (by kernel_rfl)) (fun _ _ _ h=>h) (Or.inl ⟨by rfl,?_⟩) ?_ ?_
       rotate_left
       ·intro w'
        go_simp
        with_reducible rfl
       rotate_left
       ·simp only [Act.put,List.setIfInBounds_toArray,List.set_cons_zero,List.set_cons_succ,i64_w,i32_w]
        rfl
       refine take_ (i:=1) (N:=some 21) (v:=?_) (a':=?_) #[true,true,true,false,false,false,false,false,false] rfl rfl (take_ofW HT_.out HW_.out (by kernel_rfl)) (fun _ _ _ h=>h) (Or.inl ⟨by rfl,?_⟩) hHeld ?_ ?_
       rotate_left
       ·rintro w' ⟨s0,s1,s2,s3,s4,s5,s6,s7⟩
        go_simp
        with_reducible rfl
       rotate_left
       ·simp only [Act.put,List.setIfInBounds_toArray,List.set_cons_zero,List.set_cons_succ,i64_w,i32_w]
        rfl
       refine take_ (i:=3) (N:=some 23) (v:=?_) (a':=?_) #[true,true,true,true,false,false,false,false,false] rfl rfl (take_ofW HT_.out HW_.out (by kernel_rfl)) (fun _ _ _ h=>h) (Or.inl ⟨by rfl,?_⟩) hHeld ?_ ?_
       rotate_left
       ·rintro w' ⟨s0,s1,s2,s3,s4,s5,s6,s7⟩
        go_simp
        with_reducible rfl
       rotate_left
       ·simp only [Act.put,List.setIfInBounds_toArray,List.set_cons_zero,List.set_cons_succ,i64_w,i32_w]
        rfl
       refine pure_ (i:=4) (N:=some 24) (v:=?_) (a':=?_) #[true,true,true,true,true,false,false,false,false] rfl rfl (any_of HT_.out (by kernel_rfl)) (fun _ _ _ h=>h) (Or.inl ⟨by rfl,?_⟩) ?_ ?_
       rotate_left
       ·intro w'
        go_simp
        with_reducible rfl
       rotate_left
       ·simp only [Act.put,List.setIfInBounds_toArray,List.set_cons_zero,List.set_cons_succ,i64_w,i32_w]
        rfl
       refine take_ (i:=5) (N:=some 25) (v:=?_) (a':=?_) #[true,true,true,true,true,true,false,false,false] rfl rfl (take_ofW HT_.out HW_.out (by kernel_rfl)) (fun _ _ _ h=>h) (Or.inl ⟨by rfl,?_⟩) hHeld ?_ ?_
       rotate_left
       ·rintro w' ⟨s0,s1,s2,s3,s4,s5,s6,s7⟩
        go_simp
        with_reducible rfl
       rotate_left
       ·simp only [Act.put,List.setIfInBounds_toArray,List.set_cons_zero,List.set_cons_succ,i64_w,i32_w]
        rfl
       refine one_ (i:=6) (N:=some 26) #[true,true,true,true,true,true,true,false,false] rfl rfl (one_of HT_.out (by kernel_rfl)) (by decide) (fun K hK=>?_)
       refine goes_ Try.func51 (by kernel_rfl) rfl #[.agg #[.int .i64 ((rd_TDoc l0_3 0).f0),.int .i64 ((rd_TDoc l0_3 0).f1),.string ((rd_TDoc l0_3 0).f2),.slice A791_3 ((rd_TDoc l0_3 0).f3).length c791_3]] (by rfl) rfl rfl (by (try simp only [List.map_toArray,List.map_cons,List.map_nil]);first|done|rfl|(simp only [List.length_drop,List.length_take];rfl)) ?_
       with_reducible refine (ih kj6 (by have:=HJ6.out;omega) ((rd_TDoc l0_3 0).f0) ((rd_TDoc l0_3 0).f1) ((rd_TDoc l0_3 0).f2) _ _ ((rd_TDoc l0_3 0).f3) t792 _ ?side1 ?side2 A17.out).mono ?_
       (case side1=>exact gC (Kd.C_below HR791_3.out HB.out))
       (case side2=>exact HC791_3.out)
       rintro e w20 ⟨v793,rfl,ho0,hb⟩
       refine ⟨_,rfl,?_⟩
       have n0_:=Aside0.mk (Kd.R_lower ho0 (below_size (by repeat (first|exact gB HB|refine below_set ?_ GE784.out))))
       have n1_:=Aside0.mk (blk_below (g:=gb784) (o:=.cells #[.int .i64 a0_0,.int .i64 a0_1,.string a0_2,.slice (some ad791) l0_3.length c0_3] 39 (0,0)) (gK BK784) hb)
       have n2_:=Aside0.mk (below_step (by repeat (first|exact gB HB|refine below_set ?_ GE784.out)) hb)
       clear BK784
       clear HB
       have HO794:=n0_
       have BK784:=n1_
       have HB:=n2_
       clear n0_ n1_ n2_
       (try clear hb)
       (try clear hb2)
       (try clear hk)
       (try clear hi)
       (try clear ho0)
       obtain ⟨Ao21,co21,eo21⟩:=Kd.R_slice HO794.out
       (first|subst eo21|(injection eo21 with f1_ f2_ f3_;have f4_:=f1_.symm;have f5_:=f3_.symm;clear f1_ f2_ f3_;subst f4_;subst f5_))
       refine hK.out _ _ ⟨(blk_cell BK784.out 0).trans rfl,(blk_cell BK784.out 1).trans rfl,(blk_cell BK784.out 2).trans rfl,(blk_cell BK784.out 3).trans rfl,((HB.out.cell (World.block_lt_of_cell? w _ hw791_0)).trans hw791_0),((HB.out.cell (World.block_lt_of_cell? w _ hw791_1)).trans hw791_1),((HB.out.cell (World.block_lt_of_cell? w _ hw791_2)).trans hw791_2),((HB.out.cell (World.block_lt_of_cell? w _ hw791_3)).trans hw791_3)⟩ (fun hHeld=>?_)
       clear hK K
       refine norm_ (a':=?_) ?_ ?_
       rotate_left
       ·show Act.put _ (some 26) _=_
        simp only [Act.put,List.setIfInBounds_toArray,List.set_cons_zero,List.set_cons_succ,i64_w,i32_w]
        rfl
       refine one_ (i:=7) (N:=some 27) #[true,true,true,true,true,true,true,true,false] rfl rfl (one_of HT_.out (by kernel_rfl)) (by decide) (fun K hK=>?_)
       refine goes_ Try.func47 (by kernel_rfl) rfl #[.int .i64 a0_1,.slice Ao21 t792.length co21] (by rfl) rfl rfl (by (try simp only [List.map_toArray,List.map_cons,List.map_nil]);first|done|rfl|(simp only [List.length_drop,List.length_take];rfl)) ?_
       with_reducible refine (impl_nestRows.calls kj6 a0_1 _ _ t792 t795 _ ?side1 ?side2 A18.out).mono ?_
       (case side1=>exact gC ((Kd.R_reads' HO794.out).2.2))
       (case side2=>exact (Kd.R_reads' HO794.out).2.1)
       rintro e w22 ⟨v796,rfl,ho0,hb⟩
       refine ⟨_,rfl,?_⟩
       have n0_:=Aside0.mk (Kd.R_elder' (gR HO794) (Kd.R_base ho0) hb)
       have n1_:=Aside0.mk (Kd.R_lower (Kd.R_new' ho0 (Kd.R_lt (gR HO794))) (below_size (by repeat (first|exact gB HB|refine below_set ?_ GE784.out))))
       have n2_:=Aside0.mk (blk_below (g:=gb784) (o:=.cells #[.int .i64 a0_0,.int .i64 a0_1,.string a0_2,.slice (some ad791) l0_3.length c0_3] 39 (0,0)) (gK BK784) hb)
       have n3_:=Aside0.mk (below_step (by repeat (first|exact gB HB|refine below_set ?_ GE784.out)) hb)
       clear HO794
       clear BK784
       clear HB
       have HO794:=n0_
       have HO797:=n1_
       have BK784:=n2_
       have HB:=n3_
       clear n0_ n1_ n2_ n3_
       (try clear hb)
       (try clear hb2)
       (try clear hk)
       (try clear hi)
       (try clear ho0)
       refine hK.out _ _ ⟨(blk_cell BK784.out 0).trans rfl,(blk_cell BK784.out 1).trans rfl,(blk_cell BK784.out 2).trans rfl,(blk_cell BK784.out 3).trans rfl,((HB.out.cell (World.block_lt_of_cell? w _ hw791_0)).trans hw791_0),((HB.out.cell (World.block_lt_of_cell? w _ hw791_1)).trans hw791_1),((HB.out.cell (World.block_lt_of_cell? w _ hw791_2)).trans hw791_2),((HB.out.cell (World.block_lt_of_cell? w _ hw791_3)).trans hw791_3)⟩ (fun hHeld=>?_)
       clear hK K
       refine norm_ (a':=?_) ?_ ?_
       rotate_left
       ·show Act.put _ (some 27) _=_
        simp only [Act.put,List.setIfInBounds_toArray,List.set_cons_zero,List.set_cons_succ,i64_w,i32_w]
        rfl
       refine pure_ (i:=8) (N:=some 2) (v:=?_) (a':=?_) #[true,true,true,true,true,true,true,true,true] rfl rfl (any_of HT_.out (by kernel_rfl)) (fun _ _ _ h=>h) (Or.inl ⟨by rfl,?_⟩) ?_ ?_
       rotate_left
       ·intro w'
        go_simp
        with_reducible rfl
       rotate_left
       ·simp only [Act.put,List.setIfInBounds_toArray,List.set_cons_zero,List.set_cons_succ,i64_w,i32_w]
        rfl
       refine done_ (done_of HT_.out (by kernel_rfl)) ?_
       try go_wp2
       go_ret
       exact ⟨_,by first|rfl|(simp [errW_none,errW_some] <;> rfl)|(simp [*,errW_none,errW_some] <;> rfl),by (with_reducible repeat (first|apply Kd.R_alloc|apply Kd.R_drewN|apply Kd.R_drew));exact Kd.R_mono HO797.out (fun _ hk=>trivial),by repeat (first|exact gB HB|refine below_set ?_ GE784.out)⟩
      ·rw [if_neg c16] at H
       exact absurd H (by simp)
     ·rw [if_neg c15] at H
      have c15b0:(a0_0 == 6)=false:=beq_eq_false_iff_ne.mpr c15
      have c15b1:(a0_0 != 6)=true:=bne_iff_ne.mpr c15
      by_cases c23:a0_0=7
      ·rw [if_pos c23] at H
       have c23b0:(a0_0 == 7)=true:=beq_iff_eq.mpr c23
       have c23b1:(a0_0 != 7)=false:=bne_eq_false_iff_eq.mpr c23
       clear c23
       by_cases c24:0<(l0_3.length:Int)
       ·rw [if_pos c24] at H
        have c24b0:decide (0<(l0_3.length:Int))=true:=decide_eq_true c24
        have c24b1:decide (0<l0_3.length)=true:=decide_eq_true (by omega)
        clear c24
        replace H:=Option.bind_eq_some_iff.mp H
        obtain ⟨t799,A250,H⟩:=H
        replace H:(if 1<(l0_3.length:Int) then ((impl_openRows.f kj6 ((rd_TDoc l0_3 1).f0) ((rd_TDoc l0_3 1).f1) ((rd_TDoc l0_3 1).f2) ((rd_TDoc l0_3 1).f3)).bind fun t803=>((impl_catRows.f t799 t803).bind fun t806=>(some t806))) else (none))=some r:=H
        have A25:=Aside0.mk A250
        clear A250
        by_cases c26:1<(l0_3.length:Int)
        ·rw [if_pos c26] at H
         have c26b0:decide (1<(l0_3.length:Int))=true:=decide_eq_true c26
         have c26b1:decide (1<l0_3.length)=true:=decide_eq_true (by omega)
         clear c26
         replace H:=Option.bind_eq_some_iff.mp H
         obtain ⟨t803,A270,H⟩:=H
         replace H:((impl_catRows.f t799 t803).bind fun t806=>(some t806))=some r:=H
         have A27:=Aside0.mk A270
         clear A270
         replace H:=Option.bind_eq_some_iff.mp H
         obtain ⟨t806,A280,H⟩:=H
         replace H:(some t806)=some r:=H
         have A28:=Aside0.mk A280
         clear A280
         obtain rfl:=Option.some.inj H
         try go_wp2
         have n0_:=Aside0.mk (blk_drew BK784.out)
         have n1_:=Aside0.mk (below_drew1 HB.out)
         clear BK784
         clear HB
         have BK784:=n0_
         have HB:=n1_
         clear n0_ n1_
         have p798:0≤(0:Int):=(by omega)
         have q798:0<(l0_3.length:Int):=of_decide_eq_true (by first|(with_reducible assumption)|assumption)
         (try clear hx791_0);(try clear hx791_1);(try clear hx791_2);(try clear hx791_3)
         obtain ⟨ad798,A798_3,c798_3,e798,hx798_0,hx798_1,hx798_2,hx798_3,hl798_3,hi798_3⟩:=at_TDoc HR0_3.out 0 p798 q798
         (try (have ea_:=Option.some.inj (hx798_3.symm.trans hw791_3);injection ea_ with ea_ en_ ec_;subst ea_;subst ec_;clear en_))
         have hw798_3:=hx798_3
         (try rw [show ((0:Int)).toNat=0 from rfl] at hw798_3)
         (try rw [show 0 * 4=0 from rfl] at hw798_3)
         (try rw [Addr.add_zero'] at hw798_3)
         have hw798_2:=hx798_2
         (try rw [show ((0:Int)).toNat=0 from rfl] at hw798_2)
         (try rw [show 0 * 4=0 from rfl] at hw798_2)
         (try rw [Addr.add_zero'] at hw798_2)
         have hw798_1:=hx798_1
         (try rw [show ((0:Int)).toNat=0 from rfl] at hw798_1)
         (try rw [show 0 * 4=0 from rfl] at hw798_1)
         (try rw [Addr.add_zero'] at hw798_1)
         have hw798_0:=hx798_0
         (try rw [show ((0:Int)).toNat=0 from rfl] at hw798_0)
         (try rw [show 0 * 4=0 from rfl] at hw798_0)
         (try rw [Addr.add_zero'] at hw798_0)
         cases e798
         have qi798:(0<l0_3.length)=True:=eq_true (by omega)
         (try rw [show ((0:Int)).toNat=0 from rfl] at hx798_0)
         (try rw [show 0 * 4=0 from rfl] at hx798_0)
         (try rw [Addr.add_zero'] at hx798_0)
         (try rw [show ((0:Int)).toNat=0 from rfl] at hx798_1)
         (try rw [show 0 * 4=0 from rfl] at hx798_1)
         (try rw [Addr.add_zero'] at hx798_1)
         (try rw [show ((0:Int)).toNat=0 from rfl] at hx798_2)
         (try rw [show 0 * 4=0 from rfl] at hx798_2)
         (try rw [Addr.add_zero'] at hx798_2)
         (try rw [show ((0:Int)).toNat=0 from rfl] at hx798_3)
         (try rw [show 0 * 4=0 from rfl] at hx798_3)
         (try rw [Addr.add_zero'] at hx798_3)
         replace hx798_0:=(HB.out.cell (World.block_lt_of_cell? w _ hx798_0)).trans hx798_0
         replace hx798_1:=(HB.out.cell (World.block_lt_of_cell? w _ hx798_1)).trans hx798_1
         replace hx798_2:=(HB.out.cell (World.block_lt_of_cell? w _ hx798_2)).trans hx798_2
         replace hx798_3:=(HB.out.cell (World.block_lt_of_cell? w _ hx798_3)).trans hx798_3
         have HR798_3:=Aside0.mk hi798_3
         have HC798_3:=Aside0.mk hl798_3
         clear hi798_3 hl798_3
         replace p798:=eq_true p798
         replace q798:=eq_true q798
         have p802:0≤(1:Int):=(by omega)
         have q802:1<(l0_3.length:Int):=of_decide_eq_true (by first|(with_reducible assumption)|assumption)
         obtain ⟨ad802,A802_3,c802_3,e802,hx802_0,hx802_1,hx802_2,hx802_3,hl802_3,hi802_3⟩:=at_TDoc HR0_3.out 1 p802 q802
         have hw802_3:=hx802_3
         (try rw [show ((1:Int)).toNat=1 from rfl] at hw802_3)
         (try rw [show 1 * 4=4 from rfl] at hw802_3)
         (try simp only [Nat.reduceMul,Nat.reduceEqDiff,Go.Addr.add,↓reduceIte] at hw802_3)
         have hw802_2:=hx802_2
         (try rw [show ((1:Int)).toNat=1 from rfl] at hw802_2)
         (try rw [show 1 * 4=4 from rfl] at hw802_2)
         (try simp only [Nat.reduceMul,Nat.reduceEqDiff,Go.Addr.add,↓reduceIte] at hw802_2)
         have hw802_1:=hx802_1
         (try rw [show ((1:Int)).toNat=1 from rfl] at hw802_1)
         (try rw [show 1 * 4=4 from rfl] at hw802_1)
         (try simp only [Nat.reduceMul,Nat.reduceEqDiff,Go.Addr.add,↓reduceIte] at hw802_1)
         have hw802_0:=hx802_0
         (try rw [show ((1:Int)).toNat=1 from rfl] at hw802_0)
         (try rw [show 1 * 4=4 from rfl] at hw802_0)
         (try simp only [Nat.reduceMul,Nat.reduceEqDiff,Go.Addr.add,↓reduceIte] at hw802_0)
         obtain rfl:ad798=ad802:=(by injection e802)
         (try simp only [show (1:Int).toNat=1 from rfl,Nat.reduceMul,Nat.reduceEqDiff,Go.Addr.add,↓reduceIte] at hx802_0)
         (try simp only [show (1:Int).toNat=1 from rfl,Nat.reduceMul,Nat.reduceEqDiff,Go.Addr.add,↓reduceIte] at hx802_1)
         (try simp only [show (1:Int).toNat=1 from rfl,Nat.reduceMul,Nat.reduceEqDiff,Go.Addr.add,↓reduceIte] at hx802_2)
         (try simp only [show (1:Int).toNat=1 from rfl,Nat.reduceMul,Nat.reduceEqDiff,Go.Addr.add,↓reduceIte] at hx802_3)
         have qi802:(1<l0_3.length)=True:=eq_true (by omega)
         (try rw [show ((1:Int)).toNat=1 from rfl] at hx802_0)
         (try rw [show 1 * 4=4 from rfl] at hx802_0)
         (try rw [show ((1:Int)).toNat=1 from rfl] at hx802_1)
         (try rw [show 1 * 4=4 from rfl] at hx802_1)
         (try rw [show ((1:Int)).toNat=1 from rfl] at hx802_2)
         (try rw [show 1 * 4=4 from rfl] at hx802_2)
         (try rw [show ((1:Int)).toNat=1 from rfl] at hx802_3)
         (try rw [show 1 * 4=4 from rfl] at hx802_3)
         replace hx802_0:=(HB.out.cell (World.block_lt_of_cell? w _ hx802_0)).trans hx802_0
         replace hx802_1:=(HB.out.cell (World.block_lt_of_cell? w _ hx802_1)).trans hx802_1
         replace hx802_2:=(HB.out.cell (World.block_lt_of_cell? w _ hx802_2)).trans hx802_2
         replace hx802_3:=(HB.out.cell (World.block_lt_of_cell? w _ hx802_3)).trans hx802_3
         have HR802_3:=Aside0.mk hi802_3
         have HC802_3:=Aside0.mk hl802_3
         clear hi802_3 hl802_3
         replace p802:=eq_true p802
         replace q802:=eq_true q802
         refine start_ (n:=12) (S:=fun w'=>w'.cell? ⟨gb784,0,none⟩=some (.int .i64 a0_0)∧w'.cell? ⟨gb784,1,none⟩=some (.int .i64 a0_1)∧w'.cell? ⟨gb784,2,none⟩=some (.string a0_2)∧w'.cell? ⟨gb784,3,none⟩=some (.slice (some ad798) l0_3.length c0_3)∧w'.cell? ad798=some (.int .i64 ((rd_TDoc l0_3 0).f0))∧w'.cell? ⟨ad798.block,ad798.off+1,none⟩=some (.int .i64 ((rd_TDoc l0_3 0).f1))∧w'.cell? ⟨ad798.block,ad798.off+2,none⟩=some (.string ((rd_TDoc l0_3 0).f2))∧w'.cell? ⟨ad798.block,ad798.off+3,none⟩=some (.slice A798_3 ((rd_TDoc l0_3 0).f3).length c798_3)∧w'.cell? ⟨ad798.block,ad798.off+4,none⟩=some (.int .i64 ((rd_TDoc l0_3 1).f0))∧w'.cell? ⟨ad798.block,ad798.off+4+1,none⟩=some (.int .i64 ((rd_TDoc l0_3 1).f1))∧w'.cell? ⟨ad798.block,ad798.off+4+2,none⟩=some (.string ((rd_TDoc l0_3 1).f2))∧w'.cell? ⟨ad798.block,ad798.off+4+3,none⟩=some (.slice A802_3 ((rd_TDoc l0_3 1).f3).length c802_3)) (ds:=[]) #[false,false,false,false,false,false,false,false,false,false,false,false] (by kernel_rfl) rfl rfl ⟨(blk_cell BK784.out 0).trans rfl,(blk_cell BK784.out 1).trans rfl,(blk_cell BK784.out 2).trans rfl,(blk_cell BK784.out 3).trans rfl,((HB.out.cell (World.block_lt_of_cell? w _ hw798_0)).trans hw798_0),((HB.out.cell (World.block_lt_of_cell? w _ hw798_1)).trans hw798_1),((HB.out.cell (World.block_lt_of_cell? w _ hw798_2)).trans hw798_2),((HB.out.cell (World.block_lt_of_cell? w _ hw798_3)).trans hw798_3),((HB.out.cell (World.block_lt_of_cell? w _ hw802_0)).trans hw802_0),((HB.out.cell (World.block_lt_of_cell? w _ hw802_1)).trans hw802_1),((HB.out.cell (World.block_lt_of_cell? w _ hw802_2)).trans hw802_2),((HB.out.cell (World.block_lt_of_cell? w _ hw802_3)).trans hw802_3)⟩ (fun hHeld=>?_);refine with_tabW impl_openRows.tab11 impl_openRows.bits11 (fun HT_ HW_=>?_)
         generalize wc.drew=w29 at BK784 HB HR798_3 HR802_3 hx798_0 hx798_1 hx798_2 hx798_3 hx802_0 hx802_1 hx802_2 hx802_3 hHeld ⊢
         refine pure_ (i:=0) (N:=some 30) (v:=?_) (a':=?_) #[true,false,false,false,false,false,false,false,false,false,false,false] rfl rfl (any_of HT_.out (by kernel_rfl)) (fun _ _ _ h=>h) (Or.inl ⟨by rfl,?_⟩) ?_ ?_
         rotate_left
         ·intro w'
          go_simp
          with_reducible rfl
         rotate_left
         ·simp only [Act.put,List.setIfInBounds_toArray,List.set_cons_zero,List.set_cons_succ,i64_w,i32_w]
          rfl
         refine pure_ (i:=5) (N:=some 35) (v:=?_) (a':=?_) #[true,false,false,false,false,true,false,false,false,false,false,false] rfl rfl (any_of HT_.out (by kernel_rfl)) (fun _ _ _ h=>h) (Or.inl ⟨by rfl,?_⟩) ?_ ?_
         rotate_left
         ·intro w'
          go_simp
          with_reducible rfl
         rotate_left
         ·simp only [Act.put,List.setIfInBounds_toArray,List.set_cons_zero,List.set_cons_succ,i64_w,i32_w]
          rfl
         refine take_ (i:=1) (N:=some 31) (v:=?_) (a':=?_) #[true,true,false,false,false,true,false,false,false,false,false,false] rfl rfl (take_ofW HT_.out HW_.out (by kernel_rfl)) (fun _ _ _ h=>h) (Or.inl ⟨by rfl,?_⟩) hHeld ?_ ?_
         rotate_left
         ·rintro w' ⟨s0,s1,s2,s3,s4,s5,s6,s7,s8,s9,s10,s11⟩
          go_simp
          with_reducible rfl
         rotate_left
         ·simp only [Act.put,List.setIfInBounds_toArray,List.set_cons_zero,List.set_cons_succ,i64_w,i32_w]
          rfl
         refine pure_ (i:=2) (N:=some 32) (v:=?_) (a':=?_) #[true,true,true,false,false,true,false,false,false,false,false,false] rfl rfl (any_of HT_.out (by kernel_rfl)) (fun _ _ _ h=>h) (Or.inl ⟨by rfl,?_⟩) ?_ ?_
         rotate_left
         ·intro w'
          go_simp
          with_reducible rfl
         rotate_left
         ·simp only [Act.put,List.setIfInBounds_toArray,List.set_cons_zero,List.set_cons_succ,i64_w,i32_w]
          rfl
         refine take_ (i:=3) (N:=some 33) (v:=?_) (a':=?_) #[true,true,true,true,false,true,false,false,false,false,false,false] rfl rfl (take_ofW HT_.out HW_.out (by kernel_rfl)) (fun _ _ _ h=>h) (Or.inl ⟨by rfl,?_⟩) hHeld ?_ ?_
         rotate_left
         ·rintro w' ⟨s0,s1,s2,s3,s4,s5,s6,s7,s8,s9,s10,s11⟩
          go_simp
          with_reducible rfl
         rotate_left
         ·simp only [Act.put,List.setIfInBounds_toArray,List.set_cons_zero,List.set_cons_succ,i64_w,i32_w]
          rfl
         refine take_ (i:=6) (N:=some 36) (v:=?_) (a':=?_) #[true,true,true,true,false,true,true,false,false,false,false,false] rfl rfl (take_ofW HT_.out HW_.out (by kernel_rfl)) (fun _ _ _ h=>h) (Or.inl ⟨by rfl,?_⟩) hHeld ?_ ?_
         rotate_left
         ·rintro w' ⟨s0,s1,s2,s3,s4,s5,s6,s7,s8,s9,s10,s11⟩
          go_simp
          with_reducible rfl
         rotate_left
         ·simp only [Act.put,List.setIfInBounds_toArray,List.set_cons_zero,List.set_cons_succ,i64_w,i32_w]
          rfl
         refine pure_ (i:=7) (N:=some 37) (v:=?_) (a':=?_) #[true,true,true,true,false,true,true,true,false,false,false,false] rfl rfl (any_of HT_.out (by kernel_rfl)) (fun _ _ _ h=>h) (Or.inl ⟨by rfl,?_⟩) ?_ ?_
         rotate_left
         ·intro w'
          go_simp
          with_reducible rfl
         rotate_left
         ·simp only [Act.put,List.setIfInBounds_toArray,List.set_cons_zero,List.set_cons_succ,i64_w,i32_w]
          rfl
         refine take_ (i:=8) (N:=some 38) (v:=?_) (a':=?_) #[true,true,true,true,false,true,true,true,true,false,false,false] rfl rfl (take_ofW HT_.out HW_.out (by kernel_rfl)) (fun _ _ _ h=>h) (Or.inl ⟨by rfl,?_⟩) hHeld ?_ ?_
         rotate_left
         ·rintro w' ⟨s0,s1,s2,s3,s4,s5,s6,s7,s8,s9,s10,s11⟩
          go_simp
          with_reducible rfl
         rotate_left
         ·simp only [Act.put,List.setIfInBounds_toArray,List.set_cons_zero,List.set_cons_succ,i64_w,i32_w]
          rfl
         refine one_ (i:=4) (N:=some 34) #[true,true,true,true,true,true,true,true,true,false,false,false] rfl rfl (one_of HT_.out (by kernel_rfl)) (by decide) (fun K hK=>?_)
         refine goes_ Try.func51 (by kernel_rfl) rfl #[.agg #[.int .i64 ((rd_TDoc l0_3 0).f0),.int .i64 ((rd_TDoc l0_3 0).f1),.string ((rd_TDoc l0_3 0).f2),.slice A798_3 ((rd_TDoc l0_3 0).f3).length c798_3]] (by rfl) rfl rfl (by (try simp only [List.map_toArray,List.map_cons,List.map_nil]);first|done|rfl|(simp only [List.length_drop,List.length_take];rfl)) ?_
         with_reducible refine (ih kj6 (by have:=HJ6.out;omega) ((rd_TDoc l0_3 0).f0) ((rd_TDoc l0_3 0).f1) ((rd_TDoc l0_3 0).f2) _ _ ((rd_TDoc l0_3 0).f3) t799 _ ?side1 ?side2 A25.out).mono ?_
         (case side1=>exact gC (Kd.C_below HR798_3.out HB.out))
         (case side2=>exact HC798_3.out)
         rintro e w30 ⟨v800,rfl,ho0,hb⟩
         refine ⟨_,rfl,?_⟩
         have n0_:=Aside0.mk (Kd.R_lower ho0 (below_size (by repeat (first|exact gB HB|refine below_set ?_ GE784.out))))
         have n1_:=Aside0.mk (blk_below (g:=gb784) (o:=.cells #[.int .i64 a0_0,.int .i64 a0_1,.string a0_2,.slice (some ad798) l0_3.length c0_3] 39 (0,0)) (gK BK784) hb)
         have n2_:=Aside0.mk (below_step (by repeat (first|exact gB HB|refine below_set ?_ GE784.out)) hb)
         clear BK784
         clear HB
         have HO801:=n0_
         have BK784:=n1_
         have HB:=n2_
         clear n0_ n1_ n2_
         (try clear hb)
         (try clear hb2)
         (try clear hk)
         (try clear hi)
         (try clear ho0)
         refine hK.out _ _ ⟨(blk_cell BK784.out 0).trans rfl,(blk_cell BK784.out 1).trans rfl,(blk_cell BK784.out 2).trans rfl,(blk_cell BK784.out 3).trans rfl,((HB.out.cell (World.block_lt_of_cell? w _ hw798_0)).trans hw798_0),((HB.out.cell (World.block_lt_of_cell? w _ hw798_1)).trans hw798_1),((HB.out.cell (World.block_lt_of_cell? w _ hw798_2)).trans hw798_2),((HB.out.cell (World.block_lt_of_cell? w _ hw798_3)).trans hw798_3),((HB.out.cell (World.block_lt_of_cell? w _ hw802_0)).trans hw802_0),((HB.out.cell (World.block_lt_of_cell? w _ hw802_1)).trans hw802_1),((HB.out.cell (World.block_lt_of_cell? w _ hw802_2)).trans hw802_2),((HB.out.cell (World.block_lt_of_cell? w _ hw802_3)).trans hw802_3)⟩ (fun hHeld=>?_)
         clear hK K
         refine norm_ (a':=?_) ?_ ?_
         rotate_left
         ·show Act.put _ (some 34) _=_
          simp only [Act.put,List.setIfInBounds_toArray,List.set_cons_zero,List.set_cons_succ,i64_w,i32_w]
          rfl
         refine one_ (i:=9) (N:=some 39) #[true,true,true,true,true,true,true,true,true,true,false,false] rfl rfl (one_of HT_.out (by kernel_rfl)) (by decide) (fun K hK=>?_)
         refine goes_ Try.func51 (by kernel_rfl) rfl #[.agg #[.int .i64 ((rd_TDoc l0_3 1).f0),.int .i64 ((rd_TDoc l0_3 1).f1),.string ((rd_TDoc l0_3 1).f2),.slice A802_3 ((rd_TDoc l0_3 1).f3).length c802_3]] (by rfl) rfl rfl (by (try simp only [List.map_toArray,List.map_cons,List.map_nil]);first|done|rfl|(simp only [List.length_drop,List.length_take];rfl)) ?_
         with_reducible refine (ih kj6 (by have:=HJ6.out;omega) ((rd_TDoc l0_3 1).f0) ((rd_TDoc l0_3 1).f1) ((rd_TDoc l0_3 1).f2) _ _ ((rd_TDoc l0_3 1).f3) t803 _ ?side1 ?side2 A27.out).mono ?_
         (case side1=>exact gC (Kd.C_below HR802_3.out HB.out))
         (case side2=>exact HC802_3.out)
         rintro e w31 ⟨v804,rfl,ho0,hb⟩
         refine ⟨_,rfl,?_⟩
         have n0_:=Aside0.mk (Kd.R_elder' (gR HO801) (Kd.R_base ho0) hb)
         have n1_:=Aside0.mk (Kd.R_lower (Kd.R_new' ho0 (Kd.R_lt (gR HO801))) (below_size (by repeat (first|exact gB HB|refine below_set ?_ GE784.out))))
         have n2_:=Aside0.mk (blk_below (g:=gb784) (o:=.cells #[.int .i64 a0_0,.int .i64 a0_1,.string a0_2,.slice (some ad798) l0_3.length c0_3] 39 (0,0)) (gK BK784) hb)
         have n3_:=Aside0.mk (below_step (by repeat (first|exact gB HB|refine below_set ?_ GE784.out)) hb)
         clear HO801
         clear BK784
         clear HB
         have HO801:=n0_
         have HO805:=n1_
         have BK784:=n2_
         have HB:=n3_
         clear n0_ n1_ n2_ n3_
         (try clear hb)
         (try clear hb2)
         (try clear hk)
         (try clear hi)
         (try clear ho0)
         obtain ⟨Ao32,co32,eo32⟩:=Kd.R_slice HO801.out
         (first|subst eo32|(injection eo32 with f1_ f2_ f3_;have f4_:=f1_.symm;have f5_:=f3_.symm;clear f1_ f2_ f3_;subst f4_;subst f5_))
         obtain ⟨Ao33,co33,eo33⟩:=Kd.R_slice HO805.out
         (first|subst eo33|(injection eo33 with f1_ f2_ f3_;have f4_:=f1_.symm;have f5_:=f3_.symm;clear f1_ f2_ f3_;subst f4_;subst f5_))
         refine hK.out _ _ ⟨(blk_cell BK784.out 0).trans rfl,(blk_cell BK784.out 1).trans rfl,(blk_cell BK784.out 2).trans rfl,(blk_cell BK784.out 3).trans rfl,((HB.out.cell (World.block_lt_of_cell? w _ hw798_0)).trans hw798_0),((HB.out.cell (World.block_lt_of_cell? w _ hw798_1)).trans hw798_1),((HB.out.cell (World.block_lt_of_cell? w _ hw798_2)).trans hw798_2),((HB.out.cell (World.block_lt_of_cell? w _ hw798_3)).trans hw798_3),((HB.out.cell (World.block_lt_of_cell? w _ hw802_0)).trans hw802_0),((HB.out.cell (World.block_lt_of_cell? w _ hw802_1)).trans hw802_1),((HB.out.cell (World.block_lt_of_cell? w _ hw802_2)).trans hw802_2),((HB.out.cell (World.block_lt_of_cell? w _ hw802_3)).trans hw802_3)⟩ (fun hHeld=>?_)
         clear hK K
         refine norm_ (a':=?_) ?_ ?_
         rotate_left
         ·show Act.put _ (some 39) _=_
          simp only [Act.put,List.setIfInBounds_toArray,List.set_cons_zero,List.set_cons_succ,i64_w,i32_w]
          rfl
         refine one_ (i:=10) (N:=some 40) #[true,true,true,true,true,true,true,true,true,true,true,false] rfl rfl (one_of HT_.out (by kernel_rfl)) (by decide) (fun K hK=>?_)
         refine goes_ Try.func42 (by kernel_rfl) rfl #[.slice Ao32 t799.length co32,.slice Ao33 t803.length co33] (by rfl) rfl rfl (by (try simp only [List.map_toArray,List.map_cons,List.map_nil]);first|done|rfl|(simp only [List.length_drop,List.length_take];rfl)) ?_
         with_reducible refine (impl_catRows.calls _ _ t799 _ _ t803 t806 _ ?side1 ?side2 ?side3 ?side4 A28.out).mono ?_
         (case side1=>exact gC ((Kd.R_reads' HO801.out).2.2))
         (case side2=>exact (Kd.R_reads' HO801.out).2.1)
         (case side3=>exact gC ((Kd.R_reads' HO805.out).2.2))
         (case side4=>exact (Kd.R_reads' HO805.out).2.1)
         rintro e w34 ⟨v807,rfl,ho0,hb⟩
         refine ⟨_,rfl,?_⟩
         have n0_:=Aside0.mk (Kd.R_elder' (gR HO801) (Kd.R_base ho0) hb)
         have n1_:=Aside0.mk (Kd.R_elder' (gR HO805) (Kd.R_base ho0) hb)
         have n2_:=Aside0.mk (Kd.R_lower (Kd.R_new' (Kd.R_new' ho0 (Kd.R_lt (gR HO801))) (Kd.R_lt (gR HO805))) (below_size (by repeat (first|exact gB HB|refine below_set ?_ GE784.out))))
         have n3_:=Aside0.mk (blk_below (g:=gb784) (o:=.cells #[.int .i64 a0_0,.int .i64 a0_1,.string a0_2,.slice (some ad798) l0_3.length c0_3] 39 (0,0)) (gK BK784) hb)
         have n4_:=Aside0.mk (below_step (by repeat (first|exact gB HB|refine below_set ?_ GE784.out)) hb)
         clear HO801
         clear HO805
         clear BK784
         clear HB
         have HO801:=n0_
         have HO805:=n1_
         have HO808:=n2_
         have BK784:=n3_
         have HB:=n4_
         clear n0_ n1_ n2_ n3_ n4_
         (try clear hb)
         (try clear hb2)
         (try clear hk)
         (try clear hi)
         (try clear ho0)
         refine hK.out _ _ ⟨(blk_cell BK784.out 0).trans rfl,(blk_cell BK784.out 1).trans rfl,(blk_cell BK784.out 2).trans rfl,(blk_cell BK784.out 3).trans rfl,((HB.out.cell (World.block_lt_of_cell? w _ hw798_0)).trans hw798_0),((HB.out.cell (World.block_lt_of_cell? w _ hw798_1)).trans hw798_1),((HB.out.cell (World.block_lt_of_cell? w _ hw798_2)).trans hw798_2),((HB.out.cell (World.block_lt_of_cell? w _ hw798_3)).trans hw798_3),((HB.out.cell (World.block_lt_of_cell? w _ hw802_0)).trans hw802_0),((HB.out.cell (World.block_lt_of_cell? w _ hw802_1)).trans hw802_1),((HB.out.cell (World.block_lt_of_cell? w _ hw802_2)).trans hw802_2),((HB.out.cell (World.block_lt_of_cell? w _ hw802_3)).trans hw802_3)⟩ (fun hHeld=>?_)
         clear hK K
         refine norm_ (a':=?_) ?_ ?_
         rotate_left
         ·show Act.put _ (some 40) _=_
          simp only [Act.put,List.setIfInBounds_toArray,List.set_cons_zero,List.set_cons_succ,i64_w,i32_w]
          rfl
         refine pure_ (i:=11) (N:=some 2) (v:=?_) (a':=?_) #[true,true,true,true,true,true,true,true,true,true,true,true] rfl rfl (any_of HT_.out (by kernel_rfl)) (fun _ _ _ h=>h) (Or.inl ⟨by rfl,?_⟩) ?_ ?_
         rotate_left
         ·intro w'
          go_simp
          with_reducible rfl
         rotate_left
         ·simp only [Act.put,List.setIfInBounds_toArray,List.set_cons_zero,List.set_cons_succ,i64_w,i32_w]
          rfl
         refine done_ (done_of HT_.out (by kernel_rfl)) ?_
         try go_wp2
         go_ret
         exact ⟨_,by first|rfl|(simp [errW_none,errW_some] <;> rfl)|(simp [*,errW_none,errW_some] <;> rfl),by (with_reducible repeat (first|apply Kd.R_alloc|apply Kd.R_drewN|apply Kd.R_drew));exact Kd.R_mono HO808.out (fun _ hk=>trivial),by repeat (first|exact gB HB|refine below_set ?_ GE784.out)⟩
        ·rw [if_neg c26] at H
         exact absurd H (by simp)
       ·rw [if_neg c24] at H
        exact absurd H (by simp)
      ·rw [if_neg c23] at H
       have c23b0:(a0_0 == 7)=false:=beq_eq_false_iff_ne.mpr c23
       have c23b1:(a0_0 != 7)=true:=bne_iff_ne.mpr c23
       by_cases c35:a0_0=8
       ·rw [if_pos c35] at H
        have c35b0:(a0_0 == 8)=true:=beq_iff_eq.mpr c35
        have c35b1:(a0_0 != 8)=false:=bne_eq_false_iff_eq.mpr c35
        clear c35
        by_cases c36:0<(l0_3.length:Int)
        ·rw [if_pos c36] at H
         have c36b0:decide (0<(l0_3.length:Int))=true:=decide_eq_true c36
         have c36b1:decide (0<l0_3.length)=true:=decide_eq_true (by omega)
         clear c36
         replace H:=Option.bind_eq_some_iff.mp H
         obtain ⟨t810,A370,H⟩:=H
         replace H:(some t810)=some r:=H
         have A37:=Aside0.mk A370
         clear A370
         obtain rfl:=Option.some.inj H
         have hcz38_0:wc.cell? ⟨gb784,0,none⟩=some (.int .i64 a0_0):=(blk_cell BK784.out 0).trans rfl
         have hcz38_1:wc.cell? ⟨gb784,1,none⟩=some (.int .i64 a0_1):=(blk_cell BK784.out 1).trans rfl
         have hcz38_2:wc.cell? ⟨gb784,2,none⟩=some (.string a0_2):=(blk_cell BK784.out 2).trans rfl
         have hcz38_3:wc.cell? ⟨gb784,3,none⟩=some (.slice A0_3 l0_3.length c0_3):=(blk_cell BK784.out 3).trans rfl
         have hfz38_0:=blk_frozen BK784.out 0
         have hfz38_1:=blk_frozen BK784.out 1
         have hfz38_2:=blk_frozen BK784.out 2
         have hfz38_3:=blk_frozen BK784.out 3
         have p809:0≤(0:Int):=(by omega)
         have q809:0<(l0_3.length:Int):=of_decide_eq_true (by first|(with_reducible assumption)|assumption)
         (try clear hx798_0);(try clear hx798_1);(try clear hx798_2);(try clear hx798_3)
         obtain ⟨ad809,A809_3,c809_3,e809,hx809_0,hx809_1,hx809_2,hx809_3,hl809_3,hi809_3⟩:=at_TDoc HR0_3.out 0 p809 q809
         cases e809
         (try (have ea_:=Option.some.inj (hx809_3.symm.trans hw798_3);injection ea_ with ea_ en_ ec_;subst ea_;subst ec_;clear en_))
         have qi809:(0<l0_3.length)=True:=eq_true (by omega)
         (try rw [show ((0:Int)).toNat=0 from rfl] at hx809_0)
         (try rw [show 0 * 4=0 from rfl] at hx809_0)
         (try rw [Addr.add_zero'] at hx809_0)
         (try rw [show ((0:Int)).toNat=0 from rfl] at hx809_1)
         (try rw [show 0 * 4=0 from rfl] at hx809_1)
         (try rw [Addr.add_zero'] at hx809_1)
         (try rw [show ((0:Int)).toNat=0 from rfl] at hx809_2)
         (try rw [show 0 * 4=0 from rfl] at hx809_2)
         (try rw [Addr.add_zero'] at hx809_2)
         (try rw [show ((0:Int)).toNat=0 from rfl] at hx809_3)
         (try rw [show 0 * 4=0 from rfl] at hx809_3)
         (try rw [Addr.add_zero'] at hx809_3)
         replace hx809_0:=(HB.out.cell (World.block_lt_of_cell? w _ hx809_0)).trans hx809_0
         replace hx809_1:=(HB.out.cell (World.block_lt_of_cell? w _ hx809_1)).trans hx809_1
         replace hx809_2:=(HB.out.cell (World.block_lt_of_cell? w _ hx809_2)).trans hx809_2
         replace hx809_3:=(HB.out.cell (World.block_lt_of_cell? w _ hx809_3)).trans hx809_3
         have HR809_3:=Aside0.mk hi809_3
         have HC809_3:=Aside0.mk hl809_3
         clear hi809_3 hl809_3
         replace p809:=eq_true p809
         replace q809:=eq_true q809
         go_wp2_with (first|((with_reducible refine gate_callee (f:=51) rfl ?_);refine goesL_ (some 47) rfl rfl Try.func51 (by kernel_rfl) rfl #[.agg #[.int .i64 ((rd_TDoc l0_3 0).f0),.int .i64 ((rd_TDoc l0_3 0).f1),.string ((rd_TDoc l0_3 0).f2),.slice A809_3 ((rd_TDoc l0_3 0).f3).length c809_3]] rfl (by (try simp only [List.map_toArray,List.map_cons,List.map_nil]);first|done|rfl|(simp only [List.length_drop,List.length_take];rfl)) ?_;(with_reducible refine (ih kj6 (by have:=HJ6.out;omega) ((rd_TDoc l0_3 0).f0) ((rd_TDoc l0_3 0).f1) ((rd_TDoc l0_3 0).f2) _ _ ((rd_TDoc l0_3 0).f3) t810 _ ?side1 ?side2 A37.out).mono ?_);(case side1=>exact gC (Kd.C_below HR809_3.out HB.out));(case side2=>exact HC809_3.out);rintro e w39 ⟨v811,rfl,ho0,hb⟩;refine ⟨_,rfl,?_⟩;have n0_:=Aside0.mk (Kd.R_lower ho0 (below_size (by repeat (first|exact gB HB|refine below_set ?_ GE784.out))));have n1_:=Aside0.mk (blk_below (g:=gb784) (o:=.cells #[.int .i64 a0_0,.int .i64 a0_1,.string a0_2,.slice (some ad809) l0_3.length c0_3] 39 (0,0)) (gK BK784) hb);have n2_:=Aside0.mk (below_step (by repeat (first|exact gB HB|refine below_set ?_ GE784.out)) hb);clear BK784;clear HB;have HO812:=n0_;have BK784:=n1_;have HB:=n2_;clear n0_ n1_ n2_;(try clear hb);(try clear hb2);(try clear hk);(try clear hi);(try clear ho0)))
         go_ret
         exact ⟨_,by first|rfl|(simp [errW_none,errW_some] <;> rfl)|(simp [*,errW_none,errW_some] <;> rfl),gR HO812,by repeat (first|exact gB HB|refine below_set ?_ GE784.out)⟩
        ·rw [if_neg c36] at H
         exact absurd H (by simp)
       ·rw [if_neg c35] at H
        have c35b0:(a0_0 == 8)=false:=beq_eq_false_iff_ne.mpr c35
        have c35b1:(a0_0 != 8)=true:=bne_iff_ne.mpr c35
        obtain ⟨y813,hy813⟩:∃ y_:List (SRow),y_=(([(⟨0,(⟨#[]⟩:ByteArray)⟩:SRow)]:List (SRow))):=⟨_,rfl⟩
        replace H:(some y813)=some r:=by first|(rw [hy813];with_reducible exact H)|(have H2_:=(Option.bind_some _ _).symm.trans H;rw [hy813];with_reducible exact H2_)|(have H2_:=(Option.bind_some _ _).symm.trans H;with_reducible exact H2_)|with_reducible exact H|(rw [hy813];exact H)|exact H
        have Ny813:=Aside0.mk hy813
        clear hy813
        obtain rfl:=Option.some.inj H
        go_wp2_with (first|((with_reducible refine gate_dst (N:=49) rfl ?_);refine Kd.R_lit k30 _ 30 ?hg (N:=49) ?hd (xs:=([(⟨0,(⟨#[]⟩:ByteArray)⟩:SRow)]:List (SRow))) (inner:=[.int .i64 0,.string (⟨#[]⟩:ByteArray)]) (ok:=fun _=>True) (okp:=fun _=>True) ?hr ?hp (fun _ hk=>hk) trivial (Below.refl _ _) (Nat.le_refl _) (by simp) ?_;(case hd=>rfl);(case hg=>rfl);(case hr=>first|(go_simp;done)|(go_simp;rfl));(case hp=>exact (Reps.c2 (show Kd.M k30 _ _ _ (⟨0,(⟨#[]⟩:ByteArray)⟩:SRow) [.int .i64 0,.string (⟨#[]⟩:ByteArray)] from (k30_mkM _ _ _ (⟨0,(⟨#[]⟩:ByteArray)⟩:SRow) )) (Reps.none _ _)));intro v814 w40 ho41 hb hg_ hnew_;clear hg_ hnew_;(first|rw [← Ny813.out] at ho41|(simp only [Int.reduceToNat] at ho41;rw [← Ny813.out] at ho41));have n0_:=Aside0.mk (Kd.R_lower ho41 (below_size (by repeat (first|exact gB HB|refine below_set ?_ GE784.out))));have n1_:=Aside0.mk (blk_below (g:=gb784) (o:=.cells #[.int .i64 a0_0,.int .i64 a0_1,.string a0_2,.slice A0_3 l0_3.length c0_3] 39 (0,0)) (gK BK784) hb);have n2_:=Aside0.mk (below_step (by repeat (first|exact gB HB|refine below_set ?_ GE784.out)) hb);clear BK784;clear HB;have HO815:=n0_;have BK784:=n1_;have HB:=n2_;clear n0_ n1_ n2_;clear hb ho41))
        go_ret
        exact ⟨_,by first|rfl|(simp [errW_none,errW_some] <;> rfl)|(simp [*,errW_none,errW_some] <;> rfl),gR HO815,by repeat (first|exact gB HB|refine below_set ?_ GE784.out)⟩
end Go.Proofs.Ytdhdfmmefghijab.P
namespace Go.Proofs.Ytdhdfmmefghijab.P
open Go.RowKit Go.Proofs.YtdhdfmmefghijabW.PrintWords Go.Proofs.YtdhdfmmefghijabW.PrintLast Go.Proofs.YtdhdfmmefghijabW.PrintMore
attribute [local go_sem] max2_int min2_int max_two min_two max_three min_three max_four min_four
set_option linter.unusedVariables false
set_option linter.unusedSimpArgs false
def impl_OpenLayout.f (k:Nat) (a0_0:Int) (a0_1:Int) (a0_2:ByteArray) (l0_3:List (SDoc)):Option ((List (SRow))×Bool):=(impl_DocValid.f k a0_0 a0_1 a0_2 l0_3).bind fun t817=>(if t817=true then ((impl_openRows.f k a0_0 a0_1 a0_2 l0_3).bind fun t818=>(some (t818,true))) else (some (([]:List (SRow)),false)))
set_option maxHeartbeats 8000000 in
set_option maxRecDepth 100000 in
theorem impl_OpenLayout.calls (k:Nat) (a0_0:Int) (a0_1:Int) (a0_2:ByteArray) (A0_3:Option Addr) (c0_3:Nat) (l0_3:List (SDoc)) (r1:List (SRow)) (r2:Bool) (w:World) (hr0_3:Kd.C k39 w A0_3 l0_3.length l0_3) (hc0_3:l0_3.length≤c0_3) (h:impl_OpenLayout.f k a0_0 a0_1 a0_2 l0_3=some (r1,r2)) :
  Calls Try.prog 24 #[.agg #[.int .i64 a0_0,.int .i64 a0_1,.string a0_2,.slice A0_3 l0_3.length c0_3]] w fun e w'=>∃ v0_:Value,e=.returned (.tuple #[v0_,.bool r2])∧Kd.R k30 30 w' w.heap.size (fun _=>True) v0_ r1∧Below w.heap.size w w':=by
 have hu39:=Try.underlying39
 have HR0_3:=Aside0.mk hr0_3
 have HC0_3:=Aside0.mk hc0_3
 clear hr0_3 hc0_3
 have HB:=Aside0.mk (Below.refl w.heap.size w)
 have H:((impl_DocValid.f k a0_0 a0_1 a0_2 l0_3).bind fun t817=>(if t817=true then ((impl_openRows.f k a0_0 a0_1 a0_2 l0_3).bind fun t818=>(some (t818,true))) else (some (([]:List (SRow)),false))))=some (r1,r2):=h
 clear h
 replace H:=Option.bind_eq_some_iff.mp H
 obtain ⟨t817,A20,H⟩:=H
 replace H:(if t817=true then ((impl_openRows.f k a0_0 a0_1 a0_2 l0_3).bind fun t818=>(some (t818,true))) else (some (([]:List (SRow)),false)))=some (r1,r2):=H
 have A2:=Aside0.mk A20
 clear A20
 by_cases c3:t817=true
 ·subst c3
  have H1:((impl_openRows.f k a0_0 a0_1 a0_2 l0_3).bind fun t818=>(some (t818,true)))=some (r1,r2):=by rw [if_pos rfl] at H;exact H
  clear H
  have H:=H1
  clear H1
  replace H:=Option.bind_eq_some_iff.mp H
  obtain ⟨t818,A40,H⟩:=H
  replace H:(some (t818,true))=some (r1,r2):=H
  have A4:=Aside0.mk A40
  clear A40
  simp only [Option.some.injEq,Prod.mk.injEq] at H
  obtain ⟨rfl,rfl⟩:=H
  go_enter Try.func24,Try.ntmps24
  go_wp2_with (first|((with_reducible refine gate_dst (N:=1) rfl ?_);refine box_event ?hg (N:=1) ?hd (cs:=#[.int .i64 a0_0,.int .i64 a0_1,.string a0_2,.slice A0_3 l0_3.length c0_3]) (t:=39) ?hr ?_;(case hd=>rfl);(case hg=>rfl);(case hr=>first|(go_simp;done)|(go_simp;rfl));intro gb816 hg w5 hbox hb;have n0_:=Aside0.mk (below_step (gB HB) hb);have n1_:=Aside0.mk (hbox);have n2_:=Aside0.mk ((by rw [hg];exact (below_size (gB HB)):w.heap.size≤gb816));have n3_:=Aside0.mk ((by rw [hg];exact (below_size (gB HB)):w.heap.size≤gb816));clear HB;have HB:=n0_;have BK816:=n1_;have GW816:=n2_;have GE816:=n3_;clear n0_ n1_ n2_ n3_;clear hb hbox hg;have hcz6_0:w5.cell? ⟨gb816,0,none⟩=some (.int .i64 a0_0):=(blk_cell BK816.out 0).trans rfl;have hcz6_1:w5.cell? ⟨gb816,1,none⟩=some (.int .i64 a0_1):=(blk_cell BK816.out 1).trans rfl;have hcz6_2:w5.cell? ⟨gb816,2,none⟩=some (.string a0_2):=(blk_cell BK816.out 2).trans rfl;have hcz6_3:w5.cell? ⟨gb816,3,none⟩=some (.slice A0_3 l0_3.length c0_3):=(blk_cell BK816.out 3).trans rfl;have hfz6_0:=blk_frozen BK816.out 0;have hfz6_1:=blk_frozen BK816.out 1;have hfz6_2:=blk_frozen BK816.out 2;have hfz6_3:=blk_frozen BK816.out 3)|((with_reducible refine gate_callee (f:=50) rfl ?_);refine goesL_ (some 5) rfl rfl Try.func50 (by kernel_rfl) rfl #[.agg #[.int .i64 a0_0,.int .i64 a0_1,.string a0_2,.slice A0_3 l0_3.length c0_3]] rfl (by (try simp only [List.map_toArray,List.map_cons,List.map_nil]);first|done|rfl|(simp only [List.length_drop,List.length_take];rfl)) ?_;(with_reducible refine (impl_DocValid.calls k a0_0 a0_1 a0_2 _ _ l0_3 true _ ?side1 ?side2 A2.out).mono ?_);(case side1=>exact gC (Kd.C_below HR0_3.out HB.out));(case side2=>exact HC0_3.out);rintro e w7 ⟨rfl,hb⟩;refine ⟨_,rfl,?_⟩;have n0_:=Aside0.mk (blk_below (g:=gb816) (o:=.cells #[.int .i64 a0_0,.int .i64 a0_1,.string a0_2,.slice A0_3 l0_3.length c0_3] 39 (0,0)) (gK BK816) hb);have n1_:=Aside0.mk (below_step (by repeat (first|exact gB HB|refine below_set ?_ GE816.out)) hb);clear BK816;clear HB;have BK816:=n0_;have HB:=n1_;clear n0_ n1_;(try clear hb);(try clear hb2);(try clear hk);(try clear hi);have hcz8_0:w7.cell? ⟨gb816,0,none⟩=some (.int .i64 a0_0):=(blk_cell BK816.out 0).trans rfl;have hcz8_1:w7.cell? ⟨gb816,1,none⟩=some (.int .i64 a0_1):=(blk_cell BK816.out 1).trans rfl;have hcz8_2:w7.cell? ⟨gb816,2,none⟩=some (.string a0_2):=(blk_cell BK816.out 2).trans rfl;have hcz8_3:w7.cell? ⟨gb816,3,none⟩=some (.slice A0_3 l0_3.length c0_3):=(blk_cell BK816.out 3).trans rfl;have hfz8_0:=blk_frozen BK816.out 0;have hfz8_1:=blk_frozen BK816.out 1;have hfz8_2:=blk_frozen BK816.out 2;have hfz8_3:=blk_frozen BK816.out 3)|((with_reducible refine gate_callee (f:=51) rfl ?_);refine goesL_ (some 8) rfl rfl Try.func51 (by kernel_rfl) rfl #[.agg #[.int .i64 a0_0,.int .i64 a0_1,.string a0_2,.slice A0_3 l0_3.length c0_3]] rfl (by (try simp only [List.map_toArray,List.map_cons,List.map_nil]);first|done|rfl|(simp only [List.length_drop,List.length_take];rfl)) ?_;(with_reducible refine (impl_openRows.calls k a0_0 a0_1 a0_2 _ _ l0_3 t818 _ ?side1 ?side2 A4.out).mono ?_);(case side1=>exact gC (Kd.C_below HR0_3.out HB.out));(case side2=>exact HC0_3.out);rintro e w9 ⟨v819,rfl,ho0,hb⟩;refine ⟨_,rfl,?_⟩;have n0_:=Aside0.mk (Kd.R_lower ho0 (below_size (by repeat (first|exact gB HB|refine below_set ?_ GE816.out))));have n1_:=Aside0.mk (blk_below (g:=gb816) (o:=.cells #[.int .i64 a0_0,.int .i64 a0_1,.string a0_2,.slice A0_3 l0_3.length c0_3] 39 (0,0)) (gK BK816) hb);have n2_:=Aside0.mk (below_step (by repeat (first|exact gB HB|refine below_set ?_ GE816.out)) hb);clear BK816;clear HB;have HO820:=n0_;have BK816:=n1_;have HB:=n2_;clear n0_ n1_ n2_;(try clear hb);(try clear hb2);(try clear hk);(try clear hi);(try clear ho0)))
  go_ret2
  exact ⟨_,by first|rfl|(simp [errW_none,errW_some] <;> rfl)|(simp [*,errW_none,errW_some] <;> rfl),gR HO820,by repeat (first|exact gB HB|refine below_set ?_ GE816.out)⟩
 ·replace c3:=Bool.eq_false_iff.mpr c3
  subst c3
  have H1:(some (([]:List (SRow)),false))=some (r1,r2):=by rw [if_neg (show ¬ (false=true) by decide)] at H;exact H
  clear H
  have H:=H1
  clear H1
  simp only [Option.some.injEq,Prod.mk.injEq] at H
  obtain ⟨rfl,rfl⟩:=H
  go_enter Try.func24,Try.ntmps24
  go_wp2_with (first|((with_reducible refine gate_dst (N:=1) rfl ?_);refine box_event ?hg (N:=1) ?hd (cs:=#[.int .i64 a0_0,.int .i64 a0_1,.string a0_2,.slice A0_3 l0_3.length c0_3]) (t:=39) ?hr ?_;(case hd=>rfl);(case hg=>rfl);(case hr=>first|(go_simp;done)|(go_simp;rfl));intro gb816 hg w10 hbox hb;have n0_:=Aside0.mk (below_step (gB HB) hb);have n1_:=Aside0.mk (hbox);have n2_:=Aside0.mk ((by rw [hg];exact (below_size (gB HB)):w.heap.size≤gb816));have n3_:=Aside0.mk ((by rw [hg];exact (below_size (gB HB)):w.heap.size≤gb816));clear HB;have HB:=n0_;have BK816:=n1_;have GW816:=n2_;have GE816:=n3_;clear n0_ n1_ n2_ n3_;clear hb hbox hg;have hcz11_0:w10.cell? ⟨gb816,0,none⟩=some (.int .i64 a0_0):=(blk_cell BK816.out 0).trans rfl;have hcz11_1:w10.cell? ⟨gb816,1,none⟩=some (.int .i64 a0_1):=(blk_cell BK816.out 1).trans rfl;have hcz11_2:w10.cell? ⟨gb816,2,none⟩=some (.string a0_2):=(blk_cell BK816.out 2).trans rfl;have hcz11_3:w10.cell? ⟨gb816,3,none⟩=some (.slice A0_3 l0_3.length c0_3):=(blk_cell BK816.out 3).trans rfl;have hfz11_0:=blk_frozen BK816.out 0;have hfz11_1:=blk_frozen BK816.out 1;have hfz11_2:=blk_frozen BK816.out 2;have hfz11_3:=blk_frozen BK816.out 3)|((with_reducible refine gate_callee (f:=50) rfl ?_);refine goesL_ (some 5) rfl rfl Try.func50 (by kernel_rfl) rfl #[.agg #[.int .i64 a0_0,.int .i64 a0_1,.string a0_2,.slice A0_3 l0_3.length c0_3]] rfl (by (try simp only [List.map_toArray,List.map_cons,List.map_nil]);first|done|rfl|(simp only [List.length_drop,List.length_take];rfl)) ?_;(with_reducible refine (impl_DocValid.calls k a0_0 a0_1 a0_2 _ _ l0_3 false _ ?side1 ?side2 A2.out).mono ?_);(case side1=>exact gC (Kd.C_below HR0_3.out HB.out));(case side2=>exact HC0_3.out);rintro e w12 ⟨rfl,hb⟩;refine ⟨_,rfl,?_⟩;have n0_:=Aside0.mk (blk_below (g:=gb816) (o:=.cells #[.int .i64 a0_0,.int .i64 a0_1,.string a0_2,.slice A0_3 l0_3.length c0_3] 39 (0,0)) (gK BK816) hb);have n1_:=Aside0.mk (below_step (by repeat (first|exact gB HB|refine below_set ?_ GE816.out)) hb);clear BK816;clear HB;have BK816:=n0_;have HB:=n1_;clear n0_ n1_;(try clear hb);(try clear hb2);(try clear hk);(try clear hi)))
  go_ret2
  exact ⟨_,by first|rfl|(simp [errW_none,errW_some] <;> rfl)|(simp [*,errW_none,errW_some] <;> rfl),by first|exact Kd.R_nil _ _ _ _ _|exact Kd.N_nil _ _ _ _ _|exact Kd.V_nil _ _ _ _ _|exact Kd.Q_nil _ _ _ _ _|exact Kd.S_nil _ _ _ _ _,by repeat (first|exact gB HB|refine below_set ?_ GE816.out)⟩
end Go.Proofs.Ytdhdfmmefghijab.P
namespace Go.Proofs.Ytdhdfmmefghijab.P
open Go.RowKit Go.Proofs.YtdhdfmmefghijabW.PrintWords Go.Proofs.YtdhdfmmefghijabW.PrintLast Go.Proofs.YtdhdfmmefghijabW.PrintMore
attribute [local go_sem] max2_int min2_int max_two min_two max_three min_three max_four min_four
set_option linter.unusedVariables false
set_option linter.unusedSimpArgs false
def spec_l2Cat.f (l0:List (SRow)) (l1:List (SRow)):Option ((List (SRow))):=(some (([]:List (SRow)):List (SRow))).bind fun y110=>(if y110.length+l0.length<5864062014805 then ((some (y110++l0:List (SRow))).bind fun y113=>(if 0≤(wrap64 ((y113.length:Int) - 1)) then (if (wrap64 ((y113.length:Int) - 1))<(y113.length:Int) then (if 0<(l1.length:Int) then (if ((rd_TRow y113 (wrap64 ((y113.length:Int) - 1))).f1).size+((rd_TRow l1 0).f1).size≤9223372036854775807 then ((some (y113.set ((wrap64 ((y113.length:Int) - 1)):Int).toNat (⟨(rd_TRow y113 (wrap64 ((y113.length:Int) - 1))).f0,((rd_TRow y113 (wrap64 ((y113.length:Int) - 1))).f1)++((rd_TRow l1 0).f1)⟩:SRow):List (SRow))).bind fun y118=>(if 1≤(l1.length:Int) then ((some (l1.drop 1:List (SRow))).bind fun y119=>(if y118.length+y119.length<5864062014805 then (some (y118++y119)) else (none))) else (none))) else (none)) else (none)) else (none)) else (none))) else (none))
def spec_l2Cat.T3:Bool×List (List Nat×List Nat):=(true,[([],[]),([],[]),([],[]),([],[]),([2,3],[2,3]),([4],[4]),([5],[5]),([],[]),([7],[7]),([8],[8]),([9],[9]),([6,10],[6,10]),([0,1,0,1,2,3,4,5,6,7,8,9,10,11],[0,1]),([12,0,1,2,3,4,5,6,7,8,9,10,11],[12]),([13,11,0,1,2,3,4,5,6,7,8,9,10,11],[11,13])])
def spec_l2Cat.B3:List Nat:=[0,0,0,0,12,28,60,0,128,384,896,2044,4095,8191,16383]
theorem spec_l2Cat.tab3:rtab .any (opsOf Try.f43 3)=spec_l2Cat.T3:=by kernel_rfl
theorem spec_l2Cat.bits3:waitsOk spec_l2Cat.T3.2 spec_l2Cat.B3=true:=by kernel_rfl
set_option maxHeartbeats 8000000 in
set_option maxRecDepth 100000 in
theorem spec_l2Cat.calls (A0:Option Addr) (c0:Nat) (l0:List (SRow)) (A1:Option Addr) (c1:Nat) (l1:List (SRow)) (r:List (SRow)) (w:World) (hr0:Kd.C k30 w A0 l0.length l0) (hc0:l0.length≤c0) (hr1:Kd.C k30 w A1 l1.length l1) (hc1:l1.length≤c1) (h:spec_l2Cat.f l0 l1=some r) :
  Calls Try.prog 43 #[.slice A0 l0.length c0,.slice A1 l1.length c1] w fun e w'=>∃ v0_:Value,e=.returned (v0_)∧Kd.R k30 30 w' w.heap.size (fun _=>True) v0_ r∧Below w.heap.size w w':=by
 have HR0:=Aside0.mk hr0
 have HC0:=Aside0.mk hc0
 clear hr0 hc0
 have HR1:=Aside0.mk hr1
 have HC1:=Aside0.mk hc1
 clear hr1 hc1
 have HB:=Aside0.mk (Below.refl w.heap.size w)
 have H:((some (([]:List (SRow)):List (SRow))).bind fun y110=>(if y110.length+l0.length<5864062014805 then ((some (y110++l0:List (SRow))).bind fun y113=>(if 0≤(wrap64 ((y113.length:Int) - 1)) then (if (wrap64 ((y113.length:Int) - 1))<(y113.length:Int) then (if 0<(l1.length:Int) then (if ((rd_TRow y113 (wrap64 ((y113.length:Int) - 1))).f1).size+((rd_TRow l1 0).f1).size≤9223372036854775807 then ((some (y113.set ((wrap64 ((y113.length:Int) - 1)):Int).toNat (⟨(rd_TRow y113 (wrap64 ((y113.length:Int) - 1))).f0,((rd_TRow y113 (wrap64 ((y113.length:Int) - 1))).f1)++((rd_TRow l1 0).f1)⟩:SRow):List (SRow))).bind fun y118=>(if 1≤(l1.length:Int) then ((some (l1.drop 1:List (SRow))).bind fun y119=>(if y118.length+y119.length<5864062014805 then (some (y118++y119)) else (none))) else (none))) else (none)) else (none)) else (none)) else (none))) else (none)))=some r:=h
 clear h
 obtain ⟨y110,hy110⟩:∃ y_:List (SRow),y_=(([]:List (SRow))):=⟨_,rfl⟩
 replace H:(if y110.length+l0.length<5864062014805 then ((some (y110++l0:List (SRow))).bind fun y113=>(if 0≤(wrap64 ((y113.length:Int) - 1)) then (if (wrap64 ((y113.length:Int) - 1))<(y113.length:Int) then (if 0<(l1.length:Int) then (if ((rd_TRow y113 (wrap64 ((y113.length:Int) - 1))).f1).size+((rd_TRow l1 0).f1).size≤9223372036854775807 then ((some (y113.set ((wrap64 ((y113.length:Int) - 1)):Int).toNat (⟨(rd_TRow y113 (wrap64 ((y113.length:Int) - 1))).f0,((rd_TRow y113 (wrap64 ((y113.length:Int) - 1))).f1)++((rd_TRow l1 0).f1)⟩:SRow):List (SRow))).bind fun y118=>(if 1≤(l1.length:Int) then ((some (l1.drop 1:List (SRow))).bind fun y119=>(if y118.length+y119.length<5864062014805 then (some (y118++y119)) else (none))) else (none))) else (none)) else (none)) else (none)) else (none))) else (none))=some r:=by first|(rw [hy110];with_reducible exact H)|(have H2_:=(Option.bind_some _ _).symm.trans H;rw [hy110];with_reducible exact H2_)|(have H2_:=(Option.bind_some _ _).symm.trans H;with_reducible exact H2_)|with_reducible exact H|(rw [hy110];exact H)|exact H
 have Ny110:=Aside0.mk hy110
 clear hy110
 by_cases c3:y110.length+l0.length<5864062014805
 ·rw [if_pos c3] at H
  have LMc3:=Aside0.mk c3
  clear c3
  obtain ⟨y113,hy113⟩:∃ y_:List (SRow),y_=(y110++l0):=⟨_,rfl⟩
  replace H:(if 0≤(wrap64 ((y113.length:Int) - 1)) then (if (wrap64 ((y113.length:Int) - 1))<(y113.length:Int) then (if 0<(l1.length:Int) then (if ((rd_TRow y113 (wrap64 ((y113.length:Int) - 1))).f1).size+((rd_TRow l1 0).f1).size≤9223372036854775807 then ((some (y113.set ((wrap64 ((y113.length:Int) - 1)):Int).toNat (⟨(rd_TRow y113 (wrap64 ((y113.length:Int) - 1))).f0,((rd_TRow y113 (wrap64 ((y113.length:Int) - 1))).f1)++((rd_TRow l1 0).f1)⟩:SRow):List (SRow))).bind fun y118=>(if 1≤(l1.length:Int) then ((some (l1.drop 1:List (SRow))).bind fun y119=>(if y118.length+y119.length<5864062014805 then (some (y118++y119)) else (none))) else (none))) else (none)) else (none)) else (none)) else (none))=some r:=by first|(rw [hy113];with_reducible exact H)|(have H2_:=(Option.bind_some _ _).symm.trans H;rw [hy113];with_reducible exact H2_)|(have H2_:=(Option.bind_some _ _).symm.trans H;with_reducible exact H2_)|with_reducible exact H|(rw [hy113];exact H)|exact H
  have Ny113:=Aside0.mk hy113
  clear hy113
  obtain ⟨ji4,hji4⟩:∃ j_:Int,(wrap64 ((y113.length:Int) - 1))=j_:=⟨_,rfl⟩
  replace H:(if 0≤(ji4) then (if (ji4)<(y113.length:Int) then (if 0<(l1.length:Int) then (if ((rd_TRow y113 (ji4)).f1).size+((rd_TRow l1 0).f1).size≤9223372036854775807 then ((some (y113.set ((ji4):Int).toNat (⟨(rd_TRow y113 (ji4)).f0,((rd_TRow y113 (ji4)).f1)++((rd_TRow l1 0).f1)⟩:SRow):List (SRow))).bind fun y118=>(if 1≤(l1.length:Int) then ((some (l1.drop 1:List (SRow))).bind fun y119=>(if y118.length+y119.length<5864062014805 then (some (y118++y119)) else (none))) else (none))) else (none)) else (none)) else (none)) else (none))=some r:=by first|(rw [hji4] at H;exact H)|(simp only [hji4] at H ⊢;exact H)
  have hji4w:(IntKind.i64.wrap ((y113.length:Int) - 1))=ji4:=(i64_w _).trans hji4
  by_cases c5:0≤(ji4)
  ·rw [if_pos c5] at H
   have c5b0:decide (0≤(ji4))=true:=decide_eq_true c5
   clear c5
   by_cases c6:(ji4)<(y113.length:Int)
   ·rw [if_pos c6] at H
    have c6b0:decide ((ji4)<(y113.length:Int))=true:=decide_eq_true c6
    clear c6
    by_cases c7:0<(l1.length:Int)
    ·rw [if_pos c7] at H
     have c7b0:decide (0<(l1.length:Int))=true:=decide_eq_true c7
     have c7b1:decide (0<l1.length)=true:=decide_eq_true (by omega)
     clear c7
     by_cases c8:((rd_TRow y113 (ji4)).f1).size+((rd_TRow l1 0).f1).size≤9223372036854775807
     ·rw [if_pos c8] at H
      have c8b0:=eq_true c8
      have c8b1:decide (((rd_TRow y113 (ji4)).f1).size+((rd_TRow l1 0).f1).size≤9223372036854775807)=true:=decide_eq_true c8
      try have c8b2:(9223372036854775807<((rd_TRow y113 (ji4)).f1).size+((rd_TRow l1 0).f1).size)=False:=eq_false (Nat.not_lt.2 c8)
      obtain ⟨y118,hy118⟩:∃ y_:List (SRow),y_=(y113.set ((ji4):Int).toNat (⟨(rd_TRow y113 (ji4)).f0,((rd_TRow y113 (ji4)).f1)++((rd_TRow l1 0).f1)⟩:SRow)):=⟨_,rfl⟩
      replace H:(if 1≤(l1.length:Int) then ((some (l1.drop 1:List (SRow))).bind fun y119=>(if y118.length+y119.length<5864062014805 then (some (y118++y119)) else (none))) else (none))=some r:=by first|(rw [hy118];with_reducible exact H)|(have H2_:=(Option.bind_some _ _).symm.trans H;rw [hy118];with_reducible exact H2_)|(have H2_:=(Option.bind_some _ _).symm.trans H;with_reducible exact H2_)|with_reducible exact H|(rw [hy118];exact H)|exact H
      have Ny118:=Aside0.mk hy118
      clear hy118
      by_cases c10:1≤(l1.length:Int)
      ·rw [if_pos c10] at H
       have c10b0:=eq_true c10
       have c10b1:decide (1≤(l1.length:Int))=true:=decide_eq_true c10
       clear c10
       obtain ⟨y119,hy119⟩:∃ y_:List (SRow),y_=(l1.drop 1):=⟨_,rfl⟩
       replace H:(if y118.length+y119.length<5864062014805 then (some (y118++y119)) else (none))=some r:=by first|(rw [hy119];with_reducible exact H)|(have H2_:=(Option.bind_some _ _).symm.trans H;rw [hy119];with_reducible exact H2_)|(have H2_:=(Option.bind_some _ _).symm.trans H;with_reducible exact H2_)|with_reducible exact H|(rw [hy119];exact H)|exact H
       have Ny119:=Aside0.mk hy119
       clear hy119
       by_cases c11:y118.length+y119.length<5864062014805
       ·rw [if_pos c11] at H
        have LMc11:=Aside0.mk c11
        clear c11
        obtain ⟨y123,hy123⟩:∃ y_:List (SRow),y_=(y118++y119):=⟨_,rfl⟩
        replace H:(some y123)=some r:=by first|(rw [hy123];with_reducible exact H)|(have H2_:=(Option.bind_some _ _).symm.trans H;rw [hy123];with_reducible exact H2_)|(have H2_:=(Option.bind_some _ _).symm.trans H;with_reducible exact H2_)|with_reducible exact H|(rw [hy123];exact H)|exact H
        have Ny123:=Aside0.mk hy123
        clear hy123
        obtain rfl:=Option.some.inj H
        go_enter Try.func43,Try.ntmps43
        try go_wp2_with (first|((with_reducible refine gate_dst (N:=7) rfl ?_);refine Kd.R_lit k30 _ 30 ?hg (N:=7) ?hd (xs:=([]:List (SRow))) (inner:=[]) (ok:=fun _=>True) (okp:=fun _=>True) ?hr ?hp (fun _ hk=>hk) trivial (Below.refl _ _) (Nat.le_refl _) (by simp) ?_;(case hd=>rfl);(case hg=>rfl);(case hr=>first|(go_simp;done)|(go_simp;rfl));(case hp=>exact (Reps.none _ _));intro v111 w12 ho13 hb hg_ hnew_;clear hg_ hnew_;(first|rw [← Ny110.out] at ho13|(simp only [Int.reduceToNat] at ho13;rw [← Ny110.out] at ho13));have n0_:=Aside0.mk (Kd.R_lower ho13 (below_size (by repeat (first|(with_reducible first|exact HB.out|apply below_alloc|apply pw_below_drewN|apply below_drew1)|exact HB.out))));have n1_:=Aside0.mk (below_step (by repeat (first|(with_reducible first|exact HB.out|apply below_alloc|apply pw_below_drewN|apply below_drew1)|exact HB.out)) hb);clear HB;have HO112:=n0_;have HB:=n1_;clear n0_ n1_;clear hb ho13)|((with_reducible refine gate_builtin (b:=.append) (xs:=#[.tmp 7,.tmp 8]) rfl ?_);at_builtin;refine Kd.R_append_rows k30 (w0:=w) w.heap.size rfl (.tmp 7) (.tmp 8) 23 30 (.agg #[(.int .i64 0),(.string ⟨#[]⟩)]) 24 rfl Try.underlying23 info30 rfl (by decide) (by omega) v111 y110 l0 _ _ _ (fun _=>True) (fun _=>False) rfl rfl ?aO ?aR (fun _ _ h=>h) (fun _ h=>h.elim) ?aF ?aB ?aS ?aL ?_;(case aR=>repeat (first|exact (Kd.C_below HR0.out HB.out)|(with_reducible refine Kd.C_alloc ?_ _)|(with_reducible refine Kd.C_drewN ?_ _)|(with_reducible refine Kd.C_drew ?_)));(case aB=>exact (by repeat (first|(with_reducible first|exact HB.out|apply below_alloc|apply pw_below_drewN|apply below_drew1)|exact HB.out)));(case aF=>exact (fun _ _=>trivial));(case aO=>exact (by (with_reducible repeat (first|apply Kd.R_alloc|apply Kd.R_drewN|apply Kd.R_drew));exact HO112.out));(case aS=>exact (below_size (by repeat (first|(with_reducible first|exact HB.out|apply below_alloc|apply pw_below_drewN|apply below_drew1)|exact HB.out))));(case aL=>have:=LMc3.out;omega);intro v114 w14 ho hb hg hat;rw [← Ny113.out] at ho;have n0_:=Aside0.mk (hb);have n1_:=Aside0.mk (ho);clear HB;clear HO112;have HB:=n0_;have HO115:=n1_;clear n0_ n1_;clear ho hb hg hat;obtain ⟨Ao15,co15,eo15⟩:=Kd.R_slice HO115.out;subst eo15))
        have n0_:=Aside0.mk (Kd.R_drew HO115.out)
        have n1_:=Aside0.mk (below_drew1 HB.out)
        clear HO115
        clear HB
        have HO115:=n0_
        have HB:=n1_
        clear n0_ n1_
        have p116:0≤((ji4):Int):=of_decide_eq_true (by first|(with_reducible assumption)|assumption)
        have q116:(ji4)<(y113.length:Int):=of_decide_eq_true (by first|(with_reducible assumption)|assumption)
        obtain ⟨ad116,e116,hx116_0,hx116_1⟩:=at_TRow (Kd.R_reads' HO115.out).2.2 (ji4) p116 q116
        cases e116
        replace p116:=eq_true p116
        replace q116:=eq_true q116
        have p117:0≤(0:Int):=(by omega)
        have q117:0<(l1.length:Int):=of_decide_eq_true (by first|(with_reducible assumption)|assumption)
        obtain ⟨ad117,e117,hx117_0,hx117_1⟩:=at_TRow HR1.out 0 p117 q117
        have hw117_1:=hx117_1
        (try rw [show ((0:Int)).toNat=0 from rfl] at hw117_1)
        (try rw [show 0 * 2=0 from rfl] at hw117_1)
        (try rw [Addr.add_zero'] at hw117_1)
        have hw117_0:=hx117_0
        (try rw [show ((0:Int)).toNat=0 from rfl] at hw117_0)
        (try rw [show 0 * 2=0 from rfl] at hw117_0)
        (try rw [Addr.add_zero'] at hw117_0)
        cases e117
        have qi117:(0<l1.length)=True:=eq_true (by omega)
        (try rw [show ((0:Int)).toNat=0 from rfl] at hx117_0)
        (try rw [show 0 * 2=0 from rfl] at hx117_0)
        (try rw [Addr.add_zero'] at hx117_0)
        (try rw [show ((0:Int)).toNat=0 from rfl] at hx117_1)
        (try rw [show 0 * 2=0 from rfl] at hx117_1)
        (try rw [Addr.add_zero'] at hx117_1)
        replace hx117_0:=(HB.out.cell (World.block_lt_of_cell? w _ hx117_0)).trans hx117_0
        replace hx117_1:=(HB.out.cell (World.block_lt_of_cell? w _ hx117_1)).trans hx117_1
        replace p117:=eq_true p117
        replace q117:=eq_true q117
        have p9:0≤((ji4):Int):=of_decide_eq_true (by first|(with_reducible assumption)|assumption)
        have q9:((ji4):Int)<((y113.length:Int):Int):=of_decide_eq_true (by first|(with_reducible assumption)|assumption)
        obtain ⟨go9,co9,eo9,gb9,gl9,cl9,HG9⟩:=Kd.R_form HO115.out (by omega)
        (first|cases eo9|(injection eo9 with ea_ en_ ec_;(first|subst ea_|(injection ea_ with ea_;subst ea_));subst ec_;clear en_))
        have GB9:=Aside0.mk gb9
        have GG9:=Aside0.mk HG9
        clear gb9 gl9 HG9
        (first|simp only [add_plain] at hx116_0|skip)
        (first|simp only [add_plain] at hx116_1|skip)
        obtain ⟨ce9,hcl9,hM9,hcc9,hfr9⟩:=Kd.R_elem HO115.out zRow ((ji4):Int) p9 q9
        obtain rfl:=k30_openM hM9
        have hx9_0:World.cell? _ ⟨go9,((ji4):Int).toNat * 2,none⟩=some (.int .i64 ((rd_TRow y113 (ji4)).f0)):=hcc9 0 _ rfl
        have hx9_1:World.cell? _ ⟨go9,((ji4):Int).toNat * 2+1,none⟩=some (.string ((rd_TRow y113 (ji4)).f1)):=hcc9 1 _ rfl
        have hf9_0:World.frozen? _ ⟨go9,((ji4):Int).toNat * 2,none⟩=false:=hfr9 0
        have hf9_1:World.frozen? _ ⟨go9,((ji4):Int).toNat * 2+1,none⟩=false:=hfr9 1
        clear hcl9 hcc9 hfr9 hM9
        replace p9:=eq_true p9
        replace q9:=eq_true q9
        obtain ⟨ce17,hcl17,hM17,hcc17,hfr17⟩:=Kd.R_elem HO115.out zRow ((ji4):Int) (of_decide_eq_true (by first|(with_reducible assumption)|assumption)) (by have h_:((ji4):Int)<((y113.length:Int):Int):=of_decide_eq_true (by first|(with_reducible assumption)|assumption);first|exact h_|(have e_:=(Kd.R_reads' HO115.out).1;omega)|simpa using h_)
        obtain rfl:=k30_openM hM17
        have HP17:=(Kd.R_seg HO115.out ((ji4):Int) (of_decide_eq_true (by first|(with_reducible assumption)|assumption)) (by have h_:((ji4):Int)<((y113.length:Int):Int):=of_decide_eq_true (by first|(with_reducible assumption)|assumption);first|exact h_|(have e_:=(Kd.R_reads' HO115.out).1;omega)|simpa using h_) (seg:=[.string (((rd_TRow y113 (ji4)).f1)++((rd_TRow l1 0).f1))]) (j:=1) hcl17 hcc17 (show 2≤2 from by decide) (x':=(⟨(rd_TRow y113 (ji4)).f0,((rd_TRow y113 (ji4)).f1)++((rd_TRow l1 0).f1)⟩:SRow)) (k30_mkM _ _ _ (⟨(rd_TRow y113 (ji4)).f0,((rd_TRow y113 (ji4)).f1)++((rd_TRow l1 0).f1)⟩:SRow) ) (fun _ hk=>hk)).1
        rw [← Ny118.out] at HP17
        have HQ17:=Aside0.mk HP17
        clear hcl17 hcc17 hfr17 hM17 HP17
        refine start_ (n:=15) (S:=fun w'=>w'.cell? ⟨go9,((ji4)).toNat * 2,none⟩=some (.int .i64 ((rd_TRow y113 (ji4)).f0))∧w'.cell? ⟨go9,((ji4)).toNat * 2+1,none⟩=some (.string ((rd_TRow y113 (ji4)).f1))∧w'.cell? ad117=some (.int .i64 ((rd_TRow l1 0).f0))∧w'.cell? ⟨ad117.block,ad117.off+1,none⟩=some (.string ((rd_TRow l1 0).f1))) (ds:=[14]) #[false,false,false,false,false,false,false,false,false,false,false,false,false,false,false] (by kernel_rfl) rfl rfl ⟨hx116_0,hx116_1,((HB.out.cell (World.block_lt_of_cell? w _ hw117_0)).trans hw117_0),((HB.out.cell (World.block_lt_of_cell? w _ hw117_1)).trans hw117_1)⟩ (fun hHeld=>?_);refine with_tabW spec_l2Cat.tab3 spec_l2Cat.bits3 (fun HT_ HW_=>?_)
        generalize w14.drew=w16 at HO115 HB GG9 HQ17 hf9_0 hf9_1 hx116_0 hx116_1 hx117_0 hx117_1 hx9_0 hx9_1 hHeld ⊢
        refine pure_ (i:=0) (N:=some 13) (v:=?_) (a':=?_) #[true,false,false,false,false,false,false,false,false,false,false,false,false,false,false] rfl rfl (any_of HT_.out (by kernel_rfl)) (fun _ _ _ h=>h) (Or.inl ⟨by rfl,?_⟩) ?_ ?_
        rotate_left
        ·intro w'
         go_simp
         with_reducible rfl
        rotate_left
        ·simp only [Act.put,List.setIfInBounds_toArray,List.set_cons_zero,List.set_cons_succ,i64_w,i32_w]
         rfl
        refine pure_ (i:=1) (N:=some 14) (v:=?_) (a':=?_) #[true,true,false,false,false,false,false,false,false,false,false,false,false,false,false] rfl rfl (any_of HT_.out (by kernel_rfl)) (fun _ _ _ h=>h) (Or.inl ⟨by rfl,?_⟩) ?_ ?_
        rotate_left
        ·intro w'
         go_simp
         with_reducible rfl
        rotate_left
        ·simp only [Act.put,List.setIfInBounds_toArray,List.set_cons_zero,List.set_cons_succ,i64_w,i32_w]
         rfl
        refine pure_ (i:=2) (N:=some 15) (v:=?_) (a':=?_) #[true,true,true,false,false,false,false,false,false,false,false,false,false,false,false] rfl rfl (any_of HT_.out (by kernel_rfl)) (fun _ _ _ h=>h) (Or.inl ⟨by rfl,?_⟩) ?_ ?_
        rotate_left
        ·intro w'
         go_simp
         with_reducible rfl
        rotate_left
        ·simp only [Act.put,List.setIfInBounds_toArray,List.set_cons_zero,List.set_cons_succ,i64_w,i32_w]
         rfl
        refine pure_ (i:=3) (N:=some 16) (v:=?_) (a':=?_) #[true,true,true,true,false,false,false,false,false,false,false,false,false,false,false] rfl rfl (any_of HT_.out (by kernel_rfl)) (fun _ _ _ h=>h) (Or.inl ⟨by rfl,?_⟩) ?_ ?_
        rotate_left
        ·intro w'
         go_simp
         with_reducible rfl
        rotate_left
        ·simp only [Act.put,List.setIfInBounds_toArray,List.set_cons_zero,List.set_cons_succ,i64_w,i32_w]
         rfl
        refine pure_ (i:=4) (N:=some 17) (v:=?_) (a':=?_) #[true,true,true,true,true,false,false,false,false,false,false,false,false,false,false] rfl rfl (any_of HT_.out (by kernel_rfl)) (fun _ _ _ h=>h) (Or.inl ⟨by rfl,?_⟩) ?_ ?_
        rotate_left
        ·intro w'
         go_simp
         with_reducible rfl
        rotate_left
        ·simp only [Act.put,List.setIfInBounds_toArray,List.set_cons_zero,List.set_cons_succ,i64_w,i32_w]
         rfl
        refine pure_ (i:=5) (N:=some 18) (v:=?_) (a':=?_) #[true,true,true,true,true,true,false,false,false,false,false,false,false,false,false] rfl rfl (any_of HT_.out (by kernel_rfl)) (fun _ _ _ h=>h) (Or.inl ⟨by rfl,?_⟩) ?_ ?_
        rotate_left
        ·intro w'
         go_simp
         with_reducible rfl
        rotate_left
        ·simp only [Act.put,List.setIfInBounds_toArray,List.set_cons_zero,List.set_cons_succ,i64_w,i32_w]
         rfl
        refine pure_ (i:=7) (N:=some 20) (v:=?_) (a':=?_) #[true,true,true,true,true,true,false,true,false,false,false,false,false,false,false] rfl rfl (any_of HT_.out (by kernel_rfl)) (fun _ _ _ h=>h) (Or.inl ⟨by rfl,?_⟩) ?_ ?_
        rotate_left
        ·intro w'
         go_simp
         with_reducible rfl
        rotate_left
        ·simp only [Act.put,List.setIfInBounds_toArray,List.set_cons_zero,List.set_cons_succ,i64_w,i32_w]
         rfl
        refine pure_ (i:=8) (N:=some 21) (v:=?_) (a':=?_) #[true,true,true,true,true,true,false,true,true,false,false,false,false,false,false] rfl rfl (any_of HT_.out (by kernel_rfl)) (fun _ _ _ h=>h) (Or.inl ⟨by rfl,?_⟩) ?_ ?_
        rotate_left
        ·intro w'
         go_simp
         with_reducible rfl
        rotate_left
        ·simp only [Act.put,List.setIfInBounds_toArray,List.set_cons_zero,List.set_cons_succ,i64_w,i32_w]
         rfl
        refine pure_ (i:=9) (N:=some 22) (v:=?_) (a':=?_) #[true,true,true,true,true,true,false,true,true,true,false,false,false,false,false] rfl rfl (any_of HT_.out (by kernel_rfl)) (fun _ _ _ h=>h) (Or.inl ⟨by rfl,?_⟩) ?_ ?_
        rotate_left
        ·intro w'
         go_simp
         with_reducible rfl
        rotate_left
        ·simp only [Act.put,List.setIfInBounds_toArray,List.set_cons_zero,List.set_cons_succ,i64_w,i32_w]
         rfl
        refine take_ (i:=6) (N:=some 19) (v:=?_) (a':=?_) #[true,true,true,true,true,true,true,true,true,true,false,false,false,false,false] rfl rfl (take_ofW HT_.out HW_.out (by kernel_rfl)) (fun _ _ _ h=>h) (Or.inl ⟨by rfl,?_⟩) hHeld ?_ ?_
        rotate_left
        ·rintro w' ⟨s0,s1,s2,s3⟩
         go_simp
         with_reducible rfl
        rotate_left
        ·simp only [Act.put,List.setIfInBounds_toArray,List.set_cons_zero,List.set_cons_succ,i64_w,i32_w]
         rfl
        refine take_ (i:=10) (N:=some 23) (v:=?_) (a':=?_) #[true,true,true,true,true,true,true,true,true,true,true,false,false,false,false] rfl rfl (take_ofW HT_.out HW_.out (by kernel_rfl)) (fun _ _ _ h=>h) (Or.inl ⟨by rfl,?_⟩) hHeld ?_ ?_
        rotate_left
        ·rintro w' ⟨s0,s1,s2,s3⟩
         go_simp
         with_reducible rfl
        rotate_left
        ·simp only [Act.put,List.setIfInBounds_toArray,List.set_cons_zero,List.set_cons_succ,i64_w,i32_w]
         rfl
        refine pure_ (i:=11) (N:=some 24) (v:=?_) (a':=?_) #[true,true,true,true,true,true,true,true,true,true,true,true,false,false,false] rfl rfl (any_of HT_.out (by kernel_rfl)) (fun _ _ _ h=>h) (Or.inl ⟨by rfl,?_⟩) ?_ ?_
        rotate_left
        ·intro w'
         go_simp
         with_reducible rfl
        rotate_left
        ·simp only [Act.put,List.setIfInBounds_toArray,List.set_cons_zero,List.set_cons_succ,i64_w,i32_w]
         rfl
        refine pure_ (i:=12) (N:=some 25) (v:=?_) (a':=?_) #[true,true,true,true,true,true,true,true,true,true,true,true,true,false,false] rfl rfl (any_of HT_.out (by kernel_rfl)) (fun _ _ _ h=>h) (Or.inl ⟨by rfl,?_⟩) ?_ ?_
        rotate_left
        ·intro w'
         go_simp
         with_reducible rfl
        rotate_left
        ·simp only [Act.put,List.setIfInBounds_toArray,List.set_cons_zero,List.set_cons_succ,i64_w,i32_w]
         rfl
        refine pure_ (i:=13) (N:=some 26) (v:=?_) (a':=?_) #[true,true,true,true,true,true,true,true,true,true,true,true,true,true,false] rfl rfl (any_of HT_.out (by kernel_rfl)) (fun _ _ _ h=>h) (Or.inl ⟨by rfl,?_⟩) ?_ ?_
        rotate_left
        ·intro w'
         go_simp
         with_reducible rfl
        rotate_left
        ·simp only [Act.put,List.setIfInBounds_toArray,List.set_cons_zero,List.set_cons_succ,i64_w,i32_w]
         rfl
        refine last_ (i:=14) (N:=none) #[true,true,true,true,true,true,true,true,true,true,true,true,true,true,true] rfl rfl (one_of HT_.out (by kernel_rfl)) (by decide) (fun K hK=>?_)
        refine skip_ (w1:=?_) (by rfl) rfl ?_ ?_
        rotate_left
        ·go_simp
         rfl
        refine hK.out _ _ ?_
        clear hK K
        refine done_ (done_of HT_.out (by kernel_rfl)) ?_
        have n0_:Aside0 (Kd.R k30 30 (w16.setCell ⟨go9,((ji4):Int).toNat * 2+1,none⟩ (.string (((rd_TRow y113 (ji4)).f1)++((rd_TRow l1 0).f1)))) w.heap.size (fun _=>True) (.slice (some ⟨go9,0,none⟩) y113.length co15) y118):=⟨by (with_reducible repeat (first|apply Kd.R_alloc|apply Kd.R_drewN|apply Kd.R_drew));exact HQ17.out⟩
        have n1_:Aside0 (Below w.heap.size w (w16.setCell ⟨go9,((ji4):Int).toNat * 2+1,none⟩ (.string (((rd_TRow y113 (ji4)).f1)++((rd_TRow l1 0).f1))))):=⟨by repeat (first|(with_reducible first|exact HB.out|apply below_alloc|apply pw_below_drewN|apply below_drew1|refine below_set ?_ GB9.out)|exact HB.out)⟩
        (try clear HO115)
        (try clear HB)
        generalize (w16.setCell ⟨go9,((ji4):Int).toNat * 2+1,none⟩ (.string (((rd_TRow y113 (ji4)).f1)++((rd_TRow l1 0).f1))))=w18 at n0_ n1_ ⊢
        have HO115:=n0_
        have HB:=n1_
        clear n0_ n1_
        have q19:(1:Int)≤((l1.length:Int):Int):=of_decide_eq_true (by first|(with_reducible assumption)|assumption)
        obtain ⟨i019,hi019,_,hsz19,_⟩:=info_parts info30
        have hroom19:l1.length≤c1:=HC1.out
        have hC19:Kd.C k30 _ (some ad117) l1.length l1:=HR1.out
        have hcut19:=cut_from (P:=Try.prog) 23 30 .i64 Try.underlying23 hi019 2 hsz19 (some ad117) l1.length c1 1 (by omega) q19
        have hr19:=Kd.C_drop (m:=(1:Int).toNat) (c:=c1) hC19 (by omega) hroom19
        obtain ⟨A19,hA19⟩:∃ Az_,Az_=(if c1=(1:Int).toNat then (some ad117) else ((some ad117):Option Addr).map (·.add ((1:Int).toNat * 2))):=⟨_,rfl⟩
        obtain ⟨c19,hc19⟩:∃ cz_,cz_=c1 - (1:Int).toNat:=⟨_,rfl⟩
        have hy19:y119.length=l1.length - (1:Int).toNat:=(by rw [Ny119.out,List.length_drop] <;> omega)
        rw [show (l1).drop (1:Int).toNat=y119 from Ny119.out.symm] at hr19
        replace hr19:Kd.C k30 _ A19 y119.length y119:=(by rw [hA19];exact hr19)
        rw [← hy19,← hA19,← hc19] at hcut19
        have HR122:=Aside0.mk hr19
        have HC122:=Aside0.mk (show y119.length≤c19 from by rw [hy19,hc19];exact Nat.sub_le_sub_right hroom19 _)
        clear hr19 hC19 hroom19 hi019 hsz19 hc19
        have KY19:=Aside0.mk hy19
        have KA19:=Aside0.mk hA19
        clear hy19 hA19
        replace q19:=eq_true q19
        try go_wp2_with (first|((with_reducible refine gate_builtin (b:=.append) (xs:=#[.tmp 27,.tmp 29]) rfl ?_);at_builtin;refine Kd.R_append_rows k30 (w0:=w) w.heap.size rfl (.tmp 27) (.tmp 29) 23 30 (.agg #[(.int .i64 0),(.string ⟨#[]⟩)]) 24 rfl Try.underlying23 info30 rfl (by decide) (by omega) (.slice (some ⟨go9,0,none⟩) y113.length co15) y118 y119 _ _ _ (fun _=>True) (fun _=>False) rfl rfl ?aO ?aR (fun _ _ h=>h) (fun _ h=>h.elim) ?aF ?aB ?aS ?aL ?_;(case aR=>repeat (first|exact (Kd.C_below HR122.out HB.out)|(with_reducible refine Kd.C_alloc ?_ _)|(with_reducible refine Kd.C_drewN ?_ _)|(with_reducible refine Kd.C_drew ?_)));(case aB=>exact (by repeat (first|(with_reducible first|exact HB.out|apply below_alloc|apply pw_below_drewN|apply below_drew1)|exact HB.out)));(case aF=>exact (fun _ _=>trivial));(case aO=>exact (by (with_reducible repeat (first|apply Kd.R_alloc|apply Kd.R_drewN|apply Kd.R_drew));exact HO115.out));(case aS=>exact (below_size (by repeat (first|(with_reducible first|exact HB.out|apply below_alloc|apply pw_below_drewN|apply below_drew1)|exact HB.out))));(case aL=>have:=LMc11.out;omega);intro v124 w20 ho hb hg hat;rw [← Ny123.out] at ho;have n0_:=Aside0.mk (hb);have n1_:=Aside0.mk (ho);clear HB;clear HO115;have HB:=n0_;have HO125:=n1_;clear n0_ n1_;clear ho hb hg hat))
        go_ret
        exact ⟨_,by first|rfl|(simp [errW_none,errW_some] <;> rfl)|(simp only [← hji4];first|rfl|(simp [errW_none,errW_some] <;> rfl))|(simp [*,errW_none,errW_some] <;> rfl),by (with_reducible repeat (first|apply Kd.R_alloc|apply Kd.R_drewN|apply Kd.R_drew));exact HO125.out,by repeat (first|(with_reducible first|exact HB.out|apply below_alloc|apply pw_below_drewN|apply below_drew1)|exact HB.out)⟩
       ·rw [if_neg c11] at H
        exact absurd H (by simp)
      ·rw [if_neg c10] at H
       exact absurd H (by simp)
     ·rw [if_neg c8] at H
      exact absurd H (by simp)
    ·rw [if_neg c7] at H
     exact absurd H (by simp)
   ·rw [if_neg c6] at H
    exact absurd H (by simp)
  ·rw [if_neg c5] at H
   exact absurd H (by simp)
 ·rw [if_neg c3] at H
  exact absurd H (by simp)
end Go.Proofs.Ytdhdfmmefghijab.P
namespace Go.Proofs.Ytdhdfmmefghijab.P
open Go.RowKit Go.Proofs.YtdhdfmmefghijabW.PrintWords Go.Proofs.YtdhdfmmefghijabW.PrintLast Go.Proofs.YtdhdfmmefghijabW.PrintMore
attribute [local go_sem] max2_int min2_int max_two min_two max_three min_three max_four min_four
set_option linter.unusedVariables false
set_option linter.unusedSimpArgs false
def spec_l2Nest.l0:Nat→Int→List (SRow)→Int→Option ((List (SRow)))
 | 0,_,_,_=>none
 | k+1,x0,x5,x6=>if x6<(x5.length:Int) then (if 0≤x6 then (spec_l2Nest.l0 k x0 (x5.set (x6:Int).toNat (⟨wrap64 (((rd_TRow x5 x6).f0)+x0),(rd_TRow x5 x6).f1⟩:SRow)) (wrap64 (x6+1))) else (none)) else (some x5)
def spec_l2Nest.f (k:Nat) (a0:Int) (l1:List (SRow)):Option ((List (SRow))):=(some (([]:List (SRow)):List (SRow))).bind fun y126=>(if y126.length+l1.length<5864062014805 then (spec_l2Nest.l0 k a0 (y126++l1) 1) else (none))
set_option maxHeartbeats 8000000 in
set_option maxRecDepth 100000 in
theorem spec_l2Nest.calls (k:Nat) (a0:Int) (A1:Option Addr) (c1:Nat) (l1:List (SRow)) (r:List (SRow)) (w:World) (hr1:Kd.C k30 w A1 l1.length l1) (hc1:l1.length≤c1) (h:spec_l2Nest.f k a0 l1=some r) :
  Calls Try.prog 48 #[.int .i64 a0,.slice A1 l1.length c1] w fun e w'=>∃ v0_:Value,e=.returned (v0_)∧Kd.R k30 30 w' w.heap.size (fun _=>True) v0_ r∧Below w.heap.size w w':=by
 have HR1:=Aside0.mk hr1
 have HC1:=Aside0.mk hc1
 clear hr1 hc1
 have HB:=Aside0.mk (Below.refl w.heap.size w)
 have H:((some (([]:List (SRow)):List (SRow))).bind fun y126=>(if y126.length+l1.length<5864062014805 then (spec_l2Nest.l0 k a0 (y126++l1) 1) else (none)))=some r:=h
 clear h
 obtain ⟨y126,hy126⟩:∃ y_:List (SRow),y_=(([]:List (SRow))):=⟨_,rfl⟩
 replace H:(if y126.length+l1.length<5864062014805 then (spec_l2Nest.l0 k a0 (y126++l1) 1) else (none))=some r:=by first|(rw [hy126];with_reducible exact H)|(have H2_:=(Option.bind_some _ _).symm.trans H;rw [hy126];with_reducible exact H2_)|(have H2_:=(Option.bind_some _ _).symm.trans H;with_reducible exact H2_)|with_reducible exact H|(rw [hy126];exact H)|exact H
 have Ny126:=Aside0.mk hy126
 clear hy126
 by_cases c3:y126.length+l1.length<5864062014805
 ·rw [if_pos c3] at H
  have LMc3:=Aside0.mk c3
  clear c3
  obtain ⟨y129,hy129⟩:∃ y_:List (SRow),y_=(y126++l1):=⟨_,rfl⟩
  replace H:(spec_l2Nest.l0 k a0 y129 1)=some r:=by first|(rw [hy129];with_reducible exact H)|(have H2_:=(Option.bind_some _ _).symm.trans H;rw [hy129];with_reducible exact H2_)|(have H2_:=(Option.bind_some _ _).symm.trans H;with_reducible exact H2_)|with_reducible exact H|(rw [hy129];exact H)|exact H
  have Ny129:=Aside0.mk hy129
  clear hy129
  have H':=Aside0.mk H
  clear H
  go_enter Try.func48,Try.ntmps48
  go_wp2_with (first|((with_reducible refine gate_dst (N:=7) rfl ?_);refine Kd.R_lit k30 _ 30 ?hg (N:=7) ?hd (xs:=([]:List (SRow))) (inner:=[]) (ok:=fun _=>True) (okp:=fun _=>True) ?hr ?hp (fun _ hk=>hk) trivial (Below.refl _ _) (Nat.le_refl _) (by simp) ?_;(case hd=>rfl);(case hg=>rfl);(case hr=>first|(go_simp;done)|(go_simp;rfl));(case hp=>exact (Reps.none _ _));intro v127 w4 ho5 hb hg_ hnew_;clear hg_ hnew_;(first|rw [← Ny126.out] at ho5|(simp only [Int.reduceToNat] at ho5;rw [← Ny126.out] at ho5));have n0_:=Aside0.mk (Kd.R_lower ho5 (below_size (gB HB)));have n1_:=Aside0.mk (below_step (gB HB) hb);clear HB;have HO128:=n0_;have HB:=n1_;clear n0_ n1_;clear hb ho5)|((with_reducible refine gate_builtin (b:=.append) (xs:=#[.tmp 7,.tmp 8]) rfl ?_);at_builtin;refine Kd.R_append_rows k30 (w0:=w) w.heap.size rfl (.tmp 7) (.tmp 8) 23 30 (.agg #[(.int .i64 0),(.string ⟨#[]⟩)]) 24 rfl Try.underlying23 info30 rfl (by decide) (by omega) v127 y126 l1 _ _ _ (fun _=>True) (fun _=>False) rfl rfl ?aO ?aR (fun _ _ h=>h) (fun _ h=>h.elim) ?aF ?aB ?aS ?aL ?_;(case aR=>exact gC (Kd.C_below HR1.out HB.out));(case aB=>exact (gB HB));(case aF=>exact (fun _ _=>trivial));(case aO=>exact (gR HO128));(case aS=>exact (below_size (gB HB)));(case aL=>have:=LMc3.out;omega);intro v130 w6 ho hb hg hat;rw [← Ny129.out] at ho;have n0_:=Aside0.mk (hb);have n1_:=Aside0.mk (ho);clear HB;clear HO128;have HB:=n0_;have HO131:=n1_;clear n0_ n1_;clear ho hb hg hat))
  go_loopg [6] k (fun kq v6 w'=>∃ (x5_1:List (SRow)) (x6_1:Int),v6=.int .i64 x6_1∧Aside0 (spec_l2Nest.l0 kq a0 x5_1 x6_1=some r)∧Aside0 (kq≤k)∧Aside0 (Kd.R k30 30 w' w.heap.size (fun _=>True) v130 x5_1)∧Aside0 (Below w.heap.size w w'))
  case atStart=>exact ⟨(y129),(1),(by first|rfl|(simp;done)|(simp [*];done)),H',⟨Nat.le_refl _⟩,⟨gR HO131⟩,⟨gB HB⟩⟩
  case round =>
   clear H'
   try clear c1 p2 c3 c4
   (try clear HO_5);(try clear HB)
   obtain ⟨x5_1,x6_1,rfl,HA,HK1,HO_5,HB⟩:=hrel
   cases gk with
   | zero=>exact absurd HA.out (by simp [spec_l2Nest.l0])
   | succ k1 =>
    have H:=HA.out
    clear HA
    simp only [spec_l2Nest.l0] at H
    by_cases c7:x6_1<(x5_1.length:Int)
    ·rw [if_pos c7] at H
     have c7b0:decide (x6_1<(x5_1.length:Int))=true:=decide_eq_true c7
     clear c7
     by_cases c8:0≤x6_1
     ·rw [if_pos c8] at H
      have c8b0:decide (0≤x6_1)=true:=decide_eq_true c8
      clear c8
      obtain ⟨y133,hy133⟩:∃ y_:List (SRow),y_=(x5_1.set (x6_1:Int).toNat (⟨wrap64 (((rd_TRow x5_1 x6_1).f0)+a0),(rd_TRow x5_1 x6_1).f1⟩:SRow)):=⟨_,rfl⟩
      replace H:(spec_l2Nest.l0 k1 a0 y133 (wrap64 (x6_1+1)))=some r:=by first|(rw [hy133];with_reducible exact H)|(have H2_:=(Option.bind_some _ _).symm.trans H;rw [hy133];with_reducible exact H2_)|(have H2_:=(Option.bind_some _ _).symm.trans H;with_reducible exact H2_)|with_reducible exact H|(rw [hy133];exact H)|exact H
      have Ny133:=Aside0.mk hy133
      clear hy133
      have H':=Aside0.mk H
      clear H
      obtain ⟨Ao10,co10,eo10⟩:=Kd.R_slice HO_5.out
      subst eo10
      have p132:0≤(x6_1:Int):=of_decide_eq_true (by first|(with_reducible assumption)|assumption)
      have q132:x6_1<(x5_1.length:Int):=of_decide_eq_true (by first|(with_reducible assumption)|assumption)
      obtain ⟨ad132,e132,hx132_0,hx132_1⟩:=at_TRow (Kd.R_reads' HO_5.out).2.2 x6_1 p132 q132
      cases e132
      replace p132:=eq_true p132
      replace q132:=eq_true q132
      have p9:0≤(x6_1:Int):=of_decide_eq_true (by first|(with_reducible assumption)|assumption)
      have q9:(x6_1:Int)<((x5_1.length:Int):Int):=of_decide_eq_true (by first|(with_reducible assumption)|assumption)
      obtain ⟨go9,co9,eo9,gb9,gl9,cl9,HG9⟩:=Kd.R_form HO_5.out (by omega)
      (first|cases eo9|(injection eo9 with ea_ en_ ec_;(first|subst ea_|(injection ea_ with ea_;subst ea_));subst ec_;clear en_))
      have GB9:=Aside0.mk gb9
      have GG9:=Aside0.mk HG9
      clear gb9 gl9 HG9
      (first|simp only [add_plain] at hx132_0|skip)
      (first|simp only [add_plain] at hx132_1|skip)
      obtain ⟨ce9,hcl9,hM9,hcc9,hfr9⟩:=Kd.R_elem HO_5.out zRow (x6_1:Int) p9 q9
      obtain rfl:=k30_openM hM9
      have hx9_0:wr.cell? ⟨go9,(x6_1:Int).toNat * 2,none⟩=some (.int .i64 ((rd_TRow x5_1 x6_1).f0)):=hcc9 0 _ rfl
      have hx9_1:wr.cell? ⟨go9,(x6_1:Int).toNat * 2+1,none⟩=some (.string ((rd_TRow x5_1 x6_1).f1)):=hcc9 1 _ rfl
      have hf9_0:wr.frozen? ⟨go9,(x6_1:Int).toNat * 2,none⟩=false:=hfr9 0
      have hf9_1:wr.frozen? ⟨go9,(x6_1:Int).toNat * 2+1,none⟩=false:=hfr9 1
      clear hcl9 hcc9 hfr9 hM9
      replace p9:=eq_true p9
      replace q9:=eq_true q9
      have HX11:=Aside0.mk (show Kd.R k30 30 wr w.heap.size (fun _=>True) (.slice (some ⟨go9,0,none⟩) x5_1.length co10) x5_1 from (gR HO_5))
      obtain ⟨ce11,hcl11,hM11,hcc11,hfr11⟩:=Kd.R_elem HX11.out zRow (x6_1:Int) (of_decide_eq_true (by first|(with_reducible assumption)|assumption)) (by have h_:(x6_1:Int)<((x5_1.length:Int):Int):=of_decide_eq_true (by first|(with_reducible assumption)|assumption);first|exact h_|(have e_:=(Kd.R_reads' HO_5.out).1;omega)|simpa using h_)
      obtain rfl:=k30_openM hM11
      have HP11:=Kd.R_seg HX11.out (x6_1:Int) (of_decide_eq_true (by first|(with_reducible assumption)|assumption)) (by have h_:(x6_1:Int)<((x5_1.length:Int):Int):=of_decide_eq_true (by first|(with_reducible assumption)|assumption);first|exact h_|(have e_:=(Kd.R_reads' HO_5.out).1;omega)|simpa using h_) (seg:=[.int .i64 (wrap64 (((rd_TRow x5_1 x6_1).f0)+a0))]) (j:=0) hcl11 hcc11 (show 1≤2 from by decide) (x':=(⟨wrap64 (((rd_TRow x5_1 x6_1).f0)+a0),(rd_TRow x5_1 x6_1).f1⟩:SRow)) (k30_mkM _ _ _ (⟨wrap64 (((rd_TRow x5_1 x6_1).f0)+a0),(rd_TRow x5_1 x6_1).f1⟩:SRow) ) (fun _ hk=>hk)
      have hx11_0:=hcc11 0 _ rfl
      (try simp only [show (k30).sz=2 from rfl,Nat.mul_one,Nat.add_zero] at hx11_0)
      have hf11_0:=hfr11 0
      (try simp only [show (k30).sz=2 from rfl,Nat.mul_one,Nat.add_zero] at hf11_0)
      clear hcl11 hcc11 hfr11 hM11
      go_wp2_with (first|((with_reducible refine gate_store (t:=3) (p:=26) rfl ?_);refine store_event (t:=3) (p:=26) (v:=?vo_w12) (w1:=(wr.setCell ⟨go9,(x6_1:Int).toNat * 2,none⟩ (.int .i64 (wrap64 (((rd_TRow x5_1 x6_1).f0)+a0))))) ?hg ?ho ?hn ?hr ?_;(case ho=>rfl);(case hg=>rfl);(case hn=>rfl);(case hr=>first|(go_simp;done)|(go_simp;rfl));intro w12 hw;have hg:wr.grownBy w12 (some go9):=(by rw [hw];exact HP11.2);have hp_:Kd.R k30 30 w12 w.heap.size (fun _=>True) (.slice (some ⟨go9,0,none⟩) x5_1.length co10) y133:=(by rw [hw,Ny133.out];exact HP11.1);clear HP11;have n0_:=Aside0.mk (hp_);have n1_:=Aside0.mk ((by rw [hw];exact below_set (HB.out) GB9.out:Below w.heap.size w w12));clear HO_5;clear HB;have HO_5:=n0_;have HB:=n1_;clear n0_ n1_;clear hg hw hp_))
      go_roundg k1
      case measure=>have:=HK1.out;omega
      case rel=>exact ⟨(y133),(wrap64 (x6_1+1)),(by first|rfl|(simp;done)|(simp [*];done)),H',⟨by have:=HK1.out;omega⟩,⟨gR HO_5⟩,⟨gB HB⟩⟩
     ·rw [if_neg c8] at H
      exact absurd H (by simp)
    ·rw [if_neg c7] at H
     have c7b0:decide (x6_1<(x5_1.length:Int))=false:=decide_eq_false c7
     clear c7
     obtain rfl:=Option.some.inj H
     obtain ⟨Ao13,co13,eo13⟩:=Kd.R_slice HO_5.out
     subst eo13
     go_wp2
     go_ret
     exact ⟨_,by first|rfl|(simp [errW_none,errW_some] <;> rfl)|(simp [*,errW_none,errW_some] <;> rfl),gR HO_5,gB HB⟩
 ·rw [if_neg c3] at H
  exact absurd H (by simp)
end Go.Proofs.Ytdhdfmmefghijab.P
namespace Go.Proofs.Ytdhdfmmefghijab.P
open Go.RowKit Go.Proofs.YtdhdfmmefghijabW.PrintWords Go.Proofs.YtdhdfmmefghijabW.PrintLast Go.Proofs.YtdhdfmmefghijabW.PrintMore
attribute [local go_sem] max2_int min2_int max_two min_two max_three min_three max_four min_four
set_option linter.unusedVariables false
set_option linter.unusedSimpArgs false
mutual
def spec_l2Open.j0:Nat→Int→Bool→Int→Int→ByteArray→List (SDoc)→Option ((List (SRow)))
 | 0,_,_,_,_,_,_=>none
 | k+1,x4,x11,x135000,x135001,x135002,x135003=>if x11=true then (some (([(⟨0,(⟨#[]⟩:ByteArray)⟩:SRow),(⟨0,(⟨#[]⟩:ByteArray)⟩:SRow)]:List (SRow)))) else (if x4=6 then (if 0<(x135003.length:Int) then ((spec_l2Open.f k ((rd_TDoc x135003 0).f0) ((rd_TDoc x135003 0).f1) ((rd_TDoc x135003 0).f2) ((rd_TDoc x135003 0).f3)).bind fun t142=>((spec_l2Nest.f k x135001 t142).bind fun t145=>(some t145))) else (none)) else (if x4=7 then (if 0<(x135003.length:Int) then ((spec_l2Open.f k ((rd_TDoc x135003 0).f0) ((rd_TDoc x135003 0).f1) ((rd_TDoc x135003 0).f2) ((rd_TDoc x135003 0).f3)).bind fun t149=>(if 1<(x135003.length:Int) then ((spec_l2Open.f k ((rd_TDoc x135003 1).f0) ((rd_TDoc x135003 1).f1) ((rd_TDoc x135003 1).f2) ((rd_TDoc x135003 1).f3)).bind fun t153=>((spec_l2Cat.f t149 t153).bind fun t156=>(some t156))) else (none))) else (none)) else (if x4=8 then (if 0<(x135003.length:Int) then ((spec_l2Open.f k ((rd_TDoc x135003 0).f0) ((rd_TDoc x135003 0).f1) ((rd_TDoc x135003 0).f2) ((rd_TDoc x135003 0).f3)).bind fun t160=>(some t160)) else (none)) else (some (([(⟨0,(⟨#[]⟩:ByteArray)⟩:SRow)]:List (SRow)))))))
def spec_l2Open.f:Nat→Int→Int→ByteArray→List (SDoc)→Option ((List (SRow)))
 | 0,_,_,_,_=>none
 | k+1,a0_0,a0_1,a0_2,l0_3=>if a0_0=2 then (some (([(⟨0,a0_2⟩:SRow)]:List (SRow)))) else (if a0_0=3 then (spec_l2Open.j0 k a0_0 (a0_0 == 3) a0_0 a0_1 a0_2 l0_3) else (if a0_0=4 then (spec_l2Open.j0 k a0_0 (a0_0 == 4) a0_0 a0_1 a0_2 l0_3) else (spec_l2Open.j0 k a0_0 (a0_0 == 5) a0_0 a0_1 a0_2 l0_3)))
end
def spec_l2Open.T9:Bool×List (List Nat×List Nat):=(true,[([],[]),([0],[0]),([],[]),([2],[2]),([3],[3]),([4],[4]),([5],[5]),([1,6,6],[1,6]),([7,7,0,1,2,3,4,5,6,7],[7])])
def spec_l2Open.B9:List Nat:=[0,1,0,4,12,28,60,127,255]
theorem spec_l2Open.tab9:rtab .any (opsOf Try.f53 9)=spec_l2Open.T9:=by kernel_rfl
theorem spec_l2Open.bits9:waitsOk spec_l2Open.T9.2 spec_l2Open.B9=true:=by kernel_rfl
def spec_l2Open.T11:Bool×List (List Nat×List Nat):=(true,[([],[]),([0],[0]),([1],[1]),([2],[2]),([3],[3]),([],[]),([5],[5]),([6],[6]),([7],[7]),([8,4],[8]),([4,9,9],[4,9]),([10,10,0,1,2,3,4,5,6,7,8,9,10],[10])])
def spec_l2Open.B11:List Nat:=[0,1,3,7,15,0,32,96,224,511,1023,2047]
theorem spec_l2Open.tab11:rtab .any (opsOf Try.f53 11)=spec_l2Open.T11:=by kernel_rfl
theorem spec_l2Open.bits11:waitsOk spec_l2Open.T11.2 spec_l2Open.B11=true:=by kernel_rfl
set_option maxHeartbeats 8000000 in
set_option maxRecDepth 100000 in
theorem spec_l2Open.calls (k:Nat):∀ (a0_0:Int) (a0_1:Int) (a0_2:ByteArray) (A0_3:Option Addr) (c0_3:Nat) (l0_3:List (SDoc)) (r:List (SRow)) (w:World) (hr0_3:Kd.C k39 w A0_3 l0_3.length l0_3) (hc0_3:l0_3.length≤c0_3) (h:spec_l2Open.f k a0_0 a0_1 a0_2 l0_3=some r),
  Calls Try.prog 53 #[.agg #[.int .i64 a0_0,.int .i64 a0_1,.string a0_2,.slice A0_3 l0_3.length c0_3]] w fun e w'=>∃ v0_:Value,e=.returned (v0_)∧Kd.R k30 30 w' w.heap.size (fun _=>True) v0_ r∧Below w.heap.size w w':=by
 induction k using Nat.strongRecOn with
 | _ k ih =>
 intro a0_0 a0_1 a0_2 A0_3 c0_3 l0_3 r w hr0_3 hc0_3 h
 cases k with
 | zero=>exact absurd h (by simp [spec_l2Open.f])
 | succ k =>
 simp only [spec_l2Open.f] at h
 have hu39:=Try.underlying39
 have hu30:=Try.underlying30
 have HR0_3:=Aside0.mk hr0_3
 have HC0_3:=Aside0.mk hc0_3
 clear hr0_3 hc0_3
 have HB:=Aside0.mk (Below.refl w.heap.size w)
 have H:(if a0_0=2 then (some (([(⟨0,a0_2⟩:SRow)]:List (SRow)))) else (if a0_0=3 then (spec_l2Open.j0 k a0_0 (a0_0 == 3) a0_0 a0_1 a0_2 l0_3) else (if a0_0=4 then (spec_l2Open.j0 k a0_0 (a0_0 == 4) a0_0 a0_1 a0_2 l0_3) else (spec_l2Open.j0 k a0_0 (a0_0 == 5) a0_0 a0_1 a0_2 l0_3))))=some r:=h
 clear h
 by_cases c2:a0_0=2
 ·rw [if_pos c2] at H
  have c2b0:(a0_0 == 2)=true:=beq_iff_eq.mpr c2
  have c2b1:(a0_0 != 2)=false:=bne_eq_false_iff_eq.mpr c2
  clear c2
  obtain ⟨y135,hy135⟩:∃ y_:List (SRow),y_=(([(⟨0,a0_2⟩:SRow)]:List (SRow))):=⟨_,rfl⟩
  replace H:(some y135)=some r:=by first|(rw [hy135];with_reducible exact H)|(have H2_:=(Option.bind_some _ _).symm.trans H;rw [hy135];with_reducible exact H2_)|(have H2_:=(Option.bind_some _ _).symm.trans H;with_reducible exact H2_)|with_reducible exact H|(rw [hy135];exact H)|exact H
  have Ny135:=Aside0.mk hy135
  clear hy135
  obtain rfl:=Option.some.inj H
  go_enter Try.func53,Try.ntmps53
  go_wp2_with (first|((with_reducible refine gate_dst (N:=1) rfl ?_);refine box_event ?hg (N:=1) ?hd (cs:=#[.int .i64 a0_0,.int .i64 a0_1,.string a0_2,.slice A0_3 l0_3.length c0_3]) (t:=39) ?hr ?_;(case hd=>rfl);(case hg=>rfl);(case hr=>first|(go_simp;done)|(go_simp;rfl));intro gb134 hg w3 hbox hb;have n0_:=Aside0.mk (below_step (gB HB) hb);have n1_:=Aside0.mk (hbox);have n2_:=Aside0.mk ((by rw [hg];exact (below_size (gB HB)):w.heap.size≤gb134));have n3_:=Aside0.mk ((by rw [hg];exact (below_size (gB HB)):w.heap.size≤gb134));clear HB;have HB:=n0_;have BK134:=n1_;have GW134:=n2_;have GE134:=n3_;clear n0_ n1_ n2_ n3_;clear hb hbox hg;have hcz4_0:w3.cell? ⟨gb134,0,none⟩=some (.int .i64 a0_0):=(blk_cell BK134.out 0).trans rfl;have hcz4_1:w3.cell? ⟨gb134,1,none⟩=some (.int .i64 a0_1):=(blk_cell BK134.out 1).trans rfl;have hcz4_2:w3.cell? ⟨gb134,2,none⟩=some (.string a0_2):=(blk_cell BK134.out 2).trans rfl;have hcz4_3:w3.cell? ⟨gb134,3,none⟩=some (.slice A0_3 l0_3.length c0_3):=(blk_cell BK134.out 3).trans rfl;have hfz4_0:=blk_frozen BK134.out 0;have hfz4_1:=blk_frozen BK134.out 1;have hfz4_2:=blk_frozen BK134.out 2;have hfz4_3:=blk_frozen BK134.out 3)|((with_reducible refine gate_dst (N:=10) rfl ?_);refine Kd.R_lit k30 _ 30 ?hg (N:=10) ?hd (xs:=([(⟨0,a0_2⟩:SRow)]:List (SRow))) (inner:=[.int .i64 0,.string a0_2]) (ok:=fun _=>True) (okp:=fun _=>True) ?hr ?hp (fun _ hk=>hk) trivial (Below.refl _ _) (Nat.le_refl _) (by simp) ?_;(case hd=>rfl);(case hg=>rfl);(case hr=>first|(go_simp;done)|(go_simp;rfl));(case hp=>exact (Reps.c2 (show Kd.M k30 _ _ _ (⟨0,a0_2⟩:SRow) [.int .i64 0,.string a0_2] from (k30_mkM _ _ _ (⟨0,a0_2⟩:SRow) )) (Reps.none _ _)));intro v136 w5 ho6 hb hg_ hnew_;clear hg_ hnew_;(first|rw [← Ny135.out] at ho6|(simp only [Int.reduceToNat] at ho6;rw [← Ny135.out] at ho6));have n0_:=Aside0.mk (Kd.R_lower ho6 (below_size (by repeat (first|exact gB HB|refine below_set ?_ GE134.out))));have n1_:=Aside0.mk (blk_below (g:=gb134) (o:=.cells #[.int .i64 a0_0,.int .i64 a0_1,.string a0_2,.slice A0_3 l0_3.length c0_3] 39 (0,0)) (gK BK134) hb);have n2_:=Aside0.mk (below_step (by repeat (first|exact gB HB|refine below_set ?_ GE134.out)) hb);clear BK134;clear HB;have HO137:=n0_;have BK134:=n1_;have HB:=n2_;clear n0_ n1_ n2_;clear hb ho6))
  go_ret
  exact ⟨_,by first|rfl|(simp [errW_none,errW_some] <;> rfl)|(simp [*,errW_none,errW_some] <;> rfl),gR HO137,by repeat (first|exact gB HB|refine below_set ?_ GE134.out)⟩
 ·rw [if_neg c2] at H
  have c2b0:(a0_0 == 2)=false:=beq_eq_false_iff_ne.mpr c2
  have c2b1:(a0_0 != 2)=true:=bne_iff_ne.mpr c2
  have HC7:=Aside0.mk H
  clear H
  go_enter Try.func53,Try.ntmps53
  go_upto_if 11 with (first|((with_reducible refine gate_dst (N:=1) rfl ?_);refine box_event ?hg (N:=1) ?hd (cs:=#[.int .i64 a0_0,.int .i64 a0_1,.string a0_2,.slice A0_3 l0_3.length c0_3]) (t:=39) ?hr ?_;(case hd=>rfl);(case hg=>rfl);(case hr=>first|(go_simp;done)|(go_simp;rfl));intro gb134 hg w8 hbox hb;have n0_:=Aside0.mk (below_step (gB HB) hb);have n1_:=Aside0.mk (hbox);have n2_:=Aside0.mk ((by rw [hg];exact (below_size (gB HB)):w.heap.size≤gb134));have n3_:=Aside0.mk ((by rw [hg];exact (below_size (gB HB)):w.heap.size≤gb134));clear HB;have HB:=n0_;have BK134:=n1_;have GW134:=n2_;have GE134:=n3_;clear n0_ n1_ n2_ n3_;clear hb hbox hg;have hcz9_0:w8.cell? ⟨gb134,0,none⟩=some (.int .i64 a0_0):=(blk_cell BK134.out 0).trans rfl;have hcz9_1:w8.cell? ⟨gb134,1,none⟩=some (.int .i64 a0_1):=(blk_cell BK134.out 1).trans rfl;have hcz9_2:w8.cell? ⟨gb134,2,none⟩=some (.string a0_2):=(blk_cell BK134.out 2).trans rfl;have hcz9_3:w8.cell? ⟨gb134,3,none⟩=some (.slice A0_3 l0_3.length c0_3):=(blk_cell BK134.out 3).trans rfl;have hfz9_0:=blk_frozen BK134.out 0;have hfz9_1:=blk_frozen BK134.out 1;have hfz9_2:=blk_frozen BK134.out 2;have hfz9_3:=blk_frozen BK134.out 3))
  (try simp only [Act.put,List.setIfInBounds_toArray,List.set_cons_zero,List.set_cons_succ])
  go_cut [11] (fun v11 wc=>∃ (kq:Nat) (x11_6:Bool),v11=.bool x11_6∧Aside0 (spec_l2Open.j0 kq a0_0 x11_6 a0_0 a0_1 a0_2 l0_3=some r)∧Aside0 (kq≤k)∧Aside0 (wc.heap[gb134]?=some (.cells #[.int .i64 a0_0,.int .i64 a0_1,.string a0_2,(.slice A0_3 l0_3.length c0_3)] 39 (0,0)))∧Aside0 (Below w.heap.size w wc))
  case first =>
   have H:=HC7.out
   clear HC7
   by_cases c10:a0_0=3
   ·rw [if_pos c10] at H
    have c10b0:(a0_0 == 3)=true:=beq_iff_eq.mpr c10
    have c10b1:(a0_0 != 3)=false:=bne_eq_false_iff_eq.mpr c10
    clear c10
    (first|rw [c10b0]|(simp only [i64_w,i32_w];rw [c10b0])|skip)
    have H':=Aside0.mk H
    clear H
    go_wp2
    go_meet
    case rel=>exact ⟨_,((a0_0 == 3)),(by first|rfl|(simp;done)|(simp [*];done)),H',⟨by first|omega|exact Nat.le_refl _⟩,⟨gK BK134⟩,⟨by repeat (first|exact gB HB|refine below_set ?_ GE134.out)⟩⟩
   ·rw [if_neg c10] at H
    have c10b0:(a0_0 == 3)=false:=beq_eq_false_iff_ne.mpr c10
    have c10b1:(a0_0 != 3)=true:=bne_iff_ne.mpr c10
    (first|rw [c10b0]|(simp only [i64_w,i32_w];rw [c10b0])|skip)
    by_cases c11:a0_0=4
    ·rw [if_pos c11] at H
     have c11b0:(a0_0 == 4)=true:=beq_iff_eq.mpr c11
     have c11b1:(a0_0 != 4)=false:=bne_eq_false_iff_eq.mpr c11
     clear c11
     have H':=Aside0.mk H
     clear H
     go_wp2
     go_meet
     case rel=>exact ⟨_,((a0_0 == 4)),(by first|rfl|(simp;done)|(simp [*];done)),H',⟨by first|omega|exact Nat.le_refl _⟩,⟨gK BK134⟩,⟨by repeat (first|exact gB HB|refine below_set ?_ GE134.out)⟩⟩
    ·rw [if_neg c11] at H
     have c11b0:(a0_0 == 4)=false:=beq_eq_false_iff_ne.mpr c11
     have c11b1:(a0_0 != 4)=true:=bne_iff_ne.mpr c11
     have H':=Aside0.mk H
     clear H
     go_wp2
     go_meet
     case rel=>exact ⟨_,((a0_0 == 5)),(by first|rfl|(simp;done)|(simp [*];done)),H',⟨by first|omega|exact Nat.le_refl _⟩,⟨gK BK134⟩,⟨by repeat (first|exact gB HB|refine below_set ?_ GE134.out)⟩⟩
  case rest =>
   clear HC7
   try clear c1 c2 c2b0 c2b1 p2 c5 c10 c10b0 c10b1 c11 c11b0 c11b1 hcz4_0 hcz4_1 hcz4_2 hcz4_3 hcz9_0 hcz9_1 hcz9_2 hcz9_3 hfz4_0 hfz4_1 hfz4_2 hfz4_3 hfz9_0 hfz9_1 hfz9_2 hfz9_3
   obtain ⟨kq,x11_6,rfl,HA,HJ6,BK134,HB⟩:=hcut
   cases kq with
   | zero=>exact absurd HA.out (by simp [spec_l2Open.j0])
   | succ kj6 =>
    have H:=HA.out
    clear HA
    simp only [spec_l2Open.j0] at H
    by_cases c12:x11_6=true
    ·subst c12
     have H1:(some (([(⟨0,(⟨#[]⟩:ByteArray)⟩:SRow),(⟨0,(⟨#[]⟩:ByteArray)⟩:SRow)]:List (SRow))))=some r:=by rw [if_pos rfl] at H;exact H
     clear H
     have H:=H1
     clear H1
     obtain ⟨y138,hy138⟩:∃ y_:List (SRow),y_=(([(⟨0,(⟨#[]⟩:ByteArray)⟩:SRow),(⟨0,(⟨#[]⟩:ByteArray)⟩:SRow)]:List (SRow))):=⟨_,rfl⟩
     replace H:(some y138)=some r:=by first|(rw [hy138];with_reducible exact H)|(have H2_:=(Option.bind_some _ _).symm.trans H;rw [hy138];with_reducible exact H2_)|(have H2_:=(Option.bind_some _ _).symm.trans H;with_reducible exact H2_)|with_reducible exact H|(rw [hy138];exact H)|exact H
     have Ny138:=Aside0.mk hy138
     clear hy138
     obtain rfl:=Option.some.inj H
     go_wp2_with (first|((with_reducible refine gate_dst (N:=17) rfl ?_);refine Kd.R_lit k30 _ 30 ?hg (N:=17) ?hd (xs:=([(⟨0,(⟨#[]⟩:ByteArray)⟩:SRow),(⟨0,(⟨#[]⟩:ByteArray)⟩:SRow)]:List (SRow))) (inner:=[.int .i64 0,.string (⟨#[]⟩:ByteArray),.int .i64 0,.string (⟨#[]⟩:ByteArray)]) (ok:=fun _=>True) (okp:=fun _=>True) ?hr ?hp (fun _ hk=>hk) trivial (Below.refl _ _) (Nat.le_refl _) (by simp) ?_;(case hd=>rfl);(case hg=>rfl);(case hr=>first|(go_simp;done)|(go_simp;rfl));(case hp=>exact (Reps.c2 (show Kd.M k30 _ _ _ (⟨0,(⟨#[]⟩:ByteArray)⟩:SRow) [.int .i64 0,.string (⟨#[]⟩:ByteArray)] from (k30_mkM _ _ _ (⟨0,(⟨#[]⟩:ByteArray)⟩:SRow) )) (Reps.c2 (show Kd.M k30 _ _ _ (⟨0,(⟨#[]⟩:ByteArray)⟩:SRow) [.int .i64 0,.string (⟨#[]⟩:ByteArray)] from (k30_mkM _ _ _ (⟨0,(⟨#[]⟩:ByteArray)⟩:SRow) )) (Reps.none _ _))));intro v139 w13 ho14 hb hg_ hnew_;clear hg_ hnew_;(first|rw [← Ny138.out] at ho14|(simp only [Int.reduceToNat] at ho14;rw [← Ny138.out] at ho14));have n0_:=Aside0.mk (Kd.R_lower ho14 (below_size (by repeat (first|exact gB HB|refine below_set ?_ GE134.out))));have n1_:=Aside0.mk (blk_below (g:=gb134) (o:=.cells #[.int .i64 a0_0,.int .i64 a0_1,.string a0_2,.slice A0_3 l0_3.length c0_3] 39 (0,0)) (gK BK134) hb);have n2_:=Aside0.mk (below_step (by repeat (first|exact gB HB|refine below_set ?_ GE134.out)) hb);clear BK134;clear HB;have HO140:=n0_;have BK134:=n1_;have HB:=n2_;clear n0_ n1_ n2_;clear hb ho14))
     go_ret
     exact ⟨_,by first|rfl|(simp [errW_none,errW_some] <;> rfl)|(simp [*,errW_none,errW_some] <;> rfl),gR HO140,by repeat (first|exact gB HB|refine below_set ?_ GE134.out)⟩
    ·replace c12:=Bool.eq_false_iff.mpr c12
     subst c12
     have H1:(if a0_0=6 then (if 0<(l0_3.length:Int) then ((spec_l2Open.f kj6 ((rd_TDoc l0_3 0).f0) ((rd_TDoc l0_3 0).f1) ((rd_TDoc l0_3 0).f2) ((rd_TDoc l0_3 0).f3)).bind fun t142=>((spec_l2Nest.f kj6 a0_1 t142).bind fun t145=>(some t145))) else (none)) else (if a0_0=7 then (if 0<(l0_3.length:Int) then ((spec_l2Open.f kj6 ((rd_TDoc l0_3 0).f0) ((rd_TDoc l0_3 0).f1) ((rd_TDoc l0_3 0).f2) ((rd_TDoc l0_3 0).f3)).bind fun t149=>(if 1<(l0_3.length:Int) then ((spec_l2Open.f kj6 ((rd_TDoc l0_3 1).f0) ((rd_TDoc l0_3 1).f1) ((rd_TDoc l0_3 1).f2) ((rd_TDoc l0_3 1).f3)).bind fun t153=>((spec_l2Cat.f t149 t153).bind fun t156=>(some t156))) else (none))) else (none)) else (if a0_0=8 then (if 0<(l0_3.length:Int) then ((spec_l2Open.f kj6 ((rd_TDoc l0_3 0).f0) ((rd_TDoc l0_3 0).f1) ((rd_TDoc l0_3 0).f2) ((rd_TDoc l0_3 0).f3)).bind fun t160=>(some t160)) else (none)) else (some (([(⟨0,(⟨#[]⟩:ByteArray)⟩:SRow)]:List (SRow)))))))=some r:=by rw [if_neg (show ¬ (false=true) by decide)] at H;exact H
     clear H
     have H:=H1
     clear H1
     by_cases c15:a0_0=6
     ·rw [if_pos c15] at H
      have c15b0:(a0_0 == 6)=true:=beq_iff_eq.mpr c15
      have c15b1:(a0_0 != 6)=false:=bne_eq_false_iff_eq.mpr c15
      clear c15
      by_cases c16:0<(l0_3.length:Int)
      ·rw [if_pos c16] at H
       have c16b0:decide (0<(l0_3.length:Int))=true:=decide_eq_true c16
       have c16b1:decide (0<l0_3.length)=true:=decide_eq_true (by omega)
       clear c16
       replace H:=Option.bind_eq_some_iff.mp H
       obtain ⟨t142,A170,H⟩:=H
       replace H:((spec_l2Nest.f kj6 a0_1 t142).bind fun t145=>(some t145))=some r:=H
       have A17:=Aside0.mk A170
       clear A170
       replace H:=Option.bind_eq_some_iff.mp H
       obtain ⟨t145,A180,H⟩:=H
       replace H:(some t145)=some r:=H
       have A18:=Aside0.mk A180
       clear A180
       obtain rfl:=Option.some.inj H
       try go_wp2
       have n0_:=Aside0.mk (blk_drew BK134.out)
       have n1_:=Aside0.mk (below_drew1 HB.out)
       clear BK134
       clear HB
       have BK134:=n0_
       have HB:=n1_
       clear n0_ n1_
       have p141:0≤(0:Int):=(by omega)
       have q141:0<(l0_3.length:Int):=of_decide_eq_true (by first|(with_reducible assumption)|assumption)
       obtain ⟨ad141,A141_3,c141_3,e141,hx141_0,hx141_1,hx141_2,hx141_3,hl141_3,hi141_3⟩:=at_TDoc HR0_3.out 0 p141 q141
       have hw141_3:=hx141_3
       (try rw [show ((0:Int)).toNat=0 from rfl] at hw141_3)
       (try rw [show 0 * 4=0 from rfl] at hw141_3)
       (try rw [Addr.add_zero'] at hw141_3)
       have hw141_2:=hx141_2
       (try rw [show ((0:Int)).toNat=0 from rfl] at hw141_2)
       (try rw [show 0 * 4=0 from rfl] at hw141_2)
       (try rw [Addr.add_zero'] at hw141_2)
       have hw141_1:=hx141_1
       (try rw [show ((0:Int)).toNat=0 from rfl] at hw141_1)
       (try rw [show 0 * 4=0 from rfl] at hw141_1)
       (try rw [Addr.add_zero'] at hw141_1)
       have hw141_0:=hx141_0
       (try rw [show ((0:Int)).toNat=0 from rfl] at hw141_0)
       (try rw [show 0 * 4=0 from rfl] at hw141_0)
       (try rw [Addr.add_zero'] at hw141_0)
       cases e141
       have qi141:(0<l0_3.length)=True:=eq_true (by omega)
       (try rw [show ((0:Int)).toNat=0 from rfl] at hx141_0)
       (try rw [show 0 * 4=0 from rfl] at hx141_0)
       (try rw [Addr.add_zero'] at hx141_0)
       (try rw [show ((0:Int)).toNat=0 from rfl] at hx141_1)
       (try rw [show 0 * 4=0 from rfl] at hx141_1)
       (try rw [Addr.add_zero'] at hx141_1)
       (try rw [show ((0:Int)).toNat=0 from rfl] at hx141_2)
       (try rw [show 0 * 4=0 from rfl] at hx141_2)
       (try rw [Addr.add_zero'] at hx141_2)
       (try rw [show ((0:Int)).toNat=0 from rfl] at hx141_3)
       (try rw [show 0 * 4=0 from rfl] at hx141_3)
       (try rw [Addr.add_zero'] at hx141_3)
       replace hx141_0:=(HB.out.cell (World.block_lt_of_cell? w _ hx141_0)).trans hx141_0
       replace hx141_1:=(HB.out.cell (World.block_lt_of_cell? w _ hx141_1)).trans hx141_1
       replace hx141_2:=(HB.out.cell (World.block_lt_of_cell? w _ hx141_2)).trans hx141_2
       replace hx141_3:=(HB.out.cell (World.block_lt_of_cell? w _ hx141_3)).trans hx141_3
       have HR141_3:=Aside0.mk hi141_3
       have HC141_3:=Aside0.mk hl141_3
       clear hi141_3 hl141_3
       replace p141:=eq_true p141
       replace q141:=eq_true q141
       refine start_ (n:=9) (S:=fun w'=>w'.cell? ⟨gb134,0,none⟩=some (.int .i64 a0_0)∧w'.cell? ⟨gb134,1,none⟩=some (.int .i64 a0_1)∧w'.cell? ⟨gb134,2,none⟩=some (.string a0_2)∧w'.cell? ⟨gb134,3,none⟩=some (.slice (some ad141) l0_3.length c0_3)∧w'.cell? ad141=some (.int .i64 ((rd_TDoc l0_3 0).f0))∧w'.cell? ⟨ad141.block,ad141.off+1,none⟩=some (.int .i64 ((rd_TDoc l0_3 0).f1))∧w'.cell? ⟨ad141.block,ad141.off+2,none⟩=some (.string ((rd_TDoc l0_3 0).f2))∧w'.cell? ⟨ad141.block,ad141.off+3,none⟩=some (.slice A141_3 ((rd_TDoc l0_3 0).f3).length c141_3)) (ds:=[]) #[false,false,false,false,false,false,false,false,false] (by kernel_rfl) rfl rfl ⟨(blk_cell BK134.out 0).trans rfl,(blk_cell BK134.out 1).trans rfl,(blk_cell BK134.out 2).trans rfl,(blk_cell BK134.out 3).trans rfl,((HB.out.cell (World.block_lt_of_cell? w _ hw141_0)).trans hw141_0),((HB.out.cell (World.block_lt_of_cell? w _ hw141_1)).trans hw141_1),((HB.out.cell (World.block_lt_of_cell? w _ hw141_2)).trans hw141_2),((HB.out.cell (World.block_lt_of_cell? w _ hw141_3)).trans hw141_3)⟩ (fun hHeld=>?_);refine with_tabW spec_l2Open.tab9 spec_l2Open.bits9 (fun HT_ HW_=>?_)
       generalize wc.drew=w19 at BK134 HB HR141_3 hx141_0 hx141_1 hx141_2 hx141_3 hHeld ⊢
       refine pure_ (i:=0) (N:=some 20) (v:=?_) (a':=?_) #[true,false,false,false,false,false,false,false,false] rfl rfl (any_of HT_.out (by kernel_rfl)) (fun _ _ _ h=>h) (Or.inl ⟨by rfl,?_⟩) ?_ ?_
       rotate_left
       ·intro w'
        go_simp
        with_reducible rfl
       rotate_left
       ·simp only [Act.put,List.setIfInBounds_toArray,List.set_cons_zero,List.set_cons_succ,i64_w,i32_w]
        rfl
       refine pure_ (i:=2) (N:=some 22) (v:=?_) (a':=?_) #[true,false,true,false,false,false,false,false,false] rfl rfl (any_of HT_.out (by kernel_rfl)) (fun _ _ _ h=>h) (Or.inl ⟨by rfl,?_⟩) ?_ ?_
       rotate_left
       ·intro w'
        go_simp
        with_reducible rfl
       rotate_left
       ·simp only [Act.put,List.setIfInBounds_toArray,List.set_cons_zero,List.set_cons_succ,i64_w,i32_w]
        rfl
       refine take_ (i:=1) (N:=some 21) (v:=?_) (a':=?_) #[true,true,true,false,false,false,false,false,false] rfl rfl (take_ofW HT_.out HW_.out (by kernel_rfl)) (fun _ _ _ h=>h) (Or.inl ⟨by rfl,?_⟩) hHeld ?_ ?_
       rotate_left
       ·rintro w' ⟨s0,s1,s2,s3,s4,s5,s6,s7⟩
        go_simp
        with_reducible rfl
       rotate_left
       ·simp only [Act.put,List.setIfInBounds_toArray,List.set_cons_zero,List.set_cons_succ,i64_w,i32_w]
        rfl
       refine take_ (i:=3) (N:=some 23) (v:=?_) (a':=?_) #[true,true,true,true,false,false,false,false,false] rfl rfl (take_ofW HT_.out HW_.out (by kernel_rfl)) (fun _ _ _ h=>h) (Or.inl ⟨by rfl,?_⟩) hHeld ?_ ?_
       rotate_left
       ·rintro w' ⟨s0,s1,s2,s3,s4,s5,s6,s7⟩
        go_simp
        with_reducible rfl
       rotate_left
       ·simp only [Act.put,List.setIfInBounds_toArray,List.set_cons_zero,List.set_cons_succ,i64_w,i32_w]
        rfl
       refine pure_ (i:=4) (N:=some 24) (v:=?_) (a':=?_) #[true,true,true,true,true,false,false,false,false] rfl rfl (any_of HT_.out (by kernel_rfl)) (fun _ _ _ h=>h) (Or.inl ⟨by rfl,?_⟩) ?_ ?_
       rotate_left
       ·intro w'
        go_simp
        with_reducible rfl
       rotate_left
       ·simp only [Act.put,List.setIfInBounds_toArray,List.set_cons_zero,List.set_cons_succ,i64_w,i32_w]
        rfl
       refine take_ (i:=5) (N:=some 25) (v:=?_) (a':=?_) #[true,true,true,true,true,true,false,false,false] rfl rfl (take_ofW HT_.out HW_.out (by kernel_rfl)) (fun _ _ _ h=>h) (Or.inl ⟨by rfl,?_⟩) hHeld ?_ ?_
       rotate_left
       ·rintro w' ⟨s0,s1,s2,s3,s4,s5,s6,s7⟩
        go_simp
        with_reducible rfl
       rotate_left
       ·simp only [Act.put,List.setIfInBounds_toArray,List.set_cons_zero,List.set_cons_succ,i64_w,i32_w]
        rfl
       refine one_ (i:=6) (N:=some 26) #[true,true,true,true,true,true,true,false,false] rfl rfl (one_of HT_.out (by kernel_rfl)) (by decide) (fun K hK=>?_)
       refine goes_ Try.func53 (by kernel_rfl) rfl #[.agg #[.int .i64 ((rd_TDoc l0_3 0).f0),.int .i64 ((rd_TDoc l0_3 0).f1),.string ((rd_TDoc l0_3 0).f2),.slice A141_3 ((rd_TDoc l0_3 0).f3).length c141_3]] (by rfl) rfl rfl (by (try simp only [List.map_toArray,List.map_cons,List.map_nil]);first|done|rfl|(simp only [List.length_drop,List.length_take];rfl)) ?_
       with_reducible refine (ih kj6 (by have:=HJ6.out;omega) ((rd_TDoc l0_3 0).f0) ((rd_TDoc l0_3 0).f1) ((rd_TDoc l0_3 0).f2) _ _ ((rd_TDoc l0_3 0).f3) t142 _ ?side1 ?side2 A17.out).mono ?_
       (case side1=>exact gC (Kd.C_below HR141_3.out HB.out))
       (case side2=>exact HC141_3.out)
       rintro e w20 ⟨v143,rfl,ho0,hb⟩
       refine ⟨_,rfl,?_⟩
       have n0_:=Aside0.mk (Kd.R_lower ho0 (below_size (by repeat (first|exact gB HB|refine below_set ?_ GE134.out))))
       have n1_:=Aside0.mk (blk_below (g:=gb134) (o:=.cells #[.int .i64 a0_0,.int .i64 a0_1,.string a0_2,.slice (some ad141) l0_3.length c0_3] 39 (0,0)) (gK BK134) hb)
       have n2_:=Aside0.mk (below_step (by repeat (first|exact gB HB|refine below_set ?_ GE134.out)) hb)
       clear BK134
       clear HB
       have HO144:=n0_
       have BK134:=n1_
       have HB:=n2_
       clear n0_ n1_ n2_
       (try clear hb)
       (try clear hb2)
       (try clear hk)
       (try clear hi)
       (try clear ho0)
       obtain ⟨Ao21,co21,eo21⟩:=Kd.R_slice HO144.out
       (first|subst eo21|(injection eo21 with f1_ f2_ f3_;have f4_:=f1_.symm;have f5_:=f3_.symm;clear f1_ f2_ f3_;subst f4_;subst f5_))
       refine hK.out _ _ ⟨(blk_cell BK134.out 0).trans rfl,(blk_cell BK134.out 1).trans rfl,(blk_cell BK134.out 2).trans rfl,(blk_cell BK134.out 3).trans rfl,((HB.out.cell (World.block_lt_of_cell? w _ hw141_0)).trans hw141_0),((HB.out.cell (World.block_lt_of_cell? w _ hw141_1)).trans hw141_1),((HB.out.cell (World.block_lt_of_cell? w _ hw141_2)).trans hw141_2),((HB.out.cell (World.block_lt_of_cell? w _ hw141_3)).trans hw141_3)⟩ (fun hHeld=>?_)
       clear hK K
       refine norm_ (a':=?_) ?_ ?_
       rotate_left
       ·show Act.put _ (some 26) _=_
        simp only [Act.put,List.setIfInBounds_toArray,List.set_cons_zero,List.set_cons_succ,i64_w,i32_w]
        rfl
       refine one_ (i:=7) (N:=some 27) #[true,true,true,true,true,true,true,true,false] rfl rfl (one_of HT_.out (by kernel_rfl)) (by decide) (fun K hK=>?_)
       refine goes_ Try.func48 (by kernel_rfl) rfl #[.int .i64 a0_1,.slice Ao21 t142.length co21] (by rfl) rfl rfl (by (try simp only [List.map_toArray,List.map_cons,List.map_nil]);first|done|rfl|(simp only [List.length_drop,List.length_take];rfl)) ?_
       with_reducible refine (spec_l2Nest.calls kj6 a0_1 _ _ t142 t145 _ ?side1 ?side2 A18.out).mono ?_
       (case side1=>exact gC ((Kd.R_reads' HO144.out).2.2))
       (case side2=>exact (Kd.R_reads' HO144.out).2.1)
       rintro e w22 ⟨v146,rfl,ho0,hb⟩
       refine ⟨_,rfl,?_⟩
       have n0_:=Aside0.mk (Kd.R_elder' (gR HO144) (Kd.R_base ho0) hb)
       have n1_:=Aside0.mk (Kd.R_lower (Kd.R_new' ho0 (Kd.R_lt (gR HO144))) (below_size (by repeat (first|exact gB HB|refine below_set ?_ GE134.out))))
       have n2_:=Aside0.mk (blk_below (g:=gb134) (o:=.cells #[.int .i64 a0_0,.int .i64 a0_1,.string a0_2,.slice (some ad141) l0_3.length c0_3] 39 (0,0)) (gK BK134) hb)
       have n3_:=Aside0.mk (below_step (by repeat (first|exact gB HB|refine below_set ?_ GE134.out)) hb)
       clear HO144
       clear BK134
       clear HB
       have HO144:=n0_
       have HO147:=n1_
       have BK134:=n2_
       have HB:=n3_
       clear n0_ n1_ n2_ n3_
       (try clear hb)
       (try clear hb2)
       (try clear hk)
       (try clear hi)
       (try clear ho0)
       refine hK.out _ _ ⟨(blk_cell BK134.out 0).trans rfl,(blk_cell BK134.out 1).trans rfl,(blk_cell BK134.out 2).trans rfl,(blk_cell BK134.out 3).trans rfl,((HB.out.cell (World.block_lt_of_cell? w _ hw141_0)).trans hw141_0),((HB.out.cell (World.block_lt_of_cell? w _ hw141_1)).trans hw141_1),((HB.out.cell (World.block_lt_of_cell? w _ hw141_2)).trans hw141_2),((HB.out.cell (World.block_lt_of_cell? w _ hw141_3)).trans hw141_3)⟩ (fun hHeld=>?_)
       clear hK K
       refine norm_ (a':=?_) ?_ ?_
       rotate_left
       ·show Act.put _ (some 27) _=_
        simp only [Act.put,List.setIfInBounds_toArray,List.set_cons_zero,List.set_cons_succ,i64_w,i32_w]
        rfl
       refine pure_ (i:=8) (N:=some 2) (v:=?_) (a':=?_) #[true,true,true,true,true,true,true,true,true] rfl rfl (any_of HT_.out (by kernel_rfl)) (fun _ _ _ h=>h) (Or.inl ⟨by rfl,?_⟩) ?_ ?_
       rotate_left
       ·intro w'
        go_simp
        with_reducible rfl
       rotate_left
       ·simp only [Act.put,List.setIfInBounds_toArray,List.set_cons_zero,List.set_cons_succ,i64_w,i32_w]
        rfl
       refine done_ (done_of HT_.out (by kernel_rfl)) ?_
       try go_wp2
       go_ret
       exact ⟨_,by first|rfl|(simp [errW_none,errW_some] <;> rfl)|(simp [*,errW_none,errW_some] <;> rfl),by (with_reducible repeat (first|apply Kd.R_alloc|apply Kd.R_drewN|apply Kd.R_drew));exact Kd.R_mono HO147.out (fun _ hk=>trivial),by repeat (first|exact gB HB|refine below_set ?_ GE134.out)⟩
      ·rw [if_neg c16] at H
       exact absurd H (by simp)
     ·rw [if_neg c15] at H
      have c15b0:(a0_0 == 6)=false:=beq_eq_false_iff_ne.mpr c15
      have c15b1:(a0_0 != 6)=true:=bne_iff_ne.mpr c15
      by_cases c23:a0_0=7
      ·rw [if_pos c23] at H
       have c23b0:(a0_0 == 7)=true:=beq_iff_eq.mpr c23
       have c23b1:(a0_0 != 7)=false:=bne_eq_false_iff_eq.mpr c23
       clear c23
       by_cases c24:0<(l0_3.length:Int)
       ·rw [if_pos c24] at H
        have c24b0:decide (0<(l0_3.length:Int))=true:=decide_eq_true c24
        have c24b1:decide (0<l0_3.length)=true:=decide_eq_true (by omega)
        clear c24
        replace H:=Option.bind_eq_some_iff.mp H
        obtain ⟨t149,A250,H⟩:=H
        replace H:(if 1<(l0_3.length:Int) then ((spec_l2Open.f kj6 ((rd_TDoc l0_3 1).f0) ((rd_TDoc l0_3 1).f1) ((rd_TDoc l0_3 1).f2) ((rd_TDoc l0_3 1).f3)).bind fun t153=>((spec_l2Cat.f t149 t153).bind fun t156=>(some t156))) else (none))=some r:=H
        have A25:=Aside0.mk A250
        clear A250
        by_cases c26:1<(l0_3.length:Int)
        ·rw [if_pos c26] at H
         have c26b0:decide (1<(l0_3.length:Int))=true:=decide_eq_true c26
         have c26b1:decide (1<l0_3.length)=true:=decide_eq_true (by omega)
         clear c26
         replace H:=Option.bind_eq_some_iff.mp H
         obtain ⟨t153,A270,H⟩:=H
         replace H:((spec_l2Cat.f t149 t153).bind fun t156=>(some t156))=some r:=H
         have A27:=Aside0.mk A270
         clear A270
         replace H:=Option.bind_eq_some_iff.mp H
         obtain ⟨t156,A280,H⟩:=H
         replace H:(some t156)=some r:=H
         have A28:=Aside0.mk A280
         clear A280
         obtain rfl:=Option.some.inj H
         try go_wp2
         have n0_:=Aside0.mk (blk_drew BK134.out)
         have n1_:=Aside0.mk (below_drew1 HB.out)
         clear BK134
         clear HB
         have BK134:=n0_
         have HB:=n1_
         clear n0_ n1_
         have p148:0≤(0:Int):=(by omega)
         have q148:0<(l0_3.length:Int):=of_decide_eq_true (by first|(with_reducible assumption)|assumption)
         (try clear hx141_0);(try clear hx141_1);(try clear hx141_2);(try clear hx141_3)
         obtain ⟨ad148,A148_3,c148_3,e148,hx148_0,hx148_1,hx148_2,hx148_3,hl148_3,hi148_3⟩:=at_TDoc HR0_3.out 0 p148 q148
         (try (have ea_:=Option.some.inj (hx148_3.symm.trans hw141_3);injection ea_ with ea_ en_ ec_;subst ea_;subst ec_;clear en_))
         have hw148_3:=hx148_3
         (try rw [show ((0:Int)).toNat=0 from rfl] at hw148_3)
         (try rw [show 0 * 4=0 from rfl] at hw148_3)
         (try rw [Addr.add_zero'] at hw148_3)
         have hw148_2:=hx148_2
         (try rw [show ((0:Int)).toNat=0 from rfl] at hw148_2)
         (try rw [show 0 * 4=0 from rfl] at hw148_2)
         (try rw [Addr.add_zero'] at hw148_2)
         have hw148_1:=hx148_1
         (try rw [show ((0:Int)).toNat=0 from rfl] at hw148_1)
         (try rw [show 0 * 4=0 from rfl] at hw148_1)
         (try rw [Addr.add_zero'] at hw148_1)
         have hw148_0:=hx148_0
         (try rw [show ((0:Int)).toNat=0 from rfl] at hw148_0)
         (try rw [show 0 * 4=0 from rfl] at hw148_0)
         (try rw [Addr.add_zero'] at hw148_0)
         cases e148
         have qi148:(0<l0_3.length)=True:=eq_true (by omega)
         (try rw [show ((0:Int)).toNat=0 from rfl] at hx148_0)
         (try rw [show 0 * 4=0 from rfl] at hx148_0)
         (try rw [Addr.add_zero'] at hx148_0)
         (try rw [show ((0:Int)).toNat=0 from rfl] at hx148_1)
         (try rw [show 0 * 4=0 from rfl] at hx148_1)
         (try rw [Addr.add_zero'] at hx148_1)
         (try rw [show ((0:Int)).toNat=0 from rfl] at hx148_2)
         (try rw [show 0 * 4=0 from rfl] at hx148_2)
         (try rw [Addr.add_zero'] at hx148_2)
         (try rw [show ((0:Int)).toNat=0 from rfl] at hx148_3)
         (try rw [show 0 * 4=0 from rfl] at hx148_3)
         (try rw [Addr.add_zero'] at hx148_3)
         replace hx148_0:=(HB.out.cell (World.block_lt_of_cell? w _ hx148_0)).trans hx148_0
         replace hx148_1:=(HB.out.cell (World.block_lt_of_cell? w _ hx148_1)).trans hx148_1
         replace hx148_2:=(HB.out.cell (World.block_lt_of_cell? w _ hx148_2)).trans hx148_2
         replace hx148_3:=(HB.out.cell (World.block_lt_of_cell? w _ hx148_3)).trans hx148_3
         have HR148_3:=Aside0.mk hi148_3
         have HC148_3:=Aside0.mk hl148_3
         clear hi148_3 hl148_3
         replace p148:=eq_true p148
         replace q148:=eq_true q148
         have p152:0≤(1:Int):=(by omega)
         have q152:1<(l0_3.length:Int):=of_decide_eq_true (by first|(with_reducible assumption)|assumption)
         obtain ⟨ad152,A152_3,c152_3,e152,hx152_0,hx152_1,hx152_2,hx152_3,hl152_3,hi152_3⟩:=at_TDoc HR0_3.out 1 p152 q152
         have hw152_3:=hx152_3
         (try rw [show ((1:Int)).toNat=1 from rfl] at hw152_3)
         (try rw [show 1 * 4=4 from rfl] at hw152_3)
         (try simp only [Nat.reduceMul,Nat.reduceEqDiff,Go.Addr.add,↓reduceIte] at hw152_3)
         have hw152_2:=hx152_2
         (try rw [show ((1:Int)).toNat=1 from rfl] at hw152_2)
         (try rw [show 1 * 4=4 from rfl] at hw152_2)
         (try simp only [Nat.reduceMul,Nat.reduceEqDiff,Go.Addr.add,↓reduceIte] at hw152_2)
         have hw152_1:=hx152_1
         (try rw [show ((1:Int)).toNat=1 from rfl] at hw152_1)
         (try rw [show 1 * 4=4 from rfl] at hw152_1)
         (try simp only [Nat.reduceMul,Nat.reduceEqDiff,Go.Addr.add,↓reduceIte] at hw152_1)
         have hw152_0:=hx152_0
         (try rw [show ((1:Int)).toNat=1 from rfl] at hw152_0)
         (try rw [show 1 * 4=4 from rfl] at hw152_0)
         (try simp only [Nat.reduceMul,Nat.reduceEqDiff,Go.Addr.add,↓reduceIte] at hw152_0)
         obtain rfl:ad148=ad152:=(by injection e152)
         (try simp only [show (1:Int).toNat=1 from rfl,Nat.reduceMul,Nat.reduceEqDiff,Go.Addr.add,↓reduceIte] at hx152_0)
         (try simp only [show (1:Int).toNat=1 from rfl,Nat.reduceMul,Nat.reduceEqDiff,Go.Addr.add,↓reduceIte] at hx152_1)
         (try simp only [show (1:Int).toNat=1 from rfl,Nat.reduceMul,Nat.reduceEqDiff,Go.Addr.add,↓reduceIte] at hx152_2)
         (try simp only [show (1:Int).toNat=1 from rfl,Nat.reduceMul,Nat.reduceEqDiff,Go.Addr.add,↓reduceIte] at hx152_3)
         have qi152:(1<l0_3.length)=True:=eq_true (by omega)
         (try rw [show ((1:Int)).toNat=1 from rfl] at hx152_0)
         (try rw [show 1 * 4=4 from rfl] at hx152_0)
         (try rw [show ((1:Int)).toNat=1 from rfl] at hx152_1)
         (try rw [show 1 * 4=4 from rfl] at hx152_1)
         (try rw [show ((1:Int)).toNat=1 from rfl] at hx152_2)
         (try rw [show 1 * 4=4 from rfl] at hx152_2)
         (try rw [show ((1:Int)).toNat=1 from rfl] at hx152_3)
         (try rw [show 1 * 4=4 from rfl] at hx152_3)
         replace hx152_0:=(HB.out.cell (World.block_lt_of_cell? w _ hx152_0)).trans hx152_0
         replace hx152_1:=(HB.out.cell (World.block_lt_of_cell? w _ hx152_1)).trans hx152_1
         replace hx152_2:=(HB.out.cell (World.block_lt_of_cell? w _ hx152_2)).trans hx152_2
         replace hx152_3:=(HB.out.cell (World.block_lt_of_cell? w _ hx152_3)).trans hx152_3
         have HR152_3:=Aside0.mk hi152_3
         have HC152_3:=Aside0.mk hl152_3
         clear hi152_3 hl152_3
         replace p152:=eq_true p152
         replace q152:=eq_true q152
         refine start_ (n:=12) (S:=fun w'=>w'.cell? ⟨gb134,0,none⟩=some (.int .i64 a0_0)∧w'.cell? ⟨gb134,1,none⟩=some (.int .i64 a0_1)∧w'.cell? ⟨gb134,2,none⟩=some (.string a0_2)∧w'.cell? ⟨gb134,3,none⟩=some (.slice (some ad148) l0_3.length c0_3)∧w'.cell? ad148=some (.int .i64 ((rd_TDoc l0_3 0).f0))∧w'.cell? ⟨ad148.block,ad148.off+1,none⟩=some (.int .i64 ((rd_TDoc l0_3 0).f1))∧w'.cell? ⟨ad148.block,ad148.off+2,none⟩=some (.string ((rd_TDoc l0_3 0).f2))∧w'.cell? ⟨ad148.block,ad148.off+3,none⟩=some (.slice A148_3 ((rd_TDoc l0_3 0).f3).length c148_3)∧w'.cell? ⟨ad148.block,ad148.off+4,none⟩=some (.int .i64 ((rd_TDoc l0_3 1).f0))∧w'.cell? ⟨ad148.block,ad148.off+4+1,none⟩=some (.int .i64 ((rd_TDoc l0_3 1).f1))∧w'.cell? ⟨ad148.block,ad148.off+4+2,none⟩=some (.string ((rd_TDoc l0_3 1).f2))∧w'.cell? ⟨ad148.block,ad148.off+4+3,none⟩=some (.slice A152_3 ((rd_TDoc l0_3 1).f3).length c152_3)) (ds:=[]) #[false,false,false,false,false,false,false,false,false,false,false,false] (by kernel_rfl) rfl rfl ⟨(blk_cell BK134.out 0).trans rfl,(blk_cell BK134.out 1).trans rfl,(blk_cell BK134.out 2).trans rfl,(blk_cell BK134.out 3).trans rfl,((HB.out.cell (World.block_lt_of_cell? w _ hw148_0)).trans hw148_0),((HB.out.cell (World.block_lt_of_cell? w _ hw148_1)).trans hw148_1),((HB.out.cell (World.block_lt_of_cell? w _ hw148_2)).trans hw148_2),((HB.out.cell (World.block_lt_of_cell? w _ hw148_3)).trans hw148_3),((HB.out.cell (World.block_lt_of_cell? w _ hw152_0)).trans hw152_0),((HB.out.cell (World.block_lt_of_cell? w _ hw152_1)).trans hw152_1),((HB.out.cell (World.block_lt_of_cell? w _ hw152_2)).trans hw152_2),((HB.out.cell (World.block_lt_of_cell? w _ hw152_3)).trans hw152_3)⟩ (fun hHeld=>?_);refine with_tabW spec_l2Open.tab11 spec_l2Open.bits11 (fun HT_ HW_=>?_)
         generalize wc.drew=w29 at BK134 HB HR148_3 HR152_3 hx148_0 hx148_1 hx148_2 hx148_3 hx152_0 hx152_1 hx152_2 hx152_3 hHeld ⊢
         refine pure_ (i:=0) (N:=some 30) (v:=?_) (a':=?_) #[true,false,false,false,false,false,false,false,false,false,false,false] rfl rfl (any_of HT_.out (by kernel_rfl)) (fun _ _ _ h=>h) (Or.inl ⟨by rfl,?_⟩) ?_ ?_
         rotate_left
         ·intro w'
          go_simp
          with_reducible rfl
         rotate_left
         ·simp only [Act.put,List.setIfInBounds_toArray,List.set_cons_zero,List.set_cons_succ,i64_w,i32_w]
          rfl
         refine pure_ (i:=5) (N:=some 35) (v:=?_) (a':=?_) #[true,false,false,false,false,true,false,false,false,false,false,false] rfl rfl (any_of HT_.out (by kernel_rfl)) (fun _ _ _ h=>h) (Or.inl ⟨by rfl,?_⟩) ?_ ?_
         rotate_left
         ·intro w'
          go_simp
          with_reducible rfl
         rotate_left
         ·simp only [Act.put,List.setIfInBounds_toArray,List.set_cons_zero,List.set_cons_succ,i64_w,i32_w]
          rfl
         refine take_ (i:=1) (N:=some 31) (v:=?_) (a':=?_) #[true,true,false,false,false,true,false,false,false,false,false,false] rfl rfl (take_ofW HT_.out HW_.out (by kernel_rfl)) (fun _ _ _ h=>h) (Or.inl ⟨by rfl,?_⟩) hHeld ?_ ?_
         rotate_left
         ·rintro w' ⟨s0,s1,s2,s3,s4,s5,s6,s7,s8,s9,s10,s11⟩
          go_simp
          with_reducible rfl
         rotate_left
         ·simp only [Act.put,List.setIfInBounds_toArray,List.set_cons_zero,List.set_cons_succ,i64_w,i32_w]
          rfl
         refine pure_ (i:=2) (N:=some 32) (v:=?_) (a':=?_) #[true,true,true,false,false,true,false,false,false,false,false,false] rfl rfl (any_of HT_.out (by kernel_rfl)) (fun _ _ _ h=>h) (Or.inl ⟨by rfl,?_⟩) ?_ ?_
         rotate_left
         ·intro w'
          go_simp
          with_reducible rfl
         rotate_left
         ·simp only [Act.put,List.setIfInBounds_toArray,List.set_cons_zero,List.set_cons_succ,i64_w,i32_w]
          rfl
         refine take_ (i:=3) (N:=some 33) (v:=?_) (a':=?_) #[true,true,true,true,false,true,false,false,false,false,false,false] rfl rfl (take_ofW HT_.out HW_.out (by kernel_rfl)) (fun _ _ _ h=>h) (Or.inl ⟨by rfl,?_⟩) hHeld ?_ ?_
         rotate_left
         ·rintro w' ⟨s0,s1,s2,s3,s4,s5,s6,s7,s8,s9,s10,s11⟩
          go_simp
          with_reducible rfl
         rotate_left
         ·simp only [Act.put,List.setIfInBounds_toArray,List.set_cons_zero,List.set_cons_succ,i64_w,i32_w]
          rfl
         refine take_ (i:=6) (N:=some 36) (v:=?_) (a':=?_) #[true,true,true,true,false,true,true,false,false,false,false,false] rfl rfl (take_ofW HT_.out HW_.out (by kernel_rfl)) (fun _ _ _ h=>h) (Or.inl ⟨by rfl,?_⟩) hHeld ?_ ?_
         rotate_left
         ·rintro w' ⟨s0,s1,s2,s3,s4,s5,s6,s7,s8,s9,s10,s11⟩
          go_simp
          with_reducible rfl
         rotate_left
         ·simp only [Act.put,List.setIfInBounds_toArray,List.set_cons_zero,List.set_cons_succ,i64_w,i32_w]
          rfl
         refine pure_ (i:=7) (N:=some 37) (v:=?_) (a':=?_) #[true,true,true,true,false,true,true,true,false,false,false,false] rfl rfl (any_of HT_.out (by kernel_rfl)) (fun _ _ _ h=>h) (Or.inl ⟨by rfl,?_⟩) ?_ ?_
         rotate_left
         ·intro w'
          go_simp
          with_reducible rfl
         rotate_left
         ·simp only [Act.put,List.setIfInBounds_toArray,List.set_cons_zero,List.set_cons_succ,i64_w,i32_w]
          rfl
         refine take_ (i:=8) (N:=some 38) (v:=?_) (a':=?_) #[true,true,true,true,false,true,true,true,true,false,false,false] rfl rfl (take_ofW HT_.out HW_.out (by kernel_rfl)) (fun _ _ _ h=>h) (Or.inl ⟨by rfl,?_⟩) hHeld ?_ ?_
         rotate_left
         ·rintro w' ⟨s0,s1,s2,s3,s4,s5,s6,s7,s8,s9,s10,s11⟩
          go_simp
          with_reducible rfl
         rotate_left
         ·simp only [Act.put,List.setIfInBounds_toArray,List.set_cons_zero,List.set_cons_succ,i64_w,i32_w]
          rfl
         refine one_ (i:=4) (N:=some 34) #[true,true,true,true,true,true,true,true,true,false,false,false] rfl rfl (one_of HT_.out (by kernel_rfl)) (by decide) (fun K hK=>?_)
         refine goes_ Try.func53 (by kernel_rfl) rfl #[.agg #[.int .i64 ((rd_TDoc l0_3 0).f0),.int .i64 ((rd_TDoc l0_3 0).f1),.string ((rd_TDoc l0_3 0).f2),.slice A148_3 ((rd_TDoc l0_3 0).f3).length c148_3]] (by rfl) rfl rfl (by (try simp only [List.map_toArray,List.map_cons,List.map_nil]);first|done|rfl|(simp only [List.length_drop,List.length_take];rfl)) ?_
         with_reducible refine (ih kj6 (by have:=HJ6.out;omega) ((rd_TDoc l0_3 0).f0) ((rd_TDoc l0_3 0).f1) ((rd_TDoc l0_3 0).f2) _ _ ((rd_TDoc l0_3 0).f3) t149 _ ?side1 ?side2 A25.out).mono ?_
         (case side1=>exact gC (Kd.C_below HR148_3.out HB.out))
         (case side2=>exact HC148_3.out)
         rintro e w30 ⟨v150,rfl,ho0,hb⟩
         refine ⟨_,rfl,?_⟩
         have n0_:=Aside0.mk (Kd.R_lower ho0 (below_size (by repeat (first|exact gB HB|refine below_set ?_ GE134.out))))
         have n1_:=Aside0.mk (blk_below (g:=gb134) (o:=.cells #[.int .i64 a0_0,.int .i64 a0_1,.string a0_2,.slice (some ad148) l0_3.length c0_3] 39 (0,0)) (gK BK134) hb)
         have n2_:=Aside0.mk (below_step (by repeat (first|exact gB HB|refine below_set ?_ GE134.out)) hb)
         clear BK134
         clear HB
         have HO151:=n0_
         have BK134:=n1_
         have HB:=n2_
         clear n0_ n1_ n2_
         (try clear hb)
         (try clear hb2)
         (try clear hk)
         (try clear hi)
         (try clear ho0)
         refine hK.out _ _ ⟨(blk_cell BK134.out 0).trans rfl,(blk_cell BK134.out 1).trans rfl,(blk_cell BK134.out 2).trans rfl,(blk_cell BK134.out 3).trans rfl,((HB.out.cell (World.block_lt_of_cell? w _ hw148_0)).trans hw148_0),((HB.out.cell (World.block_lt_of_cell? w _ hw148_1)).trans hw148_1),((HB.out.cell (World.block_lt_of_cell? w _ hw148_2)).trans hw148_2),((HB.out.cell (World.block_lt_of_cell? w _ hw148_3)).trans hw148_3),((HB.out.cell (World.block_lt_of_cell? w _ hw152_0)).trans hw152_0),((HB.out.cell (World.block_lt_of_cell? w _ hw152_1)).trans hw152_1),((HB.out.cell (World.block_lt_of_cell? w _ hw152_2)).trans hw152_2),((HB.out.cell (World.block_lt_of_cell? w _ hw152_3)).trans hw152_3)⟩ (fun hHeld=>?_)
         clear hK K
         refine norm_ (a':=?_) ?_ ?_
         rotate_left
         ·show Act.put _ (some 34) _=_
          simp only [Act.put,List.setIfInBounds_toArray,List.set_cons_zero,List.set_cons_succ,i64_w,i32_w]
          rfl
         refine one_ (i:=9) (N:=some 39) #[true,true,true,true,true,true,true,true,true,true,false,false] rfl rfl (one_of HT_.out (by kernel_rfl)) (by decide) (fun K hK=>?_)
         refine goes_ Try.func53 (by kernel_rfl) rfl #[.agg #[.int .i64 ((rd_TDoc l0_3 1).f0),.int .i64 ((rd_TDoc l0_3 1).f1),.string ((rd_TDoc l0_3 1).f2),.slice A152_3 ((rd_TDoc l0_3 1).f3).length c152_3]] (by rfl) rfl rfl (by (try simp only [List.map_toArray,List.map_cons,List.map_nil]);first|done|rfl|(simp only [List.length_drop,List.length_take];rfl)) ?_
         with_reducible refine (ih kj6 (by have:=HJ6.out;omega) ((rd_TDoc l0_3 1).f0) ((rd_TDoc l0_3 1).f1) ((rd_TDoc l0_3 1).f2) _ _ ((rd_TDoc l0_3 1).f3) t153 _ ?side1 ?side2 A27.out).mono ?_
         (case side1=>exact gC (Kd.C_below HR152_3.out HB.out))
         (case side2=>exact HC152_3.out)
         rintro e w31 ⟨v154,rfl,ho0,hb⟩
         refine ⟨_,rfl,?_⟩
         have n0_:=Aside0.mk (Kd.R_elder' (gR HO151) (Kd.R_base ho0) hb)
         have n1_:=Aside0.mk (Kd.R_lower (Kd.R_new' ho0 (Kd.R_lt (gR HO151))) (below_size (by repeat (first|exact gB HB|refine below_set ?_ GE134.out))))
         have n2_:=Aside0.mk (blk_below (g:=gb134) (o:=.cells #[.int .i64 a0_0,.int .i64 a0_1,.string a0_2,.slice (some ad148) l0_3.length c0_3] 39 (0,0)) (gK BK134) hb)
         have n3_:=Aside0.mk (below_step (by repeat (first|exact gB HB|refine below_set ?_ GE134.out)) hb)
         clear HO151
         clear BK134
         clear HB
         have HO151:=n0_
         have HO155:=n1_
         have BK134:=n2_
         have HB:=n3_
         clear n0_ n1_ n2_ n3_
         (try clear hb)
         (try clear hb2)
         (try clear hk)
         (try clear hi)
         (try clear ho0)
         obtain ⟨Ao32,co32,eo32⟩:=Kd.R_slice HO151.out
         (first|subst eo32|(injection eo32 with f1_ f2_ f3_;have f4_:=f1_.symm;have f5_:=f3_.symm;clear f1_ f2_ f3_;subst f4_;subst f5_))
         obtain ⟨Ao33,co33,eo33⟩:=Kd.R_slice HO155.out
         (first|subst eo33|(injection eo33 with f1_ f2_ f3_;have f4_:=f1_.symm;have f5_:=f3_.symm;clear f1_ f2_ f3_;subst f4_;subst f5_))
         refine hK.out _ _ ⟨(blk_cell BK134.out 0).trans rfl,(blk_cell BK134.out 1).trans rfl,(blk_cell BK134.out 2).trans rfl,(blk_cell BK134.out 3).trans rfl,((HB.out.cell (World.block_lt_of_cell? w _ hw148_0)).trans hw148_0),((HB.out.cell (World.block_lt_of_cell? w _ hw148_1)).trans hw148_1),((HB.out.cell (World.block_lt_of_cell? w _ hw148_2)).trans hw148_2),((HB.out.cell (World.block_lt_of_cell? w _ hw148_3)).trans hw148_3),((HB.out.cell (World.block_lt_of_cell? w _ hw152_0)).trans hw152_0),((HB.out.cell (World.block_lt_of_cell? w _ hw152_1)).trans hw152_1),((HB.out.cell (World.block_lt_of_cell? w _ hw152_2)).trans hw152_2),((HB.out.cell (World.block_lt_of_cell? w _ hw152_3)).trans hw152_3)⟩ (fun hHeld=>?_)
         clear hK K
         refine norm_ (a':=?_) ?_ ?_
         rotate_left
         ·show Act.put _ (some 39) _=_
          simp only [Act.put,List.setIfInBounds_toArray,List.set_cons_zero,List.set_cons_succ,i64_w,i32_w]
          rfl
         refine one_ (i:=10) (N:=some 40) #[true,true,true,true,true,true,true,true,true,true,true,false] rfl rfl (one_of HT_.out (by kernel_rfl)) (by decide) (fun K hK=>?_)
         refine goes_ Try.func43 (by kernel_rfl) rfl #[.slice Ao32 t149.length co32,.slice Ao33 t153.length co33] (by rfl) rfl rfl (by (try simp only [List.map_toArray,List.map_cons,List.map_nil]);first|done|rfl|(simp only [List.length_drop,List.length_take];rfl)) ?_
         with_reducible refine (spec_l2Cat.calls _ _ t149 _ _ t153 t156 _ ?side1 ?side2 ?side3 ?side4 A28.out).mono ?_
         (case side1=>exact gC ((Kd.R_reads' HO151.out).2.2))
         (case side2=>exact (Kd.R_reads' HO151.out).2.1)
         (case side3=>exact gC ((Kd.R_reads' HO155.out).2.2))
         (case side4=>exact (Kd.R_reads' HO155.out).2.1)
         rintro e w34 ⟨v157,rfl,ho0,hb⟩
         refine ⟨_,rfl,?_⟩
         have n0_:=Aside0.mk (Kd.R_elder' (gR HO151) (Kd.R_base ho0) hb)
         have n1_:=Aside0.mk (Kd.R_elder' (gR HO155) (Kd.R_base ho0) hb)
         have n2_:=Aside0.mk (Kd.R_lower (Kd.R_new' (Kd.R_new' ho0 (Kd.R_lt (gR HO151))) (Kd.R_lt (gR HO155))) (below_size (by repeat (first|exact gB HB|refine below_set ?_ GE134.out))))
         have n3_:=Aside0.mk (blk_below (g:=gb134) (o:=.cells #[.int .i64 a0_0,.int .i64 a0_1,.string a0_2,.slice (some ad148) l0_3.length c0_3] 39 (0,0)) (gK BK134) hb)
         have n4_:=Aside0.mk (below_step (by repeat (first|exact gB HB|refine below_set ?_ GE134.out)) hb)
         clear HO151
         clear HO155
         clear BK134
         clear HB
         have HO151:=n0_
         have HO155:=n1_
         have HO158:=n2_
         have BK134:=n3_
         have HB:=n4_
         clear n0_ n1_ n2_ n3_ n4_
         (try clear hb)
         (try clear hb2)
         (try clear hk)
         (try clear hi)
         (try clear ho0)
         refine hK.out _ _ ⟨(blk_cell BK134.out 0).trans rfl,(blk_cell BK134.out 1).trans rfl,(blk_cell BK134.out 2).trans rfl,(blk_cell BK134.out 3).trans rfl,((HB.out.cell (World.block_lt_of_cell? w _ hw148_0)).trans hw148_0),((HB.out.cell (World.block_lt_of_cell? w _ hw148_1)).trans hw148_1),((HB.out.cell (World.block_lt_of_cell? w _ hw148_2)).trans hw148_2),((HB.out.cell (World.block_lt_of_cell? w _ hw148_3)).trans hw148_3),((HB.out.cell (World.block_lt_of_cell? w _ hw152_0)).trans hw152_0),((HB.out.cell (World.block_lt_of_cell? w _ hw152_1)).trans hw152_1),((HB.out.cell (World.block_lt_of_cell? w _ hw152_2)).trans hw152_2),((HB.out.cell (World.block_lt_of_cell? w _ hw152_3)).trans hw152_3)⟩ (fun hHeld=>?_)
         clear hK K
         refine norm_ (a':=?_) ?_ ?_
         rotate_left
         ·show Act.put _ (some 40) _=_
          simp only [Act.put,List.setIfInBounds_toArray,List.set_cons_zero,List.set_cons_succ,i64_w,i32_w]
          rfl
         refine pure_ (i:=11) (N:=some 2) (v:=?_) (a':=?_) #[true,true,true,true,true,true,true,true,true,true,true,true] rfl rfl (any_of HT_.out (by kernel_rfl)) (fun _ _ _ h=>h) (Or.inl ⟨by rfl,?_⟩) ?_ ?_
         rotate_left
         ·intro w'
          go_simp
          with_reducible rfl
         rotate_left
         ·simp only [Act.put,List.setIfInBounds_toArray,List.set_cons_zero,List.set_cons_succ,i64_w,i32_w]
          rfl
         refine done_ (done_of HT_.out (by kernel_rfl)) ?_
         try go_wp2
         go_ret
         exact ⟨_,by first|rfl|(simp [errW_none,errW_some] <;> rfl)|(simp [*,errW_none,errW_some] <;> rfl),by (with_reducible repeat (first|apply Kd.R_alloc|apply Kd.R_drewN|apply Kd.R_drew));exact Kd.R_mono HO158.out (fun _ hk=>trivial),by repeat (first|exact gB HB|refine below_set ?_ GE134.out)⟩
        ·rw [if_neg c26] at H
         exact absurd H (by simp)
       ·rw [if_neg c24] at H
        exact absurd H (by simp)
      ·rw [if_neg c23] at H
       have c23b0:(a0_0 == 7)=false:=beq_eq_false_iff_ne.mpr c23
       have c23b1:(a0_0 != 7)=true:=bne_iff_ne.mpr c23
       by_cases c35:a0_0=8
       ·rw [if_pos c35] at H
        have c35b0:(a0_0 == 8)=true:=beq_iff_eq.mpr c35
        have c35b1:(a0_0 != 8)=false:=bne_eq_false_iff_eq.mpr c35
        clear c35
        by_cases c36:0<(l0_3.length:Int)
        ·rw [if_pos c36] at H
         have c36b0:decide (0<(l0_3.length:Int))=true:=decide_eq_true c36
         have c36b1:decide (0<l0_3.length)=true:=decide_eq_true (by omega)
         clear c36
         replace H:=Option.bind_eq_some_iff.mp H
         obtain ⟨t160,A370,H⟩:=H
         replace H:(some t160)=some r:=H
         have A37:=Aside0.mk A370
         clear A370
         obtain rfl:=Option.some.inj H
         have hcz38_0:wc.cell? ⟨gb134,0,none⟩=some (.int .i64 a0_0):=(blk_cell BK134.out 0).trans rfl
         have hcz38_1:wc.cell? ⟨gb134,1,none⟩=some (.int .i64 a0_1):=(blk_cell BK134.out 1).trans rfl
         have hcz38_2:wc.cell? ⟨gb134,2,none⟩=some (.string a0_2):=(blk_cell BK134.out 2).trans rfl
         have hcz38_3:wc.cell? ⟨gb134,3,none⟩=some (.slice A0_3 l0_3.length c0_3):=(blk_cell BK134.out 3).trans rfl
         have hfz38_0:=blk_frozen BK134.out 0
         have hfz38_1:=blk_frozen BK134.out 1
         have hfz38_2:=blk_frozen BK134.out 2
         have hfz38_3:=blk_frozen BK134.out 3
         have p159:0≤(0:Int):=(by omega)
         have q159:0<(l0_3.length:Int):=of_decide_eq_true (by first|(with_reducible assumption)|assumption)
         (try clear hx148_0);(try clear hx148_1);(try clear hx148_2);(try clear hx148_3)
         obtain ⟨ad159,A159_3,c159_3,e159,hx159_0,hx159_1,hx159_2,hx159_3,hl159_3,hi159_3⟩:=at_TDoc HR0_3.out 0 p159 q159
         cases e159
         (try (have ea_:=Option.some.inj (hx159_3.symm.trans hw148_3);injection ea_ with ea_ en_ ec_;subst ea_;subst ec_;clear en_))
         have qi159:(0<l0_3.length)=True:=eq_true (by omega)
         (try rw [show ((0:Int)).toNat=0 from rfl] at hx159_0)
         (try rw [show 0 * 4=0 from rfl] at hx159_0)
         (try rw [Addr.add_zero'] at hx159_0)
         (try rw [show ((0:Int)).toNat=0 from rfl] at hx159_1)
         (try rw [show 0 * 4=0 from rfl] at hx159_1)
         (try rw [Addr.add_zero'] at hx159_1)
         (try rw [show ((0:Int)).toNat=0 from rfl] at hx159_2)
         (try rw [show 0 * 4=0 from rfl] at hx159_2)
         (try rw [Addr.add_zero'] at hx159_2)
         (try rw [show ((0:Int)).toNat=0 from rfl] at hx159_3)
         (try rw [show 0 * 4=0 from rfl] at hx159_3)
         (try rw [Addr.add_zero'] at hx159_3)
         replace hx159_0:=(HB.out.cell (World.block_lt_of_cell? w _ hx159_0)).trans hx159_0
         replace hx159_1:=(HB.out.cell (World.block_lt_of_cell? w _ hx159_1)).trans hx159_1
         replace hx159_2:=(HB.out.cell (World.block_lt_of_cell? w _ hx159_2)).trans hx159_2
         replace hx159_3:=(HB.out.cell (World.block_lt_of_cell? w _ hx159_3)).trans hx159_3
         have HR159_3:=Aside0.mk hi159_3
         have HC159_3:=Aside0.mk hl159_3
         clear hi159_3 hl159_3
         replace p159:=eq_true p159
         replace q159:=eq_true q159
         go_wp2_with (first|((with_reducible refine gate_callee (f:=53) rfl ?_);refine goesL_ (some 47) rfl rfl Try.func53 (by kernel_rfl) rfl #[.agg #[.int .i64 ((rd_TDoc l0_3 0).f0),.int .i64 ((rd_TDoc l0_3 0).f1),.string ((rd_TDoc l0_3 0).f2),.slice A159_3 ((rd_TDoc l0_3 0).f3).length c159_3]] rfl (by (try simp only [List.map_toArray,List.map_cons,List.map_nil]);first|done|rfl|(simp only [List.length_drop,List.length_take];rfl)) ?_;(with_reducible refine (ih kj6 (by have:=HJ6.out;omega) ((rd_TDoc l0_3 0).f0) ((rd_TDoc l0_3 0).f1) ((rd_TDoc l0_3 0).f2) _ _ ((rd_TDoc l0_3 0).f3) t160 _ ?side1 ?side2 A37.out).mono ?_);(case side1=>exact gC (Kd.C_below HR159_3.out HB.out));(case side2=>exact HC159_3.out);rintro e w39 ⟨v161,rfl,ho0,hb⟩;refine ⟨_,rfl,?_⟩;have n0_:=Aside0.mk (Kd.R_lower ho0 (below_size (by repeat (first|exact gB HB|refine below_set ?_ GE134.out))));have n1_:=Aside0.mk (blk_below (g:=gb134) (o:=.cells #[.int .i64 a0_0,.int .i64 a0_1,.string a0_2,.slice (some ad159) l0_3.length c0_3] 39 (0,0)) (gK BK134) hb);have n2_:=Aside0.mk (below_step (by repeat (first|exact gB HB|refine below_set ?_ GE134.out)) hb);clear BK134;clear HB;have HO162:=n0_;have BK134:=n1_;have HB:=n2_;clear n0_ n1_ n2_;(try clear hb);(try clear hb2);(try clear hk);(try clear hi);(try clear ho0)))
         go_ret
         exact ⟨_,by first|rfl|(simp [errW_none,errW_some] <;> rfl)|(simp [*,errW_none,errW_some] <;> rfl),gR HO162,by repeat (first|exact gB HB|refine below_set ?_ GE134.out)⟩
        ·rw [if_neg c36] at H
         exact absurd H (by simp)
       ·rw [if_neg c35] at H
        have c35b0:(a0_0 == 8)=false:=beq_eq_false_iff_ne.mpr c35
        have c35b1:(a0_0 != 8)=true:=bne_iff_ne.mpr c35
        obtain ⟨y163,hy163⟩:∃ y_:List (SRow),y_=(([(⟨0,(⟨#[]⟩:ByteArray)⟩:SRow)]:List (SRow))):=⟨_,rfl⟩
        replace H:(some y163)=some r:=by first|(rw [hy163];with_reducible exact H)|(have H2_:=(Option.bind_some _ _).symm.trans H;rw [hy163];with_reducible exact H2_)|(have H2_:=(Option.bind_some _ _).symm.trans H;with_reducible exact H2_)|with_reducible exact H|(rw [hy163];exact H)|exact H
        have Ny163:=Aside0.mk hy163
        clear hy163
        obtain rfl:=Option.some.inj H
        go_wp2_with (first|((with_reducible refine gate_dst (N:=49) rfl ?_);refine Kd.R_lit k30 _ 30 ?hg (N:=49) ?hd (xs:=([(⟨0,(⟨#[]⟩:ByteArray)⟩:SRow)]:List (SRow))) (inner:=[.int .i64 0,.string (⟨#[]⟩:ByteArray)]) (ok:=fun _=>True) (okp:=fun _=>True) ?hr ?hp (fun _ hk=>hk) trivial (Below.refl _ _) (Nat.le_refl _) (by simp) ?_;(case hd=>rfl);(case hg=>rfl);(case hr=>first|(go_simp;done)|(go_simp;rfl));(case hp=>exact (Reps.c2 (show Kd.M k30 _ _ _ (⟨0,(⟨#[]⟩:ByteArray)⟩:SRow) [.int .i64 0,.string (⟨#[]⟩:ByteArray)] from (k30_mkM _ _ _ (⟨0,(⟨#[]⟩:ByteArray)⟩:SRow) )) (Reps.none _ _)));intro v164 w40 ho41 hb hg_ hnew_;clear hg_ hnew_;(first|rw [← Ny163.out] at ho41|(simp only [Int.reduceToNat] at ho41;rw [← Ny163.out] at ho41));have n0_:=Aside0.mk (Kd.R_lower ho41 (below_size (by repeat (first|exact gB HB|refine below_set ?_ GE134.out))));have n1_:=Aside0.mk (blk_below (g:=gb134) (o:=.cells #[.int .i64 a0_0,.int .i64 a0_1,.string a0_2,.slice A0_3 l0_3.length c0_3] 39 (0,0)) (gK BK134) hb);have n2_:=Aside0.mk (below_step (by repeat (first|exact gB HB|refine below_set ?_ GE134.out)) hb);clear BK134;clear HB;have HO165:=n0_;have BK134:=n1_;have HB:=n2_;clear n0_ n1_ n2_;clear hb ho41))
        go_ret
        exact ⟨_,by first|rfl|(simp [errW_none,errW_some] <;> rfl)|(simp [*,errW_none,errW_some] <;> rfl),gR HO165,by repeat (first|exact gB HB|refine below_set ?_ GE134.out)⟩
end Go.Proofs.Ytdhdfmmefghijab.P
namespace Go.Proofs.Ytdhdfmmefghijab.P
open Go.RowKit Go.Proofs.YtdhdfmmefghijabW.PrintWords Go.Proofs.YtdhdfmmefghijabW.PrintLast Go.Proofs.YtdhdfmmefghijabW.PrintMore
attribute [local go_sem] max2_int min2_int max_two min_two max_three min_three max_four min_four
set_option linter.unusedVariables false
set_option linter.unusedSimpArgs false
def spec_OpenLayout.f (k:Nat) (a0_0:Int) (a0_1:Int) (a0_2:ByteArray) (l0_3:List (SDoc)):Option ((List (SRow))×Bool):=(spec_DocValid.f k a0_0 a0_1 a0_2 l0_3).bind fun t822=>(if t822=true then ((spec_l2Open.f k a0_0 a0_1 a0_2 l0_3).bind fun t826=>(some (t826,true))) else (some ((([]:List (SRow))),false)))
set_option maxHeartbeats 8000000 in
set_option maxRecDepth 100000 in
theorem spec_OpenLayout.calls (k:Nat) (a0_0:Int) (a0_1:Int) (a0_2:ByteArray) (A0_3:Option Addr) (c0_3:Nat) (l0_3:List (SDoc)) (r1:List (SRow)) (r2:Bool) (w:World) (hr0_3:Kd.C k39 w A0_3 l0_3.length l0_3) (hc0_3:l0_3.length≤c0_3) (h:spec_OpenLayout.f k a0_0 a0_1 a0_2 l0_3=some (r1,r2)) :
  Calls Try.prog 25 #[.agg #[.int .i64 a0_0,.int .i64 a0_1,.string a0_2,.slice A0_3 l0_3.length c0_3]] w fun e w'=>∃ v0_:Value,e=.returned (.tuple #[v0_,.bool r2])∧Kd.R k30 30 w' w.heap.size (fun _=>True) v0_ r1∧Below w.heap.size w w':=by
 have hu39:=Try.underlying39
 have HR0_3:=Aside0.mk hr0_3
 have HC0_3:=Aside0.mk hc0_3
 clear hr0_3 hc0_3
 have HB:=Aside0.mk (Below.refl w.heap.size w)
 have H:((spec_DocValid.f k a0_0 a0_1 a0_2 l0_3).bind fun t822=>(if t822=true then ((spec_l2Open.f k a0_0 a0_1 a0_2 l0_3).bind fun t826=>(some (t826,true))) else (some ((([]:List (SRow))),false))))=some (r1,r2):=h
 clear h
 replace H:=Option.bind_eq_some_iff.mp H
 obtain ⟨t822,A20,H⟩:=H
 replace H:(if t822=true then ((spec_l2Open.f k a0_0 a0_1 a0_2 l0_3).bind fun t826=>(some (t826,true))) else (some ((([]:List (SRow))),false)))=some (r1,r2):=H
 have A2:=Aside0.mk A20
 clear A20
 by_cases c3:t822=true
 ·subst c3
  have H1:((spec_l2Open.f k a0_0 a0_1 a0_2 l0_3).bind fun t826=>(some (t826,true)))=some (r1,r2):=by rw [if_pos rfl] at H;exact H
  clear H
  have H:=H1
  clear H1
  replace H:=Option.bind_eq_some_iff.mp H
  obtain ⟨t826,A40,H⟩:=H
  replace H:(some (t826,true))=some (r1,r2):=H
  have A4:=Aside0.mk A40
  clear A40
  simp only [Option.some.injEq,Prod.mk.injEq] at H
  obtain ⟨rfl,rfl⟩:=H
  go_enter Try.func25,Try.ntmps25
  go_wp2_with (first|((with_reducible refine gate_dst (N:=1) rfl ?_);refine box_event ?hg (N:=1) ?hd (cs:=#[.int .i64 a0_0,.int .i64 a0_1,.string a0_2,.slice A0_3 l0_3.length c0_3]) (t:=39) ?hr ?_;(case hd=>rfl);(case hg=>rfl);(case hr=>first|(go_simp;done)|(go_simp;rfl));intro gb821 hg w5 hbox hb;have n0_:=Aside0.mk (below_step (gB HB) hb);have n1_:=Aside0.mk (hbox);have n2_:=Aside0.mk ((by rw [hg];exact (below_size (gB HB)):w.heap.size≤gb821));have n3_:=Aside0.mk ((by rw [hg];exact (below_size (gB HB)):w.heap.size≤gb821));clear HB;have HB:=n0_;have BK821:=n1_;have GW821:=n2_;have GE821:=n3_;clear n0_ n1_ n2_ n3_;clear hb hbox hg;have hcz6_0:w5.cell? ⟨gb821,0,none⟩=some (.int .i64 a0_0):=(blk_cell BK821.out 0).trans rfl;have hcz6_1:w5.cell? ⟨gb821,1,none⟩=some (.int .i64 a0_1):=(blk_cell BK821.out 1).trans rfl;have hcz6_2:w5.cell? ⟨gb821,2,none⟩=some (.string a0_2):=(blk_cell BK821.out 2).trans rfl;have hcz6_3:w5.cell? ⟨gb821,3,none⟩=some (.slice A0_3 l0_3.length c0_3):=(blk_cell BK821.out 3).trans rfl;have hfz6_0:=blk_frozen BK821.out 0;have hfz6_1:=blk_frozen BK821.out 1;have hfz6_2:=blk_frozen BK821.out 2;have hfz6_3:=blk_frozen BK821.out 3)|((with_reducible refine gate_callee (f:=52) rfl ?_);refine goesL_ (some 5) rfl rfl Try.func52 (by kernel_rfl) rfl #[.agg #[.int .i64 a0_0,.int .i64 a0_1,.string a0_2,.slice A0_3 l0_3.length c0_3]] rfl (by (try simp only [List.map_toArray,List.map_cons,List.map_nil]);first|done|rfl|(simp only [List.length_drop,List.length_take];rfl)) ?_;(with_reducible refine (spec_DocValid.calls k a0_0 a0_1 a0_2 _ _ l0_3 true _ ?side1 ?side2 A2.out).mono ?_);(case side1=>exact gC (Kd.C_below HR0_3.out HB.out));(case side2=>exact HC0_3.out);rintro e w7 ⟨rfl,hb⟩;refine ⟨_,rfl,?_⟩;have n0_:=Aside0.mk (blk_below (g:=gb821) (o:=.cells #[.int .i64 a0_0,.int .i64 a0_1,.string a0_2,.slice A0_3 l0_3.length c0_3] 39 (0,0)) (gK BK821) hb);have n1_:=Aside0.mk (below_step (by repeat (first|exact gB HB|refine below_set ?_ GE821.out)) hb);clear BK821;clear HB;have BK821:=n0_;have HB:=n1_;clear n0_ n1_;(try clear hb);(try clear hb2);(try clear hk);(try clear hi);have hcz8_0:w7.cell? ⟨gb821,0,none⟩=some (.int .i64 a0_0):=(blk_cell BK821.out 0).trans rfl;have hcz8_1:w7.cell? ⟨gb821,1,none⟩=some (.int .i64 a0_1):=(blk_cell BK821.out 1).trans rfl;have hcz8_2:w7.cell? ⟨gb821,2,none⟩=some (.string a0_2):=(blk_cell BK821.out 2).trans rfl;have hcz8_3:w7.cell? ⟨gb821,3,none⟩=some (.slice A0_3 l0_3.length c0_3):=(blk_cell BK821.out 3).trans rfl;have hfz8_0:=blk_frozen BK821.out 0;have hfz8_1:=blk_frozen BK821.out 1;have hfz8_2:=blk_frozen BK821.out 2;have hfz8_3:=blk_frozen BK821.out 3)|((with_reducible refine gate_callee (f:=53) rfl ?_);refine goesL_ (some 9) rfl rfl Try.func53 (by kernel_rfl) rfl #[.agg #[.int .i64 a0_0,.int .i64 a0_1,.string a0_2,.slice A0_3 l0_3.length c0_3]] rfl (by (try simp only [List.map_toArray,List.map_cons,List.map_nil]);first|done|rfl|(simp only [List.length_drop,List.length_take];rfl)) ?_;(with_reducible refine (spec_l2Open.calls k a0_0 a0_1 a0_2 _ _ l0_3 t826 _ ?side1 ?side2 A4.out).mono ?_);(case side1=>exact gC (Kd.C_below HR0_3.out HB.out));(case side2=>exact HC0_3.out);rintro e w9 ⟨v827,rfl,ho0,hb⟩;refine ⟨_,rfl,?_⟩;have n0_:=Aside0.mk (Kd.R_lower ho0 (below_size (by repeat (first|exact gB HB|refine below_set ?_ GE821.out))));have n1_:=Aside0.mk (blk_below (g:=gb821) (o:=.cells #[.int .i64 a0_0,.int .i64 a0_1,.string a0_2,.slice A0_3 l0_3.length c0_3] 39 (0,0)) (gK BK821) hb);have n2_:=Aside0.mk (below_step (by repeat (first|exact gB HB|refine below_set ?_ GE821.out)) hb);clear BK821;clear HB;have HO828:=n0_;have BK821:=n1_;have HB:=n2_;clear n0_ n1_ n2_;(try clear hb);(try clear hb2);(try clear hk);(try clear hi);(try clear ho0)))
  go_ret2
  exact ⟨_,by first|rfl|(simp [errW_none,errW_some] <;> rfl)|(simp [*,errW_none,errW_some] <;> rfl),gR HO828,by repeat (first|exact gB HB|refine below_set ?_ GE821.out)⟩
 ·replace c3:=Bool.eq_false_iff.mpr c3
  subst c3
  have H1:(some ((([]:List (SRow))),false))=some (r1,r2):=by rw [if_neg (show ¬ (false=true) by decide)] at H;exact H
  clear H
  have H:=H1
  clear H1
  obtain ⟨y823,hy823⟩:∃ y_:List (SRow),y_=(([]:List (SRow))):=⟨_,rfl⟩
  replace H:(some (y823,false))=some (r1,r2):=by first|(rw [hy823];with_reducible exact H)|(have H2_:=(Option.bind_some _ _).symm.trans H;rw [hy823];with_reducible exact H2_)|(have H2_:=(Option.bind_some _ _).symm.trans H;with_reducible exact H2_)|with_reducible exact H|(rw [hy823];exact H)|exact H
  have Ny823:=Aside0.mk hy823
  clear hy823
  simp only [Option.some.injEq,Prod.mk.injEq] at H
  obtain ⟨rfl,rfl⟩:=H
  go_enter Try.func25,Try.ntmps25
  go_wp2_with (first|((with_reducible refine gate_dst (N:=1) rfl ?_);refine box_event ?hg (N:=1) ?hd (cs:=#[.int .i64 a0_0,.int .i64 a0_1,.string a0_2,.slice A0_3 l0_3.length c0_3]) (t:=39) ?hr ?_;(case hd=>rfl);(case hg=>rfl);(case hr=>first|(go_simp;done)|(go_simp;rfl));intro gb821 hg w10 hbox hb;have n0_:=Aside0.mk (below_step (gB HB) hb);have n1_:=Aside0.mk (hbox);have n2_:=Aside0.mk ((by rw [hg];exact (below_size (gB HB)):w.heap.size≤gb821));have n3_:=Aside0.mk ((by rw [hg];exact (below_size (gB HB)):w.heap.size≤gb821));clear HB;have HB:=n0_;have BK821:=n1_;have GW821:=n2_;have GE821:=n3_;clear n0_ n1_ n2_ n3_;clear hb hbox hg;have hcz11_0:w10.cell? ⟨gb821,0,none⟩=some (.int .i64 a0_0):=(blk_cell BK821.out 0).trans rfl;have hcz11_1:w10.cell? ⟨gb821,1,none⟩=some (.int .i64 a0_1):=(blk_cell BK821.out 1).trans rfl;have hcz11_2:w10.cell? ⟨gb821,2,none⟩=some (.string a0_2):=(blk_cell BK821.out 2).trans rfl;have hcz11_3:w10.cell? ⟨gb821,3,none⟩=some (.slice A0_3 l0_3.length c0_3):=(blk_cell BK821.out 3).trans rfl;have hfz11_0:=blk_frozen BK821.out 0;have hfz11_1:=blk_frozen BK821.out 1;have hfz11_2:=blk_frozen BK821.out 2;have hfz11_3:=blk_frozen BK821.out 3)|((with_reducible refine gate_callee (f:=52) rfl ?_);refine goesL_ (some 5) rfl rfl Try.func52 (by kernel_rfl) rfl #[.agg #[.int .i64 a0_0,.int .i64 a0_1,.string a0_2,.slice A0_3 l0_3.length c0_3]] rfl (by (try simp only [List.map_toArray,List.map_cons,List.map_nil]);first|done|rfl|(simp only [List.length_drop,List.length_take];rfl)) ?_;(with_reducible refine (spec_DocValid.calls k a0_0 a0_1 a0_2 _ _ l0_3 false _ ?side1 ?side2 A2.out).mono ?_);(case side1=>exact gC (Kd.C_below HR0_3.out HB.out));(case side2=>exact HC0_3.out);rintro e w12 ⟨rfl,hb⟩;refine ⟨_,rfl,?_⟩;have n0_:=Aside0.mk (blk_below (g:=gb821) (o:=.cells #[.int .i64 a0_0,.int .i64 a0_1,.string a0_2,.slice A0_3 l0_3.length c0_3] 39 (0,0)) (gK BK821) hb);have n1_:=Aside0.mk (below_step (by repeat (first|exact gB HB|refine below_set ?_ GE821.out)) hb);clear BK821;clear HB;have BK821:=n0_;have HB:=n1_;clear n0_ n1_;(try clear hb);(try clear hb2);(try clear hk);(try clear hi))|((with_reducible refine gate_dst (N:=7) rfl ?_);refine Kd.R_lit k30 _ 30 ?hg (N:=7) ?hd (xs:=([]:List (SRow))) (inner:=[]) (ok:=fun _=>True) (okp:=fun _=>True) ?hr ?hp (fun _ hk=>hk) trivial (Below.refl _ _) (Nat.le_refl _) (by simp) ?_;(case hd=>rfl);(case hg=>rfl);(case hr=>first|(go_simp;done)|(go_simp;rfl));(case hp=>exact (Reps.none _ _));intro v824 w13 ho14 hb hg_ hnew_;clear hg_ hnew_;(first|rw [← Ny823.out] at ho14|(simp only [Int.reduceToNat] at ho14;rw [← Ny823.out] at ho14));have n0_:=Aside0.mk (Kd.R_lower ho14 (below_size (by repeat (first|exact gB HB|refine below_set ?_ GE821.out))));have n1_:=Aside0.mk (blk_below (g:=gb821) (o:=.cells #[.int .i64 a0_0,.int .i64 a0_1,.string a0_2,.slice A0_3 l0_3.length c0_3] 39 (0,0)) (gK BK821) hb);have n2_:=Aside0.mk (below_step (by repeat (first|exact gB HB|refine below_set ?_ GE821.out)) hb);clear BK821;clear HB;have HO825:=n0_;have BK821:=n1_;have HB:=n2_;clear n0_ n1_ n2_;clear hb ho14))
  go_ret2
  exact ⟨_,by first|rfl|(simp [errW_none,errW_some] <;> rfl)|(simp [*,errW_none,errW_some] <;> rfl),gR HO825,by repeat (first|exact gB HB|refine below_set ?_ GE821.out)⟩
end Go.Proofs.Ytdhdfmmefghijab.P
namespace Go.Proofs.Ytdhdfmmefghijab.P
open Go.RowKit Go.Proofs.YtdhdfmmefghijabW.PrintWords Go.Proofs.YtdhdfmmefghijabW.PrintLast Go.Proofs.YtdhdfmmefghijabW.PrintMore
attribute [local go_sem] max2_int min2_int max_two min_two max_three min_three max_four min_four
set_option linter.unusedVariables false
set_option linter.unusedSimpArgs false
mutual
def impl_CountOps.j0:Nat→Int→Int→Int→Int→ByteArray→List (SDoc)→Option (Int)
 | 0,_,_,_,_,_,_=>none
 | k+1,x1,x5,x860000,x860001,x860002,x860003=>impl_CountOps.l0 k x1 x5 x860003 (x860003.length:Int) 0
def impl_CountOps.l0:Nat→Int→Int→List (SDoc)→Int→Int→Option (Int)
 | 0,_,_,_,_,_=>none
 | k+1,x1,x5,x13,x14,x15=>if x15<x14 then (if 0≤x15 then (if x15<(x13.length:Int) then ((impl_CountOps.f k ((rd_TDoc x13 x15).f0) ((rd_TDoc x13 x15).f1) ((rd_TDoc x13 x15).f2) ((rd_TDoc x13 x15).f3) x1).bind fun t862=>(impl_CountOps.l0 k x1 (wrap64 (x5+t862)) x13 x14 (wrap64 (x15+1)))) else (none)) else (none)) else (some x5)
def impl_CountOps.f:Nat→Int→Int→ByteArray→List (SDoc)→Int→Option (Int)
 | 0,_,_,_,_,_=>none
 | k+1,a0_0,a0_1,a0_2,l0_3,a1=>if a0_0=a1 then (impl_CountOps.j0 k a1 1 a0_0 a0_1 a0_2 l0_3) else (impl_CountOps.j0 k a1 0 a0_0 a0_1 a0_2 l0_3)
end
set_option maxHeartbeats 8000000 in
set_option maxRecDepth 100000 in
theorem impl_CountOps.calls (k:Nat):∀ (a0_0:Int) (a0_1:Int) (a0_2:ByteArray) (A0_3:Option Addr) (c0_3:Nat) (l0_3:List (SDoc)) (a1:Int) (r:Int) (w:World) (hr0_3:Kd.C k39 w A0_3 l0_3.length l0_3) (hc0_3:l0_3.length≤c0_3) (h:impl_CountOps.f k a0_0 a0_1 a0_2 l0_3 a1=some r),
  Calls Try.prog 26 #[.agg #[.int .i64 a0_0,.int .i64 a0_1,.string a0_2,.slice A0_3 l0_3.length c0_3],.int .i64 a1] w fun e w'=>e=.returned (.int .i64 r)∧Below w.heap.size w w':=by
 induction k using Nat.strongRecOn with
 | _ k ih =>
 intro a0_0 a0_1 a0_2 A0_3 c0_3 l0_3 a1 r w hr0_3 hc0_3 h
 cases k with
 | zero=>exact absurd h (by simp [impl_CountOps.f])
 | succ k =>
 simp only [impl_CountOps.f] at h
 have hu39:=Try.underlying39
 have HR0_3:=Aside0.mk hr0_3
 have HC0_3:=Aside0.mk hc0_3
 clear hr0_3 hc0_3
 have HB:=Aside0.mk (Below.refl w.heap.size w)
 have H:(if a0_0=a1 then (impl_CountOps.j0 k a1 1 a0_0 a0_1 a0_2 l0_3) else (impl_CountOps.j0 k a1 0 a0_0 a0_1 a0_2 l0_3))=some r:=h
 clear h
 have HC3:=Aside0.mk H
 clear H
 go_enter Try.func26,Try.ntmps26
 go_upto_if 11 with (first|((with_reducible refine gate_dst (N:=2) rfl ?_);refine box_event ?hg (N:=2) ?hd (cs:=#[.int .i64 a0_0,.int .i64 a0_1,.string a0_2,.slice A0_3 l0_3.length c0_3]) (t:=39) ?hr ?_;(case hd=>rfl);(case hg=>rfl);(case hr=>first|(go_simp;done)|(go_simp;rfl));intro gb859 hg w4 hbox hb;have n0_:=Aside0.mk (below_step (gB HB) hb);have n1_:=Aside0.mk (hbox);have n2_:=Aside0.mk ((by rw [hg];exact (below_size (gB HB)):w.heap.size≤gb859));have n3_:=Aside0.mk ((by rw [hg];exact (below_size (gB HB)):w.heap.size≤gb859));clear HB;have HB:=n0_;have BK859:=n1_;have GW859:=n2_;have GE859:=n3_;clear n0_ n1_ n2_ n3_;clear hb hbox hg;have hcz5_0:w4.cell? ⟨gb859,0,none⟩=some (.int .i64 a0_0):=(blk_cell BK859.out 0).trans rfl;have hcz5_1:w4.cell? ⟨gb859,1,none⟩=some (.int .i64 a0_1):=(blk_cell BK859.out 1).trans rfl;have hcz5_2:w4.cell? ⟨gb859,2,none⟩=some (.string a0_2):=(blk_cell BK859.out 2).trans rfl;have hcz5_3:w4.cell? ⟨gb859,3,none⟩=some (.slice A0_3 l0_3.length c0_3):=(blk_cell BK859.out 3).trans rfl;have hfz5_0:=blk_frozen BK859.out 0;have hfz5_1:=blk_frozen BK859.out 1;have hfz5_2:=blk_frozen BK859.out 2;have hfz5_3:=blk_frozen BK859.out 3))
 (try simp only [Act.put,List.setIfInBounds_toArray,List.set_cons_zero,List.set_cons_succ])
 go_cut [5] (fun v5 wc=>∃ (kq:Nat) (x5_2:Int),v5=.int .i64 x5_2∧Aside0 (impl_CountOps.j0 kq a1 x5_2 a0_0 a0_1 a0_2 l0_3=some r)∧Aside0 (kq≤k)∧Aside0 (wc.heap[gb859]?=some (.cells #[.int .i64 a0_0,.int .i64 a0_1,.string a0_2,(.slice A0_3 l0_3.length c0_3)] 39 (0,0)))∧Aside0 (Below w.heap.size w wc))
 case first =>
  have H:=HC3.out
  clear HC3
  by_cases c6:a0_0=a1
  ·rw [if_pos c6] at H
   have c6b0:(a0_0 == a1)=true:=beq_iff_eq.mpr c6
   have c6b1:(a0_0 != a1)=false:=bne_eq_false_iff_eq.mpr c6
   clear c6
   (first|rw [c6b0]|(simp only [i64_w,i32_w];rw [c6b0])|skip)
   have H':=Aside0.mk H
   clear H
   go_wp2
   go_meet
   case rel=>exact ⟨_,(1),(by first|rfl|(simp;done)|(simp [*];done)),H',⟨by first|omega|exact Nat.le_refl _⟩,⟨gK BK859⟩,⟨by repeat (first|exact gB HB|refine below_set ?_ GE859.out)⟩⟩
  ·rw [if_neg c6] at H
   have c6b0:(a0_0 == a1)=false:=beq_eq_false_iff_ne.mpr c6
   have c6b1:(a0_0 != a1)=true:=bne_iff_ne.mpr c6
   (first|rw [c6b0]|(simp only [i64_w,i32_w];rw [c6b0])|skip)
   have H':=Aside0.mk H
   clear H
   go_wp2
   go_meet
   case rel=>exact ⟨_,(0),(by first|rfl|(simp;done)|(simp [*];done)),H',⟨by first|omega|exact Nat.le_refl _⟩,⟨gK BK859⟩,⟨by repeat (first|exact gB HB|refine below_set ?_ GE859.out)⟩⟩
 case rest =>
  clear HC3
  try clear c2 p2 c6 c6b0 c6b1 hcz5_0 hcz5_1 hcz5_2 hcz5_3 hfz5_0 hfz5_1 hfz5_2 hfz5_3
  obtain ⟨kq,x5_2,rfl,HA,HJ2,BK859,HB⟩:=hcut
  cases kq with
  | zero=>exact absurd HA.out (by simp [impl_CountOps.j0])
  | succ kj2 =>
   have H:=HA.out
   clear HA
   simp only [impl_CountOps.j0] at H
   have H':=Aside0.mk H
   clear H
   have hcz7_0:wc.cell? ⟨gb859,0,none⟩=some (.int .i64 a0_0):=(blk_cell BK859.out 0).trans rfl
   have hcz7_1:wc.cell? ⟨gb859,1,none⟩=some (.int .i64 a0_1):=(blk_cell BK859.out 1).trans rfl
   have hcz7_2:wc.cell? ⟨gb859,2,none⟩=some (.string a0_2):=(blk_cell BK859.out 2).trans rfl
   have hcz7_3:wc.cell? ⟨gb859,3,none⟩=some (.slice A0_3 l0_3.length c0_3):=(blk_cell BK859.out 3).trans rfl
   have hfz7_0:=blk_frozen BK859.out 0
   have hfz7_1:=blk_frozen BK859.out 1
   have hfz7_2:=blk_frozen BK859.out 2
   have hfz7_3:=blk_frozen BK859.out 3
   go_wp2
   go_loopg [5,15] kj2 (fun kq v5 v15 w'=>∃ (x5_2:Int) (x15_2:Int),v5=.int .i64 x5_2∧v15=.int .i64 x15_2∧Aside0 (impl_CountOps.l0 kq a1 x5_2 l0_3 (l0_3.length:Int) x15_2=some r)∧Aside0 (kq≤kj2)∧Aside0 (w'.heap[gb859]?=some (.cells #[.int .i64 a0_0,.int .i64 a0_1,.string a0_2,(.slice A0_3 l0_3.length c0_3)] 39 (0,0)))∧Aside0 (Below w.heap.size w w'))
   case atStart=>exact ⟨(x5_2),(0),(by first|rfl|(simp;done)|(simp [*];done)),(by first|rfl|(simp;done)|(simp [*];done)),H',⟨Nat.le_refl _⟩,⟨gK BK859⟩,⟨by repeat (first|exact gB HB|refine below_set ?_ GE859.out)⟩⟩
   case round =>
    clear H'
    try clear c2 p2 c6 c6b0 c6b1 hcz5_0 hcz5_1 hcz5_2 hcz5_3 hcz7_0 hcz7_1 hcz7_2 hcz7_3 hfz5_0 hfz5_1 hfz5_2 hfz5_3 hfz7_0 hfz7_1 hfz7_2 hfz7_3 p2
    (try clear BK859);(try clear HB)
    obtain ⟨x5_2,x15_2,rfl,rfl,HA,HK2,BK859,HB⟩:=hrel
    cases gk with
    | zero=>exact absurd HA.out (by simp [impl_CountOps.l0])
    | succ k2 =>
     have H:=HA.out
     clear HA
     simp only [impl_CountOps.l0] at H
     by_cases c8:x15_2<(l0_3.length:Int)
     ·rw [if_pos c8] at H
      have c8b0:decide (x15_2<(l0_3.length:Int))=true:=decide_eq_true c8
      clear c8
      by_cases c9:0≤x15_2
      ·rw [if_pos c9] at H
       have c9b0:decide (0≤x15_2)=true:=decide_eq_true c9
       clear c9
       by_cases c10:x15_2<(l0_3.length:Int)
       ·rw [if_pos c10] at H
        have c10b0:decide (x15_2<(l0_3.length:Int))=true:=decide_eq_true c10
        clear c10
        replace H:=Option.bind_eq_some_iff.mp H
        obtain ⟨t862,A110,H⟩:=H
        replace H:(impl_CountOps.l0 k2 a1 (wrap64 (x5_2+t862)) l0_3 (l0_3.length:Int) (wrap64 (x15_2+1)))=some r:=H
        have A11:=Aside0.mk A110
        clear A110
        have H':=Aside0.mk H
        clear H
        have p860:0≤(x15_2:Int):=of_decide_eq_true (by first|(with_reducible assumption)|assumption)
        have q860:x15_2<(l0_3.length:Int):=of_decide_eq_true (by first|(with_reducible assumption)|assumption)
        obtain ⟨ad860,A860_3,c860_3,e860,hx860_0,hx860_1,hx860_2,hx860_3,hl860_3,hi860_3⟩:=at_TDoc HR0_3.out x15_2 p860 q860
        cases e860
        replace hx860_0:=(HB.out.cell (World.block_lt_of_cell? w _ hx860_0)).trans hx860_0
        replace hx860_1:=(HB.out.cell (World.block_lt_of_cell? w _ hx860_1)).trans hx860_1
        replace hx860_2:=(HB.out.cell (World.block_lt_of_cell? w _ hx860_2)).trans hx860_2
        replace hx860_3:=(HB.out.cell (World.block_lt_of_cell? w _ hx860_3)).trans hx860_3
        have HR860_3:=Aside0.mk hi860_3
        have HC860_3:=Aside0.mk hl860_3
        clear hi860_3 hl860_3
        replace p860:=eq_true p860
        replace q860:=eq_true q860
        go_wp2_with (first|((with_reducible refine gate_dst (N:=7) rfl ?_);refine box_event ?hg (N:=7) ?hd (cs:=#[.int .i64 0,.int .i64 0,.string (⟨#[]⟩:ByteArray),.slice none 0 0]) (t:=39) ?hr ?_;(case hd=>rfl);(case hg=>rfl);(case hr=>first|(go_simp;done)|(go_simp;rfl));intro gb861 hg w12 hbox hb;have n0_:=Aside0.mk (blk_below (g:=gb859) (o:=.cells #[.int .i64 a0_0,.int .i64 a0_1,.string a0_2,.slice (some ad860) l0_3.length c0_3] 39 (0,0)) (gK BK859) hb);have n1_:=Aside0.mk (below_step (by repeat (first|exact gB HB|refine below_set ?_ GE859.out)) hb);have n2_:=Aside0.mk (hbox);have n3_:=Aside0.mk ((by rw [hg];exact (below_size (by repeat (first|exact gB HB|refine below_set ?_ GE859.out))):w.heap.size≤gb861));have n4_:=Aside0.mk ((by rw [hg];exact (below_size (by repeat (first|exact gB HB|refine below_set ?_ GE859.out))):w.heap.size≤gb861));have n5_:=Aside0.mk ((by rw [hg];exact Nat.ne_of_lt (blk_lt (g:=gb859) (o:=.cells #[.int .i64 a0_0,.int .i64 a0_1,.string a0_2,.slice (some ad860) l0_3.length c0_3] 39 (0,0)) (gK BK859)):gb859≠gb861));have n6_:=Aside0.mk ((by rw [hg];exact Nat.ne_of_gt (blk_lt (g:=gb859) (o:=.cells #[.int .i64 a0_0,.int .i64 a0_1,.string a0_2,.slice (some ad860) l0_3.length c0_3] 39 (0,0)) (gK BK859)):gb861≠gb859));clear BK859;clear HB;have BK859:=n0_;have HB:=n1_;have BK861:=n2_;have GW861:=n3_;have GE861:=n4_;have NB859_861:=n5_;have NB861_859:=n6_;clear n0_ n1_ n2_ n3_ n4_ n5_ n6_;clear hb hbox hg;have hnb13:=NB861_859.out;have hnc13:=NB859_861.out;have hcz14_0:w12.cell? ⟨gb861,0,none⟩=some (.int .i64 0):=(blk_cell BK861.out 0).trans rfl;have hcz14_1:w12.cell? ⟨gb861,1,none⟩=some (.int .i64 0):=(blk_cell BK861.out 1).trans rfl;have hcz14_2:w12.cell? ⟨gb861,2,none⟩=some (.string (⟨#[]⟩:ByteArray)):=(blk_cell BK861.out 2).trans rfl;have hcz14_3:w12.cell? ⟨gb861,3,none⟩=some (.slice none 0 0):=(blk_cell BK861.out 3).trans rfl;have hfz14_0:=blk_frozen BK861.out 0;have hfz14_1:=blk_frozen BK861.out 1;have hfz14_2:=blk_frozen BK861.out 2;have hfz14_3:=blk_frozen BK861.out 3)|((with_reducible refine gate_callee (f:=26) rfl ?_);refine goesL_ (some 22) rfl rfl Try.func26 (by kernel_rfl) rfl #[.agg #[.int .i64 ((rd_TDoc l0_3 x15_2).f0),.int .i64 ((rd_TDoc l0_3 x15_2).f1),.string ((rd_TDoc l0_3 x15_2).f2),.slice A860_3 ((rd_TDoc l0_3 x15_2).f3).length c860_3],.int .i64 a1] rfl (by (try simp only [List.map_toArray,List.map_cons,List.map_nil]);first|done|rfl|(simp only [List.length_drop,List.length_take];rfl)) ?_;(with_reducible refine (ih k2 (by have:=HJ2.out;have:=HK2.out;omega) ((rd_TDoc l0_3 x15_2).f0) ((rd_TDoc l0_3 x15_2).f1) ((rd_TDoc l0_3 x15_2).f2) _ _ ((rd_TDoc l0_3 x15_2).f3) a1 t862 _ ?side1 ?side2 A11.out).mono ?_);(case side1=>exact Kd.C_below HR860_3.out (by repeat (first|exact gB HB|refine below_set ?_ GE859.out|refine below_set ?_ GE861.out)));(case side2=>exact HC860_3.out);rintro e w15 ⟨rfl,hb⟩;refine ⟨_,rfl,?_⟩;have n0_:=Aside0.mk (blk_below (g:=gb859) (o:=.cells #[.int .i64 a0_0,.int .i64 a0_1,.string a0_2,.slice (some ad860) l0_3.length c0_3] 39 (0,0)) (by (with_reducible repeat (first|refine blk_drewN ?_ _|refine blk_drew ?_|refine blk_alloc ?_ _));refine blk_far ?_ NB859_861.out _;(with_reducible repeat (first|refine blk_drewN ?_ _|refine blk_drew ?_|refine blk_alloc ?_ _));refine blk_far ?_ NB859_861.out _;(with_reducible repeat (first|refine blk_drewN ?_ _|refine blk_drew ?_|refine blk_alloc ?_ _));refine blk_far ?_ NB859_861.out _;(with_reducible repeat (first|refine blk_drewN ?_ _|refine blk_drew ?_|refine blk_alloc ?_ _));refine blk_far ?_ NB859_861.out _;(with_reducible repeat (first|refine blk_drewN ?_ _|refine blk_drew ?_|refine blk_alloc ?_ _));exact BK859.out) hb);have n1_:=Aside0.mk (blk_below (g:=gb861) (o:=.cells #[.int .i64 ((rd_TDoc l0_3 x15_2).f0),.int .i64 ((rd_TDoc l0_3 x15_2).f1),.string ((rd_TDoc l0_3 x15_2).f2),.slice A860_3 ((rd_TDoc l0_3 x15_2).f3).length c860_3] 39 (0,0)) (by (with_reducible repeat (first|refine blk_drewN ?_ _|refine blk_drew ?_|refine blk_alloc ?_ _));refine blk_put (cs:=#[.int .i64 ((rd_TDoc l0_3 x15_2).f0),.int .i64 ((rd_TDoc l0_3 x15_2).f1),.string ((rd_TDoc l0_3 x15_2).f2),.slice none 0 0]) ?_ 3 _ rfl;(with_reducible repeat (first|refine blk_drewN ?_ _|refine blk_drew ?_|refine blk_alloc ?_ _));refine blk_put (cs:=#[.int .i64 ((rd_TDoc l0_3 x15_2).f0),.int .i64 ((rd_TDoc l0_3 x15_2).f1),.string (⟨#[]⟩:ByteArray),.slice none 0 0]) ?_ 2 _ rfl;(with_reducible repeat (first|refine blk_drewN ?_ _|refine blk_drew ?_|refine blk_alloc ?_ _));refine blk_put (cs:=#[.int .i64 ((rd_TDoc l0_3 x15_2).f0),.int .i64 0,.string (⟨#[]⟩:ByteArray),.slice none 0 0]) ?_ 1 _ rfl;(with_reducible repeat (first|refine blk_drewN ?_ _|refine blk_drew ?_|refine blk_alloc ?_ _));refine blk_put (cs:=#[.int .i64 0,.int .i64 0,.string (⟨#[]⟩:ByteArray),.slice none 0 0]) ?_ 0 _ rfl;(with_reducible repeat (first|refine blk_drewN ?_ _|refine blk_drew ?_|refine blk_alloc ?_ _));exact BK861.out) hb);have n2_:=Aside0.mk (below_step (by repeat (first|exact gB HB|refine below_set ?_ GE859.out|refine below_set ?_ GE861.out)) hb);clear BK859;clear BK861;clear HB;have BK859:=n0_;have BK861:=n1_;have HB:=n2_;clear n0_ n1_ n2_;(try clear hb);(try clear hb2);(try clear hk);(try clear hi)))
        go_roundg k2
        case measure=>have:=HJ2.out;have:=HK2.out;omega
        case rel=>exact ⟨(wrap64 (x5_2+t862)),(wrap64 (x15_2+1)),(by first|rfl|(simp;done)|(simp [*];done)),(by first|rfl|(simp;done)|(simp [*];done)),H',⟨by have:=HJ2.out;have:=HK2.out;omega⟩,⟨gK BK859⟩,⟨by repeat (first|exact gB HB|refine below_set ?_ GE859.out|refine below_set ?_ GE861.out)⟩⟩
       ·rw [if_neg c10] at H
        exact absurd H (by simp)
      ·rw [if_neg c9] at H
       exact absurd H (by simp)
     ·rw [if_neg c8] at H
      have c8b0:decide (x15_2<(l0_3.length:Int))=false:=decide_eq_false c8
      clear c8
      obtain rfl:=Option.some.inj H
      go_wp2
      go_ret
      exact ⟨by first|rfl|(simp [errW_none,errW_some] <;> rfl)|(simp [*,errW_none,errW_some] <;> rfl),by repeat (first|exact gB HB|refine below_set ?_ GE859.out)⟩
end Go.Proofs.Ytdhdfmmefghijab.P
namespace Go.Proofs.Ytdhdfmmefghijab.P
open Go.RowKit Go.Proofs.YtdhdfmmefghijabW.PrintWords Go.Proofs.YtdhdfmmefghijabW.PrintLast Go.Proofs.YtdhdfmmefghijabW.PrintMore
attribute [local go_sem] max2_int min2_int max_two min_two max_three min_three max_four min_four
set_option linter.unusedVariables false
set_option linter.unusedSimpArgs false
mutual
def laws_FnOpenLayout.j0:Nat→List (SRow)→Bool→List (SRow)→Bool→Bool→Int→Int→ByteArray→List (SDoc)→Option (Bool)
 | 0,_,_,_,_,_,_,_,_,_=>none
 | k+1,x4,x5,x6,x7,x42,x870000,x870001,x870002,x870003=>if x42=true then ((impl_LayoutSame.f k x4 x6).bind fun t879=>(if t879=true then (some (x5 == x7)) else (none))) else ((impl_CountOps.f k x870000 x870001 x870002 x870003 3).bind fun t880=>((impl_CountOps.f k x870000 x870001 x870002 x870003 4).bind fun t881=>((impl_CountOps.f k x870000 x870001 x870002 x870003 5).bind fun t882=>(if (x4.length:Int)=(wrap64 ((wrap64 ((wrap64 (t880+t881))+t882))+1)) then ((impl_LayoutValid.f k x4).bind fun t883=>(laws_FnOpenLayout.j1 k x4 (!t883) x870000 x870001 x870002 x870003)) else (laws_FnOpenLayout.j1 k x4 true x870000 x870001 x870002 x870003)))))
def laws_FnOpenLayout.j1:Nat→List (SRow)→Bool→Int→Int→ByteArray→List (SDoc)→Option (Bool)
 | 0,_,_,_,_,_,_=>none
 | k+1,x4,x68,x870000,x870001,x870002,x870003=>if x68=true then (none) else (if x870000=7 then (if 0<(x870003.length:Int) then ((impl_OpenLayout.f k ((rd_TDoc x870003 0).f0) ((rd_TDoc x870003 0).f1) ((rd_TDoc x870003 0).f2) ((rd_TDoc x870003 0).f3)).bind fun bt885=>(if 1<(x870003.length:Int) then ((impl_OpenLayout.f k ((rd_TDoc x870003 1).f0) ((rd_TDoc x870003 1).f1) ((rd_TDoc x870003 1).f2) ((rd_TDoc x870003 1).f3)).bind fun bt890=>((impl_CatLayouts.f k bt885.1 bt890.1).bind fun bt894=>(if bt894.2=true then ((impl_LayoutSame.f k bt894.1 x4).bind fun t898=>(some t898)) else (none)))) else (none))) else (none)) else (some true))
end
def laws_FnOpenLayout.f (k:Nat) (l0:List Int):Option (Bool):=if (l0.length:Int)>1048576 then (some true) else ((spec_DrawOpenLayout.f k l0).bind fun bt863=>((impl_OpenLayout.f k bt863.1 bt863.2.1 bt863.2.2.1 bt863.2.2.2).bind fun bt870=>((spec_OpenLayout.f k bt863.1 bt863.2.1 bt863.2.2.1 bt863.2.2.2).bind fun bt874=>((impl_LayoutSame.f k bt870.1 bt874.1).bind fun t878=>(if t878=true then (if (bt870.2 != bt874.2)=true then (laws_FnOpenLayout.j0 k bt870.1 bt870.2 bt874.1 bt874.2 true bt863.1 bt863.2.1 bt863.2.2.1 bt863.2.2.2) else (laws_FnOpenLayout.j0 k bt870.1 bt870.2 bt874.1 bt874.2 (!bt870.2) bt863.1 bt863.2.1 bt863.2.2.1 bt863.2.2.2)) else (laws_FnOpenLayout.j0 k bt870.1 bt870.2 bt874.1 bt874.2 true bt863.1 bt863.2.1 bt863.2.2.1 bt863.2.2.2))))))
def laws_FnOpenLayout.T8:Bool×List (List Nat×List Nat):=(true,[([],[]),([0],[0]),([],[]),([2,1],[2]),([1,3],[1,3]),([],[]),([5,3],[5]),([4,6],[4,6]),([7,6,0,1,2,3,4,5,6,7],[7])])
def laws_FnOpenLayout.B8:List Nat:=[0,1,0,7,15,0,47,127,255]
theorem laws_FnOpenLayout.tab8:rtab .any (opsOf Try.f10 8)=laws_FnOpenLayout.T8:=by kernel_rfl
theorem laws_FnOpenLayout.bits8:waitsOk laws_FnOpenLayout.T8.2 laws_FnOpenLayout.B8=true:=by kernel_rfl
set_option maxHeartbeats 8000000 in
set_option maxRecDepth 100000 in
theorem laws_FnOpenLayout.calls (k:Nat) (A0:Option Addr) (c0:Nat) (l0:List Int) (r:Bool) (w:World) (hr0:Kd.C (Kd.int .u8) w A0 l0.length l0) (hc0:l0.length≤c0) (h:laws_FnOpenLayout.f k l0=some r) :
  Calls Try.prog 10 #[.slice A0 l0.length c0] w fun e w'=>e=.returned (.bool r)∧Below w.heap.size w w':=by
 have hu39:=Try.underlying39
 have HR0:=Aside0.mk hr0
 have HC0:=Aside0.mk hc0
 clear hr0 hc0
 have HB:=Aside0.mk (Below.refl w.heap.size w)
 have H:(if (l0.length:Int)>1048576 then (some true) else ((spec_DrawOpenLayout.f k l0).bind fun bt863=>((impl_OpenLayout.f k bt863.1 bt863.2.1 bt863.2.2.1 bt863.2.2.2).bind fun bt870=>((spec_OpenLayout.f k bt863.1 bt863.2.1 bt863.2.2.1 bt863.2.2.2).bind fun bt874=>((impl_LayoutSame.f k bt870.1 bt874.1).bind fun t878=>(if t878=true then (if (bt870.2 != bt874.2)=true then (laws_FnOpenLayout.j0 k bt870.1 bt870.2 bt874.1 bt874.2 true bt863.1 bt863.2.1 bt863.2.2.1 bt863.2.2.2) else (laws_FnOpenLayout.j0 k bt870.1 bt870.2 bt874.1 bt874.2 (!bt870.2) bt863.1 bt863.2.1 bt863.2.2.1 bt863.2.2.2)) else (laws_FnOpenLayout.j0 k bt870.1 bt870.2 bt874.1 bt874.2 true bt863.1 bt863.2.1 bt863.2.2.1 bt863.2.2.2)))))))=some r:=h
 clear h
 by_cases c2:(l0.length:Int)>1048576
 ·rw [if_pos c2] at H
  have c2b0:decide (1048576<(l0.length:Int))=true:=decide_eq_true c2
  have c2b1:decide (1048576<l0.length)=true:=decide_eq_true (by omega)
  clear c2
  obtain rfl:=Option.some.inj H
  go_enter Try.func10,Try.ntmps10
  go_wp2
  go_ret
  exact ⟨by first|rfl|(simp [errW_none,errW_some] <;> rfl)|(simp [*,errW_none,errW_some] <;> rfl),gB HB⟩
 ·rw [if_neg c2] at H
  have c2b0:decide (1048576<(l0.length:Int))=false:=decide_eq_false c2
  have c2b1:decide (1048576<l0.length)=false:=decide_eq_false (by omega)
  clear c2
  replace H:=Option.bind_eq_some_iff.mp H
  obtain ⟨⟨t863,t864,t865,t866⟩,A30,H⟩:=H
  replace H:((impl_OpenLayout.f k t863 t864 t865 t866).bind fun bt870=>((spec_OpenLayout.f k t863 t864 t865 t866).bind fun bt874=>((impl_LayoutSame.f k bt870.1 bt874.1).bind fun t878=>(if t878=true then (if (bt870.2 != bt874.2)=true then (laws_FnOpenLayout.j0 k bt870.1 bt870.2 bt874.1 bt874.2 true t863 t864 t865 t866) else (laws_FnOpenLayout.j0 k bt870.1 bt870.2 bt874.1 bt874.2 (!bt870.2) t863 t864 t865 t866)) else (laws_FnOpenLayout.j0 k bt870.1 bt870.2 bt874.1 bt874.2 true t863 t864 t865 t866)))))=some r:=H
  have A3:=Aside0.mk A30
  clear A30
  replace H:=Option.bind_eq_some_iff.mp H
  obtain ⟨⟨t870,t873⟩,A40,H⟩:=H
  replace H:((spec_OpenLayout.f k t863 t864 t865 t866).bind fun bt874=>((impl_LayoutSame.f k t870 bt874.1).bind fun t878=>(if t878=true then (if (t873 != bt874.2)=true then (laws_FnOpenLayout.j0 k t870 t873 bt874.1 bt874.2 true t863 t864 t865 t866) else (laws_FnOpenLayout.j0 k t870 t873 bt874.1 bt874.2 (!t873) t863 t864 t865 t866)) else (laws_FnOpenLayout.j0 k t870 t873 bt874.1 bt874.2 true t863 t864 t865 t866))))=some r:=H
  have A4:=Aside0.mk A40
  clear A40
  replace H:=Option.bind_eq_some_iff.mp H
  obtain ⟨⟨t874,t877⟩,A50,H⟩:=H
  replace H:((impl_LayoutSame.f k t870 t874).bind fun t878=>(if t878=true then (if (t873 != t877)=true then (laws_FnOpenLayout.j0 k t870 t873 t874 t877 true t863 t864 t865 t866) else (laws_FnOpenLayout.j0 k t870 t873 t874 t877 (!t873) t863 t864 t865 t866)) else (laws_FnOpenLayout.j0 k t870 t873 t874 t877 true t863 t864 t865 t866)))=some r:=H
  have A5:=Aside0.mk A50
  clear A50
  have HC6:=Aside0.mk H
  clear H
  go_enter Try.func10,Try.ntmps10
  go_upto_region 6 with (first|((with_reducible refine gate_callee (f:=23) rfl ?_);refine goesL_ (some 19) rfl rfl Try.func23 (by kernel_rfl) rfl #[.slice A0 l0.length c0] rfl (by (try simp only [List.map_toArray,List.map_cons,List.map_nil]);first|done|rfl|(simp only [List.length_drop,List.length_take];rfl)) ?_;(with_reducible refine (spec_DrawOpenLayout.calls k _ _ l0 t863 t864 t865 t866 _ ?side1 ?side2 A3.out).mono ?_);(case side1=>repeat (first|exact HR0.out|(with_reducible refine Kd.C_alloc ?_ _)|(with_reducible refine Kd.C_drewN ?_ _)|(with_reducible refine Kd.C_drew ?_)));(case side2=>exact HC0.out);rintro e w7 ⟨v867,rfl,ho0,hb⟩;refine ⟨_,rfl,?_⟩;have n0_:=Aside0.mk (Kd.N_lower (Kd.N_mono (ok':=fun k_=>True) ho0 (fun k_ hk_=>trivial)) (below_size (gB HB)));have n1_:=Aside0.mk (below_step (gB HB) hb);clear HB;have HO868:=n0_;have HB:=n1_;clear n0_ n1_;(try clear hb);(try clear hb2);(try clear hk);(try clear hi);(try clear ho0))|((with_reducible refine gate_dst (N:=3) rfl ?_);refine box_event ?hg (N:=3) ?hd (cs:=#[.int .i64 0,.int .i64 0,.string (⟨#[]⟩:ByteArray),.slice none 0 0]) (t:=39) ?hr ?_;(case hd=>rfl);(case hg=>rfl);(case hr=>first|(go_simp;done)|(go_simp;rfl));intro gb869 hg w8 hbox hb;have n0_:=Aside0.mk (Kd.N_below (Kd.N_elderB (gN HO868) gb869 (Nat.le_of_eq hg.symm)) hb);have n1_:=Aside0.mk (below_step (gB HB) hb);have n2_:=Aside0.mk (hbox);have n3_:=Aside0.mk ((by rw [hg];exact (below_size (gB HB)):w.heap.size≤gb869));have n4_:=Aside0.mk ((by rw [hg];exact (below_size (gB HB)):w.heap.size≤gb869));clear HO868;clear HB;have HO868:=n0_;have HB:=n1_;have BK869:=n2_;have GW869:=n3_;have GE869:=n4_;clear n0_ n1_ n2_ n3_ n4_;clear hb hbox hg;have hcz9_0:w8.cell? ⟨gb869,0,none⟩=some (.int .i64 0):=(blk_cell BK869.out 0).trans rfl;have hcz9_1:w8.cell? ⟨gb869,1,none⟩=some (.int .i64 0):=(blk_cell BK869.out 1).trans rfl;have hcz9_2:w8.cell? ⟨gb869,2,none⟩=some (.string (⟨#[]⟩:ByteArray)):=(blk_cell BK869.out 2).trans rfl;have hcz9_3:w8.cell? ⟨gb869,3,none⟩=some (.slice none 0 0):=(blk_cell BK869.out 3).trans rfl;have hfz9_0:=blk_frozen BK869.out 0;have hfz9_1:=blk_frozen BK869.out 1;have hfz9_2:=blk_frozen BK869.out 2;have hfz9_3:=blk_frozen BK869.out 3;obtain ⟨Ao10,co10,eo10⟩:=Kd.N_slice HO868.out;subst eo10)|((with_reducible refine gate_callee (f:=24) rfl ?_);refine goesL_ (some 22) rfl rfl Try.func24 (by kernel_rfl) rfl #[.agg #[.int .i64 t863,.int .i64 t864,.string t865,.slice Ao10 t866.length co10]] rfl (by (try simp only [List.map_toArray,List.map_cons,List.map_nil]);first|done|rfl|(simp only [List.length_drop,List.length_take];rfl)) ?_;(with_reducible refine (impl_OpenLayout.calls k t863 t864 t865 _ _ t866 t870 t873 _ ?side1 ?side2 A4.out).mono ?_);(case side1=>refine (Kd.N_reads' (e:=39) (base:=w.heap.size) (ok:=fun k_=>(True∧k_≠gb869)) (n:=t866.length) (c:=co10) ?_).2.2;exact (by (with_reducible repeat (first|apply Kd.N_alloc|apply Kd.N_drewN|apply Kd.N_drew));exact (Kd.N_mono (Kd.N_far (p:=⟨gb869,3,none⟩) (Kd.N_far (p:=⟨gb869,2,none⟩) (Kd.N_far (p:=⟨gb869,1,none⟩) (Kd.N_far (p:=⟨gb869,0,none⟩) (Kd.N_mono HO868.out (fun k_ hk=>(⟨hk,hk.2⟩:_∧k_≠gb869))) (fun _ hk=>hk.2) (.int .i64 t863)) (fun _ hk=>hk.2) (.int .i64 t864)) (fun _ hk=>hk.2) (.string t865)) (fun _ hk=>hk.2) (.slice Ao10 t866.length co10)) (fun _ h_=>h_.1))));(case side2=>exact (Kd.N_reads' HO868.out).2.1);rintro e w11 ⟨v871,rfl,ho0,hb⟩;refine ⟨_,rfl,?_⟩;have n0_:=Aside0.mk (Kd.N_elder' (by (with_reducible repeat (first|apply Kd.N_alloc|apply Kd.N_drewN|apply Kd.N_drew));exact (Kd.N_mono (Kd.N_far (p:=⟨gb869,3,none⟩) (Kd.N_far (p:=⟨gb869,2,none⟩) (Kd.N_far (p:=⟨gb869,1,none⟩) (Kd.N_far (p:=⟨gb869,0,none⟩) (Kd.N_mono HO868.out (fun k_ hk=>(⟨hk,hk.2⟩:_∧k_≠gb869))) (fun _ hk=>hk.2) (.int .i64 t863)) (fun _ hk=>hk.2) (.int .i64 t864)) (fun _ hk=>hk.2) (.string t865)) (fun _ hk=>hk.2) (.slice Ao10 t866.length co10)) (fun _ h_=>h_.1))) (Kd.R_base ho0) hb);have n1_:=Aside0.mk (Kd.R_lower ho0 (below_size (by repeat (first|exact gB HB|refine below_set ?_ GE869.out))));have n2_:=Aside0.mk (blk_below (g:=gb869) (o:=.cells #[.int .i64 t863,.int .i64 t864,.string t865,.slice Ao10 t866.length co10] 39 (0,0)) (by (with_reducible repeat (first|refine blk_drewN ?_ _|refine blk_drew ?_|refine blk_alloc ?_ _));refine blk_put (cs:=#[.int .i64 t863,.int .i64 t864,.string t865,.slice none 0 0]) ?_ 3 _ rfl;(with_reducible repeat (first|refine blk_drewN ?_ _|refine blk_drew ?_|refine blk_alloc ?_ _));refine blk_put (cs:=#[.int .i64 t863,.int .i64 t864,.string (⟨#[]⟩:ByteArray),.slice none 0 0]) ?_ 2 _ rfl;(with_reducible repeat (first|refine blk_drewN ?_ _|refine blk_drew ?_|refine blk_alloc ?_ _));refine blk_put (cs:=#[.int .i64 t863,.int .i64 0,.string (⟨#[]⟩:ByteArray),.slice none 0 0]) ?_ 1 _ rfl;(with_reducible repeat (first|refine blk_drewN ?_ _|refine blk_drew ?_|refine blk_alloc ?_ _));refine blk_put (cs:=#[.int .i64 0,.int .i64 0,.string (⟨#[]⟩:ByteArray),.slice none 0 0]) ?_ 0 _ rfl;(with_reducible repeat (first|refine blk_drewN ?_ _|refine blk_drew ?_|refine blk_alloc ?_ _));exact BK869.out) hb);have n3_:=Aside0.mk (below_step (by repeat (first|exact gB HB|refine below_set ?_ GE869.out)) hb);clear HO868;clear BK869;clear HB;have HO868:=n0_;have HO872:=n1_;have BK869:=n2_;have HB:=n3_;clear n0_ n1_ n2_ n3_;(try clear hb);(try clear hb2);(try clear hk);(try clear hi);(try clear ho0);have hcz12_0:w11.cell? ⟨gb869,0,none⟩=some (.int .i64 t863):=(blk_cell BK869.out 0).trans rfl;have hcz12_1:w11.cell? ⟨gb869,1,none⟩=some (.int .i64 t864):=(blk_cell BK869.out 1).trans rfl;have hcz12_2:w11.cell? ⟨gb869,2,none⟩=some (.string t865):=(blk_cell BK869.out 2).trans rfl;have hcz12_3:w11.cell? ⟨gb869,3,none⟩=some (.slice Ao10 t866.length co10):=(blk_cell BK869.out 3).trans rfl;have hfz12_0:=blk_frozen BK869.out 0;have hfz12_1:=blk_frozen BK869.out 1;have hfz12_2:=blk_frozen BK869.out 2;have hfz12_3:=blk_frozen BK869.out 3)|((with_reducible refine gate_callee (f:=25) rfl ?_);refine goesL_ (some 27) rfl rfl Try.func25 (by kernel_rfl) rfl #[.agg #[.int .i64 t863,.int .i64 t864,.string t865,.slice Ao10 t866.length co10]] rfl (by (try simp only [List.map_toArray,List.map_cons,List.map_nil]);first|done|rfl|(simp only [List.length_drop,List.length_take];rfl)) ?_;(with_reducible refine (spec_OpenLayout.calls k t863 t864 t865 _ _ t866 t874 t877 _ ?side1 ?side2 A5.out).mono ?_);(case side1=>exact gC ((Kd.N_reads' HO868.out).2.2));(case side2=>exact (Kd.N_reads' HO868.out).2.1);rintro e w13 ⟨v875,rfl,ho0,hb⟩;refine ⟨_,rfl,?_⟩;have n0_:=Aside0.mk (Kd.N_elder' (gN HO868) (Kd.R_base ho0) hb);have n1_:=Aside0.mk (Kd.R_elder' (gR HO872) (Kd.R_base ho0) hb);have n2_:=Aside0.mk (Kd.R_lower (Kd.R_new' ho0 (Kd.R_lt (gR HO872))) (below_size (by repeat (first|exact gB HB|refine below_set ?_ GE869.out))));have n3_:=Aside0.mk (blk_below (g:=gb869) (o:=.cells #[.int .i64 t863,.int .i64 t864,.string t865,.slice Ao10 t866.length co10] 39 (0,0)) (gK BK869) hb);have n4_:=Aside0.mk (below_step (by repeat (first|exact gB HB|refine below_set ?_ GE869.out)) hb);clear HO868;clear HO872;clear BK869;clear HB;have HO868:=n0_;have HO872:=n1_;have HO876:=n2_;have BK869:=n3_;have HB:=n4_;clear n0_ n1_ n2_ n3_ n4_;(try clear hb);(try clear hb2);(try clear hk);(try clear hi);(try clear ho0)))
  (try simp only [Act.put,List.setIfInBounds_toArray,List.set_cons_zero,List.set_cons_succ])
  go_cut [42] (fun v42 wc=>∃ (kq:Nat) (x42_5:Bool),v42=.bool x42_5∧Aside0 (laws_FnOpenLayout.j0 kq t870 t873 t874 t877 x42_5 t863 t864 t865 t866=some r)∧Aside0 (kq≤k)∧Aside0 (Kd.R k30 30 wc w.heap.size (fun k_=>some k_≠(v875:Value).ownBlock) v871 t870)∧Aside0 (Kd.R k30 30 wc w.heap.size (fun k_=>some k_≠(v871:Value).ownBlock) v875 t874)∧Aside0 (Kd.N k39 39 wc w.heap.size (fun k_=>some k_≠(v871:Value).ownBlock∧some k_≠(v875:Value).ownBlock∧k_≠gb869) (.slice Ao10 t866.length co10) t866)∧Aside0 (wc.heap[gb869]?=some (.cells #[.int .i64 t863,.int .i64 t864,.string t865,(.slice Ao10 t866.length co10)] 39 (0,0)))∧Aside0 (Below w.heap.size w wc))
  case first =>
   have H:=HC6.out
   clear HC6
   replace H:=Option.bind_eq_some_iff.mp H
   obtain ⟨t878,A140,H⟩:=H
   replace H:(if t878=true then (if (t873 != t877)=true then (laws_FnOpenLayout.j0 k t870 t873 t874 t877 true t863 t864 t865 t866) else (laws_FnOpenLayout.j0 k t870 t873 t874 t877 (!t873) t863 t864 t865 t866)) else (laws_FnOpenLayout.j0 k t870 t873 t874 t877 true t863 t864 t865 t866))=some r:=H
   have A14:=Aside0.mk A140
   clear A140
   by_cases c15:t878=true
   ·subst c15
    have H1:(if (t873 != t877)=true then (laws_FnOpenLayout.j0 k t870 t873 t874 t877 true t863 t864 t865 t866) else (laws_FnOpenLayout.j0 k t870 t873 t874 t877 (!t873) t863 t864 t865 t866))=some r:=by rw [if_pos rfl] at H;exact H
    clear H
    have H:=H1
    clear H1
    by_cases c16:(t873 != t877)=true
    ·rw [if_pos c16] at H
     have c16b0:(t873 != t877)=true:=c16
     (try (have c16b1:decide (t873=t877)=false:=by simpa using c16))
     (try (have c16b2:(t873 == t877)=false:=by simpa using c16))
     (try (have c16b3:¬ (t873=t877):=by simpa using c16))
     clear c16
     (first|rw [c16b0]|(simp only [i64_w,i32_w];rw [c16b0])|skip)
     have H':=Aside0.mk H
     clear H
     obtain ⟨Ao17,co17,eo17⟩:=Kd.R_slice HO872.out
     subst eo17
     obtain ⟨Ao18,co18,eo18⟩:=Kd.R_slice HO876.out
     subst eo18
     go_wp2_with (first|((with_reducible refine gate_callee (f:=18) rfl ?_);refine goesL_ (some 32) rfl rfl Try.func18 (by kernel_rfl) rfl #[.slice Ao17 t870.length co17,.slice Ao18 t874.length co18] rfl (by (try simp only [List.map_toArray,List.map_cons,List.map_nil]);first|done|rfl|(simp only [List.length_drop,List.length_take];rfl)) ?_;(with_reducible refine (impl_LayoutSame.calls k _ _ t870 _ _ t874 true _ ?side1 ?side2 ?side3 ?side4 A14.out).mono ?_);(case side1=>exact gC ((Kd.R_reads' HO872.out).2.2));(case side2=>exact (Kd.R_reads' HO872.out).2.1);(case side3=>exact gC ((Kd.R_reads' HO876.out).2.2));(case side4=>exact (Kd.R_reads' HO876.out).2.1);rintro e w' ⟨rfl,⟨nd,rfl⟩⟩;refine ⟨_,rfl,?_⟩))
     go_meet
     case rel=>exact ⟨_,(true),(by first|rfl|(simp;done)|(simp [*];done)),H',⟨by first|omega|exact Nat.le_refl _⟩,⟨by (with_reducible repeat (first|apply Kd.R_alloc|apply Kd.R_drewN|apply Kd.R_drew));exact Kd.R_mono HO872.out (fun _ hk=>hk.2)⟩,⟨by (with_reducible repeat (first|apply Kd.R_alloc|apply Kd.R_drewN|apply Kd.R_drew));exact Kd.R_mono HO876.out (fun _ hk=>hk.2)⟩,⟨by (with_reducible repeat (first|apply Kd.N_alloc|apply Kd.N_drewN|apply Kd.N_drew));exact Kd.N_mono HO868.out (fun _ hk=>⟨hk.1.2,⟨hk.2,hk.1.1.2⟩⟩)⟩,⟨gK BK869⟩,⟨by repeat (first|exact gB HB|refine below_set ?_ GE869.out)⟩⟩
    ·rw [if_neg c16] at H
     have c16b0:(t873 != t877)=false:=by simpa using c16
     (try (have c16b1:decide (t873=t877)=true:=by simpa using c16))
     (try (have c16b2:(t873 == t877)=true:=by simpa using c16))
     clear c16
     (first|rw [c16b0]|(simp only [i64_w,i32_w];rw [c16b0])|skip)
     have H':=Aside0.mk H
     clear H
     obtain ⟨Ao19,co19,eo19⟩:=Kd.R_slice HO872.out
     subst eo19
     obtain ⟨Ao20,co20,eo20⟩:=Kd.R_slice HO876.out
     subst eo20
     go_wp2_with (first|((with_reducible refine gate_callee (f:=18) rfl ?_);refine goesL_ (some 32) rfl rfl Try.func18 (by kernel_rfl) rfl #[.slice Ao19 t870.length co19,.slice Ao20 t874.length co20] rfl (by (try simp only [List.map_toArray,List.map_cons,List.map_nil]);first|done|rfl|(simp only [List.length_drop,List.length_take];rfl)) ?_;(with_reducible refine (impl_LayoutSame.calls k _ _ t870 _ _ t874 true _ ?side1 ?side2 ?side3 ?side4 A14.out).mono ?_);(case side1=>exact gC ((Kd.R_reads' HO872.out).2.2));(case side2=>exact (Kd.R_reads' HO872.out).2.1);(case side3=>exact gC ((Kd.R_reads' HO876.out).2.2));(case side4=>exact (Kd.R_reads' HO876.out).2.1);rintro e w' ⟨rfl,⟨nd,rfl⟩⟩;refine ⟨_,rfl,?_⟩))
     go_meet
     case rel=>exact ⟨_,(!t873),(by first|rfl|(simp;done)|(simp [*];done)),H',⟨by first|omega|exact Nat.le_refl _⟩,⟨by (with_reducible repeat (first|apply Kd.R_alloc|apply Kd.R_drewN|apply Kd.R_drew));exact Kd.R_mono HO872.out (fun _ hk=>hk.2)⟩,⟨by (with_reducible repeat (first|apply Kd.R_alloc|apply Kd.R_drewN|apply Kd.R_drew));exact Kd.R_mono HO876.out (fun _ hk=>hk.2)⟩,⟨by (with_reducible repeat (first|apply Kd.N_alloc|apply Kd.N_drewN|apply Kd.N_drew));exact Kd.N_mono HO868.out (fun _ hk=>⟨hk.1.2,⟨hk.2,hk.1.1.2⟩⟩)⟩,⟨gK BK869⟩,⟨by repeat (first|exact gB HB|refine below_set ?_ GE869.out)⟩⟩
   ·replace c15:=Bool.eq_false_iff.mpr c15
    subst c15
    have H1:(laws_FnOpenLayout.j0 k t870 t873 t874 t877 true t863 t864 t865 t866)=some r:=by rw [if_neg (show ¬ (false=true) by decide)] at H;exact H
    clear H
    have H:=H1
    clear H1
    have H':=Aside0.mk H
    clear H
    obtain ⟨Ao21,co21,eo21⟩:=Kd.R_slice HO872.out
    subst eo21
    obtain ⟨Ao22,co22,eo22⟩:=Kd.R_slice HO876.out
    subst eo22
    go_wp2_with (first|((with_reducible refine gate_callee (f:=18) rfl ?_);refine goesL_ (some 32) rfl rfl Try.func18 (by kernel_rfl) rfl #[.slice Ao21 t870.length co21,.slice Ao22 t874.length co22] rfl (by (try simp only [List.map_toArray,List.map_cons,List.map_nil]);first|done|rfl|(simp only [List.length_drop,List.length_take];rfl)) ?_;(with_reducible refine (impl_LayoutSame.calls k _ _ t870 _ _ t874 false _ ?side1 ?side2 ?side3 ?side4 A14.out).mono ?_);(case side1=>exact gC ((Kd.R_reads' HO872.out).2.2));(case side2=>exact (Kd.R_reads' HO872.out).2.1);(case side3=>exact gC ((Kd.R_reads' HO876.out).2.2));(case side4=>exact (Kd.R_reads' HO876.out).2.1);rintro e w' ⟨rfl,⟨nd,rfl⟩⟩;refine ⟨_,rfl,?_⟩))
    go_meet
    case rel=>exact ⟨_,(true),(by first|rfl|(simp;done)|(simp [*];done)),H',⟨by first|omega|exact Nat.le_refl _⟩,⟨by (with_reducible repeat (first|apply Kd.R_alloc|apply Kd.R_drewN|apply Kd.R_drew));exact Kd.R_mono HO872.out (fun _ hk=>hk.2)⟩,⟨by (with_reducible repeat (first|apply Kd.R_alloc|apply Kd.R_drewN|apply Kd.R_drew));exact Kd.R_mono HO876.out (fun _ hk=>hk.2)⟩,⟨by (with_reducible repeat (first|apply Kd.N_alloc|apply Kd.N_drewN|apply Kd.N_drew));exact Kd.N_mono HO868.out (fun _ hk=>⟨hk.1.2,⟨hk.2,hk.1.1.2⟩⟩)⟩,⟨gK BK869⟩,⟨by repeat (first|exact gB HB|refine below_set ?_ GE869.out)⟩⟩
  case rest =>
   clear HC6
   try clear c1 c2 c2b0 c2b1 p2 c10 c15 c16 c16b0 c16b1 c16b2 c18 hcz12_0 hcz12_1 hcz12_2 hcz12_3 hcz9_0 hcz9_1 hcz9_2 hcz9_3 hfz12_0 hfz12_1 hfz12_2 hfz12_3 hfz9_0 hfz9_1 hfz9_2 hfz9_3
   obtain ⟨kq,x42_5,rfl,HA,HJ5,HO_4,HO_6,HO_870003,BK869,HB⟩:=hcut
   cases kq with
   | zero=>exact absurd HA.out (by simp [laws_FnOpenLayout.j0])
   | succ kj5 =>
    have H:=HA.out
    clear HA
    simp only [laws_FnOpenLayout.j0] at H
    by_cases c23:x42_5=true
    ·subst c23
     have H1:((impl_LayoutSame.f kj5 t870 t874).bind fun t879=>(if t879=true then (some (t873 == t877)) else (none)))=some r:=by rw [if_pos rfl] at H;exact H
     clear H
     have H:=H1
     clear H1
     replace H:=Option.bind_eq_some_iff.mp H
     obtain ⟨t879,A240,H⟩:=H
     replace H:(if t879=true then (some (t873 == t877)) else (none))=some r:=H
     have A24:=Aside0.mk A240
     clear A240
     by_cases c25:t879=true
     ·subst c25
      have H1:(some (t873 == t877))=some r:=by rw [if_pos rfl] at H;exact H
      clear H
      have H:=H1
      clear H1
      obtain rfl:=Option.some.inj H
      obtain ⟨Ao26,co26,eo26⟩:=Kd.R_slice HO_4.out
      subst eo26
      obtain ⟨Ao27,co27,eo27⟩:=Kd.R_slice HO_6.out
      subst eo27
      go_wp2_with (first|((with_reducible refine gate_callee (f:=18) rfl ?_);refine goesL_ (some 45) rfl rfl Try.func18 (by kernel_rfl) rfl #[.slice Ao26 t870.length co26,.slice Ao27 t874.length co27] rfl (by (try simp only [List.map_toArray,List.map_cons,List.map_nil]);first|done|rfl|(simp only [List.length_drop,List.length_take];rfl)) ?_;(with_reducible refine (impl_LayoutSame.calls kj5 _ _ t870 _ _ t874 true _ ?side1 ?side2 ?side3 ?side4 A24.out).mono ?_);(case side1=>exact gC ((Kd.R_reads' HO_4.out).2.2));(case side2=>exact (Kd.R_reads' HO_4.out).2.1);(case side3=>exact gC ((Kd.R_reads' HO_6.out).2.2));(case side4=>exact (Kd.R_reads' HO_6.out).2.1);rintro e w' ⟨rfl,⟨nd,rfl⟩⟩;refine ⟨_,rfl,?_⟩))
      go_ret
      exact ⟨by first|rfl|(simp [errW_none,errW_some] <;> rfl)|(simp [*,errW_none,errW_some] <;> rfl),by repeat (first|exact gB HB|refine below_set ?_ GE869.out)⟩
     ·replace c25:=Bool.eq_false_iff.mpr c25
      subst c25
      have H1:(none)=some r:=by rw [if_neg (show ¬ (false=true) by decide)] at H;exact H
      clear H
      have H:=H1
      clear H1
      exact absurd H (by simp)
    ·replace c23:=Bool.eq_false_iff.mpr c23
     subst c23
     have H1:((impl_CountOps.f kj5 t863 t864 t865 t866 3).bind fun t880=>((impl_CountOps.f kj5 t863 t864 t865 t866 4).bind fun t881=>((impl_CountOps.f kj5 t863 t864 t865 t866 5).bind fun t882=>(if (t870.length:Int)=(wrap64 ((wrap64 ((wrap64 (t880+t881))+t882))+1)) then ((impl_LayoutValid.f kj5 t870).bind fun t883=>(laws_FnOpenLayout.j1 kj5 t870 (!t883) t863 t864 t865 t866)) else (laws_FnOpenLayout.j1 kj5 t870 true t863 t864 t865 t866)))))=some r:=by rw [if_neg (show ¬ (false=true) by decide)] at H;exact H
     clear H
     have H:=H1
     clear H1
     replace H:=Option.bind_eq_some_iff.mp H
     obtain ⟨t880,A280,H⟩:=H
     replace H:((impl_CountOps.f kj5 t863 t864 t865 t866 4).bind fun t881=>((impl_CountOps.f kj5 t863 t864 t865 t866 5).bind fun t882=>(if (t870.length:Int)=(wrap64 ((wrap64 ((wrap64 (t880+t881))+t882))+1)) then ((impl_LayoutValid.f kj5 t870).bind fun t883=>(laws_FnOpenLayout.j1 kj5 t870 (!t883) t863 t864 t865 t866)) else (laws_FnOpenLayout.j1 kj5 t870 true t863 t864 t865 t866))))=some r:=H
     have A28:=Aside0.mk A280
     clear A280
     replace H:=Option.bind_eq_some_iff.mp H
     obtain ⟨t881,A290,H⟩:=H
     replace H:((impl_CountOps.f kj5 t863 t864 t865 t866 5).bind fun t882=>(if (t870.length:Int)=(wrap64 ((wrap64 ((wrap64 (t880+t881))+t882))+1)) then ((impl_LayoutValid.f kj5 t870).bind fun t883=>(laws_FnOpenLayout.j1 kj5 t870 (!t883) t863 t864 t865 t866)) else (laws_FnOpenLayout.j1 kj5 t870 true t863 t864 t865 t866)))=some r:=H
     have A29:=Aside0.mk A290
     clear A290
     replace H:=Option.bind_eq_some_iff.mp H
     obtain ⟨t882,A300,H⟩:=H
     replace H:(if (t870.length:Int)=(wrap64 ((wrap64 ((wrap64 (t880+t881))+t882))+1)) then ((impl_LayoutValid.f kj5 t870).bind fun t883=>(laws_FnOpenLayout.j1 kj5 t870 (!t883) t863 t864 t865 t866)) else (laws_FnOpenLayout.j1 kj5 t870 true t863 t864 t865 t866))=some r:=H
     have A30:=Aside0.mk A300
     clear A300
     have HC31:=Aside0.mk H
     clear H
     try go_wp2
     have n0_:=Aside0.mk (Kd.R_drew HO_4.out)
     have n1_:=Aside0.mk (Kd.R_drew HO_6.out)
     have n2_:=Aside0.mk (Kd.N_drew HO_870003.out)
     have n3_:=Aside0.mk (blk_drew BK869.out)
     have n4_:=Aside0.mk (below_drew1 HB.out)
     clear HO_4
     clear HO_6
     clear HO_870003
     clear BK869
     clear HB
     have HO_4:=n0_
     have HO_6:=n1_
     have HO_870003:=n2_
     have BK869:=n3_
     have HB:=n4_
     clear n0_ n1_ n2_ n3_ n4_
     refine start_ (n:=9) (S:=fun w'=>w'.cell? ⟨gb869,0,none⟩=some (.int .i64 t863)∧w'.cell? ⟨gb869,1,none⟩=some (.int .i64 t864)∧w'.cell? ⟨gb869,2,none⟩=some (.string t865)∧w'.cell? ⟨gb869,3,none⟩=some (.slice Ao10 t866.length co10)) (ds:=[]) #[false,false,false,false,false,false,false,false,false] (by kernel_rfl) rfl rfl ⟨(blk_cell BK869.out 0).trans rfl,(blk_cell BK869.out 1).trans rfl,(blk_cell BK869.out 2).trans rfl,(blk_cell BK869.out 3).trans rfl⟩ (fun hHeld=>?_);refine with_tabW laws_FnOpenLayout.tab8 laws_FnOpenLayout.bits8 (fun HT_ HW_=>?_)
     generalize wc.drew=w32 at HO_4 HO_6 HO_870003 BK869 HB hHeld ⊢
     refine take_ (i:=0) (N:=some 51) (v:=?_) (a':=?_) #[true,false,false,false,false,false,false,false,false] rfl rfl (take_ofW HT_.out HW_.out (by kernel_rfl)) (fun _ _ _ h=>h) (Or.inl ⟨by rfl,?_⟩) hHeld ?_ ?_
     rotate_left
     ·rintro w' ⟨s0,s1,s2,s3⟩
      go_simp
      with_reducible rfl
     rotate_left
     ·simp only [Act.put,List.setIfInBounds_toArray,List.set_cons_zero,List.set_cons_succ,i64_w,i32_w]
      rfl
     refine take_ (i:=2) (N:=some 53) (v:=?_) (a':=?_) #[true,false,true,false,false,false,false,false,false] rfl rfl (take_ofW HT_.out HW_.out (by kernel_rfl)) (fun _ _ _ h=>h) (Or.inl ⟨by rfl,?_⟩) hHeld ?_ ?_
     rotate_left
     ·rintro w' ⟨s0,s1,s2,s3⟩
      go_simp
      with_reducible rfl
     rotate_left
     ·simp only [Act.put,List.setIfInBounds_toArray,List.set_cons_zero,List.set_cons_succ,i64_w,i32_w]
      rfl
     refine take_ (i:=5) (N:=some 56) (v:=?_) (a':=?_) #[true,false,true,false,false,true,false,false,false] rfl rfl (take_ofW HT_.out HW_.out (by kernel_rfl)) (fun _ _ _ h=>h) (Or.inl ⟨by rfl,?_⟩) hHeld ?_ ?_
     rotate_left
     ·rintro w' ⟨s0,s1,s2,s3⟩
      go_simp
      with_reducible rfl
     rotate_left
     ·simp only [Act.put,List.setIfInBounds_toArray,List.set_cons_zero,List.set_cons_succ,i64_w,i32_w]
      rfl
     refine one_ (i:=1) (N:=some 52) #[true,true,true,false,false,true,false,false,false] rfl rfl (one_of HT_.out (by kernel_rfl)) (by decide) (fun K hK=>?_)
     refine goes_ Try.func26 (by kernel_rfl) rfl #[.agg #[.int .i64 t863,.int .i64 t864,.string t865,.slice Ao10 t866.length co10],.int .i64 3] (by rfl) rfl rfl (by (try simp only [List.map_toArray,List.map_cons,List.map_nil]);first|done|rfl|(simp only [List.length_drop,List.length_take];rfl)) ?_
     with_reducible refine (impl_CountOps.calls kj5 t863 t864 t865 _ _ t866 3 t880 _ ?side1 ?side2 A28.out).mono ?_
     (case side1=>exact gC ((Kd.N_reads' HO_870003.out).2.2))
     (case side2=>exact (Kd.N_reads' HO_870003.out).2.1)
     rintro e w33 ⟨rfl,hb⟩
     refine ⟨_,rfl,?_⟩
     have n0_:=Aside0.mk (Kd.R_below (gR HO_4) hb)
     have n1_:=Aside0.mk (Kd.R_below (gR HO_6) hb)
     have n2_:=Aside0.mk (Kd.N_below (gN HO_870003) hb)
     have n3_:=Aside0.mk (blk_below (g:=gb869) (o:=.cells #[.int .i64 t863,.int .i64 t864,.string t865,.slice Ao10 t866.length co10] 39 (0,0)) (gK BK869) hb)
     have n4_:=Aside0.mk (below_step (by repeat (first|exact gB HB|refine below_set ?_ GE869.out)) hb)
     clear HO_4
     clear HO_6
     clear HO_870003
     clear BK869
     clear HB
     have HO_4:=n0_
     have HO_6:=n1_
     have HO_870003:=n2_
     have BK869:=n3_
     have HB:=n4_
     clear n0_ n1_ n2_ n3_ n4_
     (try clear hb)
     (try clear hb2)
     (try clear hk)
     (try clear hi)
     refine hK.out _ _ ⟨(blk_cell BK869.out 0).trans rfl,(blk_cell BK869.out 1).trans rfl,(blk_cell BK869.out 2).trans rfl,(blk_cell BK869.out 3).trans rfl⟩ (fun hHeld=>?_)
     clear hK K
     refine norm_ (a':=?_) ?_ ?_
     rotate_left
     ·show Act.put _ (some 52) _=_
      simp only [Act.put,List.setIfInBounds_toArray,List.set_cons_zero,List.set_cons_succ,i64_w,i32_w]
      rfl
     refine one_ (i:=3) (N:=some 54) #[true,true,true,true,false,true,false,false,false] rfl rfl (one_of HT_.out (by kernel_rfl)) (by decide) (fun K hK=>?_)
     refine goes_ Try.func26 (by kernel_rfl) rfl #[.agg #[.int .i64 t863,.int .i64 t864,.string t865,.slice Ao10 t866.length co10],.int .i64 4] (by rfl) rfl rfl (by (try simp only [List.map_toArray,List.map_cons,List.map_nil]);first|done|rfl|(simp only [List.length_drop,List.length_take];rfl)) ?_
     with_reducible refine (impl_CountOps.calls kj5 t863 t864 t865 _ _ t866 4 t881 _ ?side1 ?side2 A29.out).mono ?_
     (case side1=>exact gC ((Kd.N_reads' HO_870003.out).2.2))
     (case side2=>exact (Kd.N_reads' HO_870003.out).2.1)
     rintro e w34 ⟨rfl,hb⟩
     refine ⟨_,rfl,?_⟩
     have n0_:=Aside0.mk (Kd.R_below (gR HO_4) hb)
     have n1_:=Aside0.mk (Kd.R_below (gR HO_6) hb)
     have n2_:=Aside0.mk (Kd.N_below (gN HO_870003) hb)
     have n3_:=Aside0.mk (blk_below (g:=gb869) (o:=.cells #[.int .i64 t863,.int .i64 t864,.string t865,.slice Ao10 t866.length co10] 39 (0,0)) (gK BK869) hb)
     have n4_:=Aside0.mk (below_step (by repeat (first|exact gB HB|refine below_set ?_ GE869.out)) hb)
     clear HO_4
     clear HO_6
     clear HO_870003
     clear BK869
     clear HB
     have HO_4:=n0_
     have HO_6:=n1_
     have HO_870003:=n2_
     have BK869:=n3_
     have HB:=n4_
     clear n0_ n1_ n2_ n3_ n4_
     (try clear hb)
     (try clear hb2)
     (try clear hk)
     (try clear hi)
     refine hK.out _ _ ⟨(blk_cell BK869.out 0).trans rfl,(blk_cell BK869.out 1).trans rfl,(blk_cell BK869.out 2).trans rfl,(blk_cell BK869.out 3).trans rfl⟩ (fun hHeld=>?_)
     clear hK K
     refine norm_ (a':=?_) ?_ ?_
     rotate_left
     ·show Act.put _ (some 54) _=_
      simp only [Act.put,List.setIfInBounds_toArray,List.set_cons_zero,List.set_cons_succ,i64_w,i32_w]
      rfl
     refine pure_ (i:=4) (N:=some 55) (v:=?_) (a':=?_) #[true,true,true,true,true,true,false,false,false] rfl rfl (any_of HT_.out (by kernel_rfl)) (fun _ _ _ h=>h) (Or.inl ⟨by rfl,?_⟩) ?_ ?_
     rotate_left
     ·intro w'
      go_simp
      with_reducible rfl
     rotate_left
     ·simp only [Act.put,List.setIfInBounds_toArray,List.set_cons_zero,List.set_cons_succ,i64_w,i32_w]
      rfl
     refine one_ (i:=6) (N:=some 57) #[true,true,true,true,true,true,true,false,false] rfl rfl (one_of HT_.out (by kernel_rfl)) (by decide) (fun K hK=>?_)
     refine goes_ Try.func26 (by kernel_rfl) rfl #[.agg #[.int .i64 t863,.int .i64 t864,.string t865,.slice Ao10 t866.length co10],.int .i64 5] (by rfl) rfl rfl (by (try simp only [List.map_toArray,List.map_cons,List.map_nil]);first|done|rfl|(simp only [List.length_drop,List.length_take];rfl)) ?_
     with_reducible refine (impl_CountOps.calls kj5 t863 t864 t865 _ _ t866 5 t882 _ ?side1 ?side2 A30.out).mono ?_
     (case side1=>exact gC ((Kd.N_reads' HO_870003.out).2.2))
     (case side2=>exact (Kd.N_reads' HO_870003.out).2.1)
     rintro e w35 ⟨rfl,hb⟩
     refine ⟨_,rfl,?_⟩
     have n0_:=Aside0.mk (Kd.R_below (gR HO_4) hb)
     have n1_:=Aside0.mk (Kd.R_below (gR HO_6) hb)
     have n2_:=Aside0.mk (Kd.N_below (gN HO_870003) hb)
     have n3_:=Aside0.mk (blk_below (g:=gb869) (o:=.cells #[.int .i64 t863,.int .i64 t864,.string t865,.slice Ao10 t866.length co10] 39 (0,0)) (gK BK869) hb)
     have n4_:=Aside0.mk (below_step (by repeat (first|exact gB HB|refine below_set ?_ GE869.out)) hb)
     clear HO_4
     clear HO_6
     clear HO_870003
     clear BK869
     clear HB
     have HO_4:=n0_
     have HO_6:=n1_
     have HO_870003:=n2_
     have BK869:=n3_
     have HB:=n4_
     clear n0_ n1_ n2_ n3_ n4_
     (try clear hb)
     (try clear hb2)
     (try clear hk)
     (try clear hi)
     refine hK.out _ _ ⟨(blk_cell BK869.out 0).trans rfl,(blk_cell BK869.out 1).trans rfl,(blk_cell BK869.out 2).trans rfl,(blk_cell BK869.out 3).trans rfl⟩ (fun hHeld=>?_)
     clear hK K
     refine norm_ (a':=?_) ?_ ?_
     rotate_left
     ·show Act.put _ (some 57) _=_
      simp only [Act.put,List.setIfInBounds_toArray,List.set_cons_zero,List.set_cons_succ,i64_w,i32_w]
      rfl
     refine pure_ (i:=7) (N:=some 58) (v:=?_) (a':=?_) #[true,true,true,true,true,true,true,true,false] rfl rfl (any_of HT_.out (by kernel_rfl)) (fun _ _ _ h=>h) (Or.inl ⟨by rfl,?_⟩) ?_ ?_
     rotate_left
     ·intro w'
      go_simp
      with_reducible rfl
     rotate_left
     ·simp only [Act.put,List.setIfInBounds_toArray,List.set_cons_zero,List.set_cons_succ,i64_w,i32_w]
      rfl
     refine pure_ (i:=8) (N:=some 8) (v:=?_) (a':=?_) #[true,true,true,true,true,true,true,true,true] rfl rfl (any_of HT_.out (by kernel_rfl)) (fun _ _ _ h=>h) (Or.inl ⟨by rfl,?_⟩) ?_ ?_
     rotate_left
     ·intro w'
      go_simp
      with_reducible rfl
     rotate_left
     ·simp only [Act.put,List.setIfInBounds_toArray,List.set_cons_zero,List.set_cons_succ,i64_w,i32_w]
      rfl
     refine done_ (done_of HT_.out (by kernel_rfl)) ?_
     go_upto_region 9 with (fail)
     go_cut [68] (fun v68 wc=>∃ (kq:Nat) (x68_30:Bool),v68=.bool x68_30∧Aside0 (laws_FnOpenLayout.j1 kq t870 x68_30 t863 t864 t865 t866=some r)∧Aside0 (kq≤kj5)∧Aside0 (Kd.R k30 30 wc w.heap.size (fun _=>True) v871 t870)∧Aside0 (Kd.N k39 39 wc w.heap.size (fun k_=>some k_≠(v871:Value).ownBlock∧k_≠gb869) (.slice Ao10 t866.length co10) t866)∧Aside0 (wc.heap[gb869]?=some (.cells #[.int .i64 t863,.int .i64 t864,.string t865,(.slice Ao10 t866.length co10)] 39 (0,0)))∧Aside0 (Below w.heap.size w wc))
     case first =>
      have H:=HC31.out
      clear HC31
      by_cases c36:(t870.length:Int)=(wrap64 ((wrap64 ((wrap64 (t880+t881))+t882))+1))
      ·rw [if_pos c36] at H
       have c36b0:((t870.length:Int) == (wrap64 ((wrap64 ((wrap64 (t880+t881))+t882))+1)))=true:=beq_iff_eq.mpr c36
       have c36b1:((t870.length:Int) != (wrap64 ((wrap64 ((wrap64 (t880+t881))+t882))+1)))=false:=bne_eq_false_iff_eq.mpr c36
       clear c36
       (first|rw [c36b0]|(simp only [i64_w,i32_w];rw [c36b0])|skip)
       replace H:=Option.bind_eq_some_iff.mp H
       obtain ⟨t883,A370,H⟩:=H
       replace H:(laws_FnOpenLayout.j1 kj5 t870 (!t883) t863 t864 t865 t866)=some r:=H
       have A37:=Aside0.mk A370
       clear A370
       have H':=Aside0.mk H
       clear H
       obtain ⟨Ao38,co38,eo38⟩:=Kd.R_slice HO_4.out
       subst eo38
       go_wp2_with (first|(go_at_call 19;(with_reducible refine (impl_LayoutValid.calls kj5 _ _ t870 t883 _ ?side1 ?side2 A37.out).mono ?_);(case side1=>exact gC ((Kd.R_reads' HO_4.out).2.2));(case side2=>exact (Kd.R_reads' HO_4.out).2.1);rintro e w39 ⟨rfl,hb⟩;have n0_:=Aside0.mk (Kd.R_below (gR HO_4) hb);have n1_:=Aside0.mk (Kd.R_below (gR HO_6) hb);have n2_:=Aside0.mk (Kd.N_below (gN HO_870003) hb);have n3_:=Aside0.mk (blk_below (g:=gb869) (o:=.cells #[.int .i64 t863,.int .i64 t864,.string t865,.slice Ao10 t866.length co10] 39 (0,0)) (gK BK869) hb);have n4_:=Aside0.mk (below_step (by repeat (first|exact gB HB|refine below_set ?_ GE869.out)) hb);clear HO_4;clear HO_6;clear HO_870003;clear BK869;clear HB;have HO_4:=n0_;have HO_6:=n1_;have HO_870003:=n2_;have BK869:=n3_;have HB:=n4_;clear n0_ n1_ n2_ n3_ n4_;(try clear hb);(try clear hb2);(try clear hk);(try clear hi)))
       go_meet
       case rel=>exact ⟨_,(!t883),(by first|rfl|(simp;done)|(simp [*];done)),H',⟨by have:=HJ5.out;first|omega|exact Nat.le_refl _⟩,⟨by (with_reducible repeat (first|apply Kd.R_alloc|apply Kd.R_drewN|apply Kd.R_drew));exact Kd.R_mono HO_4.out (fun _ hk=>trivial)⟩,⟨by (with_reducible repeat (first|apply Kd.N_alloc|apply Kd.N_drewN|apply Kd.N_drew));exact Kd.N_mono HO_870003.out (fun _ hk=>⟨hk.1,hk.2.2⟩)⟩,⟨gK BK869⟩,⟨by repeat (first|exact gB HB|refine below_set ?_ GE869.out)⟩⟩
      ·rw [if_neg c36] at H
       have c36b0:((t870.length:Int) == (wrap64 ((wrap64 ((wrap64 (t880+t881))+t882))+1)))=false:=beq_eq_false_iff_ne.mpr c36
       have c36b1:((t870.length:Int) != (wrap64 ((wrap64 ((wrap64 (t880+t881))+t882))+1)))=true:=bne_iff_ne.mpr c36
       (first|rw [c36b0]|(simp only [i64_w,i32_w];rw [c36b0])|skip)
       have H':=Aside0.mk H
       clear H
       obtain ⟨Ao40,co40,eo40⟩:=Kd.R_slice HO_4.out
       subst eo40
       go_wp2
       go_meet
       case rel=>exact ⟨_,(true),(by first|rfl|(simp;done)|(simp [*];done)),H',⟨by have:=HJ5.out;first|omega|exact Nat.le_refl _⟩,⟨by (with_reducible repeat (first|apply Kd.R_alloc|apply Kd.R_drewN|apply Kd.R_drew));exact Kd.R_mono HO_4.out (fun _ hk=>trivial)⟩,⟨by (with_reducible repeat (first|apply Kd.N_alloc|apply Kd.N_drewN|apply Kd.N_drew));exact Kd.N_mono HO_870003.out (fun _ hk=>⟨hk.1,hk.2.2⟩)⟩,⟨gK BK869⟩,⟨by repeat (first|exact gB HB|refine below_set ?_ GE869.out)⟩⟩
     case rest =>
      clear HC31
      try clear c1 c2 c2b0 c2b1 p2 c3 p6 c10 c15 c16 c16b0 c16b1 c16b2 c18 c23 c24 c25 c26 c36 c36b0 c36b1 hcz12_0 hcz12_1 hcz12_2 hcz12_3 hcz9_0 hcz9_1 hcz9_2 hcz9_3 hfz12_0 hfz12_1 hfz12_2 hfz12_3 hfz9_0 hfz9_1 hfz9_2 hfz9_3 p2
      obtain ⟨kq,x68_30,rfl,HA,HJ30,HO_4,HO_870003,BK869,HB⟩:=hcut
      cases kq with
      | zero=>exact absurd HA.out (by simp [laws_FnOpenLayout.j1])
      | succ kj30 =>
       have H:=HA.out
       clear HA
       simp only [laws_FnOpenLayout.j1] at H
       by_cases c41:x68_30=true
       ·subst c41
        have H1:(none)=some r:=by rw [if_pos rfl] at H;exact H
        clear H
        have H:=H1
        clear H1
        exact absurd H (by simp)
       ·replace c41:=Bool.eq_false_iff.mpr c41
        subst c41
        have H1:(if t863=7 then (if 0<(t866.length:Int) then ((impl_OpenLayout.f kj30 ((rd_TDoc t866 0).f0) ((rd_TDoc t866 0).f1) ((rd_TDoc t866 0).f2) ((rd_TDoc t866 0).f3)).bind fun bt885=>(if 1<(t866.length:Int) then ((impl_OpenLayout.f kj30 ((rd_TDoc t866 1).f0) ((rd_TDoc t866 1).f1) ((rd_TDoc t866 1).f2) ((rd_TDoc t866 1).f3)).bind fun bt890=>((impl_CatLayouts.f kj30 bt885.1 bt890.1).bind fun bt894=>(if bt894.2=true then ((impl_LayoutSame.f kj30 bt894.1 t870).bind fun t898=>(some t898)) else (none)))) else (none))) else (none)) else (some true))=some r:=by rw [if_neg (show ¬ (false=true) by decide)] at H;exact H
        clear H
        have H:=H1
        clear H1
        by_cases c42:t863=7
        ·rw [if_pos c42] at H
         have c42b0:(t863 == 7)=true:=beq_iff_eq.mpr c42
         have c42b1:(t863 != 7)=false:=bne_eq_false_iff_eq.mpr c42
         clear c42
         by_cases c43:0<(t866.length:Int)
         ·rw [if_pos c43] at H
          have c43b0:decide (0<(t866.length:Int))=true:=decide_eq_true c43
          have c43b1:decide (0<t866.length)=true:=decide_eq_true (by omega)
          clear c43
          replace H:=Option.bind_eq_some_iff.mp H
          obtain ⟨⟨t885,t888⟩,A440,H⟩:=H
          replace H:(if 1<(t866.length:Int) then ((impl_OpenLayout.f kj30 ((rd_TDoc t866 1).f0) ((rd_TDoc t866 1).f1) ((rd_TDoc t866 1).f2) ((rd_TDoc t866 1).f3)).bind fun bt890=>((impl_CatLayouts.f kj30 t885 bt890.1).bind fun bt894=>(if bt894.2=true then ((impl_LayoutSame.f kj30 bt894.1 t870).bind fun t898=>(some t898)) else (none)))) else (none))=some r:=H
          have A44:=Aside0.mk A440
          clear A440
          by_cases c45:1<(t866.length:Int)
          ·rw [if_pos c45] at H
           have c45b0:decide (1<(t866.length:Int))=true:=decide_eq_true c45
           have c45b1:decide (1<t866.length)=true:=decide_eq_true (by omega)
           clear c45
           replace H:=Option.bind_eq_some_iff.mp H
           obtain ⟨⟨t890,t893⟩,A460,H⟩:=H
           replace H:((impl_CatLayouts.f kj30 t885 t890).bind fun bt894=>(if bt894.2=true then ((impl_LayoutSame.f kj30 bt894.1 t870).bind fun t898=>(some t898)) else (none)))=some r:=H
           have A46:=Aside0.mk A460
           clear A460
           replace H:=Option.bind_eq_some_iff.mp H
           obtain ⟨⟨t894,t895⟩,A470,H⟩:=H
           replace H:(if t895=true then ((impl_LayoutSame.f kj30 t894 t870).bind fun t898=>(some t898)) else (none))=some r:=H
           have A47:=Aside0.mk A470
           clear A470
           by_cases c48:t895=true
           ·subst c48
            have H1:((impl_LayoutSame.f kj30 t894 t870).bind fun t898=>(some t898))=some r:=by rw [if_pos rfl] at H;exact H
            clear H
            have H:=H1
            clear H1
            replace H:=Option.bind_eq_some_iff.mp H
            obtain ⟨t898,A490,H⟩:=H
            replace H:(some t898)=some r:=H
            have A49:=Aside0.mk A490
            clear A490
            obtain rfl:=Option.some.inj H
            have hcz50_0:wc.cell? ⟨gb869,0,none⟩=some (.int .i64 t863):=(blk_cell BK869.out 0).trans rfl
            have hcz50_1:wc.cell? ⟨gb869,1,none⟩=some (.int .i64 t864):=(blk_cell BK869.out 1).trans rfl
            have hcz50_2:wc.cell? ⟨gb869,2,none⟩=some (.string t865):=(blk_cell BK869.out 2).trans rfl
            have hcz50_3:wc.cell? ⟨gb869,3,none⟩=some (.slice Ao10 t866.length co10):=(blk_cell BK869.out 3).trans rfl
            have hfz50_0:=blk_frozen BK869.out 0
            have hfz50_1:=blk_frozen BK869.out 1
            have hfz50_2:=blk_frozen BK869.out 2
            have hfz50_3:=blk_frozen BK869.out 3
            have p884:0≤(0:Int):=(by omega)
            have q884:0<(t866.length:Int):=of_decide_eq_true (by first|(with_reducible assumption)|assumption)
            obtain ⟨ad884,A884_3,c884_3,e884,hx884_0,hx884_1,hx884_2,hx884_3,hl884_3,hi884_3⟩:=at_TDoc (Kd.N_reads' HO_870003.out).2.2 0 p884 q884
            cases e884
            obtain ⟨ce884,hce884,hMe884,hcc884⟩:=Kd.N_get HO_870003.out zDoc 0 p884 (by first|exact q884|exact of_decide_eq_true (by first|(with_reducible assumption)|assumption)|(have e_:=(Kd.N_reads' HO_870003.out).1;omega))
            obtain ⟨ua884_3,uc884_3,rfl,ul884_3,ge884_3⟩:=k39_openF hMe884
            have hv884_3:=hcc884 3 _ rfl
            rw [add_field _ _ 3 (by omega)] at hv884_3
            replace hv884_3:=Option.some.inj (hv884_3.symm.trans hx884_3)
            injection hv884_3 with hva_ hvn_ hvc_
            rw [hva_] at ge884_3
            rw [hvc_] at ul884_3
            have HL884_3:=Aside0.mk (show Kd.V k39 39 _ w.heap.size _ _ ((rd_TDoc t866 0).f3) from Kd.V_mk ul884_3 ge884_3)
            clear hva_ hvn_ hvc_ ge884_3 ul884_3
            clear hcc884 hce884
            have qi884:(0<t866.length)=True:=eq_true (by omega)
            (try rw [show ((0:Int)).toNat=0 from rfl] at hx884_0)
            (try rw [show 0 * 4=0 from rfl] at hx884_0)
            (try rw [Addr.add_zero'] at hx884_0)
            (try rw [show ((0:Int)).toNat=0 from rfl] at hx884_1)
            (try rw [show 0 * 4=0 from rfl] at hx884_1)
            (try rw [Addr.add_zero'] at hx884_1)
            (try rw [show ((0:Int)).toNat=0 from rfl] at hx884_2)
            (try rw [show 0 * 4=0 from rfl] at hx884_2)
            (try rw [Addr.add_zero'] at hx884_2)
            (try rw [show ((0:Int)).toNat=0 from rfl] at hx884_3)
            (try rw [show 0 * 4=0 from rfl] at hx884_3)
            (try rw [Addr.add_zero'] at hx884_3)
            have HR884_3:=Aside0.mk hi884_3
            have HC884_3:=Aside0.mk hl884_3
            clear hi884_3 hl884_3
            replace p884:=eq_true p884
            replace q884:=eq_true q884
            go_wp2_with (first|((with_reducible refine gate_callee (f:=24) rfl ?_);refine goesL_ (some 77) rfl rfl Try.func24 (by kernel_rfl) rfl #[.agg #[.int .i64 ((rd_TDoc t866 0).f0),.int .i64 ((rd_TDoc t866 0).f1),.string ((rd_TDoc t866 0).f2),.slice A884_3 ((rd_TDoc t866 0).f3).length c884_3]] rfl (by (try simp only [List.map_toArray,List.map_cons,List.map_nil]);first|done|rfl|(simp only [List.length_drop,List.length_take];rfl)) ?_;(with_reducible refine (impl_OpenLayout.calls kj30 ((rd_TDoc t866 0).f0) ((rd_TDoc t866 0).f1) ((rd_TDoc t866 0).f2) _ _ ((rd_TDoc t866 0).f3) t885 t888 _ ?side1 ?side2 A44.out).mono ?_);(case side1=>exact gC (by repeat (first|(with_reducible exact HR884_3.out)|(with_reducible refine Kd.C_alloc ?_ _)|(with_reducible refine Kd.C_drewN ?_ _)|(with_reducible refine Kd.C_drew ?_)|exact HR884_3.out)));(case side2=>exact HC884_3.out);rintro e w51 ⟨v886,rfl,ho0,hb⟩;refine ⟨_,rfl,?_⟩;have n0_:=Aside0.mk (Kd.R_elder' (gR HO_4) (Kd.R_base ho0) hb);have n1_:=Aside0.mk (Kd.N_elder' (gN HO_870003) (Kd.R_base ho0) hb);have n2_:=Aside0.mk (Kd.V_elder' (gV HL884_3) (Kd.R_base ho0) hb);have n3_:=Aside0.mk (Kd.R_lower (Kd.R_new' ho0 (Kd.R_lt (gR HO_4))) (below_size (by repeat (first|exact gB HB|refine below_set ?_ GE869.out))));have n4_:=Aside0.mk (blk_below (g:=gb869) (o:=.cells #[.int .i64 t863,.int .i64 t864,.string t865,.slice (some ad884) t866.length co10] 39 (0,0)) (gK BK869) hb);have n5_:=Aside0.mk (Kd.C_below (by repeat (first|(with_reducible exact HR884_3.out)|(with_reducible refine Kd.C_alloc ?_ _)|(with_reducible refine Kd.C_drewN ?_ _)|(with_reducible refine Kd.C_drew ?_)|exact HR884_3.out)) hb);have n6_:=Aside0.mk (below_step (by repeat (first|exact gB HB|refine below_set ?_ GE869.out)) hb);clear HO_4;clear HO_870003;clear HL884_3;clear BK869;clear HR884_3;clear HB;have HO_4:=n0_;have HO_870003:=n1_;have HL884_3:=n2_;have HO887:=n3_;have BK869:=n4_;have HR884_3:=n5_;have HB:=n6_;clear n0_ n1_ n2_ n3_ n4_ n5_ n6_;(try clear hb);(try clear hb2);(try clear hk);(try clear hi);(try clear ho0);have hcz52_0:w51.cell? ⟨gb869,0,none⟩=some (.int .i64 t863):=(blk_cell BK869.out 0).trans rfl;have hcz52_1:w51.cell? ⟨gb869,1,none⟩=some (.int .i64 t864):=(blk_cell BK869.out 1).trans rfl;have hcz52_2:w51.cell? ⟨gb869,2,none⟩=some (.string t865):=(blk_cell BK869.out 2).trans rfl;have hcz52_3:w51.cell? ⟨gb869,3,none⟩=some (.slice (some ad884) t866.length co10):=(blk_cell BK869.out 3).trans rfl;have hfz52_0:=blk_frozen BK869.out 0;have hfz52_1:=blk_frozen BK869.out 1;have hfz52_2:=blk_frozen BK869.out 2;have hfz52_3:=blk_frozen BK869.out 3;have p889:0≤(1:Int):=(by omega);have q889:1<(t866.length:Int):=of_decide_eq_true (by first|(with_reducible assumption)|assumption);obtain ⟨ad889,A889_3,c889_3,e889,hx889_0,hx889_1,hx889_2,hx889_3,hl889_3,hi889_3⟩:=at_TDoc (Kd.N_reads' HO_870003.out).2.2 1 p889 q889;obtain rfl:ad884=ad889:=(by injection e889);obtain ⟨ce889,hce889,hMe889,hcc889⟩:=Kd.N_get HO_870003.out zDoc 1 p889 (by first|exact q889|exact of_decide_eq_true (by first|(with_reducible assumption)|assumption)|(have e_:=(Kd.N_reads' HO_870003.out).1;omega));obtain ⟨ua889_3,uc889_3,rfl,ul889_3,ge889_3⟩:=k39_openF hMe889;have hv889_3:=hcc889 3 _ rfl;rw [add_field _ _ 3 (by omega)] at hv889_3;replace hv889_3:=Option.some.inj (hv889_3.symm.trans hx889_3);injection hv889_3 with hva_ hvn_ hvc_;rw [hva_] at ge889_3;rw [hvc_] at ul889_3;have HL889_3:=Aside0.mk (show Kd.V k39 39 _ w.heap.size _ _ ((rd_TDoc t866 1).f3) from Kd.V_mk ul889_3 ge889_3);clear hva_ hvn_ hvc_ ge889_3 ul889_3;clear hcc889 hce889;(try simp only [show (1:Int).toNat=1 from rfl,Nat.reduceMul,Nat.reduceEqDiff,Go.Addr.add,↓reduceIte] at hx889_0);(try simp only [show (1:Int).toNat=1 from rfl,Nat.reduceMul,Nat.reduceEqDiff,Go.Addr.add,↓reduceIte] at hx889_1);(try simp only [show (1:Int).toNat=1 from rfl,Nat.reduceMul,Nat.reduceEqDiff,Go.Addr.add,↓reduceIte] at hx889_2);(try simp only [show (1:Int).toNat=1 from rfl,Nat.reduceMul,Nat.reduceEqDiff,Go.Addr.add,↓reduceIte] at hx889_3);have qi889:(1<t866.length)=True:=eq_true (by omega);(try rw [show ((1:Int)).toNat=1 from rfl] at hx889_0);(try rw [show 1 * 4=4 from rfl] at hx889_0);(try rw [show ((1:Int)).toNat=1 from rfl] at hx889_1);(try rw [show 1 * 4=4 from rfl] at hx889_1);(try rw [show ((1:Int)).toNat=1 from rfl] at hx889_2);(try rw [show 1 * 4=4 from rfl] at hx889_2);(try rw [show ((1:Int)).toNat=1 from rfl] at hx889_3);(try rw [show 1 * 4=4 from rfl] at hx889_3);have HR889_3:=Aside0.mk hi889_3;have HC889_3:=Aside0.mk hl889_3;clear hi889_3 hl889_3;replace p889:=eq_true p889;replace q889:=eq_true q889)|((with_reducible refine gate_callee (f:=24) rfl ?_);refine goesL_ (some 85) rfl rfl Try.func24 (by kernel_rfl) rfl #[.agg #[.int .i64 ((rd_TDoc t866 1).f0),.int .i64 ((rd_TDoc t866 1).f1),.string ((rd_TDoc t866 1).f2),.slice A889_3 ((rd_TDoc t866 1).f3).length c889_3]] rfl (by (try simp only [List.map_toArray,List.map_cons,List.map_nil]);first|done|rfl|(simp only [List.length_drop,List.length_take];rfl)) ?_;(with_reducible refine (impl_OpenLayout.calls kj30 ((rd_TDoc t866 1).f0) ((rd_TDoc t866 1).f1) ((rd_TDoc t866 1).f2) _ _ ((rd_TDoc t866 1).f3) t890 t893 _ ?side1 ?side2 A46.out).mono ?_);(case side1=>exact gC (by repeat (first|(with_reducible exact HR889_3.out)|(with_reducible refine Kd.C_alloc ?_ _)|(with_reducible refine Kd.C_drewN ?_ _)|(with_reducible refine Kd.C_drew ?_)|exact HR889_3.out)));(case side2=>exact HC889_3.out);rintro e w53 ⟨v891,rfl,ho0,hb⟩;refine ⟨_,rfl,?_⟩;have n0_:=Aside0.mk (Kd.R_elder' (gR HO_4) (Kd.R_base ho0) hb);have n1_:=Aside0.mk (Kd.N_elder' (gN HO_870003) (Kd.R_base ho0) hb);have n2_:=Aside0.mk (Kd.V_elder' (gV HL884_3) (Kd.R_base ho0) hb);have n3_:=Aside0.mk (Kd.R_elder' (gR HO887) (Kd.R_base ho0) hb);have n4_:=Aside0.mk (Kd.V_elder' (gV HL889_3) (Kd.R_base ho0) hb);have n5_:=Aside0.mk (Kd.R_lower (Kd.R_new' (Kd.R_new' ho0 (Kd.R_lt (gR HO_4))) (Kd.R_lt (gR HO887))) (below_size (by repeat (first|exact gB HB|refine below_set ?_ GE869.out))));have n6_:=Aside0.mk (blk_below (g:=gb869) (o:=.cells #[.int .i64 t863,.int .i64 t864,.string t865,.slice (some ad884) t866.length co10] 39 (0,0)) (gK BK869) hb);have n7_:=Aside0.mk (Kd.C_below (by repeat (first|(with_reducible exact HR884_3.out)|(with_reducible refine Kd.C_alloc ?_ _)|(with_reducible refine Kd.C_drewN ?_ _)|(with_reducible refine Kd.C_drew ?_)|exact HR884_3.out)) hb);have n8_:=Aside0.mk (Kd.C_below (by repeat (first|(with_reducible exact HR889_3.out)|(with_reducible refine Kd.C_alloc ?_ _)|(with_reducible refine Kd.C_drewN ?_ _)|(with_reducible refine Kd.C_drew ?_)|exact HR889_3.out)) hb);have n9_:=Aside0.mk (below_step (by repeat (first|exact gB HB|refine below_set ?_ GE869.out)) hb);clear HO_4;clear HO_870003;clear HL884_3;clear HO887;clear HL889_3;clear BK869;clear HR884_3;clear HR889_3;clear HB;have HO_4:=n0_;have HO_870003:=n1_;have HL884_3:=n2_;have HO887:=n3_;have HL889_3:=n4_;have HO892:=n5_;have BK869:=n6_;have HR884_3:=n7_;have HR889_3:=n8_;have HB:=n9_;clear n0_ n1_ n2_ n3_ n4_ n5_ n6_ n7_ n8_ n9_;(try clear hb);(try clear hb2);(try clear hk);(try clear hi);(try clear ho0);obtain ⟨Ao54,co54,eo54⟩:=Kd.R_slice HO887.out;subst eo54;obtain ⟨Ao55,co55,eo55⟩:=Kd.R_slice HO892.out;subst eo55)|((with_reducible refine gate_callee (f:=16) rfl ?_);refine goesL_ (some 91) rfl rfl Try.func16 (by kernel_rfl) rfl #[.slice Ao54 t885.length co54,.slice Ao55 t890.length co55] rfl (by (try simp only [List.map_toArray,List.map_cons,List.map_nil]);first|done|rfl|(simp only [List.length_drop,List.length_take];rfl)) ?_;(with_reducible refine (impl_CatLayouts.calls kj30 _ _ t885 _ _ t890 t894 true _ ?side1 ?side2 ?side3 ?side4 A47.out).mono ?_);(case side1=>exact gC ((Kd.R_reads' HO887.out).2.2));(case side2=>exact (Kd.R_reads' HO887.out).2.1);(case side3=>exact gC ((Kd.R_reads' HO892.out).2.2));(case side4=>exact (Kd.R_reads' HO892.out).2.1);rintro e w56 ⟨v896,rfl,ho0,hb⟩;refine ⟨_,rfl,?_⟩;have n0_:=Aside0.mk (Kd.R_elder' (gR HO_4) (Kd.R_base ho0) hb);have n1_:=Aside0.mk (Kd.N_elder' (gN HO_870003) (Kd.R_base ho0) hb);have n2_:=Aside0.mk (Kd.V_elder' (gV HL884_3) (Kd.R_base ho0) hb);have n3_:=Aside0.mk (Kd.R_elder' (gR HO887) (Kd.R_base ho0) hb);have n4_:=Aside0.mk (Kd.V_elder' (gV HL889_3) (Kd.R_base ho0) hb);have n5_:=Aside0.mk (Kd.R_elder' (gR HO892) (Kd.R_base ho0) hb);have n6_:=Aside0.mk (Kd.R_lower (Kd.R_new' (Kd.R_new' (Kd.R_new' ho0 (Kd.R_lt (gR HO_4))) (Kd.R_lt (gR HO887))) (Kd.R_lt (gR HO892))) (below_size (by repeat (first|exact gB HB|refine below_set ?_ GE869.out))));have n7_:=Aside0.mk (blk_below (g:=gb869) (o:=.cells #[.int .i64 t863,.int .i64 t864,.string t865,.slice (some ad884) t866.length co10] 39 (0,0)) (gK BK869) hb);have n8_:=Aside0.mk (Kd.C_below (by repeat (first|(with_reducible exact HR884_3.out)|(with_reducible refine Kd.C_alloc ?_ _)|(with_reducible refine Kd.C_drewN ?_ _)|(with_reducible refine Kd.C_drew ?_)|exact HR884_3.out)) hb);have n9_:=Aside0.mk (Kd.C_below (by repeat (first|(with_reducible exact HR889_3.out)|(with_reducible refine Kd.C_alloc ?_ _)|(with_reducible refine Kd.C_drewN ?_ _)|(with_reducible refine Kd.C_drew ?_)|exact HR889_3.out)) hb);have n10_:=Aside0.mk (below_step (by repeat (first|exact gB HB|refine below_set ?_ GE869.out)) hb);clear HO_4;clear HO_870003;clear HL884_3;clear HO887;clear HL889_3;clear HO892;clear BK869;clear HR884_3;clear HR889_3;clear HB;have HO_4:=n0_;have HO_870003:=n1_;have HL884_3:=n2_;have HO887:=n3_;have HL889_3:=n4_;have HO892:=n5_;have HO897:=n6_;have BK869:=n7_;have HR884_3:=n8_;have HR889_3:=n9_;have HB:=n10_;clear n0_ n1_ n2_ n3_ n4_ n5_ n6_ n7_ n8_ n9_ n10_;(try clear hb);(try clear hb2);(try clear hk);(try clear hi);(try clear ho0);obtain ⟨Ao57,co57,eo57⟩:=Kd.R_slice HO897.out;subst eo57;obtain ⟨Ao58,co58,eo58⟩:=Kd.R_slice HO_4.out;subst eo58)|(go_at_call 18;(with_reducible refine (impl_LayoutSame.calls kj30 _ _ t894 _ _ t870 t898 _ ?side1 ?side2 ?side3 ?side4 A49.out).mono ?_);(case side1=>exact gC ((Kd.R_reads' HO897.out).2.2));(case side2=>exact (Kd.R_reads' HO897.out).2.1);(case side3=>exact gC ((Kd.R_reads' HO_4.out).2.2));(case side4=>exact (Kd.R_reads' HO_4.out).2.1);rintro e w' ⟨rfl,⟨nd,rfl⟩⟩))
            go_ret
            exact ⟨by first|rfl|(simp [errW_none,errW_some] <;> rfl)|(simp [*,errW_none,errW_some] <;> rfl),by repeat (first|exact gB HB|refine below_set ?_ GE869.out)⟩
           ·replace c48:=Bool.eq_false_iff.mpr c48
            subst c48
            have H1:(none)=some r:=by rw [if_neg (show ¬ (false=true) by decide)] at H;exact H
            clear H
            have H:=H1
            clear H1
            exact absurd H (by simp)
          ·rw [if_neg c45] at H
           exact absurd H (by simp)
         ·rw [if_neg c43] at H
          exact absurd H (by simp)
        ·rw [if_neg c42] at H
         have c42b0:(t863 == 7)=false:=beq_eq_false_iff_ne.mpr c42
         have c42b1:(t863 != 7)=true:=bne_iff_ne.mpr c42
         obtain rfl:=Option.some.inj H
         have hcz59_0:wc.cell? ⟨gb869,0,none⟩=some (.int .i64 t863):=(blk_cell BK869.out 0).trans rfl
         have hcz59_1:wc.cell? ⟨gb869,1,none⟩=some (.int .i64 t864):=(blk_cell BK869.out 1).trans rfl
         have hcz59_2:wc.cell? ⟨gb869,2,none⟩=some (.string t865):=(blk_cell BK869.out 2).trans rfl
         have hcz59_3:wc.cell? ⟨gb869,3,none⟩=some (.slice Ao10 t866.length co10):=(blk_cell BK869.out 3).trans rfl
         have hfz59_0:=blk_frozen BK869.out 0
         have hfz59_1:=blk_frozen BK869.out 1
         have hfz59_2:=blk_frozen BK869.out 2
         have hfz59_3:=blk_frozen BK869.out 3
         go_wp2
         go_ret
         exact ⟨by first|rfl|(simp [errW_none,errW_some] <;> rfl)|(simp [*,errW_none,errW_some] <;> rfl),by repeat (first|exact gB HB|refine below_set ?_ GE869.out)⟩
def laws_FnOpenLayout.Pure:Prop:=∀ (l0:List Int),l0.length≤maxLen→l0.length * 1≤140737488351232→(∀ x∈l0,(Lit.int .u8 x).wf=true)→∃ k,laws_FnOpenLayout.f k l0=some true
theorem laws_FnOpenLayout.walk (P:laws_FnOpenLayout.Pure) (a0:Option Addr) (len0 cap0:Nat) (z0:List Int) (w:World) (w0:(a0=none∧len0=0∧cap0=0∧z0=[]) ∨ ∃ x,a0=some x∧len0≤cap0∧cap0≤maxLen∧z0.length=cap0∧(∀ i,i<z0.length→w.cell? (x.add i)=some (.int .u8 (z0.getD i 0)))∧∀ n∈z0,(Lit.int .u8 n).wf=true) (y0:len0 * 1≤140737488351232) :
  Calls Try.prog 10 #[.slice a0 len0 cap0] w fun e w'=>e=.returned (.bool true)∧Below w.heap.size w w':=by
 obtain ⟨l0,rfl,hr0,hm0,hw0,hc0⟩:=ReadsInt.ofRowC w0
 obtain ⟨k,h⟩:=P l0 hm0 y0 hw0
 refine (laws_FnOpenLayout.calls k _ _ l0 true w (Kd.C_of_reads (d:=(0:Int)) (h1:=fun _=>rfl) hr0) hc0 h).mono ?_
 rintro e w' ⟨rfl,hd⟩
 exact ⟨rfl,hd⟩
end Go.Proofs.Ytdhdfmmefghijab.P
namespace Go.Proofs.Ytdhdfmmefghijab.Pure
open Go.RowKit Go.Proofs.Ytdhdfmmefghijab.P Go.Proofs.YtdhdfmmefghijabW.PrintWords Go.Proofs.YtdhdfmmefghijabW.PrintLast Go.Proofs.YtdhdfmmefghijabW.PrintMore
set_option linter.unusedVariables false
set_option linter.unusedSimpArgs false
theorem w64 {i:Int} (h0:-9223372036854775808≤i) (h:i≤9223372036854775807):wrap64 i=i:=by unfold wrap64;omega
theorem Ev.iff {α:Type} {c:Prop} [Decidable c] {f g:Nat→Option α} {r:α} (h1:c→Ev f r) (h2:¬ c→Ev g r):Ev (fun k=>if c then f k else g k) r:=by
  by_cases h:c
  · simp only [if_pos h];exact h1 h
  · simp only [if_neg h];exact h2 h
theorem SDoc.ind {P:SDoc→Prop} (h:∀ o n t ks,(∀ k,k ∈ ks→P k)→P ⟨o,n,t,ks⟩):∀ d,P d
  | ⟨o,n,t,ks⟩=>h o n t ks (fun k hk=>SDoc.ind h k)
termination_by d=>SizeOf.sizeOf d
decreasing_by
  have:=List.sizeOf_lt_of_mem hk
  simp
  omega
mutual
def dsz:SDoc→Nat
  | ⟨_,_,_,ks⟩=>1+dszL ks
def dszL:List SDoc→Nat
  | []=>0
  | k :: ks=>dsz k+dszL ks
end
theorem dszL_len:∀ (a:List SDoc),a.length≤dszL a
  | []=>by simp [dszL]
  | ⟨_,_,_,ks⟩ :: a=>by have:=dszL_len a;simp [dszL,dsz];omega
theorem dszL_mem:∀ {a:List SDoc} {d:SDoc},d ∈ a→dsz d≤dszL a
  | k :: a,d,h=>by
    rcases List.mem_cons.1 h with rfl | h
    · simp [dszL]
    · have:=dszL_mem h;simp [dszL];omega
theorem dsz_pos (d:SDoc):1≤dsz d:=by obtain ⟨_,_,_,ks⟩:=d;simp [dsz]
theorem rdD (a b:List SDoc) (d:SDoc):rd_TDoc (a ++ d :: b) (a.length:Int)=d:=by simp [rd_TDoc]
theorem SDoc_eta (d:SDoc):(⟨d.f0,d.f1,d.f2,d.f3⟩:SDoc)=d:=by cases d;rfl
theorem dec_eq {p q:Prop} [Decidable p] [Decidable q] (h:p ↔ q):decide p=decide q:=by
  by_cases hq:q
  · rw [decide_eq_true hq,decide_eq_true (h.2 hq)]
  · rw [decide_eq_false hq,decide_eq_false (fun hp=>hq (h.1 hp))]
end Go.Proofs.Ytdhdfmmefghijab.Pure
namespace Go.Proofs.Ytdhdfmmefghijab.Pure
open Go.RowKit Go.Proofs.Ytdhdfmmefghijab.P Go.Proofs.YtdhdfmmefghijabW.PrintWords Go.Proofs.YtdhdfmmefghijabW.PrintLast Go.Proofs.YtdhdfmmefghijabW.PrintMore
set_option linter.unusedVariables false
set_option linter.unusedSimpArgs false
end Go.Proofs.Ytdhdfmmefghijab.Pure
namespace Go.Proofs.Ytdhdfmmefghijab.Pure
open Go.RowKit Go.Proofs.Ytdhdfmmefghijab.P Go.Proofs.YtdhdfmmefghijabW.PrintWords Go.Proofs.YtdhdfmmefghijabW.PrintLast Go.Proofs.YtdhdfmmefghijabW.PrintMore
set_option linter.unusedVariables false
set_option linter.unusedSimpArgs false
theorem rdR (a b:List SRow) (d:SRow):rd_TRow (a ++ d :: b) (a.length:Int)=d:=by simp [rd_TRow]
def bsz:List SRow→Nat
  | []=>0
  | r :: l=>r.f1.size+bsz l
theorem bsz_mem:∀ {l:List SRow} {r:SRow},r ∈ l→r.f1.size≤bsz l
  | a :: l,r,h=>by
    rcases List.mem_cons.1 h with rfl | h
    · simp [bsz]
    · have:=bsz_mem h;simp [bsz];omega
end Go.Proofs.Ytdhdfmmefghijab.Pure
namespace Go.Proofs.Ytdhdfmmefghijab.P
open Go.RowKit Go.Proofs.YtdhdfmmefghijabW.PrintWords Go.Proofs.YtdhdfmmefghijabW.PrintLast Go.Proofs.YtdhdfmmefghijabW.PrintMore
attribute [local go_sem] max2_int min2_int max_two min_two max_three min_three max_four min_four
set_option linter.unusedVariables false
set_option linter.unusedSimpArgs false
attribute [local go_sem high] eqA30
def spec_LayoutSame.l0:Nat→List (SRow)→List (SRow)→Int→Option (Bool)
 | 0,_,_,_=>none
 | k+1,x0,x1,x5=>if x5<(x0.length:Int) then (if 0≤x5 then (if x5<(x1.length:Int) then (if (!(((rd_TRow x0 x5).f0) == ((rd_TRow x1 x5).f0)) || (!((((rd_TRow x0 x5).f1).toList) == (((rd_TRow x1 x5).f1).toList))))=true then (some false) else (spec_LayoutSame.l0 k x0 x1 (wrap64 (x5+1)))) else (none)) else (none)) else (some true)
def spec_LayoutSame.f (k:Nat) (l0:List (SRow)) (l1:List (SRow)):Option (Bool):=if (l0.length:Int)=(l1.length:Int) then (spec_LayoutSame.l0 k l0 l1 0) else (some false)
end Go.Proofs.Ytdhdfmmefghijab.P
namespace Go.Proofs.Ytdhdfmmefghijab.Pure
open Go.RowKit Go.Proofs.Ytdhdfmmefghijab.P Go.Proofs.YtdhdfmmefghijabW.PrintWords Go.Proofs.YtdhdfmmefghijabW.PrintLast Go.Proofs.YtdhdfmmefghijabW.PrintMore
set_option linter.unusedVariables false
set_option linter.unusedSimpArgs false
def rowEq (r s:SRow):Bool:=(r.f0 == s.f0) && (r.f1.toList == s.f1.toList)
def rsame:List SRow→List SRow→Bool
  | [],_=>true
  | _ :: _,[]=>true
  | r :: a,s :: b=>rowEq r s && rsame a b
def laySame (a b:List SRow):Bool:=decide (a.length=b.length) && rsame a b
theorem implLay_loop (suf:List SRow):∀ (pre pre' suf':List SRow),pre.length=pre'.length→suf.length=suf'.length→pre.length+suf.length≤4611686018427387904 →
    Ev (fun k=>slices_Equal_Llimpl_Row.l0 k (pre ++ suf) (pre' ++ suf') ((pre ++ suf).length:Int) (pre.length:Int)) (rsame suf suf'):=by
  induction suf with
  | nil =>
    intro pre pre' suf' hp hs hm
    refine Ev.step (fun k=>by rw [slices_Equal_Llimpl_Row.l0]) ?_
    simp only [List.append_nil,Int.lt_irrefl,if_false,rsame]
    exact Ev.now _
  | cons y suf ih =>
    intro pre pre' suf' hp hs hm
    cases suf' with
    | nil=>simp at hs
    | cons e suf' =>
      simp only [List.length_cons] at hm hs
      refine Ev.step (fun k=>by rw [slices_Equal_Llimpl_Row.l0]) ?_
      have c1:(pre.length:Int) < ((pre ++ y :: suf).length:Int):=by simp;omega
      have c2:(0:Int)≤(pre.length:Int):=by omega
      have c3:(pre.length:Int) < ((pre' ++ e :: suf').length:Int):=by simp;omega
      have r':rd_TRow (pre' ++ e :: suf') (pre.length:Int)=e:=by rw [hp];exact rdR pre' suf' e
      have e0:(!(y.f0 == e.f0) || !(y.f1.toList == e.f1.toList))=!rowEq y e:=by rw [rowEq,Bool.not_and]
      simp only [if_pos c1,if_pos c2,if_pos c3,rdR,r',e0]
      rw [w64 (by omega) (by omega),rsame]
      have:=ih (pre ++ [y]) (pre' ++ [e]) suf' (by simp;omega) (by omega) (by simp;omega)
      rw [List.append_assoc,List.append_assoc,show ((pre ++ [y]).length:Int)=(pre.length:Int)+1 by simp] at this
      cases rowEq y e
      · exact Ev.now _
      · simpa using this
theorem implLay_ev (a b:List SRow) (h:a.length≤4611686018427387904):Ev (fun k=>impl_LayoutSame.f k a b) (laySame a b):=by
  refine Ev.congr (fun k=>by rw [impl_LayoutSame.f]) ?_
  refine Ev.bind (r:=laySame a b) ?_ (Ev.now _)
  refine Ev.congr (fun k=>by rw [slices_Equal_Llimpl_Row.f]) ?_
  refine Ev.iff (fun hc=>?_) (fun hc=>?_)
  · have hc:a.length=b.length:=by omega
    have:=implLay_loop a [] [] b rfl hc (by simpa using h)
    simpa [laySame,hc] using this
  · have hc:¬ a.length=b.length:=by omega
    rw [laySame,decide_eq_false hc]
    exact Ev.now _
end Go.Proofs.Ytdhdfmmefghijab.Pure
namespace Go.Proofs.Ytdhdfmmefghijab.P
open Go.RowKit Go.Proofs.YtdhdfmmefghijabW.PrintWords Go.Proofs.YtdhdfmmefghijabW.PrintLast Go.Proofs.YtdhdfmmefghijabW.PrintMore
attribute [local go_sem] max2_int min2_int max_two min_two max_three min_three max_four min_four
set_option linter.unusedVariables false
set_option linter.unusedSimpArgs false
mutual
def spec_l2Text.l0:Nat→ByteArray→Int→Option (Bool)
 | 0,_,_=>none
 | k+1,x0,x3=>if x3<(x0.size:Int) then (spec_l2Text.j1 k x0 x3 (decide (x3<2000))) else (spec_l2Text.j1 k x0 x3 false)
def spec_l2Text.j1:Nat→ByteArray→Int→Bool→Option (Bool)
 | 0,_,_,_=>none
 | k+1,x0,x3,x11=>if x11=true then (if 0≤x3 then (if x3<(x0.size:Int) then (if (bt x0 x3)=32 then (spec_l2Text.l0 k x0 (wrap64 (x3+1))) else (if x3≤(wrap64 (x3+1)) then (if (wrap64 (x3+1))≤(x0.size:Int) then ((spec_TextValid.f k (x0.extract (x3:Int).toNat ((wrap64 (x3+1)):Int).toNat)).bind fun t456=>(if t456=true then (spec_l2Text.l0 k x0 (wrap64 (x3+1))) else (some false))) else (none)) else (none))) else (none)) else (none)) else (some (decide ((x0.size:Int)<2000)))
end
def spec_l2Text.f (k:Nat) (a0:ByteArray):Option (Bool):=spec_l2Text.l0 k a0 0
end Go.Proofs.Ytdhdfmmefghijab.P
namespace Go.Proofs.Ytdhdfmmefghijab.P
open Go.RowKit Go.Proofs.YtdhdfmmefghijabW.PrintWords Go.Proofs.YtdhdfmmefghijabW.PrintLast Go.Proofs.YtdhdfmmefghijabW.PrintMore
attribute [local go_sem] max2_int min2_int max_two min_two max_three min_three max_four min_four
set_option linter.unusedVariables false
set_option linter.unusedSimpArgs false
mutual
def spec_LayoutValid.l0:Nat→List (SRow)→Int→Option (Bool)
 | 0,_,_=>none
 | k+1,x0,x3=>if x3<(x0.length:Int) then (spec_LayoutValid.j1 k x0 x3 (decide (x3≤200))) else (spec_LayoutValid.j1 k x0 x3 false)
def spec_LayoutValid.j1:Nat→List (SRow)→Int→Bool→Option (Bool)
 | 0,_,_,_=>none
 | k+1,x0,x3,x11=>if x11=true then (if 0≤x3 then (if x3<(x0.length:Int) then (if ((rd_TRow x0 x3).f0)<0 then (spec_LayoutValid.j2 k x0 x3 true) else (if ((rd_TRow x0 x3).f0)>400 then (spec_LayoutValid.j2 k x0 x3 true) else (if x3=0 then (if ((rd_TRow x0 x3).f0)=0 then ((spec_l2Text.f k ((rd_TRow x0 x3).f1)).bind fun t461=>(spec_LayoutValid.j2 k x0 x3 (!t461))) else (spec_LayoutValid.j2 k x0 x3 true)) else ((spec_l2Text.f k ((rd_TRow x0 x3).f1)).bind fun t463=>(spec_LayoutValid.j2 k x0 x3 (!t463)))))) else (none)) else (none)) else (if (x0.length:Int)>0 then (some (decide ((x0.length:Int)≤200))) else (some false))
def spec_LayoutValid.j2:Nat→List (SRow)→Int→Bool→Option (Bool)
 | 0,_,_,_=>none
 | k+1,x0,x3,x48=>if x48=true then (some false) else (spec_LayoutValid.l0 k x0 (wrap64 (x3+1)))
end
def spec_LayoutValid.f (k:Nat) (l0:List (SRow)):Option (Bool):=spec_LayoutValid.l0 k l0 0
end Go.Proofs.Ytdhdfmmefghijab.P
namespace Go.Proofs.Ytdhdfmmefghijab.Pure
open Go.RowKit Go.Proofs.Ytdhdfmmefghijab.P Go.Proofs.YtdhdfmmefghijabW.PrintWords Go.Proofs.YtdhdfmmefghijabW.PrintLast Go.Proofs.YtdhdfmmefghijabW.PrintMore
set_option linter.unusedVariables false
set_option linter.unusedSimpArgs false
theorem size_data (s:ByteArray):s.size=s.data.toList.length:=by rw [Array.length_toList];rfl
theorem bt_mid {s:ByteArray} {pre suf:List UInt8} {b:UInt8} (h:s.data.toList=pre ++ b :: suf):bt s (pre.length:Int)=(b.toNat:Int):=by
  have hl:pre.length < s.size:=by
    have:=congrArg List.length h
    rw [List.length_append,List.length_cons] at this
    rw [size_data];omega
  unfold bt
  rw [dif_pos (by simpa using hl)]
  have:s[(pre.length:Int).toNat]'(by simpa using hl)=b:=by
    show s.data[(pre.length:Int).toNat]'(by simpa using hl)=b
    rw [← Array.getElem_toList]
    simp [h]
  rw [this]
def signC (c:Int):Bool:=c == 44 || (c == 58 || (c == 61 || (c == 123 || (c == 125 || (c == 40 || (c == 41 || (c == 91 || c == 93)))))))
def letC (c:Int):Bool:=(decide (97≤c) && decide (c≤122)) || (decide (48≤c) && decide (c≤57))
def goodC (c:Int):Bool:=letC c || signC c
def goodB (b:UInt8):Bool:=goodC (b.toNat:Int)
def tv (s:ByteArray):Bool:=decide (1≤s.size) && (decide (s.size≤12) && s.data.toList.all goodB)
theorem specText_j3 {s:ByteArray} {i:Int} {l g R:Bool} (h:Ev (fun k=>spec_TextValid.l0 k s (wrap64 (i+1))) R):Ev (fun k=>spec_TextValid.j3 k s i l g) ((l || g) && R):=by
  refine Ev.step (fun k=>by rw [spec_TextValid.j3]) ?_
  cases l <;> cases g <;> simp
  · exact Ev.now _
  · exact h
  · exact h
  · exact h
theorem specText_j2 {s:ByteArray} {i c:Int} {l R:Bool} (h:Ev (fun k=>spec_TextValid.l0 k s (wrap64 (i+1))) R):Ev (fun k=>spec_TextValid.j2 k s i c l) ((l || signC c) && R):=by
  refine Ev.step (fun k=>by rw [spec_TextValid.j2]) ?_
  have h3:∀ g,Ev (fun k=>spec_TextValid.j3 k s i l g) ((l || g) && R):=fun g=>specText_j3 h
  repeat' refine Ev.iff (fun hc=>?_) (fun hc=>?_)
  · subst hc;exact h3 true
  · subst hc;exact h3 true
  · subst hc;exact h3 true
  · subst hc;exact h3 true
  · subst hc;exact h3 true
  · subst hc;exact h3 true
  · subst hc;exact h3 true
  · subst hc;exact h3 true
  · have e:signC c=(c == 93):=by rw [Bool.eq_iff_iff];simp [signC];omega
    rw [e];exact h3 _
theorem specText_l0 {s:ByteArray} (hs:s.size≤4611686018427387904):∀ (suf pre:List UInt8),s.data.toList=pre ++ suf→Ev (fun k=>spec_TextValid.l0 k s (pre.length:Int)) (suf.all goodB):=by
  intro suf
  induction suf with
  | nil =>
    intro pre h
    refine Ev.step (fun k=>by rw [spec_TextValid.l0]) ?_
    have c1:¬ ((pre.length:Int) < (s.size:Int)):=by rw [size_data,h];simp
    simp only [if_neg c1]
    exact Ev.now _
  | cons b suf ih =>
    intro pre h
    have hl:pre.length < s.size:=by rw [size_data,h];simp
    refine Ev.step (fun k=>by rw [spec_TextValid.l0]) ?_
    have c1:(pre.length:Int) < (s.size:Int):=by omega
    have c2:(0:Int)≤(pre.length:Int):=by omega
    simp only [if_pos c1,if_pos c2,bt_mid h]
    have hn:Ev (fun k=>spec_TextValid.l0 k s (wrap64 ((pre.length:Int)+1))) (suf.all goodB):=by
      rw [w64 (by omega) (by omega)]
      have:=ih (pre ++ [b]) (by rw [h];simp)
      rw [show ((pre ++ [b]).length:Int)=(pre.length:Int)+1 by simp] at this
      exact this
    have h2:∀ l,l=letC (b.toNat:Int)→Ev (fun k=>spec_TextValid.j2 k s (pre.length:Int) (b.toNat:Int) l) ((b :: suf).all goodB):=by
      intro l hl
      rw [List.all_cons,goodB,goodC,← hl]
      exact specText_j2 hn
    repeat' refine Ev.iff (fun hc=>?_) (fun hc=>?_)
    all_goals refine h2 _ ?_
    all_goals simp [letC, *]
    all_goals omega
theorem specText_ev (s:ByteArray) (hs:s.size≤4611686018427387904):Ev (fun k=>spec_TextValid.f k s) (tv s):=by
  refine Ev.congr (fun k=>by rw [spec_TextValid.f]) ?_
  have hl:=specText_l0 hs s.data.toList [] rfl
  have h0:∀ b,Ev (fun k=>spec_TextValid.j0 k s b) (!b && s.data.toList.all goodB):=by
    intro b
    refine Ev.step (fun k=>by rw [spec_TextValid.j0]) ?_
    cases b
    · simpa using hl
    · exact Ev.now _
  refine Ev.iff (fun hc=>?_) (fun hc=>?_)
  · have:=h0 true
    rwa [show (!true && s.data.toList.all goodB)=tv s from by simp [tv];omega] at this
  · have:=h0 (decide ((s.size:Int) > 12))
    rwa [show (!decide ((s.size:Int) > 12) && s.data.toList.all goodB)=tv s from by
      have e1:decide (1≤s.size)=true:=by simp;omega
      by_cases h12:s.size≤12
      · have:¬ ((s.size:Int) > 12):=by omega
        simp [tv,e1,h12,this]
      · have:(s.size:Int) > 12:=by omega
        simp [tv,h12,this]] at this
theorem sign_idx:∀ n:Nat,n < 256→(decide (Lib.indexByte [44,58,61,123,125,40,41,91,93] (UInt8.ofNat n) ≥ 0))=signC (n:Int):=by decide +kernel
theorem implText_j1 {s:ByteArray} {i:Int} {g R:Bool} (h:Ev (fun k=>impl_TextValid.l0 k s (wrap64 (i+1))) R):Ev (fun k=>impl_TextValid.j1 k s i (!g)) (g && R):=by
  refine Ev.step (fun k=>by rw [impl_TextValid.j1]) ?_
  cases g <;> simp
  · exact Ev.now _
  · exact h
theorem implText_l0 {s:ByteArray} (hs:s.size≤4611686018427387904):∀ (suf pre:List UInt8),s.data.toList=pre ++ suf→Ev (fun k=>impl_TextValid.l0 k s (pre.length:Int)) (suf.all goodB && (decide (1≤s.size) && decide (s.size≤12))):=by
  intro suf
  induction suf with
  | nil =>
    intro pre h
    refine Ev.step (fun k=>by rw [impl_TextValid.l0]) ?_
    have c1:¬ ((pre.length:Int) < (s.size:Int)):=by rw [size_data,h];simp
    simp only [if_neg c1]
    refine Ev.iff (fun hc=>?_) (fun hc=>?_)
    · rw [show (([]:List UInt8).all goodB && (decide (1≤s.size) && decide (s.size≤12)))=decide ((s.size:Int)≤12) from by
        have:1≤s.size:=by omega
        simp [this];omega]
      exact Ev.now _
    · rw [show (([]:List UInt8).all goodB && (decide (1≤s.size) && decide (s.size≤12)))=false from by
        have:¬ 1≤s.size:=by omega
        simp [this]]
      exact Ev.now _
  | cons b suf ih =>
    intro pre h
    have hl:pre.length < s.size:=by rw [size_data,h];simp
    refine Ev.step (fun k=>by rw [impl_TextValid.l0]) ?_
    have c1:(pre.length:Int) < (s.size:Int):=by omega
    have c2:(0:Int)≤(pre.length:Int):=by omega
    simp only [if_pos c1,if_pos c2,bt_mid h]
    have hn:Ev (fun k=>impl_TextValid.l0 k s (wrap64 ((pre.length:Int)+1))) (suf.all goodB && (decide (1≤s.size) && decide (s.size≤12))):=by
      rw [w64 (by omega) (by omega)]
      have:=ih (pre ++ [b]) (by rw [h];simp)
      rw [show ((pre ++ [b]).length:Int)=(pre.length:Int)+1 by simp] at this
      exact this
    have h2:∀ g,g=goodC (b.toNat:Int)→Ev (fun k=>impl_TextValid.j1 k s (pre.length:Int) (!g)) ((b :: suf).all goodB && (decide (1≤s.size) && decide (s.size≤12))):=by
      intro g hg
      rw [List.all_cons,goodB,← hg,Bool.and_assoc]
      exact implText_j1 hn
    have hb:b.toNat < 256:=b.toNat_lt
    have hi:strings_IndexByte.f (⟨#[44,58,61,123,125,40,41,91,93]⟩:ByteArray) (b.toNat:Int)=some (Lib.indexByte [44,58,61,123,125,40,41,91,93] (UInt8.ofNat b.toNat)):=by
      simp [strings_IndexByte.f]
    have hsg:=sign_idx b.toNat hb
    simp only [hi,Option.bind_some,hsg]
    repeat' refine Ev.iff (fun hc=>?_) (fun hc=>?_)
    all_goals refine h2 _ ?_
    all_goals
      have e:letC (b.toNat:Int)=true ∨ letC (b.toNat:Int)=false:=by cases letC (b.toNat:Int) <;> simp
      rcases e with e | e <;> simp [goodC,e] <;> (simp [letC] at e;omega)
theorem implText_ev (s:ByteArray) (hs:s.size≤4611686018427387904):Ev (fun k=>impl_TextValid.f k s) (tv s):=by
  refine Ev.congr (fun k=>by rw [impl_TextValid.f]) ?_
  have hl:=implText_l0 hs s.data.toList [] rfl
  rwa [show (s.data.toList.all goodB && (decide (1≤s.size) && decide (s.size≤12)))=tv s from by
    simp only [tv]
    cases s.data.toList.all goodB <;> simp] at hl
end Go.Proofs.Ytdhdfmmefghijab.Pure
namespace Go.Proofs.Ytdhdfmmefghijab.Pure
open Go.RowKit Go.Proofs.Ytdhdfmmefghijab.P Go.Proofs.YtdhdfmmefghijabW.PrintWords Go.Proofs.YtdhdfmmefghijabW.PrintLast Go.Proofs.YtdhdfmmefghijabW.PrintMore
set_option linter.unusedVariables false
set_option linter.unusedSimpArgs false
def rowB (b:UInt8):Bool:=(b == 32) || goodB b
def rowT (s:ByteArray):Bool:=s.data.toList.all rowB && decide (s.size < 2000)
theorem bt_32 {s:ByteArray} {pre suf:List UInt8} {b:UInt8} (h:s.data.toList=pre ++ b :: suf):(bt s (pre.length:Int)=32) ↔ (b == 32)=true:=by
  rw [bt_mid h,beq_iff_eq]
  constructor
  · intro h;exact UInt8.toNat_inj.1 (by show b.toNat=32;omega)
  · intro h;rw [h];rfl
theorem one_data {s:ByteArray} {pre suf:List UInt8} {b:UInt8} (h:s.data.toList=pre ++ b :: suf):(s.extract pre.length (pre.length+1)).data.toList=[b]:=by
  rw [ByteArray.data_extract,Array.toList_extract,List.extract_eq_take_drop,h]
  simp
theorem tv_one {s:ByteArray} {pre suf:List UInt8} {b:UInt8} (h:s.data.toList=pre ++ b :: suf):tv (s.extract pre.length (pre.length+1))=goodB b∧(s.extract pre.length (pre.length+1)).size=1:=by
  have e:=one_data h
  have z:(s.extract pre.length (pre.length+1)).size=1:=by rw [size_data,e];rfl
  refine ⟨?_,z⟩
  rw [tv,z,e]
  simp
theorem implRB_loop {s:ByteArray} (hs:s.size≤4611686018427387904):∀ (suf pre:List UInt8),s.data.toList=pre ++ suf→Ev (fun k=>impl_rowBytes.l0 k s (pre.length:Int)) (suf.all rowB):=by
  intro suf
  induction suf with
  | nil =>
    intro pre h
    refine Ev.step (fun k=>by rw [impl_rowBytes.l0]) ?_
    have c1:¬ ((pre.length:Int) < (s.size:Int)):=by rw [size_data,h];simp
    simp only [if_neg c1]
    exact Ev.now _
  | cons b suf ih =>
    intro pre h
    have hl:pre.length < s.size:=by rw [size_data,h];simp
    refine Ev.step (fun k=>by rw [impl_rowBytes.l0]) ?_
    have c1:(pre.length:Int) < (s.size:Int):=by omega
    have c2:(0:Int)≤(pre.length:Int):=by omega
    simp only [if_pos c1,if_pos c2]
    rw [w64 (by omega) (by omega)]
    have hn:Ev (fun k=>impl_rowBytes.l0 k s ((pre.length:Int)+1)) (suf.all rowB):=by
      have:=ih (pre ++ [b]) (by rw [h];simp)
      rw [show ((pre ++ [b]).length:Int)=(pre.length:Int)+1 by simp] at this
      exact this
    have hb:=bt_32 h
    by_cases h32:(b == 32)=true
    · simp only [if_pos (hb.2 h32)]
      simpa [rowB,h32] using hn
    · have c3:(pre.length:Int)≤(pre.length:Int)+1:=by omega
      have c4:(pre.length:Int)+1≤(s.size:Int):=by omega
      simp only [if_neg (fun h=>h32 (hb.1 h)),if_pos c3,if_pos c4]
      have e:=tv_one h
      rw [show ((pre.length:Int)+1:Int).toNat=pre.length+1 by omega,Int.toNat_natCast]
      refine Ev.bind (implText_ev _ (by omega)) ?_
      rw [e.1]
      have h32':(b == 32)=false:=by simpa using h32
      rw [List.all_cons,rowB,h32',Bool.false_or]
      cases goodB b
      · exact Ev.now _
      · simpa using hn
theorem implRB_ev (s:ByteArray) (hs:s.size≤4611686018427387904):Ev (fun k=>impl_rowBytes.f k s) (s.data.toList.all rowB):=by
  refine Ev.congr (fun k=>by rw [impl_rowBytes.f]) ?_
  exact implRB_loop hs s.data.toList [] rfl
def rowOk (r:SRow):Bool:=decide (0≤r.f0) && (decide (r.f0≤400) && rowT r.f1)
def rowsOk:Nat→List SRow→Bool
  | _,[]=>true
  | i,r :: l=>((i != 0 || r.f0 == 0) && rowOk r) && rowsOk (i+1) l
def layV (l:List SRow):Bool:=rowsOk 0 l && (decide (0 < l.length) && decide (l.length≤200))
theorem rowsOk_all:∀ (l:List SRow) (i:Nat),rowsOk (i+1) l=l.all rowOk
  | [],_=>rfl
  | r :: l,i=>by rw [rowsOk,rowsOk_all l (i+1)];simp
theorem layV_ok {l:List SRow} (h:layV l=true):0 < l.length∧l.length≤200∧∀ r ∈ l,rowOk r=true:=by
  simp only [layV,Bool.and_eq_true,decide_eq_true_eq] at h
  refine ⟨h.2.1,h.2.2,?_⟩
  cases l with
  | nil=>intro r hr;cases hr
  | cons a l =>
    have h1:=h.1
    rw [rowsOk,rowsOk_all] at h1
    simp only [Bool.and_eq_true,List.all_eq_true] at h1
    intro r hr
    rcases List.mem_cons.1 hr with rfl | hr
    · exact h1.1.2
    · exact h1.2 r hr
theorem implLV_j2 {l:List SRow} {m i:Int} {b R:Bool} (h:Ev (fun k=>impl_LayoutValid.l0 k l m (wrap64 (i+1))) R):Ev (fun k=>impl_LayoutValid.j2 k l m i (!b)) (b && R):=by
  refine Ev.step (fun k=>by rw [impl_LayoutValid.j2]) ?_
  cases b
  · exact Ev.now _
  · simpa using h
theorem implLV_loop (suf:List SRow):∀ (pre:List SRow),(∀ y,y ∈ suf→y.f1.size≤4611686018427387904)→pre.length+suf.length≤4611686018427387904 →
    Ev (fun k=>impl_LayoutValid.l0 k (pre ++ suf) ((pre ++ suf).length:Int) (pre.length:Int)) (suf.all rowOk):=by
  induction suf with
  | nil =>
    intro pre _ hm
    refine Ev.step (fun k=>by rw [impl_LayoutValid.l0]) ?_
    simp only [List.append_nil,Int.lt_irrefl,if_false]
    exact Ev.now _
  | cons y suf ih =>
    intro pre hy hm
    simp only [List.length_cons] at hm
    have hs:=hy y List.mem_cons_self
    have c1:(pre.length:Int) < ((pre ++ y :: suf).length:Int):=by simp;omega
    have c2:(0:Int)≤(pre.length:Int):=by omega
    refine Ev.step (fun k=>by rw [impl_LayoutValid.l0]) ?_
    simp only [if_pos c1,if_pos c2,rdR]
    have hn:Ev (fun k=>impl_LayoutValid.l0 k (pre ++ y :: suf) ((pre ++ y :: suf).length:Int) (wrap64 ((pre.length:Int)+1))) (suf.all rowOk):=by
      rw [w64 (by omega) (by omega)]
      have:=ih (pre ++ [y]) (fun z hz=>hy z (List.mem_cons_of_mem _ hz)) (by simp;omega)
      rw [List.append_assoc,show ((pre ++ [y]).length:Int)=(pre.length:Int)+1 by simp] at this
      exact this
    have J:=fun b=>implLV_j2 (b:=b) hn
    rw [List.all_cons]
    refine Ev.iff (fun h0=>?_) (fun h0=>?_)
    · have e:rowOk y=false:=by simp [rowOk];omega
      have:=J false
      simpa [e] using this
    refine Ev.iff (fun h1=>?_) (fun h1=>?_)
    · have e:rowOk y=false:=by
        have:¬ y.f0≤400:=by omega
        simp [rowOk,this]
      have:=J false
      simpa [e] using this
    have e:rowOk y=rowT y.f1:=by
      have h0:0≤y.f0:=by omega
      have h1:y.f0≤400:=by omega
      simp [rowOk,h0,h1]
    rw [e]
    refine Ev.bind (implRB_ev _ hs) ?_
    have e2:decide ((y.f1.size:Int) ≥ 2000)=!decide (y.f1.size < 2000):=by
      by_cases h:y.f1.size < 2000
      · have:¬ (y.f1.size:Int) ≥ 2000:=by omega
        simp [h,this]
      · have:(y.f1.size:Int) ≥ 2000:=by omega
        simp [h,this]
    rw [e2]
    have J1:=J (rowT y.f1)
    have J0:=J false
    rw [rowT] at J1 ⊢
    generalize y.f1.data.toList.all rowB=A at J1 ⊢
    cases A
    · simpa using J0
    · simpa using J1
theorem implLV_ev (l:List SRow) (hl:l.length≤4611686018427387904) (hs:∀ y ∈ l,y.f1.size≤4611686018427387904):Ev (fun k=>impl_LayoutValid.f k l) (layV l):=by
  refine Ev.congr (fun k=>by rw [impl_LayoutValid.f]) ?_
  have F:Ev (fun k=>impl_LayoutValid.j0 k l true) false:=by
    refine Ev.step (fun k=>by rw [impl_LayoutValid.j0]) ?_
    exact Ev.now _
  refine Ev.iff (fun h0=>?_) (fun h0=>?_)
  · have:¬ 0 < l.length:=by omega
    simpa [layV,this] using F
  refine Ev.iff (fun h1=>?_) (fun h1=>?_)
  · have:¬ l.length≤200:=by omega
    simpa [layV,this] using F
  have c:(0:Int) < (l.length:Int):=by omega
  simp only [if_pos c]
  have h0':0 < l.length:=by omega
  have h1':l.length≤200:=by omega
  cases l with
  | nil=>simp at h0'
  | cons r l =>
    have e0:rd_TRow (r :: l) 0=r:=by simp [rd_TRow]
    rw [e0]
    have L:=implLV_loop (r :: l) [] hs (by simpa using hl)
    by_cases hr:r.f0=0
    · have e1:(r.f0 != 0)=false:=by simp [hr]
      rw [e1]
      refine Ev.step (fun k=>by rw [impl_LayoutValid.j0]) ?_
      have e2:layV (r :: l)=(r :: l).all rowOk:=by
        simp only [layV,rowsOk,rowsOk_all,hr,h0',h1']
        simp
      rw [e2]
      simpa using L
    · have e1:(r.f0 != 0)=true:=by simp [hr]
      rw [e1]
      have e2:layV (r :: l)=false:=by
        simp [layV,rowsOk,hr]
      rw [e2]
      exact F
end Go.Proofs.Ytdhdfmmefghijab.Pure
namespace Go.Proofs.Ytdhdfmmefghijab.P
open Go.RowKit Go.Proofs.YtdhdfmmefghijabW.PrintWords Go.Proofs.YtdhdfmmefghijabW.PrintLast Go.Proofs.YtdhdfmmefghijabW.PrintMore
attribute [local go_sem] max2_int min2_int max_two min_two max_three min_three max_four min_four
set_option linter.unusedVariables false
set_option linter.unusedSimpArgs false
def spec_CatLayouts.j0:Nat→List (SRow)→List (SRow)→Bool→Option ((List (SRow))×Bool)
 | 0,_,_,_=>none
 | k+1,x0,x1,x14=>if x14=true then (some ((([]:List (SRow))),false)) else ((spec_l2Cat.f x0 x1).bind fun t469=>((spec_LayoutValid.f k t469).bind fun t472=>(if t472=true then (some (t469,true)) else (some ((([]:List (SRow))),false)))))
def spec_CatLayouts.f (k:Nat) (l0:List (SRow)) (l1:List (SRow)):Option ((List (SRow))×Bool):=(spec_LayoutValid.f k l0).bind fun t464=>(if t464=true then ((spec_LayoutValid.f k l1).bind fun t465=>(spec_CatLayouts.j0 k l0 l1 (!t465))) else (spec_CatLayouts.j0 k l0 l1 true))
end Go.Proofs.Ytdhdfmmefghijab.P
namespace Go.Proofs.Ytdhdfmmefghijab.Pure
open Go.RowKit Go.Proofs.Ytdhdfmmefghijab.P Go.Proofs.YtdhdfmmefghijabW.PrintWords Go.Proofs.YtdhdfmmefghijabW.PrintLast Go.Proofs.YtdhdfmmefghijabW.PrintMore
set_option linter.unusedVariables false
set_option linter.unusedSimpArgs false
def catO:List SRow→List SRow→List SRow
  | [],b=>b
  | [r],[]=>[r]
  | [r],s :: t=>⟨r.f0,r.f1 ++ s.f1⟩ :: t
  | r :: r' :: a,b=>r :: catO (r' :: a) b
theorem catO_eq (r s:SRow) (t:List SRow):∀ pre:List SRow,catO (pre ++ [r]) (s :: t)=pre ++ ⟨r.f0,r.f1 ++ s.f1⟩ :: t
  | []=>rfl
  | [a]=>rfl
  | a :: a' :: pre=>by
    have:=catO_eq r s t (a' :: pre)
    simp only [List.cons_append] at this ⊢
    rw [catO,this]
theorem setL (a b:List SRow) (d z:SRow):(a ++ d :: b).set (a.length:Int).toNat z=a ++ z :: b:=by
  rw [Int.toNat_natCast,List.set_append_right _ _ (Nat.le_refl _),Nat.sub_self,List.set_cons_zero]
theorem specCat_eq (pre t:List SRow) (r s:SRow) (h1:pre.length+t.length≤1099511627776) (h2:r.f1.size+s.f1.size≤9223372036854775807) :
    spec_l2Cat.f (pre ++ [r]) (s :: t)=some (pre ++ ⟨r.f0,r.f1 ++ s.f1⟩ :: t):=by
  have hl:(pre ++ [r]).length=pre.length+1:=by simp
  have e0:wrap64 (((pre ++ [r]).length:Int) - 1)=(pre.length:Int):=by rw [hl,w64 (by omega) (by omega)];omega
  have r0:rd_TRow (pre ++ [r]) (pre.length:Int)=r:=rdR pre [] r
  have r1:rd_TRow (s :: t) 0=s:=by simp [rd_TRow]
  rw [spec_l2Cat.f]
  simp only [Option.bind_some,List.nil_append,List.length_nil,Nat.zero_add,if_pos (show (pre ++ [r]).length < 5864062014805 by omega),e0,if_pos (show (0:Int)≤(pre.length:Int) by omega),
    if_pos (show (pre.length:Int) < ((pre ++ [r]).length:Int) by omega),if_pos (show (0:Int) < ((s :: t).length:Int) by rw [List.length_cons];omega),r0,r1,if_pos h2,setL,if_pos (show (1:Int)≤((s :: t).length:Int) by rw [List.length_cons];omega),List.drop_one,List.tail_cons]
  rw [if_pos (by simp;omega)]
  simp
theorem implCat_eq (pre t:List SRow) (r s:SRow) (h1:pre.length+t.length≤1099511627776) (h2:r.f1.size+s.f1.size≤9223372036854775807) :
    impl_catRows.f (pre ++ [r]) (s :: t)=some (pre ++ ⟨r.f0,r.f1 ++ s.f1⟩ :: t):=by
  have hl:(pre ++ [r]).length=pre.length+1:=by simp
  have e0:wrap64 (((pre ++ [r]).length:Int) - 1)=(pre.length:Int):=by rw [hl,w64 (by omega) (by omega)];omega
  have r0:rd_TRow (pre ++ r :: t) (pre.length:Int)=r:=rdR pre t r
  have r1:rd_TRow (s :: t) 0=s:=by simp [rd_TRow]
  rw [impl_catRows.f,slices_Clone_Llimpl_Row.f,if_pos (show (pre ++ [r]).length < 5864062014805 by omega)]
  simp only [Option.bind_some,if_pos (show (1:Int)≤((s :: t).length:Int) by rw [List.length_cons];omega),List.drop_one,List.tail_cons,if_pos (show (pre ++ [r]).length+t.length < 5864062014805 by omega),List.append_assoc,List.cons_append,List.nil_append]
  rw [show ((pre ++ [r]).length:Int) - 1=(pre.length:Int) by omega,w64 (by omega) (by omega)]
  simp only [if_pos (show (0:Int)≤(pre.length:Int) by omega),if_pos (show (pre.length:Int) < ((pre ++ r :: t).length:Int) by simp;omega),if_pos (show (0:Int) < ((s :: t).length:Int) by rw [List.length_cons];omega),r0,r1,if_pos h2,setL]
def catL (a b:List SRow):List SRow × Bool:=if (layV a && layV b)=true then (if layV (catO a b)=true then (catO a b,true) else ([],false)) else ([],false)
theorem cat_split {a b:List SRow} (ha:layV a=true) (hb:layV b=true):∃ pre r s t,a=pre ++ [r]∧b=s :: t∧catO a b=pre ++ ⟨r.f0,r.f1 ++ s.f1⟩ :: t∧pre.length≤199∧t.length≤199:=by
  have h1:=layV_ok ha
  have h2:=layV_ok hb
  rcases List.eq_nil_or_concat a with rfl | ⟨pre,r,e⟩
  · simp at h1
  · cases b with
    | nil=>simp at h2
    | cons s t =>
      rw [List.concat_eq_append] at e
      refine ⟨pre,r,s,t,e,rfl,by rw [e];exact catO_eq r s t pre,?_,?_⟩
      · have:=h1.2.1;rw [e] at this;simp at this;omega
      · have:=h2.2.1;simp at this;omega
theorem catO_sizes {a b:List SRow} (ha:∀ y ∈ a,y.f1.size≤1048576) (hb:∀ y ∈ b,y.f1.size≤1048576) (hv:layV a=true) (hw:layV b=true):(catO a b).length≤400∧∀ y ∈ catO a b,y.f1.size≤4611686018427387904:=by
  obtain ⟨pre,r,s,t,e1,e2,e3,h1,h2⟩:=cat_split hv hw
  rw [e3]
  refine ⟨by simp;omega,fun y hy=>?_⟩
  have hr:=ha r (by rw [e1];simp)
  have hs:=hb s (by rw [e2];simp)
  rcases List.mem_append.1 hy with h | h
  · have:=ha y (by rw [e1];simp [h]);omega
  · rcases List.mem_cons.1 h with rfl | h
    · show (r.f1 ++ s.f1).size≤_
      rw [ByteArray.size_append];omega
    · have:=hb y (by rw [e2];simp [h]);omega
theorem implCatL_ev (a b:List SRow) (hla:a.length≤1048576) (hlb:b.length≤1048576) (ha:∀ y ∈ a,y.f1.size≤1048576) (hb:∀ y ∈ b,y.f1.size≤1048576):Ev (fun k=>impl_CatLayouts.f k a b) (catL a b):=by
  refine Ev.congr (fun k=>by rw [impl_CatLayouts.f]) ?_
  refine Ev.bind (implLV_ev a (by omega) (fun y hy=>by have:=ha y hy;omega)) ?_
  have F:Ev (fun k=>impl_CatLayouts.j0 k a b true) ([],false):=Ev.step (fun k=>by rw [impl_CatLayouts.j0]) (by simp only [if_true];exact Ev.now _)
  by_cases hv:layV a=true
  · simp only [if_pos hv]
    refine Ev.bind (implLV_ev b (by omega) (fun y hy=>by have:=hb y hy;omega)) ?_
    by_cases hw:layV b=true
    · obtain ⟨pre,r,s,t,e1,e2,e3,h1,h2⟩:=cat_split hv hw
      have hz:=catO_sizes ha hb hv hw
      have hr:=ha r (by rw [e1];simp)
      have hs:=hb s (by rw [e2];simp)
      have e4:impl_catRows.f a b=some (catO a b):=by rw [e3,e1,e2];exact implCat_eq pre t r s (by omega) (by omega)
      refine Ev.step (fun k=>by rw [impl_CatLayouts.j0]) ?_
      simp only [hw,Bool.not_true,Bool.false_eq_true,if_false,e4,Option.bind_some]
      refine Ev.bind (implLV_ev _ (by omega) hz.2) ?_
      rw [catL,hv,hw]
      simp only [Bool.and_self,if_true]
      by_cases ho:layV (catO a b)=true
      · simp only [if_pos ho];exact Ev.now _
      · simp only [if_neg ho];exact Ev.now _
    · have hw:layV b=false:=by simpa using hw
      have e:catL a b=([],false):=by simp [catL,hw]
      rw [e,hw]
      exact F
  · have hv:layV a=false:=by simpa using hv
    have e:catL a b=([],false):=by simp [catL,hv]
    rw [e,hv]
    exact F
end Go.Proofs.Ytdhdfmmefghijab.Pure
namespace Go.Proofs.Ytdhdfmmefghijab.P
open Go.RowKit Go.Proofs.YtdhdfmmefghijabW.PrintWords Go.Proofs.YtdhdfmmefghijabW.PrintLast Go.Proofs.YtdhdfmmefghijabW.PrintMore
attribute [local go_sem] max2_int min2_int max_two min_two max_three min_three max_four min_four
set_option linter.unusedVariables false
set_option linter.unusedSimpArgs false
def spec_NestLayout.j0:Nat→Int→List (SRow)→Bool→Option ((List (SRow))×Bool)
 | 0,_,_,_=>none
 | k+1,x0,x1,x17=>if x17=true then (some ((([]:List (SRow))),false)) else ((spec_l2Nest.f k x0 x1).bind fun t607=>((spec_LayoutValid.f k t607).bind fun t610=>(if t610=true then (some (t607,true)) else (some ((([]:List (SRow))),false)))))
def spec_NestLayout.f (k:Nat) (a0:Int) (l1:List (SRow)):Option ((List (SRow))×Bool):=(spec_LayoutValid.f k l1).bind fun t603=>(if t603=true then (if a0<0 then (spec_NestLayout.j0 k a0 l1 true) else (spec_NestLayout.j0 k a0 l1 (decide (a0>200)))) else (spec_NestLayout.j0 k a0 l1 true))
end Go.Proofs.Ytdhdfmmefghijab.P
namespace Go.Proofs.Ytdhdfmmefghijab.P
open Go.RowKit Go.Proofs.YtdhdfmmefghijabW.PrintWords Go.Proofs.YtdhdfmmefghijabW.PrintLast Go.Proofs.YtdhdfmmefghijabW.PrintMore
attribute [local go_sem] max2_int min2_int max_two min_two max_three min_three max_four min_four
set_option linter.unusedVariables false
set_option linter.unusedSimpArgs false
def impl_NestLayout.j0:Nat→Int→List (SRow)→Bool→Option ((List (SRow))×Bool)
 | 0,_,_,_=>none
 | k+1,x0,x1,x17=>if x17=true then (some (([]:List (SRow)),false)) else ((impl_nestRows.f k x0 x1).bind fun t599=>((impl_LayoutValid.f k t599).bind fun t602=>(if t602=true then (some (t599,true)) else (some (([]:List (SRow)),false)))))
def impl_NestLayout.f (k:Nat) (a0:Int) (l1:List (SRow)):Option ((List (SRow))×Bool):=(impl_LayoutValid.f k l1).bind fun t598=>(if t598=true then (if a0<0 then (impl_NestLayout.j0 k a0 l1 true) else (impl_NestLayout.j0 k a0 l1 (decide (a0>200)))) else (impl_NestLayout.j0 k a0 l1 true))
end Go.Proofs.Ytdhdfmmefghijab.P
