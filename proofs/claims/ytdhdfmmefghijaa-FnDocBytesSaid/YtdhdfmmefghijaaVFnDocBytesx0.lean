/- CONTRACTS and lemmas for the law FnDocBytes. -/
import Derived.Test.YtdhdfmmefghijaaVLa9
namespace Go.Proofs.Ytdhdfmmefghijaa.P
open Go.RowKit Go.Proofs.YtdhdfmmefghijaaW.PrintWords Go.Proofs.YtdhdfmmefghijaaW.PrintLast Go.Proofs.YtdhdfmmefghijaaW.PrintMore
attribute [local go_sem] max2_int min2_int max_two min_two max_three min_three max_four min_four
set_option linter.unusedVariables false
set_option linter.unusedSimpArgs false
mutual
def impl_DocSize.l0:Nat→Int→List (SDoc)→Int→Int→Option (Int)
 | 0,_,_,_,_=>none
 | k+1,x3,x7,x8,x9=>if x9 < x8 then (if 0≤x9 then (if x9 < (x7.length:Int) then ((impl_DocSize.f k ((rd_TDoc x7 x9).f0) ((rd_TDoc x7 x9).f1) ((rd_TDoc x7 x9).f2) ((rd_TDoc x7 x9).f3)).bind fun t211=>(impl_DocSize.l0 k (wrap64 (x3+t211)) x7 x8 (wrap64 (x9+1)))) else (none)) else (none)) else (some x3)
def impl_DocSize.f:Nat→Int→Int→ByteArray→List (SDoc)→Option (Int)
 | 0,_,_,_,_=>none
 | k+1,a0_0,a0_1,a0_2,l0_3=>impl_DocSize.l0 k 1 l0_3 (l0_3.length:Int) 0
end
set_option maxHeartbeats 8000000 in
set_option maxRecDepth 100000 in
theorem impl_DocSize.calls (k:Nat):∀ (a0_0:Int) (a0_1:Int) (a0_2:ByteArray) (A0_3:Option Addr) (c0_3:Nat) (l0_3:List (SDoc)) (r:Int) (w:World) (hr0_3:Kd.C k27 w A0_3 l0_3.length l0_3) (hc0_3:l0_3.length≤c0_3) (h:impl_DocSize.f k a0_0 a0_1 a0_2 l0_3=some r),
  Calls Try.prog 22 #[.agg #[.int .i64 a0_0,.int .i64 a0_1,.string a0_2,.slice A0_3 l0_3.length c0_3]] w fun e w'=>e=.returned (.int .i64 r)∧Below w.heap.size w w':=by
 induction k using Nat.strongRecOn with
 | _ k ih =>
 intro a0_0 a0_1 a0_2 A0_3 c0_3 l0_3 r w hr0_3 hc0_3 h
 cases k with
 | zero=>exact absurd h (by simp [impl_DocSize.f])
 | succ k =>
 simp only [impl_DocSize.f] at h
 have hu27:=Try.underlying27
 have HR0_3:=Aside0.mk hr0_3
 have HC0_3:=Aside0.mk hc0_3
 clear hr0_3 hc0_3
 have HB:=Aside0.mk (Below.refl w.heap.size w)
 have H:(impl_DocSize.l0 k 1 l0_3 (l0_3.length:Int) 0)=some r:=h
 clear h
 have H':=Aside0.mk H
 clear H
 go_enter Try.func22,Try.ntmps22
 go_wp2_with (first|((with_reducible refine gate_dst (N:=1) rfl ?_);refine box_event ?hg (N:=1) ?hd (cs:=#[.int .i64 a0_0,.int .i64 a0_1,.string a0_2,.slice A0_3 l0_3.length c0_3]) (t:=27) ?hr ?_;(case hd=>rfl);(case hg=>rfl);(case hr=>first|(go_simp;done)|(go_simp;rfl));intro gb208 hg w2 hbox hb;have n0_:=Aside0.mk (below_step (gB HB) hb);have n1_:=Aside0.mk (hbox);have n2_:=Aside0.mk ((by rw [hg];exact (below_size (gB HB)):w.heap.size≤gb208));have n3_:=Aside0.mk ((by rw [hg];exact (below_size (gB HB)):w.heap.size≤gb208));clear HB;have HB:=n0_;have BK208:=n1_;have GW208:=n2_;have GE208:=n3_;clear n0_ n1_ n2_ n3_;clear hb hbox hg;have hcz3_0:w2.cell? ⟨gb208,0,none⟩=some (.int .i64 a0_0):=(blk_cell BK208.out 0).trans rfl;have hcz3_1:w2.cell? ⟨gb208,1,none⟩=some (.int .i64 a0_1):=(blk_cell BK208.out 1).trans rfl;have hcz3_2:w2.cell? ⟨gb208,2,none⟩=some (.string a0_2):=(blk_cell BK208.out 2).trans rfl;have hcz3_3:w2.cell? ⟨gb208,3,none⟩=some (.slice A0_3 l0_3.length c0_3):=(blk_cell BK208.out 3).trans rfl;have hfz3_0:=blk_frozen BK208.out 0;have hfz3_1:=blk_frozen BK208.out 1;have hfz3_2:=blk_frozen BK208.out 2;have hfz3_3:=blk_frozen BK208.out 3))
 go_loopg [3,9] k (fun kq v3 v9 w'=>∃ (x3_1:Int) (x9_1:Int),v3=.int .i64 x3_1∧v9=.int .i64 x9_1∧Aside0 (impl_DocSize.l0 kq x3_1 l0_3 (l0_3.length:Int) x9_1=some r)∧Aside0 (kq≤k)∧Aside0 (w'.heap[gb208]?=some (.cells #[.int .i64 a0_0,.int .i64 a0_1,.string a0_2,(.slice A0_3 l0_3.length c0_3)] 27 (0,0)))∧Aside0 (Below w.heap.size w w'))
 case atStart=>exact ⟨(1),(0),(by first|rfl|(simp;done)|(simp [*];done)),(by first|rfl|(simp;done)|(simp [*];done)),H',⟨Nat.le_refl _⟩,⟨gK BK208⟩,⟨by repeat (first|exact gB HB|refine below_set ?_ GE208.out)⟩⟩
 case round =>
  clear H'
  try clear c2 p2 hcz3_0 hcz3_1 hcz3_2 hcz3_3 hfz3_0 hfz3_1 hfz3_2 hfz3_3
  (try clear BK208);(try clear HB)
  obtain ⟨x3_1,x9_1,rfl,rfl,HA,HK1,BK208,HB⟩:=hrel
  cases gk with
  | zero=>exact absurd HA.out (by simp [impl_DocSize.l0])
  | succ k1 =>
   have H:=HA.out
   clear HA
   simp only [impl_DocSize.l0] at H
   by_cases c4:x9_1 < (l0_3.length:Int)
   ·rw [if_pos c4] at H
    have c4b0:decide (x9_1 < (l0_3.length:Int))=true:=decide_eq_true c4
    clear c4
    by_cases c5:0≤x9_1
    ·rw [if_pos c5] at H
     have c5b0:decide (0≤x9_1)=true:=decide_eq_true c5
     clear c5
     by_cases c6:x9_1 < (l0_3.length:Int)
     ·rw [if_pos c6] at H
      have c6b0:decide (x9_1 < (l0_3.length:Int))=true:=decide_eq_true c6
      clear c6
      replace H:=Option.bind_eq_some_iff.mp H
      obtain ⟨t211,A70,H⟩:=H
      replace H:(impl_DocSize.l0 k1 (wrap64 (x3_1+t211)) l0_3 (l0_3.length:Int) (wrap64 (x9_1+1)))=some r:=H
      have A7:=Aside0.mk A70
      clear A70
      have H':=Aside0.mk H
      clear H
      have p209:0≤(x9_1:Int):=of_decide_eq_true (by first|(with_reducible assumption)|assumption)
      have q209:x9_1 < (l0_3.length:Int):=of_decide_eq_true (by first|(with_reducible assumption)|assumption)
      obtain ⟨ad209,A209_3,c209_3,e209,hx209_0,hx209_1,hx209_2,hx209_3,hl209_3,hi209_3⟩:=at_TDoc HR0_3.out x9_1 p209 q209
      cases e209
      replace hx209_0:=(HB.out.cell (World.block_lt_of_cell? w _ hx209_0)).trans hx209_0
      replace hx209_1:=(HB.out.cell (World.block_lt_of_cell? w _ hx209_1)).trans hx209_1
      replace hx209_2:=(HB.out.cell (World.block_lt_of_cell? w _ hx209_2)).trans hx209_2
      replace hx209_3:=(HB.out.cell (World.block_lt_of_cell? w _ hx209_3)).trans hx209_3
      have HR209_3:=Aside0.mk hi209_3
      have HC209_3:=Aside0.mk hl209_3
      clear hi209_3 hl209_3
      replace p209:=eq_true p209
      replace q209:=eq_true q209
      go_wp2_with (first|((with_reducible refine gate_dst (N:=5) rfl ?_);refine box_event ?hg (N:=5) ?hd (cs:=#[.int .i64 0,.int .i64 0,.string (⟨#[]⟩:ByteArray),.slice none 0 0]) (t:=27) ?hr ?_;(case hd=>rfl);(case hg=>rfl);(case hr=>first|(go_simp;done)|(go_simp;rfl));intro gb210 hg w8 hbox hb;have n0_:=Aside0.mk (blk_below (g:=gb208) (o:=.cells #[.int .i64 a0_0,.int .i64 a0_1,.string a0_2,.slice (some ad209) l0_3.length c0_3] 27 (0,0)) (gK BK208) hb);have n1_:=Aside0.mk (below_step (by repeat (first|exact gB HB|refine below_set ?_ GE208.out)) hb);have n2_:=Aside0.mk (hbox);have n3_:=Aside0.mk ((by rw [hg];exact (below_size (by repeat (first|exact gB HB|refine below_set ?_ GE208.out))):w.heap.size≤gb210));have n4_:=Aside0.mk ((by rw [hg];exact (below_size (by repeat (first|exact gB HB|refine below_set ?_ GE208.out))):w.heap.size≤gb210));have n5_:=Aside0.mk ((by rw [hg];exact Nat.ne_of_lt (blk_lt (g:=gb208) (o:=.cells #[.int .i64 a0_0,.int .i64 a0_1,.string a0_2,.slice (some ad209) l0_3.length c0_3] 27 (0,0)) (gK BK208)):gb208 ≠ gb210));have n6_:=Aside0.mk ((by rw [hg];exact Nat.ne_of_gt (blk_lt (g:=gb208) (o:=.cells #[.int .i64 a0_0,.int .i64 a0_1,.string a0_2,.slice (some ad209) l0_3.length c0_3] 27 (0,0)) (gK BK208)):gb210 ≠ gb208));clear BK208;clear HB;have BK208:=n0_;have HB:=n1_;have BK210:=n2_;have GW210:=n3_;have GE210:=n4_;have NB208_210:=n5_;have NB210_208:=n6_;clear n0_ n1_ n2_ n3_ n4_ n5_ n6_;clear hb hbox hg;have hnb9:=NB210_208.out;have hnc9:=NB208_210.out;have hcz10_0:w8.cell? ⟨gb210,0,none⟩=some (.int .i64 0):=(blk_cell BK210.out 0).trans rfl;have hcz10_1:w8.cell? ⟨gb210,1,none⟩=some (.int .i64 0):=(blk_cell BK210.out 1).trans rfl;have hcz10_2:w8.cell? ⟨gb210,2,none⟩=some (.string (⟨#[]⟩:ByteArray)):=(blk_cell BK210.out 2).trans rfl;have hcz10_3:w8.cell? ⟨gb210,3,none⟩=some (.slice none 0 0):=(blk_cell BK210.out 3).trans rfl;have hfz10_0:=blk_frozen BK210.out 0;have hfz10_1:=blk_frozen BK210.out 1;have hfz10_2:=blk_frozen BK210.out 2;have hfz10_3:=blk_frozen BK210.out 3)|((with_reducible refine gate_callee (f:=22) rfl ?_);refine goesL_ (some 15) rfl rfl Try.func22 (by kernel_rfl) rfl #[.agg #[.int .i64 ((rd_TDoc l0_3 x9_1).f0),.int .i64 ((rd_TDoc l0_3 x9_1).f1),.string ((rd_TDoc l0_3 x9_1).f2),.slice A209_3 ((rd_TDoc l0_3 x9_1).f3).length c209_3]] rfl (by (try simp only [List.map_toArray,List.map_cons,List.map_nil]);first|done|rfl|(simp only [List.length_drop,List.length_take];rfl)) ?_;(with_reducible refine (ih k1 (by have:=HK1.out;omega) ((rd_TDoc l0_3 x9_1).f0) ((rd_TDoc l0_3 x9_1).f1) ((rd_TDoc l0_3 x9_1).f2) _ _ ((rd_TDoc l0_3 x9_1).f3) t211 _ ?side1 ?side2 A7.out).mono ?_);(case side1=>exact Kd.C_below HR209_3.out (by repeat (first|exact gB HB|refine below_set ?_ GE208.out|refine below_set ?_ GE210.out)));(case side2=>exact HC209_3.out);rintro e w11 ⟨rfl,hb⟩;refine ⟨_,rfl,?_⟩;have n0_:=Aside0.mk (blk_below (g:=gb208) (o:=.cells #[.int .i64 a0_0,.int .i64 a0_1,.string a0_2,.slice (some ad209) l0_3.length c0_3] 27 (0,0)) (by (with_reducible repeat (first|refine blk_drewN ?_ _|refine blk_drew ?_|refine blk_alloc ?_ _));refine blk_far ?_ NB208_210.out _;(with_reducible repeat (first|refine blk_drewN ?_ _|refine blk_drew ?_|refine blk_alloc ?_ _));refine blk_far ?_ NB208_210.out _;(with_reducible repeat (first|refine blk_drewN ?_ _|refine blk_drew ?_|refine blk_alloc ?_ _));refine blk_far ?_ NB208_210.out _;(with_reducible repeat (first|refine blk_drewN ?_ _|refine blk_drew ?_|refine blk_alloc ?_ _));refine blk_far ?_ NB208_210.out _;(with_reducible repeat (first|refine blk_drewN ?_ _|refine blk_drew ?_|refine blk_alloc ?_ _));exact BK208.out) hb);have n1_:=Aside0.mk (blk_below (g:=gb210) (o:=.cells #[.int .i64 ((rd_TDoc l0_3 x9_1).f0),.int .i64 ((rd_TDoc l0_3 x9_1).f1),.string ((rd_TDoc l0_3 x9_1).f2),.slice A209_3 ((rd_TDoc l0_3 x9_1).f3).length c209_3] 27 (0,0)) (by (with_reducible repeat (first|refine blk_drewN ?_ _|refine blk_drew ?_|refine blk_alloc ?_ _));refine blk_put (cs:=#[.int .i64 ((rd_TDoc l0_3 x9_1).f0),.int .i64 ((rd_TDoc l0_3 x9_1).f1),.string ((rd_TDoc l0_3 x9_1).f2),.slice none 0 0]) ?_ 3 _ rfl;(with_reducible repeat (first|refine blk_drewN ?_ _|refine blk_drew ?_|refine blk_alloc ?_ _));refine blk_put (cs:=#[.int .i64 ((rd_TDoc l0_3 x9_1).f0),.int .i64 ((rd_TDoc l0_3 x9_1).f1),.string (⟨#[]⟩:ByteArray),.slice none 0 0]) ?_ 2 _ rfl;(with_reducible repeat (first|refine blk_drewN ?_ _|refine blk_drew ?_|refine blk_alloc ?_ _));refine blk_put (cs:=#[.int .i64 ((rd_TDoc l0_3 x9_1).f0),.int .i64 0,.string (⟨#[]⟩:ByteArray),.slice none 0 0]) ?_ 1 _ rfl;(with_reducible repeat (first|refine blk_drewN ?_ _|refine blk_drew ?_|refine blk_alloc ?_ _));refine blk_put (cs:=#[.int .i64 0,.int .i64 0,.string (⟨#[]⟩:ByteArray),.slice none 0 0]) ?_ 0 _ rfl;(with_reducible repeat (first|refine blk_drewN ?_ _|refine blk_drew ?_|refine blk_alloc ?_ _));exact BK210.out) hb);have n2_:=Aside0.mk (below_step (by repeat (first|exact gB HB|refine below_set ?_ GE208.out|refine below_set ?_ GE210.out)) hb);clear BK208;clear BK210;clear HB;have BK208:=n0_;have BK210:=n1_;have HB:=n2_;clear n0_ n1_ n2_;(try clear hb);(try clear hb2);(try clear hk);(try clear hi)))
      go_roundg k1
      case measure=>have:=HK1.out;omega
      case rel=>exact ⟨(wrap64 (x3_1+t211)),(wrap64 (x9_1+1)),(by first|rfl|(simp;done)|(simp [*];done)),(by first|rfl|(simp;done)|(simp [*];done)),H',⟨by have:=HK1.out;omega⟩,⟨gK BK208⟩,⟨by repeat (first|exact gB HB|refine below_set ?_ GE208.out|refine below_set ?_ GE210.out)⟩⟩
     ·rw [if_neg c6] at H
      exact absurd H (by simp)
    ·rw [if_neg c5] at H
     exact absurd H (by simp)
   ·rw [if_neg c4] at H
    have c4b0:decide (x9_1 < (l0_3.length:Int))=false:=decide_eq_false c4
    clear c4
    obtain rfl:=Option.some.inj H
    go_wp2
    go_ret
    exact ⟨by first|rfl|(simp [errW_none,errW_some] <;> rfl)|(simp [*,errW_none,errW_some] <;> rfl),by repeat (first|exact gB HB|refine below_set ?_ GE208.out)⟩
end Go.Proofs.Ytdhdfmmefghijaa.P
namespace Go.Proofs.Ytdhdfmmefghijaa.P
open Go.RowKit Go.Proofs.YtdhdfmmefghijaaW.PrintWords Go.Proofs.YtdhdfmmefghijaaW.PrintLast Go.Proofs.YtdhdfmmefghijaaW.PrintMore
attribute [local go_sem] max2_int min2_int max_two min_two max_three min_three max_four min_four
set_option linter.unusedVariables false
set_option linter.unusedSimpArgs false
def impl_formatDoc.f:Nat→Int→Int→ByteArray→List (SDoc)→Option (ByteArray)
 | 0,_,_,_,_=>none
 | k+1,a0_0,a0_1,a0_2,l0_3=>if a0_0=1 then (some (⟨#[126]⟩:ByteArray)) else (if a0_0=2 then (if 1+a0_2.size≤9223372036854775807 then (if ((⟨#[34]⟩:ByteArray)++a0_2).size+1≤9223372036854775807 then (some (((⟨#[34]⟩:ByteArray)++a0_2)++(⟨#[34]⟩:ByteArray))) else (none)) else (none)) else (if a0_0=3 then (some (⟨#[95]⟩:ByteArray)) else (if a0_0=4 then (some (⟨#[46]⟩:ByteArray)) else (if a0_0=5 then (some (⟨#[33]⟩:ByteArray)) else (if a0_0=6 then ((some (([(wrap64 (48+a0_1)) % 256]:List Int):List Int)).bind fun y607=>(if (strOfNums y607).size+1≤9223372036854775807 then (if 0 < (l0_3.length:Int) then ((impl_formatDoc.f k ((rd_TDoc l0_3 0).f0) ((rd_TDoc l0_3 0).f1) ((rd_TDoc l0_3 0).f2) ((rd_TDoc l0_3 0).f3)).bind fun t611=>(if ((strOfNums y607)++(⟨#[60]⟩:ByteArray)).size+t611.size≤9223372036854775807 then (if (((strOfNums y607)++(⟨#[60]⟩:ByteArray))++t611).size+1≤9223372036854775807 then (some ((((strOfNums y607)++(⟨#[60]⟩:ByteArray))++t611)++(⟨#[62]⟩:ByteArray))) else (none)) else (none))) else (none)) else (none))) else (if a0_0=7 then (if 0 < (l0_3.length:Int) then ((impl_formatDoc.f k ((rd_TDoc l0_3 0).f0) ((rd_TDoc l0_3 0).f1) ((rd_TDoc l0_3 0).f2) ((rd_TDoc l0_3 0).f3)).bind fun t613=>(if 1+t613.size≤9223372036854775807 then (if 1 < (l0_3.length:Int) then ((impl_formatDoc.f k ((rd_TDoc l0_3 1).f0) ((rd_TDoc l0_3 1).f1) ((rd_TDoc l0_3 1).f2) ((rd_TDoc l0_3 1).f3)).bind fun t615=>(if ((⟨#[40]⟩:ByteArray)++t613).size+t615.size≤9223372036854775807 then (if (((⟨#[40]⟩:ByteArray)++t613)++t615).size+1≤9223372036854775807 then (some ((((⟨#[40]⟩:ByteArray)++t613)++t615)++(⟨#[41]⟩:ByteArray))) else (none)) else (none))) else (none)) else (none))) else (none)) else (if 0 < (l0_3.length:Int) then ((impl_formatDoc.f k ((rd_TDoc l0_3 0).f0) ((rd_TDoc l0_3 0).f1) ((rd_TDoc l0_3 0).f2) ((rd_TDoc l0_3 0).f3)).bind fun t617=>(if 1+t617.size≤9223372036854775807 then (if ((⟨#[91]⟩:ByteArray)++t617).size+1≤9223372036854775807 then (some (((⟨#[91]⟩:ByteArray)++t617)++(⟨#[93]⟩:ByteArray))) else (none)) else (none))) else (none))))))))
def impl_formatDoc.T13:Bool × List (List Nat × List Nat):=(true,[([],[]),([0],[0]),([1],[1]),([2],[2]),([3],[3]),([4],[4]),([5],[5]),([],[]),([7],[7]),([8],[8]),([9],[9]),([10],[10]),([6,11],[6,11]),([12],[12]),([13,11,0,1,2,3,4,5,6,7,8,9,10,11,12,13],[13])])
def impl_formatDoc.B13:List Nat:=[0,1,3,7,15,31,63,0,128,384,896,1920,4095,8191,16383]
theorem impl_formatDoc.tab13:rtab .any (opsOf Try.f60 13)=impl_formatDoc.T13:=by kernel_rfl
theorem impl_formatDoc.bits13:waitsOk impl_formatDoc.T13.2 impl_formatDoc.B13=true:=by kernel_rfl
def impl_formatDoc.T15:Bool × List (List Nat × List Nat):=(true,[([],[]),([0],[0]),([1],[1]),([2],[2]),([3],[3]),([4],[4]),([],[]),([6],[6]),([7],[7]),([8],[8]),([9,4],[9]),([5,10],[5,10]),([11],[11]),([12,10,0,1,2,3,4,5,6,7,8,9,10,11,12],[12])])
def impl_formatDoc.B15:List Nat:=[0,1,3,7,15,31,0,64,192,448,991,2047,4095,8191]
theorem impl_formatDoc.tab15:rtab .any (opsOf Try.f60 15)=impl_formatDoc.T15:=by kernel_rfl
theorem impl_formatDoc.bits15:waitsOk impl_formatDoc.T15.2 impl_formatDoc.B15=true:=by kernel_rfl
set_option maxHeartbeats 8000000 in
set_option maxRecDepth 100000 in
theorem impl_formatDoc.calls (k:Nat):∀ (a0_0:Int) (a0_1:Int) (a0_2:ByteArray) (A0_3:Option Addr) (c0_3:Nat) (l0_3:List (SDoc)) (r:ByteArray) (w:World) (hr0_3:Kd.C k27 w A0_3 l0_3.length l0_3) (hc0_3:l0_3.length≤c0_3) (h:impl_formatDoc.f k a0_0 a0_1 a0_2 l0_3=some r),
  Calls Try.prog 60 #[.agg #[.int .i64 a0_0,.int .i64 a0_1,.string a0_2,.slice A0_3 l0_3.length c0_3]] w fun e w'=>e=.returned (.string r)∧Below w.heap.size w w':=by
 induction k using Nat.strongRecOn with
 | _ k ih =>
 intro a0_0 a0_1 a0_2 A0_3 c0_3 l0_3 r w hr0_3 hc0_3 h
 cases k with
 | zero=>exact absurd h (by simp [impl_formatDoc.f])
 | succ k =>
 simp only [impl_formatDoc.f] at h
 have hu27:=Try.underlying27
 have HR0_3:=Aside0.mk hr0_3
 have HC0_3:=Aside0.mk hc0_3
 clear hr0_3 hc0_3
 have HB:=Aside0.mk (Below.refl w.heap.size w)
 have H:(if a0_0=1 then (some (⟨#[126]⟩:ByteArray)) else (if a0_0=2 then (if 1+a0_2.size≤9223372036854775807 then (if ((⟨#[34]⟩:ByteArray)++a0_2).size+1≤9223372036854775807 then (some (((⟨#[34]⟩:ByteArray)++a0_2)++(⟨#[34]⟩:ByteArray))) else (none)) else (none)) else (if a0_0=3 then (some (⟨#[95]⟩:ByteArray)) else (if a0_0=4 then (some (⟨#[46]⟩:ByteArray)) else (if a0_0=5 then (some (⟨#[33]⟩:ByteArray)) else (if a0_0=6 then ((some (([(wrap64 (48+a0_1)) % 256]:List Int):List Int)).bind fun y607=>(if (strOfNums y607).size+1≤9223372036854775807 then (if 0 < (l0_3.length:Int) then ((impl_formatDoc.f k ((rd_TDoc l0_3 0).f0) ((rd_TDoc l0_3 0).f1) ((rd_TDoc l0_3 0).f2) ((rd_TDoc l0_3 0).f3)).bind fun t611=>(if ((strOfNums y607)++(⟨#[60]⟩:ByteArray)).size+t611.size≤9223372036854775807 then (if (((strOfNums y607)++(⟨#[60]⟩:ByteArray))++t611).size+1≤9223372036854775807 then (some ((((strOfNums y607)++(⟨#[60]⟩:ByteArray))++t611)++(⟨#[62]⟩:ByteArray))) else (none)) else (none))) else (none)) else (none))) else (if a0_0=7 then (if 0 < (l0_3.length:Int) then ((impl_formatDoc.f k ((rd_TDoc l0_3 0).f0) ((rd_TDoc l0_3 0).f1) ((rd_TDoc l0_3 0).f2) ((rd_TDoc l0_3 0).f3)).bind fun t613=>(if 1+t613.size≤9223372036854775807 then (if 1 < (l0_3.length:Int) then ((impl_formatDoc.f k ((rd_TDoc l0_3 1).f0) ((rd_TDoc l0_3 1).f1) ((rd_TDoc l0_3 1).f2) ((rd_TDoc l0_3 1).f3)).bind fun t615=>(if ((⟨#[40]⟩:ByteArray)++t613).size+t615.size≤9223372036854775807 then (if (((⟨#[40]⟩:ByteArray)++t613)++t615).size+1≤9223372036854775807 then (some ((((⟨#[40]⟩:ByteArray)++t613)++t615)++(⟨#[41]⟩:ByteArray))) else (none)) else (none))) else (none)) else (none))) else (none)) else (if 0 < (l0_3.length:Int) then ((impl_formatDoc.f k ((rd_TDoc l0_3 0).f0) ((rd_TDoc l0_3 0).f1) ((rd_TDoc l0_3 0).f2) ((rd_TDoc l0_3 0).f3)).bind fun t617=>(if 1+t617.size≤9223372036854775807 then (if ((⟨#[91]⟩:ByteArray)++t617).size+1≤9223372036854775807 then (some (((⟨#[91]⟩:ByteArray)++t617)++(⟨#[93]⟩:ByteArray))) else (none)) else (none))) else (none)))))))))=some r:=h
 clear h
 by_cases c2:a0_0=1
 ·rw [if_pos c2] at H
  have c2b0:(a0_0 == 1)=true:=beq_iff_eq.mpr c2
  have c2b1:(a0_0 != 1)=false:=bne_eq_false_iff_eq.mpr c2
  clear c2
  obtain rfl:=Option.some.inj H
  go_enter Try.func60,Try.ntmps60
  go_wp2_with (first|((with_reducible refine gate_dst (N:=1) rfl ?_);refine box_event ?hg (N:=1) ?hd (cs:=#[.int .i64 a0_0,.int .i64 a0_1,.string a0_2,.slice A0_3 l0_3.length c0_3]) (t:=27) ?hr ?_;(case hd=>rfl);(case hg=>rfl);(case hr=>first|(go_simp;done)|(go_simp;rfl));intro gb606 hg w3 hbox hb;have n0_:=Aside0.mk (below_step (gB HB) hb);have n1_:=Aside0.mk (hbox);have n2_:=Aside0.mk ((by rw [hg];exact (below_size (gB HB)):w.heap.size≤gb606));have n3_:=Aside0.mk ((by rw [hg];exact (below_size (gB HB)):w.heap.size≤gb606));clear HB;have HB:=n0_;have BK606:=n1_;have GW606:=n2_;have GE606:=n3_;clear n0_ n1_ n2_ n3_;clear hb hbox hg;have hcz4_0:w3.cell? ⟨gb606,0,none⟩=some (.int .i64 a0_0):=(blk_cell BK606.out 0).trans rfl;have hcz4_1:w3.cell? ⟨gb606,1,none⟩=some (.int .i64 a0_1):=(blk_cell BK606.out 1).trans rfl;have hcz4_2:w3.cell? ⟨gb606,2,none⟩=some (.string a0_2):=(blk_cell BK606.out 2).trans rfl;have hcz4_3:w3.cell? ⟨gb606,3,none⟩=some (.slice A0_3 l0_3.length c0_3):=(blk_cell BK606.out 3).trans rfl;have hfz4_0:=blk_frozen BK606.out 0;have hfz4_1:=blk_frozen BK606.out 1;have hfz4_2:=blk_frozen BK606.out 2;have hfz4_3:=blk_frozen BK606.out 3))
  go_ret
  exact ⟨by first|rfl|(simp [errW_none,errW_some] <;> rfl)|(simp [*,errW_none,errW_some] <;> rfl),by repeat (first|exact gB HB|refine below_set ?_ GE606.out)⟩
 ·rw [if_neg c2] at H
  have c2b0:(a0_0 == 1)=false:=beq_eq_false_iff_ne.mpr c2
  have c2b1:(a0_0 != 1)=true:=bne_iff_ne.mpr c2
  by_cases c5:a0_0=2
  ·rw [if_pos c5] at H
   have c5b0:(a0_0 == 2)=true:=beq_iff_eq.mpr c5
   have c5b1:(a0_0 != 2)=false:=bne_eq_false_iff_eq.mpr c5
   clear c5
   by_cases c6:1+a0_2.size≤9223372036854775807
   ·rw [if_pos c6] at H
    have c6b0:=eq_true c6
    have c6b1:decide (1+a0_2.size≤9223372036854775807)=true:=decide_eq_true c6
    try have c6b2:(9223372036854775807 < 1+a0_2.size)=False:=eq_false (Nat.not_lt.2 c6)
    by_cases c7:((⟨#[34]⟩:ByteArray)++a0_2).size+1≤9223372036854775807
    ·rw [if_pos c7] at H
     have c7b0:=eq_true c7
     have c7b1:decide (((⟨#[34]⟩:ByteArray)++a0_2).size+1≤9223372036854775807)=true:=decide_eq_true c7
     try (have c7b4:=c7;(conv at c7b4=>(lhs;simp));have c7b5:=eq_false (Nat.not_lt.2 c7b4))
     try (have c7b6:=c7;(conv at c7b6=>(lhs;simp [go_sem]));have c7b7:=eq_false (Nat.not_lt.2 c7b6))
     try have c7b2:(9223372036854775807 < ((⟨#[34]⟩:ByteArray)++a0_2).size+1)=False:=eq_false (Nat.not_lt.2 c7)
     obtain rfl:=Option.some.inj H
     go_enter Try.func60,Try.ntmps60
     go_wp2_with (first|((with_reducible refine gate_dst (N:=1) rfl ?_);refine box_event ?hg (N:=1) ?hd (cs:=#[.int .i64 a0_0,.int .i64 a0_1,.string a0_2,.slice A0_3 l0_3.length c0_3]) (t:=27) ?hr ?_;(case hd=>rfl);(case hg=>rfl);(case hr=>first|(go_simp;done)|(go_simp;rfl));intro gb606 hg w8 hbox hb;have n0_:=Aside0.mk (below_step (gB HB) hb);have n1_:=Aside0.mk (hbox);have n2_:=Aside0.mk ((by rw [hg];exact (below_size (gB HB)):w.heap.size≤gb606));have n3_:=Aside0.mk ((by rw [hg];exact (below_size (gB HB)):w.heap.size≤gb606));clear HB;have HB:=n0_;have BK606:=n1_;have GW606:=n2_;have GE606:=n3_;clear n0_ n1_ n2_ n3_;clear hb hbox hg;have hcz9_0:w8.cell? ⟨gb606,0,none⟩=some (.int .i64 a0_0):=(blk_cell BK606.out 0).trans rfl;have hcz9_1:w8.cell? ⟨gb606,1,none⟩=some (.int .i64 a0_1):=(blk_cell BK606.out 1).trans rfl;have hcz9_2:w8.cell? ⟨gb606,2,none⟩=some (.string a0_2):=(blk_cell BK606.out 2).trans rfl;have hcz9_3:w8.cell? ⟨gb606,3,none⟩=some (.slice A0_3 l0_3.length c0_3):=(blk_cell BK606.out 3).trans rfl;have hfz9_0:=blk_frozen BK606.out 0;have hfz9_1:=blk_frozen BK606.out 1;have hfz9_2:=blk_frozen BK606.out 2;have hfz9_3:=blk_frozen BK606.out 3))
     go_ret
     exact ⟨by first|rfl|(simp [errW_none,errW_some] <;> rfl)|(simp [*,errW_none,errW_some] <;> rfl),by repeat (first|exact gB HB|refine below_set ?_ GE606.out)⟩
    ·rw [if_neg c7] at H
     exact absurd H (by simp)
   ·rw [if_neg c6] at H
    exact absurd H (by simp)
  ·rw [if_neg c5] at H
   have c5b0:(a0_0 == 2)=false:=beq_eq_false_iff_ne.mpr c5
   have c5b1:(a0_0 != 2)=true:=bne_iff_ne.mpr c5
   by_cases c10:a0_0=3
   ·rw [if_pos c10] at H
    have c10b0:(a0_0 == 3)=true:=beq_iff_eq.mpr c10
    have c10b1:(a0_0 != 3)=false:=bne_eq_false_iff_eq.mpr c10
    clear c10
    obtain rfl:=Option.some.inj H
    go_enter Try.func60,Try.ntmps60
    go_wp2_with (first|((with_reducible refine gate_dst (N:=1) rfl ?_);refine box_event ?hg (N:=1) ?hd (cs:=#[.int .i64 a0_0,.int .i64 a0_1,.string a0_2,.slice A0_3 l0_3.length c0_3]) (t:=27) ?hr ?_;(case hd=>rfl);(case hg=>rfl);(case hr=>first|(go_simp;done)|(go_simp;rfl));intro gb606 hg w11 hbox hb;have n0_:=Aside0.mk (below_step (gB HB) hb);have n1_:=Aside0.mk (hbox);have n2_:=Aside0.mk ((by rw [hg];exact (below_size (gB HB)):w.heap.size≤gb606));have n3_:=Aside0.mk ((by rw [hg];exact (below_size (gB HB)):w.heap.size≤gb606));clear HB;have HB:=n0_;have BK606:=n1_;have GW606:=n2_;have GE606:=n3_;clear n0_ n1_ n2_ n3_;clear hb hbox hg;have hcz12_0:w11.cell? ⟨gb606,0,none⟩=some (.int .i64 a0_0):=(blk_cell BK606.out 0).trans rfl;have hcz12_1:w11.cell? ⟨gb606,1,none⟩=some (.int .i64 a0_1):=(blk_cell BK606.out 1).trans rfl;have hcz12_2:w11.cell? ⟨gb606,2,none⟩=some (.string a0_2):=(blk_cell BK606.out 2).trans rfl;have hcz12_3:w11.cell? ⟨gb606,3,none⟩=some (.slice A0_3 l0_3.length c0_3):=(blk_cell BK606.out 3).trans rfl;have hfz12_0:=blk_frozen BK606.out 0;have hfz12_1:=blk_frozen BK606.out 1;have hfz12_2:=blk_frozen BK606.out 2;have hfz12_3:=blk_frozen BK606.out 3))
    go_ret
    exact ⟨by first|rfl|(simp [errW_none,errW_some] <;> rfl)|(simp [*,errW_none,errW_some] <;> rfl),by repeat (first|exact gB HB|refine below_set ?_ GE606.out)⟩
   ·rw [if_neg c10] at H
    have c10b0:(a0_0 == 3)=false:=beq_eq_false_iff_ne.mpr c10
    have c10b1:(a0_0 != 3)=true:=bne_iff_ne.mpr c10
    by_cases c13:a0_0=4
    ·rw [if_pos c13] at H
     have c13b0:(a0_0 == 4)=true:=beq_iff_eq.mpr c13
     have c13b1:(a0_0 != 4)=false:=bne_eq_false_iff_eq.mpr c13
     clear c13
     obtain rfl:=Option.some.inj H
     go_enter Try.func60,Try.ntmps60
     go_wp2_with (first|((with_reducible refine gate_dst (N:=1) rfl ?_);refine box_event ?hg (N:=1) ?hd (cs:=#[.int .i64 a0_0,.int .i64 a0_1,.string a0_2,.slice A0_3 l0_3.length c0_3]) (t:=27) ?hr ?_;(case hd=>rfl);(case hg=>rfl);(case hr=>first|(go_simp;done)|(go_simp;rfl));intro gb606 hg w14 hbox hb;have n0_:=Aside0.mk (below_step (gB HB) hb);have n1_:=Aside0.mk (hbox);have n2_:=Aside0.mk ((by rw [hg];exact (below_size (gB HB)):w.heap.size≤gb606));have n3_:=Aside0.mk ((by rw [hg];exact (below_size (gB HB)):w.heap.size≤gb606));clear HB;have HB:=n0_;have BK606:=n1_;have GW606:=n2_;have GE606:=n3_;clear n0_ n1_ n2_ n3_;clear hb hbox hg;have hcz15_0:w14.cell? ⟨gb606,0,none⟩=some (.int .i64 a0_0):=(blk_cell BK606.out 0).trans rfl;have hcz15_1:w14.cell? ⟨gb606,1,none⟩=some (.int .i64 a0_1):=(blk_cell BK606.out 1).trans rfl;have hcz15_2:w14.cell? ⟨gb606,2,none⟩=some (.string a0_2):=(blk_cell BK606.out 2).trans rfl;have hcz15_3:w14.cell? ⟨gb606,3,none⟩=some (.slice A0_3 l0_3.length c0_3):=(blk_cell BK606.out 3).trans rfl;have hfz15_0:=blk_frozen BK606.out 0;have hfz15_1:=blk_frozen BK606.out 1;have hfz15_2:=blk_frozen BK606.out 2;have hfz15_3:=blk_frozen BK606.out 3))
     go_ret
     exact ⟨by first|rfl|(simp [errW_none,errW_some] <;> rfl)|(simp [*,errW_none,errW_some] <;> rfl),by repeat (first|exact gB HB|refine below_set ?_ GE606.out)⟩
    ·rw [if_neg c13] at H
     have c13b0:(a0_0 == 4)=false:=beq_eq_false_iff_ne.mpr c13
     have c13b1:(a0_0 != 4)=true:=bne_iff_ne.mpr c13
     by_cases c16:a0_0=5
     ·rw [if_pos c16] at H
      have c16b0:(a0_0 == 5)=true:=beq_iff_eq.mpr c16
      have c16b1:(a0_0 != 5)=false:=bne_eq_false_iff_eq.mpr c16
      clear c16
      obtain rfl:=Option.some.inj H
      go_enter Try.func60,Try.ntmps60
      go_wp2_with (first|((with_reducible refine gate_dst (N:=1) rfl ?_);refine box_event ?hg (N:=1) ?hd (cs:=#[.int .i64 a0_0,.int .i64 a0_1,.string a0_2,.slice A0_3 l0_3.length c0_3]) (t:=27) ?hr ?_;(case hd=>rfl);(case hg=>rfl);(case hr=>first|(go_simp;done)|(go_simp;rfl));intro gb606 hg w17 hbox hb;have n0_:=Aside0.mk (below_step (gB HB) hb);have n1_:=Aside0.mk (hbox);have n2_:=Aside0.mk ((by rw [hg];exact (below_size (gB HB)):w.heap.size≤gb606));have n3_:=Aside0.mk ((by rw [hg];exact (below_size (gB HB)):w.heap.size≤gb606));clear HB;have HB:=n0_;have BK606:=n1_;have GW606:=n2_;have GE606:=n3_;clear n0_ n1_ n2_ n3_;clear hb hbox hg;have hcz18_0:w17.cell? ⟨gb606,0,none⟩=some (.int .i64 a0_0):=(blk_cell BK606.out 0).trans rfl;have hcz18_1:w17.cell? ⟨gb606,1,none⟩=some (.int .i64 a0_1):=(blk_cell BK606.out 1).trans rfl;have hcz18_2:w17.cell? ⟨gb606,2,none⟩=some (.string a0_2):=(blk_cell BK606.out 2).trans rfl;have hcz18_3:w17.cell? ⟨gb606,3,none⟩=some (.slice A0_3 l0_3.length c0_3):=(blk_cell BK606.out 3).trans rfl;have hfz18_0:=blk_frozen BK606.out 0;have hfz18_1:=blk_frozen BK606.out 1;have hfz18_2:=blk_frozen BK606.out 2;have hfz18_3:=blk_frozen BK606.out 3))
      go_ret
      exact ⟨by first|rfl|(simp [errW_none,errW_some] <;> rfl)|(simp [*,errW_none,errW_some] <;> rfl),by repeat (first|exact gB HB|refine below_set ?_ GE606.out)⟩
     ·rw [if_neg c16] at H
      have c16b0:(a0_0 == 5)=false:=beq_eq_false_iff_ne.mpr c16
      have c16b1:(a0_0 != 5)=true:=bne_iff_ne.mpr c16
      by_cases c19:a0_0=6
      ·rw [if_pos c19] at H
       have c19b0:(a0_0 == 6)=true:=beq_iff_eq.mpr c19
       have c19b1:(a0_0 != 6)=false:=bne_eq_false_iff_eq.mpr c19
       clear c19
       obtain ⟨y607,hy607⟩:∃ y_:List Int,y_=(([(wrap64 (48+a0_1)) % 256]:List Int)):=⟨_,rfl⟩
       replace H:(if (strOfNums y607).size+1≤9223372036854775807 then (if 0 < (l0_3.length:Int) then ((impl_formatDoc.f k ((rd_TDoc l0_3 0).f0) ((rd_TDoc l0_3 0).f1) ((rd_TDoc l0_3 0).f2) ((rd_TDoc l0_3 0).f3)).bind fun t611=>(if ((strOfNums y607)++(⟨#[60]⟩:ByteArray)).size+t611.size≤9223372036854775807 then (if (((strOfNums y607)++(⟨#[60]⟩:ByteArray))++t611).size+1≤9223372036854775807 then (some ((((strOfNums y607)++(⟨#[60]⟩:ByteArray))++t611)++(⟨#[62]⟩:ByteArray))) else (none)) else (none))) else (none)) else (none))=some r:=by first|(rw [hy607];with_reducible exact H)|(have H2_:=(Option.bind_some _ _).symm.trans H;rw [hy607];with_reducible exact H2_)|(have H2_:=(Option.bind_some _ _).symm.trans H;with_reducible exact H2_)|with_reducible exact H|(rw [hy607];exact H)|exact H
       have Ny607:=Aside0.mk hy607
       clear hy607
       by_cases c20:(strOfNums y607).size+1≤9223372036854775807
       ·rw [if_pos c20] at H
        have c20b0:=eq_true c20
        have c20b1:decide ((strOfNums y607).size+1≤9223372036854775807)=true:=decide_eq_true c20
        try have c20b2:(9223372036854775807 < (strOfNums y607).size+1)=False:=eq_false (Nat.not_lt.2 c20)
        by_cases c21:0 < (l0_3.length:Int)
        ·rw [if_pos c21] at H
         have c21b0:decide (0 < (l0_3.length:Int))=true:=decide_eq_true c21
         have c21b1:decide (0 < l0_3.length)=true:=decide_eq_true (by omega)
         clear c21
         replace H:=Option.bind_eq_some_iff.mp H
         obtain ⟨t611,A220,H⟩:=H
         replace H:(if ((strOfNums y607)++(⟨#[60]⟩:ByteArray)).size+t611.size≤9223372036854775807 then (if (((strOfNums y607)++(⟨#[60]⟩:ByteArray))++t611).size+1≤9223372036854775807 then (some ((((strOfNums y607)++(⟨#[60]⟩:ByteArray))++t611)++(⟨#[62]⟩:ByteArray))) else (none)) else (none))=some r:=H
         have A22:=Aside0.mk A220
         clear A220
         by_cases c23:((strOfNums y607)++(⟨#[60]⟩:ByteArray)).size+t611.size≤9223372036854775807
         ·rw [if_pos c23] at H
          have c23b0:=eq_true c23
          have c23b1:decide (((strOfNums y607)++(⟨#[60]⟩:ByteArray)).size+t611.size≤9223372036854775807)=true:=decide_eq_true c23
          try (have c23b4:=c23;(conv at c23b4=>(lhs;simp));have c23b5:=eq_false (Nat.not_lt.2 c23b4))
          try (have c23b6:=c23;(conv at c23b6=>(lhs;simp [go_sem]));have c23b7:=eq_false (Nat.not_lt.2 c23b6))
          try have c23b2:(9223372036854775807 < ((strOfNums y607)++(⟨#[60]⟩:ByteArray)).size+t611.size)=False:=eq_false (Nat.not_lt.2 c23)
          by_cases c24:(((strOfNums y607)++(⟨#[60]⟩:ByteArray))++t611).size+1≤9223372036854775807
          ·rw [if_pos c24] at H
           have c24b0:=eq_true c24
           have c24b1:decide ((((strOfNums y607)++(⟨#[60]⟩:ByteArray))++t611).size+1≤9223372036854775807)=true:=decide_eq_true c24
           try (have c24b4:=c24;(conv at c24b4=>(lhs;simp));have c24b5:=eq_false (Nat.not_lt.2 c24b4))
           try (have c24b6:=c24;(conv at c24b6=>(lhs;simp [go_sem]));have c24b7:=eq_false (Nat.not_lt.2 c24b6))
           try have c24b2:(9223372036854775807 < (((strOfNums y607)++(⟨#[60]⟩:ByteArray))++t611).size+1)=False:=eq_false (Nat.not_lt.2 c24)
           obtain rfl:=Option.some.inj H
           go_enter Try.func60,Try.ntmps60
           try go_wp2_with (first|((with_reducible refine gate_dst (N:=1) rfl ?_);refine box_event ?hg (N:=1) ?hd (cs:=#[.int .i64 a0_0,.int .i64 a0_1,.string a0_2,.slice A0_3 l0_3.length c0_3]) (t:=27) ?hr ?_;(case hd=>rfl);(case hg=>rfl);(case hr=>first|(go_simp;done)|(go_simp;rfl));intro gb606 hg w25 hbox hb;have n0_:=Aside0.mk (below_step (gB HB) hb);have n1_:=Aside0.mk (hbox);have n2_:=Aside0.mk ((by rw [hg];exact (below_size (gB HB)):w.heap.size≤gb606));have n3_:=Aside0.mk ((by rw [hg];exact (below_size (gB HB)):w.heap.size≤gb606));clear HB;have HB:=n0_;have BK606:=n1_;have GW606:=n2_;have GE606:=n3_;clear n0_ n1_ n2_ n3_;clear hb hbox hg;have hcz26_0:w25.cell? ⟨gb606,0,none⟩=some (.int .i64 a0_0):=(blk_cell BK606.out 0).trans rfl;have hcz26_1:w25.cell? ⟨gb606,1,none⟩=some (.int .i64 a0_1):=(blk_cell BK606.out 1).trans rfl;have hcz26_2:w25.cell? ⟨gb606,2,none⟩=some (.string a0_2):=(blk_cell BK606.out 2).trans rfl;have hcz26_3:w25.cell? ⟨gb606,3,none⟩=some (.slice A0_3 l0_3.length c0_3):=(blk_cell BK606.out 3).trans rfl;have hfz26_0:=blk_frozen BK606.out 0;have hfz26_1:=blk_frozen BK606.out 1;have hfz26_2:=blk_frozen BK606.out 2;have hfz26_3:=blk_frozen BK606.out 3))
           have n0_:=Aside0.mk (blk_drew BK606.out)
           have n1_:=Aside0.mk (below_drew1 HB.out)
           clear BK606
           clear HB
           have BK606:=n0_
           have HB:=n1_
           clear n0_ n1_
           have p610:0≤(0:Int):=(by omega)
           have q610:0 < (l0_3.length:Int):=of_decide_eq_true (by first|(with_reducible assumption)|assumption)
           obtain ⟨ad610,A610_3,c610_3,e610,hx610_0,hx610_1,hx610_2,hx610_3,hl610_3,hi610_3⟩:=at_TDoc HR0_3.out 0 p610 q610
           have hw610_3:=hx610_3
           (try rw [show ((0:Int)).toNat=0 from rfl] at hw610_3)
           (try rw [show 0 * 4=0 from rfl] at hw610_3)
           (try rw [Addr.add_zero'] at hw610_3)
           have hw610_2:=hx610_2
           (try rw [show ((0:Int)).toNat=0 from rfl] at hw610_2)
           (try rw [show 0 * 4=0 from rfl] at hw610_2)
           (try rw [Addr.add_zero'] at hw610_2)
           have hw610_1:=hx610_1
           (try rw [show ((0:Int)).toNat=0 from rfl] at hw610_1)
           (try rw [show 0 * 4=0 from rfl] at hw610_1)
           (try rw [Addr.add_zero'] at hw610_1)
           have hw610_0:=hx610_0
           (try rw [show ((0:Int)).toNat=0 from rfl] at hw610_0)
           (try rw [show 0 * 4=0 from rfl] at hw610_0)
           (try rw [Addr.add_zero'] at hw610_0)
           cases e610
           have qi610:(0 < l0_3.length)=True:=eq_true (by omega)
           (try rw [show ((0:Int)).toNat=0 from rfl] at hx610_0)
           (try rw [show 0 * 4=0 from rfl] at hx610_0)
           (try rw [Addr.add_zero'] at hx610_0)
           (try rw [show ((0:Int)).toNat=0 from rfl] at hx610_1)
           (try rw [show 0 * 4=0 from rfl] at hx610_1)
           (try rw [Addr.add_zero'] at hx610_1)
           (try rw [show ((0:Int)).toNat=0 from rfl] at hx610_2)
           (try rw [show 0 * 4=0 from rfl] at hx610_2)
           (try rw [Addr.add_zero'] at hx610_2)
           (try rw [show ((0:Int)).toNat=0 from rfl] at hx610_3)
           (try rw [show 0 * 4=0 from rfl] at hx610_3)
           (try rw [Addr.add_zero'] at hx610_3)
           replace hx610_0:=(HB.out.cell (World.block_lt_of_cell? w _ hx610_0)).trans hx610_0
           replace hx610_1:=(HB.out.cell (World.block_lt_of_cell? w _ hx610_1)).trans hx610_1
           replace hx610_2:=(HB.out.cell (World.block_lt_of_cell? w _ hx610_2)).trans hx610_2
           replace hx610_3:=(HB.out.cell (World.block_lt_of_cell? w _ hx610_3)).trans hx610_3
           have HR610_3:=Aside0.mk hi610_3
           have HC610_3:=Aside0.mk hl610_3
           clear hi610_3 hl610_3
           replace p610:=eq_true p610
           replace q610:=eq_true q610
           refine start_ (n:=15) (S:=fun w'=>w'.cell? ⟨gb606,0,none⟩=some (.int .i64 a0_0)∧w'.cell? ⟨gb606,1,none⟩=some (.int .i64 a0_1)∧w'.cell? ⟨gb606,2,none⟩=some (.string a0_2)∧w'.cell? ⟨gb606,3,none⟩=some (.slice (some ad610) l0_3.length c0_3)∧w'.cell? ad610=some (.int .i64 ((rd_TDoc l0_3 0).f0))∧w'.cell? ⟨ad610.block,ad610.off+1,none⟩=some (.int .i64 ((rd_TDoc l0_3 0).f1))∧w'.cell? ⟨ad610.block,ad610.off+2,none⟩=some (.string ((rd_TDoc l0_3 0).f2))∧w'.cell? ⟨ad610.block,ad610.off+3,none⟩=some (.slice A610_3 ((rd_TDoc l0_3 0).f3).length c610_3)) (ds:=[]) #[false,false,false,false,false,false,false,false,false,false,false,false,false,false,false] (by kernel_rfl) rfl rfl ⟨(blk_cell BK606.out 0).trans rfl,(blk_cell BK606.out 1).trans rfl,(blk_cell BK606.out 2).trans rfl,(blk_cell BK606.out 3).trans rfl,((HB.out.cell (World.block_lt_of_cell? w _ hw610_0)).trans hw610_0),((HB.out.cell (World.block_lt_of_cell? w _ hw610_1)).trans hw610_1),((HB.out.cell (World.block_lt_of_cell? w _ hw610_2)).trans hw610_2),((HB.out.cell (World.block_lt_of_cell? w _ hw610_3)).trans hw610_3)⟩ (fun hHeld=>?_);refine with_tabW impl_formatDoc.tab13 impl_formatDoc.bits13 (fun HT_ HW_=>?_)
           generalize w25.drew=w27 at BK606 HB HR610_3 hx610_0 hx610_1 hx610_2 hx610_3 hHeld ⊢
           refine pure_ (i:=0) (N:=some 21) (v:=?_) (a':=?_) #[true,false,false,false,false,false,false,false,false,false,false,false,false,false,false] rfl rfl (any_of HT_.out (by kernel_rfl)) (fun _ _ _ h=>h) (Or.inl ⟨by rfl,?_⟩) ?_ ?_
           rotate_left
           ·intro w'
            go_simp
            with_reducible rfl
           rotate_left
           ·simp only [Act.put,List.setIfInBounds_toArray,List.set_cons_zero,List.set_cons_succ,i64_w,i32_w]
            rfl
           refine pure_ (i:=7) (N:=some 28) (v:=?_) (a':=?_) #[true,false,false,false,false,false,false,true,false,false,false,false,false,false,false] rfl rfl (any_of HT_.out (by kernel_rfl)) (fun _ _ _ h=>h) (Or.inl ⟨by rfl,?_⟩) ?_ ?_
           rotate_left
           ·intro w'
            go_simp
            with_reducible rfl
           rotate_left
           ·simp only [Act.put,List.setIfInBounds_toArray,List.set_cons_zero,List.set_cons_succ,i64_w,i32_w]
            rfl
           refine take_ (i:=1) (N:=some 22) (v:=?_) (a':=?_) #[true,true,false,false,false,false,false,true,false,false,false,false,false,false,false] rfl rfl (take_ofW HT_.out HW_.out (by kernel_rfl)) (fun _ _ _ h=>h) (Or.inl ⟨by rfl,?_⟩) hHeld ?_ ?_
           rotate_left
           ·rintro w' ⟨s0,s1,s2,s3,s4,s5,s6,s7⟩
            go_simp
            with_reducible rfl
           rotate_left
           ·simp only [Act.put,List.setIfInBounds_toArray,List.set_cons_zero,List.set_cons_succ,i64_w,i32_w]
            rfl
           refine pure_ (i:=2) (N:=some 23) (v:=?_) (a':=?_) #[true,true,true,false,false,false,false,true,false,false,false,false,false,false,false] rfl rfl (any_of HT_.out (by kernel_rfl)) (fun _ _ _ h=>h) (Or.inl ⟨by rfl,?_⟩) ?_ ?_
           rotate_left
           ·intro w'
            go_simp
            with_reducible rfl
           rotate_left
           ·simp only [Act.put,List.setIfInBounds_toArray,List.set_cons_zero,List.set_cons_succ,i64_w,i32_w]
            rfl
           refine pure_ (i:=3) (N:=some 24) (v:=?_) (a':=?_) #[true,true,true,true,false,false,false,true,false,false,false,false,false,false,false] rfl rfl (any_of HT_.out (by kernel_rfl)) (fun _ _ _ h=>h) (Or.inl ⟨by rfl,?_⟩) ?_ ?_
           rotate_left
           ·intro w'
            go_simp
            with_reducible rfl
           rotate_left
           ·simp only [Act.put,List.setIfInBounds_toArray,List.set_cons_zero,List.set_cons_succ,i64_w,i32_w]
            rfl
           refine take_ (i:=8) (N:=some 29) (v:=?_) (a':=?_) #[true,true,true,true,false,false,false,true,true,false,false,false,false,false,false] rfl rfl (take_ofW HT_.out HW_.out (by kernel_rfl)) (fun _ _ _ h=>h) (Or.inl ⟨by rfl,?_⟩) hHeld ?_ ?_
           rotate_left
           ·rintro w' ⟨s0,s1,s2,s3,s4,s5,s6,s7⟩
            go_simp
            with_reducible rfl
           rotate_left
           ·simp only [Act.put,List.setIfInBounds_toArray,List.set_cons_zero,List.set_cons_succ,i64_w,i32_w]
            rfl
           refine pure_ (i:=9) (N:=some 30) (v:=?_) (a':=?_) #[true,true,true,true,false,false,false,true,true,true,false,false,false,false,false] rfl rfl (any_of HT_.out (by kernel_rfl)) (fun _ _ _ h=>h) (Or.inl ⟨by rfl,?_⟩) ?_ ?_
           rotate_left
           ·intro w'
            go_simp
            with_reducible rfl
           rotate_left
           ·simp only [Act.put,List.setIfInBounds_toArray,List.set_cons_zero,List.set_cons_succ,i64_w,i32_w]
            rfl
           refine take_ (i:=10) (N:=some 31) (v:=?_) (a':=?_) #[true,true,true,true,false,false,false,true,true,true,true,false,false,false,false] rfl rfl (take_ofW HT_.out HW_.out (by kernel_rfl)) (fun _ _ _ h=>h) (Or.inl ⟨by rfl,?_⟩) hHeld ?_ ?_
           rotate_left
           ·rintro w' ⟨s0,s1,s2,s3,s4,s5,s6,s7⟩
            go_simp
            with_reducible rfl
           rotate_left
           ·simp only [Act.put,List.setIfInBounds_toArray,List.set_cons_zero,List.set_cons_succ,i64_w,i32_w]
            rfl
           refine join_ (σ:=Value) 3 #[true,true,true,true,true,true,true,true,true,true,true,true,false,false,false] (fun s_=>[(25,s_),(26,.string (strOfNums y607)),(32,.string t611),(27,.string ((strOfNums y607)++(⟨#[60]⟩:ByteArray)))]) (fun s_ w'=>(w'.cell? ⟨gb606,0,none⟩=some (.int .i64 a0_0)∧w'.cell? ⟨gb606,1,none⟩=some (.int .i64 a0_1)∧w'.cell? ⟨gb606,2,none⟩=some (.string a0_2)∧w'.cell? ⟨gb606,3,none⟩=some (.slice (some ad610) l0_3.length c0_3)∧w'.cell? ad610=some (.int .i64 ((rd_TDoc l0_3 0).f0))∧w'.cell? ⟨ad610.block,ad610.off+1,none⟩=some (.int .i64 ((rd_TDoc l0_3 0).f1))∧w'.cell? ⟨ad610.block,ad610.off+2,none⟩=some (.string ((rd_TDoc l0_3 0).f2))∧w'.cell? ⟨ad610.block,ad610.off+3,none⟩=some (.slice A610_3 ((rd_TDoc l0_3 0).f3).length c610_3))∧(Kd.R (Kd.int .u8) 5 w' w.heap.size (fun _=>True) s_ y607)∧(w'.heap[gb606]?=some (.cells #[.int .i64 a0_0,.int .i64 a0_1,.string a0_2,.slice (some ad610) l0_3.length c0_3] 27 (0,0)))∧(Below w.heap.size w w')) ?_ ?_
           rotate_left
           ·intro hCont
            refine two_ (i:=4) (j:=11) (Ni:=some 25) (Nj:=some 32) #[true,true,true,true,true,false,false,true,true,true,true,false,false,false,false] #[true,true,true,true,false,false,false,true,true,true,true,true,false,false,false] rfl rfl rfl rfl (two_of HT_.out (by kernel_rfl)) (by decide) (by decide) (fun K hK=>?_) (fun K hK=>?_)
            ·skip
             refine Kd.R_lit_step (Kd.int .u8) _ 5 ?hg (N:=25) ?hd (xs:=([(wrap64 (48+a0_1)) % 256]:List Int)) (inner:=[.int .u8 ((wrap64 (48+a0_1)) % 256)]) (ok:=fun _=>True) (okp:=fun _=>True) ?hr ?hp (fun _ hk=>hk) trivial (Below.refl _ _) (Nat.le_refl _) (by simp) ?_;(case hd=>rfl);(case hg=>rfl);(case hr=>first|(go_simp;done)|(go_simp;rfl));(case hp=>exact (Reps.one (show Kd.M (Kd.int .u8) _ _ _ ((wrap64 (48+a0_1)) % 256) [.int .u8 ((wrap64 (48+a0_1)) % 256)] from rfl) (Reps.none _ _)))
             intro v608 w28 ho29 hb hg_ hnew_
             clear hg_ hnew_
             (first|rw [← Ny607.out] at ho29|(simp only [Int.reduceToNat] at ho29;rw [← Ny607.out] at ho29))
             have n0_:=Aside0.mk (Kd.R_lower ho29 (below_size (by repeat (first|exact gB HB|refine below_set ?_ GE606.out))))
             have n1_:=Aside0.mk (blk_below (g:=gb606) (o:=.cells #[.int .i64 a0_0,.int .i64 a0_1,.string a0_2,.slice (some ad610) l0_3.length c0_3] 27 (0,0)) (gK BK606) hb)
             have n2_:=Aside0.mk (below_step (by repeat (first|exact gB HB|refine below_set ?_ GE606.out)) hb)
             clear BK606
             clear HB
             have HO609:=n0_
             have BK606:=n1_
             have HB:=n2_
             clear n0_ n1_ n2_
             clear hb ho29
             refine hK.out _ _ ⟨(blk_cell BK606.out 0).trans rfl,(blk_cell BK606.out 1).trans rfl,(blk_cell BK606.out 2).trans rfl,(blk_cell BK606.out 3).trans rfl,((HB.out.cell (World.block_lt_of_cell? w _ hw610_0)).trans hw610_0),((HB.out.cell (World.block_lt_of_cell? w _ hw610_1)).trans hw610_1),((HB.out.cell (World.block_lt_of_cell? w _ hw610_2)).trans hw610_2),((HB.out.cell (World.block_lt_of_cell? w _ hw610_3)).trans hw610_3)⟩ (fun hHeld=>?_)
             clear hK K
             refine norm_ (a':=?_) ?_ ?_
             rotate_left
             ·show Act.put _ (some 25) _=_
              simp only [Act.put,List.setIfInBounds_toArray,List.set_cons_zero,List.set_cons_succ,i64_w,i32_w]
              rfl
             refine two_ (i:=5) (j:=11) (Ni:=some 26) (Nj:=some 32) #[true,true,true,true,true,true,false,true,true,true,true,false,false,false,false] #[true,true,true,true,true,false,false,true,true,true,true,true,false,false,false] rfl rfl rfl rfl (two_of HT_.out (by kernel_rfl)) (by decide) (by decide) (fun K hK=>?_) (fun K hK=>?_)
             ·skip
              have hcv30:=own_string (P:=Try.prog) Try.underlying22 Try.underlying5 Try.underlying9 (Kd.own_of_R HO609.out)
              refine value_ (w1:=?_) (v:=?_) (by rfl) rfl ?_ ?_
              rotate_left 2
              ·go_simp
               constructor
               ·rfl
               ·rfl
              clear hcv30
              refine hK.out _ _ ⟨(blk_cell BK606.out 0).trans rfl,(blk_cell BK606.out 1).trans rfl,(blk_cell BK606.out 2).trans rfl,(blk_cell BK606.out 3).trans rfl,((HB.out.cell (World.block_lt_of_cell? w _ hw610_0)).trans hw610_0),((HB.out.cell (World.block_lt_of_cell? w _ hw610_1)).trans hw610_1),((HB.out.cell (World.block_lt_of_cell? w _ hw610_2)).trans hw610_2),((HB.out.cell (World.block_lt_of_cell? w _ hw610_3)).trans hw610_3)⟩ (fun hHeld=>?_)
              clear hK K
              refine norm_ (a':=?_) ?_ ?_
              rotate_left
              ·show Act.put _ (some 26) _=_
               simp only [Act.put,List.setIfInBounds_toArray,List.set_cons_zero,List.set_cons_succ,i64_w,i32_w]
               rfl
              refine pure_ (i:=6) (N:=some 27) (v:=?_) (a':=?_) #[true,true,true,true,true,true,true,true,true,true,true,false,false,false,false] rfl rfl (any_of HT_.out (by kernel_rfl)) (fun _ _ _ h=>h) (Or.inl ⟨by rfl,?_⟩) ?_ ?_
              rotate_left
              ·intro w'
               go_simp
               with_reducible rfl
              rotate_left
              ·simp only [Act.put,List.setIfInBounds_toArray,List.set_cons_zero,List.set_cons_succ,i64_w,i32_w]
               rfl
              refine one_ (i:=11) (N:=some 32) #[true,true,true,true,true,true,true,true,true,true,true,true,false,false,false] rfl rfl (one_of HT_.out (by kernel_rfl)) (by decide) (fun K hK=>?_)
              refine goes_ Try.func60 (by kernel_rfl) rfl #[.agg #[.int .i64 ((rd_TDoc l0_3 0).f0),.int .i64 ((rd_TDoc l0_3 0).f1),.string ((rd_TDoc l0_3 0).f2),.slice A610_3 ((rd_TDoc l0_3 0).f3).length c610_3]] (by rfl) rfl rfl (by (try simp only [List.map_toArray,List.map_cons,List.map_nil]);first|done|rfl|(simp only [List.length_drop,List.length_take];rfl)) ?_
              with_reducible refine (ih k (by omega) ((rd_TDoc l0_3 0).f0) ((rd_TDoc l0_3 0).f1) ((rd_TDoc l0_3 0).f2) _ _ ((rd_TDoc l0_3 0).f3) t611 _ ?side1 ?side2 A22.out).mono ?_
              (case side1=>exact gC (Kd.C_below HR610_3.out HB.out))
              (case side2=>exact HC610_3.out)
              rintro e w31 ⟨rfl,hb⟩
              refine ⟨_,rfl,?_⟩
              have n0_:=Aside0.mk (Kd.R_below (gR HO609) hb)
              have n1_:=Aside0.mk (blk_below (g:=gb606) (o:=.cells #[.int .i64 a0_0,.int .i64 a0_1,.string a0_2,.slice (some ad610) l0_3.length c0_3] 27 (0,0)) (gK BK606) hb)
              have n2_:=Aside0.mk (below_step (by repeat (first|exact gB HB|refine below_set ?_ GE606.out)) hb)
              clear HO609
              clear BK606
              clear HB
              have HO609:=n0_
              have BK606:=n1_
              have HB:=n2_
              clear n0_ n1_ n2_
              (try clear hb)
              (try clear hb2)
              (try clear hk)
              (try clear hi)
              refine hK.out _ _ ⟨(blk_cell BK606.out 0).trans rfl,(blk_cell BK606.out 1).trans rfl,(blk_cell BK606.out 2).trans rfl,(blk_cell BK606.out 3).trans rfl,((HB.out.cell (World.block_lt_of_cell? w _ hw610_0)).trans hw610_0),((HB.out.cell (World.block_lt_of_cell? w _ hw610_1)).trans hw610_1),((HB.out.cell (World.block_lt_of_cell? w _ hw610_2)).trans hw610_2),((HB.out.cell (World.block_lt_of_cell? w _ hw610_3)).trans hw610_3)⟩ (fun hHeld=>?_)
              clear hK K
              refine norm_ (a':=?_) ?_ ?_
              rotate_left
              ·show Act.put _ (some 32) _=_
               simp only [Act.put,List.setIfInBounds_toArray,List.set_cons_zero,List.set_cons_succ,i64_w,i32_w]
               rfl
              exact norm_ (by simp only [putAll,Act.put,List.setIfInBounds_toArray,List.set_cons_zero,List.set_cons_succ]) (hCont (v608) _ ⟨hHeld,(gR HO609),(gK BK606),(by repeat (first|exact gB HB|refine below_set ?_ GE606.out))⟩)
             ·skip
              refine goes_ Try.func60 (by kernel_rfl) rfl #[.agg #[.int .i64 ((rd_TDoc l0_3 0).f0),.int .i64 ((rd_TDoc l0_3 0).f1),.string ((rd_TDoc l0_3 0).f2),.slice A610_3 ((rd_TDoc l0_3 0).f3).length c610_3]] (by rfl) rfl rfl (by (try simp only [List.map_toArray,List.map_cons,List.map_nil]);first|done|rfl|(simp only [List.length_drop,List.length_take];rfl)) ?_
              with_reducible refine (ih k (by omega) ((rd_TDoc l0_3 0).f0) ((rd_TDoc l0_3 0).f1) ((rd_TDoc l0_3 0).f2) _ _ ((rd_TDoc l0_3 0).f3) t611 _ ?side1 ?side2 A22.out).mono ?_
              (case side1=>exact gC (Kd.C_below HR610_3.out HB.out))
              (case side2=>exact HC610_3.out)
              rintro e w30 ⟨rfl,hb⟩
              refine ⟨_,rfl,?_⟩
              have n0_:=Aside0.mk (Kd.R_below (gR HO609) hb)
              have n1_:=Aside0.mk (blk_below (g:=gb606) (o:=.cells #[.int .i64 a0_0,.int .i64 a0_1,.string a0_2,.slice (some ad610) l0_3.length c0_3] 27 (0,0)) (gK BK606) hb)
              have n2_:=Aside0.mk (below_step (by repeat (first|exact gB HB|refine below_set ?_ GE606.out)) hb)
              clear HO609
              clear BK606
              clear HB
              have HO609:=n0_
              have BK606:=n1_
              have HB:=n2_
              clear n0_ n1_ n2_
              (try clear hb)
              (try clear hb2)
              (try clear hk)
              (try clear hi)
              refine hK.out _ _ ⟨(blk_cell BK606.out 0).trans rfl,(blk_cell BK606.out 1).trans rfl,(blk_cell BK606.out 2).trans rfl,(blk_cell BK606.out 3).trans rfl,((HB.out.cell (World.block_lt_of_cell? w _ hw610_0)).trans hw610_0),((HB.out.cell (World.block_lt_of_cell? w _ hw610_1)).trans hw610_1),((HB.out.cell (World.block_lt_of_cell? w _ hw610_2)).trans hw610_2),((HB.out.cell (World.block_lt_of_cell? w _ hw610_3)).trans hw610_3)⟩ (fun hHeld=>?_)
              clear hK K
              refine norm_ (a':=?_) ?_ ?_
              rotate_left
              ·show Act.put _ (some 32) _=_
               simp only [Act.put,List.setIfInBounds_toArray,List.set_cons_zero,List.set_cons_succ,i64_w,i32_w]
               rfl
              refine one_ (i:=5) (N:=some 26) #[true,true,true,true,true,true,false,true,true,true,true,true,false,false,false] rfl rfl (one_of HT_.out (by kernel_rfl)) (by decide) (fun K hK=>?_)
              have hcv31:=own_string (P:=Try.prog) Try.underlying22 Try.underlying5 Try.underlying9 (Kd.own_of_R HO609.out)
              refine value_ (w1:=?_) (v:=?_) (by rfl) rfl ?_ ?_
              rotate_left 2
              ·go_simp
               constructor
               ·rfl
               ·rfl
              clear hcv31
              refine hK.out _ _ ⟨(blk_cell BK606.out 0).trans rfl,(blk_cell BK606.out 1).trans rfl,(blk_cell BK606.out 2).trans rfl,(blk_cell BK606.out 3).trans rfl,((HB.out.cell (World.block_lt_of_cell? w _ hw610_0)).trans hw610_0),((HB.out.cell (World.block_lt_of_cell? w _ hw610_1)).trans hw610_1),((HB.out.cell (World.block_lt_of_cell? w _ hw610_2)).trans hw610_2),((HB.out.cell (World.block_lt_of_cell? w _ hw610_3)).trans hw610_3)⟩ (fun hHeld=>?_)
              clear hK K
              refine norm_ (a':=?_) ?_ ?_
              rotate_left
              ·show Act.put _ (some 26) _=_
               simp only [Act.put,List.setIfInBounds_toArray,List.set_cons_zero,List.set_cons_succ,i64_w,i32_w]
               rfl
              refine pure_ (i:=6) (N:=some 27) (v:=?_) (a':=?_) #[true,true,true,true,true,true,true,true,true,true,true,true,false,false,false] rfl rfl (any_of HT_.out (by kernel_rfl)) (fun _ _ _ h=>h) (Or.inl ⟨by rfl,?_⟩) ?_ ?_
              rotate_left
              ·intro w'
               go_simp
               with_reducible rfl
              rotate_left
              ·simp only [Act.put,List.setIfInBounds_toArray,List.set_cons_zero,List.set_cons_succ,i64_w,i32_w]
               rfl
              exact norm_ (by simp only [putAll,Act.put,List.setIfInBounds_toArray,List.set_cons_zero,List.set_cons_succ]) (hCont (v608) _ ⟨hHeld,(gR HO609),(gK BK606),(by repeat (first|exact gB HB|refine below_set ?_ GE606.out))⟩)
            ·skip
             refine goes_ Try.func60 (by kernel_rfl) rfl #[.agg #[.int .i64 ((rd_TDoc l0_3 0).f0),.int .i64 ((rd_TDoc l0_3 0).f1),.string ((rd_TDoc l0_3 0).f2),.slice A610_3 ((rd_TDoc l0_3 0).f3).length c610_3]] (by rfl) rfl rfl (by (try simp only [List.map_toArray,List.map_cons,List.map_nil]);first|done|rfl|(simp only [List.length_drop,List.length_take];rfl)) ?_
             with_reducible refine (ih k (by omega) ((rd_TDoc l0_3 0).f0) ((rd_TDoc l0_3 0).f1) ((rd_TDoc l0_3 0).f2) _ _ ((rd_TDoc l0_3 0).f3) t611 _ ?side1 ?side2 A22.out).mono ?_
             (case side1=>exact gC (Kd.C_below HR610_3.out HB.out))
             (case side2=>exact HC610_3.out)
             rintro e w28 ⟨rfl,hb⟩
             refine ⟨_,rfl,?_⟩
             have n0_:=Aside0.mk (blk_below (g:=gb606) (o:=.cells #[.int .i64 a0_0,.int .i64 a0_1,.string a0_2,.slice (some ad610) l0_3.length c0_3] 27 (0,0)) (gK BK606) hb)
             have n1_:=Aside0.mk (below_step (by repeat (first|exact gB HB|refine below_set ?_ GE606.out)) hb)
             clear BK606
             clear HB
             have BK606:=n0_
             have HB:=n1_
             clear n0_ n1_
             (try clear hb)
             (try clear hb2)
             (try clear hk)
             (try clear hi)
             refine hK.out _ _ ⟨(blk_cell BK606.out 0).trans rfl,(blk_cell BK606.out 1).trans rfl,(blk_cell BK606.out 2).trans rfl,(blk_cell BK606.out 3).trans rfl,((HB.out.cell (World.block_lt_of_cell? w _ hw610_0)).trans hw610_0),((HB.out.cell (World.block_lt_of_cell? w _ hw610_1)).trans hw610_1),((HB.out.cell (World.block_lt_of_cell? w _ hw610_2)).trans hw610_2),((HB.out.cell (World.block_lt_of_cell? w _ hw610_3)).trans hw610_3)⟩ (fun hHeld=>?_)
             clear hK K
             refine norm_ (a':=?_) ?_ ?_
             rotate_left
             ·show Act.put _ (some 32) _=_
              simp only [Act.put,List.setIfInBounds_toArray,List.set_cons_zero,List.set_cons_succ,i64_w,i32_w]
              rfl
             refine one_ (i:=4) (N:=some 25) #[true,true,true,true,true,false,false,true,true,true,true,true,false,false,false] rfl rfl (one_of HT_.out (by kernel_rfl)) (by decide) (fun K hK=>?_)
             refine Kd.R_lit_step (Kd.int .u8) _ 5 ?hg (N:=25) ?hd (xs:=([(wrap64 (48+a0_1)) % 256]:List Int)) (inner:=[.int .u8 ((wrap64 (48+a0_1)) % 256)]) (ok:=fun _=>True) (okp:=fun _=>True) ?hr ?hp (fun _ hk=>hk) trivial (Below.refl _ _) (Nat.le_refl _) (by simp) ?_;(case hd=>rfl);(case hg=>rfl);(case hr=>first|(go_simp;done)|(go_simp;rfl));(case hp=>exact (Reps.one (show Kd.M (Kd.int .u8) _ _ _ ((wrap64 (48+a0_1)) % 256) [.int .u8 ((wrap64 (48+a0_1)) % 256)] from rfl) (Reps.none _ _)))
             intro v608 w29 ho30 hb hg_ hnew_
             clear hg_ hnew_
             (first|rw [← Ny607.out] at ho30|(simp only [Int.reduceToNat] at ho30;rw [← Ny607.out] at ho30))
             have n0_:=Aside0.mk (Kd.R_lower ho30 (below_size (by repeat (first|exact gB HB|refine below_set ?_ GE606.out))))
             have n1_:=Aside0.mk (blk_below (g:=gb606) (o:=.cells #[.int .i64 a0_0,.int .i64 a0_1,.string a0_2,.slice (some ad610) l0_3.length c0_3] 27 (0,0)) (gK BK606) hb)
             have n2_:=Aside0.mk (below_step (by repeat (first|exact gB HB|refine below_set ?_ GE606.out)) hb)
             clear BK606
             clear HB
             have HO609:=n0_
             have BK606:=n1_
             have HB:=n2_
             clear n0_ n1_ n2_
             clear hb ho30
             refine hK.out _ _ ⟨(blk_cell BK606.out 0).trans rfl,(blk_cell BK606.out 1).trans rfl,(blk_cell BK606.out 2).trans rfl,(blk_cell BK606.out 3).trans rfl,((HB.out.cell (World.block_lt_of_cell? w _ hw610_0)).trans hw610_0),((HB.out.cell (World.block_lt_of_cell? w _ hw610_1)).trans hw610_1),((HB.out.cell (World.block_lt_of_cell? w _ hw610_2)).trans hw610_2),((HB.out.cell (World.block_lt_of_cell? w _ hw610_3)).trans hw610_3)⟩ (fun hHeld=>?_)
             clear hK K
             refine norm_ (a':=?_) ?_ ?_
             rotate_left
             ·show Act.put _ (some 25) _=_
              simp only [Act.put,List.setIfInBounds_toArray,List.set_cons_zero,List.set_cons_succ,i64_w,i32_w]
              rfl
             refine one_ (i:=5) (N:=some 26) #[true,true,true,true,true,true,false,true,true,true,true,true,false,false,false] rfl rfl (one_of HT_.out (by kernel_rfl)) (by decide) (fun K hK=>?_)
             have hcv31:=own_string (P:=Try.prog) Try.underlying22 Try.underlying5 Try.underlying9 (Kd.own_of_R HO609.out)
             refine value_ (w1:=?_) (v:=?_) (by rfl) rfl ?_ ?_
             rotate_left 2
             ·go_simp
              constructor
              ·rfl
              ·rfl
             clear hcv31
             refine hK.out _ _ ⟨(blk_cell BK606.out 0).trans rfl,(blk_cell BK606.out 1).trans rfl,(blk_cell BK606.out 2).trans rfl,(blk_cell BK606.out 3).trans rfl,((HB.out.cell (World.block_lt_of_cell? w _ hw610_0)).trans hw610_0),((HB.out.cell (World.block_lt_of_cell? w _ hw610_1)).trans hw610_1),((HB.out.cell (World.block_lt_of_cell? w _ hw610_2)).trans hw610_2),((HB.out.cell (World.block_lt_of_cell? w _ hw610_3)).trans hw610_3)⟩ (fun hHeld=>?_)
             clear hK K
             refine norm_ (a':=?_) ?_ ?_
             rotate_left
             ·show Act.put _ (some 26) _=_
              simp only [Act.put,List.setIfInBounds_toArray,List.set_cons_zero,List.set_cons_succ,i64_w,i32_w]
              rfl
             refine pure_ (i:=6) (N:=some 27) (v:=?_) (a':=?_) #[true,true,true,true,true,true,true,true,true,true,true,true,false,false,false] rfl rfl (any_of HT_.out (by kernel_rfl)) (fun _ _ _ h=>h) (Or.inl ⟨by rfl,?_⟩) ?_ ?_
             rotate_left
             ·intro w'
              go_simp
              with_reducible rfl
             rotate_left
             ·simp only [Act.put,List.setIfInBounds_toArray,List.set_cons_zero,List.set_cons_succ,i64_w,i32_w]
              rfl
             exact norm_ (by simp only [putAll,Act.put,List.setIfInBounds_toArray,List.set_cons_zero,List.set_cons_succ]) (hCont (v608) _ ⟨hHeld,(gR HO609),(gK BK606),(by repeat (first|exact gB HB|refine below_set ?_ GE606.out))⟩)
           rintro v608 w32 ⟨hS_,h0_,h1_,h2_⟩
           have n0_:Aside0 (Kd.R (Kd.int .u8) 5 w32 w.heap.size (fun _=>True) v608 y607):=⟨h0_⟩
           have n1_:Aside0 (w32.heap[gb606]?=some (.cells #[.int .i64 a0_0,.int .i64 a0_1,.string a0_2,.slice (some ad610) l0_3.length c0_3] 27 (0,0))):=⟨h1_⟩
           have n2_:Aside0 (Below w.heap.size w w32):=⟨h2_⟩
           clear BK606
           clear HB
           clear h0_ h1_ h2_
           have HO609:=n0_
           have BK606:=n1_
           have HB:=n2_
           clear n0_ n1_ n2_
           have hHeld:w32.cell? ⟨gb606,0,none⟩=some (.int .i64 a0_0)∧w32.cell? ⟨gb606,1,none⟩=some (.int .i64 a0_1)∧w32.cell? ⟨gb606,2,none⟩=some (.string a0_2)∧w32.cell? ⟨gb606,3,none⟩=some (.slice (some ad610) l0_3.length c0_3)∧w32.cell? ad610=some (.int .i64 ((rd_TDoc l0_3 0).f0))∧w32.cell? ⟨ad610.block,ad610.off+1,none⟩=some (.int .i64 ((rd_TDoc l0_3 0).f1))∧w32.cell? ⟨ad610.block,ad610.off+2,none⟩=some (.string ((rd_TDoc l0_3 0).f2))∧w32.cell? ⟨ad610.block,ad610.off+3,none⟩=some (.slice A610_3 ((rd_TDoc l0_3 0).f3).length c610_3):=hS_
           refine norm_ (a':=?_) ?_ ?_
           rotate_left
           ·simp only [putAll,Act.put,List.setIfInBounds_toArray,List.set_cons_zero,List.set_cons_succ]
            rfl
           refine pure_ (i:=12) (N:=some 33) (v:=?_) (a':=?_) #[true,true,true,true,true,true,true,true,true,true,true,true,true,false,false] rfl rfl (any_of HT_.out (by kernel_rfl)) (fun _ _ _ h=>h) (Or.inl ⟨by rfl,?_⟩) ?_ ?_
           rotate_left
           ·intro w'
            go_simp
            with_reducible rfl
           rotate_left
           ·simp only [Act.put,List.setIfInBounds_toArray,List.set_cons_zero,List.set_cons_succ,i64_w,i32_w]
            rfl
           refine pure_ (i:=13) (N:=some 34) (v:=?_) (a':=?_) #[true,true,true,true,true,true,true,true,true,true,true,true,true,true,false] rfl rfl (any_of HT_.out (by kernel_rfl)) (fun _ _ _ h=>h) (Or.inl ⟨by rfl,?_⟩) ?_ ?_
           rotate_left
           ·intro w'
            go_simp
            with_reducible rfl
           rotate_left
           ·simp only [Act.put,List.setIfInBounds_toArray,List.set_cons_zero,List.set_cons_succ,i64_w,i32_w]
            rfl
           refine pure_ (i:=14) (N:=some 2) (v:=?_) (a':=?_) #[true,true,true,true,true,true,true,true,true,true,true,true,true,true,true] rfl rfl (any_of HT_.out (by kernel_rfl)) (fun _ _ _ h=>h) (Or.inl ⟨by rfl,?_⟩) ?_ ?_
           rotate_left
           ·intro w'
            go_simp
            with_reducible rfl
           rotate_left
           ·simp only [Act.put,List.setIfInBounds_toArray,List.set_cons_zero,List.set_cons_succ,i64_w,i32_w]
            rfl
           refine done_ (done_of HT_.out (by kernel_rfl)) ?_
           try go_wp2
           go_ret
           exact ⟨by first|rfl|(simp [errW_none,errW_some] <;> rfl)|(simp [*,errW_none,errW_some] <;> rfl),by repeat (first|exact gB HB|refine below_set ?_ GE606.out)⟩
          ·rw [if_neg c24] at H
           exact absurd H (by simp)
         ·rw [if_neg c23] at H
          exact absurd H (by simp)
        ·rw [if_neg c21] at H
         exact absurd H (by simp)
       ·rw [if_neg c20] at H
        exact absurd H (by simp)
      ·rw [if_neg c19] at H
       have c19b0:(a0_0 == 6)=false:=beq_eq_false_iff_ne.mpr c19
       have c19b1:(a0_0 != 6)=true:=bne_iff_ne.mpr c19
       by_cases c33:a0_0=7
       ·rw [if_pos c33] at H
        have c33b0:(a0_0 == 7)=true:=beq_iff_eq.mpr c33
        have c33b1:(a0_0 != 7)=false:=bne_eq_false_iff_eq.mpr c33
        clear c33
        by_cases c34:0 < (l0_3.length:Int)
        ·rw [if_pos c34] at H
         have c34b0:decide (0 < (l0_3.length:Int))=true:=decide_eq_true c34
         have c34b1:decide (0 < l0_3.length)=true:=decide_eq_true (by omega)
         clear c34
         replace H:=Option.bind_eq_some_iff.mp H
         obtain ⟨t613,A350,H⟩:=H
         replace H:(if 1+t613.size≤9223372036854775807 then (if 1 < (l0_3.length:Int) then ((impl_formatDoc.f k ((rd_TDoc l0_3 1).f0) ((rd_TDoc l0_3 1).f1) ((rd_TDoc l0_3 1).f2) ((rd_TDoc l0_3 1).f3)).bind fun t615=>(if ((⟨#[40]⟩:ByteArray)++t613).size+t615.size≤9223372036854775807 then (if (((⟨#[40]⟩:ByteArray)++t613)++t615).size+1≤9223372036854775807 then (some ((((⟨#[40]⟩:ByteArray)++t613)++t615)++(⟨#[41]⟩:ByteArray))) else (none)) else (none))) else (none)) else (none))=some r:=H
         have A35:=Aside0.mk A350
         clear A350
         by_cases c36:1+t613.size≤9223372036854775807
         ·rw [if_pos c36] at H
          have c36b0:=eq_true c36
          have c36b1:decide (1+t613.size≤9223372036854775807)=true:=decide_eq_true c36
          try have c36b2:(9223372036854775807 < 1+t613.size)=False:=eq_false (Nat.not_lt.2 c36)
          by_cases c37:1 < (l0_3.length:Int)
          ·rw [if_pos c37] at H
           have c37b0:decide (1 < (l0_3.length:Int))=true:=decide_eq_true c37
           have c37b1:decide (1 < l0_3.length)=true:=decide_eq_true (by omega)
           clear c37
           replace H:=Option.bind_eq_some_iff.mp H
           obtain ⟨t615,A380,H⟩:=H
           replace H:(if ((⟨#[40]⟩:ByteArray)++t613).size+t615.size≤9223372036854775807 then (if (((⟨#[40]⟩:ByteArray)++t613)++t615).size+1≤9223372036854775807 then (some ((((⟨#[40]⟩:ByteArray)++t613)++t615)++(⟨#[41]⟩:ByteArray))) else (none)) else (none))=some r:=H
           have A38:=Aside0.mk A380
           clear A380
           by_cases c39:((⟨#[40]⟩:ByteArray)++t613).size+t615.size≤9223372036854775807
           ·rw [if_pos c39] at H
            have c39b0:=eq_true c39
            have c39b1:decide (((⟨#[40]⟩:ByteArray)++t613).size+t615.size≤9223372036854775807)=true:=decide_eq_true c39
            try (have c39b4:=c39;(conv at c39b4=>(lhs;simp));have c39b5:=eq_false (Nat.not_lt.2 c39b4))
            try (have c39b6:=c39;(conv at c39b6=>(lhs;simp [go_sem]));have c39b7:=eq_false (Nat.not_lt.2 c39b6))
            try have c39b2:(9223372036854775807 < ((⟨#[40]⟩:ByteArray)++t613).size+t615.size)=False:=eq_false (Nat.not_lt.2 c39)
            by_cases c40:(((⟨#[40]⟩:ByteArray)++t613)++t615).size+1≤9223372036854775807
            ·rw [if_pos c40] at H
             have c40b0:=eq_true c40
             have c40b1:decide ((((⟨#[40]⟩:ByteArray)++t613)++t615).size+1≤9223372036854775807)=true:=decide_eq_true c40
             try (have c40b4:=c40;(conv at c40b4=>(lhs;simp));have c40b5:=eq_false (Nat.not_lt.2 c40b4))
             try (have c40b6:=c40;(conv at c40b6=>(lhs;simp [go_sem]));have c40b7:=eq_false (Nat.not_lt.2 c40b6))
             try have c40b2:(9223372036854775807 < (((⟨#[40]⟩:ByteArray)++t613)++t615).size+1)=False:=eq_false (Nat.not_lt.2 c40)
             obtain rfl:=Option.some.inj H
             go_enter Try.func60,Try.ntmps60
             try go_wp2_with (first|((with_reducible refine gate_dst (N:=1) rfl ?_);refine box_event ?hg (N:=1) ?hd (cs:=#[.int .i64 a0_0,.int .i64 a0_1,.string a0_2,.slice A0_3 l0_3.length c0_3]) (t:=27) ?hr ?_;(case hd=>rfl);(case hg=>rfl);(case hr=>first|(go_simp;done)|(go_simp;rfl));intro gb606 hg w41 hbox hb;have n0_:=Aside0.mk (below_step (gB HB) hb);have n1_:=Aside0.mk (hbox);have n2_:=Aside0.mk ((by rw [hg];exact (below_size (gB HB)):w.heap.size≤gb606));have n3_:=Aside0.mk ((by rw [hg];exact (below_size (gB HB)):w.heap.size≤gb606));clear HB;have HB:=n0_;have BK606:=n1_;have GW606:=n2_;have GE606:=n3_;clear n0_ n1_ n2_ n3_;clear hb hbox hg;have hcz42_0:w41.cell? ⟨gb606,0,none⟩=some (.int .i64 a0_0):=(blk_cell BK606.out 0).trans rfl;have hcz42_1:w41.cell? ⟨gb606,1,none⟩=some (.int .i64 a0_1):=(blk_cell BK606.out 1).trans rfl;have hcz42_2:w41.cell? ⟨gb606,2,none⟩=some (.string a0_2):=(blk_cell BK606.out 2).trans rfl;have hcz42_3:w41.cell? ⟨gb606,3,none⟩=some (.slice A0_3 l0_3.length c0_3):=(blk_cell BK606.out 3).trans rfl;have hfz42_0:=blk_frozen BK606.out 0;have hfz42_1:=blk_frozen BK606.out 1;have hfz42_2:=blk_frozen BK606.out 2;have hfz42_3:=blk_frozen BK606.out 3))
             have n0_:=Aside0.mk (blk_drew BK606.out)
             have n1_:=Aside0.mk (below_drew1 HB.out)
             clear BK606
             clear HB
             have BK606:=n0_
             have HB:=n1_
             clear n0_ n1_
             have p612:0≤(0:Int):=(by omega)
             have q612:0 < (l0_3.length:Int):=of_decide_eq_true (by first|(with_reducible assumption)|assumption)
             (try clear hx610_0);(try clear hx610_1);(try clear hx610_2);(try clear hx610_3)
             obtain ⟨ad612,A612_3,c612_3,e612,hx612_0,hx612_1,hx612_2,hx612_3,hl612_3,hi612_3⟩:=at_TDoc HR0_3.out 0 p612 q612
             (try (have ea_:=Option.some.inj (hx612_3.symm.trans hw610_3);injection ea_ with ea_ en_ ec_;subst ea_;subst ec_;clear en_))
             have hw612_3:=hx612_3
             (try rw [show ((0:Int)).toNat=0 from rfl] at hw612_3)
             (try rw [show 0 * 4=0 from rfl] at hw612_3)
             (try rw [Addr.add_zero'] at hw612_3)
             have hw612_2:=hx612_2
             (try rw [show ((0:Int)).toNat=0 from rfl] at hw612_2)
             (try rw [show 0 * 4=0 from rfl] at hw612_2)
             (try rw [Addr.add_zero'] at hw612_2)
             have hw612_1:=hx612_1
             (try rw [show ((0:Int)).toNat=0 from rfl] at hw612_1)
             (try rw [show 0 * 4=0 from rfl] at hw612_1)
             (try rw [Addr.add_zero'] at hw612_1)
             have hw612_0:=hx612_0
             (try rw [show ((0:Int)).toNat=0 from rfl] at hw612_0)
             (try rw [show 0 * 4=0 from rfl] at hw612_0)
             (try rw [Addr.add_zero'] at hw612_0)
             cases e612
             have qi612:(0 < l0_3.length)=True:=eq_true (by omega)
             (try rw [show ((0:Int)).toNat=0 from rfl] at hx612_0)
             (try rw [show 0 * 4=0 from rfl] at hx612_0)
             (try rw [Addr.add_zero'] at hx612_0)
             (try rw [show ((0:Int)).toNat=0 from rfl] at hx612_1)
             (try rw [show 0 * 4=0 from rfl] at hx612_1)
             (try rw [Addr.add_zero'] at hx612_1)
             (try rw [show ((0:Int)).toNat=0 from rfl] at hx612_2)
             (try rw [show 0 * 4=0 from rfl] at hx612_2)
             (try rw [Addr.add_zero'] at hx612_2)
             (try rw [show ((0:Int)).toNat=0 from rfl] at hx612_3)
             (try rw [show 0 * 4=0 from rfl] at hx612_3)
             (try rw [Addr.add_zero'] at hx612_3)
             replace hx612_0:=(HB.out.cell (World.block_lt_of_cell? w _ hx612_0)).trans hx612_0
             replace hx612_1:=(HB.out.cell (World.block_lt_of_cell? w _ hx612_1)).trans hx612_1
             replace hx612_2:=(HB.out.cell (World.block_lt_of_cell? w _ hx612_2)).trans hx612_2
             replace hx612_3:=(HB.out.cell (World.block_lt_of_cell? w _ hx612_3)).trans hx612_3
             have HR612_3:=Aside0.mk hi612_3
             have HC612_3:=Aside0.mk hl612_3
             clear hi612_3 hl612_3
             replace p612:=eq_true p612
             replace q612:=eq_true q612
             have p614:0≤(1:Int):=(by omega)
             have q614:1 < (l0_3.length:Int):=of_decide_eq_true (by first|(with_reducible assumption)|assumption)
             obtain ⟨ad614,A614_3,c614_3,e614,hx614_0,hx614_1,hx614_2,hx614_3,hl614_3,hi614_3⟩:=at_TDoc HR0_3.out 1 p614 q614
             have hw614_3:=hx614_3
             (try rw [show ((1:Int)).toNat=1 from rfl] at hw614_3)
             (try rw [show 1 * 4=4 from rfl] at hw614_3)
             (try simp only [Nat.reduceMul,Nat.reduceEqDiff,Go.Addr.add,↓reduceIte] at hw614_3)
             have hw614_2:=hx614_2
             (try rw [show ((1:Int)).toNat=1 from rfl] at hw614_2)
             (try rw [show 1 * 4=4 from rfl] at hw614_2)
             (try simp only [Nat.reduceMul,Nat.reduceEqDiff,Go.Addr.add,↓reduceIte] at hw614_2)
             have hw614_1:=hx614_1
             (try rw [show ((1:Int)).toNat=1 from rfl] at hw614_1)
             (try rw [show 1 * 4=4 from rfl] at hw614_1)
             (try simp only [Nat.reduceMul,Nat.reduceEqDiff,Go.Addr.add,↓reduceIte] at hw614_1)
             have hw614_0:=hx614_0
             (try rw [show ((1:Int)).toNat=1 from rfl] at hw614_0)
             (try rw [show 1 * 4=4 from rfl] at hw614_0)
             (try simp only [Nat.reduceMul,Nat.reduceEqDiff,Go.Addr.add,↓reduceIte] at hw614_0)
             obtain rfl:ad612=ad614:=(by injection e614)
             (try simp only [show (1:Int).toNat=1 from rfl,Nat.reduceMul,Nat.reduceEqDiff,Go.Addr.add,↓reduceIte] at hx614_0)
             (try simp only [show (1:Int).toNat=1 from rfl,Nat.reduceMul,Nat.reduceEqDiff,Go.Addr.add,↓reduceIte] at hx614_1)
             (try simp only [show (1:Int).toNat=1 from rfl,Nat.reduceMul,Nat.reduceEqDiff,Go.Addr.add,↓reduceIte] at hx614_2)
             (try simp only [show (1:Int).toNat=1 from rfl,Nat.reduceMul,Nat.reduceEqDiff,Go.Addr.add,↓reduceIte] at hx614_3)
             have qi614:(1 < l0_3.length)=True:=eq_true (by omega)
             (try rw [show ((1:Int)).toNat=1 from rfl] at hx614_0)
             (try rw [show 1 * 4=4 from rfl] at hx614_0)
             (try rw [show ((1:Int)).toNat=1 from rfl] at hx614_1)
             (try rw [show 1 * 4=4 from rfl] at hx614_1)
             (try rw [show ((1:Int)).toNat=1 from rfl] at hx614_2)
             (try rw [show 1 * 4=4 from rfl] at hx614_2)
             (try rw [show ((1:Int)).toNat=1 from rfl] at hx614_3)
             (try rw [show 1 * 4=4 from rfl] at hx614_3)
             replace hx614_0:=(HB.out.cell (World.block_lt_of_cell? w _ hx614_0)).trans hx614_0
             replace hx614_1:=(HB.out.cell (World.block_lt_of_cell? w _ hx614_1)).trans hx614_1
             replace hx614_2:=(HB.out.cell (World.block_lt_of_cell? w _ hx614_2)).trans hx614_2
             replace hx614_3:=(HB.out.cell (World.block_lt_of_cell? w _ hx614_3)).trans hx614_3
             have HR614_3:=Aside0.mk hi614_3
             have HC614_3:=Aside0.mk hl614_3
             clear hi614_3 hl614_3
             replace p614:=eq_true p614
             replace q614:=eq_true q614
             refine start_ (n:=14) (S:=fun w'=>w'.cell? ⟨gb606,0,none⟩=some (.int .i64 a0_0)∧w'.cell? ⟨gb606,1,none⟩=some (.int .i64 a0_1)∧w'.cell? ⟨gb606,2,none⟩=some (.string a0_2)∧w'.cell? ⟨gb606,3,none⟩=some (.slice (some ad612) l0_3.length c0_3)∧w'.cell? ad612=some (.int .i64 ((rd_TDoc l0_3 0).f0))∧w'.cell? ⟨ad612.block,ad612.off+1,none⟩=some (.int .i64 ((rd_TDoc l0_3 0).f1))∧w'.cell? ⟨ad612.block,ad612.off+2,none⟩=some (.string ((rd_TDoc l0_3 0).f2))∧w'.cell? ⟨ad612.block,ad612.off+3,none⟩=some (.slice A612_3 ((rd_TDoc l0_3 0).f3).length c612_3)∧w'.cell? ⟨ad612.block,ad612.off+4,none⟩=some (.int .i64 ((rd_TDoc l0_3 1).f0))∧w'.cell? ⟨ad612.block,ad612.off+4+1,none⟩=some (.int .i64 ((rd_TDoc l0_3 1).f1))∧w'.cell? ⟨ad612.block,ad612.off+4+2,none⟩=some (.string ((rd_TDoc l0_3 1).f2))∧w'.cell? ⟨ad612.block,ad612.off+4+3,none⟩=some (.slice A614_3 ((rd_TDoc l0_3 1).f3).length c614_3)) (ds:=[]) #[false,false,false,false,false,false,false,false,false,false,false,false,false,false] (by kernel_rfl) rfl rfl ⟨(blk_cell BK606.out 0).trans rfl,(blk_cell BK606.out 1).trans rfl,(blk_cell BK606.out 2).trans rfl,(blk_cell BK606.out 3).trans rfl,((HB.out.cell (World.block_lt_of_cell? w _ hw612_0)).trans hw612_0),((HB.out.cell (World.block_lt_of_cell? w _ hw612_1)).trans hw612_1),((HB.out.cell (World.block_lt_of_cell? w _ hw612_2)).trans hw612_2),((HB.out.cell (World.block_lt_of_cell? w _ hw612_3)).trans hw612_3),((HB.out.cell (World.block_lt_of_cell? w _ hw614_0)).trans hw614_0),((HB.out.cell (World.block_lt_of_cell? w _ hw614_1)).trans hw614_1),((HB.out.cell (World.block_lt_of_cell? w _ hw614_2)).trans hw614_2),((HB.out.cell (World.block_lt_of_cell? w _ hw614_3)).trans hw614_3)⟩ (fun hHeld=>?_);refine with_tabW impl_formatDoc.tab15 impl_formatDoc.bits15 (fun HT_ HW_=>?_)
             generalize w41.drew=w43 at BK606 HB HR612_3 HR614_3 hx612_0 hx612_1 hx612_2 hx612_3 hx614_0 hx614_1 hx614_2 hx614_3 hHeld ⊢
             refine pure_ (i:=0) (N:=some 37) (v:=?_) (a':=?_) #[true,false,false,false,false,false,false,false,false,false,false,false,false,false] rfl rfl (any_of HT_.out (by kernel_rfl)) (fun _ _ _ h=>h) (Or.inl ⟨by rfl,?_⟩) ?_ ?_
             rotate_left
             ·intro w'
              go_simp
              with_reducible rfl
             rotate_left
             ·simp only [Act.put,List.setIfInBounds_toArray,List.set_cons_zero,List.set_cons_succ,i64_w,i32_w]
              rfl
             refine pure_ (i:=6) (N:=some 43) (v:=?_) (a':=?_) #[true,false,false,false,false,false,true,false,false,false,false,false,false,false] rfl rfl (any_of HT_.out (by kernel_rfl)) (fun _ _ _ h=>h) (Or.inl ⟨by rfl,?_⟩) ?_ ?_
             rotate_left
             ·intro w'
              go_simp
              with_reducible rfl
             rotate_left
             ·simp only [Act.put,List.setIfInBounds_toArray,List.set_cons_zero,List.set_cons_succ,i64_w,i32_w]
              rfl
             refine take_ (i:=1) (N:=some 38) (v:=?_) (a':=?_) #[true,true,false,false,false,false,true,false,false,false,false,false,false,false] rfl rfl (take_ofW HT_.out HW_.out (by kernel_rfl)) (fun _ _ _ h=>h) (Or.inl ⟨by rfl,?_⟩) hHeld ?_ ?_
             rotate_left
             ·rintro w' ⟨s0,s1,s2,s3,s4,s5,s6,s7,s8,s9,s10,s11⟩
              go_simp
              with_reducible rfl
             rotate_left
             ·simp only [Act.put,List.setIfInBounds_toArray,List.set_cons_zero,List.set_cons_succ,i64_w,i32_w]
              rfl
             refine pure_ (i:=2) (N:=some 39) (v:=?_) (a':=?_) #[true,true,true,false,false,false,true,false,false,false,false,false,false,false] rfl rfl (any_of HT_.out (by kernel_rfl)) (fun _ _ _ h=>h) (Or.inl ⟨by rfl,?_⟩) ?_ ?_
             rotate_left
             ·intro w'
              go_simp
              with_reducible rfl
             rotate_left
             ·simp only [Act.put,List.setIfInBounds_toArray,List.set_cons_zero,List.set_cons_succ,i64_w,i32_w]
              rfl
             refine take_ (i:=3) (N:=some 40) (v:=?_) (a':=?_) #[true,true,true,true,false,false,true,false,false,false,false,false,false,false] rfl rfl (take_ofW HT_.out HW_.out (by kernel_rfl)) (fun _ _ _ h=>h) (Or.inl ⟨by rfl,?_⟩) hHeld ?_ ?_
             rotate_left
             ·rintro w' ⟨s0,s1,s2,s3,s4,s5,s6,s7,s8,s9,s10,s11⟩
              go_simp
              with_reducible rfl
             rotate_left
             ·simp only [Act.put,List.setIfInBounds_toArray,List.set_cons_zero,List.set_cons_succ,i64_w,i32_w]
              rfl
             refine take_ (i:=7) (N:=some 44) (v:=?_) (a':=?_) #[true,true,true,true,false,false,true,true,false,false,false,false,false,false] rfl rfl (take_ofW HT_.out HW_.out (by kernel_rfl)) (fun _ _ _ h=>h) (Or.inl ⟨by rfl,?_⟩) hHeld ?_ ?_
             rotate_left
             ·rintro w' ⟨s0,s1,s2,s3,s4,s5,s6,s7,s8,s9,s10,s11⟩
              go_simp
              with_reducible rfl
             rotate_left
             ·simp only [Act.put,List.setIfInBounds_toArray,List.set_cons_zero,List.set_cons_succ,i64_w,i32_w]
              rfl
             refine pure_ (i:=8) (N:=some 45) (v:=?_) (a':=?_) #[true,true,true,true,false,false,true,true,true,false,false,false,false,false] rfl rfl (any_of HT_.out (by kernel_rfl)) (fun _ _ _ h=>h) (Or.inl ⟨by rfl,?_⟩) ?_ ?_
             rotate_left
             ·intro w'
              go_simp
              with_reducible rfl
             rotate_left
             ·simp only [Act.put,List.setIfInBounds_toArray,List.set_cons_zero,List.set_cons_succ,i64_w,i32_w]
              rfl
             refine take_ (i:=9) (N:=some 46) (v:=?_) (a':=?_) #[true,true,true,true,false,false,true,true,true,true,false,false,false,false] rfl rfl (take_ofW HT_.out HW_.out (by kernel_rfl)) (fun _ _ _ h=>h) (Or.inl ⟨by rfl,?_⟩) hHeld ?_ ?_
             rotate_left
             ·rintro w' ⟨s0,s1,s2,s3,s4,s5,s6,s7,s8,s9,s10,s11⟩
              go_simp
              with_reducible rfl
             rotate_left
             ·simp only [Act.put,List.setIfInBounds_toArray,List.set_cons_zero,List.set_cons_succ,i64_w,i32_w]
              rfl
             refine one_ (i:=4) (N:=some 41) #[true,true,true,true,true,false,true,true,true,true,false,false,false,false] rfl rfl (one_of HT_.out (by kernel_rfl)) (by decide) (fun K hK=>?_)
             refine goes_ Try.func60 (by kernel_rfl) rfl #[.agg #[.int .i64 ((rd_TDoc l0_3 0).f0),.int .i64 ((rd_TDoc l0_3 0).f1),.string ((rd_TDoc l0_3 0).f2),.slice A612_3 ((rd_TDoc l0_3 0).f3).length c612_3]] (by rfl) rfl rfl (by (try simp only [List.map_toArray,List.map_cons,List.map_nil]);first|done|rfl|(simp only [List.length_drop,List.length_take];rfl)) ?_
             with_reducible refine (ih k (by omega) ((rd_TDoc l0_3 0).f0) ((rd_TDoc l0_3 0).f1) ((rd_TDoc l0_3 0).f2) _ _ ((rd_TDoc l0_3 0).f3) t613 _ ?side1 ?side2 A35.out).mono ?_
             (case side1=>exact gC (Kd.C_below HR612_3.out HB.out))
             (case side2=>exact HC612_3.out)
             rintro e w44 ⟨rfl,hb⟩
             refine ⟨_,rfl,?_⟩
             have n0_:=Aside0.mk (blk_below (g:=gb606) (o:=.cells #[.int .i64 a0_0,.int .i64 a0_1,.string a0_2,.slice (some ad612) l0_3.length c0_3] 27 (0,0)) (gK BK606) hb)
             have n1_:=Aside0.mk (below_step (by repeat (first|exact gB HB|refine below_set ?_ GE606.out)) hb)
             clear BK606
             clear HB
             have BK606:=n0_
             have HB:=n1_
             clear n0_ n1_
             (try clear hb)
             (try clear hb2)
             (try clear hk)
             (try clear hi)
             refine hK.out _ _ ⟨(blk_cell BK606.out 0).trans rfl,(blk_cell BK606.out 1).trans rfl,(blk_cell BK606.out 2).trans rfl,(blk_cell BK606.out 3).trans rfl,((HB.out.cell (World.block_lt_of_cell? w _ hw612_0)).trans hw612_0),((HB.out.cell (World.block_lt_of_cell? w _ hw612_1)).trans hw612_1),((HB.out.cell (World.block_lt_of_cell? w _ hw612_2)).trans hw612_2),((HB.out.cell (World.block_lt_of_cell? w _ hw612_3)).trans hw612_3),((HB.out.cell (World.block_lt_of_cell? w _ hw614_0)).trans hw614_0),((HB.out.cell (World.block_lt_of_cell? w _ hw614_1)).trans hw614_1),((HB.out.cell (World.block_lt_of_cell? w _ hw614_2)).trans hw614_2),((HB.out.cell (World.block_lt_of_cell? w _ hw614_3)).trans hw614_3)⟩ (fun hHeld=>?_)
             clear hK K
             refine norm_ (a':=?_) ?_ ?_
             rotate_left
             ·show Act.put _ (some 41) _=_
              simp only [Act.put,List.setIfInBounds_toArray,List.set_cons_zero,List.set_cons_succ,i64_w,i32_w]
              rfl
             refine pure_ (i:=5) (N:=some 42) (v:=?_) (a':=?_) #[true,true,true,true,true,true,true,true,true,true,false,false,false,false] rfl rfl (any_of HT_.out (by kernel_rfl)) (fun _ _ _ h=>h) (Or.inl ⟨by rfl,?_⟩) ?_ ?_
             rotate_left
             ·intro w'
              go_simp
              with_reducible rfl
             rotate_left
             ·simp only [Act.put,List.setIfInBounds_toArray,List.set_cons_zero,List.set_cons_succ,i64_w,i32_w]
              rfl
             refine one_ (i:=10) (N:=some 47) #[true,true,true,true,true,true,true,true,true,true,true,false,false,false] rfl rfl (one_of HT_.out (by kernel_rfl)) (by decide) (fun K hK=>?_)
             refine goes_ Try.func60 (by kernel_rfl) rfl #[.agg #[.int .i64 ((rd_TDoc l0_3 1).f0),.int .i64 ((rd_TDoc l0_3 1).f1),.string ((rd_TDoc l0_3 1).f2),.slice A614_3 ((rd_TDoc l0_3 1).f3).length c614_3]] (by rfl) rfl rfl (by (try simp only [List.map_toArray,List.map_cons,List.map_nil]);first|done|rfl|(simp only [List.length_drop,List.length_take];rfl)) ?_
             with_reducible refine (ih k (by omega) ((rd_TDoc l0_3 1).f0) ((rd_TDoc l0_3 1).f1) ((rd_TDoc l0_3 1).f2) _ _ ((rd_TDoc l0_3 1).f3) t615 _ ?side1 ?side2 A38.out).mono ?_
             (case side1=>exact gC (Kd.C_below HR614_3.out HB.out))
             (case side2=>exact HC614_3.out)
             rintro e w45 ⟨rfl,hb⟩
             refine ⟨_,rfl,?_⟩
             have n0_:=Aside0.mk (blk_below (g:=gb606) (o:=.cells #[.int .i64 a0_0,.int .i64 a0_1,.string a0_2,.slice (some ad612) l0_3.length c0_3] 27 (0,0)) (gK BK606) hb)
             have n1_:=Aside0.mk (below_step (by repeat (first|exact gB HB|refine below_set ?_ GE606.out)) hb)
             clear BK606
             clear HB
             have BK606:=n0_
             have HB:=n1_
             clear n0_ n1_
             (try clear hb)
             (try clear hb2)
             (try clear hk)
             (try clear hi)
             refine hK.out _ _ ⟨(blk_cell BK606.out 0).trans rfl,(blk_cell BK606.out 1).trans rfl,(blk_cell BK606.out 2).trans rfl,(blk_cell BK606.out 3).trans rfl,((HB.out.cell (World.block_lt_of_cell? w _ hw612_0)).trans hw612_0),((HB.out.cell (World.block_lt_of_cell? w _ hw612_1)).trans hw612_1),((HB.out.cell (World.block_lt_of_cell? w _ hw612_2)).trans hw612_2),((HB.out.cell (World.block_lt_of_cell? w _ hw612_3)).trans hw612_3),((HB.out.cell (World.block_lt_of_cell? w _ hw614_0)).trans hw614_0),((HB.out.cell (World.block_lt_of_cell? w _ hw614_1)).trans hw614_1),((HB.out.cell (World.block_lt_of_cell? w _ hw614_2)).trans hw614_2),((HB.out.cell (World.block_lt_of_cell? w _ hw614_3)).trans hw614_3)⟩ (fun hHeld=>?_)
             clear hK K
             refine norm_ (a':=?_) ?_ ?_
             rotate_left
             ·show Act.put _ (some 47) _=_
              simp only [Act.put,List.setIfInBounds_toArray,List.set_cons_zero,List.set_cons_succ,i64_w,i32_w]
              rfl
             refine pure_ (i:=11) (N:=some 48) (v:=?_) (a':=?_) #[true,true,true,true,true,true,true,true,true,true,true,true,false,false] rfl rfl (any_of HT_.out (by kernel_rfl)) (fun _ _ _ h=>h) (Or.inl ⟨by rfl,?_⟩) ?_ ?_
             rotate_left
             ·intro w'
              go_simp
              with_reducible rfl
             rotate_left
             ·simp only [Act.put,List.setIfInBounds_toArray,List.set_cons_zero,List.set_cons_succ,i64_w,i32_w]
              rfl
             refine pure_ (i:=12) (N:=some 49) (v:=?_) (a':=?_) #[true,true,true,true,true,true,true,true,true,true,true,true,true,false] rfl rfl (any_of HT_.out (by kernel_rfl)) (fun _ _ _ h=>h) (Or.inl ⟨by rfl,?_⟩) ?_ ?_
             rotate_left
             ·intro w'
              go_simp
              with_reducible rfl
             rotate_left
             ·simp only [Act.put,List.setIfInBounds_toArray,List.set_cons_zero,List.set_cons_succ,i64_w,i32_w]
              rfl
             refine pure_ (i:=13) (N:=some 2) (v:=?_) (a':=?_) #[true,true,true,true,true,true,true,true,true,true,true,true,true,true] rfl rfl (any_of HT_.out (by kernel_rfl)) (fun _ _ _ h=>h) (Or.inl ⟨by rfl,?_⟩) ?_ ?_
             rotate_left
             ·intro w'
              go_simp
              with_reducible rfl
             rotate_left
             ·simp only [Act.put,List.setIfInBounds_toArray,List.set_cons_zero,List.set_cons_succ,i64_w,i32_w]
              rfl
             refine done_ (done_of HT_.out (by kernel_rfl)) ?_
             try go_wp2
             go_ret
             exact ⟨by first|rfl|(simp [errW_none,errW_some] <;> rfl)|(simp [*,errW_none,errW_some] <;> rfl),by repeat (first|exact gB HB|refine below_set ?_ GE606.out)⟩
            ·rw [if_neg c40] at H
             exact absurd H (by simp)
           ·rw [if_neg c39] at H
            exact absurd H (by simp)
          ·rw [if_neg c37] at H
           exact absurd H (by simp)
         ·rw [if_neg c36] at H
          exact absurd H (by simp)
        ·rw [if_neg c34] at H
         exact absurd H (by simp)
       ·rw [if_neg c33] at H
        have c33b0:(a0_0 == 7)=false:=beq_eq_false_iff_ne.mpr c33
        have c33b1:(a0_0 != 7)=true:=bne_iff_ne.mpr c33
        by_cases c46:0 < (l0_3.length:Int)
        ·rw [if_pos c46] at H
         have c46b0:decide (0 < (l0_3.length:Int))=true:=decide_eq_true c46
         have c46b1:decide (0 < l0_3.length)=true:=decide_eq_true (by omega)
         clear c46
         replace H:=Option.bind_eq_some_iff.mp H
         obtain ⟨t617,A470,H⟩:=H
         replace H:(if 1+t617.size≤9223372036854775807 then (if ((⟨#[91]⟩:ByteArray)++t617).size+1≤9223372036854775807 then (some (((⟨#[91]⟩:ByteArray)++t617)++(⟨#[93]⟩:ByteArray))) else (none)) else (none))=some r:=H
         have A47:=Aside0.mk A470
         clear A470
         by_cases c48:1+t617.size≤9223372036854775807
         ·rw [if_pos c48] at H
          have c48b0:=eq_true c48
          have c48b1:decide (1+t617.size≤9223372036854775807)=true:=decide_eq_true c48
          try have c48b2:(9223372036854775807 < 1+t617.size)=False:=eq_false (Nat.not_lt.2 c48)
          by_cases c49:((⟨#[91]⟩:ByteArray)++t617).size+1≤9223372036854775807
          ·rw [if_pos c49] at H
           have c49b0:=eq_true c49
           have c49b1:decide (((⟨#[91]⟩:ByteArray)++t617).size+1≤9223372036854775807)=true:=decide_eq_true c49
           try (have c49b4:=c49;(conv at c49b4=>(lhs;simp));have c49b5:=eq_false (Nat.not_lt.2 c49b4))
           try (have c49b6:=c49;(conv at c49b6=>(lhs;simp [go_sem]));have c49b7:=eq_false (Nat.not_lt.2 c49b6))
           try have c49b2:(9223372036854775807 < ((⟨#[91]⟩:ByteArray)++t617).size+1)=False:=eq_false (Nat.not_lt.2 c49)
           obtain rfl:=Option.some.inj H
           go_enter Try.func60,Try.ntmps60
           go_wp2_with (first|((with_reducible refine gate_dst (N:=1) rfl ?_);refine box_event ?hg (N:=1) ?hd (cs:=#[.int .i64 a0_0,.int .i64 a0_1,.string a0_2,.slice A0_3 l0_3.length c0_3]) (t:=27) ?hr ?_;(case hd=>rfl);(case hg=>rfl);(case hr=>first|(go_simp;done)|(go_simp;rfl));intro gb606 hg w50 hbox hb;have n0_:=Aside0.mk (below_step (gB HB) hb);have n1_:=Aside0.mk (hbox);have n2_:=Aside0.mk ((by rw [hg];exact (below_size (gB HB)):w.heap.size≤gb606));have n3_:=Aside0.mk ((by rw [hg];exact (below_size (gB HB)):w.heap.size≤gb606));clear HB;have HB:=n0_;have BK606:=n1_;have GW606:=n2_;have GE606:=n3_;clear n0_ n1_ n2_ n3_;clear hb hbox hg;have hcz51_0:w50.cell? ⟨gb606,0,none⟩=some (.int .i64 a0_0):=(blk_cell BK606.out 0).trans rfl;have hcz51_1:w50.cell? ⟨gb606,1,none⟩=some (.int .i64 a0_1):=(blk_cell BK606.out 1).trans rfl;have hcz51_2:w50.cell? ⟨gb606,2,none⟩=some (.string a0_2):=(blk_cell BK606.out 2).trans rfl;have hcz51_3:w50.cell? ⟨gb606,3,none⟩=some (.slice A0_3 l0_3.length c0_3):=(blk_cell BK606.out 3).trans rfl;have hfz51_0:=blk_frozen BK606.out 0;have hfz51_1:=blk_frozen BK606.out 1;have hfz51_2:=blk_frozen BK606.out 2;have hfz51_3:=blk_frozen BK606.out 3;have p616:0≤(0:Int):=(by omega);have q616:0 < (l0_3.length:Int):=of_decide_eq_true (by first|(with_reducible assumption)|assumption);obtain ⟨ad616,A616_3,c616_3,e616,hx616_0,hx616_1,hx616_2,hx616_3,hl616_3,hi616_3⟩:=at_TDoc HR0_3.out 0 p616 q616;cases e616;have qi616:(0 < l0_3.length)=True:=eq_true (by omega);(try rw [show ((0:Int)).toNat=0 from rfl] at hx616_0);(try rw [show 0 * 4=0 from rfl] at hx616_0);(try rw [Addr.add_zero'] at hx616_0);(try rw [show ((0:Int)).toNat=0 from rfl] at hx616_1);(try rw [show 0 * 4=0 from rfl] at hx616_1);(try rw [Addr.add_zero'] at hx616_1);(try rw [show ((0:Int)).toNat=0 from rfl] at hx616_2);(try rw [show 0 * 4=0 from rfl] at hx616_2);(try rw [Addr.add_zero'] at hx616_2);(try rw [show ((0:Int)).toNat=0 from rfl] at hx616_3);(try rw [show 0 * 4=0 from rfl] at hx616_3);(try rw [Addr.add_zero'] at hx616_3);replace hx616_0:=(HB.out.cell (World.block_lt_of_cell? w _ hx616_0)).trans hx616_0;replace hx616_1:=(HB.out.cell (World.block_lt_of_cell? w _ hx616_1)).trans hx616_1;replace hx616_2:=(HB.out.cell (World.block_lt_of_cell? w _ hx616_2)).trans hx616_2;replace hx616_3:=(HB.out.cell (World.block_lt_of_cell? w _ hx616_3)).trans hx616_3;have HR616_3:=Aside0.mk hi616_3;have HC616_3:=Aside0.mk hl616_3;clear hi616_3 hl616_3;replace p616:=eq_true p616;replace q616:=eq_true q616)|((with_reducible refine gate_callee (f:=60) rfl ?_);refine goesL_ (some 54) rfl rfl Try.func60 (by kernel_rfl) rfl #[.agg #[.int .i64 ((rd_TDoc l0_3 0).f0),.int .i64 ((rd_TDoc l0_3 0).f1),.string ((rd_TDoc l0_3 0).f2),.slice A616_3 ((rd_TDoc l0_3 0).f3).length c616_3]] rfl (by (try simp only [List.map_toArray,List.map_cons,List.map_nil]);first|done|rfl|(simp only [List.length_drop,List.length_take];rfl)) ?_;(with_reducible refine (ih k (by omega) ((rd_TDoc l0_3 0).f0) ((rd_TDoc l0_3 0).f1) ((rd_TDoc l0_3 0).f2) _ _ ((rd_TDoc l0_3 0).f3) t617 _ ?side1 ?side2 A47.out).mono ?_);(case side1=>exact gC (Kd.C_below HR616_3.out HB.out));(case side2=>exact HC616_3.out);rintro e w52 ⟨rfl,hb⟩;refine ⟨_,rfl,?_⟩;have n0_:=Aside0.mk (blk_below (g:=gb606) (o:=.cells #[.int .i64 a0_0,.int .i64 a0_1,.string a0_2,.slice (some ad616) l0_3.length c0_3] 27 (0,0)) (gK BK606) hb);have n1_:=Aside0.mk (below_step (by repeat (first|exact gB HB|refine below_set ?_ GE606.out)) hb);clear BK606;clear HB;have BK606:=n0_;have HB:=n1_;clear n0_ n1_;(try clear hb);(try clear hb2);(try clear hk);(try clear hi)))
           go_ret
           exact ⟨by first|rfl|(simp [errW_none,errW_some] <;> rfl)|(simp [*,errW_none,errW_some] <;> rfl),by repeat (first|exact gB HB|refine below_set ?_ GE606.out)⟩
          ·rw [if_neg c49] at H
           exact absurd H (by simp)
         ·rw [if_neg c48] at H
          exact absurd H (by simp)
        ·rw [if_neg c46] at H
         exact absurd H (by simp)
end Go.Proofs.Ytdhdfmmefghijaa.P
namespace Go.Proofs.Ytdhdfmmefghijaa.P
open Go.RowKit Go.Proofs.YtdhdfmmefghijaaW.PrintWords Go.Proofs.YtdhdfmmefghijaaW.PrintLast Go.Proofs.YtdhdfmmefghijaaW.PrintMore
attribute [local go_sem] max2_int min2_int max_two min_two max_three min_three max_four min_four
set_option linter.unusedVariables false
set_option linter.unusedSimpArgs false
def impl_FormatDoc.f (k:Nat) (a0_0:Int) (a0_1:Int) (a0_2:ByteArray) (l0_3:List (SDoc)):Option (ByteArray):=(impl_DocValid.f k a0_0 a0_1 a0_2 l0_3).bind fun t619=>(if t619=true then ((impl_formatDoc.f k a0_0 a0_1 a0_2 l0_3).bind fun t620=>(some t620)) else (some (⟨#[]⟩:ByteArray)))
set_option maxHeartbeats 8000000 in
set_option maxRecDepth 100000 in
theorem impl_FormatDoc.calls (k:Nat) (a0_0:Int) (a0_1:Int) (a0_2:ByteArray) (A0_3:Option Addr) (c0_3:Nat) (l0_3:List (SDoc)) (r:ByteArray) (w:World) (hr0_3:Kd.C k27 w A0_3 l0_3.length l0_3) (hc0_3:l0_3.length≤c0_3) (h:impl_FormatDoc.f k a0_0 a0_1 a0_2 l0_3=some r) :
  Calls Try.prog 36 #[.agg #[.int .i64 a0_0,.int .i64 a0_1,.string a0_2,.slice A0_3 l0_3.length c0_3]] w fun e w'=>e=.returned (.string r)∧Below w.heap.size w w':=by
 have hu27:=Try.underlying27
 have HR0_3:=Aside0.mk hr0_3
 have HC0_3:=Aside0.mk hc0_3
 clear hr0_3 hc0_3
 have HB:=Aside0.mk (Below.refl w.heap.size w)
 have H:((impl_DocValid.f k a0_0 a0_1 a0_2 l0_3).bind fun t619=>(if t619=true then ((impl_formatDoc.f k a0_0 a0_1 a0_2 l0_3).bind fun t620=>(some t620)) else (some (⟨#[]⟩:ByteArray))))=some r:=h
 clear h
 replace H:=Option.bind_eq_some_iff.mp H
 obtain ⟨t619,A20,H⟩:=H
 replace H:(if t619=true then ((impl_formatDoc.f k a0_0 a0_1 a0_2 l0_3).bind fun t620=>(some t620)) else (some (⟨#[]⟩:ByteArray)))=some r:=H
 have A2:=Aside0.mk A20
 clear A20
 by_cases c3:t619=true
 ·subst c3
  have H1:((impl_formatDoc.f k a0_0 a0_1 a0_2 l0_3).bind fun t620=>(some t620))=some r:=by rw [if_pos rfl] at H;exact H
  clear H
  have H:=H1
  clear H1
  replace H:=Option.bind_eq_some_iff.mp H
  obtain ⟨t620,A40,H⟩:=H
  replace H:(some t620)=some r:=H
  have A4:=Aside0.mk A40
  clear A40
  obtain rfl:=Option.some.inj H
  go_enter Try.func36,Try.ntmps36
  go_wp2_with (first|((with_reducible refine gate_dst (N:=1) rfl ?_);refine box_event ?hg (N:=1) ?hd (cs:=#[.int .i64 a0_0,.int .i64 a0_1,.string a0_2,.slice A0_3 l0_3.length c0_3]) (t:=27) ?hr ?_;(case hd=>rfl);(case hg=>rfl);(case hr=>first|(go_simp;done)|(go_simp;rfl));intro gb618 hg w5 hbox hb;have n0_:=Aside0.mk (below_step (by repeat (first|(with_reducible first|exact HB.out|apply below_alloc|apply pw_below_drewN|apply below_drew1)|exact HB.out)) hb);have n1_:=Aside0.mk (hbox);have n2_:=Aside0.mk ((by rw [hg];exact (below_size (by repeat (first|(with_reducible first|exact HB.out|apply below_alloc|apply pw_below_drewN|apply below_drew1)|exact HB.out))):w.heap.size≤gb618));have n3_:=Aside0.mk ((by rw [hg];exact (below_size (by repeat (first|(with_reducible first|exact HB.out|apply below_alloc|apply pw_below_drewN|apply below_drew1)|exact HB.out))):w.heap.size≤gb618));clear HB;have HB:=n0_;have BK618:=n1_;have GW618:=n2_;have GE618:=n3_;clear n0_ n1_ n2_ n3_;clear hb hbox hg;have hcz6_0:w5.cell? ⟨gb618,0,none⟩=some (.int .i64 a0_0):=(blk_cell BK618.out 0).trans rfl;have hcz6_1:w5.cell? ⟨gb618,1,none⟩=some (.int .i64 a0_1):=(blk_cell BK618.out 1).trans rfl;have hcz6_2:w5.cell? ⟨gb618,2,none⟩=some (.string a0_2):=(blk_cell BK618.out 2).trans rfl;have hcz6_3:w5.cell? ⟨gb618,3,none⟩=some (.slice A0_3 l0_3.length c0_3):=(blk_cell BK618.out 3).trans rfl;have hfz6_0:=blk_frozen BK618.out 0;have hfz6_1:=blk_frozen BK618.out 1;have hfz6_2:=blk_frozen BK618.out 2;have hfz6_3:=blk_frozen BK618.out 3)|((with_reducible refine gate_callee (f:=24) rfl ?_);refine goesL_ (some 4) rfl rfl Try.func24 (by kernel_rfl) rfl #[.agg #[.int .i64 a0_0,.int .i64 a0_1,.string a0_2,.slice A0_3 l0_3.length c0_3]] rfl (by (try simp only [List.map_toArray,List.map_cons,List.map_nil]);first|done|rfl|(simp only [List.length_drop,List.length_take];rfl)) ?_;(with_reducible refine (impl_DocValid.calls k a0_0 a0_1 a0_2 _ _ l0_3 true _ ?side1 ?side2 A2.out).mono ?_);(case side1=>repeat (first|exact (Kd.C_below HR0_3.out HB.out)|(with_reducible refine Kd.C_alloc ?_ _)|(with_reducible refine Kd.C_drewN ?_ _)|(with_reducible refine Kd.C_drew ?_)));(case side2=>exact HC0_3.out);rintro e w7 ⟨rfl,hb⟩;refine ⟨_,rfl,?_⟩;have n0_:=Aside0.mk (blk_below (g:=gb618) (o:=.cells #[.int .i64 a0_0,.int .i64 a0_1,.string a0_2,.slice A0_3 l0_3.length c0_3] 27 (0,0)) (by (with_reducible repeat (first|refine blk_drewN ?_ _|refine blk_drew ?_|refine blk_alloc ?_ _));exact BK618.out) hb);have n1_:=Aside0.mk (below_step (by repeat (first|(with_reducible first|exact HB.out|apply below_alloc|apply pw_below_drewN|apply below_drew1|refine below_set ?_ GE618.out)|exact HB.out)) hb);clear BK618;clear HB;have BK618:=n0_;have HB:=n1_;clear n0_ n1_;(try clear hb);(try clear hb2);(try clear hk);(try clear hi);have hcz8_0:w7.cell? ⟨gb618,0,none⟩=some (.int .i64 a0_0):=(blk_cell BK618.out 0).trans rfl;have hcz8_1:w7.cell? ⟨gb618,1,none⟩=some (.int .i64 a0_1):=(blk_cell BK618.out 1).trans rfl;have hcz8_2:w7.cell? ⟨gb618,2,none⟩=some (.string a0_2):=(blk_cell BK618.out 2).trans rfl;have hcz8_3:w7.cell? ⟨gb618,3,none⟩=some (.slice A0_3 l0_3.length c0_3):=(blk_cell BK618.out 3).trans rfl;have hfz8_0:=blk_frozen BK618.out 0;have hfz8_1:=blk_frozen BK618.out 1;have hfz8_2:=blk_frozen BK618.out 2;have hfz8_3:=blk_frozen BK618.out 3)|((with_reducible refine gate_callee (f:=60) rfl ?_);refine goesL_ (some 7) rfl rfl Try.func60 (by kernel_rfl) rfl #[.agg #[.int .i64 a0_0,.int .i64 a0_1,.string a0_2,.slice A0_3 l0_3.length c0_3]] rfl (by (try simp only [List.map_toArray,List.map_cons,List.map_nil]);first|done|rfl|(simp only [List.length_drop,List.length_take];rfl)) ?_;(with_reducible refine (impl_formatDoc.calls k a0_0 a0_1 a0_2 _ _ l0_3 t620 _ ?side1 ?side2 A4.out).mono ?_);(case side1=>repeat (first|exact (Kd.C_below HR0_3.out HB.out)|(with_reducible refine Kd.C_alloc ?_ _)|(with_reducible refine Kd.C_drewN ?_ _)|(with_reducible refine Kd.C_drew ?_)));(case side2=>exact HC0_3.out);rintro e w9 ⟨rfl,hb⟩;refine ⟨_,rfl,?_⟩;have n0_:=Aside0.mk (blk_below (g:=gb618) (o:=.cells #[.int .i64 a0_0,.int .i64 a0_1,.string a0_2,.slice A0_3 l0_3.length c0_3] 27 (0,0)) (by (with_reducible repeat (first|refine blk_drewN ?_ _|refine blk_drew ?_|refine blk_alloc ?_ _));exact BK618.out) hb);have n1_:=Aside0.mk (below_step (by repeat (first|(with_reducible first|exact HB.out|apply below_alloc|apply pw_below_drewN|apply below_drew1|refine below_set ?_ GE618.out)|exact HB.out)) hb);clear BK618;clear HB;have BK618:=n0_;have HB:=n1_;clear n0_ n1_;(try clear hb);(try clear hb2);(try clear hk);(try clear hi)))
  go_ret
  exact ⟨by first|rfl|(simp [errW_none,errW_some] <;> rfl)|(simp [*,errW_none,errW_some] <;> rfl),by repeat (first|(with_reducible first|exact HB.out|apply below_alloc|apply pw_below_drewN|apply below_drew1|refine below_set ?_ GE618.out)|exact HB.out)⟩
 ·replace c3:=Bool.eq_false_iff.mpr c3
  subst c3
  have H1:(some (⟨#[]⟩:ByteArray))=some r:=by rw [if_neg (show ¬ (false=true) by decide)] at H;exact H
  clear H
  have H:=H1
  clear H1
  obtain rfl:=Option.some.inj H
  go_enter Try.func36,Try.ntmps36
  go_wp2_with (first|((with_reducible refine gate_dst (N:=1) rfl ?_);refine box_event ?hg (N:=1) ?hd (cs:=#[.int .i64 a0_0,.int .i64 a0_1,.string a0_2,.slice A0_3 l0_3.length c0_3]) (t:=27) ?hr ?_;(case hd=>rfl);(case hg=>rfl);(case hr=>first|(go_simp;done)|(go_simp;rfl));intro gb618 hg w10 hbox hb;have n0_:=Aside0.mk (below_step (by repeat (first|(with_reducible first|exact HB.out|apply below_alloc|apply pw_below_drewN|apply below_drew1)|exact HB.out)) hb);have n1_:=Aside0.mk (hbox);have n2_:=Aside0.mk ((by rw [hg];exact (below_size (by repeat (first|(with_reducible first|exact HB.out|apply below_alloc|apply pw_below_drewN|apply below_drew1)|exact HB.out))):w.heap.size≤gb618));have n3_:=Aside0.mk ((by rw [hg];exact (below_size (by repeat (first|(with_reducible first|exact HB.out|apply below_alloc|apply pw_below_drewN|apply below_drew1)|exact HB.out))):w.heap.size≤gb618));clear HB;have HB:=n0_;have BK618:=n1_;have GW618:=n2_;have GE618:=n3_;clear n0_ n1_ n2_ n3_;clear hb hbox hg;have hcz11_0:w10.cell? ⟨gb618,0,none⟩=some (.int .i64 a0_0):=(blk_cell BK618.out 0).trans rfl;have hcz11_1:w10.cell? ⟨gb618,1,none⟩=some (.int .i64 a0_1):=(blk_cell BK618.out 1).trans rfl;have hcz11_2:w10.cell? ⟨gb618,2,none⟩=some (.string a0_2):=(blk_cell BK618.out 2).trans rfl;have hcz11_3:w10.cell? ⟨gb618,3,none⟩=some (.slice A0_3 l0_3.length c0_3):=(blk_cell BK618.out 3).trans rfl;have hfz11_0:=blk_frozen BK618.out 0;have hfz11_1:=blk_frozen BK618.out 1;have hfz11_2:=blk_frozen BK618.out 2;have hfz11_3:=blk_frozen BK618.out 3)|((with_reducible refine gate_callee (f:=24) rfl ?_);refine goesL_ (some 4) rfl rfl Try.func24 (by kernel_rfl) rfl #[.agg #[.int .i64 a0_0,.int .i64 a0_1,.string a0_2,.slice A0_3 l0_3.length c0_3]] rfl (by (try simp only [List.map_toArray,List.map_cons,List.map_nil]);first|done|rfl|(simp only [List.length_drop,List.length_take];rfl)) ?_;(with_reducible refine (impl_DocValid.calls k a0_0 a0_1 a0_2 _ _ l0_3 false _ ?side1 ?side2 A2.out).mono ?_);(case side1=>repeat (first|exact (Kd.C_below HR0_3.out HB.out)|(with_reducible refine Kd.C_alloc ?_ _)|(with_reducible refine Kd.C_drewN ?_ _)|(with_reducible refine Kd.C_drew ?_)));(case side2=>exact HC0_3.out);rintro e w12 ⟨rfl,hb⟩;refine ⟨_,rfl,?_⟩;have n0_:=Aside0.mk (blk_below (g:=gb618) (o:=.cells #[.int .i64 a0_0,.int .i64 a0_1,.string a0_2,.slice A0_3 l0_3.length c0_3] 27 (0,0)) (by (with_reducible repeat (first|refine blk_drewN ?_ _|refine blk_drew ?_|refine blk_alloc ?_ _));exact BK618.out) hb);have n1_:=Aside0.mk (below_step (by repeat (first|(with_reducible first|exact HB.out|apply below_alloc|apply pw_below_drewN|apply below_drew1|refine below_set ?_ GE618.out)|exact HB.out)) hb);clear BK618;clear HB;have BK618:=n0_;have HB:=n1_;clear n0_ n1_;(try clear hb);(try clear hb2);(try clear hk);(try clear hi)))
  go_ret
  exact ⟨by first|rfl|(simp [errW_none,errW_some] <;> rfl)|(simp [*,errW_none,errW_some] <;> rfl),by repeat (first|(with_reducible first|exact HB.out|apply below_alloc|apply pw_below_drewN|apply below_drew1|refine below_set ?_ GE618.out)|exact HB.out)⟩
end Go.Proofs.Ytdhdfmmefghijaa.P
namespace Go.Proofs.Ytdhdfmmefghijaa.P
open Go.RowKit Go.Proofs.YtdhdfmmefghijaaW.PrintWords Go.Proofs.YtdhdfmmefghijaaW.PrintLast Go.Proofs.YtdhdfmmefghijaaW.PrintMore
attribute [local go_sem] max2_int min2_int max_two min_two max_three min_three max_four min_four
set_option linter.unusedVariables false
set_option linter.unusedSimpArgs false
mutual
def spec_l15Dec.l0:Nat→Int→ByteArray→Option (ByteArray)
 | 0,_,_=>none
 | k+1,x0,x3=>if x0 > 9 then ((some (([(wrap64 (48+(Int.tmod x0 10))) % 256]:List Int):List Int)).bind fun y839=>(if (strOfNums y839).size+x3.size≤9223372036854775807 then (spec_l15Dec.l0 k (wrap64 (Int.tdiv x0 10)) ((strOfNums y839)++x3)) else (none))) else ((some (([(wrap64 (48+x0)) % 256]:List Int):List Int)).bind fun y842=>(if (strOfNums y842).size+x3.size≤9223372036854775807 then (some ((strOfNums y842)++x3)) else (none)))
def spec_l15Dec.f:Nat→Int→Option (ByteArray)
 | 0,_=>none
 | k+1,a0=>if a0 < (-9223372036854775807) then (some (⟨#[45,57,50,50,51,51,55,50,48,51,54,56,53,52,55,55,53,56,48,56]⟩:ByteArray)) else (if a0 < 0 then ((spec_l15Dec.f k (wrap64 (-a0))).bind fun t838=>(if 1+t838.size≤9223372036854775807 then (some ((⟨#[45]⟩:ByteArray)++t838)) else (none))) else (spec_l15Dec.l0 k a0 (⟨#[]⟩:ByteArray)))
end
set_option maxHeartbeats 8000000 in
set_option maxRecDepth 100000 in
theorem spec_l15Dec.calls (k:Nat):∀ (a0:Int) (r:ByteArray) (w:World) (h:spec_l15Dec.f k a0=some r),
  Calls Try.prog 75 #[.int .i64 a0] w fun e w'=>e=.returned (.string r)∧Below w.heap.size w w':=by
 induction k using Nat.strongRecOn with
 | _ k ih =>
 intro a0 r w h
 cases k with
 | zero=>exact absurd h (by simp [spec_l15Dec.f])
 | succ k =>
 simp only [spec_l15Dec.f] at h
 have HB:=Aside0.mk (Below.refl w.heap.size w)
 have H:(if a0 < (-9223372036854775807) then (some (⟨#[45,57,50,50,51,51,55,50,48,51,54,56,53,52,55,55,53,56,48,56]⟩:ByteArray)) else (if a0 < 0 then ((spec_l15Dec.f k (wrap64 (-a0))).bind fun t838=>(if 1+t838.size≤9223372036854775807 then (some ((⟨#[45]⟩:ByteArray)++t838)) else (none))) else (spec_l15Dec.l0 k a0 (⟨#[]⟩:ByteArray))))=some r:=h
 clear h
 by_cases c2:a0 < (-9223372036854775807)
 ·rw [if_pos c2] at H
  have c2b0:decide (a0 < (-9223372036854775807))=true:=decide_eq_true c2
  clear c2
  obtain rfl:=Option.some.inj H
  go_enter Try.func75,Try.ntmps75
  go_wp2
  go_ret
  exact ⟨by first|rfl|(simp [errW_none,errW_some] <;> rfl)|(simp [*,errW_none,errW_some] <;> rfl),gB HB⟩
 ·rw [if_neg c2] at H
  have c2b0:decide (a0 < (-9223372036854775807))=false:=decide_eq_false c2
  clear c2
  by_cases c3:a0 < 0
  ·rw [if_pos c3] at H
   have c3b0:decide (a0 < 0)=true:=decide_eq_true c3
   clear c3
   replace H:=Option.bind_eq_some_iff.mp H
   obtain ⟨t838,A40,H⟩:=H
   replace H:(if 1+t838.size≤9223372036854775807 then (some ((⟨#[45]⟩:ByteArray)++t838)) else (none))=some r:=H
   have A4:=Aside0.mk A40
   clear A40
   by_cases c5:1+t838.size≤9223372036854775807
   ·rw [if_pos c5] at H
    have c5b0:=eq_true c5
    have c5b1:decide (1+t838.size≤9223372036854775807)=true:=decide_eq_true c5
    try have c5b2:(9223372036854775807 < 1+t838.size)=False:=eq_false (Nat.not_lt.2 c5)
    obtain rfl:=Option.some.inj H
    go_enter Try.func75,Try.ntmps75
    go_wp2_with (first|((with_reducible refine gate_callee (f:=75) rfl ?_);refine goesL_ (some 10) rfl rfl Try.func75 (by kernel_rfl) rfl #[.int .i64 (wrap64 (-a0))] rfl (by (try simp only [List.map_toArray,List.map_cons,List.map_nil]);first|done|rfl|(simp only [List.length_drop,List.length_take];rfl)) ?_;(with_reducible refine (ih k (by omega) (wrap64 (-a0)) t838 _ A4.out).mono ?_);rintro e w6 ⟨rfl,hb⟩;refine ⟨_,rfl,?_⟩;have n0_:=Aside0.mk (below_step (gB HB) hb);clear HB;have HB:=n0_;clear n0_;(try clear hb);(try clear hb2);(try clear hk);(try clear hi)))
    go_ret
    exact ⟨by first|rfl|(simp [errW_none,errW_some] <;> rfl)|(simp [*,errW_none,errW_some] <;> rfl),gB HB⟩
   ·rw [if_neg c5] at H
    exact absurd H (by simp)
  ·rw [if_neg c3] at H
   have c3b0:decide (a0 < 0)=false:=decide_eq_false c3
   clear c3
   have H':=Aside0.mk H
   clear H
   go_enter Try.func75,Try.ntmps75
   go_wp2
   go_loopg [0,3] k (fun kq v0 v3 w'=>∃ (x0_1:Int) (x3_1:ByteArray),v0=.int .i64 x0_1∧v3=.string x3_1∧Aside0 (spec_l15Dec.l0 kq x0_1 x3_1=some r)∧Aside0 (kq≤k)∧Aside0 (Below w.heap.size w w'))
   case atStart=>exact ⟨(a0),((⟨#[]⟩:ByteArray)),(by first|rfl|(simp;done)|(simp [*];done)),(by first|rfl|(simp;done)|(simp [*];done)),H',⟨Nat.le_refl _⟩,⟨gB HB⟩⟩
   case round =>
    clear H'
    try clear c2 c2b0 p2 c3 c3b0 c5 c5b0 c5b1 c5b2 p6
    (try clear HB)
    obtain ⟨x0_1,x3_1,rfl,rfl,HA,HK1,HB⟩:=hrel
    cases gk with
    | zero=>exact absurd HA.out (by simp [spec_l15Dec.l0])
    | succ k1 =>
     have H:=HA.out
     clear HA
     simp only [spec_l15Dec.l0] at H
     by_cases c7:x0_1 > 9
     ·rw [if_pos c7] at H
      have c7b0:decide (9 < x0_1)=true:=decide_eq_true c7
      clear c7
      obtain ⟨y839,hy839⟩:∃ y_:List Int,y_=(([(wrap64 (48+(Int.tmod x0_1 10))) % 256]:List Int)):=⟨_,rfl⟩
      replace H:(if (strOfNums y839).size+x3_1.size≤9223372036854775807 then (spec_l15Dec.l0 k1 (wrap64 (Int.tdiv x0_1 10)) ((strOfNums y839)++x3_1)) else (none))=some r:=by first|(rw [hy839];with_reducible exact H)|(have H2_:=(Option.bind_some _ _).symm.trans H;rw [hy839];with_reducible exact H2_)|(have H2_:=(Option.bind_some _ _).symm.trans H;with_reducible exact H2_)|with_reducible exact H|(rw [hy839];exact H)|exact H
      have Ny839:=Aside0.mk hy839
      clear hy839
      by_cases c8:(strOfNums y839).size+x3_1.size≤9223372036854775807
      ·rw [if_pos c8] at H
       have c8b0:=eq_true c8
       have c8b1:decide ((strOfNums y839).size+x3_1.size≤9223372036854775807)=true:=decide_eq_true c8
       try have c8b2:(9223372036854775807 < (strOfNums y839).size+x3_1.size)=False:=eq_false (Nat.not_lt.2 c8)
       have H':=Aside0.mk H
       clear H
       go_wp2_with (first|((with_reducible refine gate_dst (N:=18) rfl ?_);refine Kd.R_lit (Kd.int .u8) _ 5 ?hg (N:=18) ?hd (xs:=([(wrap64 (48+(Int.tmod x0_1 10))) % 256]:List Int)) (inner:=[.int .u8 ((wrap64 (48+(Int.tmod x0_1 10))) % 256)]) (ok:=fun _=>True) (okp:=fun _=>True) ?hr ?hp (fun _ hk=>hk) trivial (Below.refl _ _) (Nat.le_refl _) (by simp) ?_;(case hd=>rfl);(case hg=>rfl);(case hr=>first|(go_simp;done)|(go_simp;rfl));(case hp=>exact (Reps.one (show Kd.M (Kd.int .u8) _ _ _ ((wrap64 (48+(Int.tmod x0_1 10))) % 256) [.int .u8 ((wrap64 (48+(Int.tmod x0_1 10))) % 256)] from rfl) (Reps.none _ _)));intro v840 w9 ho10 hb hg_ hnew_;clear hg_ hnew_;(first|rw [← Ny839.out] at ho10|(simp only [Int.reduceToNat] at ho10;rw [← Ny839.out] at ho10));have n0_:=Aside0.mk (Kd.R_lower ho10 (below_size (gB HB)));have n1_:=Aside0.mk (below_step (gB HB) hb);clear HB;have HO841:=n0_;have HB:=n1_;clear n0_ n1_;clear hb ho10;have hcv11:=own_string (P:=Try.prog) Try.underlying22 Try.underlying5 Try.underlying9 (Kd.own_of_R HO841.out)))
       go_roundg k1
       case measure=>have:=HK1.out;omega
       case rel=>exact ⟨(wrap64 (Int.tdiv x0_1 10)),((strOfNums y839)++x3_1),(by first|rfl|(simp;done)|(simp [*];done)),(by first|rfl|(simp;done)|(simp [*];done)),H',⟨by have:=HK1.out;omega⟩,⟨gB HB⟩⟩
      ·rw [if_neg c8] at H
       exact absurd H (by simp)
     ·rw [if_neg c7] at H
      have c7b0:decide (9 < x0_1)=false:=decide_eq_false c7
      clear c7
      obtain ⟨y842,hy842⟩:∃ y_:List Int,y_=(([(wrap64 (48+x0_1)) % 256]:List Int)):=⟨_,rfl⟩
      replace H:(if (strOfNums y842).size+x3_1.size≤9223372036854775807 then (some ((strOfNums y842)++x3_1)) else (none))=some r:=by first|(rw [hy842];with_reducible exact H)|(have H2_:=(Option.bind_some _ _).symm.trans H;rw [hy842];with_reducible exact H2_)|(have H2_:=(Option.bind_some _ _).symm.trans H;with_reducible exact H2_)|with_reducible exact H|(rw [hy842];exact H)|exact H
      have Ny842:=Aside0.mk hy842
      clear hy842
      by_cases c12:(strOfNums y842).size+x3_1.size≤9223372036854775807
      ·rw [if_pos c12] at H
       have c12b0:=eq_true c12
       have c12b1:decide ((strOfNums y842).size+x3_1.size≤9223372036854775807)=true:=decide_eq_true c12
       try have c12b2:(9223372036854775807 < (strOfNums y842).size+x3_1.size)=False:=eq_false (Nat.not_lt.2 c12)
       obtain rfl:=Option.some.inj H
       go_wp2_with (first|((with_reducible refine gate_dst (N:=27) rfl ?_);refine Kd.R_lit (Kd.int .u8) _ 5 ?hg (N:=27) ?hd (xs:=([(wrap64 (48+x0_1)) % 256]:List Int)) (inner:=[.int .u8 ((wrap64 (48+x0_1)) % 256)]) (ok:=fun _=>True) (okp:=fun _=>True) ?hr ?hp (fun _ hk=>hk) trivial (Below.refl _ _) (Nat.le_refl _) (by simp) ?_;(case hd=>rfl);(case hg=>rfl);(case hr=>first|(go_simp;done)|(go_simp;rfl));(case hp=>exact (Reps.one (show Kd.M (Kd.int .u8) _ _ _ ((wrap64 (48+x0_1)) % 256) [.int .u8 ((wrap64 (48+x0_1)) % 256)] from rfl) (Reps.none _ _)));intro v843 w13 ho14 hb hg_ hnew_;clear hg_ hnew_;(first|rw [← Ny842.out] at ho14|(simp only [Int.reduceToNat] at ho14;rw [← Ny842.out] at ho14));have n0_:=Aside0.mk (Kd.R_lower ho14 (below_size (gB HB)));have n1_:=Aside0.mk (below_step (gB HB) hb);clear HB;have HO844:=n0_;have HB:=n1_;clear n0_ n1_;clear hb ho14;have hcv15:=own_string (P:=Try.prog) Try.underlying22 Try.underlying5 Try.underlying9 (Kd.own_of_R HO844.out)))
       go_ret
       exact ⟨by first|rfl|(simp [errW_none,errW_some] <;> rfl)|(simp [*,errW_none,errW_some] <;> rfl),gB HB⟩
      ·rw [if_neg c12] at H
       exact absurd H (by simp)
end Go.Proofs.Ytdhdfmmefghijaa.P
namespace Go.Proofs.Ytdhdfmmefghijaa.P
open Go.RowKit Go.Proofs.YtdhdfmmefghijaaW.PrintWords Go.Proofs.YtdhdfmmefghijaaW.PrintLast Go.Proofs.YtdhdfmmefghijaaW.PrintMore
attribute [local go_sem] max2_int min2_int max_two min_two max_three min_three max_four min_four
set_option linter.unusedVariables false
set_option linter.unusedSimpArgs false
def spec_l1Text.f:Nat→Int→Int→ByteArray→List (SDoc)→Option (ByteArray)
 | 0,_,_,_,_=>none
 | k+1,a0_0,a0_1,a0_2,l0_3=>if a0_0=1 then (some (⟨#[126]⟩:ByteArray)) else (if a0_0=2 then (if 1+a0_2.size≤9223372036854775807 then (if ((⟨#[34]⟩:ByteArray)++a0_2).size+1≤9223372036854775807 then (some (((⟨#[34]⟩:ByteArray)++a0_2)++(⟨#[34]⟩:ByteArray))) else (none)) else (none)) else (if a0_0=3 then (some (⟨#[95]⟩:ByteArray)) else (if a0_0=4 then (some (⟨#[46]⟩:ByteArray)) else (if a0_0=5 then (some (⟨#[33]⟩:ByteArray)) else (if a0_0=6 then ((spec_l15Dec.f k a0_1).bind fun t846=>(if t846.size+1≤9223372036854775807 then (if 0 < (l0_3.length:Int) then ((spec_l1Text.f k ((rd_TDoc l0_3 0).f0) ((rd_TDoc l0_3 0).f1) ((rd_TDoc l0_3 0).f2) ((rd_TDoc l0_3 0).f3)).bind fun t848=>(if (t846++(⟨#[60]⟩:ByteArray)).size+t848.size≤9223372036854775807 then (if ((t846++(⟨#[60]⟩:ByteArray))++t848).size+1≤9223372036854775807 then (some (((t846++(⟨#[60]⟩:ByteArray))++t848)++(⟨#[62]⟩:ByteArray))) else (none)) else (none))) else (none)) else (none))) else (if a0_0=7 then (if 0 < (l0_3.length:Int) then ((spec_l1Text.f k ((rd_TDoc l0_3 0).f0) ((rd_TDoc l0_3 0).f1) ((rd_TDoc l0_3 0).f2) ((rd_TDoc l0_3 0).f3)).bind fun t850=>(if 1+t850.size≤9223372036854775807 then (if 1 < (l0_3.length:Int) then ((spec_l1Text.f k ((rd_TDoc l0_3 1).f0) ((rd_TDoc l0_3 1).f1) ((rd_TDoc l0_3 1).f2) ((rd_TDoc l0_3 1).f3)).bind fun t852=>(if ((⟨#[40]⟩:ByteArray)++t850).size+t852.size≤9223372036854775807 then (if (((⟨#[40]⟩:ByteArray)++t850)++t852).size+1≤9223372036854775807 then (some ((((⟨#[40]⟩:ByteArray)++t850)++t852)++(⟨#[41]⟩:ByteArray))) else (none)) else (none))) else (none)) else (none))) else (none)) else (if 0 < (l0_3.length:Int) then ((spec_l1Text.f k ((rd_TDoc l0_3 0).f0) ((rd_TDoc l0_3 0).f1) ((rd_TDoc l0_3 0).f2) ((rd_TDoc l0_3 0).f3)).bind fun t854=>(if 1+t854.size≤9223372036854775807 then (if ((⟨#[91]⟩:ByteArray)++t854).size+1≤9223372036854775807 then (some (((⟨#[91]⟩:ByteArray)++t854)++(⟨#[93]⟩:ByteArray))) else (none)) else (none))) else (none))))))))
def spec_l1Text.T13:Bool × List (List Nat × List Nat):=(true,[([],[]),([0],[0]),([1],[1]),([2],[2]),([],[]),([4],[4]),([5],[5]),([6],[6]),([7,2],[7]),([3,8],[3,8]),([9],[9]),([10,8,0,1,2,3,4,5,6,7,8,9,10],[10])])
def spec_l1Text.B13:List Nat:=[0,1,3,7,0,16,48,112,247,511,1023,2047]
theorem spec_l1Text.tab13:rtab .any (opsOf Try.f63 13)=spec_l1Text.T13:=by kernel_rfl
theorem spec_l1Text.bits13:waitsOk spec_l1Text.T13.2 spec_l1Text.B13=true:=by kernel_rfl
def spec_l1Text.T15:Bool × List (List Nat × List Nat):=(true,[([],[]),([0],[0]),([1],[1]),([2],[2]),([3],[3]),([4],[4]),([],[]),([6],[6]),([7],[7]),([8],[8]),([9,4],[9]),([5,10],[5,10]),([11],[11]),([12,10,0,1,2,3,4,5,6,7,8,9,10,11,12],[12])])
def spec_l1Text.B15:List Nat:=[0,1,3,7,15,31,0,64,192,448,991,2047,4095,8191]
theorem spec_l1Text.tab15:rtab .any (opsOf Try.f63 15)=spec_l1Text.T15:=by kernel_rfl
theorem spec_l1Text.bits15:waitsOk spec_l1Text.T15.2 spec_l1Text.B15=true:=by kernel_rfl
set_option maxHeartbeats 8000000 in
set_option maxRecDepth 100000 in
theorem spec_l1Text.calls (k:Nat):∀ (a0_0:Int) (a0_1:Int) (a0_2:ByteArray) (A0_3:Option Addr) (c0_3:Nat) (l0_3:List (SDoc)) (r:ByteArray) (w:World) (hr0_3:Kd.C k27 w A0_3 l0_3.length l0_3) (hc0_3:l0_3.length≤c0_3) (h:spec_l1Text.f k a0_0 a0_1 a0_2 l0_3=some r),
  Calls Try.prog 63 #[.agg #[.int .i64 a0_0,.int .i64 a0_1,.string a0_2,.slice A0_3 l0_3.length c0_3]] w fun e w'=>e=.returned (.string r)∧Below w.heap.size w w':=by
 induction k using Nat.strongRecOn with
 | _ k ih =>
 intro a0_0 a0_1 a0_2 A0_3 c0_3 l0_3 r w hr0_3 hc0_3 h
 cases k with
 | zero=>exact absurd h (by simp [spec_l1Text.f])
 | succ k =>
 simp only [spec_l1Text.f] at h
 have hu27:=Try.underlying27
 have HR0_3:=Aside0.mk hr0_3
 have HC0_3:=Aside0.mk hc0_3
 clear hr0_3 hc0_3
 have HB:=Aside0.mk (Below.refl w.heap.size w)
 have H:(if a0_0=1 then (some (⟨#[126]⟩:ByteArray)) else (if a0_0=2 then (if 1+a0_2.size≤9223372036854775807 then (if ((⟨#[34]⟩:ByteArray)++a0_2).size+1≤9223372036854775807 then (some (((⟨#[34]⟩:ByteArray)++a0_2)++(⟨#[34]⟩:ByteArray))) else (none)) else (none)) else (if a0_0=3 then (some (⟨#[95]⟩:ByteArray)) else (if a0_0=4 then (some (⟨#[46]⟩:ByteArray)) else (if a0_0=5 then (some (⟨#[33]⟩:ByteArray)) else (if a0_0=6 then ((spec_l15Dec.f k a0_1).bind fun t846=>(if t846.size+1≤9223372036854775807 then (if 0 < (l0_3.length:Int) then ((spec_l1Text.f k ((rd_TDoc l0_3 0).f0) ((rd_TDoc l0_3 0).f1) ((rd_TDoc l0_3 0).f2) ((rd_TDoc l0_3 0).f3)).bind fun t848=>(if (t846++(⟨#[60]⟩:ByteArray)).size+t848.size≤9223372036854775807 then (if ((t846++(⟨#[60]⟩:ByteArray))++t848).size+1≤9223372036854775807 then (some (((t846++(⟨#[60]⟩:ByteArray))++t848)++(⟨#[62]⟩:ByteArray))) else (none)) else (none))) else (none)) else (none))) else (if a0_0=7 then (if 0 < (l0_3.length:Int) then ((spec_l1Text.f k ((rd_TDoc l0_3 0).f0) ((rd_TDoc l0_3 0).f1) ((rd_TDoc l0_3 0).f2) ((rd_TDoc l0_3 0).f3)).bind fun t850=>(if 1+t850.size≤9223372036854775807 then (if 1 < (l0_3.length:Int) then ((spec_l1Text.f k ((rd_TDoc l0_3 1).f0) ((rd_TDoc l0_3 1).f1) ((rd_TDoc l0_3 1).f2) ((rd_TDoc l0_3 1).f3)).bind fun t852=>(if ((⟨#[40]⟩:ByteArray)++t850).size+t852.size≤9223372036854775807 then (if (((⟨#[40]⟩:ByteArray)++t850)++t852).size+1≤9223372036854775807 then (some ((((⟨#[40]⟩:ByteArray)++t850)++t852)++(⟨#[41]⟩:ByteArray))) else (none)) else (none))) else (none)) else (none))) else (none)) else (if 0 < (l0_3.length:Int) then ((spec_l1Text.f k ((rd_TDoc l0_3 0).f0) ((rd_TDoc l0_3 0).f1) ((rd_TDoc l0_3 0).f2) ((rd_TDoc l0_3 0).f3)).bind fun t854=>(if 1+t854.size≤9223372036854775807 then (if ((⟨#[91]⟩:ByteArray)++t854).size+1≤9223372036854775807 then (some (((⟨#[91]⟩:ByteArray)++t854)++(⟨#[93]⟩:ByteArray))) else (none)) else (none))) else (none)))))))))=some r:=h
 clear h
 by_cases c2:a0_0=1
 ·rw [if_pos c2] at H
  have c2b0:(a0_0 == 1)=true:=beq_iff_eq.mpr c2
  have c2b1:(a0_0 != 1)=false:=bne_eq_false_iff_eq.mpr c2
  clear c2
  obtain rfl:=Option.some.inj H
  go_enter Try.func63,Try.ntmps63
  go_wp2_with (first|((with_reducible refine gate_dst (N:=1) rfl ?_);refine box_event ?hg (N:=1) ?hd (cs:=#[.int .i64 a0_0,.int .i64 a0_1,.string a0_2,.slice A0_3 l0_3.length c0_3]) (t:=27) ?hr ?_;(case hd=>rfl);(case hg=>rfl);(case hr=>first|(go_simp;done)|(go_simp;rfl));intro gb845 hg w3 hbox hb;have n0_:=Aside0.mk (below_step (gB HB) hb);have n1_:=Aside0.mk (hbox);have n2_:=Aside0.mk ((by rw [hg];exact (below_size (gB HB)):w.heap.size≤gb845));have n3_:=Aside0.mk ((by rw [hg];exact (below_size (gB HB)):w.heap.size≤gb845));clear HB;have HB:=n0_;have BK845:=n1_;have GW845:=n2_;have GE845:=n3_;clear n0_ n1_ n2_ n3_;clear hb hbox hg;have hcz4_0:w3.cell? ⟨gb845,0,none⟩=some (.int .i64 a0_0):=(blk_cell BK845.out 0).trans rfl;have hcz4_1:w3.cell? ⟨gb845,1,none⟩=some (.int .i64 a0_1):=(blk_cell BK845.out 1).trans rfl;have hcz4_2:w3.cell? ⟨gb845,2,none⟩=some (.string a0_2):=(blk_cell BK845.out 2).trans rfl;have hcz4_3:w3.cell? ⟨gb845,3,none⟩=some (.slice A0_3 l0_3.length c0_3):=(blk_cell BK845.out 3).trans rfl;have hfz4_0:=blk_frozen BK845.out 0;have hfz4_1:=blk_frozen BK845.out 1;have hfz4_2:=blk_frozen BK845.out 2;have hfz4_3:=blk_frozen BK845.out 3))
  go_ret
  exact ⟨by first|rfl|(simp [errW_none,errW_some] <;> rfl)|(simp [*,errW_none,errW_some] <;> rfl),by repeat (first|exact gB HB|refine below_set ?_ GE845.out)⟩
 ·rw [if_neg c2] at H
  have c2b0:(a0_0 == 1)=false:=beq_eq_false_iff_ne.mpr c2
  have c2b1:(a0_0 != 1)=true:=bne_iff_ne.mpr c2
  by_cases c5:a0_0=2
  ·rw [if_pos c5] at H
   have c5b0:(a0_0 == 2)=true:=beq_iff_eq.mpr c5
   have c5b1:(a0_0 != 2)=false:=bne_eq_false_iff_eq.mpr c5
   clear c5
   by_cases c6:1+a0_2.size≤9223372036854775807
   ·rw [if_pos c6] at H
    have c6b0:=eq_true c6
    have c6b1:decide (1+a0_2.size≤9223372036854775807)=true:=decide_eq_true c6
    try have c6b2:(9223372036854775807 < 1+a0_2.size)=False:=eq_false (Nat.not_lt.2 c6)
    by_cases c7:((⟨#[34]⟩:ByteArray)++a0_2).size+1≤9223372036854775807
    ·rw [if_pos c7] at H
     have c7b0:=eq_true c7
     have c7b1:decide (((⟨#[34]⟩:ByteArray)++a0_2).size+1≤9223372036854775807)=true:=decide_eq_true c7
     try (have c7b4:=c7;(conv at c7b4=>(lhs;simp));have c7b5:=eq_false (Nat.not_lt.2 c7b4))
     try (have c7b6:=c7;(conv at c7b6=>(lhs;simp [go_sem]));have c7b7:=eq_false (Nat.not_lt.2 c7b6))
     try have c7b2:(9223372036854775807 < ((⟨#[34]⟩:ByteArray)++a0_2).size+1)=False:=eq_false (Nat.not_lt.2 c7)
     obtain rfl:=Option.some.inj H
     go_enter Try.func63,Try.ntmps63
     go_wp2_with (first|((with_reducible refine gate_dst (N:=1) rfl ?_);refine box_event ?hg (N:=1) ?hd (cs:=#[.int .i64 a0_0,.int .i64 a0_1,.string a0_2,.slice A0_3 l0_3.length c0_3]) (t:=27) ?hr ?_;(case hd=>rfl);(case hg=>rfl);(case hr=>first|(go_simp;done)|(go_simp;rfl));intro gb845 hg w8 hbox hb;have n0_:=Aside0.mk (below_step (gB HB) hb);have n1_:=Aside0.mk (hbox);have n2_:=Aside0.mk ((by rw [hg];exact (below_size (gB HB)):w.heap.size≤gb845));have n3_:=Aside0.mk ((by rw [hg];exact (below_size (gB HB)):w.heap.size≤gb845));clear HB;have HB:=n0_;have BK845:=n1_;have GW845:=n2_;have GE845:=n3_;clear n0_ n1_ n2_ n3_;clear hb hbox hg;have hcz9_0:w8.cell? ⟨gb845,0,none⟩=some (.int .i64 a0_0):=(blk_cell BK845.out 0).trans rfl;have hcz9_1:w8.cell? ⟨gb845,1,none⟩=some (.int .i64 a0_1):=(blk_cell BK845.out 1).trans rfl;have hcz9_2:w8.cell? ⟨gb845,2,none⟩=some (.string a0_2):=(blk_cell BK845.out 2).trans rfl;have hcz9_3:w8.cell? ⟨gb845,3,none⟩=some (.slice A0_3 l0_3.length c0_3):=(blk_cell BK845.out 3).trans rfl;have hfz9_0:=blk_frozen BK845.out 0;have hfz9_1:=blk_frozen BK845.out 1;have hfz9_2:=blk_frozen BK845.out 2;have hfz9_3:=blk_frozen BK845.out 3))
     go_ret
     exact ⟨by first|rfl|(simp [errW_none,errW_some] <;> rfl)|(simp [*,errW_none,errW_some] <;> rfl),by repeat (first|exact gB HB|refine below_set ?_ GE845.out)⟩
    ·rw [if_neg c7] at H
     exact absurd H (by simp)
   ·rw [if_neg c6] at H
    exact absurd H (by simp)
  ·rw [if_neg c5] at H
   have c5b0:(a0_0 == 2)=false:=beq_eq_false_iff_ne.mpr c5
   have c5b1:(a0_0 != 2)=true:=bne_iff_ne.mpr c5
   by_cases c10:a0_0=3
   ·rw [if_pos c10] at H
    have c10b0:(a0_0 == 3)=true:=beq_iff_eq.mpr c10
    have c10b1:(a0_0 != 3)=false:=bne_eq_false_iff_eq.mpr c10
    clear c10
    obtain rfl:=Option.some.inj H
    go_enter Try.func63,Try.ntmps63
    go_wp2_with (first|((with_reducible refine gate_dst (N:=1) rfl ?_);refine box_event ?hg (N:=1) ?hd (cs:=#[.int .i64 a0_0,.int .i64 a0_1,.string a0_2,.slice A0_3 l0_3.length c0_3]) (t:=27) ?hr ?_;(case hd=>rfl);(case hg=>rfl);(case hr=>first|(go_simp;done)|(go_simp;rfl));intro gb845 hg w11 hbox hb;have n0_:=Aside0.mk (below_step (gB HB) hb);have n1_:=Aside0.mk (hbox);have n2_:=Aside0.mk ((by rw [hg];exact (below_size (gB HB)):w.heap.size≤gb845));have n3_:=Aside0.mk ((by rw [hg];exact (below_size (gB HB)):w.heap.size≤gb845));clear HB;have HB:=n0_;have BK845:=n1_;have GW845:=n2_;have GE845:=n3_;clear n0_ n1_ n2_ n3_;clear hb hbox hg;have hcz12_0:w11.cell? ⟨gb845,0,none⟩=some (.int .i64 a0_0):=(blk_cell BK845.out 0).trans rfl;have hcz12_1:w11.cell? ⟨gb845,1,none⟩=some (.int .i64 a0_1):=(blk_cell BK845.out 1).trans rfl;have hcz12_2:w11.cell? ⟨gb845,2,none⟩=some (.string a0_2):=(blk_cell BK845.out 2).trans rfl;have hcz12_3:w11.cell? ⟨gb845,3,none⟩=some (.slice A0_3 l0_3.length c0_3):=(blk_cell BK845.out 3).trans rfl;have hfz12_0:=blk_frozen BK845.out 0;have hfz12_1:=blk_frozen BK845.out 1;have hfz12_2:=blk_frozen BK845.out 2;have hfz12_3:=blk_frozen BK845.out 3))
    go_ret
    exact ⟨by first|rfl|(simp [errW_none,errW_some] <;> rfl)|(simp [*,errW_none,errW_some] <;> rfl),by repeat (first|exact gB HB|refine below_set ?_ GE845.out)⟩
   ·rw [if_neg c10] at H
    have c10b0:(a0_0 == 3)=false:=beq_eq_false_iff_ne.mpr c10
    have c10b1:(a0_0 != 3)=true:=bne_iff_ne.mpr c10
    by_cases c13:a0_0=4
    ·rw [if_pos c13] at H
     have c13b0:(a0_0 == 4)=true:=beq_iff_eq.mpr c13
     have c13b1:(a0_0 != 4)=false:=bne_eq_false_iff_eq.mpr c13
     clear c13
     obtain rfl:=Option.some.inj H
     go_enter Try.func63,Try.ntmps63
     go_wp2_with (first|((with_reducible refine gate_dst (N:=1) rfl ?_);refine box_event ?hg (N:=1) ?hd (cs:=#[.int .i64 a0_0,.int .i64 a0_1,.string a0_2,.slice A0_3 l0_3.length c0_3]) (t:=27) ?hr ?_;(case hd=>rfl);(case hg=>rfl);(case hr=>first|(go_simp;done)|(go_simp;rfl));intro gb845 hg w14 hbox hb;have n0_:=Aside0.mk (below_step (gB HB) hb);have n1_:=Aside0.mk (hbox);have n2_:=Aside0.mk ((by rw [hg];exact (below_size (gB HB)):w.heap.size≤gb845));have n3_:=Aside0.mk ((by rw [hg];exact (below_size (gB HB)):w.heap.size≤gb845));clear HB;have HB:=n0_;have BK845:=n1_;have GW845:=n2_;have GE845:=n3_;clear n0_ n1_ n2_ n3_;clear hb hbox hg;have hcz15_0:w14.cell? ⟨gb845,0,none⟩=some (.int .i64 a0_0):=(blk_cell BK845.out 0).trans rfl;have hcz15_1:w14.cell? ⟨gb845,1,none⟩=some (.int .i64 a0_1):=(blk_cell BK845.out 1).trans rfl;have hcz15_2:w14.cell? ⟨gb845,2,none⟩=some (.string a0_2):=(blk_cell BK845.out 2).trans rfl;have hcz15_3:w14.cell? ⟨gb845,3,none⟩=some (.slice A0_3 l0_3.length c0_3):=(blk_cell BK845.out 3).trans rfl;have hfz15_0:=blk_frozen BK845.out 0;have hfz15_1:=blk_frozen BK845.out 1;have hfz15_2:=blk_frozen BK845.out 2;have hfz15_3:=blk_frozen BK845.out 3))
     go_ret
     exact ⟨by first|rfl|(simp [errW_none,errW_some] <;> rfl)|(simp [*,errW_none,errW_some] <;> rfl),by repeat (first|exact gB HB|refine below_set ?_ GE845.out)⟩
    ·rw [if_neg c13] at H
     have c13b0:(a0_0 == 4)=false:=beq_eq_false_iff_ne.mpr c13
     have c13b1:(a0_0 != 4)=true:=bne_iff_ne.mpr c13
     by_cases c16:a0_0=5
     ·rw [if_pos c16] at H
      have c16b0:(a0_0 == 5)=true:=beq_iff_eq.mpr c16
      have c16b1:(a0_0 != 5)=false:=bne_eq_false_iff_eq.mpr c16
      clear c16
      obtain rfl:=Option.some.inj H
      go_enter Try.func63,Try.ntmps63
      go_wp2_with (first|((with_reducible refine gate_dst (N:=1) rfl ?_);refine box_event ?hg (N:=1) ?hd (cs:=#[.int .i64 a0_0,.int .i64 a0_1,.string a0_2,.slice A0_3 l0_3.length c0_3]) (t:=27) ?hr ?_;(case hd=>rfl);(case hg=>rfl);(case hr=>first|(go_simp;done)|(go_simp;rfl));intro gb845 hg w17 hbox hb;have n0_:=Aside0.mk (below_step (gB HB) hb);have n1_:=Aside0.mk (hbox);have n2_:=Aside0.mk ((by rw [hg];exact (below_size (gB HB)):w.heap.size≤gb845));have n3_:=Aside0.mk ((by rw [hg];exact (below_size (gB HB)):w.heap.size≤gb845));clear HB;have HB:=n0_;have BK845:=n1_;have GW845:=n2_;have GE845:=n3_;clear n0_ n1_ n2_ n3_;clear hb hbox hg;have hcz18_0:w17.cell? ⟨gb845,0,none⟩=some (.int .i64 a0_0):=(blk_cell BK845.out 0).trans rfl;have hcz18_1:w17.cell? ⟨gb845,1,none⟩=some (.int .i64 a0_1):=(blk_cell BK845.out 1).trans rfl;have hcz18_2:w17.cell? ⟨gb845,2,none⟩=some (.string a0_2):=(blk_cell BK845.out 2).trans rfl;have hcz18_3:w17.cell? ⟨gb845,3,none⟩=some (.slice A0_3 l0_3.length c0_3):=(blk_cell BK845.out 3).trans rfl;have hfz18_0:=blk_frozen BK845.out 0;have hfz18_1:=blk_frozen BK845.out 1;have hfz18_2:=blk_frozen BK845.out 2;have hfz18_3:=blk_frozen BK845.out 3))
      go_ret
      exact ⟨by first|rfl|(simp [errW_none,errW_some] <;> rfl)|(simp [*,errW_none,errW_some] <;> rfl),by repeat (first|exact gB HB|refine below_set ?_ GE845.out)⟩
     ·rw [if_neg c16] at H
      have c16b0:(a0_0 == 5)=false:=beq_eq_false_iff_ne.mpr c16
      have c16b1:(a0_0 != 5)=true:=bne_iff_ne.mpr c16
      by_cases c19:a0_0=6
      ·rw [if_pos c19] at H
       have c19b0:(a0_0 == 6)=true:=beq_iff_eq.mpr c19
       have c19b1:(a0_0 != 6)=false:=bne_eq_false_iff_eq.mpr c19
       clear c19
       replace H:=Option.bind_eq_some_iff.mp H
       obtain ⟨t846,A200,H⟩:=H
       replace H:(if t846.size+1≤9223372036854775807 then (if 0 < (l0_3.length:Int) then ((spec_l1Text.f k ((rd_TDoc l0_3 0).f0) ((rd_TDoc l0_3 0).f1) ((rd_TDoc l0_3 0).f2) ((rd_TDoc l0_3 0).f3)).bind fun t848=>(if (t846++(⟨#[60]⟩:ByteArray)).size+t848.size≤9223372036854775807 then (if ((t846++(⟨#[60]⟩:ByteArray))++t848).size+1≤9223372036854775807 then (some (((t846++(⟨#[60]⟩:ByteArray))++t848)++(⟨#[62]⟩:ByteArray))) else (none)) else (none))) else (none)) else (none))=some r:=H
       have A20:=Aside0.mk A200
       clear A200
       by_cases c21:t846.size+1≤9223372036854775807
       ·rw [if_pos c21] at H
        have c21b0:=eq_true c21
        have c21b1:decide (t846.size+1≤9223372036854775807)=true:=decide_eq_true c21
        try have c21b2:(9223372036854775807 < t846.size+1)=False:=eq_false (Nat.not_lt.2 c21)
        by_cases c22:0 < (l0_3.length:Int)
        ·rw [if_pos c22] at H
         have c22b0:decide (0 < (l0_3.length:Int))=true:=decide_eq_true c22
         have c22b1:decide (0 < l0_3.length)=true:=decide_eq_true (by omega)
         clear c22
         replace H:=Option.bind_eq_some_iff.mp H
         obtain ⟨t848,A230,H⟩:=H
         replace H:(if (t846++(⟨#[60]⟩:ByteArray)).size+t848.size≤9223372036854775807 then (if ((t846++(⟨#[60]⟩:ByteArray))++t848).size+1≤9223372036854775807 then (some (((t846++(⟨#[60]⟩:ByteArray))++t848)++(⟨#[62]⟩:ByteArray))) else (none)) else (none))=some r:=H
         have A23:=Aside0.mk A230
         clear A230
         by_cases c24:(t846++(⟨#[60]⟩:ByteArray)).size+t848.size≤9223372036854775807
         ·rw [if_pos c24] at H
          have c24b0:=eq_true c24
          have c24b1:decide ((t846++(⟨#[60]⟩:ByteArray)).size+t848.size≤9223372036854775807)=true:=decide_eq_true c24
          try (have c24b4:=c24;(conv at c24b4=>(lhs;simp));have c24b5:=eq_false (Nat.not_lt.2 c24b4))
          try (have c24b6:=c24;(conv at c24b6=>(lhs;simp [go_sem]));have c24b7:=eq_false (Nat.not_lt.2 c24b6))
          try have c24b2:(9223372036854775807 < (t846++(⟨#[60]⟩:ByteArray)).size+t848.size)=False:=eq_false (Nat.not_lt.2 c24)
          by_cases c25:((t846++(⟨#[60]⟩:ByteArray))++t848).size+1≤9223372036854775807
          ·rw [if_pos c25] at H
           have c25b0:=eq_true c25
           have c25b1:decide (((t846++(⟨#[60]⟩:ByteArray))++t848).size+1≤9223372036854775807)=true:=decide_eq_true c25
           try (have c25b4:=c25;(conv at c25b4=>(lhs;simp));have c25b5:=eq_false (Nat.not_lt.2 c25b4))
           try (have c25b6:=c25;(conv at c25b6=>(lhs;simp [go_sem]));have c25b7:=eq_false (Nat.not_lt.2 c25b6))
           try have c25b2:(9223372036854775807 < ((t846++(⟨#[60]⟩:ByteArray))++t848).size+1)=False:=eq_false (Nat.not_lt.2 c25)
           obtain rfl:=Option.some.inj H
           go_enter Try.func63,Try.ntmps63
           try go_wp2_with (first|((with_reducible refine gate_dst (N:=1) rfl ?_);refine box_event ?hg (N:=1) ?hd (cs:=#[.int .i64 a0_0,.int .i64 a0_1,.string a0_2,.slice A0_3 l0_3.length c0_3]) (t:=27) ?hr ?_;(case hd=>rfl);(case hg=>rfl);(case hr=>first|(go_simp;done)|(go_simp;rfl));intro gb845 hg w26 hbox hb;have n0_:=Aside0.mk (below_step (gB HB) hb);have n1_:=Aside0.mk (hbox);have n2_:=Aside0.mk ((by rw [hg];exact (below_size (gB HB)):w.heap.size≤gb845));have n3_:=Aside0.mk ((by rw [hg];exact (below_size (gB HB)):w.heap.size≤gb845));clear HB;have HB:=n0_;have BK845:=n1_;have GW845:=n2_;have GE845:=n3_;clear n0_ n1_ n2_ n3_;clear hb hbox hg;have hcz27_0:w26.cell? ⟨gb845,0,none⟩=some (.int .i64 a0_0):=(blk_cell BK845.out 0).trans rfl;have hcz27_1:w26.cell? ⟨gb845,1,none⟩=some (.int .i64 a0_1):=(blk_cell BK845.out 1).trans rfl;have hcz27_2:w26.cell? ⟨gb845,2,none⟩=some (.string a0_2):=(blk_cell BK845.out 2).trans rfl;have hcz27_3:w26.cell? ⟨gb845,3,none⟩=some (.slice A0_3 l0_3.length c0_3):=(blk_cell BK845.out 3).trans rfl;have hfz27_0:=blk_frozen BK845.out 0;have hfz27_1:=blk_frozen BK845.out 1;have hfz27_2:=blk_frozen BK845.out 2;have hfz27_3:=blk_frozen BK845.out 3))
           have n0_:=Aside0.mk (blk_drew BK845.out)
           have n1_:=Aside0.mk (below_drew1 HB.out)
           clear BK845
           clear HB
           have BK845:=n0_
           have HB:=n1_
           clear n0_ n1_
           have p847:0≤(0:Int):=(by omega)
           have q847:0 < (l0_3.length:Int):=of_decide_eq_true (by first|(with_reducible assumption)|assumption)
           obtain ⟨ad847,A847_3,c847_3,e847,hx847_0,hx847_1,hx847_2,hx847_3,hl847_3,hi847_3⟩:=at_TDoc HR0_3.out 0 p847 q847
           have hw847_3:=hx847_3
           (try rw [show ((0:Int)).toNat=0 from rfl] at hw847_3)
           (try rw [show 0 * 4=0 from rfl] at hw847_3)
           (try rw [Addr.add_zero'] at hw847_3)
           have hw847_2:=hx847_2
           (try rw [show ((0:Int)).toNat=0 from rfl] at hw847_2)
           (try rw [show 0 * 4=0 from rfl] at hw847_2)
           (try rw [Addr.add_zero'] at hw847_2)
           have hw847_1:=hx847_1
           (try rw [show ((0:Int)).toNat=0 from rfl] at hw847_1)
           (try rw [show 0 * 4=0 from rfl] at hw847_1)
           (try rw [Addr.add_zero'] at hw847_1)
           have hw847_0:=hx847_0
           (try rw [show ((0:Int)).toNat=0 from rfl] at hw847_0)
           (try rw [show 0 * 4=0 from rfl] at hw847_0)
           (try rw [Addr.add_zero'] at hw847_0)
           cases e847
           have qi847:(0 < l0_3.length)=True:=eq_true (by omega)
           (try rw [show ((0:Int)).toNat=0 from rfl] at hx847_0)
           (try rw [show 0 * 4=0 from rfl] at hx847_0)
           (try rw [Addr.add_zero'] at hx847_0)
           (try rw [show ((0:Int)).toNat=0 from rfl] at hx847_1)
           (try rw [show 0 * 4=0 from rfl] at hx847_1)
           (try rw [Addr.add_zero'] at hx847_1)
           (try rw [show ((0:Int)).toNat=0 from rfl] at hx847_2)
           (try rw [show 0 * 4=0 from rfl] at hx847_2)
           (try rw [Addr.add_zero'] at hx847_2)
           (try rw [show ((0:Int)).toNat=0 from rfl] at hx847_3)
           (try rw [show 0 * 4=0 from rfl] at hx847_3)
           (try rw [Addr.add_zero'] at hx847_3)
           replace hx847_0:=(HB.out.cell (World.block_lt_of_cell? w _ hx847_0)).trans hx847_0
           replace hx847_1:=(HB.out.cell (World.block_lt_of_cell? w _ hx847_1)).trans hx847_1
           replace hx847_2:=(HB.out.cell (World.block_lt_of_cell? w _ hx847_2)).trans hx847_2
           replace hx847_3:=(HB.out.cell (World.block_lt_of_cell? w _ hx847_3)).trans hx847_3
           have HR847_3:=Aside0.mk hi847_3
           have HC847_3:=Aside0.mk hl847_3
           clear hi847_3 hl847_3
           replace p847:=eq_true p847
           replace q847:=eq_true q847
           refine start_ (n:=12) (S:=fun w'=>w'.cell? ⟨gb845,0,none⟩=some (.int .i64 a0_0)∧w'.cell? ⟨gb845,1,none⟩=some (.int .i64 a0_1)∧w'.cell? ⟨gb845,2,none⟩=some (.string a0_2)∧w'.cell? ⟨gb845,3,none⟩=some (.slice (some ad847) l0_3.length c0_3)∧w'.cell? ad847=some (.int .i64 ((rd_TDoc l0_3 0).f0))∧w'.cell? ⟨ad847.block,ad847.off+1,none⟩=some (.int .i64 ((rd_TDoc l0_3 0).f1))∧w'.cell? ⟨ad847.block,ad847.off+2,none⟩=some (.string ((rd_TDoc l0_3 0).f2))∧w'.cell? ⟨ad847.block,ad847.off+3,none⟩=some (.slice A847_3 ((rd_TDoc l0_3 0).f3).length c847_3)) (ds:=[]) #[false,false,false,false,false,false,false,false,false,false,false,false] (by kernel_rfl) rfl rfl ⟨(blk_cell BK845.out 0).trans rfl,(blk_cell BK845.out 1).trans rfl,(blk_cell BK845.out 2).trans rfl,(blk_cell BK845.out 3).trans rfl,((HB.out.cell (World.block_lt_of_cell? w _ hw847_0)).trans hw847_0),((HB.out.cell (World.block_lt_of_cell? w _ hw847_1)).trans hw847_1),((HB.out.cell (World.block_lt_of_cell? w _ hw847_2)).trans hw847_2),((HB.out.cell (World.block_lt_of_cell? w _ hw847_3)).trans hw847_3)⟩ (fun hHeld=>?_);refine with_tabW spec_l1Text.tab13 spec_l1Text.bits13 (fun HT_ HW_=>?_)
           generalize w26.drew=w28 at BK845 HB HR847_3 hx847_0 hx847_1 hx847_2 hx847_3 hHeld ⊢
           refine pure_ (i:=0) (N:=some 21) (v:=?_) (a':=?_) #[true,false,false,false,false,false,false,false,false,false,false,false] rfl rfl (any_of HT_.out (by kernel_rfl)) (fun _ _ _ h=>h) (Or.inl ⟨by rfl,?_⟩) ?_ ?_
           rotate_left
           ·intro w'
            go_simp
            with_reducible rfl
           rotate_left
           ·simp only [Act.put,List.setIfInBounds_toArray,List.set_cons_zero,List.set_cons_succ,i64_w,i32_w]
            rfl
           refine pure_ (i:=4) (N:=some 25) (v:=?_) (a':=?_) #[true,false,false,false,true,false,false,false,false,false,false,false] rfl rfl (any_of HT_.out (by kernel_rfl)) (fun _ _ _ h=>h) (Or.inl ⟨by rfl,?_⟩) ?_ ?_
           rotate_left
           ·intro w'
            go_simp
            with_reducible rfl
           rotate_left
           ·simp only [Act.put,List.setIfInBounds_toArray,List.set_cons_zero,List.set_cons_succ,i64_w,i32_w]
            rfl
           refine take_ (i:=1) (N:=some 22) (v:=?_) (a':=?_) #[true,true,false,false,true,false,false,false,false,false,false,false] rfl rfl (take_ofW HT_.out HW_.out (by kernel_rfl)) (fun _ _ _ h=>h) (Or.inl ⟨by rfl,?_⟩) hHeld ?_ ?_
           rotate_left
           ·rintro w' ⟨s0,s1,s2,s3,s4,s5,s6,s7⟩
            go_simp
            with_reducible rfl
           rotate_left
           ·simp only [Act.put,List.setIfInBounds_toArray,List.set_cons_zero,List.set_cons_succ,i64_w,i32_w]
            rfl
           refine take_ (i:=5) (N:=some 26) (v:=?_) (a':=?_) #[true,true,false,false,true,true,false,false,false,false,false,false] rfl rfl (take_ofW HT_.out HW_.out (by kernel_rfl)) (fun _ _ _ h=>h) (Or.inl ⟨by rfl,?_⟩) hHeld ?_ ?_
           rotate_left
           ·rintro w' ⟨s0,s1,s2,s3,s4,s5,s6,s7⟩
            go_simp
            with_reducible rfl
           rotate_left
           ·simp only [Act.put,List.setIfInBounds_toArray,List.set_cons_zero,List.set_cons_succ,i64_w,i32_w]
            rfl
           refine pure_ (i:=6) (N:=some 27) (v:=?_) (a':=?_) #[true,true,false,false,true,true,true,false,false,false,false,false] rfl rfl (any_of HT_.out (by kernel_rfl)) (fun _ _ _ h=>h) (Or.inl ⟨by rfl,?_⟩) ?_ ?_
           rotate_left
           ·intro w'
            go_simp
            with_reducible rfl
           rotate_left
           ·simp only [Act.put,List.setIfInBounds_toArray,List.set_cons_zero,List.set_cons_succ,i64_w,i32_w]
            rfl
           refine take_ (i:=7) (N:=some 28) (v:=?_) (a':=?_) #[true,true,false,false,true,true,true,true,false,false,false,false] rfl rfl (take_ofW HT_.out HW_.out (by kernel_rfl)) (fun _ _ _ h=>h) (Or.inl ⟨by rfl,?_⟩) hHeld ?_ ?_
           rotate_left
           ·rintro w' ⟨s0,s1,s2,s3,s4,s5,s6,s7⟩
            go_simp
            with_reducible rfl
           rotate_left
           ·simp only [Act.put,List.setIfInBounds_toArray,List.set_cons_zero,List.set_cons_succ,i64_w,i32_w]
            rfl
           refine one_ (i:=2) (N:=some 23) #[true,true,true,false,true,true,true,true,false,false,false,false] rfl rfl (one_of HT_.out (by kernel_rfl)) (by decide) (fun K hK=>?_)
           refine goes_ Try.func75 (by kernel_rfl) rfl #[.int .i64 a0_1] (by rfl) rfl rfl (by (try simp only [List.map_toArray,List.map_cons,List.map_nil]);first|done|rfl|(simp only [List.length_drop,List.length_take];rfl)) ?_
           with_reducible refine (spec_l15Dec.calls k a0_1 t846 _ A20.out).mono ?_
           rintro e w29 ⟨rfl,hb⟩
           refine ⟨_,rfl,?_⟩
           have n0_:=Aside0.mk (blk_below (g:=gb845) (o:=.cells #[.int .i64 a0_0,.int .i64 a0_1,.string a0_2,.slice (some ad847) l0_3.length c0_3] 27 (0,0)) (gK BK845) hb)
           have n1_:=Aside0.mk (below_step (by repeat (first|exact gB HB|refine below_set ?_ GE845.out)) hb)
           clear BK845
           clear HB
           have BK845:=n0_
           have HB:=n1_
           clear n0_ n1_
           (try clear hb)
           (try clear hb2)
           (try clear hk)
           (try clear hi)
           refine hK.out _ _ ⟨(blk_cell BK845.out 0).trans rfl,(blk_cell BK845.out 1).trans rfl,(blk_cell BK845.out 2).trans rfl,(blk_cell BK845.out 3).trans rfl,((HB.out.cell (World.block_lt_of_cell? w _ hw847_0)).trans hw847_0),((HB.out.cell (World.block_lt_of_cell? w _ hw847_1)).trans hw847_1),((HB.out.cell (World.block_lt_of_cell? w _ hw847_2)).trans hw847_2),((HB.out.cell (World.block_lt_of_cell? w _ hw847_3)).trans hw847_3)⟩ (fun hHeld=>?_)
           clear hK K
           refine norm_ (a':=?_) ?_ ?_
           rotate_left
           ·show Act.put _ (some 23) _=_
            simp only [Act.put,List.setIfInBounds_toArray,List.set_cons_zero,List.set_cons_succ,i64_w,i32_w]
            rfl
           refine pure_ (i:=3) (N:=some 24) (v:=?_) (a':=?_) #[true,true,true,true,true,true,true,true,false,false,false,false] rfl rfl (any_of HT_.out (by kernel_rfl)) (fun _ _ _ h=>h) (Or.inl ⟨by rfl,?_⟩) ?_ ?_
           rotate_left
           ·intro w'
            go_simp
            with_reducible rfl
           rotate_left
           ·simp only [Act.put,List.setIfInBounds_toArray,List.set_cons_zero,List.set_cons_succ,i64_w,i32_w]
            rfl
           refine one_ (i:=8) (N:=some 29) #[true,true,true,true,true,true,true,true,true,false,false,false] rfl rfl (one_of HT_.out (by kernel_rfl)) (by decide) (fun K hK=>?_)
           refine goes_ Try.func63 (by kernel_rfl) rfl #[.agg #[.int .i64 ((rd_TDoc l0_3 0).f0),.int .i64 ((rd_TDoc l0_3 0).f1),.string ((rd_TDoc l0_3 0).f2),.slice A847_3 ((rd_TDoc l0_3 0).f3).length c847_3]] (by rfl) rfl rfl (by (try simp only [List.map_toArray,List.map_cons,List.map_nil]);first|done|rfl|(simp only [List.length_drop,List.length_take];rfl)) ?_
           with_reducible refine (ih k (by omega) ((rd_TDoc l0_3 0).f0) ((rd_TDoc l0_3 0).f1) ((rd_TDoc l0_3 0).f2) _ _ ((rd_TDoc l0_3 0).f3) t848 _ ?side1 ?side2 A23.out).mono ?_
           (case side1=>exact gC (Kd.C_below HR847_3.out HB.out))
           (case side2=>exact HC847_3.out)
           rintro e w30 ⟨rfl,hb⟩
           refine ⟨_,rfl,?_⟩
           have n0_:=Aside0.mk (blk_below (g:=gb845) (o:=.cells #[.int .i64 a0_0,.int .i64 a0_1,.string a0_2,.slice (some ad847) l0_3.length c0_3] 27 (0,0)) (gK BK845) hb)
           have n1_:=Aside0.mk (below_step (by repeat (first|exact gB HB|refine below_set ?_ GE845.out)) hb)
           clear BK845
           clear HB
           have BK845:=n0_
           have HB:=n1_
           clear n0_ n1_
           (try clear hb)
           (try clear hb2)
           (try clear hk)
           (try clear hi)
           refine hK.out _ _ ⟨(blk_cell BK845.out 0).trans rfl,(blk_cell BK845.out 1).trans rfl,(blk_cell BK845.out 2).trans rfl,(blk_cell BK845.out 3).trans rfl,((HB.out.cell (World.block_lt_of_cell? w _ hw847_0)).trans hw847_0),((HB.out.cell (World.block_lt_of_cell? w _ hw847_1)).trans hw847_1),((HB.out.cell (World.block_lt_of_cell? w _ hw847_2)).trans hw847_2),((HB.out.cell (World.block_lt_of_cell? w _ hw847_3)).trans hw847_3)⟩ (fun hHeld=>?_)
           clear hK K
           refine norm_ (a':=?_) ?_ ?_
           rotate_left
           ·show Act.put _ (some 29) _=_
            simp only [Act.put,List.setIfInBounds_toArray,List.set_cons_zero,List.set_cons_succ,i64_w,i32_w]
            rfl
           refine pure_ (i:=9) (N:=some 30) (v:=?_) (a':=?_) #[true,true,true,true,true,true,true,true,true,true,false,false] rfl rfl (any_of HT_.out (by kernel_rfl)) (fun _ _ _ h=>h) (Or.inl ⟨by rfl,?_⟩) ?_ ?_
           rotate_left
           ·intro w'
            go_simp
            with_reducible rfl
           rotate_left
           ·simp only [Act.put,List.setIfInBounds_toArray,List.set_cons_zero,List.set_cons_succ,i64_w,i32_w]
            rfl
           refine pure_ (i:=10) (N:=some 31) (v:=?_) (a':=?_) #[true,true,true,true,true,true,true,true,true,true,true,false] rfl rfl (any_of HT_.out (by kernel_rfl)) (fun _ _ _ h=>h) (Or.inl ⟨by rfl,?_⟩) ?_ ?_
           rotate_left
           ·intro w'
            go_simp
            with_reducible rfl
           rotate_left
           ·simp only [Act.put,List.setIfInBounds_toArray,List.set_cons_zero,List.set_cons_succ,i64_w,i32_w]
            rfl
           refine pure_ (i:=11) (N:=some 2) (v:=?_) (a':=?_) #[true,true,true,true,true,true,true,true,true,true,true,true] rfl rfl (any_of HT_.out (by kernel_rfl)) (fun _ _ _ h=>h) (Or.inl ⟨by rfl,?_⟩) ?_ ?_
           rotate_left
           ·intro w'
            go_simp
            with_reducible rfl
           rotate_left
           ·simp only [Act.put,List.setIfInBounds_toArray,List.set_cons_zero,List.set_cons_succ,i64_w,i32_w]
            rfl
           refine done_ (done_of HT_.out (by kernel_rfl)) ?_
           try go_wp2
           go_ret
           exact ⟨by first|rfl|(simp [errW_none,errW_some] <;> rfl)|(simp [*,errW_none,errW_some] <;> rfl),by repeat (first|exact gB HB|refine below_set ?_ GE845.out)⟩
          ·rw [if_neg c25] at H
           exact absurd H (by simp)
         ·rw [if_neg c24] at H
          exact absurd H (by simp)
        ·rw [if_neg c22] at H
         exact absurd H (by simp)
       ·rw [if_neg c21] at H
        exact absurd H (by simp)
      ·rw [if_neg c19] at H
       have c19b0:(a0_0 == 6)=false:=beq_eq_false_iff_ne.mpr c19
       have c19b1:(a0_0 != 6)=true:=bne_iff_ne.mpr c19
       by_cases c31:a0_0=7
       ·rw [if_pos c31] at H
        have c31b0:(a0_0 == 7)=true:=beq_iff_eq.mpr c31
        have c31b1:(a0_0 != 7)=false:=bne_eq_false_iff_eq.mpr c31
        clear c31
        by_cases c32:0 < (l0_3.length:Int)
        ·rw [if_pos c32] at H
         have c32b0:decide (0 < (l0_3.length:Int))=true:=decide_eq_true c32
         have c32b1:decide (0 < l0_3.length)=true:=decide_eq_true (by omega)
         clear c32
         replace H:=Option.bind_eq_some_iff.mp H
         obtain ⟨t850,A330,H⟩:=H
         replace H:(if 1+t850.size≤9223372036854775807 then (if 1 < (l0_3.length:Int) then ((spec_l1Text.f k ((rd_TDoc l0_3 1).f0) ((rd_TDoc l0_3 1).f1) ((rd_TDoc l0_3 1).f2) ((rd_TDoc l0_3 1).f3)).bind fun t852=>(if ((⟨#[40]⟩:ByteArray)++t850).size+t852.size≤9223372036854775807 then (if (((⟨#[40]⟩:ByteArray)++t850)++t852).size+1≤9223372036854775807 then (some ((((⟨#[40]⟩:ByteArray)++t850)++t852)++(⟨#[41]⟩:ByteArray))) else (none)) else (none))) else (none)) else (none))=some r:=H
         have A33:=Aside0.mk A330
         clear A330
         by_cases c34:1+t850.size≤9223372036854775807
         ·rw [if_pos c34] at H
          have c34b0:=eq_true c34
          have c34b1:decide (1+t850.size≤9223372036854775807)=true:=decide_eq_true c34
          try have c34b2:(9223372036854775807 < 1+t850.size)=False:=eq_false (Nat.not_lt.2 c34)
          by_cases c35:1 < (l0_3.length:Int)
          ·rw [if_pos c35] at H
           have c35b0:decide (1 < (l0_3.length:Int))=true:=decide_eq_true c35
           have c35b1:decide (1 < l0_3.length)=true:=decide_eq_true (by omega)
           clear c35
           replace H:=Option.bind_eq_some_iff.mp H
           obtain ⟨t852,A360,H⟩:=H
           replace H:(if ((⟨#[40]⟩:ByteArray)++t850).size+t852.size≤9223372036854775807 then (if (((⟨#[40]⟩:ByteArray)++t850)++t852).size+1≤9223372036854775807 then (some ((((⟨#[40]⟩:ByteArray)++t850)++t852)++(⟨#[41]⟩:ByteArray))) else (none)) else (none))=some r:=H
           have A36:=Aside0.mk A360
           clear A360
           by_cases c37:((⟨#[40]⟩:ByteArray)++t850).size+t852.size≤9223372036854775807
           ·rw [if_pos c37] at H
            have c37b0:=eq_true c37
            have c37b1:decide (((⟨#[40]⟩:ByteArray)++t850).size+t852.size≤9223372036854775807)=true:=decide_eq_true c37
            try (have c37b4:=c37;(conv at c37b4=>(lhs;simp));have c37b5:=eq_false (Nat.not_lt.2 c37b4))
            try (have c37b6:=c37;(conv at c37b6=>(lhs;simp [go_sem]));have c37b7:=eq_false (Nat.not_lt.2 c37b6))
            try have c37b2:(9223372036854775807 < ((⟨#[40]⟩:ByteArray)++t850).size+t852.size)=False:=eq_false (Nat.not_lt.2 c37)
            by_cases c38:(((⟨#[40]⟩:ByteArray)++t850)++t852).size+1≤9223372036854775807
            ·rw [if_pos c38] at H
             have c38b0:=eq_true c38
             have c38b1:decide ((((⟨#[40]⟩:ByteArray)++t850)++t852).size+1≤9223372036854775807)=true:=decide_eq_true c38
             try (have c38b4:=c38;(conv at c38b4=>(lhs;simp));have c38b5:=eq_false (Nat.not_lt.2 c38b4))
             try (have c38b6:=c38;(conv at c38b6=>(lhs;simp [go_sem]));have c38b7:=eq_false (Nat.not_lt.2 c38b6))
             try have c38b2:(9223372036854775807 < (((⟨#[40]⟩:ByteArray)++t850)++t852).size+1)=False:=eq_false (Nat.not_lt.2 c38)
             obtain rfl:=Option.some.inj H
             go_enter Try.func63,Try.ntmps63
             try go_wp2_with (first|((with_reducible refine gate_dst (N:=1) rfl ?_);refine box_event ?hg (N:=1) ?hd (cs:=#[.int .i64 a0_0,.int .i64 a0_1,.string a0_2,.slice A0_3 l0_3.length c0_3]) (t:=27) ?hr ?_;(case hd=>rfl);(case hg=>rfl);(case hr=>first|(go_simp;done)|(go_simp;rfl));intro gb845 hg w39 hbox hb;have n0_:=Aside0.mk (below_step (gB HB) hb);have n1_:=Aside0.mk (hbox);have n2_:=Aside0.mk ((by rw [hg];exact (below_size (gB HB)):w.heap.size≤gb845));have n3_:=Aside0.mk ((by rw [hg];exact (below_size (gB HB)):w.heap.size≤gb845));clear HB;have HB:=n0_;have BK845:=n1_;have GW845:=n2_;have GE845:=n3_;clear n0_ n1_ n2_ n3_;clear hb hbox hg;have hcz40_0:w39.cell? ⟨gb845,0,none⟩=some (.int .i64 a0_0):=(blk_cell BK845.out 0).trans rfl;have hcz40_1:w39.cell? ⟨gb845,1,none⟩=some (.int .i64 a0_1):=(blk_cell BK845.out 1).trans rfl;have hcz40_2:w39.cell? ⟨gb845,2,none⟩=some (.string a0_2):=(blk_cell BK845.out 2).trans rfl;have hcz40_3:w39.cell? ⟨gb845,3,none⟩=some (.slice A0_3 l0_3.length c0_3):=(blk_cell BK845.out 3).trans rfl;have hfz40_0:=blk_frozen BK845.out 0;have hfz40_1:=blk_frozen BK845.out 1;have hfz40_2:=blk_frozen BK845.out 2;have hfz40_3:=blk_frozen BK845.out 3))
             have n0_:=Aside0.mk (blk_drew BK845.out)
             have n1_:=Aside0.mk (below_drew1 HB.out)
             clear BK845
             clear HB
             have BK845:=n0_
             have HB:=n1_
             clear n0_ n1_
             have p849:0≤(0:Int):=(by omega)
             have q849:0 < (l0_3.length:Int):=of_decide_eq_true (by first|(with_reducible assumption)|assumption)
             (try clear hx847_0);(try clear hx847_1);(try clear hx847_2);(try clear hx847_3)
             obtain ⟨ad849,A849_3,c849_3,e849,hx849_0,hx849_1,hx849_2,hx849_3,hl849_3,hi849_3⟩:=at_TDoc HR0_3.out 0 p849 q849
             (try (have ea_:=Option.some.inj (hx849_3.symm.trans hw847_3);injection ea_ with ea_ en_ ec_;subst ea_;subst ec_;clear en_))
             have hw849_3:=hx849_3
             (try rw [show ((0:Int)).toNat=0 from rfl] at hw849_3)
             (try rw [show 0 * 4=0 from rfl] at hw849_3)
             (try rw [Addr.add_zero'] at hw849_3)
             have hw849_2:=hx849_2
             (try rw [show ((0:Int)).toNat=0 from rfl] at hw849_2)
             (try rw [show 0 * 4=0 from rfl] at hw849_2)
             (try rw [Addr.add_zero'] at hw849_2)
             have hw849_1:=hx849_1
             (try rw [show ((0:Int)).toNat=0 from rfl] at hw849_1)
             (try rw [show 0 * 4=0 from rfl] at hw849_1)
             (try rw [Addr.add_zero'] at hw849_1)
             have hw849_0:=hx849_0
             (try rw [show ((0:Int)).toNat=0 from rfl] at hw849_0)
             (try rw [show 0 * 4=0 from rfl] at hw849_0)
             (try rw [Addr.add_zero'] at hw849_0)
             cases e849
             have qi849:(0 < l0_3.length)=True:=eq_true (by omega)
             (try rw [show ((0:Int)).toNat=0 from rfl] at hx849_0)
             (try rw [show 0 * 4=0 from rfl] at hx849_0)
             (try rw [Addr.add_zero'] at hx849_0)
             (try rw [show ((0:Int)).toNat=0 from rfl] at hx849_1)
             (try rw [show 0 * 4=0 from rfl] at hx849_1)
             (try rw [Addr.add_zero'] at hx849_1)
             (try rw [show ((0:Int)).toNat=0 from rfl] at hx849_2)
             (try rw [show 0 * 4=0 from rfl] at hx849_2)
             (try rw [Addr.add_zero'] at hx849_2)
             (try rw [show ((0:Int)).toNat=0 from rfl] at hx849_3)
             (try rw [show 0 * 4=0 from rfl] at hx849_3)
             (try rw [Addr.add_zero'] at hx849_3)
             replace hx849_0:=(HB.out.cell (World.block_lt_of_cell? w _ hx849_0)).trans hx849_0
             replace hx849_1:=(HB.out.cell (World.block_lt_of_cell? w _ hx849_1)).trans hx849_1
             replace hx849_2:=(HB.out.cell (World.block_lt_of_cell? w _ hx849_2)).trans hx849_2
             replace hx849_3:=(HB.out.cell (World.block_lt_of_cell? w _ hx849_3)).trans hx849_3
             have HR849_3:=Aside0.mk hi849_3
             have HC849_3:=Aside0.mk hl849_3
             clear hi849_3 hl849_3
             replace p849:=eq_true p849
             replace q849:=eq_true q849
             have p851:0≤(1:Int):=(by omega)
             have q851:1 < (l0_3.length:Int):=of_decide_eq_true (by first|(with_reducible assumption)|assumption)
             obtain ⟨ad851,A851_3,c851_3,e851,hx851_0,hx851_1,hx851_2,hx851_3,hl851_3,hi851_3⟩:=at_TDoc HR0_3.out 1 p851 q851
             have hw851_3:=hx851_3
             (try rw [show ((1:Int)).toNat=1 from rfl] at hw851_3)
             (try rw [show 1 * 4=4 from rfl] at hw851_3)
             (try simp only [Nat.reduceMul,Nat.reduceEqDiff,Go.Addr.add,↓reduceIte] at hw851_3)
             have hw851_2:=hx851_2
             (try rw [show ((1:Int)).toNat=1 from rfl] at hw851_2)
             (try rw [show 1 * 4=4 from rfl] at hw851_2)
             (try simp only [Nat.reduceMul,Nat.reduceEqDiff,Go.Addr.add,↓reduceIte] at hw851_2)
             have hw851_1:=hx851_1
             (try rw [show ((1:Int)).toNat=1 from rfl] at hw851_1)
             (try rw [show 1 * 4=4 from rfl] at hw851_1)
             (try simp only [Nat.reduceMul,Nat.reduceEqDiff,Go.Addr.add,↓reduceIte] at hw851_1)
             have hw851_0:=hx851_0
             (try rw [show ((1:Int)).toNat=1 from rfl] at hw851_0)
             (try rw [show 1 * 4=4 from rfl] at hw851_0)
             (try simp only [Nat.reduceMul,Nat.reduceEqDiff,Go.Addr.add,↓reduceIte] at hw851_0)
             obtain rfl:ad849=ad851:=(by injection e851)
             (try simp only [show (1:Int).toNat=1 from rfl,Nat.reduceMul,Nat.reduceEqDiff,Go.Addr.add,↓reduceIte] at hx851_0)
             (try simp only [show (1:Int).toNat=1 from rfl,Nat.reduceMul,Nat.reduceEqDiff,Go.Addr.add,↓reduceIte] at hx851_1)
             (try simp only [show (1:Int).toNat=1 from rfl,Nat.reduceMul,Nat.reduceEqDiff,Go.Addr.add,↓reduceIte] at hx851_2)
             (try simp only [show (1:Int).toNat=1 from rfl,Nat.reduceMul,Nat.reduceEqDiff,Go.Addr.add,↓reduceIte] at hx851_3)
             have qi851:(1 < l0_3.length)=True:=eq_true (by omega)
             (try rw [show ((1:Int)).toNat=1 from rfl] at hx851_0)
             (try rw [show 1 * 4=4 from rfl] at hx851_0)
             (try rw [show ((1:Int)).toNat=1 from rfl] at hx851_1)
             (try rw [show 1 * 4=4 from rfl] at hx851_1)
             (try rw [show ((1:Int)).toNat=1 from rfl] at hx851_2)
             (try rw [show 1 * 4=4 from rfl] at hx851_2)
             (try rw [show ((1:Int)).toNat=1 from rfl] at hx851_3)
             (try rw [show 1 * 4=4 from rfl] at hx851_3)
             replace hx851_0:=(HB.out.cell (World.block_lt_of_cell? w _ hx851_0)).trans hx851_0
             replace hx851_1:=(HB.out.cell (World.block_lt_of_cell? w _ hx851_1)).trans hx851_1
             replace hx851_2:=(HB.out.cell (World.block_lt_of_cell? w _ hx851_2)).trans hx851_2
             replace hx851_3:=(HB.out.cell (World.block_lt_of_cell? w _ hx851_3)).trans hx851_3
             have HR851_3:=Aside0.mk hi851_3
             have HC851_3:=Aside0.mk hl851_3
             clear hi851_3 hl851_3
             replace p851:=eq_true p851
             replace q851:=eq_true q851
             refine start_ (n:=14) (S:=fun w'=>w'.cell? ⟨gb845,0,none⟩=some (.int .i64 a0_0)∧w'.cell? ⟨gb845,1,none⟩=some (.int .i64 a0_1)∧w'.cell? ⟨gb845,2,none⟩=some (.string a0_2)∧w'.cell? ⟨gb845,3,none⟩=some (.slice (some ad849) l0_3.length c0_3)∧w'.cell? ad849=some (.int .i64 ((rd_TDoc l0_3 0).f0))∧w'.cell? ⟨ad849.block,ad849.off+1,none⟩=some (.int .i64 ((rd_TDoc l0_3 0).f1))∧w'.cell? ⟨ad849.block,ad849.off+2,none⟩=some (.string ((rd_TDoc l0_3 0).f2))∧w'.cell? ⟨ad849.block,ad849.off+3,none⟩=some (.slice A849_3 ((rd_TDoc l0_3 0).f3).length c849_3)∧w'.cell? ⟨ad849.block,ad849.off+4,none⟩=some (.int .i64 ((rd_TDoc l0_3 1).f0))∧w'.cell? ⟨ad849.block,ad849.off+4+1,none⟩=some (.int .i64 ((rd_TDoc l0_3 1).f1))∧w'.cell? ⟨ad849.block,ad849.off+4+2,none⟩=some (.string ((rd_TDoc l0_3 1).f2))∧w'.cell? ⟨ad849.block,ad849.off+4+3,none⟩=some (.slice A851_3 ((rd_TDoc l0_3 1).f3).length c851_3)) (ds:=[]) #[false,false,false,false,false,false,false,false,false,false,false,false,false,false] (by kernel_rfl) rfl rfl ⟨(blk_cell BK845.out 0).trans rfl,(blk_cell BK845.out 1).trans rfl,(blk_cell BK845.out 2).trans rfl,(blk_cell BK845.out 3).trans rfl,((HB.out.cell (World.block_lt_of_cell? w _ hw849_0)).trans hw849_0),((HB.out.cell (World.block_lt_of_cell? w _ hw849_1)).trans hw849_1),((HB.out.cell (World.block_lt_of_cell? w _ hw849_2)).trans hw849_2),((HB.out.cell (World.block_lt_of_cell? w _ hw849_3)).trans hw849_3),((HB.out.cell (World.block_lt_of_cell? w _ hw851_0)).trans hw851_0),((HB.out.cell (World.block_lt_of_cell? w _ hw851_1)).trans hw851_1),((HB.out.cell (World.block_lt_of_cell? w _ hw851_2)).trans hw851_2),((HB.out.cell (World.block_lt_of_cell? w _ hw851_3)).trans hw851_3)⟩ (fun hHeld=>?_);refine with_tabW spec_l1Text.tab15 spec_l1Text.bits15 (fun HT_ HW_=>?_)
             generalize w39.drew=w41 at BK845 HB HR849_3 HR851_3 hx849_0 hx849_1 hx849_2 hx849_3 hx851_0 hx851_1 hx851_2 hx851_3 hHeld ⊢
             refine pure_ (i:=0) (N:=some 34) (v:=?_) (a':=?_) #[true,false,false,false,false,false,false,false,false,false,false,false,false,false] rfl rfl (any_of HT_.out (by kernel_rfl)) (fun _ _ _ h=>h) (Or.inl ⟨by rfl,?_⟩) ?_ ?_
             rotate_left
             ·intro w'
              go_simp
              with_reducible rfl
             rotate_left
             ·simp only [Act.put,List.setIfInBounds_toArray,List.set_cons_zero,List.set_cons_succ,i64_w,i32_w]
              rfl
             refine pure_ (i:=6) (N:=some 40) (v:=?_) (a':=?_) #[true,false,false,false,false,false,true,false,false,false,false,false,false,false] rfl rfl (any_of HT_.out (by kernel_rfl)) (fun _ _ _ h=>h) (Or.inl ⟨by rfl,?_⟩) ?_ ?_
             rotate_left
             ·intro w'
              go_simp
              with_reducible rfl
             rotate_left
             ·simp only [Act.put,List.setIfInBounds_toArray,List.set_cons_zero,List.set_cons_succ,i64_w,i32_w]
              rfl
             refine take_ (i:=1) (N:=some 35) (v:=?_) (a':=?_) #[true,true,false,false,false,false,true,false,false,false,false,false,false,false] rfl rfl (take_ofW HT_.out HW_.out (by kernel_rfl)) (fun _ _ _ h=>h) (Or.inl ⟨by rfl,?_⟩) hHeld ?_ ?_
             rotate_left
             ·rintro w' ⟨s0,s1,s2,s3,s4,s5,s6,s7,s8,s9,s10,s11⟩
              go_simp
              with_reducible rfl
             rotate_left
             ·simp only [Act.put,List.setIfInBounds_toArray,List.set_cons_zero,List.set_cons_succ,i64_w,i32_w]
              rfl
             refine pure_ (i:=2) (N:=some 36) (v:=?_) (a':=?_) #[true,true,true,false,false,false,true,false,false,false,false,false,false,false] rfl rfl (any_of HT_.out (by kernel_rfl)) (fun _ _ _ h=>h) (Or.inl ⟨by rfl,?_⟩) ?_ ?_
             rotate_left
             ·intro w'
              go_simp
              with_reducible rfl
             rotate_left
             ·simp only [Act.put,List.setIfInBounds_toArray,List.set_cons_zero,List.set_cons_succ,i64_w,i32_w]
              rfl
             refine take_ (i:=3) (N:=some 37) (v:=?_) (a':=?_) #[true,true,true,true,false,false,true,false,false,false,false,false,false,false] rfl rfl (take_ofW HT_.out HW_.out (by kernel_rfl)) (fun _ _ _ h=>h) (Or.inl ⟨by rfl,?_⟩) hHeld ?_ ?_
             rotate_left
             ·rintro w' ⟨s0,s1,s2,s3,s4,s5,s6,s7,s8,s9,s10,s11⟩
              go_simp
              with_reducible rfl
             rotate_left
             ·simp only [Act.put,List.setIfInBounds_toArray,List.set_cons_zero,List.set_cons_succ,i64_w,i32_w]
              rfl
             refine take_ (i:=7) (N:=some 41) (v:=?_) (a':=?_) #[true,true,true,true,false,false,true,true,false,false,false,false,false,false] rfl rfl (take_ofW HT_.out HW_.out (by kernel_rfl)) (fun _ _ _ h=>h) (Or.inl ⟨by rfl,?_⟩) hHeld ?_ ?_
             rotate_left
             ·rintro w' ⟨s0,s1,s2,s3,s4,s5,s6,s7,s8,s9,s10,s11⟩
              go_simp
              with_reducible rfl
             rotate_left
             ·simp only [Act.put,List.setIfInBounds_toArray,List.set_cons_zero,List.set_cons_succ,i64_w,i32_w]
              rfl
             refine pure_ (i:=8) (N:=some 42) (v:=?_) (a':=?_) #[true,true,true,true,false,false,true,true,true,false,false,false,false,false] rfl rfl (any_of HT_.out (by kernel_rfl)) (fun _ _ _ h=>h) (Or.inl ⟨by rfl,?_⟩) ?_ ?_
             rotate_left
             ·intro w'
              go_simp
              with_reducible rfl
             rotate_left
             ·simp only [Act.put,List.setIfInBounds_toArray,List.set_cons_zero,List.set_cons_succ,i64_w,i32_w]
              rfl
             refine take_ (i:=9) (N:=some 43) (v:=?_) (a':=?_) #[true,true,true,true,false,false,true,true,true,true,false,false,false,false] rfl rfl (take_ofW HT_.out HW_.out (by kernel_rfl)) (fun _ _ _ h=>h) (Or.inl ⟨by rfl,?_⟩) hHeld ?_ ?_
             rotate_left
             ·rintro w' ⟨s0,s1,s2,s3,s4,s5,s6,s7,s8,s9,s10,s11⟩
              go_simp
              with_reducible rfl
             rotate_left
             ·simp only [Act.put,List.setIfInBounds_toArray,List.set_cons_zero,List.set_cons_succ,i64_w,i32_w]
              rfl
             refine one_ (i:=4) (N:=some 38) #[true,true,true,true,true,false,true,true,true,true,false,false,false,false] rfl rfl (one_of HT_.out (by kernel_rfl)) (by decide) (fun K hK=>?_)
             refine goes_ Try.func63 (by kernel_rfl) rfl #[.agg #[.int .i64 ((rd_TDoc l0_3 0).f0),.int .i64 ((rd_TDoc l0_3 0).f1),.string ((rd_TDoc l0_3 0).f2),.slice A849_3 ((rd_TDoc l0_3 0).f3).length c849_3]] (by rfl) rfl rfl (by (try simp only [List.map_toArray,List.map_cons,List.map_nil]);first|done|rfl|(simp only [List.length_drop,List.length_take];rfl)) ?_
             with_reducible refine (ih k (by omega) ((rd_TDoc l0_3 0).f0) ((rd_TDoc l0_3 0).f1) ((rd_TDoc l0_3 0).f2) _ _ ((rd_TDoc l0_3 0).f3) t850 _ ?side1 ?side2 A33.out).mono ?_
             (case side1=>exact gC (Kd.C_below HR849_3.out HB.out))
             (case side2=>exact HC849_3.out)
             rintro e w42 ⟨rfl,hb⟩
             refine ⟨_,rfl,?_⟩
             have n0_:=Aside0.mk (blk_below (g:=gb845) (o:=.cells #[.int .i64 a0_0,.int .i64 a0_1,.string a0_2,.slice (some ad849) l0_3.length c0_3] 27 (0,0)) (gK BK845) hb)
             have n1_:=Aside0.mk (below_step (by repeat (first|exact gB HB|refine below_set ?_ GE845.out)) hb)
             clear BK845
             clear HB
             have BK845:=n0_
             have HB:=n1_
             clear n0_ n1_
             (try clear hb)
             (try clear hb2)
             (try clear hk)
             (try clear hi)
             refine hK.out _ _ ⟨(blk_cell BK845.out 0).trans rfl,(blk_cell BK845.out 1).trans rfl,(blk_cell BK845.out 2).trans rfl,(blk_cell BK845.out 3).trans rfl,((HB.out.cell (World.block_lt_of_cell? w _ hw849_0)).trans hw849_0),((HB.out.cell (World.block_lt_of_cell? w _ hw849_1)).trans hw849_1),((HB.out.cell (World.block_lt_of_cell? w _ hw849_2)).trans hw849_2),((HB.out.cell (World.block_lt_of_cell? w _ hw849_3)).trans hw849_3),((HB.out.cell (World.block_lt_of_cell? w _ hw851_0)).trans hw851_0),((HB.out.cell (World.block_lt_of_cell? w _ hw851_1)).trans hw851_1),((HB.out.cell (World.block_lt_of_cell? w _ hw851_2)).trans hw851_2),((HB.out.cell (World.block_lt_of_cell? w _ hw851_3)).trans hw851_3)⟩ (fun hHeld=>?_)
             clear hK K
             refine norm_ (a':=?_) ?_ ?_
             rotate_left
             ·show Act.put _ (some 38) _=_
              simp only [Act.put,List.setIfInBounds_toArray,List.set_cons_zero,List.set_cons_succ,i64_w,i32_w]
              rfl
             refine pure_ (i:=5) (N:=some 39) (v:=?_) (a':=?_) #[true,true,true,true,true,true,true,true,true,true,false,false,false,false] rfl rfl (any_of HT_.out (by kernel_rfl)) (fun _ _ _ h=>h) (Or.inl ⟨by rfl,?_⟩) ?_ ?_
             rotate_left
             ·intro w'
              go_simp
              with_reducible rfl
             rotate_left
             ·simp only [Act.put,List.setIfInBounds_toArray,List.set_cons_zero,List.set_cons_succ,i64_w,i32_w]
              rfl
             refine one_ (i:=10) (N:=some 44) #[true,true,true,true,true,true,true,true,true,true,true,false,false,false] rfl rfl (one_of HT_.out (by kernel_rfl)) (by decide) (fun K hK=>?_)
             refine goes_ Try.func63 (by kernel_rfl) rfl #[.agg #[.int .i64 ((rd_TDoc l0_3 1).f0),.int .i64 ((rd_TDoc l0_3 1).f1),.string ((rd_TDoc l0_3 1).f2),.slice A851_3 ((rd_TDoc l0_3 1).f3).length c851_3]] (by rfl) rfl rfl (by (try simp only [List.map_toArray,List.map_cons,List.map_nil]);first|done|rfl|(simp only [List.length_drop,List.length_take];rfl)) ?_
             with_reducible refine (ih k (by omega) ((rd_TDoc l0_3 1).f0) ((rd_TDoc l0_3 1).f1) ((rd_TDoc l0_3 1).f2) _ _ ((rd_TDoc l0_3 1).f3) t852 _ ?side1 ?side2 A36.out).mono ?_
             (case side1=>exact gC (Kd.C_below HR851_3.out HB.out))
             (case side2=>exact HC851_3.out)
             rintro e w43 ⟨rfl,hb⟩
             refine ⟨_,rfl,?_⟩
             have n0_:=Aside0.mk (blk_below (g:=gb845) (o:=.cells #[.int .i64 a0_0,.int .i64 a0_1,.string a0_2,.slice (some ad849) l0_3.length c0_3] 27 (0,0)) (gK BK845) hb)
             have n1_:=Aside0.mk (below_step (by repeat (first|exact gB HB|refine below_set ?_ GE845.out)) hb)
             clear BK845
             clear HB
             have BK845:=n0_
             have HB:=n1_
             clear n0_ n1_
             (try clear hb)
             (try clear hb2)
             (try clear hk)
             (try clear hi)
             refine hK.out _ _ ⟨(blk_cell BK845.out 0).trans rfl,(blk_cell BK845.out 1).trans rfl,(blk_cell BK845.out 2).trans rfl,(blk_cell BK845.out 3).trans rfl,((HB.out.cell (World.block_lt_of_cell? w _ hw849_0)).trans hw849_0),((HB.out.cell (World.block_lt_of_cell? w _ hw849_1)).trans hw849_1),((HB.out.cell (World.block_lt_of_cell? w _ hw849_2)).trans hw849_2),((HB.out.cell (World.block_lt_of_cell? w _ hw849_3)).trans hw849_3),((HB.out.cell (World.block_lt_of_cell? w _ hw851_0)).trans hw851_0),((HB.out.cell (World.block_lt_of_cell? w _ hw851_1)).trans hw851_1),((HB.out.cell (World.block_lt_of_cell? w _ hw851_2)).trans hw851_2),((HB.out.cell (World.block_lt_of_cell? w _ hw851_3)).trans hw851_3)⟩ (fun hHeld=>?_)
             clear hK K
             refine norm_ (a':=?_) ?_ ?_
             rotate_left
             ·show Act.put _ (some 44) _=_
              simp only [Act.put,List.setIfInBounds_toArray,List.set_cons_zero,List.set_cons_succ,i64_w,i32_w]
              rfl
             refine pure_ (i:=11) (N:=some 45) (v:=?_) (a':=?_) #[true,true,true,true,true,true,true,true,true,true,true,true,false,false] rfl rfl (any_of HT_.out (by kernel_rfl)) (fun _ _ _ h=>h) (Or.inl ⟨by rfl,?_⟩) ?_ ?_
             rotate_left
             ·intro w'
              go_simp
              with_reducible rfl
             rotate_left
             ·simp only [Act.put,List.setIfInBounds_toArray,List.set_cons_zero,List.set_cons_succ,i64_w,i32_w]
              rfl
             refine pure_ (i:=12) (N:=some 46) (v:=?_) (a':=?_) #[true,true,true,true,true,true,true,true,true,true,true,true,true,false] rfl rfl (any_of HT_.out (by kernel_rfl)) (fun _ _ _ h=>h) (Or.inl ⟨by rfl,?_⟩) ?_ ?_
             rotate_left
             ·intro w'
              go_simp
              with_reducible rfl
             rotate_left
             ·simp only [Act.put,List.setIfInBounds_toArray,List.set_cons_zero,List.set_cons_succ,i64_w,i32_w]
              rfl
             refine pure_ (i:=13) (N:=some 2) (v:=?_) (a':=?_) #[true,true,true,true,true,true,true,true,true,true,true,true,true,true] rfl rfl (any_of HT_.out (by kernel_rfl)) (fun _ _ _ h=>h) (Or.inl ⟨by rfl,?_⟩) ?_ ?_
             rotate_left
             ·intro w'
              go_simp
              with_reducible rfl
             rotate_left
             ·simp only [Act.put,List.setIfInBounds_toArray,List.set_cons_zero,List.set_cons_succ,i64_w,i32_w]
              rfl
             refine done_ (done_of HT_.out (by kernel_rfl)) ?_
             try go_wp2
             go_ret
             exact ⟨by first|rfl|(simp [errW_none,errW_some] <;> rfl)|(simp [*,errW_none,errW_some] <;> rfl),by repeat (first|exact gB HB|refine below_set ?_ GE845.out)⟩
            ·rw [if_neg c38] at H
             exact absurd H (by simp)
           ·rw [if_neg c37] at H
            exact absurd H (by simp)
          ·rw [if_neg c35] at H
           exact absurd H (by simp)
         ·rw [if_neg c34] at H
          exact absurd H (by simp)
        ·rw [if_neg c32] at H
         exact absurd H (by simp)
       ·rw [if_neg c31] at H
        have c31b0:(a0_0 == 7)=false:=beq_eq_false_iff_ne.mpr c31
        have c31b1:(a0_0 != 7)=true:=bne_iff_ne.mpr c31
        by_cases c44:0 < (l0_3.length:Int)
        ·rw [if_pos c44] at H
         have c44b0:decide (0 < (l0_3.length:Int))=true:=decide_eq_true c44
         have c44b1:decide (0 < l0_3.length)=true:=decide_eq_true (by omega)
         clear c44
         replace H:=Option.bind_eq_some_iff.mp H
         obtain ⟨t854,A450,H⟩:=H
         replace H:(if 1+t854.size≤9223372036854775807 then (if ((⟨#[91]⟩:ByteArray)++t854).size+1≤9223372036854775807 then (some (((⟨#[91]⟩:ByteArray)++t854)++(⟨#[93]⟩:ByteArray))) else (none)) else (none))=some r:=H
         have A45:=Aside0.mk A450
         clear A450
         by_cases c46:1+t854.size≤9223372036854775807
         ·rw [if_pos c46] at H
          have c46b0:=eq_true c46
          have c46b1:decide (1+t854.size≤9223372036854775807)=true:=decide_eq_true c46
          try have c46b2:(9223372036854775807 < 1+t854.size)=False:=eq_false (Nat.not_lt.2 c46)
          by_cases c47:((⟨#[91]⟩:ByteArray)++t854).size+1≤9223372036854775807
          ·rw [if_pos c47] at H
           have c47b0:=eq_true c47
           have c47b1:decide (((⟨#[91]⟩:ByteArray)++t854).size+1≤9223372036854775807)=true:=decide_eq_true c47
           try (have c47b4:=c47;(conv at c47b4=>(lhs;simp));have c47b5:=eq_false (Nat.not_lt.2 c47b4))
           try (have c47b6:=c47;(conv at c47b6=>(lhs;simp [go_sem]));have c47b7:=eq_false (Nat.not_lt.2 c47b6))
           try have c47b2:(9223372036854775807 < ((⟨#[91]⟩:ByteArray)++t854).size+1)=False:=eq_false (Nat.not_lt.2 c47)
           obtain rfl:=Option.some.inj H
           go_enter Try.func63,Try.ntmps63
           go_wp2_with (first|((with_reducible refine gate_dst (N:=1) rfl ?_);refine box_event ?hg (N:=1) ?hd (cs:=#[.int .i64 a0_0,.int .i64 a0_1,.string a0_2,.slice A0_3 l0_3.length c0_3]) (t:=27) ?hr ?_;(case hd=>rfl);(case hg=>rfl);(case hr=>first|(go_simp;done)|(go_simp;rfl));intro gb845 hg w48 hbox hb;have n0_:=Aside0.mk (below_step (gB HB) hb);have n1_:=Aside0.mk (hbox);have n2_:=Aside0.mk ((by rw [hg];exact (below_size (gB HB)):w.heap.size≤gb845));have n3_:=Aside0.mk ((by rw [hg];exact (below_size (gB HB)):w.heap.size≤gb845));clear HB;have HB:=n0_;have BK845:=n1_;have GW845:=n2_;have GE845:=n3_;clear n0_ n1_ n2_ n3_;clear hb hbox hg;have hcz49_0:w48.cell? ⟨gb845,0,none⟩=some (.int .i64 a0_0):=(blk_cell BK845.out 0).trans rfl;have hcz49_1:w48.cell? ⟨gb845,1,none⟩=some (.int .i64 a0_1):=(blk_cell BK845.out 1).trans rfl;have hcz49_2:w48.cell? ⟨gb845,2,none⟩=some (.string a0_2):=(blk_cell BK845.out 2).trans rfl;have hcz49_3:w48.cell? ⟨gb845,3,none⟩=some (.slice A0_3 l0_3.length c0_3):=(blk_cell BK845.out 3).trans rfl;have hfz49_0:=blk_frozen BK845.out 0;have hfz49_1:=blk_frozen BK845.out 1;have hfz49_2:=blk_frozen BK845.out 2;have hfz49_3:=blk_frozen BK845.out 3;have p853:0≤(0:Int):=(by omega);have q853:0 < (l0_3.length:Int):=of_decide_eq_true (by first|(with_reducible assumption)|assumption);obtain ⟨ad853,A853_3,c853_3,e853,hx853_0,hx853_1,hx853_2,hx853_3,hl853_3,hi853_3⟩:=at_TDoc HR0_3.out 0 p853 q853;cases e853;have qi853:(0 < l0_3.length)=True:=eq_true (by omega);(try rw [show ((0:Int)).toNat=0 from rfl] at hx853_0);(try rw [show 0 * 4=0 from rfl] at hx853_0);(try rw [Addr.add_zero'] at hx853_0);(try rw [show ((0:Int)).toNat=0 from rfl] at hx853_1);(try rw [show 0 * 4=0 from rfl] at hx853_1);(try rw [Addr.add_zero'] at hx853_1);(try rw [show ((0:Int)).toNat=0 from rfl] at hx853_2);(try rw [show 0 * 4=0 from rfl] at hx853_2);(try rw [Addr.add_zero'] at hx853_2);(try rw [show ((0:Int)).toNat=0 from rfl] at hx853_3);(try rw [show 0 * 4=0 from rfl] at hx853_3);(try rw [Addr.add_zero'] at hx853_3);replace hx853_0:=(HB.out.cell (World.block_lt_of_cell? w _ hx853_0)).trans hx853_0;replace hx853_1:=(HB.out.cell (World.block_lt_of_cell? w _ hx853_1)).trans hx853_1;replace hx853_2:=(HB.out.cell (World.block_lt_of_cell? w _ hx853_2)).trans hx853_2;replace hx853_3:=(HB.out.cell (World.block_lt_of_cell? w _ hx853_3)).trans hx853_3;have HR853_3:=Aside0.mk hi853_3;have HC853_3:=Aside0.mk hl853_3;clear hi853_3 hl853_3;replace p853:=eq_true p853;replace q853:=eq_true q853)|((with_reducible refine gate_callee (f:=63) rfl ?_);refine goesL_ (some 51) rfl rfl Try.func63 (by kernel_rfl) rfl #[.agg #[.int .i64 ((rd_TDoc l0_3 0).f0),.int .i64 ((rd_TDoc l0_3 0).f1),.string ((rd_TDoc l0_3 0).f2),.slice A853_3 ((rd_TDoc l0_3 0).f3).length c853_3]] rfl (by (try simp only [List.map_toArray,List.map_cons,List.map_nil]);first|done|rfl|(simp only [List.length_drop,List.length_take];rfl)) ?_;(with_reducible refine (ih k (by omega) ((rd_TDoc l0_3 0).f0) ((rd_TDoc l0_3 0).f1) ((rd_TDoc l0_3 0).f2) _ _ ((rd_TDoc l0_3 0).f3) t854 _ ?side1 ?side2 A45.out).mono ?_);(case side1=>exact gC (Kd.C_below HR853_3.out HB.out));(case side2=>exact HC853_3.out);rintro e w50 ⟨rfl,hb⟩;refine ⟨_,rfl,?_⟩;have n0_:=Aside0.mk (blk_below (g:=gb845) (o:=.cells #[.int .i64 a0_0,.int .i64 a0_1,.string a0_2,.slice (some ad853) l0_3.length c0_3] 27 (0,0)) (gK BK845) hb);have n1_:=Aside0.mk (below_step (by repeat (first|exact gB HB|refine below_set ?_ GE845.out)) hb);clear BK845;clear HB;have BK845:=n0_;have HB:=n1_;clear n0_ n1_;(try clear hb);(try clear hb2);(try clear hk);(try clear hi)))
           go_ret
           exact ⟨by first|rfl|(simp [errW_none,errW_some] <;> rfl)|(simp [*,errW_none,errW_some] <;> rfl),by repeat (first|exact gB HB|refine below_set ?_ GE845.out)⟩
          ·rw [if_neg c47] at H
           exact absurd H (by simp)
         ·rw [if_neg c46] at H
          exact absurd H (by simp)
        ·rw [if_neg c44] at H
         exact absurd H (by simp)
end Go.Proofs.Ytdhdfmmefghijaa.P
namespace Go.Proofs.Ytdhdfmmefghijaa.P
open Go.RowKit Go.Proofs.YtdhdfmmefghijaaW.PrintWords Go.Proofs.YtdhdfmmefghijaaW.PrintLast Go.Proofs.YtdhdfmmefghijaaW.PrintMore
attribute [local go_sem] max2_int min2_int max_two min_two max_three min_three max_four min_four
set_option linter.unusedVariables false
set_option linter.unusedSimpArgs false
def spec_FormatDoc.f (k:Nat) (a0_0:Int) (a0_1:Int) (a0_2:ByteArray) (l0_3:List (SDoc)):Option (ByteArray):=(spec_DocValid.f k a0_0 a0_1 a0_2 l0_3).bind fun t856=>(if t856=true then ((spec_l1Text.f k a0_0 a0_1 a0_2 l0_3).bind fun t857=>(some t857)) else (some (⟨#[]⟩:ByteArray)))
set_option maxHeartbeats 8000000 in
set_option maxRecDepth 100000 in
theorem spec_FormatDoc.calls (k:Nat) (a0_0:Int) (a0_1:Int) (a0_2:ByteArray) (A0_3:Option Addr) (c0_3:Nat) (l0_3:List (SDoc)) (r:ByteArray) (w:World) (hr0_3:Kd.C k27 w A0_3 l0_3.length l0_3) (hc0_3:l0_3.length≤c0_3) (h:spec_FormatDoc.f k a0_0 a0_1 a0_2 l0_3=some r) :
  Calls Try.prog 41 #[.agg #[.int .i64 a0_0,.int .i64 a0_1,.string a0_2,.slice A0_3 l0_3.length c0_3]] w fun e w'=>e=.returned (.string r)∧Below w.heap.size w w':=by
 have hu27:=Try.underlying27
 have HR0_3:=Aside0.mk hr0_3
 have HC0_3:=Aside0.mk hc0_3
 clear hr0_3 hc0_3
 have HB:=Aside0.mk (Below.refl w.heap.size w)
 have H:((spec_DocValid.f k a0_0 a0_1 a0_2 l0_3).bind fun t856=>(if t856=true then ((spec_l1Text.f k a0_0 a0_1 a0_2 l0_3).bind fun t857=>(some t857)) else (some (⟨#[]⟩:ByteArray))))=some r:=h
 clear h
 replace H:=Option.bind_eq_some_iff.mp H
 obtain ⟨t856,A20,H⟩:=H
 replace H:(if t856=true then ((spec_l1Text.f k a0_0 a0_1 a0_2 l0_3).bind fun t857=>(some t857)) else (some (⟨#[]⟩:ByteArray)))=some r:=H
 have A2:=Aside0.mk A20
 clear A20
 by_cases c3:t856=true
 ·subst c3
  have H1:((spec_l1Text.f k a0_0 a0_1 a0_2 l0_3).bind fun t857=>(some t857))=some r:=by rw [if_pos rfl] at H;exact H
  clear H
  have H:=H1
  clear H1
  replace H:=Option.bind_eq_some_iff.mp H
  obtain ⟨t857,A40,H⟩:=H
  replace H:(some t857)=some r:=H
  have A4:=Aside0.mk A40
  clear A40
  obtain rfl:=Option.some.inj H
  go_enter Try.func41,Try.ntmps41
  go_wp2_with (first|((with_reducible refine gate_dst (N:=1) rfl ?_);refine box_event ?hg (N:=1) ?hd (cs:=#[.int .i64 a0_0,.int .i64 a0_1,.string a0_2,.slice A0_3 l0_3.length c0_3]) (t:=27) ?hr ?_;(case hd=>rfl);(case hg=>rfl);(case hr=>first|(go_simp;done)|(go_simp;rfl));intro gb855 hg w5 hbox hb;have n0_:=Aside0.mk (below_step (by repeat (first|(with_reducible first|exact HB.out|apply below_alloc|apply pw_below_drewN|apply below_drew1)|exact HB.out)) hb);have n1_:=Aside0.mk (hbox);have n2_:=Aside0.mk ((by rw [hg];exact (below_size (by repeat (first|(with_reducible first|exact HB.out|apply below_alloc|apply pw_below_drewN|apply below_drew1)|exact HB.out))):w.heap.size≤gb855));have n3_:=Aside0.mk ((by rw [hg];exact (below_size (by repeat (first|(with_reducible first|exact HB.out|apply below_alloc|apply pw_below_drewN|apply below_drew1)|exact HB.out))):w.heap.size≤gb855));clear HB;have HB:=n0_;have BK855:=n1_;have GW855:=n2_;have GE855:=n3_;clear n0_ n1_ n2_ n3_;clear hb hbox hg;have hcz6_0:w5.cell? ⟨gb855,0,none⟩=some (.int .i64 a0_0):=(blk_cell BK855.out 0).trans rfl;have hcz6_1:w5.cell? ⟨gb855,1,none⟩=some (.int .i64 a0_1):=(blk_cell BK855.out 1).trans rfl;have hcz6_2:w5.cell? ⟨gb855,2,none⟩=some (.string a0_2):=(blk_cell BK855.out 2).trans rfl;have hcz6_3:w5.cell? ⟨gb855,3,none⟩=some (.slice A0_3 l0_3.length c0_3):=(blk_cell BK855.out 3).trans rfl;have hfz6_0:=blk_frozen BK855.out 0;have hfz6_1:=blk_frozen BK855.out 1;have hfz6_2:=blk_frozen BK855.out 2;have hfz6_3:=blk_frozen BK855.out 3)|((with_reducible refine gate_callee (f:=25) rfl ?_);refine goesL_ (some 4) rfl rfl Try.func25 (by kernel_rfl) rfl #[.agg #[.int .i64 a0_0,.int .i64 a0_1,.string a0_2,.slice A0_3 l0_3.length c0_3]] rfl (by (try simp only [List.map_toArray,List.map_cons,List.map_nil]);first|done|rfl|(simp only [List.length_drop,List.length_take];rfl)) ?_;(with_reducible refine (spec_DocValid.calls k a0_0 a0_1 a0_2 _ _ l0_3 true _ ?side1 ?side2 A2.out).mono ?_);(case side1=>repeat (first|exact (Kd.C_below HR0_3.out HB.out)|(with_reducible refine Kd.C_alloc ?_ _)|(with_reducible refine Kd.C_drewN ?_ _)|(with_reducible refine Kd.C_drew ?_)));(case side2=>exact HC0_3.out);rintro e w7 ⟨rfl,hb⟩;refine ⟨_,rfl,?_⟩;have n0_:=Aside0.mk (blk_below (g:=gb855) (o:=.cells #[.int .i64 a0_0,.int .i64 a0_1,.string a0_2,.slice A0_3 l0_3.length c0_3] 27 (0,0)) (by (with_reducible repeat (first|refine blk_drewN ?_ _|refine blk_drew ?_|refine blk_alloc ?_ _));exact BK855.out) hb);have n1_:=Aside0.mk (below_step (by repeat (first|(with_reducible first|exact HB.out|apply below_alloc|apply pw_below_drewN|apply below_drew1|refine below_set ?_ GE855.out)|exact HB.out)) hb);clear BK855;clear HB;have BK855:=n0_;have HB:=n1_;clear n0_ n1_;(try clear hb);(try clear hb2);(try clear hk);(try clear hi);have hcz8_0:w7.cell? ⟨gb855,0,none⟩=some (.int .i64 a0_0):=(blk_cell BK855.out 0).trans rfl;have hcz8_1:w7.cell? ⟨gb855,1,none⟩=some (.int .i64 a0_1):=(blk_cell BK855.out 1).trans rfl;have hcz8_2:w7.cell? ⟨gb855,2,none⟩=some (.string a0_2):=(blk_cell BK855.out 2).trans rfl;have hcz8_3:w7.cell? ⟨gb855,3,none⟩=some (.slice A0_3 l0_3.length c0_3):=(blk_cell BK855.out 3).trans rfl;have hfz8_0:=blk_frozen BK855.out 0;have hfz8_1:=blk_frozen BK855.out 1;have hfz8_2:=blk_frozen BK855.out 2;have hfz8_3:=blk_frozen BK855.out 3)|((with_reducible refine gate_callee (f:=63) rfl ?_);refine goesL_ (some 7) rfl rfl Try.func63 (by kernel_rfl) rfl #[.agg #[.int .i64 a0_0,.int .i64 a0_1,.string a0_2,.slice A0_3 l0_3.length c0_3]] rfl (by (try simp only [List.map_toArray,List.map_cons,List.map_nil]);first|done|rfl|(simp only [List.length_drop,List.length_take];rfl)) ?_;(with_reducible refine (spec_l1Text.calls k a0_0 a0_1 a0_2 _ _ l0_3 t857 _ ?side1 ?side2 A4.out).mono ?_);(case side1=>repeat (first|exact (Kd.C_below HR0_3.out HB.out)|(with_reducible refine Kd.C_alloc ?_ _)|(with_reducible refine Kd.C_drewN ?_ _)|(with_reducible refine Kd.C_drew ?_)));(case side2=>exact HC0_3.out);rintro e w9 ⟨rfl,hb⟩;refine ⟨_,rfl,?_⟩;have n0_:=Aside0.mk (blk_below (g:=gb855) (o:=.cells #[.int .i64 a0_0,.int .i64 a0_1,.string a0_2,.slice A0_3 l0_3.length c0_3] 27 (0,0)) (by (with_reducible repeat (first|refine blk_drewN ?_ _|refine blk_drew ?_|refine blk_alloc ?_ _));exact BK855.out) hb);have n1_:=Aside0.mk (below_step (by repeat (first|(with_reducible first|exact HB.out|apply below_alloc|apply pw_below_drewN|apply below_drew1|refine below_set ?_ GE855.out)|exact HB.out)) hb);clear BK855;clear HB;have BK855:=n0_;have HB:=n1_;clear n0_ n1_;(try clear hb);(try clear hb2);(try clear hk);(try clear hi)))
  go_ret
  exact ⟨by first|rfl|(simp [errW_none,errW_some] <;> rfl)|(simp [*,errW_none,errW_some] <;> rfl),by repeat (first|(with_reducible first|exact HB.out|apply below_alloc|apply pw_below_drewN|apply below_drew1|refine below_set ?_ GE855.out)|exact HB.out)⟩
 ·replace c3:=Bool.eq_false_iff.mpr c3
  subst c3
  have H1:(some (⟨#[]⟩:ByteArray))=some r:=by rw [if_neg (show ¬ (false=true) by decide)] at H;exact H
  clear H
  have H:=H1
  clear H1
  obtain rfl:=Option.some.inj H
  go_enter Try.func41,Try.ntmps41
  go_wp2_with (first|((with_reducible refine gate_dst (N:=1) rfl ?_);refine box_event ?hg (N:=1) ?hd (cs:=#[.int .i64 a0_0,.int .i64 a0_1,.string a0_2,.slice A0_3 l0_3.length c0_3]) (t:=27) ?hr ?_;(case hd=>rfl);(case hg=>rfl);(case hr=>first|(go_simp;done)|(go_simp;rfl));intro gb855 hg w10 hbox hb;have n0_:=Aside0.mk (below_step (by repeat (first|(with_reducible first|exact HB.out|apply below_alloc|apply pw_below_drewN|apply below_drew1)|exact HB.out)) hb);have n1_:=Aside0.mk (hbox);have n2_:=Aside0.mk ((by rw [hg];exact (below_size (by repeat (first|(with_reducible first|exact HB.out|apply below_alloc|apply pw_below_drewN|apply below_drew1)|exact HB.out))):w.heap.size≤gb855));have n3_:=Aside0.mk ((by rw [hg];exact (below_size (by repeat (first|(with_reducible first|exact HB.out|apply below_alloc|apply pw_below_drewN|apply below_drew1)|exact HB.out))):w.heap.size≤gb855));clear HB;have HB:=n0_;have BK855:=n1_;have GW855:=n2_;have GE855:=n3_;clear n0_ n1_ n2_ n3_;clear hb hbox hg;have hcz11_0:w10.cell? ⟨gb855,0,none⟩=some (.int .i64 a0_0):=(blk_cell BK855.out 0).trans rfl;have hcz11_1:w10.cell? ⟨gb855,1,none⟩=some (.int .i64 a0_1):=(blk_cell BK855.out 1).trans rfl;have hcz11_2:w10.cell? ⟨gb855,2,none⟩=some (.string a0_2):=(blk_cell BK855.out 2).trans rfl;have hcz11_3:w10.cell? ⟨gb855,3,none⟩=some (.slice A0_3 l0_3.length c0_3):=(blk_cell BK855.out 3).trans rfl;have hfz11_0:=blk_frozen BK855.out 0;have hfz11_1:=blk_frozen BK855.out 1;have hfz11_2:=blk_frozen BK855.out 2;have hfz11_3:=blk_frozen BK855.out 3)|((with_reducible refine gate_callee (f:=25) rfl ?_);refine goesL_ (some 4) rfl rfl Try.func25 (by kernel_rfl) rfl #[.agg #[.int .i64 a0_0,.int .i64 a0_1,.string a0_2,.slice A0_3 l0_3.length c0_3]] rfl (by (try simp only [List.map_toArray,List.map_cons,List.map_nil]);first|done|rfl|(simp only [List.length_drop,List.length_take];rfl)) ?_;(with_reducible refine (spec_DocValid.calls k a0_0 a0_1 a0_2 _ _ l0_3 false _ ?side1 ?side2 A2.out).mono ?_);(case side1=>repeat (first|exact (Kd.C_below HR0_3.out HB.out)|(with_reducible refine Kd.C_alloc ?_ _)|(with_reducible refine Kd.C_drewN ?_ _)|(with_reducible refine Kd.C_drew ?_)));(case side2=>exact HC0_3.out);rintro e w12 ⟨rfl,hb⟩;refine ⟨_,rfl,?_⟩;have n0_:=Aside0.mk (blk_below (g:=gb855) (o:=.cells #[.int .i64 a0_0,.int .i64 a0_1,.string a0_2,.slice A0_3 l0_3.length c0_3] 27 (0,0)) (by (with_reducible repeat (first|refine blk_drewN ?_ _|refine blk_drew ?_|refine blk_alloc ?_ _));exact BK855.out) hb);have n1_:=Aside0.mk (below_step (by repeat (first|(with_reducible first|exact HB.out|apply below_alloc|apply pw_below_drewN|apply below_drew1|refine below_set ?_ GE855.out)|exact HB.out)) hb);clear BK855;clear HB;have BK855:=n0_;have HB:=n1_;clear n0_ n1_;(try clear hb);(try clear hb2);(try clear hk);(try clear hi)))
  go_ret
  exact ⟨by first|rfl|(simp [errW_none,errW_some] <;> rfl)|(simp [*,errW_none,errW_some] <;> rfl),by repeat (first|(with_reducible first|exact HB.out|apply below_alloc|apply pw_below_drewN|apply below_drew1|refine below_set ?_ GE855.out)|exact HB.out)⟩
end Go.Proofs.Ytdhdfmmefghijaa.P
namespace Go.Proofs.Ytdhdfmmefghijaa.P
open Go.RowKit Go.Proofs.YtdhdfmmefghijaaW.PrintWords Go.Proofs.YtdhdfmmefghijaaW.PrintLast Go.Proofs.YtdhdfmmefghijaaW.PrintMore
attribute [local go_sem] max2_int min2_int max_two min_two max_three min_three max_four min_four
set_option linter.unusedVariables false
set_option linter.unusedSimpArgs false
mutual
def laws_FnDocBytes.j0:Nat→ByteArray→Bool→Int→Int→ByteArray→List (SDoc)→Option (Bool)
 | 0,_,_,_,_,_,_=>none
 | k+1,x4,x21,x865000,x865001,x865002,x865003=>if x21=true then ((spec_FormatDoc.f k x865000 x865001 x865002 x865003).bind fun t867=>(some (x4.toList == t867.toList))) else (laws_FnDocBytes.l0 k x4 0 0 x865000 x865001 x865002 x865003)
def laws_FnDocBytes.l0:Nat→ByteArray→Int→Int→Int→Int→ByteArray→List (SDoc)→Option (Bool)
 | 0,_,_,_,_,_,_,_=>none
 | k+1,x4,x5,x6,x865000,x865001,x865002,x865003=>if x6 < (x4.size:Int) then (if 0≤x6 then (if (bt x4 x6)=34 then (laws_FnDocBytes.l0 k x4 (wrap64 (x5+1)) (wrap64 (x6+1)) x865000 x865001 x865002 x865003) else (laws_FnDocBytes.l0 k x4 x5 (wrap64 (x6+1)) x865000 x865001 x865002 x865003)) else (none)) else ((impl_DocSize.f k x865000 x865001 x865002 x865003).bind fun t868=>(if (x4.size:Int) ≥ t868 then ((impl_CountOps.f k x865000 x865001 x865002 x865003 2).bind fun t869=>(some (x5 == (wrap64 (2 * t869))))) else (none)))
end
def laws_FnDocBytes.f (k:Nat) (l0:List Int):Option (Bool):=if (l0.length:Int) > 1048576 then (some true) else ((spec_DrawFormatDoc.f k l0).bind fun bt858=>((impl_FormatDoc.f k bt858.1 bt858.2.1 bt858.2.2.1 bt858.2.2.2).bind fun t865=>((spec_FormatDoc.f k bt858.1 bt858.2.1 bt858.2.2.1 bt858.2.2.2).bind fun t866=>(if t865.toList=t866.toList then (laws_FnDocBytes.j0 k t865 (t865.toList == ([]:List UInt8)) bt858.1 bt858.2.1 bt858.2.2.1 bt858.2.2.2) else (laws_FnDocBytes.j0 k t865 true bt858.1 bt858.2.1 bt858.2.2.1 bt858.2.2.2)))))
set_option maxHeartbeats 8000000 in
set_option maxRecDepth 100000 in
theorem laws_FnDocBytes.calls (k:Nat) (A0:Option Addr) (c0:Nat) (l0:List Int) (r:Bool) (w:World) (hr0:Kd.C (Kd.int .u8) w A0 l0.length l0) (hc0:l0.length≤c0) (h:laws_FnDocBytes.f k l0=some r) :
  Calls Try.prog 12 #[.slice A0 l0.length c0] w fun e w'=>e=.returned (.bool r)∧Below w.heap.size w w':=by
 have hu27:=Try.underlying27
 have HR0:=Aside0.mk hr0
 have HC0:=Aside0.mk hc0
 clear hr0 hc0
 have HB:=Aside0.mk (Below.refl w.heap.size w)
 have H:(if (l0.length:Int) > 1048576 then (some true) else ((spec_DrawFormatDoc.f k l0).bind fun bt858=>((impl_FormatDoc.f k bt858.1 bt858.2.1 bt858.2.2.1 bt858.2.2.2).bind fun t865=>((spec_FormatDoc.f k bt858.1 bt858.2.1 bt858.2.2.1 bt858.2.2.2).bind fun t866=>(if t865.toList=t866.toList then (laws_FnDocBytes.j0 k t865 (t865.toList == ([]:List UInt8)) bt858.1 bt858.2.1 bt858.2.2.1 bt858.2.2.2) else (laws_FnDocBytes.j0 k t865 true bt858.1 bt858.2.1 bt858.2.2.1 bt858.2.2.2))))))=some r:=h
 clear h
 by_cases c2:(l0.length:Int) > 1048576
 ·rw [if_pos c2] at H
  have c2b0:decide (1048576 < (l0.length:Int))=true:=decide_eq_true c2
  have c2b1:decide (1048576 < l0.length)=true:=decide_eq_true (by omega)
  clear c2
  obtain rfl:=Option.some.inj H
  go_enter Try.func12,Try.ntmps12
  go_wp2
  go_ret
  exact ⟨by first|rfl|(simp [errW_none,errW_some] <;> rfl)|(simp [*,errW_none,errW_some] <;> rfl),gB HB⟩
 ·rw [if_neg c2] at H
  have c2b0:decide (1048576 < (l0.length:Int))=false:=decide_eq_false c2
  have c2b1:decide (1048576 < l0.length)=false:=decide_eq_false (by omega)
  clear c2
  replace H:=Option.bind_eq_some_iff.mp H
  obtain ⟨⟨t858,t859,t860,t861⟩,A30,H⟩:=H
  replace H:((impl_FormatDoc.f k t858 t859 t860 t861).bind fun t865=>((spec_FormatDoc.f k t858 t859 t860 t861).bind fun t866=>(if t865.toList=t866.toList then (laws_FnDocBytes.j0 k t865 (t865.toList == ([]:List UInt8)) t858 t859 t860 t861) else (laws_FnDocBytes.j0 k t865 true t858 t859 t860 t861))))=some r:=H
  have A3:=Aside0.mk A30
  clear A30
  replace H:=Option.bind_eq_some_iff.mp H
  obtain ⟨t865,A40,H⟩:=H
  replace H:((spec_FormatDoc.f k t858 t859 t860 t861).bind fun t866=>(if t865.toList=t866.toList then (laws_FnDocBytes.j0 k t865 (t865.toList == ([]:List UInt8)) t858 t859 t860 t861) else (laws_FnDocBytes.j0 k t865 true t858 t859 t860 t861)))=some r:=H
  have A4:=Aside0.mk A40
  clear A40
  have HC5:=Aside0.mk H
  clear H
  go_enter Try.func12,Try.ntmps12
  go_upto_region 5 with (first|((with_reducible refine gate_callee (f:=40) rfl ?_);refine goesL_ (some 11) rfl rfl Try.func40 (by kernel_rfl) rfl #[.slice A0 l0.length c0] rfl (by (try simp only [List.map_toArray,List.map_cons,List.map_nil]);first|done|rfl|(simp only [List.length_drop,List.length_take];rfl)) ?_;(with_reducible refine (spec_DrawFormatDoc.calls k _ _ l0 t858 t859 t860 t861 _ ?side1 ?side2 A3.out).mono ?_);(case side1=>repeat (first|exact HR0.out|(with_reducible refine Kd.C_alloc ?_ _)|(with_reducible refine Kd.C_drewN ?_ _)|(with_reducible refine Kd.C_drew ?_)));(case side2=>exact HC0.out);rintro e w6 ⟨v862,rfl,ho0,hb⟩;refine ⟨_,rfl,?_⟩;have n0_:=Aside0.mk (Kd.N_lower (Kd.N_mono (ok':=fun k_=>True) ho0 (fun k_ hk_=>trivial)) (below_size (gB HB)));have n1_:=Aside0.mk (below_step (gB HB) hb);clear HB;have HO863:=n0_;have HB:=n1_;clear n0_ n1_;(try clear hb);(try clear hb2);(try clear hk);(try clear hi);(try clear ho0))|((with_reducible refine gate_dst (N:=3) rfl ?_);refine box_event ?hg (N:=3) ?hd (cs:=#[.int .i64 0,.int .i64 0,.string (⟨#[]⟩:ByteArray),.slice none 0 0]) (t:=27) ?hr ?_;(case hd=>rfl);(case hg=>rfl);(case hr=>first|(go_simp;done)|(go_simp;rfl));intro gb864 hg w7 hbox hb;have n0_:=Aside0.mk (Kd.N_below (Kd.N_elderB (gN HO863) gb864 (Nat.le_of_eq hg.symm)) hb);have n1_:=Aside0.mk (below_step (gB HB) hb);have n2_:=Aside0.mk (hbox);have n3_:=Aside0.mk ((by rw [hg];exact (below_size (gB HB)):w.heap.size≤gb864));have n4_:=Aside0.mk ((by rw [hg];exact (below_size (gB HB)):w.heap.size≤gb864));clear HO863;clear HB;have HO863:=n0_;have HB:=n1_;have BK864:=n2_;have GW864:=n3_;have GE864:=n4_;clear n0_ n1_ n2_ n3_ n4_;clear hb hbox hg;have hcz8_0:w7.cell? ⟨gb864,0,none⟩=some (.int .i64 0):=(blk_cell BK864.out 0).trans rfl;have hcz8_1:w7.cell? ⟨gb864,1,none⟩=some (.int .i64 0):=(blk_cell BK864.out 1).trans rfl;have hcz8_2:w7.cell? ⟨gb864,2,none⟩=some (.string (⟨#[]⟩:ByteArray)):=(blk_cell BK864.out 2).trans rfl;have hcz8_3:w7.cell? ⟨gb864,3,none⟩=some (.slice none 0 0):=(blk_cell BK864.out 3).trans rfl;have hfz8_0:=blk_frozen BK864.out 0;have hfz8_1:=blk_frozen BK864.out 1;have hfz8_2:=blk_frozen BK864.out 2;have hfz8_3:=blk_frozen BK864.out 3;obtain ⟨Ao9,co9,eo9⟩:=Kd.N_slice HO863.out;subst eo9)|((with_reducible refine gate_callee (f:=36) rfl ?_);refine goesL_ (some 13) rfl rfl Try.func36 (by kernel_rfl) rfl #[.agg #[.int .i64 t858,.int .i64 t859,.string t860,.slice Ao9 t861.length co9]] rfl (by (try simp only [List.map_toArray,List.map_cons,List.map_nil]);first|done|rfl|(simp only [List.length_drop,List.length_take];rfl)) ?_;(with_reducible refine (impl_FormatDoc.calls k t858 t859 t860 _ _ t861 t865 _ ?side1 ?side2 A4.out).mono ?_);(case side1=>exact (Kd.N_reads' (e:=27) (base:=w.heap.size) (n:=t861.length) (c:=co9) (by (with_reducible repeat (first|apply Kd.N_alloc|apply Kd.N_drewN|apply Kd.N_drew));exact (Kd.N_mono (Kd.N_far (p:=⟨gb864,3,none⟩) (Kd.N_far (p:=⟨gb864,2,none⟩) (Kd.N_far (p:=⟨gb864,1,none⟩) (Kd.N_far (p:=⟨gb864,0,none⟩) (Kd.N_mono HO863.out (fun k_ hk=>(⟨hk,hk.2⟩:_∧k_ ≠ gb864))) (fun _ hk=>hk.2) (.int .i64 t858)) (fun _ hk=>hk.2) (.int .i64 t859)) (fun _ hk=>hk.2) (.string t860)) (fun _ hk=>hk.2) (.slice Ao9 t861.length co9)) (fun _ h_=>h_.1)))).2.2);(case side2=>exact (Kd.N_reads' HO863.out).2.1);rintro e w10 ⟨rfl,hb⟩;refine ⟨_,rfl,?_⟩;have n0_:=Aside0.mk (Kd.N_below (by (with_reducible repeat (first|apply Kd.N_alloc|apply Kd.N_drewN|apply Kd.N_drew));exact (Kd.N_mono (Kd.N_far (p:=⟨gb864,3,none⟩) (Kd.N_far (p:=⟨gb864,2,none⟩) (Kd.N_far (p:=⟨gb864,1,none⟩) (Kd.N_far (p:=⟨gb864,0,none⟩) (Kd.N_mono HO863.out (fun k_ hk=>(⟨hk,hk.2⟩:_∧k_ ≠ gb864))) (fun _ hk=>hk.2) (.int .i64 t858)) (fun _ hk=>hk.2) (.int .i64 t859)) (fun _ hk=>hk.2) (.string t860)) (fun _ hk=>hk.2) (.slice Ao9 t861.length co9)) (fun _ h_=>h_.1))) hb);have n1_:=Aside0.mk (blk_below (g:=gb864) (o:=.cells #[.int .i64 t858,.int .i64 t859,.string t860,.slice Ao9 t861.length co9] 27 (0,0)) (by (with_reducible repeat (first|refine blk_drewN ?_ _|refine blk_drew ?_|refine blk_alloc ?_ _));refine blk_put (cs:=#[.int .i64 t858,.int .i64 t859,.string t860,.slice none 0 0]) ?_ 3 _ rfl;(with_reducible repeat (first|refine blk_drewN ?_ _|refine blk_drew ?_|refine blk_alloc ?_ _));refine blk_put (cs:=#[.int .i64 t858,.int .i64 t859,.string (⟨#[]⟩:ByteArray),.slice none 0 0]) ?_ 2 _ rfl;(with_reducible repeat (first|refine blk_drewN ?_ _|refine blk_drew ?_|refine blk_alloc ?_ _));refine blk_put (cs:=#[.int .i64 t858,.int .i64 0,.string (⟨#[]⟩:ByteArray),.slice none 0 0]) ?_ 1 _ rfl;(with_reducible repeat (first|refine blk_drewN ?_ _|refine blk_drew ?_|refine blk_alloc ?_ _));refine blk_put (cs:=#[.int .i64 0,.int .i64 0,.string (⟨#[]⟩:ByteArray),.slice none 0 0]) ?_ 0 _ rfl;(with_reducible repeat (first|refine blk_drewN ?_ _|refine blk_drew ?_|refine blk_alloc ?_ _));exact BK864.out) hb);have n2_:=Aside0.mk (below_step (by repeat (first|exact gB HB|refine below_set ?_ GE864.out)) hb);clear HO863;clear BK864;clear HB;have HO863:=n0_;have BK864:=n1_;have HB:=n2_;clear n0_ n1_ n2_;(try clear hb);(try clear hb2);(try clear hk);(try clear hi)))
  (try simp only [Act.put,List.setIfInBounds_toArray,List.set_cons_zero,List.set_cons_succ])
  go_cut [21] (fun v21 wc=>∃ (kq:Nat) (x21_4:Bool),v21=.bool x21_4∧Aside0 (laws_FnDocBytes.j0 kq t865 x21_4 t858 t859 t860 t861=some r)∧Aside0 (kq≤k)∧Aside0 (Kd.N k27 27 wc w.heap.size (fun k_=>k_ ≠ gb864) (.slice Ao9 t861.length co9) t861)∧Aside0 (wc.heap[gb864]?=some (.cells #[.int .i64 t858,.int .i64 t859,.string t860,(.slice Ao9 t861.length co9)] 27 (0,0)))∧Aside0 (Below w.heap.size w wc))
  case first =>
   have H:=HC5.out
   clear HC5
   replace H:=Option.bind_eq_some_iff.mp H
   obtain ⟨t866,A110,H⟩:=H
   replace H:(if t865.toList=t866.toList then (laws_FnDocBytes.j0 k t865 (t865.toList == ([]:List UInt8)) t858 t859 t860 t861) else (laws_FnDocBytes.j0 k t865 true t858 t859 t860 t861))=some r:=H
   have A11:=Aside0.mk A110
   clear A110
   by_cases c12:t865.toList=t866.toList
   ·rw [if_pos c12] at H
    have c12b0:(t865.toList == t866.toList)=true:=beq_iff_eq.mpr c12
    have c12b1:(t865.toList != t866.toList)=false:=bne_eq_false_iff_eq.mpr c12
    clear c12
    (first|rw [c12b0]|(simp only [i64_w,i32_w];rw [c12b0])|skip)
    have H':=Aside0.mk H
    clear H
    have hcz13_0:w10.cell? ⟨gb864,0,none⟩=some (.int .i64 t858):=(blk_cell BK864.out 0).trans rfl
    have hcz13_1:w10.cell? ⟨gb864,1,none⟩=some (.int .i64 t859):=(blk_cell BK864.out 1).trans rfl
    have hcz13_2:w10.cell? ⟨gb864,2,none⟩=some (.string t860):=(blk_cell BK864.out 2).trans rfl
    have hcz13_3:w10.cell? ⟨gb864,3,none⟩=some (.slice Ao9 t861.length co9):=(blk_cell BK864.out 3).trans rfl
    have hfz13_0:=blk_frozen BK864.out 0
    have hfz13_1:=blk_frozen BK864.out 1
    have hfz13_2:=blk_frozen BK864.out 2
    have hfz13_3:=blk_frozen BK864.out 3
    go_wp2_with (first|((with_reducible refine gate_callee (f:=41) rfl ?_);refine goesL_ (some 16) rfl rfl Try.func41 (by kernel_rfl) rfl #[.agg #[.int .i64 t858,.int .i64 t859,.string t860,.slice Ao9 t861.length co9]] rfl (by (try simp only [List.map_toArray,List.map_cons,List.map_nil]);first|done|rfl|(simp only [List.length_drop,List.length_take];rfl)) ?_;(with_reducible refine (spec_FormatDoc.calls k t858 t859 t860 _ _ t861 t866 _ ?side1 ?side2 A11.out).mono ?_);(case side1=>exact gC ((Kd.N_reads' HO863.out).2.2));(case side2=>exact (Kd.N_reads' HO863.out).2.1);rintro e w14 ⟨rfl,hb⟩;refine ⟨_,rfl,?_⟩;have n0_:=Aside0.mk (Kd.N_below (gN HO863) hb);have n1_:=Aside0.mk (blk_below (g:=gb864) (o:=.cells #[.int .i64 t858,.int .i64 t859,.string t860,.slice Ao9 t861.length co9] 27 (0,0)) (gK BK864) hb);have n2_:=Aside0.mk (below_step (by repeat (first|exact gB HB|refine below_set ?_ GE864.out)) hb);clear HO863;clear BK864;clear HB;have HO863:=n0_;have BK864:=n1_;have HB:=n2_;clear n0_ n1_ n2_;(try clear hb);(try clear hb2);(try clear hk);(try clear hi)))
    go_meet
    case rel=>exact ⟨_,((t865.toList == ([]:List UInt8))),(by first|rfl|(simp;done)|(simp [*];done)),H',⟨by first|omega|exact Nat.le_refl _⟩,⟨by (with_reducible repeat (first|apply Kd.N_alloc|apply Kd.N_drewN|apply Kd.N_drew));exact Kd.N_mono HO863.out (fun _ hk=>hk.2)⟩,⟨gK BK864⟩,⟨by repeat (first|exact gB HB|refine below_set ?_ GE864.out)⟩⟩
   ·rw [if_neg c12] at H
    have c12b0:(t865.toList == t866.toList)=false:=beq_eq_false_iff_ne.mpr c12
    have c12b1:(t865.toList != t866.toList)=true:=bne_iff_ne.mpr c12
    (first|rw [c12b0]|(simp only [i64_w,i32_w];rw [c12b0])|skip)
    have H':=Aside0.mk H
    clear H
    have hcz15_0:w10.cell? ⟨gb864,0,none⟩=some (.int .i64 t858):=(blk_cell BK864.out 0).trans rfl
    have hcz15_1:w10.cell? ⟨gb864,1,none⟩=some (.int .i64 t859):=(blk_cell BK864.out 1).trans rfl
    have hcz15_2:w10.cell? ⟨gb864,2,none⟩=some (.string t860):=(blk_cell BK864.out 2).trans rfl
    have hcz15_3:w10.cell? ⟨gb864,3,none⟩=some (.slice Ao9 t861.length co9):=(blk_cell BK864.out 3).trans rfl
    have hfz15_0:=blk_frozen BK864.out 0
    have hfz15_1:=blk_frozen BK864.out 1
    have hfz15_2:=blk_frozen BK864.out 2
    have hfz15_3:=blk_frozen BK864.out 3
    go_wp2_with (first|((with_reducible refine gate_callee (f:=41) rfl ?_);refine goesL_ (some 16) rfl rfl Try.func41 (by kernel_rfl) rfl #[.agg #[.int .i64 t858,.int .i64 t859,.string t860,.slice Ao9 t861.length co9]] rfl (by (try simp only [List.map_toArray,List.map_cons,List.map_nil]);first|done|rfl|(simp only [List.length_drop,List.length_take];rfl)) ?_;(with_reducible refine (spec_FormatDoc.calls k t858 t859 t860 _ _ t861 t866 _ ?side1 ?side2 A11.out).mono ?_);(case side1=>exact gC ((Kd.N_reads' HO863.out).2.2));(case side2=>exact (Kd.N_reads' HO863.out).2.1);rintro e w16 ⟨rfl,hb⟩;refine ⟨_,rfl,?_⟩;have n0_:=Aside0.mk (Kd.N_below (gN HO863) hb);have n1_:=Aside0.mk (blk_below (g:=gb864) (o:=.cells #[.int .i64 t858,.int .i64 t859,.string t860,.slice Ao9 t861.length co9] 27 (0,0)) (gK BK864) hb);have n2_:=Aside0.mk (below_step (by repeat (first|exact gB HB|refine below_set ?_ GE864.out)) hb);clear HO863;clear BK864;clear HB;have HO863:=n0_;have BK864:=n1_;have HB:=n2_;clear n0_ n1_ n2_;(try clear hb);(try clear hb2);(try clear hk);(try clear hi)))
    go_meet
    case rel=>exact ⟨_,(true),(by first|rfl|(simp;done)|(simp [*];done)),H',⟨by first|omega|exact Nat.le_refl _⟩,⟨by (with_reducible repeat (first|apply Kd.N_alloc|apply Kd.N_drewN|apply Kd.N_drew));exact Kd.N_mono HO863.out (fun _ hk=>hk.2)⟩,⟨gK BK864⟩,⟨by repeat (first|exact gB HB|refine below_set ?_ GE864.out)⟩⟩
  case rest =>
   clear HC5
   try clear c1 c2 c2b0 c2b1 p2 c3 c4 c12 c12b0 c12b1 hcz13_0 hcz13_1 hcz13_2 hcz13_3 hcz15_0 hcz15_1 hcz15_2 hcz15_3 hcz8_0 hcz8_1 hcz8_2 hcz8_3 hfz13_0 hfz13_1 hfz13_2 hfz13_3 hfz15_0 hfz15_1 hfz15_2 hfz15_3 hfz8_0 hfz8_1 hfz8_2 hfz8_3
   obtain ⟨kq,x21_4,rfl,HA,HJ4,HO_865003,BK864,HB⟩:=hcut
   cases kq with
   | zero=>exact absurd HA.out (by simp [laws_FnDocBytes.j0])
   | succ kj4 =>
    have H:=HA.out
    clear HA
    simp only [laws_FnDocBytes.j0] at H
    by_cases c17:x21_4=true
    ·subst c17
     have H1:((spec_FormatDoc.f kj4 t858 t859 t860 t861).bind fun t867=>(some (t865.toList == t867.toList)))=some r:=by rw [if_pos rfl] at H;exact H
     clear H
     have H:=H1
     clear H1
     replace H:=Option.bind_eq_some_iff.mp H
     obtain ⟨t867,A180,H⟩:=H
     replace H:(some (t865.toList == t867.toList))=some r:=H
     have A18:=Aside0.mk A180
     clear A180
     obtain rfl:=Option.some.inj H
     have hcz19_0:wc.cell? ⟨gb864,0,none⟩=some (.int .i64 t858):=(blk_cell BK864.out 0).trans rfl
     have hcz19_1:wc.cell? ⟨gb864,1,none⟩=some (.int .i64 t859):=(blk_cell BK864.out 1).trans rfl
     have hcz19_2:wc.cell? ⟨gb864,2,none⟩=some (.string t860):=(blk_cell BK864.out 2).trans rfl
     have hcz19_3:wc.cell? ⟨gb864,3,none⟩=some (.slice Ao9 t861.length co9):=(blk_cell BK864.out 3).trans rfl
     have hfz19_0:=blk_frozen BK864.out 0
     have hfz19_1:=blk_frozen BK864.out 1
     have hfz19_2:=blk_frozen BK864.out 2
     have hfz19_3:=blk_frozen BK864.out 3
     go_wp2_with (first|((with_reducible refine gate_callee (f:=41) rfl ?_);refine goesL_ (some 24) rfl rfl Try.func41 (by kernel_rfl) rfl #[.agg #[.int .i64 t858,.int .i64 t859,.string t860,.slice Ao9 t861.length co9]] rfl (by (try simp only [List.map_toArray,List.map_cons,List.map_nil]);first|done|rfl|(simp only [List.length_drop,List.length_take];rfl)) ?_;(with_reducible refine (spec_FormatDoc.calls kj4 t858 t859 t860 _ _ t861 t867 _ ?side1 ?side2 A18.out).mono ?_);(case side1=>exact gC ((Kd.N_reads' HO_865003.out).2.2));(case side2=>exact (Kd.N_reads' HO_865003.out).2.1);rintro e w20 ⟨rfl,hb⟩;refine ⟨_,rfl,?_⟩;have n0_:=Aside0.mk (Kd.N_below (gN HO_865003) hb);have n1_:=Aside0.mk (blk_below (g:=gb864) (o:=.cells #[.int .i64 t858,.int .i64 t859,.string t860,.slice Ao9 t861.length co9] 27 (0,0)) (gK BK864) hb);have n2_:=Aside0.mk (below_step (by repeat (first|exact gB HB|refine below_set ?_ GE864.out)) hb);clear HO_865003;clear BK864;clear HB;have HO_865003:=n0_;have BK864:=n1_;have HB:=n2_;clear n0_ n1_ n2_;(try clear hb);(try clear hb2);(try clear hk);(try clear hi)))
     go_ret
     exact ⟨by first|rfl|(simp [errW_none,errW_some] <;> rfl)|(simp [*,errW_none,errW_some] <;> rfl),by repeat (first|exact gB HB|refine below_set ?_ GE864.out)⟩
    ·replace c17:=Bool.eq_false_iff.mpr c17
     subst c17
     have H1:(laws_FnDocBytes.l0 kj4 t865 0 0 t858 t859 t860 t861)=some r:=by rw [if_neg (show ¬ (false=true) by decide)] at H;exact H
     clear H
     have H:=H1
     clear H1
     have H':=Aside0.mk H
     clear H
     go_wp2
     go_loopg [5,6] kj4 (fun kq v5 v6 w'=>∃ (x5_2:Int) (x6_2:Int),v5=.int .i64 x5_2∧v6=.int .i64 x6_2∧Aside0 (laws_FnDocBytes.l0 kq t865 x5_2 x6_2 t858 t859 t860 t861=some r)∧Aside0 (kq≤kj4)∧Aside0 (Kd.N k27 27 w' w.heap.size (fun k_=>k_ ≠ gb864) (.slice Ao9 t861.length co9) t861)∧Aside0 (w'.heap[gb864]?=some (.cells #[.int .i64 t858,.int .i64 t859,.string t860,(.slice Ao9 t861.length co9)] 27 (0,0)))∧Aside0 (Below w.heap.size w w'))
     case atStart=>exact ⟨(0),(0),(by first|rfl|(simp;done)|(simp [*];done)),(by first|rfl|(simp;done)|(simp [*];done)),H',⟨Nat.le_refl _⟩,⟨gN HO_865003⟩,⟨gK BK864⟩,⟨by repeat (first|exact gB HB|refine below_set ?_ GE864.out)⟩⟩
     case round =>
      clear H'
      try clear c1 c2 c2b0 c2b1 p2 c3 c4 c12 c12b0 c12b1 c17 hcz13_0 hcz13_1 hcz13_2 hcz13_3 hcz15_0 hcz15_1 hcz15_2 hcz15_3 hcz19_0 hcz19_1 hcz19_2 hcz19_3 hcz8_0 hcz8_1 hcz8_2 hcz8_3 hfz13_0 hfz13_1 hfz13_2 hfz13_3 hfz15_0 hfz15_1 hfz15_2 hfz15_3 hfz19_0 hfz19_1 hfz19_2 hfz19_3 hfz8_0 hfz8_1 hfz8_2 hfz8_3 p2
      (try clear HO_865003);(try clear BK864);(try clear HB)
      obtain ⟨x5_2,x6_2,rfl,rfl,HA,HK2,HO_865003,BK864,HB⟩:=hrel
      cases gk with
      | zero=>exact absurd HA.out (by simp [laws_FnDocBytes.l0])
      | succ k2 =>
       have H:=HA.out
       clear HA
       simp only [laws_FnDocBytes.l0] at H
       by_cases c21:x6_2 < (t865.size:Int)
       ·rw [if_pos c21] at H
        have c21b0:decide (x6_2 < (t865.size:Int))=true:=decide_eq_true c21
        clear c21
        by_cases c22:0≤x6_2
        ·rw [if_pos c22] at H
         have c22b0:decide (0≤x6_2)=true:=decide_eq_true c22
         clear c22
         by_cases c24:(bt t865 x6_2)=34
         ·rw [if_pos c24] at H
          have c24b0:((bt t865 x6_2) == 34)=true:=beq_iff_eq.mpr c24
          have c24b1:((bt t865 x6_2) != 34)=false:=bne_eq_false_iff_eq.mpr c24
          clear c24
          have H':=Aside0.mk H
          clear H
          have p23:0≤(x6_2:Int):=of_decide_eq_true (by first|(with_reducible assumption)|assumption)
          have q23:x6_2 < (t865.size:Int):=of_decide_eq_true (by first|(with_reducible assumption)|assumption)
          have hx23:=bt_at t865 x6_2
          replace p23:=eq_true p23
          replace q23:=eq_true q23
          go_wp2
          go_roundg k2
          case measure=>have:=HJ4.out;have:=HK2.out;omega
          case rel=>exact ⟨(wrap64 (x5_2+1)),(wrap64 (x6_2+1)),(by first|rfl|(simp;done)|(simp [*];done)),(by first|rfl|(simp;done)|(simp [*];done)),H',⟨by have:=HJ4.out;have:=HK2.out;omega⟩,⟨gN HO_865003⟩,⟨gK BK864⟩,⟨by repeat (first|exact gB HB|refine below_set ?_ GE864.out)⟩⟩
         ·rw [if_neg c24] at H
          have c24b0:((bt t865 x6_2) == 34)=false:=beq_eq_false_iff_ne.mpr c24
          have c24b1:((bt t865 x6_2) != 34)=true:=bne_iff_ne.mpr c24
          have H':=Aside0.mk H
          clear H
          have p23:0≤(x6_2:Int):=of_decide_eq_true (by first|(with_reducible assumption)|assumption)
          have q23:x6_2 < (t865.size:Int):=of_decide_eq_true (by first|(with_reducible assumption)|assumption)
          have hx23:=bt_at t865 x6_2
          replace p23:=eq_true p23
          replace q23:=eq_true q23
          go_wp2
          go_roundg k2
          case measure=>have:=HJ4.out;have:=HK2.out;omega
          case rel=>exact ⟨(x5_2),(wrap64 (x6_2+1)),(by first|rfl|(simp;done)|(simp [*];done)),(by first|rfl|(simp;done)|(simp [*];done)),H',⟨by have:=HJ4.out;have:=HK2.out;omega⟩,⟨gN HO_865003⟩,⟨gK BK864⟩,⟨by repeat (first|exact gB HB|refine below_set ?_ GE864.out)⟩⟩
        ·rw [if_neg c22] at H
         exact absurd H (by simp)
       ·rw [if_neg c21] at H
        have c21b0:decide (x6_2 < (t865.size:Int))=false:=decide_eq_false c21
        clear c21
        replace H:=Option.bind_eq_some_iff.mp H
        obtain ⟨t868,A250,H⟩:=H
        replace H:(if (t865.size:Int) ≥ t868 then ((impl_CountOps.f k2 t858 t859 t860 t861 2).bind fun t869=>(some (x5_2 == (wrap64 (2 * t869))))) else (none))=some r:=H
        have A25:=Aside0.mk A250
        clear A250
        by_cases c26:(t865.size:Int) ≥ t868
        ·rw [if_pos c26] at H
         have c26b0:decide (t868≤(t865.size:Int))=true:=decide_eq_true c26
         clear c26
         replace H:=Option.bind_eq_some_iff.mp H
         obtain ⟨t869,A270,H⟩:=H
         replace H:(some (x5_2 == (wrap64 (2 * t869))))=some r:=H
         have A27:=Aside0.mk A270
         clear A270
         obtain rfl:=Option.some.inj H
         have hcz28_0:wr.cell? ⟨gb864,0,none⟩=some (.int .i64 t858):=(blk_cell BK864.out 0).trans rfl
         have hcz28_1:wr.cell? ⟨gb864,1,none⟩=some (.int .i64 t859):=(blk_cell BK864.out 1).trans rfl
         have hcz28_2:wr.cell? ⟨gb864,2,none⟩=some (.string t860):=(blk_cell BK864.out 2).trans rfl
         have hcz28_3:wr.cell? ⟨gb864,3,none⟩=some (.slice Ao9 t861.length co9):=(blk_cell BK864.out 3).trans rfl
         have hfz28_0:=blk_frozen BK864.out 0
         have hfz28_1:=blk_frozen BK864.out 1
         have hfz28_2:=blk_frozen BK864.out 2
         have hfz28_3:=blk_frozen BK864.out 3
         go_wp2_with (first|((with_reducible refine gate_callee (f:=22) rfl ?_);refine goesL_ (some 41) rfl rfl Try.func22 (by kernel_rfl) rfl #[.agg #[.int .i64 t858,.int .i64 t859,.string t860,.slice Ao9 t861.length co9]] rfl (by (try simp only [List.map_toArray,List.map_cons,List.map_nil]);first|done|rfl|(simp only [List.length_drop,List.length_take];rfl)) ?_;(with_reducible refine (impl_DocSize.calls k2 t858 t859 t860 _ _ t861 t868 _ ?side1 ?side2 A25.out).mono ?_);(case side1=>exact gC ((Kd.N_reads' HO_865003.out).2.2));(case side2=>exact (Kd.N_reads' HO_865003.out).2.1);rintro e w29 ⟨rfl,hb⟩;refine ⟨_,rfl,?_⟩;have n0_:=Aside0.mk (Kd.N_below (gN HO_865003) hb);have n1_:=Aside0.mk (blk_below (g:=gb864) (o:=.cells #[.int .i64 t858,.int .i64 t859,.string t860,.slice Ao9 t861.length co9] 27 (0,0)) (gK BK864) hb);have n2_:=Aside0.mk (below_step (by repeat (first|exact gB HB|refine below_set ?_ GE864.out)) hb);clear HO_865003;clear BK864;clear HB;have HO_865003:=n0_;have BK864:=n1_;have HB:=n2_;clear n0_ n1_ n2_;(try clear hb);(try clear hb2);(try clear hk);(try clear hi);have hcz30_0:w29.cell? ⟨gb864,0,none⟩=some (.int .i64 t858):=(blk_cell BK864.out 0).trans rfl;have hcz30_1:w29.cell? ⟨gb864,1,none⟩=some (.int .i64 t859):=(blk_cell BK864.out 1).trans rfl;have hcz30_2:w29.cell? ⟨gb864,2,none⟩=some (.string t860):=(blk_cell BK864.out 2).trans rfl;have hcz30_3:w29.cell? ⟨gb864,3,none⟩=some (.slice Ao9 t861.length co9):=(blk_cell BK864.out 3).trans rfl;have hfz30_0:=blk_frozen BK864.out 0;have hfz30_1:=blk_frozen BK864.out 1;have hfz30_2:=blk_frozen BK864.out 2;have hfz30_3:=blk_frozen BK864.out 3)|(go_at_call 20;(with_reducible refine (impl_CountOps.calls k2 t858 t859 t860 _ _ t861 2 t869 _ ?side1 ?side2 A27.out).mono ?_);(case side1=>exact gC ((Kd.N_reads' HO_865003.out).2.2));(case side2=>exact (Kd.N_reads' HO_865003.out).2.1);rintro e w31 ⟨rfl,hb⟩;have n0_:=Aside0.mk (Kd.N_below (gN HO_865003) hb);have n1_:=Aside0.mk (blk_below (g:=gb864) (o:=.cells #[.int .i64 t858,.int .i64 t859,.string t860,.slice Ao9 t861.length co9] 27 (0,0)) (gK BK864) hb);have n2_:=Aside0.mk (below_step (by repeat (first|exact gB HB|refine below_set ?_ GE864.out)) hb);clear HO_865003;clear BK864;clear HB;have HO_865003:=n0_;have BK864:=n1_;have HB:=n2_;clear n0_ n1_ n2_;(try clear hb);(try clear hb2);(try clear hk);(try clear hi)))
         go_ret
         exact ⟨by first|rfl|(simp [errW_none,errW_some] <;> rfl)|(simp [*,errW_none,errW_some] <;> rfl),by repeat (first|exact gB HB|refine below_set ?_ GE864.out)⟩
        ·rw [if_neg c26] at H
         exact absurd H (by simp)
def laws_FnDocBytes.Pure:Prop:=∀ (l0:List Int),l0.length≤maxLen→l0.length * 1≤140737488351232→(∀ x ∈ l0,(Lit.int .u8 x).wf=true)→∃ k,laws_FnDocBytes.f k l0=some true
theorem laws_FnDocBytes.walk (P:laws_FnDocBytes.Pure) (a0:Option Addr) (len0 cap0:Nat) (z0:List Int) (w:World) (w0:(a0=none∧len0=0∧cap0=0∧z0=[]) ∨ ∃ x,a0=some x∧len0≤cap0∧cap0≤maxLen∧z0.length=cap0∧(∀ i,i < z0.length→w.cell? (x.add i)=some (.int .u8 (z0.getD i 0)))∧∀ n ∈ z0,(Lit.int .u8 n).wf=true) (y0:len0 * 1≤140737488351232) :
  Calls Try.prog 12 #[.slice a0 len0 cap0] w fun e w'=>e=.returned (.bool true)∧Below w.heap.size w w':=by
 obtain ⟨l0,rfl,hr0,hm0,hw0,hc0⟩:=ReadsInt.ofRowC w0
 obtain ⟨k,h⟩:=P l0 hm0 y0 hw0
 refine (laws_FnDocBytes.calls k _ _ l0 true w (Kd.C_of_reads (d:=(0:Int)) (h1:=fun _=>rfl) hr0) hc0 h).mono ?_
 rintro e w' ⟨rfl,hd⟩
 exact ⟨rfl,hd⟩
end Go.Proofs.Ytdhdfmmefghijaa.P
namespace Go.Proofs.Ytdhdfmmefghijaa.Pure
open Go.RowKit Go.Proofs.Ytdhdfmmefghijaa.P Go.Proofs.YtdhdfmmefghijaaW.PrintWords Go.Proofs.YtdhdfmmefghijaaW.PrintLast Go.Proofs.YtdhdfmmefghijaaW.PrintMore
set_option linter.unusedVariables false
set_option linter.unusedSimpArgs false
theorem dec1 (n : Int) (h0 : 0 ≤ n) (h1 : n ≤ 9) : Ev (fun k => spec_l15Dec.f k n) (strOfNums [wrap64 (48 + n) % 256]) := by
  refine Ev.step (fun k => by rw [spec_l15Dec.f]) ?_
  simp only [if_neg (show ¬ n < -9223372036854775807 by omega), if_neg (show ¬ n < 0 by omega)]
  refine Ev.step (fun k => by rw [spec_l15Dec.l0]) ?_
  have hz : (strOfNums [wrap64 (48 + n) % 256]).size + (⟨#[]⟩ : ByteArray).size ≤ 9223372036854775807 := by
    rw [show (strOfNums [wrap64 (48 + n) % 256]).size = 1 from rfl]
    show 1 + 0 ≤ _
    omega
  simp only [if_neg (show ¬ n > 9 by omega), Option.bind_some, if_pos hz]
  rw [show strOfNums [wrap64 (48 + n) % 256] ++ (⟨#[]⟩ : ByteArray) = strOfNums [wrap64 (48 + n) % 256] from by apply ByteArray.ext; apply Array.ext'; simp]
  exact Ev.now _
theorem rd0 (y : SDoc) (l : List SDoc) : rd_TDoc (y :: l) 0 = y := by simp [rd_TDoc]
theorem rd1 (x y : SDoc) (l : List SDoc) : rd_TDoc (x :: y :: l) 1 = y := by simp [rd_TDoc]
theorem kids1 {ks : List SDoc} (h : (ks.length : Int) = 1) : ∃ y, ks = [y] := by
  match ks, h with
  | [y], _ => exact ⟨y, rfl⟩
  | [], h => simp at h
  | _ :: _ :: _, h => simp only [List.length_cons] at h; omega
theorem kids2 {ks : List SDoc} (h : (ks.length : Int) = 2) : ∃ x y, ks = [x, y] := by
  match ks, h with
  | [x, y], _ => exact ⟨x, y, rfl⟩
  | [], h => simp at h
  | [_], h => simp at h
  | _ :: _ :: _ :: _, h => simp only [List.length_cons] at h; omega
def fmtN (o n : Int) (t : ByteArray) (ss : List ByteArray) : ByteArray :=
  if o = 1 then ⟨#[126]⟩ else if o = 2 then ((⟨#[34]⟩ : ByteArray) ++ t) ++ (⟨#[34]⟩ : ByteArray) else if o = 3 then ⟨#[95]⟩ else if o = 4 then ⟨#[46]⟩ else if o = 5 then ⟨#[33]⟩
  else if o = 6 then ((strOfNums [wrap64 (48 + n) % 256] ++ (⟨#[60]⟩ : ByteArray)) ++ ss.getD 0 ⟨#[]⟩) ++ (⟨#[62]⟩ : ByteArray) else if o = 7 then (((⟨#[40]⟩ : ByteArray) ++ ss.getD 0 ⟨#[]⟩) ++ ss.getD 1 ⟨#[]⟩) ++ (⟨#[41]⟩ : ByteArray)
  else ((⟨#[91]⟩ : ByteArray) ++ ss.getD 0 ⟨#[]⟩) ++ (⟨#[93]⟩ : ByteArray)
mutual
def fmtB : SDoc → ByteArray
  | ⟨o, n, t, ks⟩ => fmtN o n t (fmtL ks)
def fmtL : List SDoc → List ByteArray
  | [] => []
  | k :: ks => fmtB k :: fmtL ks
end
theorem fmt_ev : ∀ (d : SDoc) (deep : Nat), wf d deep = true → msz d ≤ 1099511627776 → ∃ s : ByteArray, s = fmtB d ∧ s.size ≤ 4 * msz d ∧ Ev (fun k => spec_l1Text.f k d.f0 d.f1 d.f2 d.f3) s ∧ Ev (fun k => impl_formatDoc.f k d.f0 d.f1 d.f2 d.f3) s := by
  intro d
  induction d using SDoc.ind with
  | h o n t ks ih =>
    intro deep hw hd
    obtain ⟨ho1, ho8, hk, hn0, hn9, _, _, ht⟩ := wf_node hw
    have hks := wf_kids hw
    simp only [msz] at hd
    have key : ∀ s : ByteArray, (o = 1 → s = ⟨#[126]⟩) → (o = 3 → s = ⟨#[95]⟩) → (o = 4 → s = ⟨#[46]⟩) → (o = 5 → s = ⟨#[33]⟩) → (o = 1 ∨ o = 3 ∨ o = 4 ∨ o = 5) →
        Ev (fun k => spec_l1Text.f k o n t ks) s ∧ Ev (fun k => impl_formatDoc.f k o n t ks) s := by
      intro s h1 h3 h4 h5 h
      constructor
      · refine Ev.step (fun k => by rw [spec_l1Text.f]) ?_
        rcases h with h | h | h | h <;> subst h <;> simp [h1, h3, h4, h5] <;> exact Ev.now _
      · refine Ev.step (fun k => by rw [impl_formatDoc.f]) ?_
        rcases h with h | h | h | h <;> subst h <;> simp [h1, h3, h4, h5] <;> exact Ev.now _
    have hcase : o = 1 ∨ o = 2 ∨ o = 3 ∨ o = 4 ∨ o = 5 ∨ o = 6 ∨ o = 7 ∨ o = 8 := by omega
    rcases hcase with h | h | h | h | h | h | h | h
    · refine ⟨⟨#[126]⟩, by subst h; rfl, by show 1 ≤ _; simp only [msz]; omega, key _ (fun _ => rfl) (by omega) (by omega) (by omega) (by omega)⟩
    · subst h
      have e1 : 1 + t.size ≤ 9223372036854775807 := by omega
      have e2 : ((⟨#[34]⟩ : ByteArray) ++ t).size + 1 ≤ 9223372036854775807 := by rw [ByteArray.size_append]; show 1 + t.size + 1 ≤ _; omega
      refine ⟨((⟨#[34]⟩ : ByteArray) ++ t) ++ (⟨#[34]⟩ : ByteArray), rfl, ?_, ?_, ?_⟩
      · rw [ByteArray.size_append, ByteArray.size_append]
        show 1 + t.size + 1 ≤ _
        simp only [msz]; omega
      · refine Ev.step (fun k => by rw [spec_l1Text.f]) ?_
        simp only [if_neg (show ¬ (2 : Int) = 1 by omega), if_true, if_pos e1, if_pos e2]
        exact Ev.now _
      · refine Ev.step (fun k => by rw [impl_formatDoc.f]) ?_
        simp only [if_neg (show ¬ (2 : Int) = 1 by omega), if_true, if_pos e1, if_pos e2]
        exact Ev.now _
    · refine ⟨⟨#[95]⟩, by subst h; rfl, by show 1 ≤ _; simp only [msz]; omega, key _ (by omega) (fun _ => rfl) (by omega) (by omega) (by omega)⟩
    · refine ⟨⟨#[46]⟩, by subst h; rfl, by show 1 ≤ _; simp only [msz]; omega, key _ (by omega) (by omega) (fun _ => rfl) (by omega) (by omega)⟩
    · refine ⟨⟨#[33]⟩, by subst h; rfl, by show 1 ≤ _; simp only [msz]; omega, key _ (by omega) (by omega) (by omega) (fun _ => rfl) (by omega)⟩
    · subst h
      obtain ⟨y, rfl⟩ := kids1 (hk.trans rfl)
      simp only [mszL] at hd
      obtain ⟨s, hse, hs, h1, h2⟩ := ih y List.mem_cons_self _ (hks y List.mem_cons_self) (by omega)
      have z : (strOfNums [wrap64 (48 + n) % 256]).size = 1 := rfl
      have e1 : (strOfNums [wrap64 (48 + n) % 256]).size + 1 ≤ 9223372036854775807 := by rw [z]; omega
      have z2 : (strOfNums [wrap64 (48 + n) % 256] ++ (⟨#[60]⟩ : ByteArray)).size = 2 := by rw [ByteArray.size_append, z]; rfl
      have e2 : (strOfNums [wrap64 (48 + n) % 256] ++ (⟨#[60]⟩ : ByteArray)).size + s.size ≤ 9223372036854775807 := by rw [z2]; omega
      have e3 : ((strOfNums [wrap64 (48 + n) % 256] ++ (⟨#[60]⟩ : ByteArray)) ++ s).size + 1 ≤ 9223372036854775807 := by rw [ByteArray.size_append, z2]; omega
      refine ⟨((strOfNums [wrap64 (48 + n) % 256] ++ (⟨#[60]⟩ : ByteArray)) ++ s) ++ (⟨#[62]⟩ : ByteArray), by rw [hse]; rfl, ?_, ?_, ?_⟩
      · rw [ByteArray.size_append, ByteArray.size_append, z2]
        show 2 + s.size + 1 ≤ _
        simp only [msz, mszL]; omega
      · refine Ev.step (fun k => by rw [spec_l1Text.f]) ?_
        simp only [if_neg (show ¬ (6 : Int) = 1 by omega), if_neg (show ¬ (6 : Int) = 2 by omega), if_neg (show ¬ (6 : Int) = 3 by omega), if_neg (show ¬ (6 : Int) = 4 by omega), if_neg (show ¬ (6 : Int) = 5 by omega), if_true]
        refine Ev.bind (dec1 n hn0 hn9) ?_
        simp only [if_pos e1, if_pos (show (0 : Int) < (([y] : List SDoc).length : Int) by simp), rd0]
        refine Ev.bind h1 ?_
        simp only [if_pos e2, if_pos e3]
        exact Ev.now _
      · refine Ev.step (fun k => by rw [impl_formatDoc.f]) ?_
        simp only [if_neg (show ¬ (6 : Int) = 1 by omega), if_neg (show ¬ (6 : Int) = 2 by omega), if_neg (show ¬ (6 : Int) = 3 by omega), if_neg (show ¬ (6 : Int) = 4 by omega), if_neg (show ¬ (6 : Int) = 5 by omega), if_true, Option.bind_some,
          if_pos e1, if_pos (show (0 : Int) < (([y] : List SDoc).length : Int) by simp), rd0]
        refine Ev.bind h2 ?_
        simp only [if_pos e2, if_pos e3]
        exact Ev.now _
    · subst h
      obtain ⟨x, y, rfl⟩ := kids2 (hk.trans rfl)
      simp only [mszL] at hd
      have hx : x ∈ [x, y] := List.mem_cons_self
      have hy : y ∈ [x, y] := List.mem_cons_of_mem _ List.mem_cons_self
      obtain ⟨s, hse, hs, h1, h2⟩ := ih x hx _ (hks x hx) (by omega)
      obtain ⟨u, hue, hu, g1, g2⟩ := ih y hy _ (hks y hy) (by omega)
      have e1 : 1 + s.size ≤ 9223372036854775807 := by omega
      have z2 : ((⟨#[40]⟩ : ByteArray) ++ s).size = 1 + s.size := by rw [ByteArray.size_append]; rfl
      have e2 : ((⟨#[40]⟩ : ByteArray) ++ s).size + u.size ≤ 9223372036854775807 := by rw [z2]; omega
      have e3 : (((⟨#[40]⟩ : ByteArray) ++ s) ++ u).size + 1 ≤ 9223372036854775807 := by rw [ByteArray.size_append, z2]; omega
      refine ⟨(((⟨#[40]⟩ : ByteArray) ++ s) ++ u) ++ (⟨#[41]⟩ : ByteArray), by rw [hse, hue]; rfl, ?_, ?_, ?_⟩
      · rw [ByteArray.size_append, ByteArray.size_append, z2]
        show 1 + s.size + u.size + 1 ≤ _
        simp only [msz, mszL]; omega
      · refine Ev.step (fun k => by rw [spec_l1Text.f]) ?_
        simp only [if_neg (show ¬ (7 : Int) = 1 by omega), if_neg (show ¬ (7 : Int) = 2 by omega), if_neg (show ¬ (7 : Int) = 3 by omega), if_neg (show ¬ (7 : Int) = 4 by omega), if_neg (show ¬ (7 : Int) = 5 by omega), if_neg (show ¬ (7 : Int) = 6 by omega), if_true,
          if_pos (show (0 : Int) < (([x, y] : List SDoc).length : Int) by simp), if_pos (show (1 : Int) < (([x, y] : List SDoc).length : Int) by simp), rd0, rd1]
        refine Ev.bind h1 ?_
        simp only [if_pos e1]
        refine Ev.bind g1 ?_
        simp only [if_pos e2, if_pos e3]
        exact Ev.now _
      · refine Ev.step (fun k => by rw [impl_formatDoc.f]) ?_
        simp only [if_neg (show ¬ (7 : Int) = 1 by omega), if_neg (show ¬ (7 : Int) = 2 by omega), if_neg (show ¬ (7 : Int) = 3 by omega), if_neg (show ¬ (7 : Int) = 4 by omega), if_neg (show ¬ (7 : Int) = 5 by omega), if_neg (show ¬ (7 : Int) = 6 by omega), if_true,
          if_pos (show (0 : Int) < (([x, y] : List SDoc).length : Int) by simp), if_pos (show (1 : Int) < (([x, y] : List SDoc).length : Int) by simp), rd0, rd1]
        refine Ev.bind h2 ?_
        simp only [if_pos e1]
        refine Ev.bind g2 ?_
        simp only [if_pos e2, if_pos e3]
        exact Ev.now _
    · subst h
      obtain ⟨y, rfl⟩ := kids1 (hk.trans rfl)
      simp only [mszL] at hd
      obtain ⟨s, hse, hs, h1, h2⟩ := ih y List.mem_cons_self _ (hks y List.mem_cons_self) (by omega)
      have e1 : 1 + s.size ≤ 9223372036854775807 := by omega
      have z2 : ((⟨#[91]⟩ : ByteArray) ++ s).size = 1 + s.size := by rw [ByteArray.size_append]; rfl
      have e3 : ((⟨#[91]⟩ : ByteArray) ++ s).size + 1 ≤ 9223372036854775807 := by rw [z2]; omega
      refine ⟨((⟨#[91]⟩ : ByteArray) ++ s) ++ (⟨#[93]⟩ : ByteArray), by rw [hse]; rfl, ?_, ?_, ?_⟩
      · rw [ByteArray.size_append, z2]
        show 1 + s.size + 1 ≤ _
        simp only [msz, mszL]; omega
      · refine Ev.step (fun k => by rw [spec_l1Text.f]) ?_
        simp only [if_neg (show ¬ (8 : Int) = 1 by omega), if_neg (show ¬ (8 : Int) = 2 by omega), if_neg (show ¬ (8 : Int) = 3 by omega), if_neg (show ¬ (8 : Int) = 4 by omega), if_neg (show ¬ (8 : Int) = 5 by omega), if_neg (show ¬ (8 : Int) = 6 by omega), if_neg (show ¬ (8 : Int) = 7 by omega),
          if_pos (show (0 : Int) < (([y] : List SDoc).length : Int) by simp), rd0]
        refine Ev.bind h1 ?_
        simp only [if_pos e1, if_pos e3]
        exact Ev.now _
      · refine Ev.step (fun k => by rw [impl_formatDoc.f]) ?_
        simp only [if_neg (show ¬ (8 : Int) = 1 by omega), if_neg (show ¬ (8 : Int) = 2 by omega), if_neg (show ¬ (8 : Int) = 3 by omega), if_neg (show ¬ (8 : Int) = 4 by omega), if_neg (show ¬ (8 : Int) = 5 by omega), if_neg (show ¬ (8 : Int) = 6 by omega), if_neg (show ¬ (8 : Int) = 7 by omega),
          if_pos (show (0 : Int) < (([y] : List SDoc).length : Int) by simp), rd0]
        refine Ev.bind h2 ?_
        simp only [if_pos e1, if_pos e3]
        exact Ev.now _
def fmtT (d : SDoc) : ByteArray := if docV d = true then fmtB d else ⟨#[]⟩
theorem fmtDoc_ev (d : SDoc) (hd : msz d ≤ 1099511627776) : Ev (fun k => spec_FormatDoc.f k d.f0 d.f1 d.f2 d.f3) (fmtT d) ∧ Ev (fun k => impl_FormatDoc.f k d.f0 d.f1 d.f2 d.f3) (fmtT d) := by
  unfold fmtT
  by_cases hv : docV d = true
  · obtain ⟨s, rfl, _, h1, h2⟩ := fmt_ev d 40 (docV_wf hv) hd
    rw [if_pos hv]
    refine ⟨Ev.congr (fun k => by rw [spec_FormatDoc.f]) (Ev.bind (specValid_ev d hd) ?_), Ev.congr (fun k => by rw [impl_FormatDoc.f]) (Ev.bind (implValid_ev d hd) ?_)⟩
    · simp only [if_pos hv]
      exact Ev.bind h1 (Ev.now _)
    · simp only [if_pos hv]
      exact Ev.bind h2 (Ev.now _)
  · rw [if_neg hv]
    refine ⟨Ev.congr (fun k => by rw [spec_FormatDoc.f]) (Ev.bind (specValid_ev d hd) ?_), Ev.congr (fun k => by rw [impl_FormatDoc.f]) (Ev.bind (implValid_ev d hd) ?_)⟩
    · simp only [if_neg hv]; exact Ev.now _
    · simp only [if_neg hv]; exact Ev.now _
end Go.Proofs.Ytdhdfmmefghijaa.Pure
namespace Go.Proofs.Ytdhdfmmefghijaa.Pure
open Go.RowKit Go.Proofs.Ytdhdfmmefghijaa.P Go.Proofs.YtdhdfmmefghijaaW.PrintWords Go.Proofs.YtdhdfmmefghijaaW.PrintLast Go.Proofs.YtdhdfmmefghijaaW.PrintMore
set_option linter.unusedVariables false
set_option linter.unusedSimpArgs false
theorem d1 (c : UInt8) : (⟨#[c]⟩ : ByteArray) = ba [c] := rfl
theorem data_ap (a b : ByteArray) : (a ++ b).data.toList = a.data.toList ++ b.data.toList := by simp
theorem digit_data (n : Int) (h0 : 0 ≤ n) (h9 : n ≤ 9) : ∃ c : UInt8, (strOfNums [wrap64 (48 + n) % 256]).data.toList = [c] ∧ (c.toNat : Int) = 48 + n := by
  have : n = 0 ∨ n = 1 ∨ n = 2 ∨ n = 3 ∨ n = 4 ∨ n = 5 ∨ n = 6 ∨ n = 7 ∨ n = 8 ∨ n = 9 := by omega
  rcases this with rfl | rfl | rfl | rfl | rfl | rfl | rfl | rfl | rfl | rfl
  · exact ⟨48, by decide +kernel, rfl⟩
  · exact ⟨49, by decide +kernel, rfl⟩
  · exact ⟨50, by decide +kernel, rfl⟩
  · exact ⟨51, by decide +kernel, rfl⟩
  · exact ⟨52, by decide +kernel, rfl⟩
  · exact ⟨53, by decide +kernel, rfl⟩
  · exact ⟨54, by decide +kernel, rfl⟩
  · exact ⟨55, by decide +kernel, rfl⟩
  · exact ⟨56, by decide +kernel, rfl⟩
  · exact ⟨57, by decide +kernel, rfl⟩
theorem good_no34 {b : UInt8} (h : goodB b = true) : (b.toNat : Int) ≠ 34 := by
  intro e
  simp only [goodB, goodC, e] at h
  revert h
  decide
theorem tv_no34 {t : ByteArray} (h : tv t = true) : ∀ b ∈ t.data.toList, (b.toNat : Int) ≠ 34 := by
  simp only [tv, Bool.and_eq_true, decide_eq_true_eq] at h
  exact fun b hb => good_no34 (List.all_eq_true.1 h.2.2 b hb)
end Go.Proofs.Ytdhdfmmefghijaa.Pure
namespace Go.Proofs.Ytdhdfmmefghijaa.Pure
open Go.RowKit Go.Proofs.Ytdhdfmmefghijaa.P Go.Proofs.YtdhdfmmefghijaaW.PrintWords Go.Proofs.YtdhdfmmefghijaaW.PrintLast Go.Proofs.YtdhdfmmefghijaaW.PrintMore
set_option linter.unusedVariables false
set_option linter.unusedSimpArgs false
theorem implSize_loop (suf : List SDoc) : ∀ (pre : List SDoc) (acc : Int) (N : Int), N = ((pre ++ suf).length : Int) →
    (∀ y, y ∈ suf → Ev (fun k => impl_DocSize.f k y.f0 y.f1 y.f2 y.f3) (dsz y : Int)) → 0 ≤ acc → acc + dszL suf ≤ 9223372036854775807 → pre.length + suf.length ≤ 4611686018427387904 →
    Ev (fun k => impl_DocSize.l0 k acc (pre ++ suf) N (pre.length : Int)) (acc + dszL suf) := by
  induction suf with
  | nil =>
    intro pre acc N hN _ h0 hs hm
    subst hN
    refine Ev.step (fun k => by rw [impl_DocSize.l0]) ?_
    simp only [List.append_nil, Int.lt_irrefl, if_false, dszL, Int.natCast_zero, Int.add_zero]
    exact Ev.now _
  | cons y suf ih =>
    intro pre acc N hN hy h0 hs hm
    simp only [List.length_cons, dszL] at hm hs
    refine Ev.step (fun k => by rw [impl_DocSize.l0]) ?_
    have c1 : (pre.length : Int) < ((pre ++ y :: suf).length : Int) := by simp; omega
    have c0 : (pre.length : Int) < N := by omega
    have c2 : (0 : Int) ≤ (pre.length : Int) := by omega
    simp only [if_pos c0, if_pos c1, if_pos c2, rdD]
    refine Ev.bind (hy y List.mem_cons_self) ?_
    rw [w64 (i := acc + dsz y) (by omega) (by omega), w64 (by omega) (by omega)]
    have := ih (pre ++ [y]) (acc + dsz y) N (by rw [hN]; simp) (fun z hz => hy z (List.mem_cons_of_mem _ hz)) (by omega) (by omega) (by simp; omega)
    rw [List.append_assoc, show ((pre ++ [y]).length : Int) = (pre.length : Int) + 1 by simp] at this
    rw [show acc + (dszL (y :: suf) : Int) = acc + dsz y + dszL suf by simp [dszL]; omega]
    exact this
theorem implSize_ev : ∀ (d : SDoc), dsz d ≤ 4611686018427387904 → Ev (fun k => impl_DocSize.f k d.f0 d.f1 d.f2 d.f3) (dsz d : Int) := by
  intro d
  induction d using SDoc.ind with
  | h o n t ks ih =>
    intro hd
    simp only [dsz] at hd
    refine Ev.step (fun k => by rw [impl_DocSize.f]) ?_
    have := implSize_loop ks [] 1 (ks.length : Int) (by simp) (fun y hy => ih y hy (by have := dszL_mem hy; omega)) (by omega) (by omega) (by have := dszL_len ks; simp; omega)
    rw [show ((dsz ⟨o, n, t, ks⟩ : Nat) : Int) = 1 + (dszL ks : Int) by simp [dsz]]
    simpa using this
end Go.Proofs.Ytdhdfmmefghijaa.Pure
namespace Go.Proofs.Ytdhdfmmefghijaa.Pure
open Go.RowKit Go.Proofs.Ytdhdfmmefghijaa.P Go.Proofs.YtdhdfmmefghijaaW.PrintWords Go.Proofs.YtdhdfmmefghijaaW.PrintLast Go.Proofs.YtdhdfmmefghijaaW.PrintMore
set_option linter.unusedVariables false
set_option linter.unusedSimpArgs false
def q34 (l : List UInt8) : Nat := l.countP fun b => decide ((b.toNat : Int) = 34)
theorem q34_app (a b : List UInt8) : q34 (a ++ b) = q34 a + q34 b := by unfold q34; exact List.countP_append ..
theorem q34_cons (b : UInt8) (l : List UInt8) : q34 (b :: l) = q34 l + (if (b.toNat : Int) = 34 then 1 else 0) := by unfold q34; rw [List.countP_cons]; simp
theorem bytes_loop {s : ByteArray} (o n : Int) (t : ByteArray) (ks : List SDoc) (hs : s.size ≤ 1099511627776) (hm : dsz ⟨o, n, t, ks⟩ ≤ 1099511627776) (hz : dsz ⟨o, n, t, ks⟩ ≤ s.size) : ∀ (suf pre : List UInt8) (x5 : Nat), s.data.toList = pre ++ suf → x5 ≤ pre.length →
    Ev (fun k => laws_FnDocBytes.l0 k s (x5 : Int) (pre.length : Int) o n t ks) (((x5 + q34 suf : Nat) : Int) == 2 * (cnt 2 ⟨o, n, t, ks⟩ : Int)) := by
  intro suf
  induction suf with
  | nil =>
    intro pre x5 e hx
    rw [List.append_nil] at e
    have hl : s.size = pre.length := by rw [size_data, e]
    refine Ev.step (fun k => by rw [laws_FnDocBytes.l0]) ?_
    simp only [if_neg (show ¬ ((pre.length : Int) < (s.size : Int)) by omega)]
    refine Ev.bind (implSize_ev ⟨o, n, t, ks⟩ (by omega)) ?_
    simp only [if_pos (show (s.size : Int) ≥ (dsz ⟨o, n, t, ks⟩ : Int) by omega)]
    refine Ev.bind (implCnt_ev 2 ⟨o, n, t, ks⟩ (by omega)) ?_
    have := cnt_le 2 ⟨o, n, t, ks⟩
    rw [w64 (by omega) (by omega)]
    exact Ev.now _
  | cons b suf ih =>
    intro pre x5 e hx
    have hl : s.size = pre.length + (suf.length + 1) := by rw [size_data, e]; simp
    refine Ev.step (fun k => by rw [laws_FnDocBytes.l0]) ?_
    simp only [if_pos (show (pre.length : Int) < (s.size : Int) by omega), if_pos (show (0 : Int) ≤ (pre.length : Int) by omega), bt_mid e]
    have e' : s.data.toList = (pre ++ [b]) ++ suf := by rw [e, List.append_assoc]; rfl
    have hp : ((pre ++ [b]).length : Int) = (pre.length : Int) + 1 := by simp
    rw [w64 (by omega) (by omega), w64 (by omega) (by omega), q34_cons]
    refine Ev.iff (fun c => ?_) (fun c => ?_)
    · rw [if_pos c]
      have := ih (pre ++ [b]) (x5 + 1) e' (by simp; omega)
      rw [hp] at this
      rw [show x5 + (q34 suf + 1) = x5 + 1 + q34 suf by omega]
      exact this
    · rw [if_neg c]
      have := ih (pre ++ [b]) x5 e' (by simp; omega)
      rw [hp] at this
      exact this
theorem q34_none {l : List UInt8} (h : ∀ b ∈ l, (b.toNat : Int) ≠ 34) : q34 l = 0 := by
  unfold q34
  rw [List.countP_eq_zero]
  intro b hb
  rw [decide_eq_true_eq]
  exact h b hb
theorem fmt_q : ∀ (d : SDoc) (deep : Nat), wf d deep = true → q34 (fmtB d).data.toList = 2 * cnt 2 d ∧ dsz d ≤ (fmtB d).data.toList.length := by
  intro d
  induction d using SDoc.ind with
  | h o n t ks ih =>
    intro deep hw
    obtain ⟨h1, h8, hk, hn0, hn9, hn, ht, ht'⟩ := wf_node hw
    have hks := wf_kids hw
    have hcase : o = 1 ∨ o = 2 ∨ o = 3 ∨ o = 4 ∨ o = 5 ∨ o = 6 ∨ o = 7 ∨ o = 8 := by omega
    have nil : ∀ {k : Int}, docKids k = 0 → (ks.length : Int) = docKids k → ks = [] := fun h1 h2 => List.length_eq_zero_iff.1 (by omega)
    rcases hcase with h | h | h | h | h | h | h | h
    · subst h; obtain rfl := nil rfl hk; exact ⟨rfl, by show 1 ≤ 1; omega⟩
    · subst h
      obtain rfl := nil rfl hk
      have e : (fmtB ⟨2, n, t, []⟩).data.toList = 34 :: (t.data.toList ++ [34]) := by
        show ((((⟨#[34]⟩ : ByteArray) ++ t) ++ (⟨#[34]⟩ : ByteArray)).data.toList) = _
        simp
      rw [e, q34_cons, q34_app, q34_none (tv_no34 (ht rfl))]
      exact ⟨rfl, by simp [dsz, dszL]⟩
    · subst h; obtain rfl := nil rfl hk; exact ⟨rfl, by show 1 ≤ 1; omega⟩
    · subst h; obtain rfl := nil rfl hk; exact ⟨rfl, by show 1 ≤ 1; omega⟩
    · subst h; obtain rfl := nil rfl hk; exact ⟨rfl, by show 1 ≤ 1; omega⟩
    · subst h
      obtain ⟨y, rfl⟩ := kids1 (hk.trans rfl)
      obtain ⟨c, hc, hcn⟩ := digit_data n hn0 hn9
      obtain ⟨y1, y2⟩ := ih y (by simp) (deep - 1) (hks y (by simp))
      have e : (fmtB ⟨6, n, t, [y]⟩).data.toList = c :: 60 :: ((fmtB y).data.toList ++ [62]) := by
        show ((((strOfNums [wrap64 (48 + n) % 256] ++ (⟨#[60]⟩ : ByteArray)) ++ fmtB y) ++ (⟨#[62]⟩ : ByteArray)).data.toList) = _
        rw [data_ap, data_ap, data_ap, hc]
        simp
      rw [e, q34_cons, q34_cons, q34_app, y1, if_neg (show ¬ (c.toNat : Int) = 34 by omega)]
      refine ⟨?_, by simp only [List.length_cons, List.length_append, List.length_nil, dsz, dszL]; omega⟩
      have : cnt 2 ⟨6, n, t, [y]⟩ = cnt 2 y := by simp [cnt, cntL]
      rw [this]; rfl
    · subst h
      obtain ⟨x, y, rfl⟩ := kids2 (hk.trans rfl)
      obtain ⟨x1, x2⟩ := ih x (by simp) (deep - 1) (hks x (by simp))
      obtain ⟨y1, y2⟩ := ih y (by simp) (deep - 1) (hks y (by simp))
      have e : (fmtB ⟨7, n, t, [x, y]⟩).data.toList = 40 :: ((fmtB x).data.toList ++ ((fmtB y).data.toList ++ [41])) := by
        show (((((⟨#[40]⟩ : ByteArray) ++ fmtB x) ++ fmtB y) ++ (⟨#[41]⟩ : ByteArray)).data.toList) = _
        rw [data_ap, data_ap, data_ap]
        simp
      rw [e, q34_cons, q34_app, q34_app, x1, y1]
      refine ⟨?_, by simp only [List.length_cons, List.length_append, List.length_nil, dsz, dszL]; omega⟩
      have : cnt 2 ⟨7, n, t, [x, y]⟩ = cnt 2 x + cnt 2 y := by simp [cnt, cntL]
      have h0 : q34 [41] = 0 := rfl
      rw [this, h0, if_neg (by decide)]; omega
    · subst h
      obtain ⟨y, rfl⟩ := kids1 (hk.trans rfl)
      obtain ⟨y1, y2⟩ := ih y (by simp) (deep - 1) (hks y (by simp))
      have e : (fmtB ⟨8, n, t, [y]⟩).data.toList = 91 :: ((fmtB y).data.toList ++ [93]) := by
        show ((((⟨#[91]⟩ : ByteArray) ++ fmtB y) ++ (⟨#[93]⟩ : ByteArray)).data.toList) = _
        rw [data_ap, data_ap]
        simp
      rw [e, q34_cons, q34_app, y1]
      refine ⟨?_, by simp only [List.length_cons, List.length_append, List.length_nil, dsz, dszL]; omega⟩
      have : cnt 2 ⟨8, n, t, [y]⟩ = cnt 2 y := by simp [cnt, cntL]
      have h0 : q34 [93] = 0 := rfl
      rw [this, h0, if_neg (by decide)]; omega
theorem FnDocBytes : laws_FnDocBytes.Pure := by
  intro l hl _ hw
  refine Ev.rounds (g := fun k => laws_FnDocBytes.f k l) (Ev.congr (fun k => by rw [laws_FnDocBytes.f]) (big_or ?_))
  obtain ⟨d, hd, hm⟩ := drawFormat_ev l hl hw
  have hz := dsz_msz d
  refine Ev.bind hd (Ev.bind (fmtDoc_ev d (by omega)).2 (Ev.bind (fmtDoc_ev d (by omega)).1 ?_))
  simp only [if_true]
  refine Ev.step (fun k => by rw [laws_FnDocBytes.j0]) ?_
  by_cases hv : docV d = true
  · obtain ⟨s, e, h2, _, _⟩ := fmt_ev d 40 (docV_wf hv) (by omega)
    rw [fmtT, if_pos hv, ← e]
    have hq := fmt_q d 40 (docV_wf hv)
    rw [← e, ← size_data] at hq
    have hne : (s.toList == ([] : List UInt8)) = false := by
      rw [beq_eq_false_iff_ne]
      intro c
      have := toList_nil.1 c
      have := dsz_pos d
      omega
    simp only [hne, Bool.false_eq_true, if_false]
    obtain ⟨o, n, t, ks⟩ := d
    have := bytes_loop (s := s) o n t ks (by omega) (by omega) hq.2 s.data.toList [] 0 rfl (by simp)
    rw [hq.1] at this
    simpa using this
  · rw [fmtT, if_neg hv]
    rw [show ((⟨#[]⟩ : ByteArray).toList == ([] : List UInt8)) = true from by decide +kernel]
    simp only [if_true]
    refine Ev.bind (fmtDoc_ev d (by omega)).1 ?_
    rw [fmtT, if_neg hv, beq_self_eq_true]
    exact Ev.now _
end Go.Proofs.Ytdhdfmmefghijaa.Pure
