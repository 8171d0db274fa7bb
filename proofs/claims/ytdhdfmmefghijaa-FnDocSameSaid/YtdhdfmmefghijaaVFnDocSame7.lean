/- CONTRACTS and lemmas: each contract says that a Go function of the program, called over the translation under the theorem's own hypotheses, returns what the Lean function beside it computes. -/
import Derived.Test.YtdhdfmmefghijaaVFnDocSame6
namespace Go.Proofs.Ytdhdfmmefghijaa.P
open Go.RowKit Go.Proofs.YtdhdfmmefghijaaW.PrintWords Go.Proofs.YtdhdfmmefghijaaW.PrintLast Go.Proofs.YtdhdfmmefghijaaW.PrintMore
attribute [local go_sem] max2_int min2_int max_two min_two max_three min_three max_four min_four
set_option linter.unusedVariables false
set_option linter.unusedSimpArgs false
mutual
def spec_l1Draw.l0:Nat→List ByteArray→Int→List Int→Int→Option (Int × Int × ByteArray × (List (SDoc)) × Int)
 | 0,_,_,_,_=>none
 | k+1,x3,x4,x1000,x1001=>if x4 < 3 then ((spec_l15Rd_pick.f k x1000 x1001 3).bind fun bt449=>(if bt449.1=0 then ((spec_l15Rd_pick.f k x1000 bt449.2 (x3.length:Int)).bind fun bt451=>(if 0≤bt451.1 then (if bt451.1 < (x3.length:Int) then ((spec_ParseDoc.f k (rdOf ByteArray.empty x3 bt451.1)).bind fun bt454=>(if bt454.2.2.2.2=true then (some (bt454.1,bt454.2.1,bt454.2.2.1,bt454.2.2.2.1,bt451.2)) else (spec_l1Draw.j1 k x3 x4 x1000 bt451.2))) else (none)) else (none))) else (spec_l1Draw.j1 k x3 x4 x1000 bt449.2))) else ((spec_l1Some.f k x1000 x1001 2).bind fun bt477=>(some (bt477.1,bt477.2.1,bt477.2.2.1,bt477.2.2.2.1,bt477.2.2.2.2)))
def spec_l1Draw.j1:Nat→List ByteArray→Int→List Int→Int→Option (Int × Int × ByteArray × (List (SDoc)) × Int)
 | 0,_,_,_,_=>none
 | k+1,x3,x4,x1000,x1001=>(spec_l15Rd_num.f k x1000 x1001 (([4,3,5,2]:List Int))).bind fun bt465=>((spec_l1Some.f k x1000 bt465.2 bt465.1).bind fun bt467=>((spec_DocValid.f k bt467.1 bt467.2.1 bt467.2.2.1 bt467.2.2.2.1).bind fun t475=>(if t475=true then ((spec_l1Count.f k bt467.1 bt467.2.1 bt467.2.2.1 bt467.2.2.2.1).bind fun t476=>(if t476≤40 then (some (bt467.1,bt467.2.1,bt467.2.2.1,bt467.2.2.2.1,bt467.2.2.2.2)) else (spec_l1Draw.l0 k x3 (wrap64 (x4+1)) x1000 bt467.2.2.2.2))) else (spec_l1Draw.l0 k x3 (wrap64 (x4+1)) x1000 bt467.2.2.2.2))))
end
def spec_l1Draw.f (k:Nat) (s0_0:List Int) (s0_1:Int):Option (Int × Int × ByteArray × (List (SDoc)) × Int):=spec_l1Draw.l0 k (([(⟨#[91,40,34,102,40,34,40,50,60,40,46,40,34,97,97,97,97,44,34,40,95,34,98,98,98,98,34,41,41,41,62,40,46,34,41,34,41,41,41,93]⟩:ByteArray),(⟨#[40,34,97,34,40,95,40,34,98,34,40,95,34,99,34,41,41,41,41]⟩:ByteArray),(⟨#[91,40,34,97,97,34,40,95,91,40,34,98,98,34,40,95,34,99,99,34,41,41,93,41,41,93]⟩:ByteArray),(⟨#[51,60,91,40,34,120,61,49,34,40,95,34,121,34,41,41,93,62]⟩:ByteArray),(⟨#[40,34,123,34,40,50,60,40,33,40,34,97,58,49,44,34,40,33,34,98,58,50,34,41,41,41,62,40,33,34,125,34,41,41,41]⟩:ByteArray),(⟨#[40,91,40,34,97,34,40,95,34,98,34,41,41,93,91,40,34,99,34,40,46,34,100,34,41,41,93,41]⟩:ByteArray),(⟨#[126]⟩:ByteArray),(⟨#[34,97,98,99,34]⟩:ByteArray)]:List ByteArray)) 0 s0_0 s0_1
set_option maxHeartbeats 8000000 in
set_option maxRecDepth 100000 in
theorem spec_l1Draw.calls (k:Nat) (g:Nat) (s0_0:List Int) (s0_1:Int) (r1:Int) (r2:Int) (r3:ByteArray) (r4:List (SDoc)) (r5:Int) (w0 w:World) (hI:IsS66 w0 w g s0_0 s0_1) (hB:Below w0.heap.size w0 w) (h:spec_l1Draw.f k s0_0 s0_1=some (r1,r2,r3,r4,r5)) :
  Calls Try.prog 51 #[.pointer (some ⟨g,0,none⟩)] w fun e w'=>∃ v3_:Value,e=.returned (.agg #[.int .i64 r1,.int .i64 r2,.string r3,v3_])∧Kd.N k27 27 w' w.heap.size (fun k_=>(w.heap.size≤k_)) v3_ r4∧IsS66 w0 w' g s0_0 r5∧Below w0.heap.size w0 w'∧KeepBut w w' g none:=by
 have hu27:=Try.underlying27
 have HI0:=Aside0.mk hI
 have HK:=Aside0.mk (KeepBut.refl w g none)
 have HL:=Aside0.mk hB.size
 clear hI
 have HW0:=Aside0.mk hB.size
 have HB:=Aside0.mk hB
 clear hB
 have H:(spec_l1Draw.l0 k (([(⟨#[91,40,34,102,40,34,40,50,60,40,46,40,34,97,97,97,97,44,34,40,95,34,98,98,98,98,34,41,41,41,62,40,46,34,41,34,41,41,41,93]⟩:ByteArray),(⟨#[40,34,97,34,40,95,40,34,98,34,40,95,34,99,34,41,41,41,41]⟩:ByteArray),(⟨#[91,40,34,97,97,34,40,95,91,40,34,98,98,34,40,95,34,99,99,34,41,41,93,41,41,93]⟩:ByteArray),(⟨#[51,60,91,40,34,120,61,49,34,40,95,34,121,34,41,41,93,62]⟩:ByteArray),(⟨#[40,34,123,34,40,50,60,40,33,40,34,97,58,49,44,34,40,33,34,98,58,50,34,41,41,41,62,40,33,34,125,34,41,41,41]⟩:ByteArray),(⟨#[40,91,40,34,97,34,40,95,34,98,34,41,41,93,91,40,34,99,34,40,46,34,100,34,41,41,93,41]⟩:ByteArray),(⟨#[126]⟩:ByteArray),(⟨#[34,97,98,99,34]⟩:ByteArray)]:List ByteArray)) 0 s0_0 s0_1)=some (r1,r2,r3,r4,r5):=h
 clear h
 obtain ⟨y446,hy446⟩:∃ y_:List ByteArray,y_=(([(⟨#[91,40,34,102,40,34,40,50,60,40,46,40,34,97,97,97,97,44,34,40,95,34,98,98,98,98,34,41,41,41,62,40,46,34,41,34,41,41,41,93]⟩:ByteArray),(⟨#[40,34,97,34,40,95,40,34,98,34,40,95,34,99,34,41,41,41,41]⟩:ByteArray),(⟨#[91,40,34,97,97,34,40,95,91,40,34,98,98,34,40,95,34,99,99,34,41,41,93,41,41,93]⟩:ByteArray),(⟨#[51,60,91,40,34,120,61,49,34,40,95,34,121,34,41,41,93,62]⟩:ByteArray),(⟨#[40,34,123,34,40,50,60,40,33,40,34,97,58,49,44,34,40,33,34,98,58,50,34,41,41,41,62,40,33,34,125,34,41,41,41]⟩:ByteArray),(⟨#[40,91,40,34,97,34,40,95,34,98,34,41,41,93,91,40,34,99,34,40,46,34,100,34,41,41,93,41]⟩:ByteArray),(⟨#[126]⟩:ByteArray),(⟨#[34,97,98,99,34]⟩:ByteArray)]:List ByteArray)):=⟨_,rfl⟩
 replace H:(spec_l1Draw.l0 k y446 0 s0_0 s0_1)=some (r1,r2,r3,r4,r5):=by first|(rw [hy446];with_reducible exact H)|(have H2_:=(Option.bind_some _ _).symm.trans H;rw [hy446];with_reducible exact H2_)|(have H2_:=(Option.bind_some _ _).symm.trans H;with_reducible exact H2_)|with_reducible exact H|(rw [hy446];exact H)|exact H
 have Ny446:=Aside0.mk hy446
 clear hy446
 have H':=Aside0.mk H
 clear H
 go_enter Try.func51,Try.ntmps51
 go_wp2_with (first|((with_reducible refine gate_dst (N:=2) rfl ?_);refine box_event ?hg (N:=2) ?hd (cs:=#[.int .i64 0,.int .i64 0,.string (⟨#[]⟩:ByteArray),.slice none 0 0]) (t:=27) ?hr ?_;(case hd=>rfl);(case hg=>rfl);(case hr=>first|(go_simp;done)|(go_simp;rfl));intro gb445 hg w2 hbox hb;have n0_:=Aside0.mk (IsS66.below (by repeat (first|(with_reducible first|exact HI0.out|apply IsS66.alloc|apply IsS66.drewN|apply IsS66.drew|apply IsS66.set_1)|exact HI0.out)) hb);have n1_:=Aside0.mk (KeepBut.trans (by repeat (first|exact gW HK|apply KeepBut.set_)) (KeepBut.of_below hb g none) (.inl rfl));have n2_:=Aside0.mk (below_step (by repeat (first|exact gB HB|refine below_set ?_ (IsS66.ge HI0.out))) hb);have n3_:=Aside0.mk (hbox);have n4_:=Aside0.mk ((by rw [hg];exact (keep_size (w:=w) (g:=g) (row:=none) (by repeat (first|exact gW HK|apply KeepBut.set_))):w.heap.size≤gb445));have n5_:=Aside0.mk ((Nat.le_trans HW0.out (by rw [hg];exact (keep_size (w:=w) (g:=g) (row:=none) (by repeat (first|exact gW HK|apply KeepBut.set_))):w.heap.size≤gb445):w0.heap.size≤gb445));have n6_:=Aside0.mk ((by rw [hg];exact Nat.ne_of_lt (IsS66.lt (show IsS66 w0 _ g s0_0 s0_1 from by repeat (first|(with_reducible first|exact HI0.out|apply IsS66.alloc|apply IsS66.drewN|apply IsS66.drew|apply IsS66.set_1)|exact HI0.out))):g ≠ gb445));have n7_:=Aside0.mk ((by rw [hg];exact Nat.ne_of_gt (IsS66.lt (show IsS66 w0 _ g s0_0 s0_1 from by repeat (first|(with_reducible first|exact HI0.out|apply IsS66.alloc|apply IsS66.drewN|apply IsS66.drew|apply IsS66.set_1)|exact HI0.out))):gb445 ≠ g));clear HI0;clear HK;clear HB;have HI0:=n0_;have HK:=n1_;have HB:=n2_;have BK445:=n3_;have GW445:=n4_;have GE445:=n5_;have NB0_445:=n6_;have NB445_0:=n7_;clear n0_ n1_ n2_ n3_ n4_ n5_ n6_ n7_;clear hb hbox hg)|((with_reducible refine gate_dst (N:=8) rfl ?_);refine Kd.R_lit Kd.string _ 9 ?hg (N:=8) ?hd (xs:=([(⟨#[91,40,34,102,40,34,40,50,60,40,46,40,34,97,97,97,97,44,34,40,95,34,98,98,98,98,34,41,41,41,62,40,46,34,41,34,41,41,41,93]⟩:ByteArray),(⟨#[40,34,97,34,40,95,40,34,98,34,40,95,34,99,34,41,41,41,41]⟩:ByteArray),(⟨#[91,40,34,97,97,34,40,95,91,40,34,98,98,34,40,95,34,99,99,34,41,41,93,41,41,93]⟩:ByteArray),(⟨#[51,60,91,40,34,120,61,49,34,40,95,34,121,34,41,41,93,62]⟩:ByteArray),(⟨#[40,34,123,34,40,50,60,40,33,40,34,97,58,49,44,34,40,33,34,98,58,50,34,41,41,41,62,40,33,34,125,34,41,41,41]⟩:ByteArray),(⟨#[40,91,40,34,97,34,40,95,34,98,34,41,41,93,91,40,34,99,34,40,46,34,100,34,41,41,93,41]⟩:ByteArray),(⟨#[126]⟩:ByteArray),(⟨#[34,97,98,99,34]⟩:ByteArray)]:List ByteArray)) (inner:=[.string (⟨#[91,40,34,102,40,34,40,50,60,40,46,40,34,97,97,97,97,44,34,40,95,34,98,98,98,98,34,41,41,41,62,40,46,34,41,34,41,41,41,93]⟩:ByteArray),.string (⟨#[40,34,97,34,40,95,40,34,98,34,40,95,34,99,34,41,41,41,41]⟩:ByteArray),.string (⟨#[91,40,34,97,97,34,40,95,91,40,34,98,98,34,40,95,34,99,99,34,41,41,93,41,41,93]⟩:ByteArray),.string (⟨#[51,60,91,40,34,120,61,49,34,40,95,34,121,34,41,41,93,62]⟩:ByteArray),.string (⟨#[40,34,123,34,40,50,60,40,33,40,34,97,58,49,44,34,40,33,34,98,58,50,34,41,41,41,62,40,33,34,125,34,41,41,41]⟩:ByteArray),.string (⟨#[40,91,40,34,97,34,40,95,34,98,34,41,41,93,91,40,34,99,34,40,46,34,100,34,41,41,93,41]⟩:ByteArray),.string (⟨#[126]⟩:ByteArray),.string (⟨#[34,97,98,99,34]⟩:ByteArray)]) (ok:=fun _=>True) (okp:=fun _=>True) ?hr ?hp (fun _ hk=>hk) trivial (Below.refl _ _) (Nat.le_refl _) (by simp) ?_;(case hd=>rfl);(case hg=>rfl);(case hr=>first|(go_simp;done)|(go_simp;rfl));(case hp=>exact (Reps.one (show Kd.M Kd.string _ _ _ (⟨#[91,40,34,102,40,34,40,50,60,40,46,40,34,97,97,97,97,44,34,40,95,34,98,98,98,98,34,41,41,41,62,40,46,34,41,34,41,41,41,93]⟩:ByteArray) [.string (⟨#[91,40,34,102,40,34,40,50,60,40,46,40,34,97,97,97,97,44,34,40,95,34,98,98,98,98,34,41,41,41,62,40,46,34,41,34,41,41,41,93]⟩:ByteArray)] from rfl) (Reps.one (show Kd.M Kd.string _ _ _ (⟨#[40,34,97,34,40,95,40,34,98,34,40,95,34,99,34,41,41,41,41]⟩:ByteArray) [.string (⟨#[40,34,97,34,40,95,40,34,98,34,40,95,34,99,34,41,41,41,41]⟩:ByteArray)] from rfl) (Reps.one (show Kd.M Kd.string _ _ _ (⟨#[91,40,34,97,97,34,40,95,91,40,34,98,98,34,40,95,34,99,99,34,41,41,93,41,41,93]⟩:ByteArray) [.string (⟨#[91,40,34,97,97,34,40,95,91,40,34,98,98,34,40,95,34,99,99,34,41,41,93,41,41,93]⟩:ByteArray)] from rfl) (Reps.one (show Kd.M Kd.string _ _ _ (⟨#[51,60,91,40,34,120,61,49,34,40,95,34,121,34,41,41,93,62]⟩:ByteArray) [.string (⟨#[51,60,91,40,34,120,61,49,34,40,95,34,121,34,41,41,93,62]⟩:ByteArray)] from rfl) (Reps.one (show Kd.M Kd.string _ _ _ (⟨#[40,34,123,34,40,50,60,40,33,40,34,97,58,49,44,34,40,33,34,98,58,50,34,41,41,41,62,40,33,34,125,34,41,41,41]⟩:ByteArray) [.string (⟨#[40,34,123,34,40,50,60,40,33,40,34,97,58,49,44,34,40,33,34,98,58,50,34,41,41,41,62,40,33,34,125,34,41,41,41]⟩:ByteArray)] from rfl) (Reps.one (show Kd.M Kd.string _ _ _ (⟨#[40,91,40,34,97,34,40,95,34,98,34,41,41,93,91,40,34,99,34,40,46,34,100,34,41,41,93,41]⟩:ByteArray) [.string (⟨#[40,91,40,34,97,34,40,95,34,98,34,41,41,93,91,40,34,99,34,40,46,34,100,34,41,41,93,41]⟩:ByteArray)] from rfl) (Reps.one (show Kd.M Kd.string _ _ _ (⟨#[126]⟩:ByteArray) [.string (⟨#[126]⟩:ByteArray)] from rfl) (Reps.one (show Kd.M Kd.string _ _ _ (⟨#[34,97,98,99,34]⟩:ByteArray) [.string (⟨#[34,97,98,99,34]⟩:ByteArray)] from rfl) (Reps.none _ _))))))))));intro v447 w3 ho4 hb hg_ hnew_;clear hg_ hnew_;(first|rw [← Ny446.out] at ho4|(simp only [Int.reduceToNat] at ho4;rw [← Ny446.out] at ho4));have n0_:=Aside0.mk (Kd.R_lower (Kd.R_newM (M:=fun k_=>(w.heap.size≤k_)) ho4 (keep_size (w:=w) (g:=g) (row:=none) (by repeat (first|exact gW HK|apply KeepBut.set_|refine keep_far ?_ GW445.out _))) (fun k_ h_=>h_)) (keep_size (w:=w) (g:=g) (row:=none) (by repeat (first|exact gW HK|apply KeepBut.set_|refine keep_far ?_ GW445.out _))));have n1_:=Aside0.mk (IsS66.below (by repeat (first|(with_reducible first|exact HI0.out|apply IsS66.alloc|apply IsS66.drewN|apply IsS66.drew|apply IsS66.set_1|refine IsS66.far ?_ NB0_445.out _)|exact HI0.out)) hb);have n2_:=Aside0.mk (blk_below (g:=gb445) (o:=.cells #[.int .i64 0,.int .i64 0,.string (⟨#[]⟩:ByteArray),.slice none 0 0] 27 (0,0)) (gK BK445) hb);have n3_:=Aside0.mk (KeepBut.trans (by repeat (first|exact gW HK|apply KeepBut.set_|refine keep_far ?_ GW445.out _)) (KeepBut.of_below hb g none) (.inl rfl));have n4_:=Aside0.mk (below_step (by repeat (first|exact gB HB|refine below_set ?_ (IsS66.ge HI0.out)|refine below_set ?_ GE445.out)) hb);clear HI0;clear BK445;clear HK;clear HB;have HO448:=n0_;have HI0:=n1_;have BK445:=n2_;have HK:=n3_;have HB:=n4_;clear n0_ n1_ n2_ n3_ n4_;clear hb ho4))
 go_loopg [4] k (fun kq v4 w'=>∃ (x4_1:Int) (x1001_1:Int) (x446000_1:Int) (x446001_1:Int) (x446002_1:ByteArray),v4=.int .i64 x4_1∧Aside0 (spec_l1Draw.l0 kq y446 x4_1 s0_0 x1001_1=some (r1,r2,r3,r4,r5))∧Aside0 (kq≤k)∧Aside0 (Kd.R Kd.string 9 w' w.heap.size (fun k_=>(w.heap.size≤k_)) v447 y446)∧Aside0 (w'.heap[gb445]?=some (.cells #[.int .i64 x446000_1,.int .i64 x446001_1,.string x446002_1,(.slice none 0 0)] 27 (0,0)))∧Aside0 (IsS66 w0 w' g s0_0 x1001_1)∧Aside0 (KeepBut w w' g none)∧Aside0 (Below w0.heap.size w0 w'))
 case atStart=>exact ⟨(0),(s0_1),(0),(0),((⟨#[]⟩:ByteArray)),(by first|rfl|(simp;done)|(simp [*];done)),H',⟨Nat.le_refl _⟩,⟨by (with_reducible repeat (first|apply Kd.R_alloc|apply Kd.R_drewN|apply Kd.R_drew));exact Kd.R_mono HO448.out (fun _ hk=>hk.1)⟩,⟨gK BK445⟩,⟨by repeat (first|(with_reducible first|exact HI0.out|apply IsS66.alloc|apply IsS66.drewN|apply IsS66.drew|apply IsS66.set_1|refine IsS66.far ?_ NB0_445.out _)|exact HI0.out)⟩,⟨by repeat (first|exact gW HK|apply KeepBut.set_|refine keep_far ?_ GW445.out _)⟩,⟨by repeat (first|exact gB HB|refine below_set ?_ (IsS66.ge HI0.out)|refine below_set ?_ GE445.out)⟩⟩
 case round =>
  clear H'
  try clear p2
  (try clear HO_3);(try clear BK445);(try clear HB)
  obtain ⟨x4_1,x1001_1,x446000_1,x446001_1,x446002_1,rfl,HA,HK1,HO_3,BK445,HI0,HK,HB⟩:=hrel
  cases gk with
  | zero=>exact absurd HA.out (by simp [spec_l1Draw.l0])
  | succ k1 =>
   have H:=HA.out
   clear HA
   simp only [spec_l1Draw.l0] at H
   by_cases c5:x4_1 < 3
   ·rw [if_pos c5] at H
    have c5b0:decide (x4_1 < 3)=true:=decide_eq_true c5
    clear c5
    replace H:=Option.bind_eq_some_iff.mp H
    obtain ⟨⟨t449,t450⟩,A60,H⟩:=H
    replace H:(if t449=0 then ((spec_l15Rd_pick.f k1 s0_0 t450 (y446.length:Int)).bind fun bt451=>(if 0≤bt451.1 then (if bt451.1 < (y446.length:Int) then ((spec_ParseDoc.f k1 (rdOf ByteArray.empty y446 bt451.1)).bind fun bt454=>(if bt454.2.2.2.2=true then (some (bt454.1,bt454.2.1,bt454.2.2.1,bt454.2.2.2.1,bt451.2)) else (spec_l1Draw.j1 k1 y446 x4_1 s0_0 bt451.2))) else (none)) else (none))) else (spec_l1Draw.j1 k1 y446 x4_1 s0_0 t450))=some (r1,r2,r3,r4,r5):=H
    have A6:=Aside0.mk A60
    clear A60
    have HC7:=Aside0.mk H
    clear H
    go_upto_if 15 with (first|((with_reducible refine gate_callee (f:=55) rfl ?_);refine goesL_ (some 14) rfl rfl Try.func55 (by kernel_rfl) rfl #[.pointer (some ⟨g,0,none⟩),.int .i64 3] rfl (by (try simp only [List.map_toArray,List.map_cons,List.map_nil]);first|done|rfl|(simp only [List.length_drop,List.length_take];rfl)) ?_;(with_reducible refine (spec_l15Rd_pick.calls k1 g s0_0 x1001_1 3 t449 t450 w0 _ ?side1 ?side2 A6.out).mono ?_);(case side1=>repeat (first|(with_reducible first|exact HI0.out|apply IsS66.alloc|apply IsS66.drewN|apply IsS66.drew|apply IsS66.set_1|refine IsS66.far ?_ NB0_445.out _)|exact HI0.out));(case side2=>repeat (first|exact gB HB|refine below_set ?_ (IsS66.ge HI0.out)|refine below_set ?_ GE445.out));rintro e w8 ⟨rfl,hi,hb,hk⟩;refine ⟨_,rfl,?_⟩;have n0_:=Aside0.mk (Kd.R_mono (Kd.R_keep (IsS66.apart (show IsS66 w0 _ g s0_0 x1001_1 from by repeat (first|(with_reducible first|exact HI0.out|apply IsS66.alloc|apply IsS66.drewN|apply IsS66.drew|apply IsS66.set_1|refine IsS66.far ?_ NB0_445.out _)|exact HI0.out)) (gR HO_3) (by decide)) hk (fun _ h=>h.2)) (fun _ h=>h.1));have n1_:=Aside0.mk (KeepBut.blk hk (g':=gb445) (o:=.cells #[.int .i64 x446000_1,.int .i64 x446001_1,.string x446002_1,.slice none 0 0] 27 (0,0)) (gK BK445) NB445_0.out (by simp));have n2_:=Aside0.mk (KeepBut.trans (by repeat (first|exact gW HK|apply KeepBut.set_|refine keep_far ?_ GW445.out _)) hk (.inl rfl));have n3_:=Aside0.mk (hb);have n4_:=Aside0.mk (hi);clear HO_3;clear BK445;clear HK;clear HB;clear HI0;have HO_3:=n0_;have BK445:=n1_;have HK:=n2_;have HB:=n3_;have HI0:=n4_;clear n0_ n1_ n2_ n3_ n4_;(try clear hb);(try clear hb2);(try clear hk);(try clear hi)))
    (try simp only [Act.put,List.setIfInBounds_toArray,List.set_cons_zero,List.set_cons_succ])
    go_cut [] (fun wc=>∃ (kq:Nat) (x1001_6:Int) (x446000_6:Int) (x446001_6:Int) (x446002_6:ByteArray),Aside0 (spec_l1Draw.j1 kq y446 x4_1 s0_0 x1001_6=some (r1,r2,r3,r4,r5))∧Aside0 (kq≤k1)∧Aside0 (Kd.R Kd.string 9 wc w.heap.size (fun k_=>(w.heap.size≤k_)) v447 y446)∧Aside0 (wc.heap[gb445]?=some (.cells #[.int .i64 x446000_6,.int .i64 x446001_6,.string x446002_6,(.slice none 0 0)] 27 (0,0)))∧Aside0 (IsS66 w0 wc g s0_0 x1001_6)∧Aside0 (KeepBut w wc g none)∧Aside0 (Below w0.heap.size w0 wc))
    case first =>
     have H:=HC7.out
     clear HC7
     by_cases c9:t449=0
     ·rw [if_pos c9] at H
      have c9b0:(t449 == 0)=true:=beq_iff_eq.mpr c9
      have c9b1:(t449 != 0)=false:=bne_eq_false_iff_eq.mpr c9
      clear c9
      (first|rw [c9b0]|(simp only [i64_w,i32_w];rw [c9b0])|skip)
      replace H:=Option.bind_eq_some_iff.mp H
      obtain ⟨⟨t451,t452⟩,A100,H⟩:=H
      replace H:(if 0≤t451 then (if t451 < (y446.length:Int) then ((spec_ParseDoc.f k1 (rdOf ByteArray.empty y446 t451)).bind fun bt454=>(if bt454.2.2.2.2=true then (some (bt454.1,bt454.2.1,bt454.2.2.1,bt454.2.2.2.1,t452)) else (spec_l1Draw.j1 k1 y446 x4_1 s0_0 t452))) else (none)) else (none))=some (r1,r2,r3,r4,r5):=H
      have A10:=Aside0.mk A100
      clear A100
      by_cases c11:0≤t451
      ·rw [if_pos c11] at H
       have c11b0:decide (0≤t451)=true:=decide_eq_true c11
       clear c11
       by_cases c12:t451 < (y446.length:Int)
       ·rw [if_pos c12] at H
        have c12b0:decide (t451 < (y446.length:Int))=true:=decide_eq_true c12
        clear c12
        replace H:=Option.bind_eq_some_iff.mp H
        obtain ⟨⟨t454,t455,t456,t457,t460⟩,A130,H⟩:=H
        replace H:(if t460=true then (some (t454,t455,t456,t457,t452)) else (spec_l1Draw.j1 k1 y446 x4_1 s0_0 t452))=some (r1,r2,r3,r4,r5):=H
        have A13:=Aside0.mk A130
        clear A130
        by_cases c14:t460=true
        ·subst c14
         have H1:(some (t454,t455,t456,t457,t452))=some (r1,r2,r3,r4,r5):=by rw [if_pos rfl] at H;exact H
         clear H
         have H:=H1
         clear H1
         simp only [Option.some.injEq,Prod.mk.injEq] at H
         obtain ⟨rfl,rfl,rfl,rfl,rfl⟩:=H
         obtain ⟨Ao15,co15,eo15⟩:=Kd.R_slice HO_3.out
         subst eo15
         go_wp2_with (first|((with_reducible refine gate_callee (f:=55) rfl ?_);refine goesL_ (some 21) rfl rfl Try.func55 (by kernel_rfl) rfl #[.pointer (some ⟨g,0,none⟩),.int .i64 (y446.length:Int)] rfl (by (try simp only [List.map_toArray,List.map_cons,List.map_nil]);first|done|rfl|(simp only [List.length_drop,List.length_take];rfl)) ?_;(with_reducible refine (spec_l15Rd_pick.calls k1 g s0_0 t450 (y446.length:Int) t451 t452 w0 _ ?side1 ?side2 A10.out).mono ?_);(case side1=>repeat (first|(with_reducible first|exact HI0.out|apply IsS66.alloc|apply IsS66.drewN|apply IsS66.drew|apply IsS66.set_1|refine IsS66.far ?_ NB0_445.out _)|exact HI0.out));(case side2=>repeat (first|exact gB HB|refine below_set ?_ (IsS66.ge HI0.out)|refine below_set ?_ GE445.out));rintro e w16 ⟨rfl,hi,hb,hk⟩;refine ⟨_,rfl,?_⟩;have n0_:=Aside0.mk (Kd.R_mono (Kd.R_keep (IsS66.apart (show IsS66 w0 _ g s0_0 t450 from by repeat (first|(with_reducible first|exact HI0.out|apply IsS66.alloc|apply IsS66.drewN|apply IsS66.drew|apply IsS66.set_1|refine IsS66.far ?_ NB0_445.out _)|exact HI0.out)) (gR HO_3) (by decide)) hk (fun _ h=>h.2)) (fun _ h=>h.1));have n1_:=Aside0.mk (KeepBut.blk hk (g':=gb445) (o:=.cells #[.int .i64 x446000_1,.int .i64 x446001_1,.string x446002_1,.slice none 0 0] 27 (0,0)) (gK BK445) NB445_0.out (by simp));have n2_:=Aside0.mk (KeepBut.trans (by repeat (first|exact gW HK|apply KeepBut.set_|refine keep_far ?_ GW445.out _)) hk (.inl rfl));have n3_:=Aside0.mk (hb);have n4_:=Aside0.mk (hi);clear HO_3;clear BK445;clear HK;clear HB;clear HI0;have HO_3:=n0_;have BK445:=n1_;have HK:=n2_;have HB:=n3_;have HI0:=n4_;clear n0_ n1_ n2_ n3_ n4_;(try clear hb);(try clear hb2);(try clear hk);(try clear hi);have p453:0≤(t451:Int):=of_decide_eq_true (by first|(with_reducible assumption)|assumption);have q453:t451 < (y446.length:Int):=of_decide_eq_true (by first|(with_reducible assumption)|assumption);obtain ⟨ad453,e453,hx453_0⟩:=Kd.at_string (Kd.R_reads' HO_3.out).2.2 t451 p453 q453;cases e453;replace p453:=eq_true p453;replace q453:=eq_true q453)|((with_reducible refine gate_callee (f:=43) rfl ?_);refine goesL_ (some 24) rfl rfl Try.func43 (by kernel_rfl) rfl #[.string (rdOf ByteArray.empty y446 t451)] rfl (by (try simp only [List.map_toArray,List.map_cons,List.map_nil]);first|done|rfl|(simp only [List.length_drop,List.length_take];rfl)) ?_;(with_reducible refine (spec_ParseDoc.calls k1 (rdOf ByteArray.empty y446 t451) t454 t455 t456 t457 true _ A13.out).mono ?_);rintro e w17 ⟨v458,rfl,ho0,hb⟩;refine ⟨_,rfl,?_⟩;have n0_:=Aside0.mk (Kd.R_below (gR HO_3) hb);have n1_:=Aside0.mk (Kd.N_lower (Kd.N_mono (ok':=fun k_=>(w.heap.size≤k_)∧some k_ ≠ (.slice (some ad453) y446.length co15:Value).ownBlock∧k_ ≠ gb445∧k_ ≠ g) (Kd.R_N (Kd.R_bound ho0)) (fun k_ hk_=>⟨(Nat.le_trans (keep_size (w:=w) (g:=g) (row:=none) (by repeat (first|exact gW HK|apply KeepBut.set_|refine keep_far ?_ GW445.out _))) hk_.2.1),(Kd.fresh' (Kd.R_lt (gR HO_3)) k_ hk_.2.1),(Kd.freshB (g:=gb445) (o:=.cells #[.int .i64 x446000_1,.int .i64 x446001_1,.string x446002_1,.slice none 0 0] 27 (0,0)) (gK BK445) k_ hk_.2.1),(IsS66.fresh (by repeat (first|(with_reducible first|exact HI0.out|apply IsS66.alloc|apply IsS66.drewN|apply IsS66.drew|apply IsS66.set_1|refine IsS66.far ?_ NB0_445.out _)|exact HI0.out)) k_ hk_.2.1)⟩)) (keep_size (w:=w) (g:=g) (row:=none) (by repeat (first|exact gW HK|apply KeepBut.set_|refine keep_far ?_ GW445.out _))));have n2_:=Aside0.mk (blk_below (g:=gb445) (o:=.cells #[.int .i64 x446000_1,.int .i64 x446001_1,.string x446002_1,.slice none 0 0] 27 (0,0)) (gK BK445) hb);have n3_:=Aside0.mk (IsS66.below (by repeat (first|(with_reducible first|exact HI0.out|apply IsS66.alloc|apply IsS66.drewN|apply IsS66.drew|apply IsS66.set_1|refine IsS66.far ?_ NB0_445.out _)|exact HI0.out)) hb);have n4_:=Aside0.mk (KeepBut.trans (by repeat (first|exact gW HK|apply KeepBut.set_|refine keep_far ?_ GW445.out _)) (KeepBut.of_below hb g none) (.inl rfl));have n5_:=Aside0.mk (below_step (by repeat (first|exact gB HB|refine below_set ?_ (IsS66.ge HI0.out)|refine below_set ?_ GE445.out)) hb);clear HO_3;clear BK445;clear HI0;clear HK;clear HB;have HO_3:=n0_;have HO459:=n1_;have BK445:=n2_;have HI0:=n3_;have HK:=n4_;have HB:=n5_;clear n0_ n1_ n2_ n3_ n4_ n5_;(try clear hb);(try clear hb2);(try clear hk);(try clear hi);(try clear ho0))|((with_reducible refine gate_dst (N:=5) rfl ?_);refine box_event ?hg (N:=5) ?hd (cs:=#[.int .i64 0,.int .i64 0,.string (⟨#[]⟩:ByteArray),.slice none 0 0]) (t:=27) ?hr ?_;(case hd=>rfl);(case hg=>rfl);(case hr=>first|(go_simp;done)|(go_simp;rfl));intro gb461 hg w18 hbox hb;have n0_:=Aside0.mk (Kd.R_below (gR HO_3) hb);have n1_:=Aside0.mk (Kd.N_below (Kd.N_elderB (gN HO459) gb461 (Nat.le_of_eq hg.symm)) hb);have n2_:=Aside0.mk (blk_below (g:=gb445) (o:=.cells #[.int .i64 x446000_1,.int .i64 x446001_1,.string x446002_1,.slice none 0 0] 27 (0,0)) (gK BK445) hb);have n3_:=Aside0.mk (IsS66.below (by repeat (first|(with_reducible first|exact HI0.out|apply IsS66.alloc|apply IsS66.drewN|apply IsS66.drew|apply IsS66.set_1|refine IsS66.far ?_ NB0_445.out _)|exact HI0.out)) hb);have n4_:=Aside0.mk (KeepBut.trans (by repeat (first|exact gW HK|apply KeepBut.set_|refine keep_far ?_ GW445.out _)) (KeepBut.of_below hb g none) (.inl rfl));have n5_:=Aside0.mk (below_step (by repeat (first|exact gB HB|refine below_set ?_ (IsS66.ge HI0.out)|refine below_set ?_ GE445.out)) hb);have n6_:=Aside0.mk (hbox);have n7_:=Aside0.mk ((by rw [hg];exact (keep_size (w:=w) (g:=g) (row:=none) (by repeat (first|exact gW HK|apply KeepBut.set_|refine keep_far ?_ GW445.out _))):w.heap.size≤gb461));have n8_:=Aside0.mk ((Nat.le_trans HW0.out (by rw [hg];exact (keep_size (w:=w) (g:=g) (row:=none) (by repeat (first|exact gW HK|apply KeepBut.set_|refine keep_far ?_ GW445.out _))):w.heap.size≤gb461):w0.heap.size≤gb461));have n9_:=Aside0.mk ((by rw [hg];exact Nat.ne_of_lt (blk_lt (g:=gb445) (o:=.cells #[.int .i64 x446000_1,.int .i64 x446001_1,.string x446002_1,.slice none 0 0] 27 (0,0)) (gK BK445)):gb445 ≠ gb461));have n10_:=Aside0.mk ((by rw [hg];exact Nat.ne_of_gt (blk_lt (g:=gb445) (o:=.cells #[.int .i64 x446000_1,.int .i64 x446001_1,.string x446002_1,.slice none 0 0] 27 (0,0)) (gK BK445)):gb461 ≠ gb445));have n11_:=Aside0.mk ((by rw [hg];exact Nat.ne_of_lt (IsS66.lt (show IsS66 w0 _ g s0_0 t452 from by repeat (first|(with_reducible first|exact HI0.out|apply IsS66.alloc|apply IsS66.drewN|apply IsS66.drew|apply IsS66.set_1|refine IsS66.far ?_ NB0_445.out _)|exact HI0.out))):g ≠ gb461));have n12_:=Aside0.mk ((by rw [hg];exact Nat.ne_of_gt (IsS66.lt (show IsS66 w0 _ g s0_0 t452 from by repeat (first|(with_reducible first|exact HI0.out|apply IsS66.alloc|apply IsS66.drewN|apply IsS66.drew|apply IsS66.set_1|refine IsS66.far ?_ NB0_445.out _)|exact HI0.out))):gb461 ≠ g));clear HO_3;clear HO459;clear BK445;clear HI0;clear HK;clear HB;have HO_3:=n0_;have HO459:=n1_;have BK445:=n2_;have HI0:=n3_;have HK:=n4_;have HB:=n5_;have BK461:=n6_;have GW461:=n7_;have GE461:=n8_;have NB445_461:=n9_;have NB461_445:=n10_;have NB0_461:=n11_;have NB461_0:=n12_;clear n0_ n1_ n2_ n3_ n4_ n5_ n6_ n7_ n8_ n9_ n10_ n11_ n12_;clear hb hbox hg;have hnb19:=NB461_445.out;have hnc19:=NB445_461.out;have hnb20:=NB461_0.out;have hnc20:=NB0_461.out;have hcz21_0:w18.cell? ⟨gb461,0,none⟩=some (.int .i64 0):=(blk_cell BK461.out 0).trans rfl;have hcz21_1:w18.cell? ⟨gb461,1,none⟩=some (.int .i64 0):=(blk_cell BK461.out 1).trans rfl;have hcz21_2:w18.cell? ⟨gb461,2,none⟩=some (.string (⟨#[]⟩:ByteArray)):=(blk_cell BK461.out 2).trans rfl;have hcz21_3:w18.cell? ⟨gb461,3,none⟩=some (.slice none 0 0):=(blk_cell BK461.out 3).trans rfl;have hfz21_0:=blk_frozen BK461.out 0;have hfz21_1:=blk_frozen BK461.out 1;have hfz21_2:=blk_frozen BK461.out 2;have hfz21_3:=blk_frozen BK461.out 3;obtain ⟨Ao22,co22,eo22⟩:=Kd.N_slice HO459.out;subst eo22;have hnb23:=NB445_0.out;have hnc23:=NB0_445.out;have hcz24_0:w18.cell? ⟨gb445,0,none⟩=some (.int .i64 x446000_1):=(blk_cell BK445.out 0).trans rfl;have hcz24_1:w18.cell? ⟨gb445,1,none⟩=some (.int .i64 x446001_1):=(blk_cell BK445.out 1).trans rfl;have hcz24_2:w18.cell? ⟨gb445,2,none⟩=some (.string x446002_1):=(blk_cell BK445.out 2).trans rfl;have hcz24_3:w18.cell? ⟨gb445,3,none⟩=some (.slice none 0 0):=(blk_cell BK445.out 3).trans rfl;have hfz24_0:=blk_frozen BK445.out 0;have hfz24_1:=blk_frozen BK445.out 1;have hfz24_2:=blk_frozen BK445.out 2;have hfz24_3:=blk_frozen BK445.out 3))
         refine bodyPost_ret (results_cell_row rfl _ _ gb445 27 #[.int .i64 t454,.int .i64 t455,.string t456,.slice Ao22 t457.length co22] (0,0) _ rfl (by (with_reducible repeat (first|refine blk_drewN ?_ _|refine blk_drew ?_|refine blk_alloc ?_ _));refine blk_put (cs:=#[.int .i64 t454,.int .i64 t455,.string t456,.slice none 0 0]) ?_ 3 _ rfl;(with_reducible repeat (first|refine blk_drewN ?_ _|refine blk_drew ?_|refine blk_alloc ?_ _));refine blk_put (cs:=#[.int .i64 t454,.int .i64 t455,.string x446002_1,.slice none 0 0]) ?_ 2 _ rfl;(with_reducible repeat (first|refine blk_drewN ?_ _|refine blk_drew ?_|refine blk_alloc ?_ _));refine blk_put (cs:=#[.int .i64 t454,.int .i64 x446001_1,.string x446002_1,.slice none 0 0]) ?_ 1 _ rfl;(with_reducible repeat (first|refine blk_drewN ?_ _|refine blk_drew ?_|refine blk_alloc ?_ _));refine blk_put (cs:=#[.int .i64 x446000_1,.int .i64 x446001_1,.string x446002_1,.slice none 0 0]) ?_ 0 _ rfl;(with_reducible repeat (first|refine blk_drewN ?_ _|refine blk_drew ?_|refine blk_alloc ?_ _));refine blk_far ?_ NB445_461.out _;(with_reducible repeat (first|refine blk_drewN ?_ _|refine blk_drew ?_|refine blk_alloc ?_ _));refine blk_far ?_ NB445_461.out _;(with_reducible repeat (first|refine blk_drewN ?_ _|refine blk_drew ?_|refine blk_alloc ?_ _));refine blk_far ?_ NB445_461.out _;(with_reducible repeat (first|refine blk_drewN ?_ _|refine blk_drew ?_|refine blk_alloc ?_ _));refine blk_far ?_ NB445_461.out _;(with_reducible repeat (first|refine blk_drewN ?_ _|refine blk_drew ?_|refine blk_alloc ?_ _));exact BK445.out) Try.underlying27 rfl (by kernel_rfl)) rfl ?_
         exact ⟨_,by first|rfl|(simp [errW_none,errW_some] <;> rfl)|(simp [*,errW_none,errW_some] <;> rfl),by (with_reducible repeat (first|apply Kd.N_alloc|apply Kd.N_drewN|apply Kd.N_drew));exact Kd.N_mono (Kd.N_far (p:=⟨gb445,3,none⟩) (Kd.N_far (p:=⟨gb445,2,none⟩) (Kd.N_far (p:=⟨gb445,1,none⟩) (Kd.N_far (p:=⟨gb445,0,none⟩) (Kd.N_far (p:=⟨gb461,3,none⟩) (Kd.N_far (p:=⟨gb461,2,none⟩) (Kd.N_far (p:=⟨gb461,1,none⟩) (Kd.N_far (p:=⟨gb461,0,none⟩) (Kd.N_mono (Kd.N_mono HO459.out (fun k_ hk=>(⟨hk,hk.2⟩:_∧k_ ≠ gb461))) (fun k_ hk=>(⟨hk,hk.1.1.2.2.1⟩:_∧k_ ≠ gb445))) (fun _ hk=>hk.1.2) (.int .i64 t454)) (fun _ hk=>hk.1.2) (.int .i64 t455)) (fun _ hk=>hk.1.2) (.string t456)) (fun _ hk=>hk.1.2) (.slice Ao22 t457.length co22)) (fun _ hk=>hk.2) (.int .i64 t454)) (fun _ hk=>hk.2) (.int .i64 t455)) (fun _ hk=>hk.2) (.string t456)) (fun _ hk=>hk.2) (.slice Ao22 t457.length co22)) (fun _ hk=>hk.1.1.1.1),by repeat (first|(with_reducible first|exact HI0.out|apply IsS66.alloc|apply IsS66.drewN|apply IsS66.drew|apply IsS66.set_1|refine IsS66.far ?_ NB0_445.out _|refine IsS66.far ?_ NB0_461.out _)|exact HI0.out),by repeat (first|exact gB HB|refine below_set ?_ (IsS66.ge HI0.out)|refine below_set ?_ GE445.out|refine below_set ?_ GE461.out),by repeat (first|exact gW HK|apply KeepBut.set_|refine keep_far ?_ GW445.out _|refine keep_far ?_ GW461.out _)⟩
        ·replace c14:=Bool.eq_false_iff.mpr c14
         subst c14
         have H1:(spec_l1Draw.j1 k1 y446 x4_1 s0_0 t452)=some (r1,r2,r3,r4,r5):=by rw [if_neg (show ¬ (false=true) by decide)] at H;exact H
         clear H
         have H:=H1
         clear H1
         have H':=Aside0.mk H
         clear H
         obtain ⟨Ao25,co25,eo25⟩:=Kd.R_slice HO_3.out
         subst eo25
         go_wp2_with (first|((with_reducible refine gate_callee (f:=55) rfl ?_);refine goesL_ (some 21) rfl rfl Try.func55 (by kernel_rfl) rfl #[.pointer (some ⟨g,0,none⟩),.int .i64 (y446.length:Int)] rfl (by (try simp only [List.map_toArray,List.map_cons,List.map_nil]);first|done|rfl|(simp only [List.length_drop,List.length_take];rfl)) ?_;(with_reducible refine (spec_l15Rd_pick.calls k1 g s0_0 t450 (y446.length:Int) t451 t452 w0 _ ?side1 ?side2 A10.out).mono ?_);(case side1=>repeat (first|(with_reducible first|exact HI0.out|apply IsS66.alloc|apply IsS66.drewN|apply IsS66.drew|apply IsS66.set_1|refine IsS66.far ?_ NB0_445.out _)|exact HI0.out));(case side2=>repeat (first|exact gB HB|refine below_set ?_ (IsS66.ge HI0.out)|refine below_set ?_ GE445.out));rintro e w26 ⟨rfl,hi,hb,hk⟩;refine ⟨_,rfl,?_⟩;have n0_:=Aside0.mk (Kd.R_mono (Kd.R_keep (IsS66.apart (show IsS66 w0 _ g s0_0 t450 from by repeat (first|(with_reducible first|exact HI0.out|apply IsS66.alloc|apply IsS66.drewN|apply IsS66.drew|apply IsS66.set_1|refine IsS66.far ?_ NB0_445.out _)|exact HI0.out)) (gR HO_3) (by decide)) hk (fun _ h=>h.2)) (fun _ h=>h.1));have n1_:=Aside0.mk (KeepBut.blk hk (g':=gb445) (o:=.cells #[.int .i64 x446000_1,.int .i64 x446001_1,.string x446002_1,.slice none 0 0] 27 (0,0)) (gK BK445) NB445_0.out (by simp));have n2_:=Aside0.mk (KeepBut.trans (by repeat (first|exact gW HK|apply KeepBut.set_|refine keep_far ?_ GW445.out _)) hk (.inl rfl));have n3_:=Aside0.mk (hb);have n4_:=Aside0.mk (hi);clear HO_3;clear BK445;clear HK;clear HB;clear HI0;have HO_3:=n0_;have BK445:=n1_;have HK:=n2_;have HB:=n3_;have HI0:=n4_;clear n0_ n1_ n2_ n3_ n4_;(try clear hb);(try clear hb2);(try clear hk);(try clear hi);have p453:0≤(t451:Int):=of_decide_eq_true (by first|(with_reducible assumption)|assumption);have q453:t451 < (y446.length:Int):=of_decide_eq_true (by first|(with_reducible assumption)|assumption);obtain ⟨ad453,e453,hx453_0⟩:=Kd.at_string (Kd.R_reads' HO_3.out).2.2 t451 p453 q453;cases e453;replace p453:=eq_true p453;replace q453:=eq_true q453)|((with_reducible refine gate_callee (f:=43) rfl ?_);refine goesL_ (some 24) rfl rfl Try.func43 (by kernel_rfl) rfl #[.string (rdOf ByteArray.empty y446 t451)] rfl (by (try simp only [List.map_toArray,List.map_cons,List.map_nil]);first|done|rfl|(simp only [List.length_drop,List.length_take];rfl)) ?_;(with_reducible refine (spec_ParseDoc.calls k1 (rdOf ByteArray.empty y446 t451) t454 t455 t456 t457 false _ A13.out).mono ?_);rintro e w27 ⟨v458,rfl,ho0,hb⟩;refine ⟨_,rfl,?_⟩;have n0_:=Aside0.mk (Kd.R_below (gR HO_3) hb);have n1_:=Aside0.mk (Kd.N_lower (Kd.N_mono (ok':=fun k_=>(w.heap.size≤k_)∧some k_ ≠ (.slice (some ad453) y446.length co25:Value).ownBlock∧k_ ≠ gb445∧k_ ≠ g) (Kd.R_N (Kd.R_bound ho0)) (fun k_ hk_=>⟨(Nat.le_trans (keep_size (w:=w) (g:=g) (row:=none) (by repeat (first|exact gW HK|apply KeepBut.set_|refine keep_far ?_ GW445.out _))) hk_.2.1),(Kd.fresh' (Kd.R_lt (gR HO_3)) k_ hk_.2.1),(Kd.freshB (g:=gb445) (o:=.cells #[.int .i64 x446000_1,.int .i64 x446001_1,.string x446002_1,.slice none 0 0] 27 (0,0)) (gK BK445) k_ hk_.2.1),(IsS66.fresh (by repeat (first|(with_reducible first|exact HI0.out|apply IsS66.alloc|apply IsS66.drewN|apply IsS66.drew|apply IsS66.set_1|refine IsS66.far ?_ NB0_445.out _)|exact HI0.out)) k_ hk_.2.1)⟩)) (keep_size (w:=w) (g:=g) (row:=none) (by repeat (first|exact gW HK|apply KeepBut.set_|refine keep_far ?_ GW445.out _))));have n2_:=Aside0.mk (blk_below (g:=gb445) (o:=.cells #[.int .i64 x446000_1,.int .i64 x446001_1,.string x446002_1,.slice none 0 0] 27 (0,0)) (gK BK445) hb);have n3_:=Aside0.mk (IsS66.below (by repeat (first|(with_reducible first|exact HI0.out|apply IsS66.alloc|apply IsS66.drewN|apply IsS66.drew|apply IsS66.set_1|refine IsS66.far ?_ NB0_445.out _)|exact HI0.out)) hb);have n4_:=Aside0.mk (KeepBut.trans (by repeat (first|exact gW HK|apply KeepBut.set_|refine keep_far ?_ GW445.out _)) (KeepBut.of_below hb g none) (.inl rfl));have n5_:=Aside0.mk (below_step (by repeat (first|exact gB HB|refine below_set ?_ (IsS66.ge HI0.out)|refine below_set ?_ GE445.out)) hb);clear HO_3;clear BK445;clear HI0;clear HK;clear HB;have HO_3:=n0_;have HO459:=n1_;have BK445:=n2_;have HI0:=n3_;have HK:=n4_;have HB:=n5_;clear n0_ n1_ n2_ n3_ n4_ n5_;(try clear hb);(try clear hb2);(try clear hk);(try clear hi);(try clear ho0))|((with_reducible refine gate_dst (N:=5) rfl ?_);refine box_event ?hg (N:=5) ?hd (cs:=#[.int .i64 0,.int .i64 0,.string (⟨#[]⟩:ByteArray),.slice none 0 0]) (t:=27) ?hr ?_;(case hd=>rfl);(case hg=>rfl);(case hr=>first|(go_simp;done)|(go_simp;rfl));intro gb461 hg w28 hbox hb;have n0_:=Aside0.mk (Kd.R_below (gR HO_3) hb);have n1_:=Aside0.mk (Kd.N_below (Kd.N_elderB (gN HO459) gb461 (Nat.le_of_eq hg.symm)) hb);have n2_:=Aside0.mk (blk_below (g:=gb445) (o:=.cells #[.int .i64 x446000_1,.int .i64 x446001_1,.string x446002_1,.slice none 0 0] 27 (0,0)) (gK BK445) hb);have n3_:=Aside0.mk (IsS66.below (by repeat (first|(with_reducible first|exact HI0.out|apply IsS66.alloc|apply IsS66.drewN|apply IsS66.drew|apply IsS66.set_1|refine IsS66.far ?_ NB0_445.out _)|exact HI0.out)) hb);have n4_:=Aside0.mk (KeepBut.trans (by repeat (first|exact gW HK|apply KeepBut.set_|refine keep_far ?_ GW445.out _)) (KeepBut.of_below hb g none) (.inl rfl));have n5_:=Aside0.mk (below_step (by repeat (first|exact gB HB|refine below_set ?_ (IsS66.ge HI0.out)|refine below_set ?_ GE445.out)) hb);have n6_:=Aside0.mk (hbox);have n7_:=Aside0.mk ((by rw [hg];exact (keep_size (w:=w) (g:=g) (row:=none) (by repeat (first|exact gW HK|apply KeepBut.set_|refine keep_far ?_ GW445.out _))):w.heap.size≤gb461));have n8_:=Aside0.mk ((Nat.le_trans HW0.out (by rw [hg];exact (keep_size (w:=w) (g:=g) (row:=none) (by repeat (first|exact gW HK|apply KeepBut.set_|refine keep_far ?_ GW445.out _))):w.heap.size≤gb461):w0.heap.size≤gb461));have n9_:=Aside0.mk ((by rw [hg];exact Nat.ne_of_lt (blk_lt (g:=gb445) (o:=.cells #[.int .i64 x446000_1,.int .i64 x446001_1,.string x446002_1,.slice none 0 0] 27 (0,0)) (gK BK445)):gb445 ≠ gb461));have n10_:=Aside0.mk ((by rw [hg];exact Nat.ne_of_gt (blk_lt (g:=gb445) (o:=.cells #[.int .i64 x446000_1,.int .i64 x446001_1,.string x446002_1,.slice none 0 0] 27 (0,0)) (gK BK445)):gb461 ≠ gb445));have n11_:=Aside0.mk ((by rw [hg];exact Nat.ne_of_lt (IsS66.lt (show IsS66 w0 _ g s0_0 t452 from by repeat (first|(with_reducible first|exact HI0.out|apply IsS66.alloc|apply IsS66.drewN|apply IsS66.drew|apply IsS66.set_1|refine IsS66.far ?_ NB0_445.out _)|exact HI0.out))):g ≠ gb461));have n12_:=Aside0.mk ((by rw [hg];exact Nat.ne_of_gt (IsS66.lt (show IsS66 w0 _ g s0_0 t452 from by repeat (first|(with_reducible first|exact HI0.out|apply IsS66.alloc|apply IsS66.drewN|apply IsS66.drew|apply IsS66.set_1|refine IsS66.far ?_ NB0_445.out _)|exact HI0.out))):gb461 ≠ g));clear HO_3;clear HO459;clear BK445;clear HI0;clear HK;clear HB;have HO_3:=n0_;have HO459:=n1_;have BK445:=n2_;have HI0:=n3_;have HK:=n4_;have HB:=n5_;have BK461:=n6_;have GW461:=n7_;have GE461:=n8_;have NB445_461:=n9_;have NB461_445:=n10_;have NB0_461:=n11_;have NB461_0:=n12_;clear n0_ n1_ n2_ n3_ n4_ n5_ n6_ n7_ n8_ n9_ n10_ n11_ n12_;clear hb hbox hg;have hnb29:=NB461_445.out;have hnc29:=NB445_461.out;have hnb30:=NB461_0.out;have hnc30:=NB0_461.out;have hcz31_0:w28.cell? ⟨gb461,0,none⟩=some (.int .i64 0):=(blk_cell BK461.out 0).trans rfl;have hcz31_1:w28.cell? ⟨gb461,1,none⟩=some (.int .i64 0):=(blk_cell BK461.out 1).trans rfl;have hcz31_2:w28.cell? ⟨gb461,2,none⟩=some (.string (⟨#[]⟩:ByteArray)):=(blk_cell BK461.out 2).trans rfl;have hcz31_3:w28.cell? ⟨gb461,3,none⟩=some (.slice none 0 0):=(blk_cell BK461.out 3).trans rfl;have hfz31_0:=blk_frozen BK461.out 0;have hfz31_1:=blk_frozen BK461.out 1;have hfz31_2:=blk_frozen BK461.out 2;have hfz31_3:=blk_frozen BK461.out 3;obtain ⟨Ao32,co32,eo32⟩:=Kd.N_slice HO459.out;subst eo32))
         go_meet
         case rel=>exact ⟨_,(t452),(x446000_1),(x446001_1),(x446002_1),H',⟨by have:=HK1.out;first|omega|exact Nat.le_refl _⟩,⟨by (with_reducible repeat (first|apply Kd.R_alloc|apply Kd.R_drewN|apply Kd.R_drew));exact Kd.R_mono (Kd.R_far (p:=⟨gb461,3,none⟩) (Kd.R_far (p:=⟨gb461,2,none⟩) (Kd.R_far (p:=⟨gb461,1,none⟩) (Kd.R_far (p:=⟨gb461,0,none⟩) (Kd.R_types HO_3.out BK461.out (by decide)) (fun _ hk=>hk.2) (.int .i64 t454)) (fun _ hk=>hk.2) (.int .i64 t455)) (fun _ hk=>hk.2) (.string t456)) (fun _ hk=>hk.2) (.slice Ao32 t457.length co32)) (fun _ hk=>hk.1)⟩,⟨by (with_reducible repeat (first|refine blk_drewN ?_ _|refine blk_drew ?_|refine blk_alloc ?_ _));refine blk_far ?_ NB445_461.out _;(with_reducible repeat (first|refine blk_drewN ?_ _|refine blk_drew ?_|refine blk_alloc ?_ _));refine blk_far ?_ NB445_461.out _;(with_reducible repeat (first|refine blk_drewN ?_ _|refine blk_drew ?_|refine blk_alloc ?_ _));refine blk_far ?_ NB445_461.out _;(with_reducible repeat (first|refine blk_drewN ?_ _|refine blk_drew ?_|refine blk_alloc ?_ _));refine blk_far ?_ NB445_461.out _;(with_reducible repeat (first|refine blk_drewN ?_ _|refine blk_drew ?_|refine blk_alloc ?_ _));exact BK445.out⟩,⟨by repeat (first|(with_reducible first|exact HI0.out|apply IsS66.alloc|apply IsS66.drewN|apply IsS66.drew|apply IsS66.set_1|refine IsS66.far ?_ NB0_445.out _|refine IsS66.far ?_ NB0_461.out _)|exact HI0.out)⟩,⟨by repeat (first|exact gW HK|apply KeepBut.set_|refine keep_far ?_ GW445.out _|refine keep_far ?_ GW461.out _)⟩,⟨by repeat (first|exact gB HB|refine below_set ?_ (IsS66.ge HI0.out)|refine below_set ?_ GE445.out|refine below_set ?_ GE461.out)⟩⟩
       ·rw [if_neg c12] at H
        exact absurd H (by simp)
      ·rw [if_neg c11] at H
       exact absurd H (by simp)
     ·rw [if_neg c9] at H
      have c9b0:(t449 == 0)=false:=beq_eq_false_iff_ne.mpr c9
      have c9b1:(t449 != 0)=true:=bne_iff_ne.mpr c9
      (first|rw [c9b0]|(simp only [i64_w,i32_w];rw [c9b0])|skip)
      have H':=Aside0.mk H
      clear H
      go_wp2
      go_meet
      case rel=>exact ⟨_,(t450),(x446000_1),(x446001_1),(x446002_1),H',⟨by have:=HK1.out;first|omega|exact Nat.le_refl _⟩,⟨gR HO_3⟩,⟨gK BK445⟩,⟨by repeat (first|(with_reducible first|exact HI0.out|apply IsS66.alloc|apply IsS66.drewN|apply IsS66.drew|apply IsS66.set_1|refine IsS66.far ?_ NB0_445.out _)|exact HI0.out)⟩,⟨by repeat (first|exact gW HK|apply KeepBut.set_|refine keep_far ?_ GW445.out _)⟩,⟨by repeat (first|exact gB HB|refine below_set ?_ (IsS66.ge HI0.out)|refine below_set ?_ GE445.out)⟩⟩
    case rest =>
     clear HC7
     try clear c1 c2 p2 c3 c4 p4 q4 hx4 c5 c5b0 c9 c9b0 c9b1 c11 c11b0 c12 c12b0 c14 c19 c20 c23 c29 c30 hcz21_0 hcz21_1 hcz21_2 hcz21_3 hcz24_0 hcz24_1 hcz24_2 hcz24_3 hcz31_0 hcz31_1 hcz31_2 hcz31_3 hfz21_0 hfz21_1 hfz21_2 hfz21_3 hfz24_0 hfz24_1 hfz24_2 hfz24_3 hfz31_0 hfz31_1 hfz31_2 hfz31_3 hx453_0 p2 p453 q453
     obtain ⟨kq,x1001_6,x446000_6,x446001_6,x446002_6,HA,HJ6,HO_3,BK445,HI0,HK,HB⟩:=hcut
     cases kq with
     | zero=>exact absurd HA.out (by simp [spec_l1Draw.j1])
     | succ kj6 =>
      have H:=HA.out
      clear HA
      simp only [spec_l1Draw.j1] at H
      obtain ⟨y462,hy462⟩:∃ y_:List Int,y_=(([4,3,5,2]:List Int)):=⟨_,rfl⟩
      replace H:((spec_l15Rd_num.f kj6 s0_0 x1001_6 y462).bind fun bt465=>((spec_l1Some.f kj6 s0_0 bt465.2 bt465.1).bind fun bt467=>((spec_DocValid.f kj6 bt467.1 bt467.2.1 bt467.2.2.1 bt467.2.2.2.1).bind fun t475=>(if t475=true then ((spec_l1Count.f kj6 bt467.1 bt467.2.1 bt467.2.2.1 bt467.2.2.2.1).bind fun t476=>(if t476≤40 then (some (bt467.1,bt467.2.1,bt467.2.2.1,bt467.2.2.2.1,bt467.2.2.2.2)) else (spec_l1Draw.l0 kj6 y446 (wrap64 (x4_1+1)) s0_0 bt467.2.2.2.2))) else (spec_l1Draw.l0 kj6 y446 (wrap64 (x4_1+1)) s0_0 bt467.2.2.2.2)))))=some (r1,r2,r3,r4,r5):=by first|(rw [hy462];with_reducible exact H)|(have H2_:=(Option.bind_some _ _).symm.trans H;rw [hy462];with_reducible exact H2_)|(have H2_:=(Option.bind_some _ _).symm.trans H;with_reducible exact H2_)|with_reducible exact H|(rw [hy462];exact H)|exact H
      have Ny462:=Aside0.mk hy462
      clear hy462
      replace H:=Option.bind_eq_some_iff.mp H
      obtain ⟨⟨t465,t466⟩,A330,H⟩:=H
      replace H:((spec_l1Some.f kj6 s0_0 t466 t465).bind fun bt467=>((spec_DocValid.f kj6 bt467.1 bt467.2.1 bt467.2.2.1 bt467.2.2.2.1).bind fun t475=>(if t475=true then ((spec_l1Count.f kj6 bt467.1 bt467.2.1 bt467.2.2.1 bt467.2.2.2.1).bind fun t476=>(if t476≤40 then (some (bt467.1,bt467.2.1,bt467.2.2.1,bt467.2.2.2.1,bt467.2.2.2.2)) else (spec_l1Draw.l0 kj6 y446 (wrap64 (x4_1+1)) s0_0 bt467.2.2.2.2))) else (spec_l1Draw.l0 kj6 y446 (wrap64 (x4_1+1)) s0_0 bt467.2.2.2.2))))=some (r1,r2,r3,r4,r5):=H
      have A33:=Aside0.mk A330
      clear A330
      replace H:=Option.bind_eq_some_iff.mp H
      obtain ⟨⟨t467,t468,t469,t470,t473⟩,A340,H⟩:=H
      replace H:((spec_DocValid.f kj6 t467 t468 t469 t470).bind fun t475=>(if t475=true then ((spec_l1Count.f kj6 t467 t468 t469 t470).bind fun t476=>(if t476≤40 then (some (t467,t468,t469,t470,t473)) else (spec_l1Draw.l0 kj6 y446 (wrap64 (x4_1+1)) s0_0 t473))) else (spec_l1Draw.l0 kj6 y446 (wrap64 (x4_1+1)) s0_0 t473)))=some (r1,r2,r3,r4,r5):=H
      have A34:=Aside0.mk A340
      clear A340
      replace H:=Option.bind_eq_some_iff.mp H
      obtain ⟨t475,A350,H⟩:=H
      replace H:(if t475=true then ((spec_l1Count.f kj6 t467 t468 t469 t470).bind fun t476=>(if t476≤40 then (some (t467,t468,t469,t470,t473)) else (spec_l1Draw.l0 kj6 y446 (wrap64 (x4_1+1)) s0_0 t473))) else (spec_l1Draw.l0 kj6 y446 (wrap64 (x4_1+1)) s0_0 t473))=some (r1,r2,r3,r4,r5):=H
      have A35:=Aside0.mk A350
      clear A350
      by_cases c36:t475=true
      ·subst c36
       have H1:((spec_l1Count.f kj6 t467 t468 t469 t470).bind fun t476=>(if t476≤40 then (some (t467,t468,t469,t470,t473)) else (spec_l1Draw.l0 kj6 y446 (wrap64 (x4_1+1)) s0_0 t473)))=some (r1,r2,r3,r4,r5):=by rw [if_pos rfl] at H;exact H
       clear H
       have H:=H1
       clear H1
       replace H:=Option.bind_eq_some_iff.mp H
       obtain ⟨t476,A370,H⟩:=H
       replace H:(if t476≤40 then (some (t467,t468,t469,t470,t473)) else (spec_l1Draw.l0 kj6 y446 (wrap64 (x4_1+1)) s0_0 t473))=some (r1,r2,r3,r4,r5):=H
       have A37:=Aside0.mk A370
       clear A370
       by_cases c38:t476≤40
       ·rw [if_pos c38] at H
        have c38b0:decide (t476≤40)=true:=decide_eq_true c38
        clear c38
        simp only [Option.some.injEq,Prod.mk.injEq] at H
        obtain ⟨rfl,rfl,rfl,rfl,rfl⟩:=H
        go_wp2_with (first|((with_reducible refine gate_dst (N:=31) rfl ?_);refine Kd.R_lit (Kd.int .i64) _ 3 ?hg (N:=31) ?hd (xs:=([4,3,5,2]:List Int)) (inner:=[.int .i64 4,.int .i64 3,.int .i64 5,.int .i64 2]) (ok:=fun _=>True) (okp:=fun _=>True) ?hr ?hp (fun _ hk=>hk) trivial (Below.refl _ _) (Nat.le_refl _) (by simp) ?_;(case hd=>rfl);(case hg=>rfl);(case hr=>first|(go_simp;done)|(go_simp;rfl));(case hp=>exact (Reps.one (show Kd.M (Kd.int .i64) _ _ _ 4 [.int .i64 4] from rfl) (Reps.one (show Kd.M (Kd.int .i64) _ _ _ 3 [.int .i64 3] from rfl) (Reps.one (show Kd.M (Kd.int .i64) _ _ _ 5 [.int .i64 5] from rfl) (Reps.one (show Kd.M (Kd.int .i64) _ _ _ 2 [.int .i64 2] from rfl) (Reps.none _ _))))));intro v463 w39 ho40 hb hg_ hnew_;clear hg_ hnew_;(first|rw [← Ny462.out] at ho40|(simp only [Int.reduceToNat] at ho40;rw [← Ny462.out] at ho40));have n0_:=Aside0.mk (Kd.R_below (gR HO_3) hb);have n1_:=Aside0.mk (Kd.R_lower (Kd.R_newM (M:=fun k_=>(w.heap.size≤k_)) ho40 (keep_size (w:=w) (g:=g) (row:=none) (by repeat (first|exact gW HK|apply KeepBut.set_|refine keep_far ?_ GW445.out _))) (fun k_ h_=>h_)) (keep_size (w:=w) (g:=g) (row:=none) (by repeat (first|exact gW HK|apply KeepBut.set_|refine keep_far ?_ GW445.out _))));have n2_:=Aside0.mk (blk_below (g:=gb445) (o:=.cells #[.int .i64 x446000_6,.int .i64 x446001_6,.string x446002_6,.slice none 0 0] 27 (0,0)) (gK BK445) hb);have n3_:=Aside0.mk (IsS66.below (by repeat (first|(with_reducible first|exact HI0.out|apply IsS66.alloc|apply IsS66.drewN|apply IsS66.drew|apply IsS66.set_1|refine IsS66.far ?_ NB0_445.out _)|exact HI0.out)) hb);have n4_:=Aside0.mk (KeepBut.trans (by repeat (first|exact gW HK|apply KeepBut.set_|refine keep_far ?_ GW445.out _)) (KeepBut.of_below hb g none) (.inl rfl));have n5_:=Aside0.mk (below_step (by repeat (first|exact gB HB|refine below_set ?_ (IsS66.ge HI0.out)|refine below_set ?_ GE445.out)) hb);clear HO_3;clear BK445;clear HI0;clear HK;clear HB;have HO_3:=n0_;have HO464:=n1_;have BK445:=n2_;have HI0:=n3_;have HK:=n4_;have HB:=n5_;clear n0_ n1_ n2_ n3_ n4_ n5_;clear hb ho40;obtain ⟨Ao41,co41,eo41⟩:=Kd.R_slice HO464.out;subst eo41)|((with_reducible refine gate_callee (f:=49) rfl ?_);refine goesL_ (some 32) rfl rfl Try.func49 (by kernel_rfl) rfl #[.pointer (some ⟨g,0,none⟩),.slice Ao41 y462.length co41] rfl (by (try simp only [List.map_toArray,List.map_cons,List.map_nil]);first|done|rfl|(simp only [List.length_drop,List.length_take];rfl)) ?_;(with_reducible refine (spec_l15Rd_num.calls kj6 g s0_0 x1001_6 _ _ y462 t465 t466 w0 _ ?side1 ?side2 ?side3 ?side4 ?side5 A33.out).mono ?_);(case side1=>repeat (first|(with_reducible first|exact HI0.out|apply IsS66.alloc|apply IsS66.drewN|apply IsS66.drew|apply IsS66.set_1|refine IsS66.far ?_ NB0_445.out _)|exact HI0.out));(case side2=>repeat (first|exact gB HB|refine below_set ?_ (IsS66.ge HI0.out)|refine below_set ?_ GE445.out));(case side3=>exact gC ((Kd.R_reads' HO464.out).2.2));(case side4=>exact (Kd.R_reads' HO464.out).2.1);(case side5=>exact far_slice (IsS66.own_ne HI0.out HO464.out (by decide)));rintro e w42 ⟨rfl,hi,hb,hk⟩;refine ⟨_,rfl,?_⟩;have n0_:=Aside0.mk (Kd.R_mono (Kd.R_keep (IsS66.apart (show IsS66 w0 _ g s0_0 x1001_6 from by repeat (first|(with_reducible first|exact HI0.out|apply IsS66.alloc|apply IsS66.drewN|apply IsS66.drew|apply IsS66.set_1|refine IsS66.far ?_ NB0_445.out _)|exact HI0.out)) (gR HO_3) (by decide)) hk (fun _ h=>h.2)) (fun _ h=>h.1));have n1_:=Aside0.mk (KeepBut.blk hk (g':=gb445) (o:=.cells #[.int .i64 x446000_6,.int .i64 x446001_6,.string x446002_6,.slice none 0 0] 27 (0,0)) (gK BK445) NB445_0.out (by simp));have n2_:=Aside0.mk (Kd.R_mono (Kd.R_keep (IsS66.apart (show IsS66 w0 _ g s0_0 x1001_6 from by repeat (first|(with_reducible first|exact HI0.out|apply IsS66.alloc|apply IsS66.drewN|apply IsS66.drew|apply IsS66.set_1|refine IsS66.far ?_ NB0_445.out _)|exact HI0.out)) (gR HO464) (by decide)) hk (fun _ h=>h.2)) (fun _ h=>h.1));have n3_:=Aside0.mk (KeepBut.trans (by repeat (first|exact gW HK|apply KeepBut.set_|refine keep_far ?_ GW445.out _)) hk (.inl rfl));have n4_:=Aside0.mk (hb);have n5_:=Aside0.mk (hi);clear HO_3;clear BK445;clear HO464;clear HK;clear HB;clear HI0;have HO_3:=n0_;have BK445:=n1_;have HO464:=n2_;have HK:=n3_;have HB:=n4_;have HI0:=n5_;clear n0_ n1_ n2_ n3_ n4_ n5_;(try clear hb);(try clear hb2);(try clear hk);(try clear hi))|((with_reducible refine gate_callee (f:=72) rfl ?_);refine goesL_ (some 33) rfl rfl Try.func72 (by kernel_rfl) rfl #[.pointer (some ⟨g,0,none⟩),.int .i64 t465] rfl (by (try simp only [List.map_toArray,List.map_cons,List.map_nil]);first|done|rfl|(simp only [List.length_drop,List.length_take];rfl)) ?_;(with_reducible refine (spec_l1Some.calls kj6 g s0_0 t466 t465 t467 t468 t469 t470 t473 w0 _ ?side1 ?side2 A34.out).mono ?_);(case side1=>repeat (first|(with_reducible first|exact HI0.out|apply IsS66.alloc|apply IsS66.drewN|apply IsS66.drew|apply IsS66.set_1|refine IsS66.far ?_ NB0_445.out _)|exact HI0.out));(case side2=>repeat (first|exact gB HB|refine below_set ?_ (IsS66.ge HI0.out)|refine below_set ?_ GE445.out));rintro e w43 ⟨v471,rfl,ho0,hi,hb,hk⟩;refine ⟨_,rfl,?_⟩;have n0_:=Aside0.mk (Kd.R_mono (Kd.R_keep (IsS66.apart (show IsS66 w0 _ g s0_0 t466 from by repeat (first|(with_reducible first|exact HI0.out|apply IsS66.alloc|apply IsS66.drewN|apply IsS66.drew|apply IsS66.set_1|refine IsS66.far ?_ NB0_445.out _)|exact HI0.out)) (gR HO_3) (by decide)) hk (fun _ h=>h.2)) (fun _ h=>h.1));have n1_:=Aside0.mk (KeepBut.blk hk (g':=gb445) (o:=.cells #[.int .i64 x446000_6,.int .i64 x446001_6,.string x446002_6,.slice none 0 0] 27 (0,0)) (gK BK445) NB445_0.out (by simp));have n2_:=Aside0.mk (Kd.R_mono (Kd.R_keep (IsS66.apart (show IsS66 w0 _ g s0_0 t466 from by repeat (first|(with_reducible first|exact HI0.out|apply IsS66.alloc|apply IsS66.drewN|apply IsS66.drew|apply IsS66.set_1|refine IsS66.far ?_ NB0_445.out _)|exact HI0.out)) (gR HO464) (by decide)) hk (fun _ h=>h.2)) (fun _ h=>h.1));have n3_:=Aside0.mk (Kd.N_lower (Kd.N_mono (ok':=fun k_=>(w.heap.size≤k_)∧some k_ ≠ (v447:Value).ownBlock∧some k_ ≠ (.slice Ao41 y462.length co41:Value).ownBlock∧k_ ≠ gb445∧k_ ≠ g) ho0 (fun k_ hk_=>⟨(Nat.le_trans (keep_size (w:=w) (g:=g) (row:=none) (by repeat (first|exact gW HK|apply KeepBut.set_|refine keep_far ?_ GW445.out _))) hk_),(Kd.fresh' (Kd.R_lt (gR HO_3)) k_ hk_),(Kd.fresh' (Kd.R_lt (gR HO464)) k_ hk_),(Kd.freshB (g:=gb445) (o:=.cells #[.int .i64 x446000_6,.int .i64 x446001_6,.string x446002_6,.slice none 0 0] 27 (0,0)) (gK BK445) k_ hk_),(IsS66.fresh (by repeat (first|(with_reducible first|exact HI0.out|apply IsS66.alloc|apply IsS66.drewN|apply IsS66.drew|apply IsS66.set_1|refine IsS66.far ?_ NB0_445.out _)|exact HI0.out)) k_ hk_)⟩)) (keep_size (w:=w) (g:=g) (row:=none) (by repeat (first|exact gW HK|apply KeepBut.set_|refine keep_far ?_ GW445.out _))));have n4_:=Aside0.mk (KeepBut.trans (by repeat (first|exact gW HK|apply KeepBut.set_|refine keep_far ?_ GW445.out _)) hk (.inl rfl));have n5_:=Aside0.mk (hb);have n6_:=Aside0.mk (hi);clear HO_3;clear BK445;clear HO464;clear HK;clear HB;clear HI0;have HO_3:=n0_;have BK445:=n1_;have HO464:=n2_;have HO472:=n3_;have HK:=n4_;have HB:=n5_;have HI0:=n6_;clear n0_ n1_ n2_ n3_ n4_ n5_ n6_;(try clear hb);(try clear hb2);(try clear hk);(try clear hi);(try clear ho0))|((with_reducible refine gate_dst (N:=7) rfl ?_);refine box_event ?hg (N:=7) ?hd (cs:=#[.int .i64 0,.int .i64 0,.string (⟨#[]⟩:ByteArray),.slice none 0 0]) (t:=27) ?hr ?_;(case hd=>rfl);(case hg=>rfl);(case hr=>first|(go_simp;done)|(go_simp;rfl));intro gb474 hg w44 hbox hb;have n0_:=Aside0.mk (Kd.R_below (gR HO_3) hb);have n1_:=Aside0.mk (Kd.R_below (gR HO464) hb);have n2_:=Aside0.mk (Kd.N_below (Kd.N_elderB (gN HO472) gb474 (Nat.le_of_eq hg.symm)) hb);have n3_:=Aside0.mk (blk_below (g:=gb445) (o:=.cells #[.int .i64 x446000_6,.int .i64 x446001_6,.string x446002_6,.slice none 0 0] 27 (0,0)) (gK BK445) hb);have n4_:=Aside0.mk (IsS66.below (by repeat (first|(with_reducible first|exact HI0.out|apply IsS66.alloc|apply IsS66.drewN|apply IsS66.drew|apply IsS66.set_1|refine IsS66.far ?_ NB0_445.out _)|exact HI0.out)) hb);have n5_:=Aside0.mk (KeepBut.trans (by repeat (first|exact gW HK|apply KeepBut.set_|refine keep_far ?_ GW445.out _)) (KeepBut.of_below hb g none) (.inl rfl));have n6_:=Aside0.mk (below_step (by repeat (first|exact gB HB|refine below_set ?_ (IsS66.ge HI0.out)|refine below_set ?_ GE445.out)) hb);have n7_:=Aside0.mk (hbox);have n8_:=Aside0.mk ((by rw [hg];exact (keep_size (w:=w) (g:=g) (row:=none) (by repeat (first|exact gW HK|apply KeepBut.set_|refine keep_far ?_ GW445.out _))):w.heap.size≤gb474));have n9_:=Aside0.mk ((Nat.le_trans HW0.out (by rw [hg];exact (keep_size (w:=w) (g:=g) (row:=none) (by repeat (first|exact gW HK|apply KeepBut.set_|refine keep_far ?_ GW445.out _))):w.heap.size≤gb474):w0.heap.size≤gb474));have n10_:=Aside0.mk ((by rw [hg];exact Nat.ne_of_lt (blk_lt (g:=gb445) (o:=.cells #[.int .i64 x446000_6,.int .i64 x446001_6,.string x446002_6,.slice none 0 0] 27 (0,0)) (gK BK445)):gb445 ≠ gb474));have n11_:=Aside0.mk ((by rw [hg];exact Nat.ne_of_gt (blk_lt (g:=gb445) (o:=.cells #[.int .i64 x446000_6,.int .i64 x446001_6,.string x446002_6,.slice none 0 0] 27 (0,0)) (gK BK445)):gb474 ≠ gb445));have n12_:=Aside0.mk ((by rw [hg];exact Nat.ne_of_lt (IsS66.lt (show IsS66 w0 _ g s0_0 t473 from by repeat (first|(with_reducible first|exact HI0.out|apply IsS66.alloc|apply IsS66.drewN|apply IsS66.drew|apply IsS66.set_1|refine IsS66.far ?_ NB0_445.out _)|exact HI0.out))):g ≠ gb474));have n13_:=Aside0.mk ((by rw [hg];exact Nat.ne_of_gt (IsS66.lt (show IsS66 w0 _ g s0_0 t473 from by repeat (first|(with_reducible first|exact HI0.out|apply IsS66.alloc|apply IsS66.drewN|apply IsS66.drew|apply IsS66.set_1|refine IsS66.far ?_ NB0_445.out _)|exact HI0.out))):gb474 ≠ g));clear HO_3;clear HO464;clear HO472;clear BK445;clear HI0;clear HK;clear HB;have HO_3:=n0_;have HO464:=n1_;have HO472:=n2_;have BK445:=n3_;have HI0:=n4_;have HK:=n5_;have HB:=n6_;have BK474:=n7_;have GW474:=n8_;have GE474:=n9_;have NB445_474:=n10_;have NB474_445:=n11_;have NB0_474:=n12_;have NB474_0:=n13_;clear n0_ n1_ n2_ n3_ n4_ n5_ n6_ n7_ n8_ n9_ n10_ n11_ n12_ n13_;clear hb hbox hg;have hnb45:=NB474_445.out;have hnc45:=NB445_474.out;have hnb46:=NB474_0.out;have hnc46:=NB0_474.out;have hcz47_0:w44.cell? ⟨gb474,0,none⟩=some (.int .i64 0):=(blk_cell BK474.out 0).trans rfl;have hcz47_1:w44.cell? ⟨gb474,1,none⟩=some (.int .i64 0):=(blk_cell BK474.out 1).trans rfl;have hcz47_2:w44.cell? ⟨gb474,2,none⟩=some (.string (⟨#[]⟩:ByteArray)):=(blk_cell BK474.out 2).trans rfl;have hcz47_3:w44.cell? ⟨gb474,3,none⟩=some (.slice none 0 0):=(blk_cell BK474.out 3).trans rfl;have hfz47_0:=blk_frozen BK474.out 0;have hfz47_1:=blk_frozen BK474.out 1;have hfz47_2:=blk_frozen BK474.out 2;have hfz47_3:=blk_frozen BK474.out 3;obtain ⟨Ao48,co48,eo48⟩:=Kd.N_slice HO472.out;subst eo48)|((with_reducible refine gate_callee (f:=25) rfl ?_);refine goesL_ (some 35) rfl rfl Try.func25 (by kernel_rfl) rfl #[.agg #[.int .i64 t467,.int .i64 t468,.string t469,.slice Ao48 t470.length co48]] rfl (by (try simp only [List.map_toArray,List.map_cons,List.map_nil]);first|done|rfl|(simp only [List.length_drop,List.length_take];rfl)) ?_;(with_reducible refine (spec_DocValid.calls kj6 t467 t468 t469 _ _ t470 true _ ?side1 ?side2 A35.out).mono ?_);(case side1=>exact (Kd.N_reads' (e:=27) (base:=w.heap.size) (n:=t470.length) (c:=co48) (by (with_reducible repeat (first|apply Kd.N_alloc|apply Kd.N_drewN|apply Kd.N_drew));exact (Kd.N_mono (Kd.N_far (p:=⟨gb474,3,none⟩) (Kd.N_far (p:=⟨gb474,2,none⟩) (Kd.N_far (p:=⟨gb474,1,none⟩) (Kd.N_far (p:=⟨gb474,0,none⟩) (Kd.N_mono HO472.out (fun k_ hk=>(⟨hk,hk.2⟩:_∧k_ ≠ gb474))) (fun _ hk=>hk.2) (.int .i64 t467)) (fun _ hk=>hk.2) (.int .i64 t468)) (fun _ hk=>hk.2) (.string t469)) (fun _ hk=>hk.2) (.slice Ao48 t470.length co48)) (fun _ h_=>h_.1)))).2.2);(case side2=>exact (Kd.N_reads' HO472.out).2.1);rintro e w49 ⟨rfl,hb⟩;refine ⟨_,rfl,?_⟩;have n0_:=Aside0.mk (Kd.R_below (by (with_reducible repeat (first|apply Kd.R_alloc|apply Kd.R_drewN|apply Kd.R_drew));exact (Kd.R_mono (Kd.R_far (p:=⟨gb474,3,none⟩) (Kd.R_far (p:=⟨gb474,2,none⟩) (Kd.R_far (p:=⟨gb474,1,none⟩) (Kd.R_far (p:=⟨gb474,0,none⟩) (Kd.R_types HO_3.out BK474.out (by decide)) (fun _ hk=>hk.2) (.int .i64 t467)) (fun _ hk=>hk.2) (.int .i64 t468)) (fun _ hk=>hk.2) (.string t469)) (fun _ hk=>hk.2) (.slice Ao48 t470.length co48)) (fun _ h_=>h_.1))) hb);have n1_:=Aside0.mk (Kd.R_below (by (with_reducible repeat (first|apply Kd.R_alloc|apply Kd.R_drewN|apply Kd.R_drew));exact (Kd.R_mono (Kd.R_far (p:=⟨gb474,3,none⟩) (Kd.R_far (p:=⟨gb474,2,none⟩) (Kd.R_far (p:=⟨gb474,1,none⟩) (Kd.R_far (p:=⟨gb474,0,none⟩) (Kd.R_types HO464.out BK474.out (by decide)) (fun _ hk=>hk.2) (.int .i64 t467)) (fun _ hk=>hk.2) (.int .i64 t468)) (fun _ hk=>hk.2) (.string t469)) (fun _ hk=>hk.2) (.slice Ao48 t470.length co48)) (fun _ h_=>h_.1))) hb);have n2_:=Aside0.mk (Kd.N_below (by (with_reducible repeat (first|apply Kd.N_alloc|apply Kd.N_drewN|apply Kd.N_drew));exact (Kd.N_mono (Kd.N_far (p:=⟨gb474,3,none⟩) (Kd.N_far (p:=⟨gb474,2,none⟩) (Kd.N_far (p:=⟨gb474,1,none⟩) (Kd.N_far (p:=⟨gb474,0,none⟩) (Kd.N_mono HO472.out (fun k_ hk=>(⟨hk,hk.2⟩:_∧k_ ≠ gb474))) (fun _ hk=>hk.2) (.int .i64 t467)) (fun _ hk=>hk.2) (.int .i64 t468)) (fun _ hk=>hk.2) (.string t469)) (fun _ hk=>hk.2) (.slice Ao48 t470.length co48)) (fun _ h_=>h_.1))) hb);have n3_:=Aside0.mk (blk_below (g:=gb445) (o:=.cells #[.int .i64 x446000_6,.int .i64 x446001_6,.string x446002_6,.slice none 0 0] 27 (0,0)) (by (with_reducible repeat (first|refine blk_drewN ?_ _|refine blk_drew ?_|refine blk_alloc ?_ _));refine blk_far ?_ NB445_474.out _;(with_reducible repeat (first|refine blk_drewN ?_ _|refine blk_drew ?_|refine blk_alloc ?_ _));refine blk_far ?_ NB445_474.out _;(with_reducible repeat (first|refine blk_drewN ?_ _|refine blk_drew ?_|refine blk_alloc ?_ _));refine blk_far ?_ NB445_474.out _;(with_reducible repeat (first|refine blk_drewN ?_ _|refine blk_drew ?_|refine blk_alloc ?_ _));refine blk_far ?_ NB445_474.out _;(with_reducible repeat (first|refine blk_drewN ?_ _|refine blk_drew ?_|refine blk_alloc ?_ _));exact BK445.out) hb);have n4_:=Aside0.mk (IsS66.below (show IsS66 w0 ((((w44.setCell ⟨gb474,0,none⟩ (.int .i64 t467)).setCell ⟨gb474,1,none⟩ (.int .i64 t468)).setCell ⟨gb474,2,none⟩ (.string t469)).setCell ⟨gb474,3,none⟩ (.slice Ao48 t470.length co48)) g s0_0 t473 from by repeat (first|(with_reducible first|exact HI0.out|apply IsS66.alloc|apply IsS66.drewN|apply IsS66.drew|apply IsS66.set_1|refine IsS66.far ?_ NB0_445.out _|refine IsS66.far ?_ NB0_474.out _)|exact HI0.out)) hb);have n5_:=Aside0.mk (blk_below (g:=gb474) (o:=.cells #[.int .i64 t467,.int .i64 t468,.string t469,.slice Ao48 t470.length co48] 27 (0,0)) (by (with_reducible repeat (first|refine blk_drewN ?_ _|refine blk_drew ?_|refine blk_alloc ?_ _));refine blk_put (cs:=#[.int .i64 t467,.int .i64 t468,.string t469,.slice none 0 0]) ?_ 3 _ rfl;(with_reducible repeat (first|refine blk_drewN ?_ _|refine blk_drew ?_|refine blk_alloc ?_ _));refine blk_put (cs:=#[.int .i64 t467,.int .i64 t468,.string (⟨#[]⟩:ByteArray),.slice none 0 0]) ?_ 2 _ rfl;(with_reducible repeat (first|refine blk_drewN ?_ _|refine blk_drew ?_|refine blk_alloc ?_ _));refine blk_put (cs:=#[.int .i64 t467,.int .i64 0,.string (⟨#[]⟩:ByteArray),.slice none 0 0]) ?_ 1 _ rfl;(with_reducible repeat (first|refine blk_drewN ?_ _|refine blk_drew ?_|refine blk_alloc ?_ _));refine blk_put (cs:=#[.int .i64 0,.int .i64 0,.string (⟨#[]⟩:ByteArray),.slice none 0 0]) ?_ 0 _ rfl;(with_reducible repeat (first|refine blk_drewN ?_ _|refine blk_drew ?_|refine blk_alloc ?_ _));exact BK474.out) hb);have n6_:=Aside0.mk (KeepBut.trans (by repeat (first|exact gW HK|apply KeepBut.set_|refine keep_far ?_ GW445.out _|refine keep_far ?_ GW474.out _)) (KeepBut.of_below hb g none) (.inl rfl));have n7_:=Aside0.mk (below_step (by repeat (first|exact gB HB|refine below_set ?_ (IsS66.ge HI0.out)|refine below_set ?_ GE445.out|refine below_set ?_ GE474.out)) hb);clear HO_3;clear HO464;clear HO472;clear BK445;clear HI0;clear BK474;clear HK;clear HB;have HO_3:=n0_;have HO464:=n1_;have HO472:=n2_;have BK445:=n3_;have HI0:=n4_;have BK474:=n5_;have HK:=n6_;have HB:=n7_;clear n0_ n1_ n2_ n3_ n4_ n5_ n6_ n7_;(try clear hb);(try clear hb2);(try clear hk);(try clear hi);have hcz50_0:w49.cell? ⟨gb474,0,none⟩=some (.int .i64 t467):=(blk_cell BK474.out 0).trans rfl;have hcz50_1:w49.cell? ⟨gb474,1,none⟩=some (.int .i64 t468):=(blk_cell BK474.out 1).trans rfl;have hcz50_2:w49.cell? ⟨gb474,2,none⟩=some (.string t469):=(blk_cell BK474.out 2).trans rfl;have hcz50_3:w49.cell? ⟨gb474,3,none⟩=some (.slice Ao48 t470.length co48):=(blk_cell BK474.out 3).trans rfl;have hfz50_0:=blk_frozen BK474.out 0;have hfz50_1:=blk_frozen BK474.out 1;have hfz50_2:=blk_frozen BK474.out 2;have hfz50_3:=blk_frozen BK474.out 3)|(go_at_call 54;(with_reducible refine (spec_l1Count.calls kj6 t467 t468 t469 _ _ t470 t476 _ ?side1 ?side2 A37.out).mono ?_);(case side1=>exact gC ((Kd.N_reads' HO472.out).2.2));(case side2=>exact (Kd.N_reads' HO472.out).2.1);rintro e w51 ⟨rfl,hb⟩;have n0_:=Aside0.mk (Kd.R_below (gR HO_3) hb);have n1_:=Aside0.mk (Kd.R_below (gR HO464) hb);have n2_:=Aside0.mk (Kd.N_below (gN HO472) hb);have n3_:=Aside0.mk (blk_below (g:=gb445) (o:=.cells #[.int .i64 x446000_6,.int .i64 x446001_6,.string x446002_6,.slice none 0 0] 27 (0,0)) (gK BK445) hb);have n4_:=Aside0.mk (IsS66.below (by repeat (first|(with_reducible first|exact HI0.out|apply IsS66.alloc|apply IsS66.drewN|apply IsS66.drew|apply IsS66.set_1|refine IsS66.far ?_ NB0_445.out _|refine IsS66.far ?_ NB0_474.out _)|exact HI0.out)) hb);have n5_:=Aside0.mk (blk_below (g:=gb474) (o:=.cells #[.int .i64 t467,.int .i64 t468,.string t469,.slice Ao48 t470.length co48] 27 (0,0)) (gK BK474) hb);have n6_:=Aside0.mk (KeepBut.trans (by repeat (first|exact gW HK|apply KeepBut.set_|refine keep_far ?_ GW445.out _|refine keep_far ?_ GW474.out _)) (KeepBut.of_below hb g none) (.inl rfl));have n7_:=Aside0.mk (below_step (by repeat (first|exact gB HB|refine below_set ?_ (IsS66.ge HI0.out)|refine below_set ?_ GE445.out|refine below_set ?_ GE474.out)) hb);clear HO_3;clear HO464;clear HO472;clear BK445;clear HI0;clear BK474;clear HK;clear HB;have HO_3:=n0_;have HO464:=n1_;have HO472:=n2_;have BK445:=n3_;have HI0:=n4_;have BK474:=n5_;have HK:=n6_;have HB:=n7_;clear n0_ n1_ n2_ n3_ n4_ n5_ n6_ n7_;(try clear hb);(try clear hb2);(try clear hk);(try clear hi);have hcz52_0:w51.cell? ⟨gb474,0,none⟩=some (.int .i64 t467):=(blk_cell BK474.out 0).trans rfl;have hcz52_1:w51.cell? ⟨gb474,1,none⟩=some (.int .i64 t468):=(blk_cell BK474.out 1).trans rfl;have hcz52_2:w51.cell? ⟨gb474,2,none⟩=some (.string t469):=(blk_cell BK474.out 2).trans rfl;have hcz52_3:w51.cell? ⟨gb474,3,none⟩=some (.slice Ao48 t470.length co48):=(blk_cell BK474.out 3).trans rfl;have hfz52_0:=blk_frozen BK474.out 0;have hfz52_1:=blk_frozen BK474.out 1;have hfz52_2:=blk_frozen BK474.out 2;have hfz52_3:=blk_frozen BK474.out 3;have hnb53:=NB445_0.out;have hnc53:=NB0_445.out;have hcz54_0:w51.cell? ⟨gb445,0,none⟩=some (.int .i64 x446000_6):=(blk_cell BK445.out 0).trans rfl;have hcz54_1:w51.cell? ⟨gb445,1,none⟩=some (.int .i64 x446001_6):=(blk_cell BK445.out 1).trans rfl;have hcz54_2:w51.cell? ⟨gb445,2,none⟩=some (.string x446002_6):=(blk_cell BK445.out 2).trans rfl;have hcz54_3:w51.cell? ⟨gb445,3,none⟩=some (.slice none 0 0):=(blk_cell BK445.out 3).trans rfl;have hfz54_0:=blk_frozen BK445.out 0;have hfz54_1:=blk_frozen BK445.out 1;have hfz54_2:=blk_frozen BK445.out 2;have hfz54_3:=blk_frozen BK445.out 3))
        refine bodyPost_ret (results_cell_row rfl _ _ gb445 27 #[.int .i64 t467,.int .i64 t468,.string t469,.slice Ao48 t470.length co48] (0,0) _ rfl (by (with_reducible repeat (first|refine blk_drewN ?_ _|refine blk_drew ?_|refine blk_alloc ?_ _));refine blk_put (cs:=#[.int .i64 t467,.int .i64 t468,.string t469,.slice none 0 0]) ?_ 3 _ rfl;(with_reducible repeat (first|refine blk_drewN ?_ _|refine blk_drew ?_|refine blk_alloc ?_ _));refine blk_put (cs:=#[.int .i64 t467,.int .i64 t468,.string x446002_6,.slice none 0 0]) ?_ 2 _ rfl;(with_reducible repeat (first|refine blk_drewN ?_ _|refine blk_drew ?_|refine blk_alloc ?_ _));refine blk_put (cs:=#[.int .i64 t467,.int .i64 x446001_6,.string x446002_6,.slice none 0 0]) ?_ 1 _ rfl;(with_reducible repeat (first|refine blk_drewN ?_ _|refine blk_drew ?_|refine blk_alloc ?_ _));refine blk_put (cs:=#[.int .i64 x446000_6,.int .i64 x446001_6,.string x446002_6,.slice none 0 0]) ?_ 0 _ rfl;(with_reducible repeat (first|refine blk_drewN ?_ _|refine blk_drew ?_|refine blk_alloc ?_ _));exact BK445.out) Try.underlying27 rfl (by kernel_rfl)) rfl ?_
        exact ⟨_,by first|rfl|(simp [errW_none,errW_some] <;> rfl)|(simp [*,errW_none,errW_some] <;> rfl),by (with_reducible repeat (first|apply Kd.N_alloc|apply Kd.N_drewN|apply Kd.N_drew));exact Kd.N_mono (Kd.N_far (p:=⟨gb445,3,none⟩) (Kd.N_far (p:=⟨gb445,2,none⟩) (Kd.N_far (p:=⟨gb445,1,none⟩) (Kd.N_far (p:=⟨gb445,0,none⟩) (Kd.N_mono HO472.out (fun k_ hk=>(⟨hk,hk.1.2.2.2.1⟩:_∧k_ ≠ gb445))) (fun _ hk=>hk.2) (.int .i64 t467)) (fun _ hk=>hk.2) (.int .i64 t468)) (fun _ hk=>hk.2) (.string t469)) (fun _ hk=>hk.2) (.slice Ao48 t470.length co48)) (fun _ hk=>hk.1.1.1),by repeat (first|(with_reducible first|exact HI0.out|apply IsS66.alloc|apply IsS66.drewN|apply IsS66.drew|apply IsS66.set_1|refine IsS66.far ?_ NB0_445.out _|refine IsS66.far ?_ NB0_474.out _)|exact HI0.out),by repeat (first|exact gB HB|refine below_set ?_ (IsS66.ge HI0.out)|refine below_set ?_ GE445.out|refine below_set ?_ GE474.out),by repeat (first|exact gW HK|apply KeepBut.set_|refine keep_far ?_ GW445.out _|refine keep_far ?_ GW474.out _)⟩
       ·rw [if_neg c38] at H
        have c38b0:decide (t476≤40)=false:=decide_eq_false c38
        clear c38
        have H':=Aside0.mk H
        clear H
        go_wp2_with (first|((with_reducible refine gate_dst (N:=31) rfl ?_);refine Kd.R_lit (Kd.int .i64) _ 3 ?hg (N:=31) ?hd (xs:=([4,3,5,2]:List Int)) (inner:=[.int .i64 4,.int .i64 3,.int .i64 5,.int .i64 2]) (ok:=fun _=>True) (okp:=fun _=>True) ?hr ?hp (fun _ hk=>hk) trivial (Below.refl _ _) (Nat.le_refl _) (by simp) ?_;(case hd=>rfl);(case hg=>rfl);(case hr=>first|(go_simp;done)|(go_simp;rfl));(case hp=>exact (Reps.one (show Kd.M (Kd.int .i64) _ _ _ 4 [.int .i64 4] from rfl) (Reps.one (show Kd.M (Kd.int .i64) _ _ _ 3 [.int .i64 3] from rfl) (Reps.one (show Kd.M (Kd.int .i64) _ _ _ 5 [.int .i64 5] from rfl) (Reps.one (show Kd.M (Kd.int .i64) _ _ _ 2 [.int .i64 2] from rfl) (Reps.none _ _))))));intro v463 w55 ho56 hb hg_ hnew_;clear hg_ hnew_;(first|rw [← Ny462.out] at ho56|(simp only [Int.reduceToNat] at ho56;rw [← Ny462.out] at ho56));have n0_:=Aside0.mk (Kd.R_below (gR HO_3) hb);have n1_:=Aside0.mk (Kd.R_lower (Kd.R_newM (M:=fun k_=>(w.heap.size≤k_)) ho56 (keep_size (w:=w) (g:=g) (row:=none) (by repeat (first|exact gW HK|apply KeepBut.set_|refine keep_far ?_ GW445.out _))) (fun k_ h_=>h_)) (keep_size (w:=w) (g:=g) (row:=none) (by repeat (first|exact gW HK|apply KeepBut.set_|refine keep_far ?_ GW445.out _))));have n2_:=Aside0.mk (blk_below (g:=gb445) (o:=.cells #[.int .i64 x446000_6,.int .i64 x446001_6,.string x446002_6,.slice none 0 0] 27 (0,0)) (gK BK445) hb);have n3_:=Aside0.mk (IsS66.below (by repeat (first|(with_reducible first|exact HI0.out|apply IsS66.alloc|apply IsS66.drewN|apply IsS66.drew|apply IsS66.set_1|refine IsS66.far ?_ NB0_445.out _)|exact HI0.out)) hb);have n4_:=Aside0.mk (KeepBut.trans (by repeat (first|exact gW HK|apply KeepBut.set_|refine keep_far ?_ GW445.out _)) (KeepBut.of_below hb g none) (.inl rfl));have n5_:=Aside0.mk (below_step (by repeat (first|exact gB HB|refine below_set ?_ (IsS66.ge HI0.out)|refine below_set ?_ GE445.out)) hb);clear HO_3;clear BK445;clear HI0;clear HK;clear HB;have HO_3:=n0_;have HO464:=n1_;have BK445:=n2_;have HI0:=n3_;have HK:=n4_;have HB:=n5_;clear n0_ n1_ n2_ n3_ n4_ n5_;clear hb ho56;obtain ⟨Ao57,co57,eo57⟩:=Kd.R_slice HO464.out;subst eo57)|((with_reducible refine gate_callee (f:=49) rfl ?_);refine goesL_ (some 32) rfl rfl Try.func49 (by kernel_rfl) rfl #[.pointer (some ⟨g,0,none⟩),.slice Ao57 y462.length co57] rfl (by (try simp only [List.map_toArray,List.map_cons,List.map_nil]);first|done|rfl|(simp only [List.length_drop,List.length_take];rfl)) ?_;(with_reducible refine (spec_l15Rd_num.calls kj6 g s0_0 x1001_6 _ _ y462 t465 t466 w0 _ ?side1 ?side2 ?side3 ?side4 ?side5 A33.out).mono ?_);(case side1=>repeat (first|(with_reducible first|exact HI0.out|apply IsS66.alloc|apply IsS66.drewN|apply IsS66.drew|apply IsS66.set_1|refine IsS66.far ?_ NB0_445.out _)|exact HI0.out));(case side2=>repeat (first|exact gB HB|refine below_set ?_ (IsS66.ge HI0.out)|refine below_set ?_ GE445.out));(case side3=>exact gC ((Kd.R_reads' HO464.out).2.2));(case side4=>exact (Kd.R_reads' HO464.out).2.1);(case side5=>exact far_slice (IsS66.own_ne HI0.out HO464.out (by decide)));rintro e w58 ⟨rfl,hi,hb,hk⟩;refine ⟨_,rfl,?_⟩;have n0_:=Aside0.mk (Kd.R_mono (Kd.R_keep (IsS66.apart (show IsS66 w0 _ g s0_0 x1001_6 from by repeat (first|(with_reducible first|exact HI0.out|apply IsS66.alloc|apply IsS66.drewN|apply IsS66.drew|apply IsS66.set_1|refine IsS66.far ?_ NB0_445.out _)|exact HI0.out)) (gR HO_3) (by decide)) hk (fun _ h=>h.2)) (fun _ h=>h.1));have n1_:=Aside0.mk (KeepBut.blk hk (g':=gb445) (o:=.cells #[.int .i64 x446000_6,.int .i64 x446001_6,.string x446002_6,.slice none 0 0] 27 (0,0)) (gK BK445) NB445_0.out (by simp));have n2_:=Aside0.mk (Kd.R_mono (Kd.R_keep (IsS66.apart (show IsS66 w0 _ g s0_0 x1001_6 from by repeat (first|(with_reducible first|exact HI0.out|apply IsS66.alloc|apply IsS66.drewN|apply IsS66.drew|apply IsS66.set_1|refine IsS66.far ?_ NB0_445.out _)|exact HI0.out)) (gR HO464) (by decide)) hk (fun _ h=>h.2)) (fun _ h=>h.1));have n3_:=Aside0.mk (KeepBut.trans (by repeat (first|exact gW HK|apply KeepBut.set_|refine keep_far ?_ GW445.out _)) hk (.inl rfl));have n4_:=Aside0.mk (hb);have n5_:=Aside0.mk (hi);clear HO_3;clear BK445;clear HO464;clear HK;clear HB;clear HI0;have HO_3:=n0_;have BK445:=n1_;have HO464:=n2_;have HK:=n3_;have HB:=n4_;have HI0:=n5_;clear n0_ n1_ n2_ n3_ n4_ n5_;(try clear hb);(try clear hb2);(try clear hk);(try clear hi))|((with_reducible refine gate_callee (f:=72) rfl ?_);refine goesL_ (some 33) rfl rfl Try.func72 (by kernel_rfl) rfl #[.pointer (some ⟨g,0,none⟩),.int .i64 t465] rfl (by (try simp only [List.map_toArray,List.map_cons,List.map_nil]);first|done|rfl|(simp only [List.length_drop,List.length_take];rfl)) ?_;(with_reducible refine (spec_l1Some.calls kj6 g s0_0 t466 t465 t467 t468 t469 t470 t473 w0 _ ?side1 ?side2 A34.out).mono ?_);(case side1=>repeat (first|(with_reducible first|exact HI0.out|apply IsS66.alloc|apply IsS66.drewN|apply IsS66.drew|apply IsS66.set_1|refine IsS66.far ?_ NB0_445.out _)|exact HI0.out));(case side2=>repeat (first|exact gB HB|refine below_set ?_ (IsS66.ge HI0.out)|refine below_set ?_ GE445.out));rintro e w59 ⟨v471,rfl,ho0,hi,hb,hk⟩;refine ⟨_,rfl,?_⟩;have n0_:=Aside0.mk (Kd.R_mono (Kd.R_keep (IsS66.apart (show IsS66 w0 _ g s0_0 t466 from by repeat (first|(with_reducible first|exact HI0.out|apply IsS66.alloc|apply IsS66.drewN|apply IsS66.drew|apply IsS66.set_1|refine IsS66.far ?_ NB0_445.out _)|exact HI0.out)) (gR HO_3) (by decide)) hk (fun _ h=>h.2)) (fun _ h=>h.1));have n1_:=Aside0.mk (KeepBut.blk hk (g':=gb445) (o:=.cells #[.int .i64 x446000_6,.int .i64 x446001_6,.string x446002_6,.slice none 0 0] 27 (0,0)) (gK BK445) NB445_0.out (by simp));have n2_:=Aside0.mk (Kd.R_mono (Kd.R_keep (IsS66.apart (show IsS66 w0 _ g s0_0 t466 from by repeat (first|(with_reducible first|exact HI0.out|apply IsS66.alloc|apply IsS66.drewN|apply IsS66.drew|apply IsS66.set_1|refine IsS66.far ?_ NB0_445.out _)|exact HI0.out)) (gR HO464) (by decide)) hk (fun _ h=>h.2)) (fun _ h=>h.1));have n3_:=Aside0.mk (Kd.N_lower (Kd.N_mono (ok':=fun k_=>(w.heap.size≤k_)∧some k_ ≠ (v447:Value).ownBlock∧some k_ ≠ (.slice Ao57 y462.length co57:Value).ownBlock∧k_ ≠ gb445∧k_ ≠ g) ho0 (fun k_ hk_=>⟨(Nat.le_trans (keep_size (w:=w) (g:=g) (row:=none) (by repeat (first|exact gW HK|apply KeepBut.set_|refine keep_far ?_ GW445.out _))) hk_),(Kd.fresh' (Kd.R_lt (gR HO_3)) k_ hk_),(Kd.fresh' (Kd.R_lt (gR HO464)) k_ hk_),(Kd.freshB (g:=gb445) (o:=.cells #[.int .i64 x446000_6,.int .i64 x446001_6,.string x446002_6,.slice none 0 0] 27 (0,0)) (gK BK445) k_ hk_),(IsS66.fresh (by repeat (first|(with_reducible first|exact HI0.out|apply IsS66.alloc|apply IsS66.drewN|apply IsS66.drew|apply IsS66.set_1|refine IsS66.far ?_ NB0_445.out _)|exact HI0.out)) k_ hk_)⟩)) (keep_size (w:=w) (g:=g) (row:=none) (by repeat (first|exact gW HK|apply KeepBut.set_|refine keep_far ?_ GW445.out _))));have n4_:=Aside0.mk (KeepBut.trans (by repeat (first|exact gW HK|apply KeepBut.set_|refine keep_far ?_ GW445.out _)) hk (.inl rfl));have n5_:=Aside0.mk (hb);have n6_:=Aside0.mk (hi);clear HO_3;clear BK445;clear HO464;clear HK;clear HB;clear HI0;have HO_3:=n0_;have BK445:=n1_;have HO464:=n2_;have HO472:=n3_;have HK:=n4_;have HB:=n5_;have HI0:=n6_;clear n0_ n1_ n2_ n3_ n4_ n5_ n6_;(try clear hb);(try clear hb2);(try clear hk);(try clear hi);(try clear ho0))|((with_reducible refine gate_dst (N:=7) rfl ?_);refine box_event ?hg (N:=7) ?hd (cs:=#[.int .i64 0,.int .i64 0,.string (⟨#[]⟩:ByteArray),.slice none 0 0]) (t:=27) ?hr ?_;(case hd=>rfl);(case hg=>rfl);(case hr=>first|(go_simp;done)|(go_simp;rfl));intro gb474 hg w60 hbox hb;have n0_:=Aside0.mk (Kd.R_below (gR HO_3) hb);have n1_:=Aside0.mk (Kd.R_below (gR HO464) hb);have n2_:=Aside0.mk (Kd.N_below (Kd.N_elderB (gN HO472) gb474 (Nat.le_of_eq hg.symm)) hb);have n3_:=Aside0.mk (blk_below (g:=gb445) (o:=.cells #[.int .i64 x446000_6,.int .i64 x446001_6,.string x446002_6,.slice none 0 0] 27 (0,0)) (gK BK445) hb);have n4_:=Aside0.mk (IsS66.below (by repeat (first|(with_reducible first|exact HI0.out|apply IsS66.alloc|apply IsS66.drewN|apply IsS66.drew|apply IsS66.set_1|refine IsS66.far ?_ NB0_445.out _)|exact HI0.out)) hb);have n5_:=Aside0.mk (KeepBut.trans (by repeat (first|exact gW HK|apply KeepBut.set_|refine keep_far ?_ GW445.out _)) (KeepBut.of_below hb g none) (.inl rfl));have n6_:=Aside0.mk (below_step (by repeat (first|exact gB HB|refine below_set ?_ (IsS66.ge HI0.out)|refine below_set ?_ GE445.out)) hb);have n7_:=Aside0.mk (hbox);have n8_:=Aside0.mk ((by rw [hg];exact (keep_size (w:=w) (g:=g) (row:=none) (by repeat (first|exact gW HK|apply KeepBut.set_|refine keep_far ?_ GW445.out _))):w.heap.size≤gb474));have n9_:=Aside0.mk ((Nat.le_trans HW0.out (by rw [hg];exact (keep_size (w:=w) (g:=g) (row:=none) (by repeat (first|exact gW HK|apply KeepBut.set_|refine keep_far ?_ GW445.out _))):w.heap.size≤gb474):w0.heap.size≤gb474));have n10_:=Aside0.mk ((by rw [hg];exact Nat.ne_of_lt (blk_lt (g:=gb445) (o:=.cells #[.int .i64 x446000_6,.int .i64 x446001_6,.string x446002_6,.slice none 0 0] 27 (0,0)) (gK BK445)):gb445 ≠ gb474));have n11_:=Aside0.mk ((by rw [hg];exact Nat.ne_of_gt (blk_lt (g:=gb445) (o:=.cells #[.int .i64 x446000_6,.int .i64 x446001_6,.string x446002_6,.slice none 0 0] 27 (0,0)) (gK BK445)):gb474 ≠ gb445));have n12_:=Aside0.mk ((by rw [hg];exact Nat.ne_of_lt (IsS66.lt (show IsS66 w0 _ g s0_0 t473 from by repeat (first|(with_reducible first|exact HI0.out|apply IsS66.alloc|apply IsS66.drewN|apply IsS66.drew|apply IsS66.set_1|refine IsS66.far ?_ NB0_445.out _)|exact HI0.out))):g ≠ gb474));have n13_:=Aside0.mk ((by rw [hg];exact Nat.ne_of_gt (IsS66.lt (show IsS66 w0 _ g s0_0 t473 from by repeat (first|(with_reducible first|exact HI0.out|apply IsS66.alloc|apply IsS66.drewN|apply IsS66.drew|apply IsS66.set_1|refine IsS66.far ?_ NB0_445.out _)|exact HI0.out))):gb474 ≠ g));clear HO_3;clear HO464;clear HO472;clear BK445;clear HI0;clear HK;clear HB;have HO_3:=n0_;have HO464:=n1_;have HO472:=n2_;have BK445:=n3_;have HI0:=n4_;have HK:=n5_;have HB:=n6_;have BK474:=n7_;have GW474:=n8_;have GE474:=n9_;have NB445_474:=n10_;have NB474_445:=n11_;have NB0_474:=n12_;have NB474_0:=n13_;clear n0_ n1_ n2_ n3_ n4_ n5_ n6_ n7_ n8_ n9_ n10_ n11_ n12_ n13_;clear hb hbox hg;have hnb61:=NB474_445.out;have hnc61:=NB445_474.out;have hnb62:=NB474_0.out;have hnc62:=NB0_474.out;have hcz63_0:w60.cell? ⟨gb474,0,none⟩=some (.int .i64 0):=(blk_cell BK474.out 0).trans rfl;have hcz63_1:w60.cell? ⟨gb474,1,none⟩=some (.int .i64 0):=(blk_cell BK474.out 1).trans rfl;have hcz63_2:w60.cell? ⟨gb474,2,none⟩=some (.string (⟨#[]⟩:ByteArray)):=(blk_cell BK474.out 2).trans rfl;have hcz63_3:w60.cell? ⟨gb474,3,none⟩=some (.slice none 0 0):=(blk_cell BK474.out 3).trans rfl;have hfz63_0:=blk_frozen BK474.out 0;have hfz63_1:=blk_frozen BK474.out 1;have hfz63_2:=blk_frozen BK474.out 2;have hfz63_3:=blk_frozen BK474.out 3;obtain ⟨Ao64,co64,eo64⟩:=Kd.N_slice HO472.out;subst eo64)|((with_reducible refine gate_callee (f:=25) rfl ?_);refine goesL_ (some 35) rfl rfl Try.func25 (by kernel_rfl) rfl #[.agg #[.int .i64 t467,.int .i64 t468,.string t469,.slice Ao64 t470.length co64]] rfl (by (try simp only [List.map_toArray,List.map_cons,List.map_nil]);first|done|rfl|(simp only [List.length_drop,List.length_take];rfl)) ?_;(with_reducible refine (spec_DocValid.calls kj6 t467 t468 t469 _ _ t470 true _ ?side1 ?side2 A35.out).mono ?_);(case side1=>exact (Kd.N_reads' (e:=27) (base:=w.heap.size) (n:=t470.length) (c:=co64) (by (with_reducible repeat (first|apply Kd.N_alloc|apply Kd.N_drewN|apply Kd.N_drew));exact (Kd.N_mono (Kd.N_far (p:=⟨gb474,3,none⟩) (Kd.N_far (p:=⟨gb474,2,none⟩) (Kd.N_far (p:=⟨gb474,1,none⟩) (Kd.N_far (p:=⟨gb474,0,none⟩) (Kd.N_mono HO472.out (fun k_ hk=>(⟨hk,hk.2⟩:_∧k_ ≠ gb474))) (fun _ hk=>hk.2) (.int .i64 t467)) (fun _ hk=>hk.2) (.int .i64 t468)) (fun _ hk=>hk.2) (.string t469)) (fun _ hk=>hk.2) (.slice Ao64 t470.length co64)) (fun _ h_=>h_.1)))).2.2);(case side2=>exact (Kd.N_reads' HO472.out).2.1);rintro e w65 ⟨rfl,hb⟩;refine ⟨_,rfl,?_⟩;have n0_:=Aside0.mk (Kd.R_below (by (with_reducible repeat (first|apply Kd.R_alloc|apply Kd.R_drewN|apply Kd.R_drew));exact (Kd.R_mono (Kd.R_far (p:=⟨gb474,3,none⟩) (Kd.R_far (p:=⟨gb474,2,none⟩) (Kd.R_far (p:=⟨gb474,1,none⟩) (Kd.R_far (p:=⟨gb474,0,none⟩) (Kd.R_types HO_3.out BK474.out (by decide)) (fun _ hk=>hk.2) (.int .i64 t467)) (fun _ hk=>hk.2) (.int .i64 t468)) (fun _ hk=>hk.2) (.string t469)) (fun _ hk=>hk.2) (.slice Ao64 t470.length co64)) (fun _ h_=>h_.1))) hb);have n1_:=Aside0.mk (Kd.R_below (by (with_reducible repeat (first|apply Kd.R_alloc|apply Kd.R_drewN|apply Kd.R_drew));exact (Kd.R_mono (Kd.R_far (p:=⟨gb474,3,none⟩) (Kd.R_far (p:=⟨gb474,2,none⟩) (Kd.R_far (p:=⟨gb474,1,none⟩) (Kd.R_far (p:=⟨gb474,0,none⟩) (Kd.R_types HO464.out BK474.out (by decide)) (fun _ hk=>hk.2) (.int .i64 t467)) (fun _ hk=>hk.2) (.int .i64 t468)) (fun _ hk=>hk.2) (.string t469)) (fun _ hk=>hk.2) (.slice Ao64 t470.length co64)) (fun _ h_=>h_.1))) hb);have n2_:=Aside0.mk (Kd.N_below (by (with_reducible repeat (first|apply Kd.N_alloc|apply Kd.N_drewN|apply Kd.N_drew));exact (Kd.N_mono (Kd.N_far (p:=⟨gb474,3,none⟩) (Kd.N_far (p:=⟨gb474,2,none⟩) (Kd.N_far (p:=⟨gb474,1,none⟩) (Kd.N_far (p:=⟨gb474,0,none⟩) (Kd.N_mono HO472.out (fun k_ hk=>(⟨hk,hk.2⟩:_∧k_ ≠ gb474))) (fun _ hk=>hk.2) (.int .i64 t467)) (fun _ hk=>hk.2) (.int .i64 t468)) (fun _ hk=>hk.2) (.string t469)) (fun _ hk=>hk.2) (.slice Ao64 t470.length co64)) (fun _ h_=>h_.1))) hb);have n3_:=Aside0.mk (blk_below (g:=gb445) (o:=.cells #[.int .i64 x446000_6,.int .i64 x446001_6,.string x446002_6,.slice none 0 0] 27 (0,0)) (by (with_reducible repeat (first|refine blk_drewN ?_ _|refine blk_drew ?_|refine blk_alloc ?_ _));refine blk_far ?_ NB445_474.out _;(with_reducible repeat (first|refine blk_drewN ?_ _|refine blk_drew ?_|refine blk_alloc ?_ _));refine blk_far ?_ NB445_474.out _;(with_reducible repeat (first|refine blk_drewN ?_ _|refine blk_drew ?_|refine blk_alloc ?_ _));refine blk_far ?_ NB445_474.out _;(with_reducible repeat (first|refine blk_drewN ?_ _|refine blk_drew ?_|refine blk_alloc ?_ _));refine blk_far ?_ NB445_474.out _;(with_reducible repeat (first|refine blk_drewN ?_ _|refine blk_drew ?_|refine blk_alloc ?_ _));exact BK445.out) hb);have n4_:=Aside0.mk (IsS66.below (show IsS66 w0 ((((w60.setCell ⟨gb474,0,none⟩ (.int .i64 t467)).setCell ⟨gb474,1,none⟩ (.int .i64 t468)).setCell ⟨gb474,2,none⟩ (.string t469)).setCell ⟨gb474,3,none⟩ (.slice Ao64 t470.length co64)) g s0_0 t473 from by repeat (first|(with_reducible first|exact HI0.out|apply IsS66.alloc|apply IsS66.drewN|apply IsS66.drew|apply IsS66.set_1|refine IsS66.far ?_ NB0_445.out _|refine IsS66.far ?_ NB0_474.out _)|exact HI0.out)) hb);have n5_:=Aside0.mk (blk_below (g:=gb474) (o:=.cells #[.int .i64 t467,.int .i64 t468,.string t469,.slice Ao64 t470.length co64] 27 (0,0)) (by (with_reducible repeat (first|refine blk_drewN ?_ _|refine blk_drew ?_|refine blk_alloc ?_ _));refine blk_put (cs:=#[.int .i64 t467,.int .i64 t468,.string t469,.slice none 0 0]) ?_ 3 _ rfl;(with_reducible repeat (first|refine blk_drewN ?_ _|refine blk_drew ?_|refine blk_alloc ?_ _));refine blk_put (cs:=#[.int .i64 t467,.int .i64 t468,.string (⟨#[]⟩:ByteArray),.slice none 0 0]) ?_ 2 _ rfl;(with_reducible repeat (first|refine blk_drewN ?_ _|refine blk_drew ?_|refine blk_alloc ?_ _));refine blk_put (cs:=#[.int .i64 t467,.int .i64 0,.string (⟨#[]⟩:ByteArray),.slice none 0 0]) ?_ 1 _ rfl;(with_reducible repeat (first|refine blk_drewN ?_ _|refine blk_drew ?_|refine blk_alloc ?_ _));refine blk_put (cs:=#[.int .i64 0,.int .i64 0,.string (⟨#[]⟩:ByteArray),.slice none 0 0]) ?_ 0 _ rfl;(with_reducible repeat (first|refine blk_drewN ?_ _|refine blk_drew ?_|refine blk_alloc ?_ _));exact BK474.out) hb);have n6_:=Aside0.mk (KeepBut.trans (by repeat (first|exact gW HK|apply KeepBut.set_|refine keep_far ?_ GW445.out _|refine keep_far ?_ GW474.out _)) (KeepBut.of_below hb g none) (.inl rfl));have n7_:=Aside0.mk (below_step (by repeat (first|exact gB HB|refine below_set ?_ (IsS66.ge HI0.out)|refine below_set ?_ GE445.out|refine below_set ?_ GE474.out)) hb);clear HO_3;clear HO464;clear HO472;clear BK445;clear HI0;clear BK474;clear HK;clear HB;have HO_3:=n0_;have HO464:=n1_;have HO472:=n2_;have BK445:=n3_;have HI0:=n4_;have BK474:=n5_;have HK:=n6_;have HB:=n7_;clear n0_ n1_ n2_ n3_ n4_ n5_ n6_ n7_;(try clear hb);(try clear hb2);(try clear hk);(try clear hi);have hcz66_0:w65.cell? ⟨gb474,0,none⟩=some (.int .i64 t467):=(blk_cell BK474.out 0).trans rfl;have hcz66_1:w65.cell? ⟨gb474,1,none⟩=some (.int .i64 t468):=(blk_cell BK474.out 1).trans rfl;have hcz66_2:w65.cell? ⟨gb474,2,none⟩=some (.string t469):=(blk_cell BK474.out 2).trans rfl;have hcz66_3:w65.cell? ⟨gb474,3,none⟩=some (.slice Ao64 t470.length co64):=(blk_cell BK474.out 3).trans rfl;have hfz66_0:=blk_frozen BK474.out 0;have hfz66_1:=blk_frozen BK474.out 1;have hfz66_2:=blk_frozen BK474.out 2;have hfz66_3:=blk_frozen BK474.out 3)|(go_at_call 54;(with_reducible refine (spec_l1Count.calls kj6 t467 t468 t469 _ _ t470 t476 _ ?side1 ?side2 A37.out).mono ?_);(case side1=>exact gC ((Kd.N_reads' HO472.out).2.2));(case side2=>exact (Kd.N_reads' HO472.out).2.1);rintro e w67 ⟨rfl,hb⟩;have n0_:=Aside0.mk (Kd.R_below (gR HO_3) hb);have n1_:=Aside0.mk (Kd.R_below (gR HO464) hb);have n2_:=Aside0.mk (Kd.N_below (gN HO472) hb);have n3_:=Aside0.mk (blk_below (g:=gb445) (o:=.cells #[.int .i64 x446000_6,.int .i64 x446001_6,.string x446002_6,.slice none 0 0] 27 (0,0)) (gK BK445) hb);have n4_:=Aside0.mk (IsS66.below (by repeat (first|(with_reducible first|exact HI0.out|apply IsS66.alloc|apply IsS66.drewN|apply IsS66.drew|apply IsS66.set_1|refine IsS66.far ?_ NB0_445.out _|refine IsS66.far ?_ NB0_474.out _)|exact HI0.out)) hb);have n5_:=Aside0.mk (blk_below (g:=gb474) (o:=.cells #[.int .i64 t467,.int .i64 t468,.string t469,.slice Ao64 t470.length co64] 27 (0,0)) (gK BK474) hb);have n6_:=Aside0.mk (KeepBut.trans (by repeat (first|exact gW HK|apply KeepBut.set_|refine keep_far ?_ GW445.out _|refine keep_far ?_ GW474.out _)) (KeepBut.of_below hb g none) (.inl rfl));have n7_:=Aside0.mk (below_step (by repeat (first|exact gB HB|refine below_set ?_ (IsS66.ge HI0.out)|refine below_set ?_ GE445.out|refine below_set ?_ GE474.out)) hb);clear HO_3;clear HO464;clear HO472;clear BK445;clear HI0;clear BK474;clear HK;clear HB;have HO_3:=n0_;have HO464:=n1_;have HO472:=n2_;have BK445:=n3_;have HI0:=n4_;have BK474:=n5_;have HK:=n6_;have HB:=n7_;clear n0_ n1_ n2_ n3_ n4_ n5_ n6_ n7_;(try clear hb);(try clear hb2);(try clear hk);(try clear hi)))
        go_roundg kj6
        case measure=>have:=HK1.out;have:=HJ6.out;omega
        case rel=>exact ⟨(wrap64 (x4_1+1)),(t473),(x446000_6),(x446001_6),(x446002_6),(by first|rfl|(simp;done)|(simp [*];done)),H',⟨by have:=HK1.out;have:=HJ6.out;omega⟩,⟨gR HO_3⟩,⟨gK BK445⟩,⟨by repeat (first|(with_reducible first|exact HI0.out|apply IsS66.alloc|apply IsS66.drewN|apply IsS66.drew|apply IsS66.set_1|refine IsS66.far ?_ NB0_445.out _|refine IsS66.far ?_ NB0_474.out _)|exact HI0.out)⟩,⟨by repeat (first|exact gW HK|apply KeepBut.set_|refine keep_far ?_ GW445.out _|refine keep_far ?_ GW474.out _)⟩,⟨by repeat (first|exact gB HB|refine below_set ?_ (IsS66.ge HI0.out)|refine below_set ?_ GE445.out|refine below_set ?_ GE474.out)⟩⟩
      ·replace c36:=Bool.eq_false_iff.mpr c36
       subst c36
       have H1:(spec_l1Draw.l0 kj6 y446 (wrap64 (x4_1+1)) s0_0 t473)=some (r1,r2,r3,r4,r5):=by rw [if_neg (show ¬ (false=true) by decide)] at H;exact H
       clear H
       have H:=H1
       clear H1
       have H':=Aside0.mk H
       clear H
       go_wp2_with (first|((with_reducible refine gate_dst (N:=31) rfl ?_);refine Kd.R_lit (Kd.int .i64) _ 3 ?hg (N:=31) ?hd (xs:=([4,3,5,2]:List Int)) (inner:=[.int .i64 4,.int .i64 3,.int .i64 5,.int .i64 2]) (ok:=fun _=>True) (okp:=fun _=>True) ?hr ?hp (fun _ hk=>hk) trivial (Below.refl _ _) (Nat.le_refl _) (by simp) ?_;(case hd=>rfl);(case hg=>rfl);(case hr=>first|(go_simp;done)|(go_simp;rfl));(case hp=>exact (Reps.one (show Kd.M (Kd.int .i64) _ _ _ 4 [.int .i64 4] from rfl) (Reps.one (show Kd.M (Kd.int .i64) _ _ _ 3 [.int .i64 3] from rfl) (Reps.one (show Kd.M (Kd.int .i64) _ _ _ 5 [.int .i64 5] from rfl) (Reps.one (show Kd.M (Kd.int .i64) _ _ _ 2 [.int .i64 2] from rfl) (Reps.none _ _))))));intro v463 w68 ho69 hb hg_ hnew_;clear hg_ hnew_;(first|rw [← Ny462.out] at ho69|(simp only [Int.reduceToNat] at ho69;rw [← Ny462.out] at ho69));have n0_:=Aside0.mk (Kd.R_below (gR HO_3) hb);have n1_:=Aside0.mk (Kd.R_lower (Kd.R_newM (M:=fun k_=>(w.heap.size≤k_)) ho69 (keep_size (w:=w) (g:=g) (row:=none) (by repeat (first|exact gW HK|apply KeepBut.set_|refine keep_far ?_ GW445.out _))) (fun k_ h_=>h_)) (keep_size (w:=w) (g:=g) (row:=none) (by repeat (first|exact gW HK|apply KeepBut.set_|refine keep_far ?_ GW445.out _))));have n2_:=Aside0.mk (blk_below (g:=gb445) (o:=.cells #[.int .i64 x446000_6,.int .i64 x446001_6,.string x446002_6,.slice none 0 0] 27 (0,0)) (gK BK445) hb);have n3_:=Aside0.mk (IsS66.below (by repeat (first|(with_reducible first|exact HI0.out|apply IsS66.alloc|apply IsS66.drewN|apply IsS66.drew|apply IsS66.set_1|refine IsS66.far ?_ NB0_445.out _)|exact HI0.out)) hb);have n4_:=Aside0.mk (KeepBut.trans (by repeat (first|exact gW HK|apply KeepBut.set_|refine keep_far ?_ GW445.out _)) (KeepBut.of_below hb g none) (.inl rfl));have n5_:=Aside0.mk (below_step (by repeat (first|exact gB HB|refine below_set ?_ (IsS66.ge HI0.out)|refine below_set ?_ GE445.out)) hb);clear HO_3;clear BK445;clear HI0;clear HK;clear HB;have HO_3:=n0_;have HO464:=n1_;have BK445:=n2_;have HI0:=n3_;have HK:=n4_;have HB:=n5_;clear n0_ n1_ n2_ n3_ n4_ n5_;clear hb ho69;obtain ⟨Ao70,co70,eo70⟩:=Kd.R_slice HO464.out;subst eo70)|((with_reducible refine gate_callee (f:=49) rfl ?_);refine goesL_ (some 32) rfl rfl Try.func49 (by kernel_rfl) rfl #[.pointer (some ⟨g,0,none⟩),.slice Ao70 y462.length co70] rfl (by (try simp only [List.map_toArray,List.map_cons,List.map_nil]);first|done|rfl|(simp only [List.length_drop,List.length_take];rfl)) ?_;(with_reducible refine (spec_l15Rd_num.calls kj6 g s0_0 x1001_6 _ _ y462 t465 t466 w0 _ ?side1 ?side2 ?side3 ?side4 ?side5 A33.out).mono ?_);(case side1=>repeat (first|(with_reducible first|exact HI0.out|apply IsS66.alloc|apply IsS66.drewN|apply IsS66.drew|apply IsS66.set_1|refine IsS66.far ?_ NB0_445.out _)|exact HI0.out));(case side2=>repeat (first|exact gB HB|refine below_set ?_ (IsS66.ge HI0.out)|refine below_set ?_ GE445.out));(case side3=>exact gC ((Kd.R_reads' HO464.out).2.2));(case side4=>exact (Kd.R_reads' HO464.out).2.1);(case side5=>exact far_slice (IsS66.own_ne HI0.out HO464.out (by decide)));rintro e w71 ⟨rfl,hi,hb,hk⟩;refine ⟨_,rfl,?_⟩;have n0_:=Aside0.mk (Kd.R_mono (Kd.R_keep (IsS66.apart (show IsS66 w0 _ g s0_0 x1001_6 from by repeat (first|(with_reducible first|exact HI0.out|apply IsS66.alloc|apply IsS66.drewN|apply IsS66.drew|apply IsS66.set_1|refine IsS66.far ?_ NB0_445.out _)|exact HI0.out)) (gR HO_3) (by decide)) hk (fun _ h=>h.2)) (fun _ h=>h.1));have n1_:=Aside0.mk (KeepBut.blk hk (g':=gb445) (o:=.cells #[.int .i64 x446000_6,.int .i64 x446001_6,.string x446002_6,.slice none 0 0] 27 (0,0)) (gK BK445) NB445_0.out (by simp));have n2_:=Aside0.mk (Kd.R_mono (Kd.R_keep (IsS66.apart (show IsS66 w0 _ g s0_0 x1001_6 from by repeat (first|(with_reducible first|exact HI0.out|apply IsS66.alloc|apply IsS66.drewN|apply IsS66.drew|apply IsS66.set_1|refine IsS66.far ?_ NB0_445.out _)|exact HI0.out)) (gR HO464) (by decide)) hk (fun _ h=>h.2)) (fun _ h=>h.1));have n3_:=Aside0.mk (KeepBut.trans (by repeat (first|exact gW HK|apply KeepBut.set_|refine keep_far ?_ GW445.out _)) hk (.inl rfl));have n4_:=Aside0.mk (hb);have n5_:=Aside0.mk (hi);clear HO_3;clear BK445;clear HO464;clear HK;clear HB;clear HI0;have HO_3:=n0_;have BK445:=n1_;have HO464:=n2_;have HK:=n3_;have HB:=n4_;have HI0:=n5_;clear n0_ n1_ n2_ n3_ n4_ n5_;(try clear hb);(try clear hb2);(try clear hk);(try clear hi))|((with_reducible refine gate_callee (f:=72) rfl ?_);refine goesL_ (some 33) rfl rfl Try.func72 (by kernel_rfl) rfl #[.pointer (some ⟨g,0,none⟩),.int .i64 t465] rfl (by (try simp only [List.map_toArray,List.map_cons,List.map_nil]);first|done|rfl|(simp only [List.length_drop,List.length_take];rfl)) ?_;(with_reducible refine (spec_l1Some.calls kj6 g s0_0 t466 t465 t467 t468 t469 t470 t473 w0 _ ?side1 ?side2 A34.out).mono ?_);(case side1=>repeat (first|(with_reducible first|exact HI0.out|apply IsS66.alloc|apply IsS66.drewN|apply IsS66.drew|apply IsS66.set_1|refine IsS66.far ?_ NB0_445.out _)|exact HI0.out));(case side2=>repeat (first|exact gB HB|refine below_set ?_ (IsS66.ge HI0.out)|refine below_set ?_ GE445.out));rintro e w72 ⟨v471,rfl,ho0,hi,hb,hk⟩;refine ⟨_,rfl,?_⟩;have n0_:=Aside0.mk (Kd.R_mono (Kd.R_keep (IsS66.apart (show IsS66 w0 _ g s0_0 t466 from by repeat (first|(with_reducible first|exact HI0.out|apply IsS66.alloc|apply IsS66.drewN|apply IsS66.drew|apply IsS66.set_1|refine IsS66.far ?_ NB0_445.out _)|exact HI0.out)) (gR HO_3) (by decide)) hk (fun _ h=>h.2)) (fun _ h=>h.1));have n1_:=Aside0.mk (KeepBut.blk hk (g':=gb445) (o:=.cells #[.int .i64 x446000_6,.int .i64 x446001_6,.string x446002_6,.slice none 0 0] 27 (0,0)) (gK BK445) NB445_0.out (by simp));have n2_:=Aside0.mk (Kd.R_mono (Kd.R_keep (IsS66.apart (show IsS66 w0 _ g s0_0 t466 from by repeat (first|(with_reducible first|exact HI0.out|apply IsS66.alloc|apply IsS66.drewN|apply IsS66.drew|apply IsS66.set_1|refine IsS66.far ?_ NB0_445.out _)|exact HI0.out)) (gR HO464) (by decide)) hk (fun _ h=>h.2)) (fun _ h=>h.1));have n3_:=Aside0.mk (Kd.N_lower (Kd.N_mono (ok':=fun k_=>(w.heap.size≤k_)∧some k_ ≠ (v447:Value).ownBlock∧some k_ ≠ (.slice Ao70 y462.length co70:Value).ownBlock∧k_ ≠ gb445∧k_ ≠ g) ho0 (fun k_ hk_=>⟨(Nat.le_trans (keep_size (w:=w) (g:=g) (row:=none) (by repeat (first|exact gW HK|apply KeepBut.set_|refine keep_far ?_ GW445.out _))) hk_),(Kd.fresh' (Kd.R_lt (gR HO_3)) k_ hk_),(Kd.fresh' (Kd.R_lt (gR HO464)) k_ hk_),(Kd.freshB (g:=gb445) (o:=.cells #[.int .i64 x446000_6,.int .i64 x446001_6,.string x446002_6,.slice none 0 0] 27 (0,0)) (gK BK445) k_ hk_),(IsS66.fresh (by repeat (first|(with_reducible first|exact HI0.out|apply IsS66.alloc|apply IsS66.drewN|apply IsS66.drew|apply IsS66.set_1|refine IsS66.far ?_ NB0_445.out _)|exact HI0.out)) k_ hk_)⟩)) (keep_size (w:=w) (g:=g) (row:=none) (by repeat (first|exact gW HK|apply KeepBut.set_|refine keep_far ?_ GW445.out _))));have n4_:=Aside0.mk (KeepBut.trans (by repeat (first|exact gW HK|apply KeepBut.set_|refine keep_far ?_ GW445.out _)) hk (.inl rfl));have n5_:=Aside0.mk (hb);have n6_:=Aside0.mk (hi);clear HO_3;clear BK445;clear HO464;clear HK;clear HB;clear HI0;have HO_3:=n0_;have BK445:=n1_;have HO464:=n2_;have HO472:=n3_;have HK:=n4_;have HB:=n5_;have HI0:=n6_;clear n0_ n1_ n2_ n3_ n4_ n5_ n6_;(try clear hb);(try clear hb2);(try clear hk);(try clear hi);(try clear ho0))|((with_reducible refine gate_dst (N:=7) rfl ?_);refine box_event ?hg (N:=7) ?hd (cs:=#[.int .i64 0,.int .i64 0,.string (⟨#[]⟩:ByteArray),.slice none 0 0]) (t:=27) ?hr ?_;(case hd=>rfl);(case hg=>rfl);(case hr=>first|(go_simp;done)|(go_simp;rfl));intro gb474 hg w73 hbox hb;have n0_:=Aside0.mk (Kd.R_below (gR HO_3) hb);have n1_:=Aside0.mk (Kd.R_below (gR HO464) hb);have n2_:=Aside0.mk (Kd.N_below (Kd.N_elderB (gN HO472) gb474 (Nat.le_of_eq hg.symm)) hb);have n3_:=Aside0.mk (blk_below (g:=gb445) (o:=.cells #[.int .i64 x446000_6,.int .i64 x446001_6,.string x446002_6,.slice none 0 0] 27 (0,0)) (gK BK445) hb);have n4_:=Aside0.mk (IsS66.below (by repeat (first|(with_reducible first|exact HI0.out|apply IsS66.alloc|apply IsS66.drewN|apply IsS66.drew|apply IsS66.set_1|refine IsS66.far ?_ NB0_445.out _)|exact HI0.out)) hb);have n5_:=Aside0.mk (KeepBut.trans (by repeat (first|exact gW HK|apply KeepBut.set_|refine keep_far ?_ GW445.out _)) (KeepBut.of_below hb g none) (.inl rfl));have n6_:=Aside0.mk (below_step (by repeat (first|exact gB HB|refine below_set ?_ (IsS66.ge HI0.out)|refine below_set ?_ GE445.out)) hb);have n7_:=Aside0.mk (hbox);have n8_:=Aside0.mk ((by rw [hg];exact (keep_size (w:=w) (g:=g) (row:=none) (by repeat (first|exact gW HK|apply KeepBut.set_|refine keep_far ?_ GW445.out _))):w.heap.size≤gb474));have n9_:=Aside0.mk ((Nat.le_trans HW0.out (by rw [hg];exact (keep_size (w:=w) (g:=g) (row:=none) (by repeat (first|exact gW HK|apply KeepBut.set_|refine keep_far ?_ GW445.out _))):w.heap.size≤gb474):w0.heap.size≤gb474));have n10_:=Aside0.mk ((by rw [hg];exact Nat.ne_of_lt (blk_lt (g:=gb445) (o:=.cells #[.int .i64 x446000_6,.int .i64 x446001_6,.string x446002_6,.slice none 0 0] 27 (0,0)) (gK BK445)):gb445 ≠ gb474));have n11_:=Aside0.mk ((by rw [hg];exact Nat.ne_of_gt (blk_lt (g:=gb445) (o:=.cells #[.int .i64 x446000_6,.int .i64 x446001_6,.string x446002_6,.slice none 0 0] 27 (0,0)) (gK BK445)):gb474 ≠ gb445));have n12_:=Aside0.mk ((by rw [hg];exact Nat.ne_of_lt (IsS66.lt (show IsS66 w0 _ g s0_0 t473 from by repeat (first|(with_reducible first|exact HI0.out|apply IsS66.alloc|apply IsS66.drewN|apply IsS66.drew|apply IsS66.set_1|refine IsS66.far ?_ NB0_445.out _)|exact HI0.out))):g ≠ gb474));have n13_:=Aside0.mk ((by rw [hg];exact Nat.ne_of_gt (IsS66.lt (show IsS66 w0 _ g s0_0 t473 from by repeat (first|(with_reducible first|exact HI0.out|apply IsS66.alloc|apply IsS66.drewN|apply IsS66.drew|apply IsS66.set_1|refine IsS66.far ?_ NB0_445.out _)|exact HI0.out))):gb474 ≠ g));clear HO_3;clear HO464;clear HO472;clear BK445;clear HI0;clear HK;clear HB;have HO_3:=n0_;have HO464:=n1_;have HO472:=n2_;have BK445:=n3_;have HI0:=n4_;have HK:=n5_;have HB:=n6_;have BK474:=n7_;have GW474:=n8_;have GE474:=n9_;have NB445_474:=n10_;have NB474_445:=n11_;have NB0_474:=n12_;have NB474_0:=n13_;clear n0_ n1_ n2_ n3_ n4_ n5_ n6_ n7_ n8_ n9_ n10_ n11_ n12_ n13_;clear hb hbox hg;have hnb74:=NB474_445.out;have hnc74:=NB445_474.out;have hnb75:=NB474_0.out;have hnc75:=NB0_474.out;have hcz76_0:w73.cell? ⟨gb474,0,none⟩=some (.int .i64 0):=(blk_cell BK474.out 0).trans rfl;have hcz76_1:w73.cell? ⟨gb474,1,none⟩=some (.int .i64 0):=(blk_cell BK474.out 1).trans rfl;have hcz76_2:w73.cell? ⟨gb474,2,none⟩=some (.string (⟨#[]⟩:ByteArray)):=(blk_cell BK474.out 2).trans rfl;have hcz76_3:w73.cell? ⟨gb474,3,none⟩=some (.slice none 0 0):=(blk_cell BK474.out 3).trans rfl;have hfz76_0:=blk_frozen BK474.out 0;have hfz76_1:=blk_frozen BK474.out 1;have hfz76_2:=blk_frozen BK474.out 2;have hfz76_3:=blk_frozen BK474.out 3;obtain ⟨Ao77,co77,eo77⟩:=Kd.N_slice HO472.out;subst eo77)|((with_reducible refine gate_callee (f:=25) rfl ?_);refine goesL_ (some 35) rfl rfl Try.func25 (by kernel_rfl) rfl #[.agg #[.int .i64 t467,.int .i64 t468,.string t469,.slice Ao77 t470.length co77]] rfl (by (try simp only [List.map_toArray,List.map_cons,List.map_nil]);first|done|rfl|(simp only [List.length_drop,List.length_take];rfl)) ?_;(with_reducible refine (spec_DocValid.calls kj6 t467 t468 t469 _ _ t470 false _ ?side1 ?side2 A35.out).mono ?_);(case side1=>exact (Kd.N_reads' (e:=27) (base:=w.heap.size) (n:=t470.length) (c:=co77) (by (with_reducible repeat (first|apply Kd.N_alloc|apply Kd.N_drewN|apply Kd.N_drew));exact (Kd.N_mono (Kd.N_far (p:=⟨gb474,3,none⟩) (Kd.N_far (p:=⟨gb474,2,none⟩) (Kd.N_far (p:=⟨gb474,1,none⟩) (Kd.N_far (p:=⟨gb474,0,none⟩) (Kd.N_mono HO472.out (fun k_ hk=>(⟨hk,hk.2⟩:_∧k_ ≠ gb474))) (fun _ hk=>hk.2) (.int .i64 t467)) (fun _ hk=>hk.2) (.int .i64 t468)) (fun _ hk=>hk.2) (.string t469)) (fun _ hk=>hk.2) (.slice Ao77 t470.length co77)) (fun _ h_=>h_.1)))).2.2);(case side2=>exact (Kd.N_reads' HO472.out).2.1);rintro e w78 ⟨rfl,hb⟩;refine ⟨_,rfl,?_⟩;have n0_:=Aside0.mk (Kd.R_below (by (with_reducible repeat (first|apply Kd.R_alloc|apply Kd.R_drewN|apply Kd.R_drew));exact (Kd.R_mono (Kd.R_far (p:=⟨gb474,3,none⟩) (Kd.R_far (p:=⟨gb474,2,none⟩) (Kd.R_far (p:=⟨gb474,1,none⟩) (Kd.R_far (p:=⟨gb474,0,none⟩) (Kd.R_types HO_3.out BK474.out (by decide)) (fun _ hk=>hk.2) (.int .i64 t467)) (fun _ hk=>hk.2) (.int .i64 t468)) (fun _ hk=>hk.2) (.string t469)) (fun _ hk=>hk.2) (.slice Ao77 t470.length co77)) (fun _ h_=>h_.1))) hb);have n1_:=Aside0.mk (Kd.R_below (by (with_reducible repeat (first|apply Kd.R_alloc|apply Kd.R_drewN|apply Kd.R_drew));exact (Kd.R_mono (Kd.R_far (p:=⟨gb474,3,none⟩) (Kd.R_far (p:=⟨gb474,2,none⟩) (Kd.R_far (p:=⟨gb474,1,none⟩) (Kd.R_far (p:=⟨gb474,0,none⟩) (Kd.R_types HO464.out BK474.out (by decide)) (fun _ hk=>hk.2) (.int .i64 t467)) (fun _ hk=>hk.2) (.int .i64 t468)) (fun _ hk=>hk.2) (.string t469)) (fun _ hk=>hk.2) (.slice Ao77 t470.length co77)) (fun _ h_=>h_.1))) hb);have n2_:=Aside0.mk (Kd.N_below (by (with_reducible repeat (first|apply Kd.N_alloc|apply Kd.N_drewN|apply Kd.N_drew));exact (Kd.N_mono (Kd.N_far (p:=⟨gb474,3,none⟩) (Kd.N_far (p:=⟨gb474,2,none⟩) (Kd.N_far (p:=⟨gb474,1,none⟩) (Kd.N_far (p:=⟨gb474,0,none⟩) (Kd.N_mono HO472.out (fun k_ hk=>(⟨hk,hk.2⟩:_∧k_ ≠ gb474))) (fun _ hk=>hk.2) (.int .i64 t467)) (fun _ hk=>hk.2) (.int .i64 t468)) (fun _ hk=>hk.2) (.string t469)) (fun _ hk=>hk.2) (.slice Ao77 t470.length co77)) (fun _ h_=>h_.1))) hb);have n3_:=Aside0.mk (blk_below (g:=gb445) (o:=.cells #[.int .i64 x446000_6,.int .i64 x446001_6,.string x446002_6,.slice none 0 0] 27 (0,0)) (by (with_reducible repeat (first|refine blk_drewN ?_ _|refine blk_drew ?_|refine blk_alloc ?_ _));refine blk_far ?_ NB445_474.out _;(with_reducible repeat (first|refine blk_drewN ?_ _|refine blk_drew ?_|refine blk_alloc ?_ _));refine blk_far ?_ NB445_474.out _;(with_reducible repeat (first|refine blk_drewN ?_ _|refine blk_drew ?_|refine blk_alloc ?_ _));refine blk_far ?_ NB445_474.out _;(with_reducible repeat (first|refine blk_drewN ?_ _|refine blk_drew ?_|refine blk_alloc ?_ _));refine blk_far ?_ NB445_474.out _;(with_reducible repeat (first|refine blk_drewN ?_ _|refine blk_drew ?_|refine blk_alloc ?_ _));exact BK445.out) hb);have n4_:=Aside0.mk (IsS66.below (show IsS66 w0 ((((w73.setCell ⟨gb474,0,none⟩ (.int .i64 t467)).setCell ⟨gb474,1,none⟩ (.int .i64 t468)).setCell ⟨gb474,2,none⟩ (.string t469)).setCell ⟨gb474,3,none⟩ (.slice Ao77 t470.length co77)) g s0_0 t473 from by repeat (first|(with_reducible first|exact HI0.out|apply IsS66.alloc|apply IsS66.drewN|apply IsS66.drew|apply IsS66.set_1|refine IsS66.far ?_ NB0_445.out _|refine IsS66.far ?_ NB0_474.out _)|exact HI0.out)) hb);have n5_:=Aside0.mk (blk_below (g:=gb474) (o:=.cells #[.int .i64 t467,.int .i64 t468,.string t469,.slice Ao77 t470.length co77] 27 (0,0)) (by (with_reducible repeat (first|refine blk_drewN ?_ _|refine blk_drew ?_|refine blk_alloc ?_ _));refine blk_put (cs:=#[.int .i64 t467,.int .i64 t468,.string t469,.slice none 0 0]) ?_ 3 _ rfl;(with_reducible repeat (first|refine blk_drewN ?_ _|refine blk_drew ?_|refine blk_alloc ?_ _));refine blk_put (cs:=#[.int .i64 t467,.int .i64 t468,.string (⟨#[]⟩:ByteArray),.slice none 0 0]) ?_ 2 _ rfl;(with_reducible repeat (first|refine blk_drewN ?_ _|refine blk_drew ?_|refine blk_alloc ?_ _));refine blk_put (cs:=#[.int .i64 t467,.int .i64 0,.string (⟨#[]⟩:ByteArray),.slice none 0 0]) ?_ 1 _ rfl;(with_reducible repeat (first|refine blk_drewN ?_ _|refine blk_drew ?_|refine blk_alloc ?_ _));refine blk_put (cs:=#[.int .i64 0,.int .i64 0,.string (⟨#[]⟩:ByteArray),.slice none 0 0]) ?_ 0 _ rfl;(with_reducible repeat (first|refine blk_drewN ?_ _|refine blk_drew ?_|refine blk_alloc ?_ _));exact BK474.out) hb);have n6_:=Aside0.mk (KeepBut.trans (by repeat (first|exact gW HK|apply KeepBut.set_|refine keep_far ?_ GW445.out _|refine keep_far ?_ GW474.out _)) (KeepBut.of_below hb g none) (.inl rfl));have n7_:=Aside0.mk (below_step (by repeat (first|exact gB HB|refine below_set ?_ (IsS66.ge HI0.out)|refine below_set ?_ GE445.out|refine below_set ?_ GE474.out)) hb);clear HO_3;clear HO464;clear HO472;clear BK445;clear HI0;clear BK474;clear HK;clear HB;have HO_3:=n0_;have HO464:=n1_;have HO472:=n2_;have BK445:=n3_;have HI0:=n4_;have BK474:=n5_;have HK:=n6_;have HB:=n7_;clear n0_ n1_ n2_ n3_ n4_ n5_ n6_ n7_;(try clear hb);(try clear hb2);(try clear hk);(try clear hi)))
       go_roundg kj6
       case measure=>have:=HK1.out;have:=HJ6.out;omega
       case rel=>exact ⟨(wrap64 (x4_1+1)),(t473),(x446000_6),(x446001_6),(x446002_6),(by first|rfl|(simp;done)|(simp [*];done)),H',⟨by have:=HK1.out;have:=HJ6.out;omega⟩,⟨gR HO_3⟩,⟨gK BK445⟩,⟨by repeat (first|(with_reducible first|exact HI0.out|apply IsS66.alloc|apply IsS66.drewN|apply IsS66.drew|apply IsS66.set_1|refine IsS66.far ?_ NB0_445.out _|refine IsS66.far ?_ NB0_474.out _)|exact HI0.out)⟩,⟨by repeat (first|exact gW HK|apply KeepBut.set_|refine keep_far ?_ GW445.out _|refine keep_far ?_ GW474.out _)⟩,⟨by repeat (first|exact gB HB|refine below_set ?_ (IsS66.ge HI0.out)|refine below_set ?_ GE445.out|refine below_set ?_ GE474.out)⟩⟩
   ·rw [if_neg c5] at H
    have c5b0:decide (x4_1 < 3)=false:=decide_eq_false c5
    clear c5
    replace H:=Option.bind_eq_some_iff.mp H
    obtain ⟨⟨t477,t478,t479,t480,t483⟩,A790,H⟩:=H
    replace H:(some (t477,t478,t479,t480,t483))=some (r1,r2,r3,r4,r5):=H
    have A79:=Aside0.mk A790
    clear A790
    simp only [Option.some.injEq,Prod.mk.injEq] at H
    obtain ⟨rfl,rfl,rfl,rfl,rfl⟩:=H
    go_wp2_with (first|((with_reducible refine gate_callee (f:=72) rfl ?_);refine goesL_ (some 43) rfl rfl Try.func72 (by kernel_rfl) rfl #[.pointer (some ⟨g,0,none⟩),.int .i64 2] rfl (by (try simp only [List.map_toArray,List.map_cons,List.map_nil]);first|done|rfl|(simp only [List.length_drop,List.length_take];rfl)) ?_;(with_reducible refine (spec_l1Some.calls k1 g s0_0 x1001_1 2 t477 t478 t479 t480 t483 w0 _ ?side1 ?side2 A79.out).mono ?_);(case side1=>repeat (first|(with_reducible first|exact HI0.out|apply IsS66.alloc|apply IsS66.drewN|apply IsS66.drew|apply IsS66.set_1|refine IsS66.far ?_ NB0_445.out _)|exact HI0.out));(case side2=>repeat (first|exact gB HB|refine below_set ?_ (IsS66.ge HI0.out)|refine below_set ?_ GE445.out));rintro e w80 ⟨v481,rfl,ho0,hi,hb,hk⟩;refine ⟨_,rfl,?_⟩;have n0_:=Aside0.mk (Kd.R_mono (Kd.R_keep (IsS66.apart (show IsS66 w0 _ g s0_0 x1001_1 from by repeat (first|(with_reducible first|exact HI0.out|apply IsS66.alloc|apply IsS66.drewN|apply IsS66.drew|apply IsS66.set_1|refine IsS66.far ?_ NB0_445.out _)|exact HI0.out)) (gR HO_3) (by decide)) hk (fun _ h=>h.2)) (fun _ h=>h.1));have n1_:=Aside0.mk (KeepBut.blk hk (g':=gb445) (o:=.cells #[.int .i64 x446000_1,.int .i64 x446001_1,.string x446002_1,.slice none 0 0] 27 (0,0)) (gK BK445) NB445_0.out (by simp));have n2_:=Aside0.mk (Kd.N_lower (Kd.N_mono (ok':=fun k_=>(w.heap.size≤k_)∧some k_ ≠ (v447:Value).ownBlock∧k_ ≠ gb445∧k_ ≠ g) ho0 (fun k_ hk_=>⟨(Nat.le_trans (keep_size (w:=w) (g:=g) (row:=none) (by repeat (first|exact gW HK|apply KeepBut.set_|refine keep_far ?_ GW445.out _))) hk_),(Kd.fresh' (Kd.R_lt (gR HO_3)) k_ hk_),(Kd.freshB (g:=gb445) (o:=.cells #[.int .i64 x446000_1,.int .i64 x446001_1,.string x446002_1,.slice none 0 0] 27 (0,0)) (gK BK445) k_ hk_),(IsS66.fresh (by repeat (first|(with_reducible first|exact HI0.out|apply IsS66.alloc|apply IsS66.drewN|apply IsS66.drew|apply IsS66.set_1|refine IsS66.far ?_ NB0_445.out _)|exact HI0.out)) k_ hk_)⟩)) (keep_size (w:=w) (g:=g) (row:=none) (by repeat (first|exact gW HK|apply KeepBut.set_|refine keep_far ?_ GW445.out _))));have n3_:=Aside0.mk (KeepBut.trans (by repeat (first|exact gW HK|apply KeepBut.set_|refine keep_far ?_ GW445.out _)) hk (.inl rfl));have n4_:=Aside0.mk (hb);have n5_:=Aside0.mk (hi);clear HO_3;clear BK445;clear HK;clear HB;clear HI0;have HO_3:=n0_;have BK445:=n1_;have HO482:=n2_;have HK:=n3_;have HB:=n4_;have HI0:=n5_;clear n0_ n1_ n2_ n3_ n4_ n5_;(try clear hb);(try clear hb2);(try clear hk);(try clear hi);(try clear ho0);have hnb81:=NB445_0.out;have hnc81:=NB0_445.out;have hcz82_0:w80.cell? ⟨gb445,0,none⟩=some (.int .i64 x446000_1):=(blk_cell BK445.out 0).trans rfl;have hcz82_1:w80.cell? ⟨gb445,1,none⟩=some (.int .i64 x446001_1):=(blk_cell BK445.out 1).trans rfl;have hcz82_2:w80.cell? ⟨gb445,2,none⟩=some (.string x446002_1):=(blk_cell BK445.out 2).trans rfl;have hcz82_3:w80.cell? ⟨gb445,3,none⟩=some (.slice none 0 0):=(blk_cell BK445.out 3).trans rfl;have hfz82_0:=blk_frozen BK445.out 0;have hfz82_1:=blk_frozen BK445.out 1;have hfz82_2:=blk_frozen BK445.out 2;have hfz82_3:=blk_frozen BK445.out 3;obtain ⟨Ao83,co83,eo83⟩:=Kd.N_slice HO482.out;subst eo83))
    refine bodyPost_ret (results_cell_row rfl _ _ gb445 27 #[.int .i64 t477,.int .i64 t478,.string t479,.slice Ao83 t480.length co83] (0,0) _ rfl (by (with_reducible repeat (first|refine blk_drewN ?_ _|refine blk_drew ?_|refine blk_alloc ?_ _));refine blk_put (cs:=#[.int .i64 t477,.int .i64 t478,.string t479,.slice none 0 0]) ?_ 3 _ rfl;(with_reducible repeat (first|refine blk_drewN ?_ _|refine blk_drew ?_|refine blk_alloc ?_ _));refine blk_put (cs:=#[.int .i64 t477,.int .i64 t478,.string x446002_1,.slice none 0 0]) ?_ 2 _ rfl;(with_reducible repeat (first|refine blk_drewN ?_ _|refine blk_drew ?_|refine blk_alloc ?_ _));refine blk_put (cs:=#[.int .i64 t477,.int .i64 x446001_1,.string x446002_1,.slice none 0 0]) ?_ 1 _ rfl;(with_reducible repeat (first|refine blk_drewN ?_ _|refine blk_drew ?_|refine blk_alloc ?_ _));refine blk_put (cs:=#[.int .i64 x446000_1,.int .i64 x446001_1,.string x446002_1,.slice none 0 0]) ?_ 0 _ rfl;(with_reducible repeat (first|refine blk_drewN ?_ _|refine blk_drew ?_|refine blk_alloc ?_ _));exact BK445.out) Try.underlying27 rfl (by kernel_rfl)) rfl ?_
    exact ⟨_,by first|rfl|(simp [errW_none,errW_some] <;> rfl)|(simp [*,errW_none,errW_some] <;> rfl),by (with_reducible repeat (first|apply Kd.N_alloc|apply Kd.N_drewN|apply Kd.N_drew));exact Kd.N_mono (Kd.N_far (p:=⟨gb445,3,none⟩) (Kd.N_far (p:=⟨gb445,2,none⟩) (Kd.N_far (p:=⟨gb445,1,none⟩) (Kd.N_far (p:=⟨gb445,0,none⟩) (Kd.N_mono HO482.out (fun k_ hk=>(⟨hk,hk.2.2.1⟩:_∧k_ ≠ gb445))) (fun _ hk=>hk.2) (.int .i64 t477)) (fun _ hk=>hk.2) (.int .i64 t478)) (fun _ hk=>hk.2) (.string t479)) (fun _ hk=>hk.2) (.slice Ao83 t480.length co83)) (fun _ hk=>hk.1.1),by repeat (first|(with_reducible first|exact HI0.out|apply IsS66.alloc|apply IsS66.drewN|apply IsS66.drew|apply IsS66.set_1|refine IsS66.far ?_ NB0_445.out _)|exact HI0.out),by repeat (first|exact gB HB|refine below_set ?_ (IsS66.ge HI0.out)|refine below_set ?_ GE445.out),by repeat (first|exact gW HK|apply KeepBut.set_|refine keep_far ?_ GW445.out _)⟩
end Go.Proofs.Ytdhdfmmefghijaa.P
namespace Go.Proofs.Ytdhdfmmefghijaa.P
open Go.RowKit Go.Proofs.YtdhdfmmefghijaaW.PrintWords Go.Proofs.YtdhdfmmefghijaaW.PrintLast Go.Proofs.YtdhdfmmefghijaaW.PrintMore
attribute [local go_sem] max2_int min2_int max_two min_two max_three min_three max_four min_four
set_option linter.unusedVariables false
set_option linter.unusedSimpArgs false
def spec_DrawDocSame.f (k:Nat) (l0:List Int):Option (Int × Int × ByteArray × (List (SDoc)) × Int × Int × ByteArray × (List (SDoc))):=(spec_l15Open.f l0).bind fun bt562=>((spec_l1Draw.f k bt562.1 bt562.2).bind fun bt565=>((spec_l15Rd_pick.f k bt562.1 bt565.2.2.2.2 4).bind fun bt573=>(if bt573.1=0 then ((spec_l1Draw.f k bt562.1 bt573.2).bind fun bt575=>(some (bt565.1,bt565.2.1,bt565.2.2.1,bt565.2.2.2.1,bt575.1,bt575.2.1,bt575.2.2.1,bt575.2.2.2.1))) else ((spec_l1Mutate.f k bt562.1 bt573.2 bt565.1 bt565.2.1 bt565.2.2.1 bt565.2.2.2.1).bind fun bt582=>((spec_l1Mutate.f k bt562.1 bt582.2.2.2.2 bt582.1 bt582.2.1 bt582.2.2.1 bt582.2.2.2.1).bind fun bt589=>(some (bt565.1,bt565.2.1,bt565.2.2.1,bt565.2.2.2.1,bt589.1,bt589.2.1,bt589.2.2.1,bt589.2.2.2.1)))))))
def spec_DrawDocSame.T5:Bool × List (List Nat × List Nat):=(true,[([],[]),([],[]),([],[]),([],[]),([2,3],[2,3]),([1,4,4],[1,4]),([0,5,0],[0]),([5,6,0,1,2,3,4,5,6],[5])])
def spec_DrawDocSame.B5:List Nat:=[0,0,0,0,12,30,63,127]
theorem spec_DrawDocSame.tab5:rtab .any (opsOf Try.f31 5)=spec_DrawDocSame.T5:=by kernel_rfl
theorem spec_DrawDocSame.bits5:waitsOk spec_DrawDocSame.T5.2 spec_DrawDocSame.B5=true:=by kernel_rfl
set_option maxHeartbeats 8000000 in
set_option maxRecDepth 100000 in
theorem spec_DrawDocSame.calls (k:Nat) (A0:Option Addr) (c0:Nat) (l0:List Int) (r1:Int) (r2:Int) (r3:ByteArray) (r4:List (SDoc)) (r5:Int) (r6:Int) (r7:ByteArray) (r8:List (SDoc)) (w:World) (hr0:Kd.C (Kd.int .u8) w A0 l0.length l0) (hc0:l0.length≤c0) (h:spec_DrawDocSame.f k l0=some (r1,r2,r3,r4,r5,r6,r7,r8)) :
  Calls Try.prog 31 #[.slice A0 l0.length c0] w fun e w'=>∃ v3_ v7_:Value,e=.returned (.tuple #[.agg #[.int .i64 r1,.int .i64 r2,.string r3,v3_],.agg #[.int .i64 r5,.int .i64 r6,.string r7,v7_]])∧Kd.N k27 27 w' w.heap.size (fun k_=>(w.heap.size≤k_)∧some k_ ≠ (v7_:Value).ownBlock) v3_ r4∧Kd.N k27 27 w' w.heap.size (fun k_=>(w.heap.size≤k_)∧some k_ ≠ (v3_:Value).ownBlock) v7_ r8∧Below w.heap.size w w':=by
 have hu27:=Try.underlying27
 have HR0:=Aside0.mk hr0
 have HC0:=Aside0.mk hc0
 clear hr0 hc0
 have HB:=Aside0.mk (Below.refl w.heap.size w)
 have H:((spec_l15Open.f l0).bind fun bt562=>((spec_l1Draw.f k bt562.1 bt562.2).bind fun bt565=>((spec_l15Rd_pick.f k bt562.1 bt565.2.2.2.2 4).bind fun bt573=>(if bt573.1=0 then ((spec_l1Draw.f k bt562.1 bt573.2).bind fun bt575=>(some (bt565.1,bt565.2.1,bt565.2.2.1,bt565.2.2.2.1,bt575.1,bt575.2.1,bt575.2.2.1,bt575.2.2.2.1))) else ((spec_l1Mutate.f k bt562.1 bt573.2 bt565.1 bt565.2.1 bt565.2.2.1 bt565.2.2.2.1).bind fun bt582=>((spec_l1Mutate.f k bt562.1 bt582.2.2.2.2 bt582.1 bt582.2.1 bt582.2.2.1 bt582.2.2.2.1).bind fun bt589=>(some (bt565.1,bt565.2.1,bt565.2.2.1,bt565.2.2.2.1,bt589.1,bt589.2.1,bt589.2.2.1,bt589.2.2.2.1))))))))=some (r1,r2,r3,r4,r5,r6,r7,r8):=h
 clear h
 replace H:=Option.bind_eq_some_iff.mp H
 obtain ⟨⟨t562,t563⟩,A20,H⟩:=H
 replace H:((spec_l1Draw.f k t562 t563).bind fun bt565=>((spec_l15Rd_pick.f k t562 bt565.2.2.2.2 4).bind fun bt573=>(if bt573.1=0 then ((spec_l1Draw.f k t562 bt573.2).bind fun bt575=>(some (bt565.1,bt565.2.1,bt565.2.2.1,bt565.2.2.2.1,bt575.1,bt575.2.1,bt575.2.2.1,bt575.2.2.2.1))) else ((spec_l1Mutate.f k t562 bt573.2 bt565.1 bt565.2.1 bt565.2.2.1 bt565.2.2.2.1).bind fun bt582=>((spec_l1Mutate.f k t562 bt582.2.2.2.2 bt582.1 bt582.2.1 bt582.2.2.1 bt582.2.2.2.1).bind fun bt589=>(some (bt565.1,bt565.2.1,bt565.2.2.1,bt565.2.2.2.1,bt589.1,bt589.2.1,bt589.2.2.1,bt589.2.2.2.1)))))))=some (r1,r2,r3,r4,r5,r6,r7,r8):=H
 have A2:=Aside0.mk A20
 clear A20
 replace H:=Option.bind_eq_some_iff.mp H
 obtain ⟨⟨t565,t566,t567,t568,t571⟩,A30,H⟩:=H
 replace H:((spec_l15Rd_pick.f k t562 t571 4).bind fun bt573=>(if bt573.1=0 then ((spec_l1Draw.f k t562 bt573.2).bind fun bt575=>(some (t565,t566,t567,t568,bt575.1,bt575.2.1,bt575.2.2.1,bt575.2.2.2.1))) else ((spec_l1Mutate.f k t562 bt573.2 t565 t566 t567 t568).bind fun bt582=>((spec_l1Mutate.f k t562 bt582.2.2.2.2 bt582.1 bt582.2.1 bt582.2.2.1 bt582.2.2.2.1).bind fun bt589=>(some (t565,t566,t567,t568,bt589.1,bt589.2.1,bt589.2.2.1,bt589.2.2.2.1))))))=some (r1,r2,r3,r4,r5,r6,r7,r8):=H
 have A3:=Aside0.mk A30
 clear A30
 replace H:=Option.bind_eq_some_iff.mp H
 obtain ⟨⟨t573,t574⟩,A40,H⟩:=H
 replace H:(if t573=0 then ((spec_l1Draw.f k t562 t574).bind fun bt575=>(some (t565,t566,t567,t568,bt575.1,bt575.2.1,bt575.2.2.1,bt575.2.2.2.1))) else ((spec_l1Mutate.f k t562 t574 t565 t566 t567 t568).bind fun bt582=>((spec_l1Mutate.f k t562 bt582.2.2.2.2 bt582.1 bt582.2.1 bt582.2.2.1 bt582.2.2.2.1).bind fun bt589=>(some (t565,t566,t567,t568,bt589.1,bt589.2.1,bt589.2.2.1,bt589.2.2.2.1)))))=some (r1,r2,r3,r4,r5,r6,r7,r8):=H
 have A4:=Aside0.mk A40
 clear A40
 by_cases c5:t573=0
 ·rw [if_pos c5] at H
  have c5b0:(t573 == 0)=true:=beq_iff_eq.mpr c5
  have c5b1:(t573 != 0)=false:=bne_eq_false_iff_eq.mpr c5
  clear c5
  replace H:=Option.bind_eq_some_iff.mp H
  obtain ⟨⟨t575,t576,t577,t578,t581⟩,A60,H⟩:=H
  replace H:(some (t565,t566,t567,t568,t575,t576,t577,t578))=some (r1,r2,r3,r4,r5,r6,r7,r8):=H
  have A6:=Aside0.mk A60
  clear A60
  simp only [Option.some.injEq,Prod.mk.injEq] at H
  obtain ⟨rfl,rfl,rfl,rfl,rfl,rfl,rfl,rfl⟩:=H
  go_enter Try.func31,Try.ntmps31
  try go_wp2_with (first|((with_reducible refine gate_dst (N:=2) rfl ?_);refine box_event ?hg (N:=2) ?hd (cs:=#[.int .i64 0,.int .i64 0,.string (⟨#[]⟩:ByteArray),.slice none 0 0]) (t:=27) ?hr ?_;(case hd=>rfl);(case hg=>rfl);(case hr=>first|(go_simp;done)|(go_simp;rfl));intro gb560 hg w7 hbox hb;have n0_:=Aside0.mk (below_step (gB HB) hb);have n1_:=Aside0.mk (hbox);have n2_:=Aside0.mk ((by rw [hg];exact (below_size (gB HB)):w.heap.size≤gb560));have n3_:=Aside0.mk ((by rw [hg];exact (below_size (gB HB)):w.heap.size≤gb560));clear HB;have HB:=n0_;have BK560:=n1_;have GW560:=n2_;have GE560:=n3_;clear n0_ n1_ n2_ n3_;clear hb hbox hg)|((with_reducible refine gate_dst (N:=3) rfl ?_);refine box_event ?hg (N:=3) ?hd (cs:=#[.int .i64 0,.int .i64 0,.string (⟨#[]⟩:ByteArray),.slice none 0 0]) (t:=27) ?hr ?_;(case hd=>rfl);(case hg=>rfl);(case hr=>first|(go_simp;done)|(go_simp;rfl));intro gb561 hg w8 hbox hb;have n0_:=Aside0.mk (blk_below (g:=gb560) (o:=.cells #[.int .i64 0,.int .i64 0,.string (⟨#[]⟩:ByteArray),.slice none 0 0] 27 (0,0)) (gK BK560) hb);have n1_:=Aside0.mk (below_step (by repeat (first|exact gB HB|refine below_set ?_ GE560.out)) hb);have n2_:=Aside0.mk (hbox);have n3_:=Aside0.mk ((by rw [hg];exact (below_size (by repeat (first|exact gB HB|refine below_set ?_ GE560.out))):w.heap.size≤gb561));have n4_:=Aside0.mk ((by rw [hg];exact (below_size (by repeat (first|exact gB HB|refine below_set ?_ GE560.out))):w.heap.size≤gb561));have n5_:=Aside0.mk ((by rw [hg];exact Nat.ne_of_lt (blk_lt (g:=gb560) (o:=.cells #[.int .i64 0,.int .i64 0,.string (⟨#[]⟩:ByteArray),.slice none 0 0] 27 (0,0)) (gK BK560)):gb560 ≠ gb561));have n6_:=Aside0.mk ((by rw [hg];exact Nat.ne_of_gt (blk_lt (g:=gb560) (o:=.cells #[.int .i64 0,.int .i64 0,.string (⟨#[]⟩:ByteArray),.slice none 0 0] 27 (0,0)) (gK BK560)):gb561 ≠ gb560));clear BK560;clear HB;have BK560:=n0_;have HB:=n1_;have BK561:=n2_;have GW561:=n3_;have GE561:=n4_;have NB560_561:=n5_;have NB561_560:=n6_;clear n0_ n1_ n2_ n3_ n4_ n5_ n6_;clear hb hbox hg)|((with_reducible refine gate_callee (f:=44) rfl ?_);refine goesL_ (some 7) rfl rfl Try.func44 (by kernel_rfl) rfl #[.slice A0 l0.length c0] rfl (by (try simp only [List.map_toArray,List.map_cons,List.map_nil]);first|done|rfl|(simp only [List.length_drop,List.length_take];rfl)) ?_;(with_reducible refine (spec_l15Open.calls _ _ l0 t562 t563 w _ ?side1 ?side2 ?side3 A2.out).mono ?_);(case side1=>repeat (first|exact gB HB|refine below_set ?_ GE560.out|refine below_set ?_ GE561.out));(case side2=>exact HR0.out);(case side3=>exact HC0.out);rintro e w9 ⟨g564,rfl,hi,hb,hb2⟩;refine ⟨_,rfl,?_⟩;have n0_:=Aside0.mk (blk_below (g:=gb560) (o:=.cells #[.int .i64 0,.int .i64 0,.string (⟨#[]⟩:ByteArray),.slice none 0 0] 27 (0,0)) (gK BK560) hb2);have n1_:=Aside0.mk (blk_below (g:=gb561) (o:=.cells #[.int .i64 0,.int .i64 0,.string (⟨#[]⟩:ByteArray),.slice none 0 0] 27 (0,0)) (gK BK561) hb2);have n2_:=Aside0.mk (hb);have n3_:=Aside0.mk (hi);have n4_:=Aside0.mk (IsS66.ne_blk hi (blk_below (g:=gb560) (o:=.cells #[.int .i64 0,.int .i64 0,.string (⟨#[]⟩:ByteArray),.slice none 0 0] 27 (0,0)) (gK BK560) hb2) (by decide));have n5_:=Aside0.mk (Ne.symm (IsS66.ne_blk hi (blk_below (g:=gb560) (o:=.cells #[.int .i64 0,.int .i64 0,.string (⟨#[]⟩:ByteArray),.slice none 0 0] 27 (0,0)) (gK BK560) hb2) (by decide)));have n6_:=Aside0.mk (IsS66.ne_blk hi (blk_below (g:=gb561) (o:=.cells #[.int .i64 0,.int .i64 0,.string (⟨#[]⟩:ByteArray),.slice none 0 0] 27 (0,0)) (gK BK561) hb2) (by decide));have n7_:=Aside0.mk (Ne.symm (IsS66.ne_blk hi (blk_below (g:=gb561) (o:=.cells #[.int .i64 0,.int .i64 0,.string (⟨#[]⟩:ByteArray),.slice none 0 0] 27 (0,0)) (gK BK561) hb2) (by decide)));clear BK560;clear BK561;clear HB;have BK560:=n0_;have BK561:=n1_;have HB:=n2_;have HI564:=n3_;have NB564_560:=n4_;have NB560_564:=n5_;have NB564_561:=n6_;have NB561_564:=n7_;clear n0_ n1_ n2_ n3_ n4_ n5_ n6_ n7_;(try clear hb);(try clear hb2);(try clear hk);(try clear hi))|((with_reducible refine gate_callee (f:=51) rfl ?_);refine goesL_ (some 9) rfl rfl Try.func51 (by kernel_rfl) rfl #[.pointer (some ⟨g564,0,none⟩)] rfl (by (try simp only [List.map_toArray,List.map_cons,List.map_nil]);first|done|rfl|(simp only [List.length_drop,List.length_take];rfl)) ?_;(with_reducible refine (spec_l1Draw.calls k g564 t562 t563 t565 t566 t567 t568 t571 w _ ?side1 ?side2 A3.out).mono ?_);(case side1=>repeat (first|(with_reducible first|exact HI564.out|apply IsS66.alloc|apply IsS66.drewN|apply IsS66.drew|apply IsS66.set_1|refine IsS66.far ?_ NB564_560.out _|refine IsS66.far ?_ NB564_561.out _)|exact HI564.out));(case side2=>repeat (first|exact gB HB|refine below_set ?_ (IsS66.ge HI564.out)|refine below_set ?_ GE560.out|refine below_set ?_ GE561.out));rintro e w10 ⟨v569,rfl,ho0,hi,hb,hk⟩;refine ⟨_,rfl,?_⟩;have n0_:=Aside0.mk (KeepBut.blk hk (g':=gb560) (o:=.cells #[.int .i64 0,.int .i64 0,.string (⟨#[]⟩:ByteArray),.slice none 0 0] 27 (0,0)) (gK BK560) NB560_564.out (by simp));have n1_:=Aside0.mk (KeepBut.blk hk (g':=gb561) (o:=.cells #[.int .i64 0,.int .i64 0,.string (⟨#[]⟩:ByteArray),.slice none 0 0] 27 (0,0)) (gK BK561) NB561_564.out (by simp));have n2_:=Aside0.mk (Kd.N_lower (Kd.N_mono (ok':=fun k_=>(w.heap.size≤k_)∧k_ ≠ gb560∧k_ ≠ gb561∧k_ ≠ g564) ho0 (fun k_ hk_=>⟨(Nat.le_trans (below_size (by repeat (first|exact gB HB|refine below_set ?_ (IsS66.ge HI564.out)|refine below_set ?_ GE560.out|refine below_set ?_ GE561.out))) hk_),(Kd.freshB (g:=gb560) (o:=.cells #[.int .i64 0,.int .i64 0,.string (⟨#[]⟩:ByteArray),.slice none 0 0] 27 (0,0)) (gK BK560) k_ hk_),(Kd.freshB (g:=gb561) (o:=.cells #[.int .i64 0,.int .i64 0,.string (⟨#[]⟩:ByteArray),.slice none 0 0] 27 (0,0)) (gK BK561) k_ hk_),(IsS66.fresh (by repeat (first|(with_reducible first|exact HI564.out|apply IsS66.alloc|apply IsS66.drewN|apply IsS66.drew|apply IsS66.set_1|refine IsS66.far ?_ NB564_560.out _|refine IsS66.far ?_ NB564_561.out _)|exact HI564.out)) k_ hk_)⟩)) (below_size (by repeat (first|exact gB HB|refine below_set ?_ (IsS66.ge HI564.out)|refine below_set ?_ GE560.out|refine below_set ?_ GE561.out))));have n3_:=Aside0.mk (hb);have n4_:=Aside0.mk (hi);clear BK560;clear BK561;clear HB;clear HI564;have BK560:=n0_;have BK561:=n1_;have HO570:=n2_;have HB:=n3_;have HI564:=n4_;clear n0_ n1_ n2_ n3_ n4_;(try clear hb);(try clear hb2);(try clear hk);(try clear hi);(try clear ho0))|((with_reducible refine gate_dst (N:=5) rfl ?_);refine box_event ?hg (N:=5) ?hd (cs:=#[.int .i64 0,.int .i64 0,.string (⟨#[]⟩:ByteArray),.slice none 0 0]) (t:=27) ?hr ?_;(case hd=>rfl);(case hg=>rfl);(case hr=>first|(go_simp;done)|(go_simp;rfl));intro gb572 hg w11 hbox hb;have n0_:=Aside0.mk (Kd.N_below (Kd.N_elderB (gN HO570) gb572 (Nat.le_of_eq hg.symm)) hb);have n1_:=Aside0.mk (blk_below (g:=gb560) (o:=.cells #[.int .i64 0,.int .i64 0,.string (⟨#[]⟩:ByteArray),.slice none 0 0] 27 (0,0)) (gK BK560) hb);have n2_:=Aside0.mk (blk_below (g:=gb561) (o:=.cells #[.int .i64 0,.int .i64 0,.string (⟨#[]⟩:ByteArray),.slice none 0 0] 27 (0,0)) (gK BK561) hb);have n3_:=Aside0.mk (IsS66.below (by repeat (first|(with_reducible first|exact HI564.out|apply IsS66.alloc|apply IsS66.drewN|apply IsS66.drew|apply IsS66.set_1|refine IsS66.far ?_ NB564_560.out _|refine IsS66.far ?_ NB564_561.out _)|exact HI564.out)) hb);have n4_:=Aside0.mk (below_step (by repeat (first|exact gB HB|refine below_set ?_ (IsS66.ge HI564.out)|refine below_set ?_ GE560.out|refine below_set ?_ GE561.out)) hb);have n5_:=Aside0.mk (hbox);have n6_:=Aside0.mk ((by rw [hg];exact (below_size (by repeat (first|exact gB HB|refine below_set ?_ (IsS66.ge HI564.out)|refine below_set ?_ GE560.out|refine below_set ?_ GE561.out))):w.heap.size≤gb572));have n7_:=Aside0.mk ((by rw [hg];exact (below_size (by repeat (first|exact gB HB|refine below_set ?_ (IsS66.ge HI564.out)|refine below_set ?_ GE560.out|refine below_set ?_ GE561.out))):w.heap.size≤gb572));have n8_:=Aside0.mk ((by rw [hg];exact Nat.ne_of_lt (blk_lt (g:=gb560) (o:=.cells #[.int .i64 0,.int .i64 0,.string (⟨#[]⟩:ByteArray),.slice none 0 0] 27 (0,0)) (gK BK560)):gb560 ≠ gb572));have n9_:=Aside0.mk ((by rw [hg];exact Nat.ne_of_gt (blk_lt (g:=gb560) (o:=.cells #[.int .i64 0,.int .i64 0,.string (⟨#[]⟩:ByteArray),.slice none 0 0] 27 (0,0)) (gK BK560)):gb572 ≠ gb560));have n10_:=Aside0.mk ((by rw [hg];exact Nat.ne_of_lt (blk_lt (g:=gb561) (o:=.cells #[.int .i64 0,.int .i64 0,.string (⟨#[]⟩:ByteArray),.slice none 0 0] 27 (0,0)) (gK BK561)):gb561 ≠ gb572));have n11_:=Aside0.mk ((by rw [hg];exact Nat.ne_of_gt (blk_lt (g:=gb561) (o:=.cells #[.int .i64 0,.int .i64 0,.string (⟨#[]⟩:ByteArray),.slice none 0 0] 27 (0,0)) (gK BK561)):gb572 ≠ gb561));have n12_:=Aside0.mk ((by rw [hg];exact Nat.ne_of_lt (IsS66.lt (show IsS66 w _ g564 t562 t571 from by repeat (first|(with_reducible first|exact HI564.out|apply IsS66.alloc|apply IsS66.drewN|apply IsS66.drew|apply IsS66.set_1|refine IsS66.far ?_ NB564_560.out _|refine IsS66.far ?_ NB564_561.out _)|exact HI564.out))):g564 ≠ gb572));have n13_:=Aside0.mk ((by rw [hg];exact Nat.ne_of_gt (IsS66.lt (show IsS66 w _ g564 t562 t571 from by repeat (first|(with_reducible first|exact HI564.out|apply IsS66.alloc|apply IsS66.drewN|apply IsS66.drew|apply IsS66.set_1|refine IsS66.far ?_ NB564_560.out _|refine IsS66.far ?_ NB564_561.out _)|exact HI564.out))):gb572 ≠ g564));clear HO570;clear BK560;clear BK561;clear HI564;clear HB;have HO570:=n0_;have BK560:=n1_;have BK561:=n2_;have HI564:=n3_;have HB:=n4_;have BK572:=n5_;have GW572:=n6_;have GE572:=n7_;have NB560_572:=n8_;have NB572_560:=n9_;have NB561_572:=n10_;have NB572_561:=n11_;have NB564_572:=n12_;have NB572_564:=n13_;clear n0_ n1_ n2_ n3_ n4_ n5_ n6_ n7_ n8_ n9_ n10_ n11_ n12_ n13_;clear hb hbox hg;have hnb12:=NB572_560.out;have hnc12:=NB560_572.out;have hnb13:=NB572_561.out;have hnc13:=NB561_572.out;have hnb14:=NB572_564.out;have hnc14:=NB564_572.out;have hcz15_0:w11.cell? ⟨gb572,0,none⟩=some (.int .i64 0):=(blk_cell BK572.out 0).trans rfl;have hcz15_1:w11.cell? ⟨gb572,1,none⟩=some (.int .i64 0):=(blk_cell BK572.out 1).trans rfl;have hcz15_2:w11.cell? ⟨gb572,2,none⟩=some (.string (⟨#[]⟩:ByteArray)):=(blk_cell BK572.out 2).trans rfl;have hcz15_3:w11.cell? ⟨gb572,3,none⟩=some (.slice none 0 0):=(blk_cell BK572.out 3).trans rfl;have hfz15_0:=blk_frozen BK572.out 0;have hfz15_1:=blk_frozen BK572.out 1;have hfz15_2:=blk_frozen BK572.out 2;have hfz15_3:=blk_frozen BK572.out 3;obtain ⟨Ao16,co16,eo16⟩:=Kd.N_slice HO570.out;subst eo16)|((with_reducible refine gate_callee (f:=55) rfl ?_);refine goesL_ (some 11) rfl rfl Try.func55 (by kernel_rfl) rfl #[.pointer (some ⟨g564,0,none⟩),.int .i64 4] rfl (by (try simp only [List.map_toArray,List.map_cons,List.map_nil]);first|done|rfl|(simp only [List.length_drop,List.length_take];rfl)) ?_;(with_reducible refine (spec_l15Rd_pick.calls k g564 t562 t571 4 t573 t574 w _ ?side1 ?side2 A4.out).mono ?_);(case side1=>repeat (first|(with_reducible first|exact HI564.out|apply IsS66.alloc|apply IsS66.drewN|apply IsS66.drew|apply IsS66.set_1|refine IsS66.far ?_ NB564_560.out _|refine IsS66.far ?_ NB564_561.out _|refine IsS66.far ?_ NB564_572.out _)|exact HI564.out));(case side2=>repeat (first|exact gB HB|refine below_set ?_ (IsS66.ge HI564.out)|refine below_set ?_ GE560.out|refine below_set ?_ GE561.out|refine below_set ?_ GE572.out));rintro e w17 ⟨rfl,hi,hb,hk⟩;refine ⟨_,rfl,?_⟩;have n0_:=Aside0.mk (KeepBut.blk hk (g':=gb560) (o:=.cells #[.int .i64 0,.int .i64 0,.string (⟨#[]⟩:ByteArray),.slice none 0 0] 27 (0,0)) (by (with_reducible repeat (first|refine blk_drewN ?_ _|refine blk_drew ?_|refine blk_alloc ?_ _));refine blk_far ?_ NB560_572.out _;(with_reducible repeat (first|refine blk_drewN ?_ _|refine blk_drew ?_|refine blk_alloc ?_ _));refine blk_far ?_ NB560_572.out _;(with_reducible repeat (first|refine blk_drewN ?_ _|refine blk_drew ?_|refine blk_alloc ?_ _));refine blk_far ?_ NB560_572.out _;(with_reducible repeat (first|refine blk_drewN ?_ _|refine blk_drew ?_|refine blk_alloc ?_ _));refine blk_far ?_ NB560_572.out _;(with_reducible repeat (first|refine blk_drewN ?_ _|refine blk_drew ?_|refine blk_alloc ?_ _));exact BK560.out) NB560_564.out (by simp));have n1_:=Aside0.mk (KeepBut.blk hk (g':=gb561) (o:=.cells #[.int .i64 0,.int .i64 0,.string (⟨#[]⟩:ByteArray),.slice none 0 0] 27 (0,0)) (by (with_reducible repeat (first|refine blk_drewN ?_ _|refine blk_drew ?_|refine blk_alloc ?_ _));refine blk_far ?_ NB561_572.out _;(with_reducible repeat (first|refine blk_drewN ?_ _|refine blk_drew ?_|refine blk_alloc ?_ _));refine blk_far ?_ NB561_572.out _;(with_reducible repeat (first|refine blk_drewN ?_ _|refine blk_drew ?_|refine blk_alloc ?_ _));refine blk_far ?_ NB561_572.out _;(with_reducible repeat (first|refine blk_drewN ?_ _|refine blk_drew ?_|refine blk_alloc ?_ _));refine blk_far ?_ NB561_572.out _;(with_reducible repeat (first|refine blk_drewN ?_ _|refine blk_drew ?_|refine blk_alloc ?_ _));exact BK561.out) NB561_564.out (by simp));have n2_:=Aside0.mk (Kd.N_mono (Kd.N_keep (Kd.N_mono (ok:=fun k_=>((((w.heap.size≤k_))∧(k_ ≠ gb560∧(k_ ≠ gb561∧k_ ≠ g564)))∧k_ ≠ gb572)) (by (with_reducible repeat (first|apply Kd.N_alloc|apply Kd.N_drewN|apply Kd.N_drew));exact (Kd.N_mono (Kd.N_far (p:=⟨gb572,3,none⟩) (Kd.N_far (p:=⟨gb572,2,none⟩) (Kd.N_far (p:=⟨gb572,1,none⟩) (Kd.N_far (p:=⟨gb572,0,none⟩) (Kd.N_mono HO570.out (fun k_ hk=>(⟨hk,hk.2⟩:_∧k_ ≠ gb572))) (fun _ hk=>hk.2) (.int .i64 t565)) (fun _ hk=>hk.2) (.int .i64 t566)) (fun _ hk=>hk.2) (.string t567)) (fun _ hk=>hk.2) (.slice Ao16 t568.length co16)) (fun _ h_=>h_.1))) (fun k_ hk_=>(⟨hk_,hk_.1.2.2.2⟩:_∧k_ ≠ g564))) hk (fun _ h=>h.2)) (fun _ h=>h.1));have n3_:=Aside0.mk (KeepBut.blk hk (g':=gb572) (o:=.cells #[.int .i64 t565,.int .i64 t566,.string t567,.slice Ao16 t568.length co16] 27 (0,0)) (by (with_reducible repeat (first|refine blk_drewN ?_ _|refine blk_drew ?_|refine blk_alloc ?_ _));refine blk_put (cs:=#[.int .i64 t565,.int .i64 t566,.string t567,.slice none 0 0]) ?_ 3 _ rfl;(with_reducible repeat (first|refine blk_drewN ?_ _|refine blk_drew ?_|refine blk_alloc ?_ _));refine blk_put (cs:=#[.int .i64 t565,.int .i64 t566,.string (⟨#[]⟩:ByteArray),.slice none 0 0]) ?_ 2 _ rfl;(with_reducible repeat (first|refine blk_drewN ?_ _|refine blk_drew ?_|refine blk_alloc ?_ _));refine blk_put (cs:=#[.int .i64 t565,.int .i64 0,.string (⟨#[]⟩:ByteArray),.slice none 0 0]) ?_ 1 _ rfl;(with_reducible repeat (first|refine blk_drewN ?_ _|refine blk_drew ?_|refine blk_alloc ?_ _));refine blk_put (cs:=#[.int .i64 0,.int .i64 0,.string (⟨#[]⟩:ByteArray),.slice none 0 0]) ?_ 0 _ rfl;(with_reducible repeat (first|refine blk_drewN ?_ _|refine blk_drew ?_|refine blk_alloc ?_ _));exact BK572.out) NB572_564.out (by simp));have n4_:=Aside0.mk (hb);have n5_:=Aside0.mk (hi);clear BK560;clear BK561;clear HO570;clear BK572;clear HB;clear HI564;have BK560:=n0_;have BK561:=n1_;have HO570:=n2_;have BK572:=n3_;have HB:=n4_;have HI564:=n5_;clear n0_ n1_ n2_ n3_ n4_ n5_;(try clear hb);(try clear hb2);(try clear hk);(try clear hi)))
  have n0_:=Aside0.mk (Kd.N_drew HO570.out)
  have n1_:=Aside0.mk (blk_drew BK560.out)
  have n2_:=Aside0.mk (blk_drew BK561.out)
  have n3_:=Aside0.mk (blk_drew BK572.out)
  have n4_:=Aside0.mk (IsS66.drew HI564.out)
  have n5_:=Aside0.mk (below_drew1 HB.out)
  clear HO570
  clear BK560
  clear BK561
  clear BK572
  clear HI564
  clear HB
  have HO570:=n0_
  have BK560:=n1_
  have BK561:=n2_
  have BK572:=n3_
  have HI564:=n4_
  have HB:=n5_
  clear n0_ n1_ n2_ n3_ n4_ n5_
  refine start_ (n:=5) (S:=fun w'=>w'.cell? ⟨gb572,0,none⟩=some (.int .i64 t565)∧w'.cell? ⟨gb572,1,none⟩=some (.int .i64 t566)∧w'.cell? ⟨gb572,2,none⟩=some (.string t567)∧w'.cell? ⟨gb572,3,none⟩=some (.slice Ao16 t568.length co16)) (ds:=[]) #[false,false,false,false,false] (by kernel_rfl) rfl rfl ⟨(blk_cell BK572.out 0).trans rfl,(blk_cell BK572.out 1).trans rfl,(blk_cell BK572.out 2).trans rfl,(blk_cell BK572.out 3).trans rfl⟩ (fun hHeld=>?_)
  generalize w17.drew=w18 at HO570 BK560 BK561 BK572 HI564 HB hHeld ⊢
  refine pure_ (i:=1) (N:=some 14) (v:=?_) (a':=?_) #[false,true,false,false,false] rfl rfl (by kernel_rfl) (fun _ _ _ h=>h) (Or.inl ⟨by rfl,?_⟩) ?_ ?_
  rotate_left
  ·intro w'
   go_simp
   with_reducible rfl
  rotate_left
  ·simp only [Act.put,List.setIfInBounds_toArray,List.set_cons_zero,List.set_cons_succ,i64_w,i32_w]
   rfl
  refine take_ (i:=0) (N:=some 13) (v:=?_) (a':=?_) #[true,true,false,false,false] rfl rfl (by kernel_rfl) (fun _ _ _ h=>h) (Or.inl ⟨by rfl,?_⟩) hHeld ?_ ?_
  rotate_left
  ·rintro w' ⟨s0,s1,s2,s3⟩
   go_simp
   with_reducible rfl
  rotate_left
  ·simp only [Act.put,List.setIfInBounds_toArray,List.set_cons_zero,List.set_cons_succ,i64_w,i32_w]
   rfl
  refine one_ (i:=2) (N:=some 15) #[true,true,true,false,false] rfl rfl (by kernel_rfl) (by decide) (fun K hK=>?_)
  refine goes_ Try.func51 (by kernel_rfl) rfl #[.pointer (some ⟨g564,0,none⟩)] (by rfl) rfl rfl (by (try simp only [List.map_toArray,List.map_cons,List.map_nil]);first|done|rfl|(simp only [List.length_drop,List.length_take];rfl)) ?_
  with_reducible refine (spec_l1Draw.calls k g564 t562 t574 t575 t576 t577 t578 t581 w _ ?side1 ?side2 A6.out).mono ?_
  (case side1=>repeat (first|(with_reducible first|exact HI564.out|apply IsS66.alloc|apply IsS66.drewN|apply IsS66.drew|apply IsS66.set_1|refine IsS66.far ?_ NB564_560.out _|refine IsS66.far ?_ NB564_561.out _|refine IsS66.far ?_ NB564_572.out _)|exact HI564.out))
  (case side2=>repeat (first|exact gB HB|refine below_set ?_ (IsS66.ge HI564.out)|refine below_set ?_ GE560.out|refine below_set ?_ GE561.out|refine below_set ?_ GE572.out))
  rintro e w19 ⟨v579,rfl,ho0,hi,hb,hk⟩
  refine ⟨_,rfl,?_⟩
  have n0_:=Aside0.mk (KeepBut.blk hk (g':=gb560) (o:=.cells #[.int .i64 0,.int .i64 0,.string (⟨#[]⟩:ByteArray),.slice none 0 0] 27 (0,0)) (gK BK560) NB560_564.out (by simp))
  have n1_:=Aside0.mk (KeepBut.blk hk (g':=gb561) (o:=.cells #[.int .i64 0,.int .i64 0,.string (⟨#[]⟩:ByteArray),.slice none 0 0] 27 (0,0)) (gK BK561) NB561_564.out (by simp))
  have n2_:=Aside0.mk (Kd.N_mono (Kd.N_told (Kd.N_oldK (Kd.N_mono (ok:=fun k_=>((((w.heap.size≤k_))∧(k_ ≠ gb560∧(k_ ≠ gb561∧k_ ≠ g564)))∧k_ ≠ gb572)) (gN HO570) (fun k_ hk_=>(⟨hk_,hk_.1.2.2.2⟩:_∧k_ ≠ g564))) hk) (Kd.N_base ho0)) (fun _ h_=>h_.1))
  have n3_:=Aside0.mk (KeepBut.blk hk (g':=gb572) (o:=.cells #[.int .i64 t565,.int .i64 t566,.string t567,.slice Ao16 t568.length co16] 27 (0,0)) (gK BK572) NB572_564.out (by simp))
  have n4_:=Aside0.mk (Kd.N_lower (Kd.N_mono (ok':=fun k_=>(w.heap.size≤k_)∧some k_ ≠ (.slice Ao16 t568.length co16:Value).ownBlock∧k_ ≠ gb560∧k_ ≠ gb561∧k_ ≠ gb572∧k_ ≠ g564) ho0 (fun k_ hk_=>⟨(Nat.le_trans (below_size (by repeat (first|exact gB HB|refine below_set ?_ (IsS66.ge HI564.out)|refine below_set ?_ GE560.out|refine below_set ?_ GE561.out|refine below_set ?_ GE572.out))) hk_),(Kd.fresh' (Kd.N_lt (gN HO570)) k_ hk_),(Kd.freshB (g:=gb560) (o:=.cells #[.int .i64 0,.int .i64 0,.string (⟨#[]⟩:ByteArray),.slice none 0 0] 27 (0,0)) (gK BK560) k_ hk_),(Kd.freshB (g:=gb561) (o:=.cells #[.int .i64 0,.int .i64 0,.string (⟨#[]⟩:ByteArray),.slice none 0 0] 27 (0,0)) (gK BK561) k_ hk_),(Kd.freshB (g:=gb572) (o:=.cells #[.int .i64 t565,.int .i64 t566,.string t567,.slice Ao16 t568.length co16] 27 (0,0)) (gK BK572) k_ hk_),(IsS66.fresh (by repeat (first|(with_reducible first|exact HI564.out|apply IsS66.alloc|apply IsS66.drewN|apply IsS66.drew|apply IsS66.set_1|refine IsS66.far ?_ NB564_560.out _|refine IsS66.far ?_ NB564_561.out _|refine IsS66.far ?_ NB564_572.out _)|exact HI564.out)) k_ hk_)⟩)) (below_size (by repeat (first|exact gB HB|refine below_set ?_ (IsS66.ge HI564.out)|refine below_set ?_ GE560.out|refine below_set ?_ GE561.out|refine below_set ?_ GE572.out))))
  have n5_:=Aside0.mk (hb)
  have n6_:=Aside0.mk (hi)
  clear BK560
  clear BK561
  clear HO570
  clear BK572
  clear HB
  clear HI564
  have BK560:=n0_
  have BK561:=n1_
  have HO570:=n2_
  have BK572:=n3_
  have HO580:=n4_
  have HB:=n5_
  have HI564:=n6_
  clear n0_ n1_ n2_ n3_ n4_ n5_ n6_
  (try clear hb)
  (try clear hb2)
  (try clear hk)
  (try clear hi)
  (try clear ho0)
  obtain ⟨Ao27,co27,eo27⟩:=Kd.N_slice HO580.out
  (first|subst eo27|(injection eo27 with f1_ f2_ f3_;have f4_:=f1_.symm;have f5_:=f3_.symm;clear f1_ f2_ f3_;subst f4_;subst f5_))
  refine hK.out _ _ ⟨(blk_cell BK572.out 0).trans rfl,(blk_cell BK572.out 1).trans rfl,(blk_cell BK572.out 2).trans rfl,(blk_cell BK572.out 3).trans rfl⟩ (fun hHeld=>?_)
  clear hK K
  refine norm_ (a':=?_) ?_ ?_
  rotate_left
  ·show Act.put _ (some 15) _=_
   simp only [Act.put,List.setIfInBounds_toArray,List.set_cons_zero,List.set_cons_succ,i64_w,i32_w]
   rfl
  refine one_ (i:=3) (N:=none) #[true,true,true,true,false] rfl rfl (by kernel_rfl) (by decide) (fun K hK=>?_)
  have hs20:w19.cell? ⟨gb560,0,none⟩=some (.int .i64 0):=(blk_cell BK560.out 0).trans rfl
  have hfs20:=blk_frozen BK560.out 0
  have hns20_1:=NB561_560.out
  have hns20_2:=NB572_560.out
  have hms20_1:=NB560_561.out
  have hms20_2:=NB560_572.out
  have hs21:w19.cell? ⟨gb560,1,none⟩=some (.int .i64 0):=(blk_cell BK560.out 1).trans rfl
  have hfs21:=blk_frozen BK560.out 1
  have hns21_1:=NB561_560.out
  have hns21_2:=NB572_560.out
  have hms21_1:=NB560_561.out
  have hms21_2:=NB560_572.out
  have hs22:w19.cell? ⟨gb560,2,none⟩=some (.string (⟨#[]⟩:ByteArray)):=(blk_cell BK560.out 2).trans rfl
  have hfs22:=blk_frozen BK560.out 2
  have hns22_1:=NB561_560.out
  have hns22_2:=NB572_560.out
  have hms22_1:=NB560_561.out
  have hms22_2:=NB560_572.out
  have hs23:w19.cell? ⟨gb560,3,none⟩=some (.slice none 0 0):=(blk_cell BK560.out 3).trans rfl
  have hfs23:=blk_frozen BK560.out 3
  have hns23_1:=NB561_560.out
  have hns23_2:=NB572_560.out
  have hms23_1:=NB560_561.out
  have hms23_2:=NB560_572.out
  refine skip_ (w1:=?_) (by rfl) rfl ?_ ?_
  rotate_left
  ·go_simp
   rfl
  refine hK.out _ _ ⟨((cell_far (p:=⟨gb560,_,none⟩) NB572_560.out _).trans (((cell_far (p:=⟨gb560,_,none⟩) NB572_560.out _).trans (((cell_far (p:=⟨gb560,_,none⟩) NB572_560.out _).trans (((cell_far (p:=⟨gb560,_,none⟩) NB572_560.out _).trans (hHeld.1)))))))),((cell_far (p:=⟨gb560,_,none⟩) NB572_560.out _).trans (((cell_far (p:=⟨gb560,_,none⟩) NB572_560.out _).trans (((cell_far (p:=⟨gb560,_,none⟩) NB572_560.out _).trans (((cell_far (p:=⟨gb560,_,none⟩) NB572_560.out _).trans (hHeld.2.1)))))))),((cell_far (p:=⟨gb560,_,none⟩) NB572_560.out _).trans (((cell_far (p:=⟨gb560,_,none⟩) NB572_560.out _).trans (((cell_far (p:=⟨gb560,_,none⟩) NB572_560.out _).trans (((cell_far (p:=⟨gb560,_,none⟩) NB572_560.out _).trans (hHeld.2.2.1)))))))),((cell_far (p:=⟨gb560,_,none⟩) NB572_560.out _).trans (((cell_far (p:=⟨gb560,_,none⟩) NB572_560.out _).trans (((cell_far (p:=⟨gb560,_,none⟩) NB572_560.out _).trans (((cell_far (p:=⟨gb560,_,none⟩) NB572_560.out _).trans (hHeld.2.2.2))))))))⟩ (fun hHeld=>?_)
  clear hK K
  refine one_ (i:=4) (N:=none) #[true,true,true,true,true] rfl rfl (by kernel_rfl) (by decide) (fun K hK=>?_)
  have hs24:w19.cell? ⟨gb561,0,none⟩=some (.int .i64 0):=(blk_cell BK561.out 0).trans rfl
  have hfs24:=blk_frozen BK561.out 0
  have hns24_0:=NB560_561.out
  have hns24_2:=NB572_561.out
  have hms24_0:=NB561_560.out
  have hms24_2:=NB561_572.out
  have hs25:w19.cell? ⟨gb561,1,none⟩=some (.int .i64 0):=(blk_cell BK561.out 1).trans rfl
  have hfs25:=blk_frozen BK561.out 1
  have hns25_0:=NB560_561.out
  have hns25_2:=NB572_561.out
  have hms25_0:=NB561_560.out
  have hms25_2:=NB561_572.out
  have hs26:w19.cell? ⟨gb561,2,none⟩=some (.string (⟨#[]⟩:ByteArray)):=(blk_cell BK561.out 2).trans rfl
  have hfs26:=blk_frozen BK561.out 2
  have hns26_0:=NB560_561.out
  have hns26_2:=NB572_561.out
  have hms26_0:=NB561_560.out
  have hms26_2:=NB561_572.out
  have hs28:w19.cell? ⟨gb561,3,none⟩=some (.slice none 0 0):=(blk_cell BK561.out 3).trans rfl
  have hfs28:=blk_frozen BK561.out 3
  have hns28_0:=NB560_561.out
  have hns28_2:=NB572_561.out
  have hms28_0:=NB561_560.out
  have hms28_2:=NB561_572.out
  refine skip_ (w1:=?_) (by rfl) rfl ?_ ?_
  rotate_left
  ·go_simp
   rfl
  refine hK.out _ _ ⟨((cell_far (p:=⟨gb561,_,none⟩) NB572_561.out _).trans (((cell_far (p:=⟨gb561,_,none⟩) NB572_561.out _).trans (((cell_far (p:=⟨gb561,_,none⟩) NB572_561.out _).trans (((cell_far (p:=⟨gb561,_,none⟩) NB572_561.out _).trans (hHeld.1)))))))),((cell_far (p:=⟨gb561,_,none⟩) NB572_561.out _).trans (((cell_far (p:=⟨gb561,_,none⟩) NB572_561.out _).trans (((cell_far (p:=⟨gb561,_,none⟩) NB572_561.out _).trans (((cell_far (p:=⟨gb561,_,none⟩) NB572_561.out _).trans (hHeld.2.1)))))))),((cell_far (p:=⟨gb561,_,none⟩) NB572_561.out _).trans (((cell_far (p:=⟨gb561,_,none⟩) NB572_561.out _).trans (((cell_far (p:=⟨gb561,_,none⟩) NB572_561.out _).trans (((cell_far (p:=⟨gb561,_,none⟩) NB572_561.out _).trans (hHeld.2.2.1)))))))),((cell_far (p:=⟨gb561,_,none⟩) NB572_561.out _).trans (((cell_far (p:=⟨gb561,_,none⟩) NB572_561.out _).trans (((cell_far (p:=⟨gb561,_,none⟩) NB572_561.out _).trans (((cell_far (p:=⟨gb561,_,none⟩) NB572_561.out _).trans (hHeld.2.2.2))))))))⟩ (fun hHeld=>?_)
  clear hK K
  refine done_ (by kernel_rfl) ?_
  try go_wp2
  refine bodyPost_ret (results_cc rfl _ _ gb560 gb561 27 27 #[.int .i64 t565,.int .i64 t566,.string t567,.slice Ao16 t568.length co16] #[.int .i64 t575,.int .i64 t576,.string t577,.slice Ao27 t578.length co27] (0,0) (0,0) _ _ rfl (by (with_reducible repeat (first|refine blk_drewN ?_ _|refine blk_drew ?_|refine blk_alloc ?_ _));refine blk_far ?_ NB560_561.out _;(with_reducible repeat (first|refine blk_drewN ?_ _|refine blk_drew ?_|refine blk_alloc ?_ _));refine blk_far ?_ NB560_561.out _;(with_reducible repeat (first|refine blk_drewN ?_ _|refine blk_drew ?_|refine blk_alloc ?_ _));refine blk_far ?_ NB560_561.out _;(with_reducible repeat (first|refine blk_drewN ?_ _|refine blk_drew ?_|refine blk_alloc ?_ _));refine blk_far ?_ NB560_561.out _;(with_reducible repeat (first|refine blk_drewN ?_ _|refine blk_drew ?_|refine blk_alloc ?_ _));refine blk_put (cs:=#[.int .i64 t565,.int .i64 t566,.string t567,.slice none 0 0]) ?_ 3 _ rfl;(with_reducible repeat (first|refine blk_drewN ?_ _|refine blk_drew ?_|refine blk_alloc ?_ _));refine blk_put (cs:=#[.int .i64 t565,.int .i64 t566,.string (⟨#[]⟩:ByteArray),.slice none 0 0]) ?_ 2 _ rfl;(with_reducible repeat (first|refine blk_drewN ?_ _|refine blk_drew ?_|refine blk_alloc ?_ _));refine blk_put (cs:=#[.int .i64 t565,.int .i64 0,.string (⟨#[]⟩:ByteArray),.slice none 0 0]) ?_ 1 _ rfl;(with_reducible repeat (first|refine blk_drewN ?_ _|refine blk_drew ?_|refine blk_alloc ?_ _));refine blk_put (cs:=#[.int .i64 0,.int .i64 0,.string (⟨#[]⟩:ByteArray),.slice none 0 0]) ?_ 0 _ rfl;(with_reducible repeat (first|refine blk_drewN ?_ _|refine blk_drew ?_|refine blk_alloc ?_ _));exact BK560.out) Try.underlying27 rfl (by kernel_rfl) rfl (by (with_reducible repeat (first|refine blk_drewN ?_ _|refine blk_drew ?_|refine blk_alloc ?_ _));refine blk_put (cs:=#[.int .i64 t575,.int .i64 t576,.string t577,.slice none 0 0]) ?_ 3 _ rfl;(with_reducible repeat (first|refine blk_drewN ?_ _|refine blk_drew ?_|refine blk_alloc ?_ _));refine blk_put (cs:=#[.int .i64 t575,.int .i64 t576,.string (⟨#[]⟩:ByteArray),.slice none 0 0]) ?_ 2 _ rfl;(with_reducible repeat (first|refine blk_drewN ?_ _|refine blk_drew ?_|refine blk_alloc ?_ _));refine blk_put (cs:=#[.int .i64 t575,.int .i64 0,.string (⟨#[]⟩:ByteArray),.slice none 0 0]) ?_ 1 _ rfl;(with_reducible repeat (first|refine blk_drewN ?_ _|refine blk_drew ?_|refine blk_alloc ?_ _));refine blk_put (cs:=#[.int .i64 0,.int .i64 0,.string (⟨#[]⟩:ByteArray),.slice none 0 0]) ?_ 0 _ rfl;(with_reducible repeat (first|refine blk_drewN ?_ _|refine blk_drew ?_|refine blk_alloc ?_ _));refine blk_far ?_ NB561_560.out _;(with_reducible repeat (first|refine blk_drewN ?_ _|refine blk_drew ?_|refine blk_alloc ?_ _));refine blk_far ?_ NB561_560.out _;(with_reducible repeat (first|refine blk_drewN ?_ _|refine blk_drew ?_|refine blk_alloc ?_ _));refine blk_far ?_ NB561_560.out _;(with_reducible repeat (first|refine blk_drewN ?_ _|refine blk_drew ?_|refine blk_alloc ?_ _));refine blk_far ?_ NB561_560.out _;(with_reducible repeat (first|refine blk_drewN ?_ _|refine blk_drew ?_|refine blk_alloc ?_ _));exact BK561.out) Try.underlying27 rfl (by kernel_rfl)) rfl ?_
  exact ⟨_,_,by first|rfl|(simp [errW_none,errW_some] <;> rfl)|(simp [*,errW_none,errW_some] <;> rfl),by (with_reducible repeat (first|apply Kd.N_alloc|apply Kd.N_drewN|apply Kd.N_drew));exact Kd.N_mono (Kd.N_far (p:=⟨gb561,3,none⟩) (Kd.N_far (p:=⟨gb561,2,none⟩) (Kd.N_far (p:=⟨gb561,1,none⟩) (Kd.N_far (p:=⟨gb561,0,none⟩) (Kd.N_far (p:=⟨gb560,3,none⟩) (Kd.N_far (p:=⟨gb560,2,none⟩) (Kd.N_far (p:=⟨gb560,1,none⟩) (Kd.N_far (p:=⟨gb560,0,none⟩) (Kd.N_mono (Kd.N_mono HO570.out (fun k_ hk=>(⟨hk,hk.1.1.2.1⟩:_∧k_ ≠ gb560))) (fun k_ hk=>(⟨hk,hk.1.1.1.2.2.1⟩:_∧k_ ≠ gb561))) (fun _ hk=>hk.1.2) (.int .i64 t565)) (fun _ hk=>hk.1.2) (.int .i64 t566)) (fun _ hk=>hk.1.2) (.string t567)) (fun _ hk=>hk.1.2) (.slice Ao16 t568.length co16)) (fun _ hk=>hk.2) (.int .i64 t575)) (fun _ hk=>hk.2) (.int .i64 t576)) (fun _ hk=>hk.2) (.string t577)) (fun _ hk=>hk.2) (.slice Ao27 t578.length co27)) (fun _ hk=>⟨hk.1.1.1.1.1,hk.1.1.2⟩),by (with_reducible repeat (first|apply Kd.N_alloc|apply Kd.N_drewN|apply Kd.N_drew));exact Kd.N_mono (Kd.N_far (p:=⟨gb561,3,none⟩) (Kd.N_far (p:=⟨gb561,2,none⟩) (Kd.N_far (p:=⟨gb561,1,none⟩) (Kd.N_far (p:=⟨gb561,0,none⟩) (Kd.N_far (p:=⟨gb560,3,none⟩) (Kd.N_far (p:=⟨gb560,2,none⟩) (Kd.N_far (p:=⟨gb560,1,none⟩) (Kd.N_far (p:=⟨gb560,0,none⟩) (Kd.N_mono (Kd.N_mono HO580.out (fun k_ hk=>(⟨hk,hk.2.2.1⟩:_∧k_ ≠ gb560))) (fun k_ hk=>(⟨hk,hk.1.2.2.2.1⟩:_∧k_ ≠ gb561))) (fun _ hk=>hk.1.2) (.int .i64 t565)) (fun _ hk=>hk.1.2) (.int .i64 t566)) (fun _ hk=>hk.1.2) (.string t567)) (fun _ hk=>hk.1.2) (.slice Ao16 t568.length co16)) (fun _ hk=>hk.2) (.int .i64 t575)) (fun _ hk=>hk.2) (.int .i64 t576)) (fun _ hk=>hk.2) (.string t577)) (fun _ hk=>hk.2) (.slice Ao27 t578.length co27)) (fun _ hk=>⟨hk.1.1.1,hk.1.1.2.1⟩),by repeat (first|exact gB HB|refine below_set ?_ (IsS66.ge HI564.out)|refine below_set ?_ GE560.out|refine below_set ?_ GE561.out|refine below_set ?_ GE572.out)⟩
 ·rw [if_neg c5] at H
  have c5b0:(t573 == 0)=false:=beq_eq_false_iff_ne.mpr c5
  have c5b1:(t573 != 0)=true:=bne_iff_ne.mpr c5
  replace H:=Option.bind_eq_some_iff.mp H
  obtain ⟨⟨t582,t583,t584,t585,t588⟩,A290,H⟩:=H
  replace H:((spec_l1Mutate.f k t562 t588 t582 t583 t584 t585).bind fun bt589=>(some (t565,t566,t567,t568,bt589.1,bt589.2.1,bt589.2.2.1,bt589.2.2.2.1)))=some (r1,r2,r3,r4,r5,r6,r7,r8):=H
  have A29:=Aside0.mk A290
  clear A290
  replace H:=Option.bind_eq_some_iff.mp H
  obtain ⟨⟨t589,t590,t591,t592,t595⟩,A300,H⟩:=H
  replace H:(some (t565,t566,t567,t568,t589,t590,t591,t592))=some (r1,r2,r3,r4,r5,r6,r7,r8):=H
  have A30:=Aside0.mk A300
  clear A300
  simp only [Option.some.injEq,Prod.mk.injEq] at H
  obtain ⟨rfl,rfl,rfl,rfl,rfl,rfl,rfl,rfl⟩:=H
  go_enter Try.func31,Try.ntmps31
  try go_wp2_with (first|((with_reducible refine gate_dst (N:=2) rfl ?_);refine box_event ?hg (N:=2) ?hd (cs:=#[.int .i64 0,.int .i64 0,.string (⟨#[]⟩:ByteArray),.slice none 0 0]) (t:=27) ?hr ?_;(case hd=>rfl);(case hg=>rfl);(case hr=>first|(go_simp;done)|(go_simp;rfl));intro gb560 hg w31 hbox hb;have n0_:=Aside0.mk (below_step (gB HB) hb);have n1_:=Aside0.mk (hbox);have n2_:=Aside0.mk ((by rw [hg];exact (below_size (gB HB)):w.heap.size≤gb560));have n3_:=Aside0.mk ((by rw [hg];exact (below_size (gB HB)):w.heap.size≤gb560));clear HB;have HB:=n0_;have BK560:=n1_;have GW560:=n2_;have GE560:=n3_;clear n0_ n1_ n2_ n3_;clear hb hbox hg)|((with_reducible refine gate_dst (N:=3) rfl ?_);refine box_event ?hg (N:=3) ?hd (cs:=#[.int .i64 0,.int .i64 0,.string (⟨#[]⟩:ByteArray),.slice none 0 0]) (t:=27) ?hr ?_;(case hd=>rfl);(case hg=>rfl);(case hr=>first|(go_simp;done)|(go_simp;rfl));intro gb561 hg w32 hbox hb;have n0_:=Aside0.mk (blk_below (g:=gb560) (o:=.cells #[.int .i64 0,.int .i64 0,.string (⟨#[]⟩:ByteArray),.slice none 0 0] 27 (0,0)) (gK BK560) hb);have n1_:=Aside0.mk (below_step (by repeat (first|exact gB HB|refine below_set ?_ GE560.out)) hb);have n2_:=Aside0.mk (hbox);have n3_:=Aside0.mk ((by rw [hg];exact (below_size (by repeat (first|exact gB HB|refine below_set ?_ GE560.out))):w.heap.size≤gb561));have n4_:=Aside0.mk ((by rw [hg];exact (below_size (by repeat (first|exact gB HB|refine below_set ?_ GE560.out))):w.heap.size≤gb561));have n5_:=Aside0.mk ((by rw [hg];exact Nat.ne_of_lt (blk_lt (g:=gb560) (o:=.cells #[.int .i64 0,.int .i64 0,.string (⟨#[]⟩:ByteArray),.slice none 0 0] 27 (0,0)) (gK BK560)):gb560 ≠ gb561));have n6_:=Aside0.mk ((by rw [hg];exact Nat.ne_of_gt (blk_lt (g:=gb560) (o:=.cells #[.int .i64 0,.int .i64 0,.string (⟨#[]⟩:ByteArray),.slice none 0 0] 27 (0,0)) (gK BK560)):gb561 ≠ gb560));clear BK560;clear HB;have BK560:=n0_;have HB:=n1_;have BK561:=n2_;have GW561:=n3_;have GE561:=n4_;have NB560_561:=n5_;have NB561_560:=n6_;clear n0_ n1_ n2_ n3_ n4_ n5_ n6_;clear hb hbox hg)|((with_reducible refine gate_callee (f:=44) rfl ?_);refine goesL_ (some 7) rfl rfl Try.func44 (by kernel_rfl) rfl #[.slice A0 l0.length c0] rfl (by (try simp only [List.map_toArray,List.map_cons,List.map_nil]);first|done|rfl|(simp only [List.length_drop,List.length_take];rfl)) ?_;(with_reducible refine (spec_l15Open.calls _ _ l0 t562 t563 w _ ?side1 ?side2 ?side3 A2.out).mono ?_);(case side1=>repeat (first|exact gB HB|refine below_set ?_ GE560.out|refine below_set ?_ GE561.out));(case side2=>exact HR0.out);(case side3=>exact HC0.out);rintro e w33 ⟨g564,rfl,hi,hb,hb2⟩;refine ⟨_,rfl,?_⟩;have n0_:=Aside0.mk (blk_below (g:=gb560) (o:=.cells #[.int .i64 0,.int .i64 0,.string (⟨#[]⟩:ByteArray),.slice none 0 0] 27 (0,0)) (gK BK560) hb2);have n1_:=Aside0.mk (blk_below (g:=gb561) (o:=.cells #[.int .i64 0,.int .i64 0,.string (⟨#[]⟩:ByteArray),.slice none 0 0] 27 (0,0)) (gK BK561) hb2);have n2_:=Aside0.mk (hb);have n3_:=Aside0.mk (hi);have n4_:=Aside0.mk (IsS66.ne_blk hi (blk_below (g:=gb560) (o:=.cells #[.int .i64 0,.int .i64 0,.string (⟨#[]⟩:ByteArray),.slice none 0 0] 27 (0,0)) (gK BK560) hb2) (by decide));have n5_:=Aside0.mk (Ne.symm (IsS66.ne_blk hi (blk_below (g:=gb560) (o:=.cells #[.int .i64 0,.int .i64 0,.string (⟨#[]⟩:ByteArray),.slice none 0 0] 27 (0,0)) (gK BK560) hb2) (by decide)));have n6_:=Aside0.mk (IsS66.ne_blk hi (blk_below (g:=gb561) (o:=.cells #[.int .i64 0,.int .i64 0,.string (⟨#[]⟩:ByteArray),.slice none 0 0] 27 (0,0)) (gK BK561) hb2) (by decide));have n7_:=Aside0.mk (Ne.symm (IsS66.ne_blk hi (blk_below (g:=gb561) (o:=.cells #[.int .i64 0,.int .i64 0,.string (⟨#[]⟩:ByteArray),.slice none 0 0] 27 (0,0)) (gK BK561) hb2) (by decide)));clear BK560;clear BK561;clear HB;have BK560:=n0_;have BK561:=n1_;have HB:=n2_;have HI564:=n3_;have NB564_560:=n4_;have NB560_564:=n5_;have NB564_561:=n6_;have NB561_564:=n7_;clear n0_ n1_ n2_ n3_ n4_ n5_ n6_ n7_;(try clear hb);(try clear hb2);(try clear hk);(try clear hi))|((with_reducible refine gate_callee (f:=51) rfl ?_);refine goesL_ (some 9) rfl rfl Try.func51 (by kernel_rfl) rfl #[.pointer (some ⟨g564,0,none⟩)] rfl (by (try simp only [List.map_toArray,List.map_cons,List.map_nil]);first|done|rfl|(simp only [List.length_drop,List.length_take];rfl)) ?_;(with_reducible refine (spec_l1Draw.calls k g564 t562 t563 t565 t566 t567 t568 t571 w _ ?side1 ?side2 A3.out).mono ?_);(case side1=>repeat (first|(with_reducible first|exact HI564.out|apply IsS66.alloc|apply IsS66.drewN|apply IsS66.drew|apply IsS66.set_1|refine IsS66.far ?_ NB564_560.out _|refine IsS66.far ?_ NB564_561.out _)|exact HI564.out));(case side2=>repeat (first|exact gB HB|refine below_set ?_ (IsS66.ge HI564.out)|refine below_set ?_ GE560.out|refine below_set ?_ GE561.out));rintro e w34 ⟨v569,rfl,ho0,hi,hb,hk⟩;refine ⟨_,rfl,?_⟩;have n0_:=Aside0.mk (KeepBut.blk hk (g':=gb560) (o:=.cells #[.int .i64 0,.int .i64 0,.string (⟨#[]⟩:ByteArray),.slice none 0 0] 27 (0,0)) (gK BK560) NB560_564.out (by simp));have n1_:=Aside0.mk (KeepBut.blk hk (g':=gb561) (o:=.cells #[.int .i64 0,.int .i64 0,.string (⟨#[]⟩:ByteArray),.slice none 0 0] 27 (0,0)) (gK BK561) NB561_564.out (by simp));have n2_:=Aside0.mk (Kd.N_lower (Kd.N_mono (ok':=fun k_=>(w.heap.size≤k_)∧k_ ≠ gb560∧k_ ≠ gb561∧k_ ≠ g564) ho0 (fun k_ hk_=>⟨(Nat.le_trans (below_size (by repeat (first|exact gB HB|refine below_set ?_ (IsS66.ge HI564.out)|refine below_set ?_ GE560.out|refine below_set ?_ GE561.out))) hk_),(Kd.freshB (g:=gb560) (o:=.cells #[.int .i64 0,.int .i64 0,.string (⟨#[]⟩:ByteArray),.slice none 0 0] 27 (0,0)) (gK BK560) k_ hk_),(Kd.freshB (g:=gb561) (o:=.cells #[.int .i64 0,.int .i64 0,.string (⟨#[]⟩:ByteArray),.slice none 0 0] 27 (0,0)) (gK BK561) k_ hk_),(IsS66.fresh (by repeat (first|(with_reducible first|exact HI564.out|apply IsS66.alloc|apply IsS66.drewN|apply IsS66.drew|apply IsS66.set_1|refine IsS66.far ?_ NB564_560.out _|refine IsS66.far ?_ NB564_561.out _)|exact HI564.out)) k_ hk_)⟩)) (below_size (by repeat (first|exact gB HB|refine below_set ?_ (IsS66.ge HI564.out)|refine below_set ?_ GE560.out|refine below_set ?_ GE561.out))));have n3_:=Aside0.mk (hb);have n4_:=Aside0.mk (hi);clear BK560;clear BK561;clear HB;clear HI564;have BK560:=n0_;have BK561:=n1_;have HO570:=n2_;have HB:=n3_;have HI564:=n4_;clear n0_ n1_ n2_ n3_ n4_;(try clear hb);(try clear hb2);(try clear hk);(try clear hi);(try clear ho0))|((with_reducible refine gate_dst (N:=5) rfl ?_);refine box_event ?hg (N:=5) ?hd (cs:=#[.int .i64 0,.int .i64 0,.string (⟨#[]⟩:ByteArray),.slice none 0 0]) (t:=27) ?hr ?_;(case hd=>rfl);(case hg=>rfl);(case hr=>first|(go_simp;done)|(go_simp;rfl));intro gb572 hg w35 hbox hb;have n0_:=Aside0.mk (Kd.N_below (Kd.N_elderB (gN HO570) gb572 (Nat.le_of_eq hg.symm)) hb);have n1_:=Aside0.mk (blk_below (g:=gb560) (o:=.cells #[.int .i64 0,.int .i64 0,.string (⟨#[]⟩:ByteArray),.slice none 0 0] 27 (0,0)) (gK BK560) hb);have n2_:=Aside0.mk (blk_below (g:=gb561) (o:=.cells #[.int .i64 0,.int .i64 0,.string (⟨#[]⟩:ByteArray),.slice none 0 0] 27 (0,0)) (gK BK561) hb);have n3_:=Aside0.mk (IsS66.below (by repeat (first|(with_reducible first|exact HI564.out|apply IsS66.alloc|apply IsS66.drewN|apply IsS66.drew|apply IsS66.set_1|refine IsS66.far ?_ NB564_560.out _|refine IsS66.far ?_ NB564_561.out _)|exact HI564.out)) hb);have n4_:=Aside0.mk (below_step (by repeat (first|exact gB HB|refine below_set ?_ (IsS66.ge HI564.out)|refine below_set ?_ GE560.out|refine below_set ?_ GE561.out)) hb);have n5_:=Aside0.mk (hbox);have n6_:=Aside0.mk ((by rw [hg];exact (below_size (by repeat (first|exact gB HB|refine below_set ?_ (IsS66.ge HI564.out)|refine below_set ?_ GE560.out|refine below_set ?_ GE561.out))):w.heap.size≤gb572));have n7_:=Aside0.mk ((by rw [hg];exact (below_size (by repeat (first|exact gB HB|refine below_set ?_ (IsS66.ge HI564.out)|refine below_set ?_ GE560.out|refine below_set ?_ GE561.out))):w.heap.size≤gb572));have n8_:=Aside0.mk ((by rw [hg];exact Nat.ne_of_lt (blk_lt (g:=gb560) (o:=.cells #[.int .i64 0,.int .i64 0,.string (⟨#[]⟩:ByteArray),.slice none 0 0] 27 (0,0)) (gK BK560)):gb560 ≠ gb572));have n9_:=Aside0.mk ((by rw [hg];exact Nat.ne_of_gt (blk_lt (g:=gb560) (o:=.cells #[.int .i64 0,.int .i64 0,.string (⟨#[]⟩:ByteArray),.slice none 0 0] 27 (0,0)) (gK BK560)):gb572 ≠ gb560));have n10_:=Aside0.mk ((by rw [hg];exact Nat.ne_of_lt (blk_lt (g:=gb561) (o:=.cells #[.int .i64 0,.int .i64 0,.string (⟨#[]⟩:ByteArray),.slice none 0 0] 27 (0,0)) (gK BK561)):gb561 ≠ gb572));have n11_:=Aside0.mk ((by rw [hg];exact Nat.ne_of_gt (blk_lt (g:=gb561) (o:=.cells #[.int .i64 0,.int .i64 0,.string (⟨#[]⟩:ByteArray),.slice none 0 0] 27 (0,0)) (gK BK561)):gb572 ≠ gb561));have n12_:=Aside0.mk ((by rw [hg];exact Nat.ne_of_lt (IsS66.lt (show IsS66 w _ g564 t562 t571 from by repeat (first|(with_reducible first|exact HI564.out|apply IsS66.alloc|apply IsS66.drewN|apply IsS66.drew|apply IsS66.set_1|refine IsS66.far ?_ NB564_560.out _|refine IsS66.far ?_ NB564_561.out _)|exact HI564.out))):g564 ≠ gb572));have n13_:=Aside0.mk ((by rw [hg];exact Nat.ne_of_gt (IsS66.lt (show IsS66 w _ g564 t562 t571 from by repeat (first|(with_reducible first|exact HI564.out|apply IsS66.alloc|apply IsS66.drewN|apply IsS66.drew|apply IsS66.set_1|refine IsS66.far ?_ NB564_560.out _|refine IsS66.far ?_ NB564_561.out _)|exact HI564.out))):gb572 ≠ g564));clear HO570;clear BK560;clear BK561;clear HI564;clear HB;have HO570:=n0_;have BK560:=n1_;have BK561:=n2_;have HI564:=n3_;have HB:=n4_;have BK572:=n5_;have GW572:=n6_;have GE572:=n7_;have NB560_572:=n8_;have NB572_560:=n9_;have NB561_572:=n10_;have NB572_561:=n11_;have NB564_572:=n12_;have NB572_564:=n13_;clear n0_ n1_ n2_ n3_ n4_ n5_ n6_ n7_ n8_ n9_ n10_ n11_ n12_ n13_;clear hb hbox hg;have hnb36:=NB572_560.out;have hnc36:=NB560_572.out;have hnb37:=NB572_561.out;have hnc37:=NB561_572.out;have hnb38:=NB572_564.out;have hnc38:=NB564_572.out;have hcz39_0:w35.cell? ⟨gb572,0,none⟩=some (.int .i64 0):=(blk_cell BK572.out 0).trans rfl;have hcz39_1:w35.cell? ⟨gb572,1,none⟩=some (.int .i64 0):=(blk_cell BK572.out 1).trans rfl;have hcz39_2:w35.cell? ⟨gb572,2,none⟩=some (.string (⟨#[]⟩:ByteArray)):=(blk_cell BK572.out 2).trans rfl;have hcz39_3:w35.cell? ⟨gb572,3,none⟩=some (.slice none 0 0):=(blk_cell BK572.out 3).trans rfl;have hfz39_0:=blk_frozen BK572.out 0;have hfz39_1:=blk_frozen BK572.out 1;have hfz39_2:=blk_frozen BK572.out 2;have hfz39_3:=blk_frozen BK572.out 3;obtain ⟨Ao40,co40,eo40⟩:=Kd.N_slice HO570.out;subst eo40)|((with_reducible refine gate_callee (f:=55) rfl ?_);refine goesL_ (some 11) rfl rfl Try.func55 (by kernel_rfl) rfl #[.pointer (some ⟨g564,0,none⟩),.int .i64 4] rfl (by (try simp only [List.map_toArray,List.map_cons,List.map_nil]);first|done|rfl|(simp only [List.length_drop,List.length_take];rfl)) ?_;(with_reducible refine (spec_l15Rd_pick.calls k g564 t562 t571 4 t573 t574 w _ ?side1 ?side2 A4.out).mono ?_);(case side1=>repeat (first|(with_reducible first|exact HI564.out|apply IsS66.alloc|apply IsS66.drewN|apply IsS66.drew|apply IsS66.set_1|refine IsS66.far ?_ NB564_560.out _|refine IsS66.far ?_ NB564_561.out _|refine IsS66.far ?_ NB564_572.out _)|exact HI564.out));(case side2=>repeat (first|exact gB HB|refine below_set ?_ (IsS66.ge HI564.out)|refine below_set ?_ GE560.out|refine below_set ?_ GE561.out|refine below_set ?_ GE572.out));rintro e w41 ⟨rfl,hi,hb,hk⟩;refine ⟨_,rfl,?_⟩;have n0_:=Aside0.mk (KeepBut.blk hk (g':=gb560) (o:=.cells #[.int .i64 0,.int .i64 0,.string (⟨#[]⟩:ByteArray),.slice none 0 0] 27 (0,0)) (by (with_reducible repeat (first|refine blk_drewN ?_ _|refine blk_drew ?_|refine blk_alloc ?_ _));refine blk_far ?_ NB560_572.out _;(with_reducible repeat (first|refine blk_drewN ?_ _|refine blk_drew ?_|refine blk_alloc ?_ _));refine blk_far ?_ NB560_572.out _;(with_reducible repeat (first|refine blk_drewN ?_ _|refine blk_drew ?_|refine blk_alloc ?_ _));refine blk_far ?_ NB560_572.out _;(with_reducible repeat (first|refine blk_drewN ?_ _|refine blk_drew ?_|refine blk_alloc ?_ _));refine blk_far ?_ NB560_572.out _;(with_reducible repeat (first|refine blk_drewN ?_ _|refine blk_drew ?_|refine blk_alloc ?_ _));exact BK560.out) NB560_564.out (by simp));have n1_:=Aside0.mk (KeepBut.blk hk (g':=gb561) (o:=.cells #[.int .i64 0,.int .i64 0,.string (⟨#[]⟩:ByteArray),.slice none 0 0] 27 (0,0)) (by (with_reducible repeat (first|refine blk_drewN ?_ _|refine blk_drew ?_|refine blk_alloc ?_ _));refine blk_far ?_ NB561_572.out _;(with_reducible repeat (first|refine blk_drewN ?_ _|refine blk_drew ?_|refine blk_alloc ?_ _));refine blk_far ?_ NB561_572.out _;(with_reducible repeat (first|refine blk_drewN ?_ _|refine blk_drew ?_|refine blk_alloc ?_ _));refine blk_far ?_ NB561_572.out _;(with_reducible repeat (first|refine blk_drewN ?_ _|refine blk_drew ?_|refine blk_alloc ?_ _));refine blk_far ?_ NB561_572.out _;(with_reducible repeat (first|refine blk_drewN ?_ _|refine blk_drew ?_|refine blk_alloc ?_ _));exact BK561.out) NB561_564.out (by simp));have n2_:=Aside0.mk (Kd.N_mono (Kd.N_keep (Kd.N_mono (ok:=fun k_=>((((w.heap.size≤k_))∧(k_ ≠ gb560∧(k_ ≠ gb561∧k_ ≠ g564)))∧k_ ≠ gb572)) (by (with_reducible repeat (first|apply Kd.N_alloc|apply Kd.N_drewN|apply Kd.N_drew));exact (Kd.N_mono (Kd.N_far (p:=⟨gb572,3,none⟩) (Kd.N_far (p:=⟨gb572,2,none⟩) (Kd.N_far (p:=⟨gb572,1,none⟩) (Kd.N_far (p:=⟨gb572,0,none⟩) (Kd.N_mono HO570.out (fun k_ hk=>(⟨hk,hk.2⟩:_∧k_ ≠ gb572))) (fun _ hk=>hk.2) (.int .i64 t565)) (fun _ hk=>hk.2) (.int .i64 t566)) (fun _ hk=>hk.2) (.string t567)) (fun _ hk=>hk.2) (.slice Ao40 t568.length co40)) (fun _ h_=>h_.1))) (fun k_ hk_=>(⟨hk_,hk_.1.2.2.2⟩:_∧k_ ≠ g564))) hk (fun _ h=>h.2)) (fun _ h=>h.1));have n3_:=Aside0.mk (KeepBut.blk hk (g':=gb572) (o:=.cells #[.int .i64 t565,.int .i64 t566,.string t567,.slice Ao40 t568.length co40] 27 (0,0)) (by (with_reducible repeat (first|refine blk_drewN ?_ _|refine blk_drew ?_|refine blk_alloc ?_ _));refine blk_put (cs:=#[.int .i64 t565,.int .i64 t566,.string t567,.slice none 0 0]) ?_ 3 _ rfl;(with_reducible repeat (first|refine blk_drewN ?_ _|refine blk_drew ?_|refine blk_alloc ?_ _));refine blk_put (cs:=#[.int .i64 t565,.int .i64 t566,.string (⟨#[]⟩:ByteArray),.slice none 0 0]) ?_ 2 _ rfl;(with_reducible repeat (first|refine blk_drewN ?_ _|refine blk_drew ?_|refine blk_alloc ?_ _));refine blk_put (cs:=#[.int .i64 t565,.int .i64 0,.string (⟨#[]⟩:ByteArray),.slice none 0 0]) ?_ 1 _ rfl;(with_reducible repeat (first|refine blk_drewN ?_ _|refine blk_drew ?_|refine blk_alloc ?_ _));refine blk_put (cs:=#[.int .i64 0,.int .i64 0,.string (⟨#[]⟩:ByteArray),.slice none 0 0]) ?_ 0 _ rfl;(with_reducible repeat (first|refine blk_drewN ?_ _|refine blk_drew ?_|refine blk_alloc ?_ _));exact BK572.out) NB572_564.out (by simp));have n4_:=Aside0.mk (hb);have n5_:=Aside0.mk (hi);clear BK560;clear BK561;clear HO570;clear BK572;clear HB;clear HI564;have BK560:=n0_;have BK561:=n1_;have HO570:=n2_;have BK572:=n3_;have HB:=n4_;have HI564:=n5_;clear n0_ n1_ n2_ n3_ n4_ n5_;(try clear hb);(try clear hb2);(try clear hk);(try clear hi)))
  have n0_:=Aside0.mk (Kd.N_drew HO570.out)
  have n1_:=Aside0.mk (blk_drew BK560.out)
  have n2_:=Aside0.mk (blk_drew BK561.out)
  have n3_:=Aside0.mk (blk_drew BK572.out)
  have n4_:=Aside0.mk (IsS66.drew HI564.out)
  have n5_:=Aside0.mk (below_drew1 HB.out)
  clear HO570
  clear BK560
  clear BK561
  clear BK572
  clear HI564
  clear HB
  have HO570:=n0_
  have BK560:=n1_
  have BK561:=n2_
  have BK572:=n3_
  have HI564:=n4_
  have HB:=n5_
  clear n0_ n1_ n2_ n3_ n4_ n5_
  refine start_ (n:=8) (S:=fun w'=>w'.cell? ⟨gb572,0,none⟩=some (.int .i64 t565)∧w'.cell? ⟨gb572,1,none⟩=some (.int .i64 t566)∧w'.cell? ⟨gb572,2,none⟩=some (.string t567)∧w'.cell? ⟨gb572,3,none⟩=some (.slice Ao40 t568.length co40)) (ds:=[]) #[false,false,false,false,false,false,false,false] (by kernel_rfl) rfl rfl ⟨(blk_cell BK572.out 0).trans rfl,(blk_cell BK572.out 1).trans rfl,(blk_cell BK572.out 2).trans rfl,(blk_cell BK572.out 3).trans rfl⟩ (fun hHeld=>?_);refine with_tabW spec_DrawDocSame.tab5 spec_DrawDocSame.bits5 (fun HT_ HW_=>?_)
  generalize w41.drew=w42 at HO570 BK560 BK561 BK572 HI564 HB hHeld ⊢
  refine pure_ (i:=1) (N:=some 17) (v:=?_) (a':=?_) #[false,true,false,false,false,false,false,false] rfl rfl (any_of HT_.out (by kernel_rfl)) (fun _ _ _ h=>h) (Or.inl ⟨by rfl,?_⟩) ?_ ?_
  rotate_left
  ·intro w'
   go_simp
   with_reducible rfl
  rotate_left
  ·simp only [Act.put,List.setIfInBounds_toArray,List.set_cons_zero,List.set_cons_succ,i64_w,i32_w]
   rfl
  refine pure_ (i:=2) (N:=some 18) (v:=?_) (a':=?_) #[false,true,true,false,false,false,false,false] rfl rfl (any_of HT_.out (by kernel_rfl)) (fun _ _ _ h=>h) (Or.inl ⟨by rfl,?_⟩) ?_ ?_
  rotate_left
  ·intro w'
   go_simp
   with_reducible rfl
  rotate_left
  ·simp only [Act.put,List.setIfInBounds_toArray,List.set_cons_zero,List.set_cons_succ,i64_w,i32_w]
   rfl
  refine take_ (i:=0) (N:=some 16) (v:=?_) (a':=?_) #[true,true,true,false,false,false,false,false] rfl rfl (take_ofW HT_.out HW_.out (by kernel_rfl)) (fun _ _ _ h=>h) (Or.inl ⟨by rfl,?_⟩) hHeld ?_ ?_
  rotate_left
  ·rintro w' ⟨s0,s1,s2,s3⟩
   go_simp
   with_reducible rfl
  rotate_left
  ·simp only [Act.put,List.setIfInBounds_toArray,List.set_cons_zero,List.set_cons_succ,i64_w,i32_w]
   rfl
  refine take_ (i:=3) (N:=some 19) (v:=?_) (a':=?_) #[true,true,true,true,false,false,false,false] rfl rfl (take_ofW HT_.out HW_.out (by kernel_rfl)) (fun _ _ _ h=>h) (Or.inl ⟨by rfl,?_⟩) hHeld ?_ ?_
  rotate_left
  ·rintro w' ⟨s0,s1,s2,s3⟩
   go_simp
   with_reducible rfl
  rotate_left
  ·simp only [Act.put,List.setIfInBounds_toArray,List.set_cons_zero,List.set_cons_succ,i64_w,i32_w]
   rfl
  refine one_ (i:=4) (N:=some 20) #[true,true,true,true,true,false,false,false] rfl rfl (one_of HT_.out (by kernel_rfl)) (by decide) (fun K hK=>?_)
  refine goes_ Try.func50 (by kernel_rfl) rfl #[.pointer (some ⟨g564,0,none⟩),.agg #[.int .i64 t565,.int .i64 t566,.string t567,.slice Ao40 t568.length co40]] (by rfl) rfl rfl (by (try simp only [List.map_toArray,List.map_cons,List.map_nil]);first|done|rfl|(simp only [List.length_drop,List.length_take];rfl)) ?_
  with_reducible refine (spec_l1Mutate.calls k g564 t562 t574 t565 t566 t567 _ _ t568 t582 t583 t584 t585 t588 w _ ?side1 ?side2 ?side3 ?side4 A29.out).mono ?_
  (case side1=>repeat (first|(with_reducible first|exact HI564.out|apply IsS66.alloc|apply IsS66.drewN|apply IsS66.drew|apply IsS66.set_1|refine IsS66.far ?_ NB564_560.out _|refine IsS66.far ?_ NB564_561.out _|refine IsS66.far ?_ NB564_572.out _)|exact HI564.out))
  (case side2=>repeat (first|exact gB HB|refine below_set ?_ (IsS66.ge HI564.out)|refine below_set ?_ GE560.out|refine below_set ?_ GE561.out|refine below_set ?_ GE572.out))
  (case side3=>exact Kd.C_foot_ownV (base:=0) (Kd.N_V (Kd.N_mono (ok:=fun k_=>((((w.heap.size≤k_))∧(k_ ≠ gb560∧(k_ ≠ gb561∧k_ ≠ g564)))∧k_ ≠ gb572)) (gN HO570) (fun k_ hk_=>(⟨hk_,hk_.1.2.2.2⟩:_∧k_ ≠ g564)))) (fun _ h_=>h_.2))
  (case side4=>exact (Kd.N_reads' HO570.out).2.1)
  rintro e w43 ⟨v586,rfl,ho0,hi,hb,hk⟩
  refine ⟨_,rfl,?_⟩
  have n0_:=Aside0.mk (KeepBut.blk hk (g':=gb560) (o:=.cells #[.int .i64 0,.int .i64 0,.string (⟨#[]⟩:ByteArray),.slice none 0 0] 27 (0,0)) (gK BK560) NB560_564.out (by simp))
  have n1_:=Aside0.mk (KeepBut.blk hk (g':=gb561) (o:=.cells #[.int .i64 0,.int .i64 0,.string (⟨#[]⟩:ByteArray),.slice none 0 0] 27 (0,0)) (gK BK561) NB561_564.out (by simp))
  have n2_:=Aside0.mk (Kd.N_mono (Kd.N_told (Kd.N_oldK (Kd.N_mono (ok:=fun k_=>((((w.heap.size≤k_))∧(k_ ≠ gb560∧(k_ ≠ gb561∧k_ ≠ g564)))∧k_ ≠ gb572)) (gN HO570) (fun k_ hk_=>(⟨hk_,hk_.1.2.2.2⟩:_∧k_ ≠ g564))) hk) (Kd.N_base ho0)) (fun _ h_=>h_.1))
  have n3_:=Aside0.mk (KeepBut.blk hk (g':=gb572) (o:=.cells #[.int .i64 t565,.int .i64 t566,.string t567,.slice Ao40 t568.length co40] 27 (0,0)) (gK BK572) NB572_564.out (by simp))
  have n4_:=Aside0.mk (Kd.N_lower (Kd.N_mono (ok':=fun k_=>(w.heap.size≤k_)∧some k_ ≠ (.slice Ao40 t568.length co40:Value).ownBlock∧k_ ≠ gb560∧k_ ≠ gb561∧k_ ≠ gb572∧k_ ≠ g564) ho0 (fun k_ hk_=>⟨(Nat.le_trans (below_size (by repeat (first|exact gB HB|refine below_set ?_ (IsS66.ge HI564.out)|refine below_set ?_ GE560.out|refine below_set ?_ GE561.out|refine below_set ?_ GE572.out))) hk_),(Kd.fresh' (Kd.N_lt (gN HO570)) k_ hk_),(Kd.freshB (g:=gb560) (o:=.cells #[.int .i64 0,.int .i64 0,.string (⟨#[]⟩:ByteArray),.slice none 0 0] 27 (0,0)) (gK BK560) k_ hk_),(Kd.freshB (g:=gb561) (o:=.cells #[.int .i64 0,.int .i64 0,.string (⟨#[]⟩:ByteArray),.slice none 0 0] 27 (0,0)) (gK BK561) k_ hk_),(Kd.freshB (g:=gb572) (o:=.cells #[.int .i64 t565,.int .i64 t566,.string t567,.slice Ao40 t568.length co40] 27 (0,0)) (gK BK572) k_ hk_),(IsS66.fresh (by repeat (first|(with_reducible first|exact HI564.out|apply IsS66.alloc|apply IsS66.drewN|apply IsS66.drew|apply IsS66.set_1|refine IsS66.far ?_ NB564_560.out _|refine IsS66.far ?_ NB564_561.out _|refine IsS66.far ?_ NB564_572.out _)|exact HI564.out)) k_ hk_)⟩)) (below_size (by repeat (first|exact gB HB|refine below_set ?_ (IsS66.ge HI564.out)|refine below_set ?_ GE560.out|refine below_set ?_ GE561.out|refine below_set ?_ GE572.out))))
  have n5_:=Aside0.mk (hb)
  have n6_:=Aside0.mk (hi)
  clear BK560
  clear BK561
  clear HO570
  clear BK572
  clear HB
  clear HI564
  have BK560:=n0_
  have BK561:=n1_
  have HO570:=n2_
  have BK572:=n3_
  have HO587:=n4_
  have HB:=n5_
  have HI564:=n6_
  clear n0_ n1_ n2_ n3_ n4_ n5_ n6_
  (try clear hb)
  (try clear hb2)
  (try clear hk)
  (try clear hi)
  (try clear ho0)
  obtain ⟨Ao44,co44,eo44⟩:=Kd.N_slice HO587.out
  (first|subst eo44|(injection eo44 with f1_ f2_ f3_;have f4_:=f1_.symm;have f5_:=f3_.symm;clear f1_ f2_ f3_;subst f4_;subst f5_))
  refine hK.out _ _ ⟨(blk_cell BK572.out 0).trans rfl,(blk_cell BK572.out 1).trans rfl,(blk_cell BK572.out 2).trans rfl,(blk_cell BK572.out 3).trans rfl⟩ (fun hHeld=>?_)
  clear hK K
  refine norm_ (a':=?_) ?_ ?_
  rotate_left
  ·show Act.put _ (some 20) _=_
   simp only [Act.put,List.setIfInBounds_toArray,List.set_cons_zero,List.set_cons_succ,i64_w,i32_w]
   rfl
  refine one_ (i:=5) (N:=some 21) #[true,true,true,true,true,true,false,false] rfl rfl (one_of HT_.out (by kernel_rfl)) (by decide) (fun K hK=>?_)
  refine goes_ Try.func50 (by kernel_rfl) rfl #[.pointer (some ⟨g564,0,none⟩),.agg #[.int .i64 t582,.int .i64 t583,.string t584,.slice Ao44 t585.length co44]] (by rfl) rfl rfl (by (try simp only [List.map_toArray,List.map_cons,List.map_nil]);first|done|rfl|(simp only [List.length_drop,List.length_take];rfl)) ?_
  with_reducible refine (spec_l1Mutate.calls k g564 t562 t588 t582 t583 t584 _ _ t585 t589 t590 t591 t592 t595 w _ ?side1 ?side2 ?side3 ?side4 A30.out).mono ?_
  (case side1=>repeat (first|(with_reducible first|exact HI564.out|apply IsS66.alloc|apply IsS66.drewN|apply IsS66.drew|apply IsS66.set_1|refine IsS66.far ?_ NB564_560.out _|refine IsS66.far ?_ NB564_561.out _|refine IsS66.far ?_ NB564_572.out _)|exact HI564.out))
  (case side2=>repeat (first|exact gB HB|refine below_set ?_ (IsS66.ge HI564.out)|refine below_set ?_ GE560.out|refine below_set ?_ GE561.out|refine below_set ?_ GE572.out))
  (case side3=>exact Kd.C_foot_ownV (base:=0) (Kd.N_V (Kd.N_mono (ok:=fun k_=>(((w.heap.size≤k_))∧(some k_ ≠ (.slice Ao40 t568.length co40:Value).ownBlock∧(k_ ≠ gb560∧(k_ ≠ gb561∧(k_ ≠ gb572∧k_ ≠ g564)))))) (gN HO587) (fun k_ hk_=>(⟨hk_,hk_.2.2.2.2.2⟩:_∧k_ ≠ g564)))) (fun _ h_=>h_.2))
  (case side4=>exact (Kd.N_reads' HO587.out).2.1)
  rintro e w45 ⟨v593,rfl,ho0,hi,hb,hk⟩
  refine ⟨_,rfl,?_⟩
  have n0_:=Aside0.mk (KeepBut.blk hk (g':=gb560) (o:=.cells #[.int .i64 0,.int .i64 0,.string (⟨#[]⟩:ByteArray),.slice none 0 0] 27 (0,0)) (gK BK560) NB560_564.out (by simp))
  have n1_:=Aside0.mk (KeepBut.blk hk (g':=gb561) (o:=.cells #[.int .i64 0,.int .i64 0,.string (⟨#[]⟩:ByteArray),.slice none 0 0] 27 (0,0)) (gK BK561) NB561_564.out (by simp))
  have n2_:=Aside0.mk (Kd.N_mono (Kd.N_told (Kd.N_oldK (Kd.N_mono (ok:=fun k_=>(((((w.heap.size≤k_))∧(k_ ≠ gb560∧(k_ ≠ gb561∧k_ ≠ g564)))∧k_ ≠ gb572)∧some k_ ≠ (.slice Ao44 t585.length co44:Value).ownBlock)) (gN HO570) (fun k_ hk_=>(⟨hk_,hk_.1.1.2.2.2⟩:_∧k_ ≠ g564))) hk) (Kd.N_base ho0)) (fun _ h_=>h_.1))
  have n3_:=Aside0.mk (KeepBut.blk hk (g':=gb572) (o:=.cells #[.int .i64 t565,.int .i64 t566,.string t567,.slice Ao40 t568.length co40] 27 (0,0)) (gK BK572) NB572_564.out (by simp))
  have n4_:=Aside0.mk (Kd.N_mono (Kd.N_told (Kd.N_oldK (Kd.N_mono (ok:=fun k_=>(((w.heap.size≤k_))∧(some k_ ≠ (.slice Ao40 t568.length co40:Value).ownBlock∧(k_ ≠ gb560∧(k_ ≠ gb561∧(k_ ≠ gb572∧k_ ≠ g564)))))) (gN HO587) (fun k_ hk_=>(⟨hk_,hk_.2.2.2.2.2⟩:_∧k_ ≠ g564))) hk) (Kd.N_base ho0)) (fun _ h_=>h_.1))
  have n5_:=Aside0.mk (Kd.N_lower (Kd.N_mono (ok':=fun k_=>(w.heap.size≤k_)∧some k_ ≠ (.slice Ao40 t568.length co40:Value).ownBlock∧some k_ ≠ (.slice Ao44 t585.length co44:Value).ownBlock∧k_ ≠ gb560∧k_ ≠ gb561∧k_ ≠ gb572∧k_ ≠ g564) ho0 (fun k_ hk_=>⟨(Nat.le_trans (below_size (by repeat (first|exact gB HB|refine below_set ?_ (IsS66.ge HI564.out)|refine below_set ?_ GE560.out|refine below_set ?_ GE561.out|refine below_set ?_ GE572.out))) hk_),(Kd.fresh' (Kd.N_lt (gN HO570)) k_ hk_),(Kd.fresh' (Kd.N_lt (gN HO587)) k_ hk_),(Kd.freshB (g:=gb560) (o:=.cells #[.int .i64 0,.int .i64 0,.string (⟨#[]⟩:ByteArray),.slice none 0 0] 27 (0,0)) (gK BK560) k_ hk_),(Kd.freshB (g:=gb561) (o:=.cells #[.int .i64 0,.int .i64 0,.string (⟨#[]⟩:ByteArray),.slice none 0 0] 27 (0,0)) (gK BK561) k_ hk_),(Kd.freshB (g:=gb572) (o:=.cells #[.int .i64 t565,.int .i64 t566,.string t567,.slice Ao40 t568.length co40] 27 (0,0)) (gK BK572) k_ hk_),(IsS66.fresh (by repeat (first|(with_reducible first|exact HI564.out|apply IsS66.alloc|apply IsS66.drewN|apply IsS66.drew|apply IsS66.set_1|refine IsS66.far ?_ NB564_560.out _|refine IsS66.far ?_ NB564_561.out _|refine IsS66.far ?_ NB564_572.out _)|exact HI564.out)) k_ hk_)⟩)) (below_size (by repeat (first|exact gB HB|refine below_set ?_ (IsS66.ge HI564.out)|refine below_set ?_ GE560.out|refine below_set ?_ GE561.out|refine below_set ?_ GE572.out))))
  have n6_:=Aside0.mk (hb)
  have n7_:=Aside0.mk (hi)
  clear BK560
  clear BK561
  clear HO570
  clear BK572
  clear HO587
  clear HB
  clear HI564
  have BK560:=n0_
  have BK561:=n1_
  have HO570:=n2_
  have BK572:=n3_
  have HO587:=n4_
  have HO594:=n5_
  have HB:=n6_
  have HI564:=n7_
  clear n0_ n1_ n2_ n3_ n4_ n5_ n6_ n7_
  (try clear hb)
  (try clear hb2)
  (try clear hk)
  (try clear hi)
  (try clear ho0)
  obtain ⟨Ao53,co53,eo53⟩:=Kd.N_slice HO594.out
  (first|subst eo53|(injection eo53 with f1_ f2_ f3_;have f4_:=f1_.symm;have f5_:=f3_.symm;clear f1_ f2_ f3_;subst f4_;subst f5_))
  refine hK.out _ _ ⟨(blk_cell BK572.out 0).trans rfl,(blk_cell BK572.out 1).trans rfl,(blk_cell BK572.out 2).trans rfl,(blk_cell BK572.out 3).trans rfl⟩ (fun hHeld=>?_)
  clear hK K
  refine norm_ (a':=?_) ?_ ?_
  rotate_left
  ·show Act.put _ (some 21) _=_
   simp only [Act.put,List.setIfInBounds_toArray,List.set_cons_zero,List.set_cons_succ,i64_w,i32_w]
   rfl
  refine one_ (i:=6) (N:=none) #[true,true,true,true,true,true,true,false] rfl rfl (one_of HT_.out (by kernel_rfl)) (by decide) (fun K hK=>?_)
  have hs46:w45.cell? ⟨gb560,0,none⟩=some (.int .i64 0):=(blk_cell BK560.out 0).trans rfl
  have hfs46:=blk_frozen BK560.out 0
  have hns46_1:=NB561_560.out
  have hns46_2:=NB572_560.out
  have hms46_1:=NB560_561.out
  have hms46_2:=NB560_572.out
  have hs47:w45.cell? ⟨gb560,1,none⟩=some (.int .i64 0):=(blk_cell BK560.out 1).trans rfl
  have hfs47:=blk_frozen BK560.out 1
  have hns47_1:=NB561_560.out
  have hns47_2:=NB572_560.out
  have hms47_1:=NB560_561.out
  have hms47_2:=NB560_572.out
  have hs48:w45.cell? ⟨gb560,2,none⟩=some (.string (⟨#[]⟩:ByteArray)):=(blk_cell BK560.out 2).trans rfl
  have hfs48:=blk_frozen BK560.out 2
  have hns48_1:=NB561_560.out
  have hns48_2:=NB572_560.out
  have hms48_1:=NB560_561.out
  have hms48_2:=NB560_572.out
  have hs49:w45.cell? ⟨gb560,3,none⟩=some (.slice none 0 0):=(blk_cell BK560.out 3).trans rfl
  have hfs49:=blk_frozen BK560.out 3
  have hns49_1:=NB561_560.out
  have hns49_2:=NB572_560.out
  have hms49_1:=NB560_561.out
  have hms49_2:=NB560_572.out
  refine skip_ (w1:=?_) (by rfl) rfl ?_ ?_
  rotate_left
  ·go_simp
   rfl
  refine hK.out _ _ ⟨((cell_far (p:=⟨gb560,_,none⟩) NB572_560.out _).trans (((cell_far (p:=⟨gb560,_,none⟩) NB572_560.out _).trans (((cell_far (p:=⟨gb560,_,none⟩) NB572_560.out _).trans (((cell_far (p:=⟨gb560,_,none⟩) NB572_560.out _).trans (hHeld.1)))))))),((cell_far (p:=⟨gb560,_,none⟩) NB572_560.out _).trans (((cell_far (p:=⟨gb560,_,none⟩) NB572_560.out _).trans (((cell_far (p:=⟨gb560,_,none⟩) NB572_560.out _).trans (((cell_far (p:=⟨gb560,_,none⟩) NB572_560.out _).trans (hHeld.2.1)))))))),((cell_far (p:=⟨gb560,_,none⟩) NB572_560.out _).trans (((cell_far (p:=⟨gb560,_,none⟩) NB572_560.out _).trans (((cell_far (p:=⟨gb560,_,none⟩) NB572_560.out _).trans (((cell_far (p:=⟨gb560,_,none⟩) NB572_560.out _).trans (hHeld.2.2.1)))))))),((cell_far (p:=⟨gb560,_,none⟩) NB572_560.out _).trans (((cell_far (p:=⟨gb560,_,none⟩) NB572_560.out _).trans (((cell_far (p:=⟨gb560,_,none⟩) NB572_560.out _).trans (((cell_far (p:=⟨gb560,_,none⟩) NB572_560.out _).trans (hHeld.2.2.2))))))))⟩ (fun hHeld=>?_)
  clear hK K
  refine one_ (i:=7) (N:=none) #[true,true,true,true,true,true,true,true] rfl rfl (one_of HT_.out (by kernel_rfl)) (by decide) (fun K hK=>?_)
  have hs50:w45.cell? ⟨gb561,0,none⟩=some (.int .i64 0):=(blk_cell BK561.out 0).trans rfl
  have hfs50:=blk_frozen BK561.out 0
  have hns50_0:=NB560_561.out
  have hns50_2:=NB572_561.out
  have hms50_0:=NB561_560.out
  have hms50_2:=NB561_572.out
  have hs51:w45.cell? ⟨gb561,1,none⟩=some (.int .i64 0):=(blk_cell BK561.out 1).trans rfl
  have hfs51:=blk_frozen BK561.out 1
  have hns51_0:=NB560_561.out
  have hns51_2:=NB572_561.out
  have hms51_0:=NB561_560.out
  have hms51_2:=NB561_572.out
  have hs52:w45.cell? ⟨gb561,2,none⟩=some (.string (⟨#[]⟩:ByteArray)):=(blk_cell BK561.out 2).trans rfl
  have hfs52:=blk_frozen BK561.out 2
  have hns52_0:=NB560_561.out
  have hns52_2:=NB572_561.out
  have hms52_0:=NB561_560.out
  have hms52_2:=NB561_572.out
  have hs54:w45.cell? ⟨gb561,3,none⟩=some (.slice none 0 0):=(blk_cell BK561.out 3).trans rfl
  have hfs54:=blk_frozen BK561.out 3
  have hns54_0:=NB560_561.out
  have hns54_2:=NB572_561.out
  have hms54_0:=NB561_560.out
  have hms54_2:=NB561_572.out
  refine skip_ (w1:=?_) (by rfl) rfl ?_ ?_
  rotate_left
  ·go_simp
   rfl
  refine hK.out _ _ ⟨((cell_far (p:=⟨gb561,_,none⟩) NB572_561.out _).trans (((cell_far (p:=⟨gb561,_,none⟩) NB572_561.out _).trans (((cell_far (p:=⟨gb561,_,none⟩) NB572_561.out _).trans (((cell_far (p:=⟨gb561,_,none⟩) NB572_561.out _).trans (hHeld.1)))))))),((cell_far (p:=⟨gb561,_,none⟩) NB572_561.out _).trans (((cell_far (p:=⟨gb561,_,none⟩) NB572_561.out _).trans (((cell_far (p:=⟨gb561,_,none⟩) NB572_561.out _).trans (((cell_far (p:=⟨gb561,_,none⟩) NB572_561.out _).trans (hHeld.2.1)))))))),((cell_far (p:=⟨gb561,_,none⟩) NB572_561.out _).trans (((cell_far (p:=⟨gb561,_,none⟩) NB572_561.out _).trans (((cell_far (p:=⟨gb561,_,none⟩) NB572_561.out _).trans (((cell_far (p:=⟨gb561,_,none⟩) NB572_561.out _).trans (hHeld.2.2.1)))))))),((cell_far (p:=⟨gb561,_,none⟩) NB572_561.out _).trans (((cell_far (p:=⟨gb561,_,none⟩) NB572_561.out _).trans (((cell_far (p:=⟨gb561,_,none⟩) NB572_561.out _).trans (((cell_far (p:=⟨gb561,_,none⟩) NB572_561.out _).trans (hHeld.2.2.2))))))))⟩ (fun hHeld=>?_)
  clear hK K
  refine done_ (done_of HT_.out (by kernel_rfl)) ?_
  try go_wp2
  refine bodyPost_ret (results_cc rfl _ _ gb560 gb561 27 27 #[.int .i64 t565,.int .i64 t566,.string t567,.slice Ao40 t568.length co40] #[.int .i64 t589,.int .i64 t590,.string t591,.slice Ao53 t592.length co53] (0,0) (0,0) _ _ rfl (by (with_reducible repeat (first|refine blk_drewN ?_ _|refine blk_drew ?_|refine blk_alloc ?_ _));refine blk_far ?_ NB560_561.out _;(with_reducible repeat (first|refine blk_drewN ?_ _|refine blk_drew ?_|refine blk_alloc ?_ _));refine blk_far ?_ NB560_561.out _;(with_reducible repeat (first|refine blk_drewN ?_ _|refine blk_drew ?_|refine blk_alloc ?_ _));refine blk_far ?_ NB560_561.out _;(with_reducible repeat (first|refine blk_drewN ?_ _|refine blk_drew ?_|refine blk_alloc ?_ _));refine blk_far ?_ NB560_561.out _;(with_reducible repeat (first|refine blk_drewN ?_ _|refine blk_drew ?_|refine blk_alloc ?_ _));refine blk_put (cs:=#[.int .i64 t565,.int .i64 t566,.string t567,.slice none 0 0]) ?_ 3 _ rfl;(with_reducible repeat (first|refine blk_drewN ?_ _|refine blk_drew ?_|refine blk_alloc ?_ _));refine blk_put (cs:=#[.int .i64 t565,.int .i64 t566,.string (⟨#[]⟩:ByteArray),.slice none 0 0]) ?_ 2 _ rfl;(with_reducible repeat (first|refine blk_drewN ?_ _|refine blk_drew ?_|refine blk_alloc ?_ _));refine blk_put (cs:=#[.int .i64 t565,.int .i64 0,.string (⟨#[]⟩:ByteArray),.slice none 0 0]) ?_ 1 _ rfl;(with_reducible repeat (first|refine blk_drewN ?_ _|refine blk_drew ?_|refine blk_alloc ?_ _));refine blk_put (cs:=#[.int .i64 0,.int .i64 0,.string (⟨#[]⟩:ByteArray),.slice none 0 0]) ?_ 0 _ rfl;(with_reducible repeat (first|refine blk_drewN ?_ _|refine blk_drew ?_|refine blk_alloc ?_ _));exact BK560.out) Try.underlying27 rfl (by kernel_rfl) rfl (by (with_reducible repeat (first|refine blk_drewN ?_ _|refine blk_drew ?_|refine blk_alloc ?_ _));refine blk_put (cs:=#[.int .i64 t589,.int .i64 t590,.string t591,.slice none 0 0]) ?_ 3 _ rfl;(with_reducible repeat (first|refine blk_drewN ?_ _|refine blk_drew ?_|refine blk_alloc ?_ _));refine blk_put (cs:=#[.int .i64 t589,.int .i64 t590,.string (⟨#[]⟩:ByteArray),.slice none 0 0]) ?_ 2 _ rfl;(with_reducible repeat (first|refine blk_drewN ?_ _|refine blk_drew ?_|refine blk_alloc ?_ _));refine blk_put (cs:=#[.int .i64 t589,.int .i64 0,.string (⟨#[]⟩:ByteArray),.slice none 0 0]) ?_ 1 _ rfl;(with_reducible repeat (first|refine blk_drewN ?_ _|refine blk_drew ?_|refine blk_alloc ?_ _));refine blk_put (cs:=#[.int .i64 0,.int .i64 0,.string (⟨#[]⟩:ByteArray),.slice none 0 0]) ?_ 0 _ rfl;(with_reducible repeat (first|refine blk_drewN ?_ _|refine blk_drew ?_|refine blk_alloc ?_ _));refine blk_far ?_ NB561_560.out _;(with_reducible repeat (first|refine blk_drewN ?_ _|refine blk_drew ?_|refine blk_alloc ?_ _));refine blk_far ?_ NB561_560.out _;(with_reducible repeat (first|refine blk_drewN ?_ _|refine blk_drew ?_|refine blk_alloc ?_ _));refine blk_far ?_ NB561_560.out _;(with_reducible repeat (first|refine blk_drewN ?_ _|refine blk_drew ?_|refine blk_alloc ?_ _));refine blk_far ?_ NB561_560.out _;(with_reducible repeat (first|refine blk_drewN ?_ _|refine blk_drew ?_|refine blk_alloc ?_ _));exact BK561.out) Try.underlying27 rfl (by kernel_rfl)) rfl ?_
  exact ⟨_,_,by first|rfl|(simp [errW_none,errW_some] <;> rfl)|(simp [*,errW_none,errW_some] <;> rfl),by (with_reducible repeat (first|apply Kd.N_alloc|apply Kd.N_drewN|apply Kd.N_drew));exact Kd.N_mono (Kd.N_far (p:=⟨gb561,3,none⟩) (Kd.N_far (p:=⟨gb561,2,none⟩) (Kd.N_far (p:=⟨gb561,1,none⟩) (Kd.N_far (p:=⟨gb561,0,none⟩) (Kd.N_far (p:=⟨gb560,3,none⟩) (Kd.N_far (p:=⟨gb560,2,none⟩) (Kd.N_far (p:=⟨gb560,1,none⟩) (Kd.N_far (p:=⟨gb560,0,none⟩) (Kd.N_mono (Kd.N_mono HO570.out (fun k_ hk=>(⟨hk,hk.1.1.1.2.1⟩:_∧k_ ≠ gb560))) (fun k_ hk=>(⟨hk,hk.1.1.1.1.2.2.1⟩:_∧k_ ≠ gb561))) (fun _ hk=>hk.1.2) (.int .i64 t565)) (fun _ hk=>hk.1.2) (.int .i64 t566)) (fun _ hk=>hk.1.2) (.string t567)) (fun _ hk=>hk.1.2) (.slice Ao40 t568.length co40)) (fun _ hk=>hk.2) (.int .i64 t589)) (fun _ hk=>hk.2) (.int .i64 t590)) (fun _ hk=>hk.2) (.string t591)) (fun _ hk=>hk.2) (.slice Ao53 t592.length co53)) (fun _ hk=>⟨hk.1.1.1.1.1.1,hk.1.1.2⟩),by (with_reducible repeat (first|apply Kd.N_alloc|apply Kd.N_drewN|apply Kd.N_drew));exact Kd.N_mono (Kd.N_far (p:=⟨gb561,3,none⟩) (Kd.N_far (p:=⟨gb561,2,none⟩) (Kd.N_far (p:=⟨gb561,1,none⟩) (Kd.N_far (p:=⟨gb561,0,none⟩) (Kd.N_far (p:=⟨gb560,3,none⟩) (Kd.N_far (p:=⟨gb560,2,none⟩) (Kd.N_far (p:=⟨gb560,1,none⟩) (Kd.N_far (p:=⟨gb560,0,none⟩) (Kd.N_mono (Kd.N_mono HO594.out (fun k_ hk=>(⟨hk,hk.2.2.2.1⟩:_∧k_ ≠ gb560))) (fun k_ hk=>(⟨hk,hk.1.2.2.2.2.1⟩:_∧k_ ≠ gb561))) (fun _ hk=>hk.1.2) (.int .i64 t565)) (fun _ hk=>hk.1.2) (.int .i64 t566)) (fun _ hk=>hk.1.2) (.string t567)) (fun _ hk=>hk.1.2) (.slice Ao40 t568.length co40)) (fun _ hk=>hk.2) (.int .i64 t589)) (fun _ hk=>hk.2) (.int .i64 t590)) (fun _ hk=>hk.2) (.string t591)) (fun _ hk=>hk.2) (.slice Ao53 t592.length co53)) (fun _ hk=>⟨hk.1.1.1,hk.1.1.2.1⟩),by repeat (first|exact gB HB|refine below_set ?_ (IsS66.ge HI564.out)|refine below_set ?_ GE560.out|refine below_set ?_ GE561.out|refine below_set ?_ GE572.out)⟩
end Go.Proofs.Ytdhdfmmefghijaa.P
namespace Go.Proofs.Ytdhdfmmefghijaa.P
open Go.RowKit Go.Proofs.YtdhdfmmefghijaaW.PrintWords Go.Proofs.YtdhdfmmefghijaaW.PrintLast Go.Proofs.YtdhdfmmefghijaaW.PrintMore
attribute [local go_sem] max2_int min2_int max_two min_two max_three min_three max_four min_four
set_option linter.unusedVariables false
set_option linter.unusedSimpArgs false
mutual
def impl_DocSame.j0:Nat→Bool→Int→Int→ByteArray→List (SDoc)→Int→Int→ByteArray→List (SDoc)→Option (Bool)
 | 0,_,_,_,_,_,_,_,_,_=>none
 | k+1,x33,x597000,x597001,x597002,x597003,x598000,x598001,x598002,x598003=>if x33=true then (some false) else (impl_DocSame.l0 k (x597003.length:Int) 0 x597000 x597001 x597002 x597003 x598000 x598001 x598002 x598003)
def impl_DocSame.l0:Nat→Int→Int→Int→Int→ByteArray→List (SDoc)→Int→Int→ByteArray→List (SDoc)→Option (Bool)
 | 0,_,_,_,_,_,_,_,_,_,_=>none
 | k+1,x36,x37,x597000,x597001,x597002,x597003,x598000,x598001,x598002,x598003=>if x37 < x36 then (if 0≤x37 then (if x37 < (x597003.length:Int) then (if x37 < (x598003.length:Int) then ((impl_DocSame.f k ((rd_TDoc x597003 x37).f0) ((rd_TDoc x597003 x37).f1) ((rd_TDoc x597003 x37).f2) ((rd_TDoc x597003 x37).f3) ((rd_TDoc x598003 x37).f0) ((rd_TDoc x598003 x37).f1) ((rd_TDoc x598003 x37).f2) ((rd_TDoc x598003 x37).f3)).bind fun t600=>(if t600=true then (impl_DocSame.l0 k x36 (wrap64 (x37+1)) x597000 x597001 x597002 x597003 x598000 x598001 x598002 x598003) else (some false))) else (none)) else (none)) else (none)) else (some true)
def impl_DocSame.f:Nat→Int→Int→ByteArray→List (SDoc)→Int→Int→ByteArray→List (SDoc)→Option (Bool)
 | 0,_,_,_,_,_,_,_,_=>none
 | k+1,a0_0,a0_1,a0_2,l0_3,a1_0,a1_1,a1_2,l1_3=>if a0_0=a1_0 then (if a0_1=a1_1 then (if a0_2.toList=a1_2.toList then (impl_DocSame.j0 k ((l0_3.length:Int) != (l1_3.length:Int)) a0_0 a0_1 a0_2 l0_3 a1_0 a1_1 a1_2 l1_3) else (impl_DocSame.j0 k true a0_0 a0_1 a0_2 l0_3 a1_0 a1_1 a1_2 l1_3)) else (impl_DocSame.j0 k true a0_0 a0_1 a0_2 l0_3 a1_0 a1_1 a1_2 l1_3)) else (impl_DocSame.j0 k true a0_0 a0_1 a0_2 l0_3 a1_0 a1_1 a1_2 l1_3)
end
def impl_DocSame.T6:Bool × List (List Nat × List Nat):=(true,[([],[]),([0],[0]),([],[]),([1,2],[1,2]),([3],[3]),([],[]),([5],[5]),([],[]),([6,7],[6,7]),([8],[8]),([4,9],[4,9]),([10],[10])])
def impl_DocSame.B6:List Nat:=[0,1,0,7,15,0,32,0,224,480,1023,2047]
theorem impl_DocSame.tab6:rtab .any (opsOf Try.f34 6)=impl_DocSame.T6:=by kernel_rfl
theorem impl_DocSame.bits6:waitsOk impl_DocSame.T6.2 impl_DocSame.B6=true:=by kernel_rfl
set_option maxHeartbeats 8000000 in
set_option maxRecDepth 100000 in
theorem impl_DocSame.calls (k:Nat):∀ (a0_0:Int) (a0_1:Int) (a0_2:ByteArray) (A0_3:Option Addr) (c0_3:Nat) (l0_3:List (SDoc)) (a1_0:Int) (a1_1:Int) (a1_2:ByteArray) (A1_3:Option Addr) (c1_3:Nat) (l1_3:List (SDoc)) (r:Bool) (w:World) (hr0_3:Kd.C k27 w A0_3 l0_3.length l0_3) (hc0_3:l0_3.length≤c0_3) (hr1_3:Kd.C k27 w A1_3 l1_3.length l1_3) (hc1_3:l1_3.length≤c1_3) (h:impl_DocSame.f k a0_0 a0_1 a0_2 l0_3 a1_0 a1_1 a1_2 l1_3=some r),
  Calls Try.prog 34 #[.agg #[.int .i64 a0_0,.int .i64 a0_1,.string a0_2,.slice A0_3 l0_3.length c0_3],.agg #[.int .i64 a1_0,.int .i64 a1_1,.string a1_2,.slice A1_3 l1_3.length c1_3]] w fun e w'=>e=.returned (.bool r)∧Below w.heap.size w w':=by
 induction k using Nat.strongRecOn with
 | _ k ih =>
 intro a0_0 a0_1 a0_2 A0_3 c0_3 l0_3 a1_0 a1_1 a1_2 A1_3 c1_3 l1_3 r w hr0_3 hc0_3 hr1_3 hc1_3 h
 cases k with
 | zero=>exact absurd h (by simp [impl_DocSame.f])
 | succ k =>
 simp only [impl_DocSame.f] at h
 have hu27:=Try.underlying27
 have HR0_3:=Aside0.mk hr0_3
 have HC0_3:=Aside0.mk hc0_3
 clear hr0_3 hc0_3
 have HR1_3:=Aside0.mk hr1_3
 have HC1_3:=Aside0.mk hc1_3
 clear hr1_3 hc1_3
 have HB:=Aside0.mk (Below.refl w.heap.size w)
 have H:(if a0_0=a1_0 then (if a0_1=a1_1 then (if a0_2.toList=a1_2.toList then (impl_DocSame.j0 k ((l0_3.length:Int) != (l1_3.length:Int)) a0_0 a0_1 a0_2 l0_3 a1_0 a1_1 a1_2 l1_3) else (impl_DocSame.j0 k true a0_0 a0_1 a0_2 l0_3 a1_0 a1_1 a1_2 l1_3)) else (impl_DocSame.j0 k true a0_0 a0_1 a0_2 l0_3 a1_0 a1_1 a1_2 l1_3)) else (impl_DocSame.j0 k true a0_0 a0_1 a0_2 l0_3 a1_0 a1_1 a1_2 l1_3))=some r:=h
 clear h
 have HC3:=Aside0.mk H
 clear H
 go_enter Try.func34,Try.ntmps34
 go_upto_region 1 with (first|((with_reducible refine gate_dst (N:=2) rfl ?_);(try (refine gate_guard (by rfl) ?_;dsimp only));refine box_event ?hg (N:=2) ?hd (cs:=#[.int .i64 a0_0,.int .i64 a0_1,.string a0_2,.slice A0_3 l0_3.length c0_3]) (t:=27) ?hr ?_;(case hd=>rfl);(case hg=>rfl);(case hr=>first|(go_simp;done)|(go_simp;rfl));intro gb596 hg w4 hbox hb;have n0_:=Aside0.mk (below_step (gB HB) hb);have n1_:=Aside0.mk (hbox);have n2_:=Aside0.mk ((by rw [hg];exact (below_size (gB HB)):w.heap.size≤gb596));have n3_:=Aside0.mk ((by rw [hg];exact (below_size (gB HB)):w.heap.size≤gb596));clear HB;have HB:=n0_;have BK596:=n1_;have GW596:=n2_;have GE596:=n3_;clear n0_ n1_ n2_ n3_;clear hb hbox hg)|((with_reducible refine gate_dst (N:=3) rfl ?_);(try (refine gate_guard (by rfl) ?_;dsimp only));refine box_event ?hg (N:=3) ?hd (cs:=#[.int .i64 a1_0,.int .i64 a1_1,.string a1_2,.slice A1_3 l1_3.length c1_3]) (t:=27) ?hr ?_;(case hd=>rfl);(case hg=>rfl);(case hr=>first|(go_simp;done)|(go_simp;rfl));intro gb597 hg w5 hbox hb;have n0_:=Aside0.mk (blk_below (g:=gb596) (o:=.cells #[.int .i64 a0_0,.int .i64 a0_1,.string a0_2,.slice A0_3 l0_3.length c0_3] 27 (0,0)) (gK BK596) hb);have n1_:=Aside0.mk (below_step (by repeat (first|exact gB HB|refine below_set ?_ GE596.out)) hb);have n2_:=Aside0.mk (hbox);have n3_:=Aside0.mk ((by rw [hg];exact (below_size (by repeat (first|exact gB HB|refine below_set ?_ GE596.out))):w.heap.size≤gb597));have n4_:=Aside0.mk ((by rw [hg];exact (below_size (by repeat (first|exact gB HB|refine below_set ?_ GE596.out))):w.heap.size≤gb597));have n5_:=Aside0.mk ((by rw [hg];exact Nat.ne_of_lt (blk_lt (g:=gb596) (o:=.cells #[.int .i64 a0_0,.int .i64 a0_1,.string a0_2,.slice A0_3 l0_3.length c0_3] 27 (0,0)) (gK BK596)):gb596 ≠ gb597));have n6_:=Aside0.mk ((by rw [hg];exact Nat.ne_of_gt (blk_lt (g:=gb596) (o:=.cells #[.int .i64 a0_0,.int .i64 a0_1,.string a0_2,.slice A0_3 l0_3.length c0_3] 27 (0,0)) (gK BK596)):gb597 ≠ gb596));clear BK596;clear HB;have BK596:=n0_;have HB:=n1_;have BK597:=n2_;have GW597:=n3_;have GE597:=n4_;have NB596_597:=n5_;have NB597_596:=n6_;clear n0_ n1_ n2_ n3_ n4_ n5_ n6_;clear hb hbox hg))
 (try simp only [Act.put,List.setIfInBounds_toArray,List.set_cons_zero,List.set_cons_succ])
 go_cut [33] (fun v33 wc=>∃ (kq:Nat) (x33_2:Bool),v33=.bool x33_2∧Aside0 (impl_DocSame.j0 kq x33_2 a0_0 a0_1 a0_2 l0_3 a1_0 a1_1 a1_2 l1_3=some r)∧Aside0 (kq≤k)∧Aside0 (wc.heap[gb596]?=some (.cells #[.int .i64 a0_0,.int .i64 a0_1,.string a0_2,(.slice A0_3 l0_3.length c0_3)] 27 (0,0)))∧Aside0 (wc.heap[gb597]?=some (.cells #[.int .i64 a1_0,.int .i64 a1_1,.string a1_2,(.slice A1_3 l1_3.length c1_3)] 27 (0,0)))∧Aside0 (Below w.heap.size w wc))
 case first =>
  have H:=HC3.out
  clear HC3
  by_cases c6:a0_0=a1_0
  ·rw [if_pos c6] at H
   have c6b0:(a0_0 == a1_0)=true:=beq_iff_eq.mpr c6
   have c6b1:(a0_0 != a1_0)=false:=bne_eq_false_iff_eq.mpr c6
   clear c6
   (first|rw [c6b0]|(simp only [i64_w,i32_w];rw [c6b0])|skip)
   by_cases c7:a0_1=a1_1
   ·rw [if_pos c7] at H
    have c7b0:(a0_1 == a1_1)=true:=beq_iff_eq.mpr c7
    have c7b1:(a0_1 != a1_1)=false:=bne_eq_false_iff_eq.mpr c7
    clear c7
    by_cases c8:a0_2.toList=a1_2.toList
    ·rw [if_pos c8] at H
     have c8b0:(a0_2.toList == a1_2.toList)=true:=beq_iff_eq.mpr c8
     have c8b1:(a0_2.toList != a1_2.toList)=false:=bne_eq_false_iff_eq.mpr c8
     clear c8
     have H':=Aside0.mk H
     clear H
     have hnb9:=NB596_597.out
     have hnc9:=NB597_596.out
     have hcz10_0:w5.cell? ⟨gb596,0,none⟩=some (.int .i64 a0_0):=(blk_cell BK596.out 0).trans rfl
     have hcz10_1:w5.cell? ⟨gb596,1,none⟩=some (.int .i64 a0_1):=(blk_cell BK596.out 1).trans rfl
     have hcz10_2:w5.cell? ⟨gb596,2,none⟩=some (.string a0_2):=(blk_cell BK596.out 2).trans rfl
     have hcz10_3:w5.cell? ⟨gb596,3,none⟩=some (.slice A0_3 l0_3.length c0_3):=(blk_cell BK596.out 3).trans rfl
     have hfz10_0:=blk_frozen BK596.out 0
     have hfz10_1:=blk_frozen BK596.out 1
     have hfz10_2:=blk_frozen BK596.out 2
     have hfz10_3:=blk_frozen BK596.out 3
     have hcz11_0:w5.cell? ⟨gb597,0,none⟩=some (.int .i64 a1_0):=(blk_cell BK597.out 0).trans rfl
     have hcz11_1:w5.cell? ⟨gb597,1,none⟩=some (.int .i64 a1_1):=(blk_cell BK597.out 1).trans rfl
     have hcz11_2:w5.cell? ⟨gb597,2,none⟩=some (.string a1_2):=(blk_cell BK597.out 2).trans rfl
     have hcz11_3:w5.cell? ⟨gb597,3,none⟩=some (.slice A1_3 l1_3.length c1_3):=(blk_cell BK597.out 3).trans rfl
     have hfz11_0:=blk_frozen BK597.out 0
     have hfz11_1:=blk_frozen BK597.out 1
     have hfz11_2:=blk_frozen BK597.out 2
     have hfz11_3:=blk_frozen BK597.out 3
     go_wp2
     go_meet
     case rel=>exact ⟨_,(((l0_3.length:Int) != (l1_3.length:Int))),(by first|rfl|(simp;done)|(simp [*];done)),H',⟨by first|omega|exact Nat.le_refl _⟩,⟨gK BK596⟩,⟨gK BK597⟩,⟨by repeat (first|exact gB HB|refine below_set ?_ GE596.out|refine below_set ?_ GE597.out)⟩⟩
    ·rw [if_neg c8] at H
     have c8b0:(a0_2.toList == a1_2.toList)=false:=beq_eq_false_iff_ne.mpr c8
     have c8b1:(a0_2.toList != a1_2.toList)=true:=bne_iff_ne.mpr c8
     have H':=Aside0.mk H
     clear H
     have hnb12:=NB596_597.out
     have hnc12:=NB597_596.out
     have hcz13_0:w5.cell? ⟨gb596,0,none⟩=some (.int .i64 a0_0):=(blk_cell BK596.out 0).trans rfl
     have hcz13_1:w5.cell? ⟨gb596,1,none⟩=some (.int .i64 a0_1):=(blk_cell BK596.out 1).trans rfl
     have hcz13_2:w5.cell? ⟨gb596,2,none⟩=some (.string a0_2):=(blk_cell BK596.out 2).trans rfl
     have hcz13_3:w5.cell? ⟨gb596,3,none⟩=some (.slice A0_3 l0_3.length c0_3):=(blk_cell BK596.out 3).trans rfl
     have hfz13_0:=blk_frozen BK596.out 0
     have hfz13_1:=blk_frozen BK596.out 1
     have hfz13_2:=blk_frozen BK596.out 2
     have hfz13_3:=blk_frozen BK596.out 3
     have hcz14_0:w5.cell? ⟨gb597,0,none⟩=some (.int .i64 a1_0):=(blk_cell BK597.out 0).trans rfl
     have hcz14_1:w5.cell? ⟨gb597,1,none⟩=some (.int .i64 a1_1):=(blk_cell BK597.out 1).trans rfl
     have hcz14_2:w5.cell? ⟨gb597,2,none⟩=some (.string a1_2):=(blk_cell BK597.out 2).trans rfl
     have hcz14_3:w5.cell? ⟨gb597,3,none⟩=some (.slice A1_3 l1_3.length c1_3):=(blk_cell BK597.out 3).trans rfl
     have hfz14_0:=blk_frozen BK597.out 0
     have hfz14_1:=blk_frozen BK597.out 1
     have hfz14_2:=blk_frozen BK597.out 2
     have hfz14_3:=blk_frozen BK597.out 3
     go_wp2
     go_meet
     case rel=>exact ⟨_,(true),(by first|rfl|(simp;done)|(simp [*];done)),H',⟨by first|omega|exact Nat.le_refl _⟩,⟨gK BK596⟩,⟨gK BK597⟩,⟨by repeat (first|exact gB HB|refine below_set ?_ GE596.out|refine below_set ?_ GE597.out)⟩⟩
   ·rw [if_neg c7] at H
    have c7b0:(a0_1 == a1_1)=false:=beq_eq_false_iff_ne.mpr c7
    have c7b1:(a0_1 != a1_1)=true:=bne_iff_ne.mpr c7
    have H':=Aside0.mk H
    clear H
    have hnb15:=NB596_597.out
    have hnc15:=NB597_596.out
    have hcz16_0:w5.cell? ⟨gb596,0,none⟩=some (.int .i64 a0_0):=(blk_cell BK596.out 0).trans rfl
    have hcz16_1:w5.cell? ⟨gb596,1,none⟩=some (.int .i64 a0_1):=(blk_cell BK596.out 1).trans rfl
    have hcz16_2:w5.cell? ⟨gb596,2,none⟩=some (.string a0_2):=(blk_cell BK596.out 2).trans rfl
    have hcz16_3:w5.cell? ⟨gb596,3,none⟩=some (.slice A0_3 l0_3.length c0_3):=(blk_cell BK596.out 3).trans rfl
    have hfz16_0:=blk_frozen BK596.out 0
    have hfz16_1:=blk_frozen BK596.out 1
    have hfz16_2:=blk_frozen BK596.out 2
    have hfz16_3:=blk_frozen BK596.out 3
    have hcz17_0:w5.cell? ⟨gb597,0,none⟩=some (.int .i64 a1_0):=(blk_cell BK597.out 0).trans rfl
    have hcz17_1:w5.cell? ⟨gb597,1,none⟩=some (.int .i64 a1_1):=(blk_cell BK597.out 1).trans rfl
    have hcz17_2:w5.cell? ⟨gb597,2,none⟩=some (.string a1_2):=(blk_cell BK597.out 2).trans rfl
    have hcz17_3:w5.cell? ⟨gb597,3,none⟩=some (.slice A1_3 l1_3.length c1_3):=(blk_cell BK597.out 3).trans rfl
    have hfz17_0:=blk_frozen BK597.out 0
    have hfz17_1:=blk_frozen BK597.out 1
    have hfz17_2:=blk_frozen BK597.out 2
    have hfz17_3:=blk_frozen BK597.out 3
    go_wp2
    go_meet
    case rel=>exact ⟨_,(true),(by first|rfl|(simp;done)|(simp [*];done)),H',⟨by first|omega|exact Nat.le_refl _⟩,⟨gK BK596⟩,⟨gK BK597⟩,⟨by repeat (first|exact gB HB|refine below_set ?_ GE596.out|refine below_set ?_ GE597.out)⟩⟩
  ·rw [if_neg c6] at H
   have c6b0:(a0_0 == a1_0)=false:=beq_eq_false_iff_ne.mpr c6
   have c6b1:(a0_0 != a1_0)=true:=bne_iff_ne.mpr c6
   (first|rw [c6b0]|(simp only [i64_w,i32_w];rw [c6b0])|skip)
   have H':=Aside0.mk H
   clear H
   have hnb18:=NB596_597.out
   have hnc18:=NB597_596.out
   have hcz19_0:w5.cell? ⟨gb596,0,none⟩=some (.int .i64 a0_0):=(blk_cell BK596.out 0).trans rfl
   have hcz19_1:w5.cell? ⟨gb596,1,none⟩=some (.int .i64 a0_1):=(blk_cell BK596.out 1).trans rfl
   have hcz19_2:w5.cell? ⟨gb596,2,none⟩=some (.string a0_2):=(blk_cell BK596.out 2).trans rfl
   have hcz19_3:w5.cell? ⟨gb596,3,none⟩=some (.slice A0_3 l0_3.length c0_3):=(blk_cell BK596.out 3).trans rfl
   have hfz19_0:=blk_frozen BK596.out 0
   have hfz19_1:=blk_frozen BK596.out 1
   have hfz19_2:=blk_frozen BK596.out 2
   have hfz19_3:=blk_frozen BK596.out 3
   have hcz20_0:w5.cell? ⟨gb597,0,none⟩=some (.int .i64 a1_0):=(blk_cell BK597.out 0).trans rfl
   have hcz20_1:w5.cell? ⟨gb597,1,none⟩=some (.int .i64 a1_1):=(blk_cell BK597.out 1).trans rfl
   have hcz20_2:w5.cell? ⟨gb597,2,none⟩=some (.string a1_2):=(blk_cell BK597.out 2).trans rfl
   have hcz20_3:w5.cell? ⟨gb597,3,none⟩=some (.slice A1_3 l1_3.length c1_3):=(blk_cell BK597.out 3).trans rfl
   have hfz20_0:=blk_frozen BK597.out 0
   have hfz20_1:=blk_frozen BK597.out 1
   have hfz20_2:=blk_frozen BK597.out 2
   have hfz20_3:=blk_frozen BK597.out 3
   go_wp2
   go_meet
   case rel=>exact ⟨_,(true),(by first|rfl|(simp;done)|(simp [*];done)),H',⟨by first|omega|exact Nat.le_refl _⟩,⟨gK BK596⟩,⟨gK BK597⟩,⟨by repeat (first|exact gB HB|refine below_set ?_ GE596.out|refine below_set ?_ GE597.out)⟩⟩
 case rest =>
  clear HC3
  try clear c1 p2 c3 c6 c6b0 c6b1 c7 c7b0 c7b1 c8 c8b0 c8b1 c9 c12 c15 c18 hcz10_0 hcz10_1 hcz10_2 hcz10_3 hcz11_0 hcz11_1 hcz11_2 hcz11_3 hcz13_0 hcz13_1 hcz13_2 hcz13_3 hcz14_0 hcz14_1 hcz14_2 hcz14_3 hcz16_0 hcz16_1 hcz16_2 hcz16_3 hcz17_0 hcz17_1 hcz17_2 hcz17_3 hcz19_0 hcz19_1 hcz19_2 hcz19_3 hcz20_0 hcz20_1 hcz20_2 hcz20_3 hfz10_0 hfz10_1 hfz10_2 hfz10_3 hfz11_0 hfz11_1 hfz11_2 hfz11_3 hfz13_0 hfz13_1 hfz13_2 hfz13_3 hfz14_0 hfz14_1 hfz14_2 hfz14_3 hfz16_0 hfz16_1 hfz16_2 hfz16_3 hfz17_0 hfz17_1 hfz17_2 hfz17_3 hfz19_0 hfz19_1 hfz19_2 hfz19_3 hfz20_0 hfz20_1 hfz20_2 hfz20_3
  obtain ⟨kq,x33_2,rfl,HA,HJ2,BK596,BK597,HB⟩:=hcut
  cases kq with
  | zero=>exact absurd HA.out (by simp [impl_DocSame.j0])
  | succ kj2 =>
   have H:=HA.out
   clear HA
   simp only [impl_DocSame.j0] at H
   by_cases c21:x33_2=true
   ·subst c21
    have H1:(some false)=some r:=by rw [if_pos rfl] at H;exact H
    clear H
    have H:=H1
    clear H1
    obtain rfl:=Option.some.inj H
    go_wp2
    go_ret
    exact ⟨by first|rfl|(simp [errW_none,errW_some] <;> rfl)|(simp [*,errW_none,errW_some] <;> rfl),by repeat (first|exact gB HB|refine below_set ?_ GE596.out|refine below_set ?_ GE597.out)⟩
   ·replace c21:=Bool.eq_false_iff.mpr c21
    subst c21
    have H1:(impl_DocSame.l0 kj2 (l0_3.length:Int) 0 a0_0 a0_1 a0_2 l0_3 a1_0 a1_1 a1_2 l1_3)=some r:=by rw [if_neg (show ¬ (false=true) by decide)] at H;exact H
    clear H
    have H:=H1
    clear H1
    have H':=Aside0.mk H
    clear H
    have hnb22:=NB596_597.out
    have hnc22:=NB597_596.out
    have hcz23_0:wc.cell? ⟨gb596,0,none⟩=some (.int .i64 a0_0):=(blk_cell BK596.out 0).trans rfl
    have hcz23_1:wc.cell? ⟨gb596,1,none⟩=some (.int .i64 a0_1):=(blk_cell BK596.out 1).trans rfl
    have hcz23_2:wc.cell? ⟨gb596,2,none⟩=some (.string a0_2):=(blk_cell BK596.out 2).trans rfl
    have hcz23_3:wc.cell? ⟨gb596,3,none⟩=some (.slice A0_3 l0_3.length c0_3):=(blk_cell BK596.out 3).trans rfl
    have hfz23_0:=blk_frozen BK596.out 0
    have hfz23_1:=blk_frozen BK596.out 1
    have hfz23_2:=blk_frozen BK596.out 2
    have hfz23_3:=blk_frozen BK596.out 3
    go_wp2
    go_loopg [37] kj2 (fun kq v37 w'=>∃ (x37_2:Int),v37=.int .i64 x37_2∧Aside0 (impl_DocSame.l0 kq (l0_3.length:Int) x37_2 a0_0 a0_1 a0_2 l0_3 a1_0 a1_1 a1_2 l1_3=some r)∧Aside0 (kq≤kj2)∧Aside0 (w'.heap[gb596]?=some (.cells #[.int .i64 a0_0,.int .i64 a0_1,.string a0_2,(.slice A0_3 l0_3.length c0_3)] 27 (0,0)))∧Aside0 (w'.heap[gb597]?=some (.cells #[.int .i64 a1_0,.int .i64 a1_1,.string a1_2,(.slice A1_3 l1_3.length c1_3)] 27 (0,0)))∧Aside0 (Below w.heap.size w w'))
    case atStart=>exact ⟨(0),(by first|rfl|(simp;done)|(simp [*];done)),H',⟨Nat.le_refl _⟩,⟨gK BK596⟩,⟨gK BK597⟩,⟨by repeat (first|exact gB HB|refine below_set ?_ GE596.out|refine below_set ?_ GE597.out)⟩⟩
    case round =>
     clear H'
     try clear c1 c2 p2 c3 c6 c6b0 c6b1 c7 c7b0 c7b1 c8 c8b0 c8b1 c9 c12 c15 c18 c21 c22 hcz10_0 hcz10_1 hcz10_2 hcz10_3 hcz11_0 hcz11_1 hcz11_2 hcz11_3 hcz13_0 hcz13_1 hcz13_2 hcz13_3 hcz14_0 hcz14_1 hcz14_2 hcz14_3 hcz16_0 hcz16_1 hcz16_2 hcz16_3 hcz17_0 hcz17_1 hcz17_2 hcz17_3 hcz19_0 hcz19_1 hcz19_2 hcz19_3 hcz20_0 hcz20_1 hcz20_2 hcz20_3 hcz23_0 hcz23_1 hcz23_2 hcz23_3 hfz10_0 hfz10_1 hfz10_2 hfz10_3 hfz11_0 hfz11_1 hfz11_2 hfz11_3 hfz13_0 hfz13_1 hfz13_2 hfz13_3 hfz14_0 hfz14_1 hfz14_2 hfz14_3 hfz16_0 hfz16_1 hfz16_2 hfz16_3 hfz17_0 hfz17_1 hfz17_2 hfz17_3 hfz19_0 hfz19_1 hfz19_2 hfz19_3 hfz20_0 hfz20_1 hfz20_2 hfz20_3 hfz23_0 hfz23_1 hfz23_2 hfz23_3 p2
     (try clear BK596);(try clear BK597);(try clear HB)
     obtain ⟨x37_2,rfl,HA,HK2,BK596,BK597,HB⟩:=hrel
     cases gk with
     | zero=>exact absurd HA.out (by simp [impl_DocSame.l0])
     | succ k2 =>
      have H:=HA.out
      clear HA
      simp only [impl_DocSame.l0] at H
      by_cases c24:x37_2 < (l0_3.length:Int)
      ·rw [if_pos c24] at H
       have c24b0:decide (x37_2 < (l0_3.length:Int))=true:=decide_eq_true c24
       clear c24
       by_cases c25:0≤x37_2
       ·rw [if_pos c25] at H
        have c25b0:decide (0≤x37_2)=true:=decide_eq_true c25
        clear c25
        by_cases c26:x37_2 < (l0_3.length:Int)
        ·rw [if_pos c26] at H
         have c26b0:decide (x37_2 < (l0_3.length:Int))=true:=decide_eq_true c26
         clear c26
         by_cases c27:x37_2 < (l1_3.length:Int)
         ·rw [if_pos c27] at H
          have c27b0:decide (x37_2 < (l1_3.length:Int))=true:=decide_eq_true c27
          clear c27
          replace H:=Option.bind_eq_some_iff.mp H
          obtain ⟨t600,A280,H⟩:=H
          replace H:(if t600=true then (impl_DocSame.l0 k2 (l0_3.length:Int) (wrap64 (x37_2+1)) a0_0 a0_1 a0_2 l0_3 a1_0 a1_1 a1_2 l1_3) else (some false))=some r:=H
          have A28:=Aside0.mk A280
          clear A280
          by_cases c29:t600=true
          ·subst c29
           have H1:(impl_DocSame.l0 k2 (l0_3.length:Int) (wrap64 (x37_2+1)) a0_0 a0_1 a0_2 l0_3 a1_0 a1_1 a1_2 l1_3)=some r:=by rw [if_pos rfl] at H;exact H
           clear H
           have H:=H1
           clear H1
           have H':=Aside0.mk H
           clear H
           try go_wp2
           have n0_:=Aside0.mk (blk_drew BK596.out)
           have n1_:=Aside0.mk (blk_drew BK597.out)
           have n2_:=Aside0.mk (below_drew1 HB.out)
           clear BK596
           clear BK597
           clear HB
           have BK596:=n0_
           have BK597:=n1_
           have HB:=n2_
           clear n0_ n1_ n2_
           have p598:0≤(x37_2:Int):=of_decide_eq_true (by first|(with_reducible assumption)|assumption)
           have q598:x37_2 < (l0_3.length:Int):=of_decide_eq_true (by first|(with_reducible assumption)|assumption)
           obtain ⟨ad598,A598_3,c598_3,e598,hx598_0,hx598_1,hx598_2,hx598_3,hl598_3,hi598_3⟩:=at_TDoc HR0_3.out x37_2 p598 q598
           have hw598_3:=hx598_3
           have hw598_2:=hx598_2
           have hw598_1:=hx598_1
           have hw598_0:=hx598_0
           cases e598
           replace hx598_0:=(HB.out.cell (World.block_lt_of_cell? w _ hx598_0)).trans hx598_0
           replace hx598_1:=(HB.out.cell (World.block_lt_of_cell? w _ hx598_1)).trans hx598_1
           replace hx598_2:=(HB.out.cell (World.block_lt_of_cell? w _ hx598_2)).trans hx598_2
           replace hx598_3:=(HB.out.cell (World.block_lt_of_cell? w _ hx598_3)).trans hx598_3
           have HR598_3:=Aside0.mk hi598_3
           have HC598_3:=Aside0.mk hl598_3
           clear hi598_3 hl598_3
           replace p598:=eq_true p598
           replace q598:=eq_true q598
           have p599:0≤(x37_2:Int):=of_decide_eq_true (by first|(with_reducible assumption)|assumption)
           have q599:x37_2 < (l1_3.length:Int):=of_decide_eq_true (by first|(with_reducible assumption)|assumption)
           obtain ⟨ad599,A599_3,c599_3,e599,hx599_0,hx599_1,hx599_2,hx599_3,hl599_3,hi599_3⟩:=at_TDoc HR1_3.out x37_2 p599 q599
           have hw599_3:=hx599_3
           have hw599_2:=hx599_2
           have hw599_1:=hx599_1
           have hw599_0:=hx599_0
           cases e599
           replace hx599_0:=(HB.out.cell (World.block_lt_of_cell? w _ hx599_0)).trans hx599_0
           replace hx599_1:=(HB.out.cell (World.block_lt_of_cell? w _ hx599_1)).trans hx599_1
           replace hx599_2:=(HB.out.cell (World.block_lt_of_cell? w _ hx599_2)).trans hx599_2
           replace hx599_3:=(HB.out.cell (World.block_lt_of_cell? w _ hx599_3)).trans hx599_3
           have HR599_3:=Aside0.mk hi599_3
           have HC599_3:=Aside0.mk hl599_3
           clear hi599_3 hl599_3
           replace p599:=eq_true p599
           replace q599:=eq_true q599
           refine start_ (n:=12) (S:=fun w'=>w'.cell? ⟨gb596,0,none⟩=some (.int .i64 a0_0)∧w'.cell? ⟨gb596,1,none⟩=some (.int .i64 a0_1)∧w'.cell? ⟨gb596,2,none⟩=some (.string a0_2)∧w'.cell? ⟨gb596,3,none⟩=some (.slice (some ad598) l0_3.length c0_3)∧w'.cell? ⟨gb597,0,none⟩=some (.int .i64 a1_0)∧w'.cell? ⟨gb597,1,none⟩=some (.int .i64 a1_1)∧w'.cell? ⟨gb597,2,none⟩=some (.string a1_2)∧w'.cell? ⟨gb597,3,none⟩=some (.slice (some ad599) l1_3.length c1_3)∧w'.cell? (ad598.add ((x37_2).toNat * 4))=some (.int .i64 ((rd_TDoc l0_3 x37_2).f0))∧w'.cell? ⟨(ad598.add ((x37_2).toNat * 4)).block,(ad598.add ((x37_2).toNat * 4)).off+1,none⟩=some (.int .i64 ((rd_TDoc l0_3 x37_2).f1))∧w'.cell? ⟨(ad598.add ((x37_2).toNat * 4)).block,(ad598.add ((x37_2).toNat * 4)).off+2,none⟩=some (.string ((rd_TDoc l0_3 x37_2).f2))∧w'.cell? ⟨(ad598.add ((x37_2).toNat * 4)).block,(ad598.add ((x37_2).toNat * 4)).off+3,none⟩=some (.slice A598_3 ((rd_TDoc l0_3 x37_2).f3).length c598_3)∧w'.cell? (ad599.add ((x37_2).toNat * 4))=some (.int .i64 ((rd_TDoc l1_3 x37_2).f0))∧w'.cell? ⟨(ad599.add ((x37_2).toNat * 4)).block,(ad599.add ((x37_2).toNat * 4)).off+1,none⟩=some (.int .i64 ((rd_TDoc l1_3 x37_2).f1))∧w'.cell? ⟨(ad599.add ((x37_2).toNat * 4)).block,(ad599.add ((x37_2).toNat * 4)).off+2,none⟩=some (.string ((rd_TDoc l1_3 x37_2).f2))∧w'.cell? ⟨(ad599.add ((x37_2).toNat * 4)).block,(ad599.add ((x37_2).toNat * 4)).off+3,none⟩=some (.slice A599_3 ((rd_TDoc l1_3 x37_2).f3).length c599_3)) (ds:=[]) #[false,false,false,false,false,false,false,false,false,false,false,false] (by kernel_rfl) rfl rfl ⟨(blk_cell BK596.out 0).trans rfl,(blk_cell BK596.out 1).trans rfl,(blk_cell BK596.out 2).trans rfl,(blk_cell BK596.out 3).trans rfl,(blk_cell BK597.out 0).trans rfl,(blk_cell BK597.out 1).trans rfl,(blk_cell BK597.out 2).trans rfl,(blk_cell BK597.out 3).trans rfl,((HB.out.cell (World.block_lt_of_cell? w _ hw598_0)).trans hw598_0),((HB.out.cell (World.block_lt_of_cell? w _ hw598_1)).trans hw598_1),((HB.out.cell (World.block_lt_of_cell? w _ hw598_2)).trans hw598_2),((HB.out.cell (World.block_lt_of_cell? w _ hw598_3)).trans hw598_3),((HB.out.cell (World.block_lt_of_cell? w _ hw599_0)).trans hw599_0),((HB.out.cell (World.block_lt_of_cell? w _ hw599_1)).trans hw599_1),((HB.out.cell (World.block_lt_of_cell? w _ hw599_2)).trans hw599_2),((HB.out.cell (World.block_lt_of_cell? w _ hw599_3)).trans hw599_3)⟩ (fun hHeld=>?_);refine with_tabW impl_DocSame.tab6 impl_DocSame.bits6 (fun HT_ HW_=>?_)
           generalize wr.drew=w30 at BK596 BK597 HB HR598_3 HR599_3 hx598_0 hx598_1 hx598_2 hx598_3 hx599_0 hx599_1 hx599_2 hx599_3 hHeld ⊢
           refine pure_ (i:=0) (N:=some 40) (v:=?_) (a':=?_) #[true,false,false,false,false,false,false,false,false,false,false,false] rfl rfl (any_of HT_.out (by kernel_rfl)) (fun _ _ _ h=>h) (Or.inl ⟨by rfl,?_⟩) ?_ ?_
           rotate_left
           ·intro w'
            go_simp
            with_reducible rfl
           rotate_left
           ·simp only [Act.put,List.setIfInBounds_toArray,List.set_cons_zero,List.set_cons_succ,i64_w,i32_w]
            rfl
           refine pure_ (i:=2) (N:=some 42) (v:=?_) (a':=?_) #[true,false,true,false,false,false,false,false,false,false,false,false] rfl rfl (any_of HT_.out (by kernel_rfl)) (fun _ _ _ h=>h) (Or.inl ⟨by rfl,?_⟩) ?_ ?_
           rotate_left
           ·intro w'
            go_simp
            with_reducible rfl
           rotate_left
           ·simp only [Act.put,List.setIfInBounds_toArray,List.set_cons_zero,List.set_cons_succ,i64_w,i32_w]
            rfl
           refine pure_ (i:=5) (N:=some 45) (v:=?_) (a':=?_) #[true,false,true,false,false,true,false,false,false,false,false,false] rfl rfl (any_of HT_.out (by kernel_rfl)) (fun _ _ _ h=>h) (Or.inl ⟨by rfl,?_⟩) ?_ ?_
           rotate_left
           ·intro w'
            go_simp
            with_reducible rfl
           rotate_left
           ·simp only [Act.put,List.setIfInBounds_toArray,List.set_cons_zero,List.set_cons_succ,i64_w,i32_w]
            rfl
           refine pure_ (i:=7) (N:=some 47) (v:=?_) (a':=?_) #[true,false,true,false,false,true,false,true,false,false,false,false] rfl rfl (any_of HT_.out (by kernel_rfl)) (fun _ _ _ h=>h) (Or.inl ⟨by rfl,?_⟩) ?_ ?_
           rotate_left
           ·intro w'
            go_simp
            with_reducible rfl
           rotate_left
           ·simp only [Act.put,List.setIfInBounds_toArray,List.set_cons_zero,List.set_cons_succ,i64_w,i32_w]
            rfl
           refine take_ (i:=1) (N:=some 41) (v:=?_) (a':=?_) #[true,true,true,false,false,true,false,true,false,false,false,false] rfl rfl (take_ofW HT_.out HW_.out (by kernel_rfl)) (fun _ _ _ h=>h) (Or.inl ⟨by rfl,?_⟩) hHeld ?_ ?_
           rotate_left
           ·rintro w' ⟨s0,s1,s2,s3,s4,s5,s6,s7,s8,s9,s10,s11,s12,s13,s14,s15⟩
            go_simp
            with_reducible rfl
           rotate_left
           ·simp only [Act.put,List.setIfInBounds_toArray,List.set_cons_zero,List.set_cons_succ,i64_w,i32_w]
            rfl
           refine pure_ (i:=3) (N:=some 43) (v:=?_) (a':=?_) #[true,true,true,true,false,true,false,true,false,false,false,false] rfl rfl (any_of HT_.out (by kernel_rfl)) (fun _ _ _ h=>h) (Or.inl ⟨by rfl,?_⟩) ?_ ?_
           rotate_left
           ·intro w'
            go_simp
            with_reducible rfl
           rotate_left
           ·simp only [Act.put,List.setIfInBounds_toArray,List.set_cons_zero,List.set_cons_succ,i64_w,i32_w]
            rfl
           refine take_ (i:=4) (N:=some 44) (v:=?_) (a':=?_) #[true,true,true,true,true,true,false,true,false,false,false,false] rfl rfl (take_ofW HT_.out HW_.out (by kernel_rfl)) (fun _ _ _ h=>h) (Or.inl ⟨by rfl,?_⟩) hHeld ?_ ?_
           rotate_left
           ·rintro w' ⟨s0,s1,s2,s3,s4,s5,s6,s7,s8,s9,s10,s11,s12,s13,s14,s15⟩
            go_simp
            with_reducible rfl
           rotate_left
           ·simp only [Act.put,List.setIfInBounds_toArray,List.set_cons_zero,List.set_cons_succ,i64_w,i32_w]
            rfl
           refine take_ (i:=6) (N:=some 46) (v:=?_) (a':=?_) #[true,true,true,true,true,true,true,true,false,false,false,false] rfl rfl (take_ofW HT_.out HW_.out (by kernel_rfl)) (fun _ _ _ h=>h) (Or.inl ⟨by rfl,?_⟩) hHeld ?_ ?_
           rotate_left
           ·rintro w' ⟨s0,s1,s2,s3,s4,s5,s6,s7,s8,s9,s10,s11,s12,s13,s14,s15⟩
            go_simp
            with_reducible rfl
           rotate_left
           ·simp only [Act.put,List.setIfInBounds_toArray,List.set_cons_zero,List.set_cons_succ,i64_w,i32_w]
            rfl
           refine pure_ (i:=8) (N:=some 48) (v:=?_) (a':=?_) #[true,true,true,true,true,true,true,true,true,false,false,false] rfl rfl (any_of HT_.out (by kernel_rfl)) (fun _ _ _ h=>h) (Or.inl ⟨by rfl,?_⟩) ?_ ?_
           rotate_left
           ·intro w'
            go_simp
            with_reducible rfl
           rotate_left
           ·simp only [Act.put,List.setIfInBounds_toArray,List.set_cons_zero,List.set_cons_succ,i64_w,i32_w]
            rfl
           refine take_ (i:=9) (N:=some 49) (v:=?_) (a':=?_) #[true,true,true,true,true,true,true,true,true,true,false,false] rfl rfl (take_ofW HT_.out HW_.out (by kernel_rfl)) (fun _ _ _ h=>h) (Or.inl ⟨by rfl,?_⟩) hHeld ?_ ?_
           rotate_left
           ·rintro w' ⟨s0,s1,s2,s3,s4,s5,s6,s7,s8,s9,s10,s11,s12,s13,s14,s15⟩
            go_simp
            with_reducible rfl
           rotate_left
           ·simp only [Act.put,List.setIfInBounds_toArray,List.set_cons_zero,List.set_cons_succ,i64_w,i32_w]
            rfl
           refine one_ (i:=10) (N:=some 50) #[true,true,true,true,true,true,true,true,true,true,true,false] rfl rfl (one_of HT_.out (by kernel_rfl)) (by decide) (fun K hK=>?_)
           refine goes_ Try.func34 (by kernel_rfl) rfl #[.agg #[.int .i64 ((rd_TDoc l0_3 x37_2).f0),.int .i64 ((rd_TDoc l0_3 x37_2).f1),.string ((rd_TDoc l0_3 x37_2).f2),.slice A598_3 ((rd_TDoc l0_3 x37_2).f3).length c598_3],.agg #[.int .i64 ((rd_TDoc l1_3 x37_2).f0),.int .i64 ((rd_TDoc l1_3 x37_2).f1),.string ((rd_TDoc l1_3 x37_2).f2),.slice A599_3 ((rd_TDoc l1_3 x37_2).f3).length c599_3]] (by rfl) rfl rfl (by (try simp only [List.map_toArray,List.map_cons,List.map_nil]);first|done|rfl|(simp only [List.length_drop,List.length_take];rfl)) ?_
           with_reducible refine (ih k2 (by have:=HJ2.out;have:=HK2.out;omega) ((rd_TDoc l0_3 x37_2).f0) ((rd_TDoc l0_3 x37_2).f1) ((rd_TDoc l0_3 x37_2).f2) _ _ ((rd_TDoc l0_3 x37_2).f3) ((rd_TDoc l1_3 x37_2).f0) ((rd_TDoc l1_3 x37_2).f1) ((rd_TDoc l1_3 x37_2).f2) _ _ ((rd_TDoc l1_3 x37_2).f3) true _ ?side1 ?side2 ?side3 ?side4 A28.out).mono ?_
           (case side1=>exact gC (Kd.C_below HR598_3.out HB.out))
           (case side2=>exact HC598_3.out)
           (case side3=>exact gC (Kd.C_below HR599_3.out HB.out))
           (case side4=>exact HC599_3.out)
           rintro e w31 ⟨rfl,hb⟩
           refine ⟨_,rfl,?_⟩
           have n0_:=Aside0.mk (blk_below (g:=gb596) (o:=.cells #[.int .i64 a0_0,.int .i64 a0_1,.string a0_2,.slice (some ad598) l0_3.length c0_3] 27 (0,0)) (gK BK596) hb)
           have n1_:=Aside0.mk (blk_below (g:=gb597) (o:=.cells #[.int .i64 a1_0,.int .i64 a1_1,.string a1_2,.slice (some ad599) l1_3.length c1_3] 27 (0,0)) (gK BK597) hb)
           have n2_:=Aside0.mk (below_step (by repeat (first|exact gB HB|refine below_set ?_ GE596.out|refine below_set ?_ GE597.out)) hb)
           clear BK596
           clear BK597
           clear HB
           have BK596:=n0_
           have BK597:=n1_
           have HB:=n2_
           clear n0_ n1_ n2_
           (try clear hb)
           (try clear hb2)
           (try clear hk)
           (try clear hi)
           refine hK.out _ _ ⟨(blk_cell BK596.out 0).trans rfl,(blk_cell BK596.out 1).trans rfl,(blk_cell BK596.out 2).trans rfl,(blk_cell BK596.out 3).trans rfl,(blk_cell BK597.out 0).trans rfl,(blk_cell BK597.out 1).trans rfl,(blk_cell BK597.out 2).trans rfl,(blk_cell BK597.out 3).trans rfl,((HB.out.cell (World.block_lt_of_cell? w _ hw598_0)).trans hw598_0),((HB.out.cell (World.block_lt_of_cell? w _ hw598_1)).trans hw598_1),((HB.out.cell (World.block_lt_of_cell? w _ hw598_2)).trans hw598_2),((HB.out.cell (World.block_lt_of_cell? w _ hw598_3)).trans hw598_3),((HB.out.cell (World.block_lt_of_cell? w _ hw599_0)).trans hw599_0),((HB.out.cell (World.block_lt_of_cell? w _ hw599_1)).trans hw599_1),((HB.out.cell (World.block_lt_of_cell? w _ hw599_2)).trans hw599_2),((HB.out.cell (World.block_lt_of_cell? w _ hw599_3)).trans hw599_3)⟩ (fun hHeld=>?_)
           clear hK K
           refine norm_ (a':=?_) ?_ ?_
           rotate_left
           ·show Act.put _ (some 50) _=_
            simp only [Act.put,List.setIfInBounds_toArray,List.set_cons_zero,List.set_cons_succ,i64_w,i32_w]
            rfl
           refine pure_ (i:=11) (N:=some 51) (v:=?_) (a':=?_) #[true,true,true,true,true,true,true,true,true,true,true,true] rfl rfl (any_of HT_.out (by kernel_rfl)) (fun _ _ _ h=>h) (Or.inl ⟨by rfl,?_⟩) ?_ ?_
           rotate_left
           ·intro w'
            go_simp
            with_reducible rfl
           rotate_left
           ·simp only [Act.put,List.setIfInBounds_toArray,List.set_cons_zero,List.set_cons_succ,i64_w,i32_w]
            rfl
           refine done_ (done_of HT_.out (by kernel_rfl)) ?_
           try go_wp2
           go_roundg k2
           case measure=>have:=HJ2.out;have:=HK2.out;omega
           case rel=>exact ⟨(wrap64 (x37_2+1)),(by first|rfl|(simp;done)|(simp [*];done)),H',⟨by have:=HJ2.out;have:=HK2.out;omega⟩,⟨gK BK596⟩,⟨gK BK597⟩,⟨by repeat (first|exact gB HB|refine below_set ?_ GE596.out|refine below_set ?_ GE597.out)⟩⟩
          ·replace c29:=Bool.eq_false_iff.mpr c29
           subst c29
           have H1:(some false)=some r:=by rw [if_neg (show ¬ (false=true) by decide)] at H;exact H
           clear H
           have H:=H1
           clear H1
           obtain rfl:=Option.some.inj H
           try go_wp2
           have n0_:=Aside0.mk (blk_drew BK596.out)
           have n1_:=Aside0.mk (blk_drew BK597.out)
           have n2_:=Aside0.mk (below_drew1 HB.out)
           clear BK596
           clear BK597
           clear HB
           have BK596:=n0_
           have BK597:=n1_
           have HB:=n2_
           clear n0_ n1_ n2_
           have p598:0≤(x37_2:Int):=of_decide_eq_true (by first|(with_reducible assumption)|assumption)
           have q598:x37_2 < (l0_3.length:Int):=of_decide_eq_true (by first|(with_reducible assumption)|assumption)
           (try clear hx598_0);(try clear hx598_1);(try clear hx598_2);(try clear hx598_3)
           obtain ⟨ad598,A598_3,c598_3,e598,hx598_0,hx598_1,hx598_2,hx598_3,hl598_3,hi598_3⟩:=at_TDoc HR0_3.out x37_2 p598 q598
           (try (have ea_:=Option.some.inj (hx598_3.symm.trans hw598_3);injection ea_ with ea_ en_ ec_;subst ea_;subst ec_;clear en_))
           have hw598_3:=hx598_3
           have hw598_2:=hx598_2
           have hw598_1:=hx598_1
           have hw598_0:=hx598_0
           cases e598
           replace hx598_0:=(HB.out.cell (World.block_lt_of_cell? w _ hx598_0)).trans hx598_0
           replace hx598_1:=(HB.out.cell (World.block_lt_of_cell? w _ hx598_1)).trans hx598_1
           replace hx598_2:=(HB.out.cell (World.block_lt_of_cell? w _ hx598_2)).trans hx598_2
           replace hx598_3:=(HB.out.cell (World.block_lt_of_cell? w _ hx598_3)).trans hx598_3
           have HR598_3:=Aside0.mk hi598_3
           have HC598_3:=Aside0.mk hl598_3
           clear hi598_3 hl598_3
           replace p598:=eq_true p598
           replace q598:=eq_true q598
           have p599:0≤(x37_2:Int):=of_decide_eq_true (by first|(with_reducible assumption)|assumption)
           have q599:x37_2 < (l1_3.length:Int):=of_decide_eq_true (by first|(with_reducible assumption)|assumption)
           (try clear hx599_0);(try clear hx599_1);(try clear hx599_2);(try clear hx599_3)
           obtain ⟨ad599,A599_3,c599_3,e599,hx599_0,hx599_1,hx599_2,hx599_3,hl599_3,hi599_3⟩:=at_TDoc HR1_3.out x37_2 p599 q599
           (try (have ea_:=Option.some.inj (hx599_3.symm.trans hw599_3);injection ea_ with ea_ en_ ec_;subst ea_;subst ec_;clear en_))
           have hw599_3:=hx599_3
           have hw599_2:=hx599_2
           have hw599_1:=hx599_1
           have hw599_0:=hx599_0
           cases e599
           replace hx599_0:=(HB.out.cell (World.block_lt_of_cell? w _ hx599_0)).trans hx599_0
           replace hx599_1:=(HB.out.cell (World.block_lt_of_cell? w _ hx599_1)).trans hx599_1
           replace hx599_2:=(HB.out.cell (World.block_lt_of_cell? w _ hx599_2)).trans hx599_2
           replace hx599_3:=(HB.out.cell (World.block_lt_of_cell? w _ hx599_3)).trans hx599_3
           have HR599_3:=Aside0.mk hi599_3
           have HC599_3:=Aside0.mk hl599_3
           clear hi599_3 hl599_3
           replace p599:=eq_true p599
           replace q599:=eq_true q599
           refine start_ (n:=12) (S:=fun w'=>w'.cell? ⟨gb596,0,none⟩=some (.int .i64 a0_0)∧w'.cell? ⟨gb596,1,none⟩=some (.int .i64 a0_1)∧w'.cell? ⟨gb596,2,none⟩=some (.string a0_2)∧w'.cell? ⟨gb596,3,none⟩=some (.slice (some ad598) l0_3.length c0_3)∧w'.cell? ⟨gb597,0,none⟩=some (.int .i64 a1_0)∧w'.cell? ⟨gb597,1,none⟩=some (.int .i64 a1_1)∧w'.cell? ⟨gb597,2,none⟩=some (.string a1_2)∧w'.cell? ⟨gb597,3,none⟩=some (.slice (some ad599) l1_3.length c1_3)∧w'.cell? (ad598.add ((x37_2).toNat * 4))=some (.int .i64 ((rd_TDoc l0_3 x37_2).f0))∧w'.cell? ⟨(ad598.add ((x37_2).toNat * 4)).block,(ad598.add ((x37_2).toNat * 4)).off+1,none⟩=some (.int .i64 ((rd_TDoc l0_3 x37_2).f1))∧w'.cell? ⟨(ad598.add ((x37_2).toNat * 4)).block,(ad598.add ((x37_2).toNat * 4)).off+2,none⟩=some (.string ((rd_TDoc l0_3 x37_2).f2))∧w'.cell? ⟨(ad598.add ((x37_2).toNat * 4)).block,(ad598.add ((x37_2).toNat * 4)).off+3,none⟩=some (.slice A598_3 ((rd_TDoc l0_3 x37_2).f3).length c598_3)∧w'.cell? (ad599.add ((x37_2).toNat * 4))=some (.int .i64 ((rd_TDoc l1_3 x37_2).f0))∧w'.cell? ⟨(ad599.add ((x37_2).toNat * 4)).block,(ad599.add ((x37_2).toNat * 4)).off+1,none⟩=some (.int .i64 ((rd_TDoc l1_3 x37_2).f1))∧w'.cell? ⟨(ad599.add ((x37_2).toNat * 4)).block,(ad599.add ((x37_2).toNat * 4)).off+2,none⟩=some (.string ((rd_TDoc l1_3 x37_2).f2))∧w'.cell? ⟨(ad599.add ((x37_2).toNat * 4)).block,(ad599.add ((x37_2).toNat * 4)).off+3,none⟩=some (.slice A599_3 ((rd_TDoc l1_3 x37_2).f3).length c599_3)) (ds:=[]) #[false,false,false,false,false,false,false,false,false,false,false,false] (by kernel_rfl) rfl rfl ⟨(blk_cell BK596.out 0).trans rfl,(blk_cell BK596.out 1).trans rfl,(blk_cell BK596.out 2).trans rfl,(blk_cell BK596.out 3).trans rfl,(blk_cell BK597.out 0).trans rfl,(blk_cell BK597.out 1).trans rfl,(blk_cell BK597.out 2).trans rfl,(blk_cell BK597.out 3).trans rfl,((HB.out.cell (World.block_lt_of_cell? w _ hw598_0)).trans hw598_0),((HB.out.cell (World.block_lt_of_cell? w _ hw598_1)).trans hw598_1),((HB.out.cell (World.block_lt_of_cell? w _ hw598_2)).trans hw598_2),((HB.out.cell (World.block_lt_of_cell? w _ hw598_3)).trans hw598_3),((HB.out.cell (World.block_lt_of_cell? w _ hw599_0)).trans hw599_0),((HB.out.cell (World.block_lt_of_cell? w _ hw599_1)).trans hw599_1),((HB.out.cell (World.block_lt_of_cell? w _ hw599_2)).trans hw599_2),((HB.out.cell (World.block_lt_of_cell? w _ hw599_3)).trans hw599_3)⟩ (fun hHeld=>?_);refine with_tabW impl_DocSame.tab6 impl_DocSame.bits6 (fun HT_ HW_=>?_)
           generalize wr.drew=w32 at BK596 BK597 HB HR598_3 HR599_3 hx598_0 hx598_1 hx598_2 hx598_3 hx599_0 hx599_1 hx599_2 hx599_3 hHeld ⊢
           refine pure_ (i:=0) (N:=some 40) (v:=?_) (a':=?_) #[true,false,false,false,false,false,false,false,false,false,false,false] rfl rfl (any_of HT_.out (by kernel_rfl)) (fun _ _ _ h=>h) (Or.inl ⟨by rfl,?_⟩) ?_ ?_
           rotate_left
           ·intro w'
            go_simp
            with_reducible rfl
           rotate_left
           ·simp only [Act.put,List.setIfInBounds_toArray,List.set_cons_zero,List.set_cons_succ,i64_w,i32_w]
            rfl
           refine pure_ (i:=2) (N:=some 42) (v:=?_) (a':=?_) #[true,false,true,false,false,false,false,false,false,false,false,false] rfl rfl (any_of HT_.out (by kernel_rfl)) (fun _ _ _ h=>h) (Or.inl ⟨by rfl,?_⟩) ?_ ?_
           rotate_left
           ·intro w'
            go_simp
            with_reducible rfl
           rotate_left
           ·simp only [Act.put,List.setIfInBounds_toArray,List.set_cons_zero,List.set_cons_succ,i64_w,i32_w]
            rfl
           refine pure_ (i:=5) (N:=some 45) (v:=?_) (a':=?_) #[true,false,true,false,false,true,false,false,false,false,false,false] rfl rfl (any_of HT_.out (by kernel_rfl)) (fun _ _ _ h=>h) (Or.inl ⟨by rfl,?_⟩) ?_ ?_
           rotate_left
           ·intro w'
            go_simp
            with_reducible rfl
           rotate_left
           ·simp only [Act.put,List.setIfInBounds_toArray,List.set_cons_zero,List.set_cons_succ,i64_w,i32_w]
            rfl
           refine pure_ (i:=7) (N:=some 47) (v:=?_) (a':=?_) #[true,false,true,false,false,true,false,true,false,false,false,false] rfl rfl (any_of HT_.out (by kernel_rfl)) (fun _ _ _ h=>h) (Or.inl ⟨by rfl,?_⟩) ?_ ?_
           rotate_left
           ·intro w'
            go_simp
            with_reducible rfl
           rotate_left
           ·simp only [Act.put,List.setIfInBounds_toArray,List.set_cons_zero,List.set_cons_succ,i64_w,i32_w]
            rfl
           refine take_ (i:=1) (N:=some 41) (v:=?_) (a':=?_) #[true,true,true,false,false,true,false,true,false,false,false,false] rfl rfl (take_ofW HT_.out HW_.out (by kernel_rfl)) (fun _ _ _ h=>h) (Or.inl ⟨by rfl,?_⟩) hHeld ?_ ?_
           rotate_left
           ·rintro w' ⟨s0,s1,s2,s3,s4,s5,s6,s7,s8,s9,s10,s11,s12,s13,s14,s15⟩
            go_simp
            with_reducible rfl
           rotate_left
           ·simp only [Act.put,List.setIfInBounds_toArray,List.set_cons_zero,List.set_cons_succ,i64_w,i32_w]
            rfl
           refine pure_ (i:=3) (N:=some 43) (v:=?_) (a':=?_) #[true,true,true,true,false,true,false,true,false,false,false,false] rfl rfl (any_of HT_.out (by kernel_rfl)) (fun _ _ _ h=>h) (Or.inl ⟨by rfl,?_⟩) ?_ ?_
           rotate_left
           ·intro w'
            go_simp
            with_reducible rfl
           rotate_left
           ·simp only [Act.put,List.setIfInBounds_toArray,List.set_cons_zero,List.set_cons_succ,i64_w,i32_w]
            rfl
           refine take_ (i:=4) (N:=some 44) (v:=?_) (a':=?_) #[true,true,true,true,true,true,false,true,false,false,false,false] rfl rfl (take_ofW HT_.out HW_.out (by kernel_rfl)) (fun _ _ _ h=>h) (Or.inl ⟨by rfl,?_⟩) hHeld ?_ ?_
           rotate_left
           ·rintro w' ⟨s0,s1,s2,s3,s4,s5,s6,s7,s8,s9,s10,s11,s12,s13,s14,s15⟩
            go_simp
            with_reducible rfl
           rotate_left
           ·simp only [Act.put,List.setIfInBounds_toArray,List.set_cons_zero,List.set_cons_succ,i64_w,i32_w]
            rfl
           refine take_ (i:=6) (N:=some 46) (v:=?_) (a':=?_) #[true,true,true,true,true,true,true,true,false,false,false,false] rfl rfl (take_ofW HT_.out HW_.out (by kernel_rfl)) (fun _ _ _ h=>h) (Or.inl ⟨by rfl,?_⟩) hHeld ?_ ?_
           rotate_left
           ·rintro w' ⟨s0,s1,s2,s3,s4,s5,s6,s7,s8,s9,s10,s11,s12,s13,s14,s15⟩
            go_simp
            with_reducible rfl
           rotate_left
           ·simp only [Act.put,List.setIfInBounds_toArray,List.set_cons_zero,List.set_cons_succ,i64_w,i32_w]
            rfl
           refine pure_ (i:=8) (N:=some 48) (v:=?_) (a':=?_) #[true,true,true,true,true,true,true,true,true,false,false,false] rfl rfl (any_of HT_.out (by kernel_rfl)) (fun _ _ _ h=>h) (Or.inl ⟨by rfl,?_⟩) ?_ ?_
           rotate_left
           ·intro w'
            go_simp
            with_reducible rfl
           rotate_left
           ·simp only [Act.put,List.setIfInBounds_toArray,List.set_cons_zero,List.set_cons_succ,i64_w,i32_w]
            rfl
           refine take_ (i:=9) (N:=some 49) (v:=?_) (a':=?_) #[true,true,true,true,true,true,true,true,true,true,false,false] rfl rfl (take_ofW HT_.out HW_.out (by kernel_rfl)) (fun _ _ _ h=>h) (Or.inl ⟨by rfl,?_⟩) hHeld ?_ ?_
           rotate_left
           ·rintro w' ⟨s0,s1,s2,s3,s4,s5,s6,s7,s8,s9,s10,s11,s12,s13,s14,s15⟩
            go_simp
            with_reducible rfl
           rotate_left
           ·simp only [Act.put,List.setIfInBounds_toArray,List.set_cons_zero,List.set_cons_succ,i64_w,i32_w]
            rfl
           refine one_ (i:=10) (N:=some 50) #[true,true,true,true,true,true,true,true,true,true,true,false] rfl rfl (one_of HT_.out (by kernel_rfl)) (by decide) (fun K hK=>?_)
           refine goes_ Try.func34 (by kernel_rfl) rfl #[.agg #[.int .i64 ((rd_TDoc l0_3 x37_2).f0),.int .i64 ((rd_TDoc l0_3 x37_2).f1),.string ((rd_TDoc l0_3 x37_2).f2),.slice A598_3 ((rd_TDoc l0_3 x37_2).f3).length c598_3],.agg #[.int .i64 ((rd_TDoc l1_3 x37_2).f0),.int .i64 ((rd_TDoc l1_3 x37_2).f1),.string ((rd_TDoc l1_3 x37_2).f2),.slice A599_3 ((rd_TDoc l1_3 x37_2).f3).length c599_3]] (by rfl) rfl rfl (by (try simp only [List.map_toArray,List.map_cons,List.map_nil]);first|done|rfl|(simp only [List.length_drop,List.length_take];rfl)) ?_
           with_reducible refine (ih k2 (by have:=HJ2.out;have:=HK2.out;omega) ((rd_TDoc l0_3 x37_2).f0) ((rd_TDoc l0_3 x37_2).f1) ((rd_TDoc l0_3 x37_2).f2) _ _ ((rd_TDoc l0_3 x37_2).f3) ((rd_TDoc l1_3 x37_2).f0) ((rd_TDoc l1_3 x37_2).f1) ((rd_TDoc l1_3 x37_2).f2) _ _ ((rd_TDoc l1_3 x37_2).f3) false _ ?side1 ?side2 ?side3 ?side4 A28.out).mono ?_
           (case side1=>exact gC (Kd.C_below HR598_3.out HB.out))
           (case side2=>exact HC598_3.out)
           (case side3=>exact gC (Kd.C_below HR599_3.out HB.out))
           (case side4=>exact HC599_3.out)
           rintro e w33 ⟨rfl,hb⟩
           refine ⟨_,rfl,?_⟩
           have n0_:=Aside0.mk (blk_below (g:=gb596) (o:=.cells #[.int .i64 a0_0,.int .i64 a0_1,.string a0_2,.slice (some ad598) l0_3.length c0_3] 27 (0,0)) (gK BK596) hb)
           have n1_:=Aside0.mk (blk_below (g:=gb597) (o:=.cells #[.int .i64 a1_0,.int .i64 a1_1,.string a1_2,.slice (some ad599) l1_3.length c1_3] 27 (0,0)) (gK BK597) hb)
           have n2_:=Aside0.mk (below_step (by repeat (first|exact gB HB|refine below_set ?_ GE596.out|refine below_set ?_ GE597.out)) hb)
           clear BK596
           clear BK597
           clear HB
           have BK596:=n0_
           have BK597:=n1_
           have HB:=n2_
           clear n0_ n1_ n2_
           (try clear hb)
           (try clear hb2)
           (try clear hk)
           (try clear hi)
           refine hK.out _ _ ⟨(blk_cell BK596.out 0).trans rfl,(blk_cell BK596.out 1).trans rfl,(blk_cell BK596.out 2).trans rfl,(blk_cell BK596.out 3).trans rfl,(blk_cell BK597.out 0).trans rfl,(blk_cell BK597.out 1).trans rfl,(blk_cell BK597.out 2).trans rfl,(blk_cell BK597.out 3).trans rfl,((HB.out.cell (World.block_lt_of_cell? w _ hw598_0)).trans hw598_0),((HB.out.cell (World.block_lt_of_cell? w _ hw598_1)).trans hw598_1),((HB.out.cell (World.block_lt_of_cell? w _ hw598_2)).trans hw598_2),((HB.out.cell (World.block_lt_of_cell? w _ hw598_3)).trans hw598_3),((HB.out.cell (World.block_lt_of_cell? w _ hw599_0)).trans hw599_0),((HB.out.cell (World.block_lt_of_cell? w _ hw599_1)).trans hw599_1),((HB.out.cell (World.block_lt_of_cell? w _ hw599_2)).trans hw599_2),((HB.out.cell (World.block_lt_of_cell? w _ hw599_3)).trans hw599_3)⟩ (fun hHeld=>?_)
           clear hK K
           refine norm_ (a':=?_) ?_ ?_
           rotate_left
           ·show Act.put _ (some 50) _=_
            simp only [Act.put,List.setIfInBounds_toArray,List.set_cons_zero,List.set_cons_succ,i64_w,i32_w]
            rfl
           refine pure_ (i:=11) (N:=some 51) (v:=?_) (a':=?_) #[true,true,true,true,true,true,true,true,true,true,true,true] rfl rfl (any_of HT_.out (by kernel_rfl)) (fun _ _ _ h=>h) (Or.inl ⟨by rfl,?_⟩) ?_ ?_
           rotate_left
           ·intro w'
            go_simp
            with_reducible rfl
           rotate_left
           ·simp only [Act.put,List.setIfInBounds_toArray,List.set_cons_zero,List.set_cons_succ,i64_w,i32_w]
            rfl
           refine done_ (done_of HT_.out (by kernel_rfl)) ?_
           try go_wp2
           go_ret
           exact ⟨by first|rfl|(simp [errW_none,errW_some] <;> rfl)|(simp [*,errW_none,errW_some] <;> rfl),by repeat (first|exact gB HB|refine below_set ?_ GE596.out|refine below_set ?_ GE597.out)⟩
         ·rw [if_neg c27] at H
          exact absurd H (by simp)
        ·rw [if_neg c26] at H
         exact absurd H (by simp)
       ·rw [if_neg c25] at H
        exact absurd H (by simp)
      ·rw [if_neg c24] at H
       have c24b0:decide (x37_2 < (l0_3.length:Int))=false:=decide_eq_false c24
       clear c24
       obtain rfl:=Option.some.inj H
       go_wp2
       go_ret
       exact ⟨by first|rfl|(simp [errW_none,errW_some] <;> rfl)|(simp [*,errW_none,errW_some] <;> rfl),by repeat (first|exact gB HB|refine below_set ?_ GE596.out|refine below_set ?_ GE597.out)⟩
end Go.Proofs.Ytdhdfmmefghijaa.P
