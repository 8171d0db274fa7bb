/- CONTRACTS and lemmas: each contract says that a Go function of the program, called over the translation under the theorem's own hypotheses, returns what the Lean function beside it computes. -/
import Derived.Test.YtdhdfmmefghijaaVLa6
namespace Go.Proofs.Ytdhdfmmefghijaa.P
open Go.RowKit Go.Proofs.YtdhdfmmefghijaaW.PrintWords Go.Proofs.YtdhdfmmefghijaaW.PrintLast Go.Proofs.YtdhdfmmefghijaaW.PrintMore
attribute [local go_sem] max2_int min2_int max_two min_two max_three min_three max_four min_four
set_option linter.unusedVariables false
set_option linter.unusedSimpArgs false
mutual
def spec_l1Draw.l0:Nat→List ByteArray→Int→List Int→Int→Option (Int × Int × ByteArray × (List (SDoc)) × Int)
 | 0,_,_,_,_=>none
 | k+1,x3,x4,x1000,x1001=>if x4 < 3 then ((spec_l15Rd_pick.f k x1000 x1001 3).bind fun bt449=>(if bt449.1=0 then ((spec_l15Rd_pick.f k x1000 bt449.2 (x3.length:Int)).bind fun bt451=>(if 0≤bt451.1 then (if bt451.1 < (x3.length:Int) then ((spec_ParseDoc.f k (rdOf ByteArray.empty x3 bt451.1)).bind fun bt454=>(if bt454.2.2.2.2=true then (some (bt454.1,bt454.2.1,bt454.2.2.1,bt454.2.2.2.1,bt451.2)) else (spec_l1Draw.j1 k x3 x4 x1000 bt451.2))) else (none)) else (none))) else (spec_l1Draw.j1 k x3 x4 x1000 bt449.2))) else ((spec_l1Some.f k x1000 x1001 2).bind fun bt477=>(some (bt477.1,bt477.2.1,bt477.2.2.1,bt477.2.2.2.1,bt477.2.2.2.2)))
def spec_l1Draw.j1:Nat→List ByteArray→Int→List Int→Int→Option (Int × Int × ByteArray × (List (SDoc)) × Int)
 | 0,_,_,_,_=>none
 | k+1,x3,x4,x1000,x1001=>(spec_l15Rd_num.f k x1000 x1001 (([4,3,5,2]:List Int))).bind fun bt465=>((spec_l1Some.f k x1000 bt465.2 bt465.1).bind fun bt467=>((spec_DocValid.f k bt467.1 bt467.2.1 bt467.2.2.1 bt467.2.2.2.1).bind fun t475=>(if t475=true then ((spec_l1Count.f k bt467.1 bt467.2.1 bt467.2.2.1 bt467.2.2.2.1).bind fun t476=>(if t476≤40 then (some (bt467.1,bt467.2.1,bt467.2.2.1,bt467.2.2.2.1,bt467.2.2.2.2)) else (spec_l1Draw.l0 k x3 (wrap64 (x4+1)) x1000 bt467.2.2.2.2))) else (spec_l1Draw.l0 k x3 (wrap64 (x4+1)) x1000 bt467.2.2.2.2))))
end
def spec_l1Draw.f (k:Nat) (s0_0:List Int) (s0_1:Int):Option (Int × Int × ByteArray × (List (SDoc)) × Int):=spec_l1Draw.l0 k (([(⟨#[91,40,34,102,40,34,40,50,60,40,46,40,34,97,97,97,97,44,34,40,95,34,98,98,98,98,34,41,41,41,62,40,46,34,41,34,41,41,41,93]⟩:ByteArray),(⟨#[40,34,97,34,40,95,40,34,98,34,40,95,34,99,34,41,41,41,41]⟩:ByteArray),(⟨#[91,40,34,97,97,34,40,95,91,40,34,98,98,34,40,95,34,99,99,34,41,41,93,41,41,93]⟩:ByteArray),(⟨#[51,60,91,40,34,120,61,49,34,40,95,34,121,34,41,41,93,62]⟩:ByteArray),(⟨#[40,34,123,34,40,50,60,40,33,40,34,97,58,49,44,34,40,33,34,98,58,50,34,41,41,41,62,40,33,34,125,34,41,41,41]⟩:ByteArray),(⟨#[40,91,40,34,97,34,40,95,34,98,34,41,41,93,91,40,34,99,34,40,46,34,100,34,41,41,93,41]⟩:ByteArray),(⟨#[126]⟩:ByteArray),(⟨#[34,97,98,99,34]⟩:ByteArray)]:List ByteArray)) 0 s0_0 s0_1
set_option maxHeartbeats 8000000 in
set_option maxRecDepth 100000 in
theorem spec_l1Draw.calls (k:Nat) (g:Nat) (s0_0:List Int) (s0_1:Int) (r1:Int) (r2:Int) (r3:ByteArray) (r4:List (SDoc)) (r5:Int) (w0 w:World) (hI:IsS66 w0 w g s0_0 s0_1) (hB:Below w0.heap.size w0 w) (h:spec_l1Draw.f k s0_0 s0_1=some (r1,r2,r3,r4,r5)) :
  Calls Try.prog 51 #[.pointer (some ⟨g,0,none⟩)] w fun e w'=>∃ v3_:Value,e=.returned (.agg #[.int .i64 r1,.int .i64 r2,.string r3,v3_])∧Kd.N k27 27 w' w.heap.size (fun k_=>(w.heap.size≤k_)) v3_ r4∧IsS66 w0 w' g s0_0 r5∧Below w0.heap.size w0 w'∧KeepBut w w' g none:=by
 have hu27:=Try.underlying27
 have HI0:=Aside0.mk hI
 have HK:=Aside0.mk (KeepBut.refl w g none)
 have HL:=Aside0.mk hB.size
 clear hI
 have HW0:=Aside0.mk hB.size
 have HB:=Aside0.mk hB
 clear hB
 have H:(spec_l1Draw.l0 k (([(⟨#[91,40,34,102,40,34,40,50,60,40,46,40,34,97,97,97,97,44,34,40,95,34,98,98,98,98,34,41,41,41,62,40,46,34,41,34,41,41,41,93]⟩:ByteArray),(⟨#[40,34,97,34,40,95,40,34,98,34,40,95,34,99,34,41,41,41,41]⟩:ByteArray),(⟨#[91,40,34,97,97,34,40,95,91,40,34,98,98,34,40,95,34,99,99,34,41,41,93,41,41,93]⟩:ByteArray),(⟨#[51,60,91,40,34,120,61,49,34,40,95,34,121,34,41,41,93,62]⟩:ByteArray),(⟨#[40,34,123,34,40,50,60,40,33,40,34,97,58,49,44,34,40,33,34,98,58,50,34,41,41,41,62,40,33,34,125,34,41,41,41]⟩:ByteArray),(⟨#[40,91,40,34,97,34,40,95,34,98,34,41,41,93,91,40,34,99,34,40,46,34,100,34,41,41,93,41]⟩:ByteArray),(⟨#[126]⟩:ByteArray),(⟨#[34,97,98,99,34]⟩:ByteArray)]:List ByteArray)) 0 s0_0 s0_1)=some (r1,r2,r3,r4,r5):=h
 clear h
 obtain ⟨y446,hy446⟩:∃ y_:List ByteArray,y_=(([(⟨#[91,40,34,102,40,34,40,50,60,40,46,40,34,97,97,97,97,44,34,40,95,34,98,98,98,98,34,41,41,41,62,40,46,34,41,34,41,41,41,93]⟩:ByteArray),(⟨#[40,34,97,34,40,95,40,34,98,34,40,95,34,99,34,41,41,41,41]⟩:ByteArray),(⟨#[91,40,34,97,97,34,40,95,91,40,34,98,98,34,40,95,34,99,99,34,41,41,93,41,41,93]⟩:ByteArray),(⟨#[51,60,91,40,34,120,61,49,34,40,95,34,121,34,41,41,93,62]⟩:ByteArray),(⟨#[40,34,123,34,40,50,60,40,33,40,34,97,58,49,44,34,40,33,34,98,58,50,34,41,41,41,62,40,33,34,125,34,41,41,41]⟩:ByteArray),(⟨#[40,91,40,34,97,34,40,95,34,98,34,41,41,93,91,40,34,99,34,40,46,34,100,34,41,41,93,41]⟩:ByteArray),(⟨#[126]⟩:ByteArray),(⟨#[34,97,98,99,34]⟩:ByteArray)]:List ByteArray)):=⟨_,rfl⟩
 replace H:(spec_l1Draw.l0 k y446 0 s0_0 s0_1)=some (r1,r2,r3,r4,r5):=by first|(rw [hy446];with_reducible exact H)|(have H2_:=(Option.bind_some _ _).symm.trans H;rw [hy446];with_reducible exact H2_)|(have H2_:=(Option.bind_some _ _).symm.trans H;with_reducible exact H2_)|with_reducible exact H|(rw [hy446];exact H)|exact H
 have Ny446:=Aside0.mk hy446
 clear hy446
 have H':=Aside0.mk H
 clear H
 go_enter Try.func51,Try.ntmps51
 go_wp2_with (first|((with_reducible refine gate_dst (N:=2) rfl ?_);refine box_event ?hg (N:=2) ?hd (cs:=#[.int .i64 0,.int .i64 0,.string (⟨#[]⟩:ByteArray),.slice none 0 0]) (t:=27) ?hr ?_;(case hd=>rfl);(case hg=>rfl);(case hr=>first|(go_simp;done)|(go_simp;rfl));intro gb445 hg w2 hbox hb;have n0_:=Aside0.mk (IsS66.below (by repeat (first|(with_reducible first|exact HI0.out|apply IsS66.alloc|apply IsS66.drewN|apply IsS66.drew|apply IsS66.set_1)|exact HI0.out)) hb);have n1_:=Aside0.mk (KeepBut.trans (by repeat (first|exact gW HK|apply KeepBut.set_)) (KeepBut.of_below hb g none) (.inl rfl));have n2_:=Aside0.mk (below_step (by repeat (first|exact gB HB|refine below_set ?_ (IsS66.ge HI0.out))) hb);have n3_:=Aside0.mk (hbox);have n4_:=Aside0.mk ((by rw [hg];exact (keep_size (w:=w) (g:=g) (row:=none) (by repeat (first|exact gW HK|apply KeepBut.set_))):w.heap.size≤gb445));have n5_:=Aside0.mk ((Nat.le_trans HW0.out (by rw [hg];exact (keep_size (w:=w) (g:=g) (row:=none) (by repeat (first|exact gW HK|apply KeepBut.set_))):w.heap.size≤gb445):w0.heap.size≤gb445));have n6_:=Aside0.mk ((by rw [hg];exact Nat.ne_of_lt (IsS66.lt (show IsS66 w0 _ g s0_0 s0_1 from by repeat (first|(with_reducible first|exact HI0.out|apply IsS66.alloc|apply IsS66.drewN|apply IsS66.drew|apply IsS66.set_1)|exact HI0.out))):g ≠ gb445));have n7_:=Aside0.mk ((by rw [hg];exact Nat.ne_of_gt (IsS66.lt (show IsS66 w0 _ g s0_0 s0_1 from by repeat (first|(with_reducible first|exact HI0.out|apply IsS66.alloc|apply IsS66.drewN|apply IsS66.drew|apply IsS66.set_1)|exact HI0.out))):gb445 ≠ g));clear HI0;clear HK;clear HB;have HI0:=n0_;have HK:=n1_;have HB:=n2_;have BK445:=n3_;have GW445:=n4_;have GE445:=n5_;have NB0_445:=n6_;have NB445_0:=n7_;clear n0_ n1_ n2_ n3_ n4_ n5_ n6_ n7_;clear hb hbox hg)|((with_reducible refine gate_dst (N:=8) rfl ?_);refine Kd.R_lit Kd.string _ 9 ?hg (N:=8) ?hd (xs:=([(⟨#[91,40,34,102,40,34,40,50,60,40,46,40,34,97,97,97,97,44,34,40,95,34,98,98,98,98,34,41,41,41,62,40,46,34,41,34,41,41,41,93]⟩:ByteArray),(⟨#[40,34,97,34,40,95,40,34,98,34,40,95,34,99,34,41,41,41,41]⟩:ByteArray),(⟨#[91,40,34,97,97,34,40,95,91,40,34,98,98,34,40,95,34,99,99,34,41,41,93,41,41,93]⟩:ByteArray),(⟨#[51,60,91,40,34,120,61,49,34,40,95,34,121,34,41,41,93,62]⟩:ByteArray),(⟨#[40,34,123,34,40,50,60,40,33,40,34,97,58,49,44,34,40,33,34,98,58,50,34,41,41,41,62,40,33,34,125,34,41,41,41]⟩:ByteArray),(⟨#[40,91,40,34,97,34,40,95,34,98,34,41,41,93,91,40,34,99,34,40,46,34,100,34,41,41,93,41]⟩:ByteArray),(⟨#[126]⟩:ByteArray),(⟨#[34,97,98,99,34]⟩:ByteArray)]:List ByteArray)) (inner:=[.string (⟨#[91,40,34,102,40,34,40,50,60,40,46,40,34,97,97,97,97,44,34,40,95,34,98,98,98,98,34,41,41,41,62,40,46,34,41,34,41,41,41,93]⟩:ByteArray),.string (⟨#[40,34,97,34,40,95,40,34,98,34,40,95,34,99,34,41,41,41,41]⟩:ByteArray),.string (⟨#[91,40,34,97,97,34,40,95,91,40,34,98,98,34,40,95,34,99,99,34,41,41,93,41,41,93]⟩:ByteArray),.string (⟨#[51,60,91,40,34,120,61,49,34,40,95,34,121,34,41,41,93,62]⟩:ByteArray),.string (⟨#[40,34,123,34,40,50,60,40,33,40,34,97,58,49,44,34,40,33,34,98,58,50,34,41,41,41,62,40,33,34,125,34,41,41,41]⟩:ByteArray),.string (⟨#[40,91,40,34,97,34,40,95,34,98,34,41,41,93,91,40,34,99,34,40,46,34,100,34,41,41,93,41]⟩:ByteArray),.string (⟨#[126]⟩:ByteArray),.string (⟨#[34,97,98,99,34]⟩:ByteArray)]) (ok:=fun _=>True) (okp:=fun _=>True) ?hr ?hp (fun _ hk=>hk) trivial (Below.refl _ _) (Nat.le_refl _) (by simp) ?_;(case hd=>rfl);(case hg=>rfl);(case hr=>first|(go_simp;done)|(go_simp;rfl));(case hp=>exact (Reps.one (show Kd.M Kd.string _ _ _ (⟨#[91,40,34,102,40,34,40,50,60,40,46,40,34,97,97,97,97,44,34,40,95,34,98,98,98,98,34,41,41,41,62,40,46,34,41,34,41,41,41,93]⟩:ByteArray) [.string (⟨#[91,40,34,102,40,34,40,50,60,40,46,40,34,97,97,97,97,44,34,40,95,34,98,98,98,98,34,41,41,41,62,40,46,34,41,34,41,41,41,93]⟩:ByteArray)] from rfl) (Reps.one (show Kd.M Kd.string _ _ _ (⟨#[40,34,97,34,40,95,40,34,98,34,40,95,34,99,34,41,41,41,41]⟩:ByteArray) [.string (⟨#[40,34,97,34,40,95,40,34,98,34,40,95,34,99,34,41,41,41,41]⟩:ByteArray)] from rfl) (Reps.one (show Kd.M Kd.string _ _ _ (⟨#[91,40,34,97,97,34,40,95,91,40,34,98,98,34,40,95,34,99,99,34,41,41,93,41,41,93]⟩:ByteArray) [.string (⟨#[91,40,34,97,97,34,40,95,91,40,34,98,98,34,40,95,34,99,99,34,41,41,93,41,41,93]⟩:ByteArray)] from rfl) (Reps.one (show Kd.M Kd.string _ _ _ (⟨#[51,60,91,40,34,120,61,49,34,40,95,34,121,34,41,41,93,62]⟩:ByteArray) [.string (⟨#[51,60,91,40,34,120,61,49,34,40,95,34,121,34,41,41,93,62]⟩:ByteArray)] from rfl) (Reps.one (show Kd.M Kd.string _ _ _ (⟨#[40,34,123,34,40,50,60,40,33,40,34,97,58,49,44,34,40,33,34,98,58,50,34,41,41,41,62,40,33,34,125,34,41,41,41]⟩:ByteArray) [.string (⟨#[40,34,123,34,40,50,60,40,33,40,34,97,58,49,44,34,40,33,34,98,58,50,34,41,41,41,62,40,33,34,125,34,41,41,41]⟩:ByteArray)] from rfl) (Reps.one (show Kd.M Kd.string _ _ _ (⟨#[40,91,40,34,97,34,40,95,34,98,34,41,41,93,91,40,34,99,34,40,46,34,100,34,41,41,93,41]⟩:ByteArray) [.string (⟨#[40,91,40,34,97,34,40,95,34,98,34,41,41,93,91,40,34,99,34,40,46,34,100,34,41,41,93,41]⟩:ByteArray)] from rfl) (Reps.one (show Kd.M Kd.string _ _ _ (⟨#[126]⟩:ByteArray) [.string (⟨#[126]⟩:ByteArray)] from rfl) (Reps.one (show Kd.M Kd.string _ _ _ (⟨#[34,97,98,99,34]⟩:ByteArray) [.string (⟨#[34,97,98,99,34]⟩:ByteArray)] from rfl) (Reps.none _ _))))))))));intro v447 w3 ho4 hb hg_ hnew_;clear hg_ hnew_;(first|rw [← Ny446.out] at ho4|(simp only [Int.reduceToNat] at ho4;rw [← Ny446.out] at ho4));have n0_:=Aside0.mk (Kd.R_lower (Kd.R_newM (M:=fun k_=>(w.heap.size≤k_)) ho4 (keep_size (w:=w) (g:=g) (row:=none) (by repeat (first|exact gW HK|apply KeepBut.set_|refine keep_far ?_ GW445.out _))) (fun k_ h_=>h_)) (keep_size (w:=w) (g:=g) (row:=none) (by repeat (first|exact gW HK|apply KeepBut.set_|refine keep_far ?_ GW445.out _))));have n1_:=Aside0.mk (IsS66.below (by repeat (first|(with_reducible first|exact HI0.out|apply IsS66.alloc|apply IsS66.drewN|apply IsS66.drew|apply IsS66.set_1|refine IsS66.far ?_ NB0_445.out _)|exact HI0.out)) hb);have n2_:=Aside0.mk (blk_below (g:=gb445) (o:=.cells #[.int .i64 0,.int .i64 0,.string (⟨#[]⟩:ByteArray),.slice none 0 0] 27 (0,0)) (gK BK445) hb);have n3_:=Aside0.mk (KeepBut.trans (by repeat (first|exact gW HK|apply KeepBut.set_|refine keep_far ?_ GW445.out _)) (KeepBut.of_below hb g none) (.inl rfl));have n4_:=Aside0.mk (below_step (by repeat (first|exact gB HB|refine below_set ?_ (IsS66.ge HI0.out)|refine below_set ?_ GE445.out)) hb);clear HI0;clear BK445;clear HK;clear HB;have HO448:=n0_;have HI0:=n1_;have BK445:=n2_;have HK:=n3_;have HB:=n4_;clear n0_ n1_ n2_ n3_ n4_;clear hb ho4))
 go_loopg [4] k (fun kq v4 w'=>∃ (x4_1:Int) (x1001_1:Int) (x446000_1:Int) (x446001_1:Int) (x446002_1:ByteArray),v4=.int .i64 x4_1∧Aside0 (spec_l1Draw.l0 kq y446 x4_1 s0_0 x1001_1=some (r1,r2,r3,r4,r5))∧Aside0 (kq≤k)∧Aside0 (Kd.R Kd.string 9 w' w.heap.size (fun k_=>(w.heap.size≤k_)) v447 y446)∧Aside0 (w'.heap[gb445]?=some (.cells #[.int .i64 x446000_1,.int .i64 x446001_1,.string x446002_1,(.slice none 0 0)] 27 (0,0)))∧Aside0 (IsS66 w0 w' g s0_0 x1001_1)∧Aside0 (KeepBut w w' g none)∧Aside0 (Below w0.heap.size w0 w'))
 case atStart=>exact ⟨(0),(s0_1),(0),(0),((⟨#[]⟩:ByteArray)),(by first|rfl|(simp;done)|(simp [*];done)),H',⟨Nat.le_refl _⟩,⟨by (with_reducible repeat (first|apply Kd.R_alloc|apply Kd.R_drewN|apply Kd.R_drew));exact Kd.R_mono HO448.out (fun _ hk=>hk.1)⟩,⟨gK BK445⟩,⟨by repeat (first|(with_reducible first|exact HI0.out|apply IsS66.alloc|apply IsS66.drewN|apply IsS66.drew|apply IsS66.set_1|refine IsS66.far ?_ NB0_445.out _)|exact HI0.out)⟩,⟨by repeat (first|exact gW HK|apply KeepBut.set_|refine keep_far ?_ GW445.out _)⟩,⟨by repeat (first|exact gB HB|refine below_set ?_ (IsS66.ge HI0.out)|refine below_set ?_ GE445.out)⟩⟩
 case round =>
  clear H'
  try clear p2
  (try clear HO_3);(try clear BK445);(try clear HB)
  obtain ⟨x4_1,x1001_1,x446000_1,x446001_1,x446002_1,rfl,HA,HK1,HO_3,BK445,HI0,HK,HB⟩:=hrel
  cases gk with
  | zero=>exact absurd HA.out (by simp [spec_l1Draw.l0])
  | succ k1 =>
   have H:=HA.out
   clear HA
   simp only [spec_l1Draw.l0] at H
   by_cases c5:x4_1 < 3
   ·rw [if_pos c5] at H
    have c5b0:decide (x4_1 < 3)=true:=decide_eq_true c5
    clear c5
    replace H:=Option.bind_eq_some_iff.mp H
    obtain ⟨⟨t449,t450⟩,A60,H⟩:=H
    replace H:(if t449=0 then ((spec_l15Rd_pick.f k1 s0_0 t450 (y446.length:Int)).bind fun bt451=>(if 0≤bt451.1 then (if bt451.1 < (y446.length:Int) then ((spec_ParseDoc.f k1 (rdOf ByteArray.empty y446 bt451.1)).bind fun bt454=>(if bt454.2.2.2.2=true then (some (bt454.1,bt454.2.1,bt454.2.2.1,bt454.2.2.2.1,bt451.2)) else (spec_l1Draw.j1 k1 y446 x4_1 s0_0 bt451.2))) else (none)) else (none))) else (spec_l1Draw.j1 k1 y446 x4_1 s0_0 t450))=some (r1,r2,r3,r4,r5):=H
    have A6:=Aside0.mk A60
    clear A60
    have HC7:=Aside0.mk H
    clear H
    go_upto_if 15 with (first|((with_reducible refine gate_callee (f:=55) rfl ?_);refine goesL_ (some 14) rfl rfl Try.func55 (by kernel_rfl) rfl #[.pointer (some ⟨g,0,none⟩),.int .i64 3] rfl (by (try simp only [List.map_toArray,List.map_cons,List.map_nil]);first|done|rfl|(simp only [List.length_drop,List.length_take];rfl)) ?_;(with_reducible refine (spec_l15Rd_pick.calls k1 g s0_0 x1001_1 3 t449 t450 w0 _ ?side1 ?side2 A6.out).mono ?_);(case side1=>repeat (first|(with_reducible first|exact HI0.out|apply IsS66.alloc|apply IsS66.drewN|apply IsS66.drew|apply IsS66.set_1|refine IsS66.far ?_ NB0_445.out _)|exact HI0.out));(case side2=>repeat (first|exact gB HB|refine below_set ?_ (IsS66.ge HI0.out)|refine below_set ?_ GE445.out));rintro e w8 ⟨rfl,hi,hb,hk⟩;refine ⟨_,rfl,?_⟩;have n0_:=Aside0.mk (Kd.R_mono (Kd.R_keep (IsS66.apart (show IsS66 w0 _ g s0_0 x1001_1 from by repeat (first|(with_reducible first|exact HI0.out|apply IsS66.alloc|apply IsS66.drewN|apply IsS66.drew|apply IsS66.set_1|refine IsS66.far ?_ NB0_445.out _)|exact HI0.out)) (gR HO_3) (by decide)) hk (fun _ h=>h.2)) (fun _ h=>h.1));have n1_:=Aside0.mk (KeepBut.blk hk (g':=gb445) (o:=.cells #[.int .i64 x446000_1,.int .i64 x446001_1,.string x446002_1,.slice none 0 0] 27 (0,0)) (gK BK445) NB445_0.out (by simp));have n2_:=Aside0.mk (KeepBut.trans (by repeat (first|exact gW HK|apply KeepBut.set_|refine keep_far ?_ GW445.out _)) hk (.inl rfl));have n3_:=Aside0.mk (hb);have n4_:=Aside0.mk (hi);clear HO_3;clear BK445;clear HK;clear HB;clear HI0;have HO_3:=n0_;have BK445:=n1_;have HK:=n2_;have HB:=n3_;have HI0:=n4_;clear n0_ n1_ n2_ n3_ n4_;(try clear hb);(try clear hb2);(try clear hk);(try clear hi)))
    (try simp only [Act.put,List.setIfInBounds_toArray,List.set_cons_zero,List.set_cons_succ])
    go_cut [] (fun wc=>∃ (kq:Nat) (x1001_6:Int) (x446000_6:Int) (x446001_6:Int) (x446002_6:ByteArray),Aside0 (spec_l1Draw.j1 kq y446 x4_1 s0_0 x1001_6=some (r1,r2,r3,r4,r5))∧Aside0 (kq≤k1)∧Aside0 (Kd.R Kd.string 9 wc w.heap.size (fun k_=>(w.heap.size≤k_)) v447 y446)∧Aside0 (wc.heap[gb445]?=some (.cells #[.int .i64 x446000_6,.int .i64 x446001_6,.string x446002_6,(.slice none 0 0)] 27 (0,0)))∧Aside0 (IsS66 w0 wc g s0_0 x1001_6)∧Aside0 (KeepBut w wc g none)∧Aside0 (Below w0.heap.size w0 wc))
    case first =>
     have H:=HC7.out
     clear HC7
     by_cases c9:t449=0
     ·rw [if_pos c9] at H
      have c9b0:(t449 == 0)=true:=beq_iff_eq.mpr c9
      have c9b1:(t449 != 0)=false:=bne_eq_false_iff_eq.mpr c9
      clear c9
      (first|rw [c9b0]|(simp only [i64_w,i32_w];rw [c9b0])|skip)
      replace H:=Option.bind_eq_some_iff.mp H
      obtain ⟨⟨t451,t452⟩,A100,H⟩:=H
      replace H:(if 0≤t451 then (if t451 < (y446.length:Int) then ((spec_ParseDoc.f k1 (rdOf ByteArray.empty y446 t451)).bind fun bt454=>(if bt454.2.2.2.2=true then (some (bt454.1,bt454.2.1,bt454.2.2.1,bt454.2.2.2.1,t452)) else (spec_l1Draw.j1 k1 y446 x4_1 s0_0 t452))) else (none)) else (none))=some (r1,r2,r3,r4,r5):=H
      have A10:=Aside0.mk A100
      clear A100
      by_cases c11:0≤t451
      ·rw [if_pos c11] at H
       have c11b0:decide (0≤t451)=true:=decide_eq_true c11
       clear c11
       by_cases c12:t451 < (y446.length:Int)
       ·rw [if_pos c12] at H
        have c12b0:decide (t451 < (y446.length:Int))=true:=decide_eq_true c12
        clear c12
        replace H:=Option.bind_eq_some_iff.mp H
        obtain ⟨⟨t454,t455,t456,t457,t460⟩,A130,H⟩:=H
        replace H:(if t460=true then (some (t454,t455,t456,t457,t452)) else (spec_l1Draw.j1 k1 y446 x4_1 s0_0 t452))=some (r1,r2,r3,r4,r5):=H
        have A13:=Aside0.mk A130
        clear A130
        by_cases c14:t460=true
        ·subst c14
         have H1:(some (t454,t455,t456,t457,t452))=some (r1,r2,r3,r4,r5):=by rw [if_pos rfl] at H;exact H
         clear H
         have H:=H1
         clear H1
         simp only [Option.some.injEq,Prod.mk.injEq] at H
         obtain ⟨rfl,rfl,rfl,rfl,rfl⟩:=H
         obtain ⟨Ao15,co15,eo15⟩:=Kd.R_slice HO_3.out
         subst eo15
         go_wp2_with (first|((with_reducible refine gate_callee (f:=55) rfl ?_);refine goesL_ (some 21) rfl rfl Try.func55 (by kernel_rfl) rfl #[.pointer (some ⟨g,0,none⟩),.int .i64 (y446.length:Int)] rfl (by (try simp only [List.map_toArray,List.map_cons,List.map_nil]);first|done|rfl|(simp only [List.length_drop,List.length_take];rfl)) ?_;(with_reducible refine (spec_l15Rd_pick.calls k1 g s0_0 t450 (y446.length:Int) t451 t452 w0 _ ?side1 ?side2 A10.out).mono ?_);(case side1=>repeat (first|(with_reducible first|exact HI0.out|apply IsS66.alloc|apply IsS66.drewN|apply IsS66.drew|apply IsS66.set_1|refine IsS66.far ?_ NB0_445.out _)|exact HI0.out));(case side2=>repeat (first|exact gB HB|refine below_set ?_ (IsS66.ge HI0.out)|refine below_set ?_ GE445.out));rintro e w16 ⟨rfl,hi,hb,hk⟩;refine ⟨_,rfl,?_⟩;have n0_:=Aside0.mk (Kd.R_mono (Kd.R_keep (IsS66.apart (show IsS66 w0 _ g s0_0 t450 from by repeat (first|(with_reducible first|exact HI0.out|apply IsS66.alloc|apply IsS66.drewN|apply IsS66.drew|apply IsS66.set_1|refine IsS66.far ?_ NB0_445.out _)|exact HI0.out)) (gR HO_3) (by decide)) hk (fun _ h=>h.2)) (fun _ h=>h.1));have n1_:=Aside0.mk (KeepBut.blk hk (g':=gb445) (o:=.cells #[.int .i64 x446000_1,.int .i64 x446001_1,.string x446002_1,.slice none 0 0] 27 (0,0)) (gK BK445) NB445_0.out (by simp));have n2_:=Aside0.mk (KeepBut.trans (by repeat (first|exact gW HK|apply KeepBut.set_|refine keep_far ?_ GW445.out _)) hk (.inl rfl));have n3_:=Aside0.mk (hb);have n4_:=Aside0.mk (hi);clear HO_3;clear BK445;clear HK;clear HB;clear HI0;have HO_3:=n0_;have BK445:=n1_;have HK:=n2_;have HB:=n3_;have HI0:=n4_;clear n0_ n1_ n2_ n3_ n4_;(try clear hb);(try clear hb2);(try clear hk);(try clear hi);have p453:0≤(t451:Int):=of_decide_eq_true (by first|(with_reducible assumption)|assumption);have q453:t451 < (y446.length:Int):=of_decide_eq_true (by first|(with_reducible assumption)|assumption);obtain ⟨ad453,e453,hx453_0⟩:=Kd.at_string (Kd.R_reads' HO_3.out).2.2 t451 p453 q453;cases e453;replace p453:=eq_true p453;replace q453:=eq_true q453)|((with_reducible refine gate_callee (f:=43) rfl ?_);refine goesL_ (some 24) rfl rfl Try.func43 (by kernel_rfl) rfl #[.string (rdOf ByteArray.empty y446 t451)] rfl (by (try simp only [List.map_toArray,List.map_cons,List.map_nil]);first|done|rfl|(simp only [List.length_drop,List.length_take];rfl)) ?_;(with_reducible refine (spec_ParseDoc.calls k1 (rdOf ByteArray.empty y446 t451) t454 t455 t456 t457 true _ A13.out).mono ?_);rintro e w17 ⟨v458,rfl,ho0,hb⟩;refine ⟨_,rfl,?_⟩;have n0_:=Aside0.mk (Kd.R_below (gR HO_3) hb);have n1_:=Aside0.mk (Kd.N_lower (Kd.N_mono (ok':=fun k_=>(w.heap.size≤k_)∧some k_ ≠ (.slice (some ad453) y446.length co15:Value).ownBlock∧k_ ≠ gb445∧k_ ≠ g) (Kd.R_N (Kd.R_bound ho0)) (fun k_ hk_=>⟨(Nat.le_trans (keep_size (w:=w) (g:=g) (row:=none) (by repeat (first|exact gW HK|apply KeepBut.set_|refine keep_far ?_ GW445.out _))) hk_.2.1),(Kd.fresh' (Kd.R_lt (gR HO_3)) k_ hk_.2.1),(Kd.freshB (g:=gb445) (o:=.cells #[.int .i64 x446000_1,.int .i64 x446001_1,.string x446002_1,.slice none 0 0] 27 (0,0)) (gK BK445) k_ hk_.2.1),(IsS66.fresh (by repeat (first|(with_reducible first|exact HI0.out|apply IsS66.alloc|apply IsS66.drewN|apply IsS66.drew|apply IsS66.set_1|refine IsS66.far ?_ NB0_445.out _)|exact HI0.out)) k_ hk_.2.1)⟩)) (keep_size (w:=w) (g:=g) (row:=none) (by repeat (first|exact gW HK|apply KeepBut.set_|refine keep_far ?_ GW445.out _))));have n2_:=Aside0.mk (blk_below (g:=gb445) (o:=.cells #[.int .i64 x446000_1,.int .i64 x446001_1,.string x446002_1,.slice none 0 0] 27 (0,0)) (gK BK445) hb);have n3_:=Aside0.mk (IsS66.below (by repeat (first|(with_reducible first|exact HI0.out|apply IsS66.alloc|apply IsS66.drewN|apply IsS66.drew|apply IsS66.set_1|refine IsS66.far ?_ NB0_445.out _)|exact HI0.out)) hb);have n4_:=Aside0.mk (KeepBut.trans (by repeat (first|exact gW HK|apply KeepBut.set_|refine keep_far ?_ GW445.out _)) (KeepBut.of_below hb g none) (.inl rfl));have n5_:=Aside0.mk (below_step (by repeat (first|exact gB HB|refine below_set ?_ (IsS66.ge HI0.out)|refine below_set ?_ GE445.out)) hb);clear HO_3;clear BK445;clear HI0;clear HK;clear HB;have HO_3:=n0_;have HO459:=n1_;have BK445:=n2_;have HI0:=n3_;have HK:=n4_;have HB:=n5_;clear n0_ n1_ n2_ n3_ n4_ n5_;(try clear hb);(try clear hb2);(try clear hk);(try clear hi);(try clear ho0))|((with_reducible refine gate_dst (N:=5) rfl ?_);refine box_event ?hg (N:=5) ?hd (cs:=#[.int .i64 0,.int .i64 0,.string (⟨#[]⟩:ByteArray),.slice none 0 0]) (t:=27) ?hr ?_;(case hd=>rfl);(case hg=>rfl);(case hr=>first|(go_simp;done)|(go_simp;rfl));intro gb461 hg w18 hbox hb;have n0_:=Aside0.mk (Kd.R_below (gR HO_3) hb);have n1_:=Aside0.mk (Kd.N_below (Kd.N_elderB (gN HO459) gb461 (Nat.le_of_eq hg.symm)) hb);have n2_:=Aside0.mk (blk_below (g:=gb445) (o:=.cells #[.int .i64 x446000_1,.int .i64 x446001_1,.string x446002_1,.slice none 0 0] 27 (0,0)) (gK BK445) hb);have n3_:=Aside0.mk (IsS66.below (by repeat (first|(with_reducible first|exact HI0.out|apply IsS66.alloc|apply IsS66.drewN|apply IsS66.drew|apply IsS66.set_1|refine IsS66.far ?_ NB0_445.out _)|exact HI0.out)) hb);have n4_:=Aside0.mk (KeepBut.trans (by repeat (first|exact gW HK|apply KeepBut.set_|refine keep_far ?_ GW445.out _)) (KeepBut.of_below hb g none) (.inl rfl));have n5_:=Aside0.mk (below_step (by repeat (first|exact gB HB|refine below_set ?_ (IsS66.ge HI0.out)|refine below_set ?_ GE445.out)) hb);have n6_:=Aside0.mk (hbox);have n7_:=Aside0.mk ((by rw [hg];exact (keep_size (w:=w) (g:=g) (row:=none) (by repeat (first|exact gW HK|apply KeepBut.set_|refine keep_far ?_ GW445.out _))):w.heap.size≤gb461));have n8_:=Aside0.mk ((Nat.le_trans HW0.out (by rw [hg];exact (keep_size (w:=w) (g:=g) (row:=none) (by repeat (first|exact gW HK|apply KeepBut.set_|refine keep_far ?_ GW445.out _))):w.heap.size≤gb461):w0.heap.size≤gb461));have n9_:=Aside0.mk ((by rw [hg];exact Nat.ne_of_lt (blk_lt (g:=gb445) (o:=.cells #[.int .i64 x446000_1,.int .i64 x446001_1,.string x446002_1,.slice none 0 0] 27 (0,0)) (gK BK445)):gb445 ≠ gb461));have n10_:=Aside0.mk ((by rw [hg];exact Nat.ne_of_gt (blk_lt (g:=gb445) (o:=.cells #[.int .i64 x446000_1,.int .i64 x446001_1,.string x446002_1,.slice none 0 0] 27 (0,0)) (gK BK445)):gb461 ≠ gb445));have n11_:=Aside0.mk ((by rw [hg];exact Nat.ne_of_lt (IsS66.lt (show IsS66 w0 _ g s0_0 t452 from by repeat (first|(with_reducible first|exact HI0.out|apply IsS66.alloc|apply IsS66.drewN|apply IsS66.drew|apply IsS66.set_1|refine IsS66.far ?_ NB0_445.out _)|exact HI0.out))):g ≠ gb461));have n12_:=Aside0.mk ((by rw [hg];exact Nat.ne_of_gt (IsS66.lt (show IsS66 w0 _ g s0_0 t452 from by repeat (first|(with_reducible first|exact HI0.out|apply IsS66.alloc|apply IsS66.drewN|apply IsS66.drew|apply IsS66.set_1|refine IsS66.far ?_ NB0_445.out _)|exact HI0.out))):gb461 ≠ g));clear HO_3;clear HO459;clear BK445;clear HI0;clear HK;clear HB;have HO_3:=n0_;have HO459:=n1_;have BK445:=n2_;have HI0:=n3_;have HK:=n4_;have HB:=n5_;have BK461:=n6_;have GW461:=n7_;have GE461:=n8_;have NB445_461:=n9_;have NB461_445:=n10_;have NB0_461:=n11_;have NB461_0:=n12_;clear n0_ n1_ n2_ n3_ n4_ n5_ n6_ n7_ n8_ n9_ n10_ n11_ n12_;clear hb hbox hg;have hnb19:=NB461_445.out;have hnc19:=NB445_461.out;have hnb20:=NB461_0.out;have hnc20:=NB0_461.out;have hcz21_0:w18.cell? ⟨gb461,0,none⟩=some (.int .i64 0):=(blk_cell BK461.out 0).trans rfl;have hcz21_1:w18.cell? ⟨gb461,1,none⟩=some (.int .i64 0):=(blk_cell BK461.out 1).trans rfl;have hcz21_2:w18.cell? ⟨gb461,2,none⟩=some (.string (⟨#[]⟩:ByteArray)):=(blk_cell BK461.out 2).trans rfl;have hcz21_3:w18.cell? ⟨gb461,3,none⟩=some (.slice none 0 0):=(blk_cell BK461.out 3).trans rfl;have hfz21_0:=blk_frozen BK461.out 0;have hfz21_1:=blk_frozen BK461.out 1;have hfz21_2:=blk_frozen BK461.out 2;have hfz21_3:=blk_frozen BK461.out 3;obtain ⟨Ao22,co22,eo22⟩:=Kd.N_slice HO459.out;subst eo22;have hnb23:=NB445_0.out;have hnc23:=NB0_445.out;have hcz24_0:w18.cell? ⟨gb445,0,none⟩=some (.int .i64 x446000_1):=(blk_cell BK445.out 0).trans rfl;have hcz24_1:w18.cell? ⟨gb445,1,none⟩=some (.int .i64 x446001_1):=(blk_cell BK445.out 1).trans rfl;have hcz24_2:w18.cell? ⟨gb445,2,none⟩=some (.string x446002_1):=(blk_cell BK445.out 2).trans rfl;have hcz24_3:w18.cell? ⟨gb445,3,none⟩=some (.slice none 0 0):=(blk_cell BK445.out 3).trans rfl;have hfz24_0:=blk_frozen BK445.out 0;have hfz24_1:=blk_frozen BK445.out 1;have hfz24_2:=blk_frozen BK445.out 2;have hfz24_3:=blk_frozen BK445.out 3))
         refine bodyPost_ret (results_cell_row rfl _ _ gb445 27 #[.int .i64 t454,.int .i64 t455,.string t456,.slice Ao22 t457.length co22] (0,0) _ rfl (by (with_reducible repeat (first|refine blk_drewN ?_ _|refine blk_drew ?_|refine blk_alloc ?_ _));refine blk_put (cs:=#[.int .i64 t454,.int .i64 t455,.string t456,.slice none 0 0]) ?_ 3 _ rfl;(with_reducible repeat (first|refine blk_drewN ?_ _|refine blk_drew ?_|refine blk_alloc ?_ _));refine blk_put (cs:=#[.int .i64 t454,.int .i64 t455,.string x446002_1,.slice none 0 0]) ?_ 2 _ rfl;(with_reducible repeat (first|refine blk_drewN ?_ _|refine blk_drew ?_|refine blk_alloc ?_ _));refine blk_put (cs:=#[.int .i64 t454,.int .i64 x446001_1,.string x446002_1,.slice none 0 0]) ?_ 1 _ rfl;(with_reducible repeat (first|refine blk_drewN ?_ _|refine blk_drew ?_|refine blk_alloc ?_ _));refine blk_put (cs:=#[.int .i64 x446000_1,.int .i64 x446001_1,.string x446002_1,.slice none 0 0]) ?_ 0 _ rfl;(with_reducible repeat (first|refine blk_drewN ?_ _|refine blk_drew ?_|refine blk_alloc ?_ _));refine blk_far ?_ NB445_461.out _;(with_reducible repeat (first|refine blk_drewN ?_ _|refine blk_drew ?_|refine blk_alloc ?_ _));refine blk_far ?_ NB445_461.out _;(with_reducible repeat (first|refine blk_drewN ?_ _|refine blk_drew ?_|refine blk_alloc ?_ _));refine blk_far ?_ NB445_461.out _;(with_reducible repeat (first|refine blk_drewN ?_ _|refine blk_drew ?_|refine blk_alloc ?_ _));refine blk_far ?_ NB445_461.out _;(with_reducible repeat (first|refine blk_drewN ?_ _|refine blk_drew ?_|refine blk_alloc ?_ _));exact BK445.out) Try.underlying27 rfl (by kernel_rfl)) rfl ?_
         exact ⟨_,by first|rfl|(simp [errW_none,errW_some] <;> rfl)|(simp [*,errW_none,errW_some] <;> rfl),by (with_reducible repeat (first|apply Kd.N_alloc|apply Kd.N_drewN|apply Kd.N_drew));exact Kd.N_mono (Kd.N_far (p:=⟨gb445,3,none⟩) (Kd.N_far (p:=⟨gb445,2,none⟩) (Kd.N_far (p:=⟨gb445,1,none⟩) (Kd.N_far (p:=⟨gb445,0,none⟩) (Kd.N_far (p:=⟨gb461,3,none⟩) (Kd.N_far (p:=⟨gb461,2,none⟩) (Kd.N_far (p:=⟨gb461,1,none⟩) (Kd.N_far (p:=⟨gb461,0,none⟩) (Kd.N_mono (Kd.N_mono HO459.out (fun k_ hk=>(⟨hk,hk.2⟩:_∧k_ ≠ gb461))) (fun k_ hk=>(⟨hk,hk.1.1.2.2.1⟩:_∧k_ ≠ gb445))) (fun _ hk=>hk.1.2) (.int .i64 t454)) (fun _ hk=>hk.1.2) (.int .i64 t455)) (fun _ hk=>hk.1.2) (.string t456)) (fun _ hk=>hk.1.2) (.slice Ao22 t457.length co22)) (fun _ hk=>hk.2) (.int .i64 t454)) (fun _ hk=>hk.2) (.int .i64 t455)) (fun _ hk=>hk.2) (.string t456)) (fun _ hk=>hk.2) (.slice Ao22 t457.length co22)) (fun _ hk=>hk.1.1.1.1),by repeat (first|(with_reducible first|exact HI0.out|apply IsS66.alloc|apply IsS66.drewN|apply IsS66.drew|apply IsS66.set_1|refine IsS66.far ?_ NB0_445.out _|refine IsS66.far ?_ NB0_461.out _)|exact HI0.out),by repeat (first|exact gB HB|refine below_set ?_ (IsS66.ge HI0.out)|refine below_set ?_ GE445.out|refine below_set ?_ GE461.out),by repeat (first|exact gW HK|apply KeepBut.set_|refine keep_far ?_ GW445.out _|refine keep_far ?_ GW461.out _)⟩
        ·replace c14:=Bool.eq_false_iff.mpr c14
         subst c14
         have H1:(spec_l1Draw.j1 k1 y446 x4_1 s0_0 t452)=some (r1,r2,r3,r4,r5):=by rw [if_neg (show ¬ (false=true) by decide)] at H;exact H
         clear H
         have H:=H1
         clear H1
         have H':=Aside0.mk H
         clear H
         obtain ⟨Ao25,co25,eo25⟩:=Kd.R_slice HO_3.out
         subst eo25
         go_wp2_with (first|((with_reducible refine gate_callee (f:=55) rfl ?_);refine goesL_ (some 21) rfl rfl Try.func55 (by kernel_rfl) rfl #[.pointer (some ⟨g,0,none⟩),.int .i64 (y446.length:Int)] rfl (by (try simp only [List.map_toArray,List.map_cons,List.map_nil]);first|done|rfl|(simp only [List.length_drop,List.length_take];rfl)) ?_;(with_reducible refine (spec_l15Rd_pick.calls k1 g s0_0 t450 (y446.length:Int) t451 t452 w0 _ ?side1 ?side2 A10.out).mono ?_);(case side1=>repeat (first|(with_reducible first|exact HI0.out|apply IsS66.alloc|apply IsS66.drewN|apply IsS66.drew|apply IsS66.set_1|refine IsS66.far ?_ NB0_445.out _)|exact HI0.out));(case side2=>repeat (first|exact gB HB|refine below_set ?_ (IsS66.ge HI0.out)|refine below_set ?_ GE445.out));rintro e w26 ⟨rfl,hi,hb,hk⟩;refine ⟨_,rfl,?_⟩;have n0_:=Aside0.mk (Kd.R_mono (Kd.R_keep (IsS66.apart (show IsS66 w0 _ g s0_0 t450 from by repeat (first|(with_reducible first|exact HI0.out|apply IsS66.alloc|apply IsS66.drewN|apply IsS66.drew|apply IsS66.set_1|refine IsS66.far ?_ NB0_445.out _)|exact HI0.out)) (gR HO_3) (by decide)) hk (fun _ h=>h.2)) (fun _ h=>h.1));have n1_:=Aside0.mk (KeepBut.blk hk (g':=gb445) (o:=.cells #[.int .i64 x446000_1,.int .i64 x446001_1,.string x446002_1,.slice none 0 0] 27 (0,0)) (gK BK445) NB445_0.out (by simp));have n2_:=Aside0.mk (KeepBut.trans (by repeat (first|exact gW HK|apply KeepBut.set_|refine keep_far ?_ GW445.out _)) hk (.inl rfl));have n3_:=Aside0.mk (hb);have n4_:=Aside0.mk (hi);clear HO_3;clear BK445;clear HK;clear HB;clear HI0;have HO_3:=n0_;have BK445:=n1_;have HK:=n2_;have HB:=n3_;have HI0:=n4_;clear n0_ n1_ n2_ n3_ n4_;(try clear hb);(try clear hb2);(try clear hk);(try clear hi);have p453:0≤(t451:Int):=of_decide_eq_true (by first|(with_reducible assumption)|assumption);have q453:t451 < (y446.length:Int):=of_decide_eq_true (by first|(with_reducible assumption)|assumption);obtain ⟨ad453,e453,hx453_0⟩:=Kd.at_string (Kd.R_reads' HO_3.out).2.2 t451 p453 q453;cases e453;replace p453:=eq_true p453;replace q453:=eq_true q453)|((with_reducible refine gate_callee (f:=43) rfl ?_);refine goesL_ (some 24) rfl rfl Try.func43 (by kernel_rfl) rfl #[.string (rdOf ByteArray.empty y446 t451)] rfl (by (try simp only [List.map_toArray,List.map_cons,List.map_nil]);first|done|rfl|(simp only [List.length_drop,List.length_take];rfl)) ?_;(with_reducible refine (spec_ParseDoc.calls k1 (rdOf ByteArray.empty y446 t451) t454 t455 t456 t457 false _ A13.out).mono ?_);rintro e w27 ⟨v458,rfl,ho0,hb⟩;refine ⟨_,rfl,?_⟩;have n0_:=Aside0.mk (Kd.R_below (gR HO_3) hb);have n1_:=Aside0.mk (Kd.N_lower (Kd.N_mono (ok':=fun k_=>(w.heap.size≤k_)∧some k_ ≠ (.slice (some ad453) y446.length co25:Value).ownBlock∧k_ ≠ gb445∧k_ ≠ g) (Kd.R_N (Kd.R_bound ho0)) (fun k_ hk_=>⟨(Nat.le_trans (keep_size (w:=w) (g:=g) (row:=none) (by repeat (first|exact gW HK|apply KeepBut.set_|refine keep_far ?_ GW445.out _))) hk_.2.1),(Kd.fresh' (Kd.R_lt (gR HO_3)) k_ hk_.2.1),(Kd.freshB (g:=gb445) (o:=.cells #[.int .i64 x446000_1,.int .i64 x446001_1,.string x446002_1,.slice none 0 0] 27 (0,0)) (gK BK445) k_ hk_.2.1),(IsS66.fresh (by repeat (first|(with_reducible first|exact HI0.out|apply IsS66.alloc|apply IsS66.drewN|apply IsS66.drew|apply IsS66.set_1|refine IsS66.far ?_ NB0_445.out _)|exact HI0.out)) k_ hk_.2.1)⟩)) (keep_size (w:=w) (g:=g) (row:=none) (by repeat (first|exact gW HK|apply KeepBut.set_|refine keep_far ?_ GW445.out _))));have n2_:=Aside0.mk (blk_below (g:=gb445) (o:=.cells #[.int .i64 x446000_1,.int .i64 x446001_1,.string x446002_1,.slice none 0 0] 27 (0,0)) (gK BK445) hb);have n3_:=Aside0.mk (IsS66.below (by repeat (first|(with_reducible first|exact HI0.out|apply IsS66.alloc|apply IsS66.drewN|apply IsS66.drew|apply IsS66.set_1|refine IsS66.far ?_ NB0_445.out _)|exact HI0.out)) hb);have n4_:=Aside0.mk (KeepBut.trans (by repeat (first|exact gW HK|apply KeepBut.set_|refine keep_far ?_ GW445.out _)) (KeepBut.of_below hb g none) (.inl rfl));have n5_:=Aside0.mk (below_step (by repeat (first|exact gB HB|refine below_set ?_ (IsS66.ge HI0.out)|refine below_set ?_ GE445.out)) hb);clear HO_3;clear BK445;clear HI0;clear HK;clear HB;have HO_3:=n0_;have HO459:=n1_;have BK445:=n2_;have HI0:=n3_;have HK:=n4_;have HB:=n5_;clear n0_ n1_ n2_ n3_ n4_ n5_;(try clear hb);(try clear hb2);(try clear hk);(try clear hi);(try clear ho0))|((with_reducible refine gate_dst (N:=5) rfl ?_);refine box_event ?hg (N:=5) ?hd (cs:=#[.int .i64 0,.int .i64 0,.string (⟨#[]⟩:ByteArray),.slice none 0 0]) (t:=27) ?hr ?_;(case hd=>rfl);(case hg=>rfl);(case hr=>first|(go_simp;done)|(go_simp;rfl));intro gb461 hg w28 hbox hb;have n0_:=Aside0.mk (Kd.R_below (gR HO_3) hb);have n1_:=Aside0.mk (Kd.N_below (Kd.N_elderB (gN HO459) gb461 (Nat.le_of_eq hg.symm)) hb);have n2_:=Aside0.mk (blk_below (g:=gb445) (o:=.cells #[.int .i64 x446000_1,.int .i64 x446001_1,.string x446002_1,.slice none 0 0] 27 (0,0)) (gK BK445) hb);have n3_:=Aside0.mk (IsS66.below (by repeat (first|(with_reducible first|exact HI0.out|apply IsS66.alloc|apply IsS66.drewN|apply IsS66.drew|apply IsS66.set_1|refine IsS66.far ?_ NB0_445.out _)|exact HI0.out)) hb);have n4_:=Aside0.mk (KeepBut.trans (by repeat (first|exact gW HK|apply KeepBut.set_|refine keep_far ?_ GW445.out _)) (KeepBut.of_below hb g none) (.inl rfl));have n5_:=Aside0.mk (below_step (by repeat (first|exact gB HB|refine below_set ?_ (IsS66.ge HI0.out)|refine below_set ?_ GE445.out)) hb);have n6_:=Aside0.mk (hbox);have n7_:=Aside0.mk ((by rw [hg];exact (keep_size (w:=w) (g:=g) (row:=none) (by repeat (first|exact gW HK|apply KeepBut.set_|refine keep_far ?_ GW445.out _))):w.heap.size≤gb461));have n8_:=Aside0.mk ((Nat.le_trans HW0.out (by rw [hg];exact (keep_size (w:=w) (g:=g) (row:=none) (by repeat (first|exact gW HK|apply KeepBut.set_|refine keep_far ?_ GW445.out _))):w.heap.size≤gb461):w0.heap.size≤gb461));have n9_:=Aside0.mk ((by rw [hg];exact Nat.ne_of_lt (blk_lt (g:=gb445) (o:=.cells #[.int .i64 x446000_1,.int .i64 x446001_1,.string x446002_1,.slice none 0 0] 27 (0,0)) (gK BK445)):gb445 ≠ gb461));have n10_:=Aside0.mk ((by rw [hg];exact Nat.ne_of_gt (blk_lt (g:=gb445) (o:=.cells #[.int .i64 x446000_1,.int .i64 x446001_1,.string x446002_1,.slice none 0 0] 27 (0,0)) (gK BK445)):gb461 ≠ gb445));have n11_:=Aside0.mk ((by rw [hg];exact Nat.ne_of_lt (IsS66.lt (show IsS66 w0 _ g s0_0 t452 from by repeat (first|(with_reducible first|exact HI0.out|apply IsS66.alloc|apply IsS66.drewN|apply IsS66.drew|apply IsS66.set_1|refine IsS66.far ?_ NB0_445.out _)|exact HI0.out))):g ≠ gb461));have n12_:=Aside0.mk ((by rw [hg];exact Nat.ne_of_gt (IsS66.lt (show IsS66 w0 _ g s0_0 t452 from by repeat (first|(with_reducible first|exact HI0.out|apply IsS66.alloc|apply IsS66.drewN|apply IsS66.drew|apply IsS66.set_1|refine IsS66.far ?_ NB0_445.out _)|exact HI0.out))):gb461 ≠ g));clear HO_3;clear HO459;clear BK445;clear HI0;clear HK;clear HB;have HO_3:=n0_;have HO459:=n1_;have BK445:=n2_;have HI0:=n3_;have HK:=n4_;have HB:=n5_;have BK461:=n6_;have GW461:=n7_;have GE461:=n8_;have NB445_461:=n9_;have NB461_445:=n10_;have NB0_461:=n11_;have NB461_0:=n12_;clear n0_ n1_ n2_ n3_ n4_ n5_ n6_ n7_ n8_ n9_ n10_ n11_ n12_;clear hb hbox hg;have hnb29:=NB461_445.out;have hnc29:=NB445_461.out;have hnb30:=NB461_0.out;have hnc30:=NB0_461.out;have hcz31_0:w28.cell? ⟨gb461,0,none⟩=some (.int .i64 0):=(blk_cell BK461.out 0).trans rfl;have hcz31_1:w28.cell? ⟨gb461,1,none⟩=some (.int .i64 0):=(blk_cell BK461.out 1).trans rfl;have hcz31_2:w28.cell? ⟨gb461,2,none⟩=some (.string (⟨#[]⟩:ByteArray)):=(blk_cell BK461.out 2).trans rfl;have hcz31_3:w28.cell? ⟨gb461,3,none⟩=some (.slice none 0 0):=(blk_cell BK461.out 3).trans rfl;have hfz31_0:=blk_frozen BK461.out 0;have hfz31_1:=blk_frozen BK461.out 1;have hfz31_2:=blk_frozen BK461.out 2;have hfz31_3:=blk_frozen BK461.out 3;obtain ⟨Ao32,co32,eo32⟩:=Kd.N_slice HO459.out;subst eo32))
         go_meet
         case rel=>exact ⟨_,(t452),(x446000_1),(x446001_1),(x446002_1),H',⟨by have:=HK1.out;first|omega|exact Nat.le_refl _⟩,⟨by (with_reducible repeat (first|apply Kd.R_alloc|apply Kd.R_drewN|apply Kd.R_drew));exact Kd.R_mono (Kd.R_far (p:=⟨gb461,3,none⟩) (Kd.R_far (p:=⟨gb461,2,none⟩) (Kd.R_far (p:=⟨gb461,1,none⟩) (Kd.R_far (p:=⟨gb461,0,none⟩) (Kd.R_types HO_3.out BK461.out (by decide)) (fun _ hk=>hk.2) (.int .i64 t454)) (fun _ hk=>hk.2) (.int .i64 t455)) (fun _ hk=>hk.2) (.string t456)) (fun _ hk=>hk.2) (.slice Ao32 t457.length co32)) (fun _ hk=>hk.1)⟩,⟨by (with_reducible repeat (first|refine blk_drewN ?_ _|refine blk_drew ?_|refine blk_alloc ?_ _));refine blk_far ?_ NB445_461.out _;(with_reducible repeat (first|refine blk_drewN ?_ _|refine blk_drew ?_|refine blk_alloc ?_ _));refine blk_far ?_ NB445_461.out _;(with_reducible repeat (first|refine blk_drewN ?_ _|refine blk_drew ?_|refine blk_alloc ?_ _));refine blk_far ?_ NB445_461.out _;(with_reducible repeat (first|refine blk_drewN ?_ _|refine blk_drew ?_|refine blk_alloc ?_ _));refine blk_far ?_ NB445_461.out _;(with_reducible repeat (first|refine blk_drewN ?_ _|refine blk_drew ?_|refine blk_alloc ?_ _));exact BK445.out⟩,⟨by repeat (first|(with_reducible first|exact HI0.out|apply IsS66.alloc|apply IsS66.drewN|apply IsS66.drew|apply IsS66.set_1|refine IsS66.far ?_ NB0_445.out _|refine IsS66.far ?_ NB0_461.out _)|exact HI0.out)⟩,⟨by repeat (first|exact gW HK|apply KeepBut.set_|refine keep_far ?_ GW445.out _|refine keep_far ?_ GW461.out _)⟩,⟨by repeat (first|exact gB HB|refine below_set ?_ (IsS66.ge HI0.out)|refine below_set ?_ GE445.out|refine below_set ?_ GE461.out)⟩⟩
       ·rw [if_neg c12] at H
        exact absurd H (by simp)
      ·rw [if_neg c11] at H
       exact absurd H (by simp)
     ·rw [if_neg c9] at H
      have c9b0:(t449 == 0)=false:=beq_eq_false_iff_ne.mpr c9
      have c9b1:(t449 != 0)=true:=bne_iff_ne.mpr c9
      (first|rw [c9b0]|(simp only [i64_w,i32_w];rw [c9b0])|skip)
      have H':=Aside0.mk H
      clear H
      go_wp2
      go_meet
      case rel=>exact ⟨_,(t450),(x446000_1),(x446001_1),(x446002_1),H',⟨by have:=HK1.out;first|omega|exact Nat.le_refl _⟩,⟨gR HO_3⟩,⟨gK BK445⟩,⟨by repeat (first|(with_reducible first|exact HI0.out|apply IsS66.alloc|apply IsS66.drewN|apply IsS66.drew|apply IsS66.set_1|refine IsS66.far ?_ NB0_445.out _)|exact HI0.out)⟩,⟨by repeat (first|exact gW HK|apply KeepBut.set_|refine keep_far ?_ GW445.out _)⟩,⟨by repeat (first|exact gB HB|refine below_set ?_ (IsS66.ge HI0.out)|refine below_set ?_ GE445.out)⟩⟩
    case rest =>
     clear HC7
     try clear c1 c2 p2 c3 c4 p4 q4 hx4 c5 c5b0 c9 c9b0 c9b1 c11 c11b0 c12 c12b0 c14 c19 c20 c23 c29 c30 hcz21_0 hcz21_1 hcz21_2 hcz21_3 hcz24_0 hcz24_1 hcz24_2 hcz24_3 hcz31_0 hcz31_1 hcz31_2 hcz31_3 hfz21_0 hfz21_1 hfz21_2 hfz21_3 hfz24_0 hfz24_1 hfz24_2 hfz24_3 hfz31_0 hfz31_1 hfz31_2 hfz31_3 hx453_0 p2 p453 q453
     obtain ⟨kq,x1001_6,x446000_6,x446001_6,x446002_6,HA,HJ6,HO_3,BK445,HI0,HK,HB⟩:=hcut
     cases kq with
     | zero=>exact absurd HA.out (by simp [spec_l1Draw.j1])
     | succ kj6 =>
      have H:=HA.out
      clear HA
      simp only [spec_l1Draw.j1] at H
      obtain ⟨y462,hy462⟩:∃ y_:List Int,y_=(([4,3,5,2]:List Int)):=⟨_,rfl⟩
      replace H:((spec_l15Rd_num.f kj6 s0_0 x1001_6 y462).bind fun bt465=>((spec_l1Some.f kj6 s0_0 bt465.2 bt465.1).bind fun bt467=>((spec_DocValid.f kj6 bt467.1 bt467.2.1 bt467.2.2.1 bt467.2.2.2.1).bind fun t475=>(if t475=true then ((spec_l1Count.f kj6 bt467.1 bt467.2.1 bt467.2.2.1 bt467.2.2.2.1).bind fun t476=>(if t476≤40 then (some (bt467.1,bt467.2.1,bt467.2.2.1,bt467.2.2.2.1,bt467.2.2.2.2)) else (spec_l1Draw.l0 kj6 y446 (wrap64 (x4_1+1)) s0_0 bt467.2.2.2.2))) else (spec_l1Draw.l0 kj6 y446 (wrap64 (x4_1+1)) s0_0 bt467.2.2.2.2)))))=some (r1,r2,r3,r4,r5):=by first|(rw [hy462];with_reducible exact H)|(have H2_:=(Option.bind_some _ _).symm.trans H;rw [hy462];with_reducible exact H2_)|(have H2_:=(Option.bind_some _ _).symm.trans H;with_reducible exact H2_)|with_reducible exact H|(rw [hy462];exact H)|exact H
      have Ny462:=Aside0.mk hy462
      clear hy462
      replace H:=Option.bind_eq_some_iff.mp H
      obtain ⟨⟨t465,t466⟩,A330,H⟩:=H
      replace H:((spec_l1Some.f kj6 s0_0 t466 t465).bind fun bt467=>((spec_DocValid.f kj6 bt467.1 bt467.2.1 bt467.2.2.1 bt467.2.2.2.1).bind fun t475=>(if t475=true then ((spec_l1Count.f kj6 bt467.1 bt467.2.1 bt467.2.2.1 bt467.2.2.2.1).bind fun t476=>(if t476≤40 then (some (bt467.1,bt467.2.1,bt467.2.2.1,bt467.2.2.2.1,bt467.2.2.2.2)) else (spec_l1Draw.l0 kj6 y446 (wrap64 (x4_1+1)) s0_0 bt467.2.2.2.2))) else (spec_l1Draw.l0 kj6 y446 (wrap64 (x4_1+1)) s0_0 bt467.2.2.2.2))))=some (r1,r2,r3,r4,r5):=H
      have A33:=Aside0.mk A330
      clear A330
      replace H:=Option.bind_eq_some_iff.mp H
      obtain ⟨⟨t467,t468,t469,t470,t473⟩,A340,H⟩:=H
      replace H:((spec_DocValid.f kj6 t467 t468 t469 t470).bind fun t475=>(if t475=true then ((spec_l1Count.f kj6 t467 t468 t469 t470).bind fun t476=>(if t476≤40 then (some (t467,t468,t469,t470,t473)) else (spec_l1Draw.l0 kj6 y446 (wrap64 (x4_1+1)) s0_0 t473))) else (spec_l1Draw.l0 kj6 y446 (wrap64 (x4_1+1)) s0_0 t473)))=some (r1,r2,r3,r4,r5):=H
      have A34:=Aside0.mk A340
      clear A340
      replace H:=Option.bind_eq_some_iff.mp H
      obtain ⟨t475,A350,H⟩:=H
      replace H:(if t475=true then ((spec_l1Count.f kj6 t467 t468 t469 t470).bind fun t476=>(if t476≤40 then (some (t467,t468,t469,t470,t473)) else (spec_l1Draw.l0 kj6 y446 (wrap64 (x4_1+1)) s0_0 t473))) else (spec_l1Draw.l0 kj6 y446 (wrap64 (x4_1+1)) s0_0 t473))=some (r1,r2,r3,r4,r5):=H
      have A35:=Aside0.mk A350
      clear A350
      by_cases c36:t475=true
      ·subst c36
       have H1:((spec_l1Count.f kj6 t467 t468 t469 t470).bind fun t476=>(if t476≤40 then (some (t467,t468,t469,t470,t473)) else (spec_l1Draw.l0 kj6 y446 (wrap64 (x4_1+1)) s0_0 t473)))=some (r1,r2,r3,r4,r5):=by rw [if_pos rfl] at H;exact H
       clear H
       have H:=H1
       clear H1
       replace H:=Option.bind_eq_some_iff.mp H
       obtain ⟨t476,A370,H⟩:=H
       replace H:(if t476≤40 then (some (t467,t468,t469,t470,t473)) else (spec_l1Draw.l0 kj6 y446 (wrap64 (x4_1+1)) s0_0 t473))=some (r1,r2,r3,r4,r5):=H
       have A37:=Aside0.mk A370
       clear A370
       by_cases c38:t476≤40
       ·rw [if_pos c38] at H
        have c38b0:decide (t476≤40)=true:=decide_eq_true c38
        clear c38
        simp only [Option.some.injEq,Prod.mk.injEq] at H
        obtain ⟨rfl,rfl,rfl,rfl,rfl⟩:=H
        go_wp2_with (first|((with_reducible refine gate_dst (N:=31) rfl ?_);refine Kd.R_lit (Kd.int .i64) _ 3 ?hg (N:=31) ?hd (xs:=([4,3,5,2]:List Int)) (inner:=[.int .i64 4,.int .i64 3,.int .i64 5,.int .i64 2]) (ok:=fun _=>True) (okp:=fun _=>True) ?hr ?hp (fun _ hk=>hk) trivial (Below.refl _ _) (Nat.le_refl _) (by simp) ?_;(case hd=>rfl);(case hg=>rfl);(case hr=>first|(go_simp;done)|(go_simp;rfl));(case hp=>exact (Reps.one (show Kd.M (Kd.int .i64) _ _ _ 4 [.int .i64 4] from rfl) (Reps.one (show Kd.M (Kd.int .i64) _ _ _ 3 [.int .i64 3] from rfl) (Reps.one (show Kd.M (Kd.int .i64) _ _ _ 5 [.int .i64 5] from rfl) (Reps.one (show Kd.M (Kd.int .i64) _ _ _ 2 [.int .i64 2] from rfl) (Reps.none _ _))))));intro v463 w39 ho40 hb hg_ hnew_;clear hg_ hnew_;(first|rw [← Ny462.out] at ho40|(simp only [Int.reduceToNat] at ho40;rw [← Ny462.out] at ho40));have n0_:=Aside0.mk (Kd.R_below (gR HO_3) hb);have n1_:=Aside0.mk (Kd.R_lower (Kd.R_newM (M:=fun k_=>(w.heap.size≤k_)) ho40 (keep_size (w:=w) (g:=g) (row:=none) (by repeat (first|exact gW HK|apply KeepBut.set_|refine keep_far ?_ GW445.out _))) (fun k_ h_=>h_)) (keep_size (w:=w) (g:=g) (row:=none) (by repeat (first|exact gW HK|apply KeepBut.set_|refine keep_far ?_ GW445.out _))));have n2_:=Aside0.mk (blk_below (g:=gb445) (o:=.cells #[.int .i64 x446000_6,.int .i64 x446001_6,.string x446002_6,.slice none 0 0] 27 (0,0)) (gK BK445) hb);have n3_:=Aside0.mk (IsS66.below (by repeat (first|(with_reducible first|exact HI0.out|apply IsS66.alloc|apply IsS66.drewN|apply IsS66.drew|apply IsS66.set_1|refine IsS66.far ?_ NB0_445.out _)|exact HI0.out)) hb);have n4_:=Aside0.mk (KeepBut.trans (by repeat (first|exact gW HK|apply KeepBut.set_|refine keep_far ?_ GW445.out _)) (KeepBut.of_below hb g none) (.inl rfl));have n5_:=Aside0.mk (below_step (by repeat (first|exact gB HB|refine below_set ?_ (IsS66.ge HI0.out)|refine below_set ?_ GE445.out)) hb);clear HO_3;clear BK445;clear HI0;clear HK;clear HB;have HO_3:=n0_;have HO464:=n1_;have BK445:=n2_;have HI0:=n3_;have HK:=n4_;have HB:=n5_;clear n0_ n1_ n2_ n3_ n4_ n5_;clear hb ho40;obtain ⟨Ao41,co41,eo41⟩:=Kd.R_slice HO464.out;subst eo41)|((with_reducible refine gate_callee (f:=49) rfl ?_);refine goesL_ (some 32) rfl rfl Try.func49 (by kernel_rfl) rfl #[.pointer (some ⟨g,0,none⟩),.slice Ao41 y462.length co41] rfl (by (try simp only [List.map_toArray,List.map_cons,List.map_nil]);first|done|rfl|(simp only [List.length_drop,List.length_take];rfl)) ?_;(with_reducible refine (spec_l15Rd_num.calls kj6 g s0_0 x1001_6 _ _ y462 t465 t466 w0 _ ?side1 ?side2 ?side3 ?side4 ?side5 A33.out).mono ?_);(case side1=>repeat (first|(with_reducible first|exact HI0.out|apply IsS66.alloc|apply IsS66.drewN|apply IsS66.drew|apply IsS66.set_1|refine IsS66.far ?_ NB0_445.out _)|exact HI0.out));(case side2=>repeat (first|exact gB HB|refine below_set ?_ (IsS66.ge HI0.out)|refine below_set ?_ GE445.out));(case side3=>exact gC ((Kd.R_reads' HO464.out).2.2));(case side4=>exact (Kd.R_reads' HO464.out).2.1);(case side5=>exact far_slice (IsS66.own_ne HI0.out HO464.out (by decide)));rintro e w42 ⟨rfl,hi,hb,hk⟩;refine ⟨_,rfl,?_⟩;have n0_:=Aside0.mk (Kd.R_mono (Kd.R_keep (IsS66.apart (show IsS66 w0 _ g s0_0 x1001_6 from by repeat (first|(with_reducible first|exact HI0.out|apply IsS66.alloc|apply IsS66.drewN|apply IsS66.drew|apply IsS66.set_1|refine IsS66.far ?_ NB0_445.out _)|exact HI0.out)) (gR HO_3) (by decide)) hk (fun _ h=>h.2)) (fun _ h=>h.1));have n1_:=Aside0.mk (KeepBut.blk hk (g':=gb445) (o:=.cells #[.int .i64 x446000_6,.int .i64 x446001_6,.string x446002_6,.slice none 0 0] 27 (0,0)) (gK BK445) NB445_0.out (by simp));have n2_:=Aside0.mk (Kd.R_mono (Kd.R_keep (IsS66.apart (show IsS66 w0 _ g s0_0 x1001_6 from by repeat (first|(with_reducible first|exact HI0.out|apply IsS66.alloc|apply IsS66.drewN|apply IsS66.drew|apply IsS66.set_1|refine IsS66.far ?_ NB0_445.out _)|exact HI0.out)) (gR HO464) (by decide)) hk (fun _ h=>h.2)) (fun _ h=>h.1));have n3_:=Aside0.mk (KeepBut.trans (by repeat (first|exact gW HK|apply KeepBut.set_|refine keep_far ?_ GW445.out _)) hk (.inl rfl));have n4_:=Aside0.mk (hb);have n5_:=Aside0.mk (hi);clear HO_3;clear BK445;clear HO464;clear HK;clear HB;clear HI0;have HO_3:=n0_;have BK445:=n1_;have HO464:=n2_;have HK:=n3_;have HB:=n4_;have HI0:=n5_;clear n0_ n1_ n2_ n3_ n4_ n5_;(try clear hb);(try clear hb2);(try clear hk);(try clear hi))|((with_reducible refine gate_callee (f:=72) rfl ?_);refine goesL_ (some 33) rfl rfl Try.func72 (by kernel_rfl) rfl #[.pointer (some ⟨g,0,none⟩),.int .i64 t465] rfl (by (try simp only [List.map_toArray,List.map_cons,List.map_nil]);first|done|rfl|(simp only [List.length_drop,List.length_take];rfl)) ?_;(with_reducible refine (spec_l1Some.calls kj6 g s0_0 t466 t465 t467 t468 t469 t470 t473 w0 _ ?side1 ?side2 A34.out).mono ?_);(case side1=>repeat (first|(with_reducible first|exact HI0.out|apply IsS66.alloc|apply IsS66.drewN|apply IsS66.drew|apply IsS66.set_1|refine IsS66.far ?_ NB0_445.out _)|exact HI0.out));(case side2=>repeat (first|exact gB HB|refine below_set ?_ (IsS66.ge HI0.out)|refine below_set ?_ GE445.out));rintro e w43 ⟨v471,rfl,ho0,hi,hb,hk⟩;refine ⟨_,rfl,?_⟩;have n0_:=Aside0.mk (Kd.R_mono (Kd.R_keep (IsS66.apart (show IsS66 w0 _ g s0_0 t466 from by repeat (first|(with_reducible first|exact HI0.out|apply IsS66.alloc|apply IsS66.drewN|apply IsS66.drew|apply IsS66.set_1|refine IsS66.far ?_ NB0_445.out _)|exact HI0.out)) (gR HO_3) (by decide)) hk (fun _ h=>h.2)) (fun _ h=>h.1));have n1_:=Aside0.mk (KeepBut.blk hk (g':=gb445) (o:=.cells #[.int .i64 x446000_6,.int .i64 x446001_6,.string x446002_6,.slice none 0 0] 27 (0,0)) (gK BK445) NB445_0.out (by simp));have n2_:=Aside0.mk (Kd.R_mono (Kd.R_keep (IsS66.apart (show IsS66 w0 _ g s0_0 t466 from by repeat (first|(with_reducible first|exact HI0.out|apply IsS66.alloc|apply IsS66.drewN|apply IsS66.drew|apply IsS66.set_1|refine IsS66.far ?_ NB0_445.out _)|exact HI0.out)) (gR HO464) (by decide)) hk (fun _ h=>h.2)) (fun _ h=>h.1));have n3_:=Aside0.mk (Kd.N_lower (Kd.N_mono (ok':=fun k_=>(w.heap.size≤k_)∧some k_ ≠ (v447:Value).ownBlock∧some k_ ≠ (.slice Ao41 y462.length co41:Value).ownBlock∧k_ ≠ gb445∧k_ ≠ g) ho0 (fun k_ hk_=>⟨(Nat.le_trans (keep_size (w:=w) (g:=g) (row:=none) (by repeat (first|exact gW HK|apply KeepBut.set_|refine keep_far ?_ GW445.out _))) hk_),(Kd.fresh' (Kd.R_lt (gR HO_3)) k_ hk_),(Kd.fresh' (Kd.R_lt (gR HO464)) k_ hk_),(Kd.freshB (g:=gb445) (o:=.cells #[.int .i64 x446000_6,.int .i64 x446001_6,.string x446002_6,.slice none 0 0] 27 (0,0)) (gK BK445) k_ hk_),(IsS66.fresh (by repeat (first|(with_reducible first|exact HI0.out|apply IsS66.alloc|apply IsS66.drewN|apply IsS66.drew|apply IsS66.set_1|refine IsS66.far ?_ NB0_445.out _)|exact HI0.out)) k_ hk_)⟩)) (keep_size (w:=w) (g:=g) (row:=none) (by repeat (first|exact gW HK|apply KeepBut.set_|refine keep_far ?_ GW445.out _))));have n4_:=Aside0.mk (KeepBut.trans (by repeat (first|exact gW HK|apply KeepBut.set_|refine keep_far ?_ GW445.out _)) hk (.inl rfl));have n5_:=Aside0.mk (hb);have n6_:=Aside0.mk (hi);clear HO_3;clear BK445;clear HO464;clear HK;clear HB;clear HI0;have HO_3:=n0_;have BK445:=n1_;have HO464:=n2_;have HO472:=n3_;have HK:=n4_;have HB:=n5_;have HI0:=n6_;clear n0_ n1_ n2_ n3_ n4_ n5_ n6_;(try clear hb);(try clear hb2);(try clear hk);(try clear hi);(try clear ho0))|((with_reducible refine gate_dst (N:=7) rfl ?_);refine box_event ?hg (N:=7) ?hd (cs:=#[.int .i64 0,.int .i64 0,.string (⟨#[]⟩:ByteArray),.slice none 0 0]) (t:=27) ?hr ?_;(case hd=>rfl);(case hg=>rfl);(case hr=>first|(go_simp;done)|(go_simp;rfl));intro gb474 hg w44 hbox hb;have n0_:=Aside0.mk (Kd.R_below (gR HO_3) hb);have n1_:=Aside0.mk (Kd.R_below (gR HO464) hb);have n2_:=Aside0.mk (Kd.N_below (Kd.N_elderB (gN HO472) gb474 (Nat.le_of_eq hg.symm)) hb);have n3_:=Aside0.mk (blk_below (g:=gb445) (o:=.cells #[.int .i64 x446000_6,.int .i64 x446001_6,.string x446002_6,.slice none 0 0] 27 (0,0)) (gK BK445) hb);have n4_:=Aside0.mk (IsS66.below (by repeat (first|(with_reducible first|exact HI0.out|apply IsS66.alloc|apply IsS66.drewN|apply IsS66.drew|apply IsS66.set_1|refine IsS66.far ?_ NB0_445.out _)|exact HI0.out)) hb);have n5_:=Aside0.mk (KeepBut.trans (by repeat (first|exact gW HK|apply KeepBut.set_|refine keep_far ?_ GW445.out _)) (KeepBut.of_below hb g none) (.inl rfl));have n6_:=Aside0.mk (below_step (by repeat (first|exact gB HB|refine below_set ?_ (IsS66.ge HI0.out)|refine below_set ?_ GE445.out)) hb);have n7_:=Aside0.mk (hbox);have n8_:=Aside0.mk ((by rw [hg];exact (keep_size (w:=w) (g:=g) (row:=none) (by repeat (first|exact gW HK|apply KeepBut.set_|refine keep_far ?_ GW445.out _))):w.heap.size≤gb474));have n9_:=Aside0.mk ((Nat.le_trans HW0.out (by rw [hg];exact (keep_size (w:=w) (g:=g) (row:=none) (by repeat (first|exact gW HK|apply KeepBut.set_|refine keep_far ?_ GW445.out _))):w.heap.size≤gb474):w0.heap.size≤gb474));have n10_:=Aside0.mk ((by rw [hg];exact Nat.ne_of_lt (blk_lt (g:=gb445) (o:=.cells #[.int .i64 x446000_6,.int .i64 x446001_6,.string x446002_6,.slice none 0 0] 27 (0,0)) (gK BK445)):gb445 ≠ gb474));have n11_:=Aside0.mk ((by rw [hg];exact Nat.ne_of_gt (blk_lt (g:=gb445) (o:=.cells #[.int .i64 x446000_6,.int .i64 x446001_6,.string x446002_6,.slice none 0 0] 27 (0,0)) (gK BK445)):gb474 ≠ gb445));have n12_:=Aside0.mk ((by rw [hg];exact Nat.ne_of_lt (IsS66.lt (show IsS66 w0 _ g s0_0 t473 from by repeat (first|(with_reducible first|exact HI0.out|apply IsS66.alloc|apply IsS66.drewN|apply IsS66.drew|apply IsS66.set_1|refine IsS66.far ?_ NB0_445.out _)|exact HI0.out))):g ≠ gb474));have n13_:=Aside0.mk ((by rw [hg];exact Nat.ne_of_gt (IsS66.lt (show IsS66 w0 _ g s0_0 t473 from by repeat (first|(with_reducible first|exact HI0.out|apply IsS66.alloc|apply IsS66.drewN|apply IsS66.drew|apply IsS66.set_1|refine IsS66.far ?_ NB0_445.out _)|exact HI0.out))):gb474 ≠ g));clear HO_3;clear HO464;clear HO472;clear BK445;clear HI0;clear HK;clear HB;have HO_3:=n0_;have HO464:=n1_;have HO472:=n2_;have BK445:=n3_;have HI0:=n4_;have HK:=n5_;have HB:=n6_;have BK474:=n7_;have GW474:=n8_;have GE474:=n9_;have NB445_474:=n10_;have NB474_445:=n11_;have NB0_474:=n12_;have NB474_0:=n13_;clear n0_ n1_ n2_ n3_ n4_ n5_ n6_ n7_ n8_ n9_ n10_ n11_ n12_ n13_;clear hb hbox hg;have hnb45:=NB474_445.out;have hnc45:=NB445_474.out;have hnb46:=NB474_0.out;have hnc46:=NB0_474.out;have hcz47_0:w44.cell? ⟨gb474,0,none⟩=some (.int .i64 0):=(blk_cell BK474.out 0).trans rfl;have hcz47_1:w44.cell? ⟨gb474,1,none⟩=some (.int .i64 0):=(blk_cell BK474.out 1).trans rfl;have hcz47_2:w44.cell? ⟨gb474,2,none⟩=some (.string (⟨#[]⟩:ByteArray)):=(blk_cell BK474.out 2).trans rfl;have hcz47_3:w44.cell? ⟨gb474,3,none⟩=some (.slice none 0 0):=(blk_cell BK474.out 3).trans rfl;have hfz47_0:=blk_frozen BK474.out 0;have hfz47_1:=blk_frozen BK474.out 1;have hfz47_2:=blk_frozen BK474.out 2;have hfz47_3:=blk_frozen BK474.out 3;obtain ⟨Ao48,co48,eo48⟩:=Kd.N_slice HO472.out;subst eo48)|((with_reducible refine gate_callee (f:=25) rfl ?_);refine goesL_ (some 35) rfl rfl Try.func25 (by kernel_rfl) rfl #[.agg #[.int .i64 t467,.int .i64 t468,.string t469,.slice Ao48 t470.length co48]] rfl (by (try simp only [List.map_toArray,List.map_cons,List.map_nil]);first|done|rfl|(simp only [List.length_drop,List.length_take];rfl)) ?_;(with_reducible refine (spec_DocValid.calls kj6 t467 t468 t469 _ _ t470 true _ ?side1 ?side2 A35.out).mono ?_);(case side1=>exact (Kd.N_reads' (e:=27) (base:=w.heap.size) (n:=t470.length) (c:=co48) (by (with_reducible repeat (first|apply Kd.N_alloc|apply Kd.N_drewN|apply Kd.N_drew));exact (Kd.N_mono (Kd.N_far (p:=⟨gb474,3,none⟩) (Kd.N_far (p:=⟨gb474,2,none⟩) (Kd.N_far (p:=⟨gb474,1,none⟩) (Kd.N_far (p:=⟨gb474,0,none⟩) (Kd.N_mono HO472.out (fun k_ hk=>(⟨hk,hk.2⟩:_∧k_ ≠ gb474))) (fun _ hk=>hk.2) (.int .i64 t467)) (fun _ hk=>hk.2) (.int .i64 t468)) (fun _ hk=>hk.2) (.string t469)) (fun _ hk=>hk.2) (.slice Ao48 t470.length co48)) (fun _ h_=>h_.1)))).2.2);(case side2=>exact (Kd.N_reads' HO472.out).2.1);rintro e w49 ⟨rfl,hb⟩;refine ⟨_,rfl,?_⟩;have n0_:=Aside0.mk (Kd.R_below (by (with_reducible repeat (first|apply Kd.R_alloc|apply Kd.R_drewN|apply Kd.R_drew));exact (Kd.R_mono (Kd.R_far (p:=⟨gb474,3,none⟩) (Kd.R_far (p:=⟨gb474,2,none⟩) (Kd.R_far (p:=⟨gb474,1,none⟩) (Kd.R_far (p:=⟨gb474,0,none⟩) (Kd.R_types HO_3.out BK474.out (by decide)) (fun _ hk=>hk.2) (.int .i64 t467)) (fun _ hk=>hk.2) (.int .i64 t468)) (fun _ hk=>hk.2) (.string t469)) (fun _ hk=>hk.2) (.slice Ao48 t470.length co48)) (fun _ h_=>h_.1))) hb);have n1_:=Aside0.mk (Kd.R_below (by (with_reducible repeat (first|apply Kd.R_alloc|apply Kd.R_drewN|apply Kd.R_drew));exact (Kd.R_mono (Kd.R_far (p:=⟨gb474,3,none⟩) (Kd.R_far (p:=⟨gb474,2,none⟩) (Kd.R_far (p:=⟨gb474,1,none⟩) (Kd.R_far (p:=⟨gb474,0,none⟩) (Kd.R_types HO464.out BK474.out (by decide)) (fun _ hk=>hk.2) (.int .i64 t467)) (fun _ hk=>hk.2) (.int .i64 t468)) (fun _ hk=>hk.2) (.string t469)) (fun _ hk=>hk.2) (.slice Ao48 t470.length co48)) (fun _ h_=>h_.1))) hb);have n2_:=Aside0.mk (Kd.N_below (by (with_reducible repeat (first|apply Kd.N_alloc|apply Kd.N_drewN|apply Kd.N_drew));exact (Kd.N_mono (Kd.N_far (p:=⟨gb474,3,none⟩) (Kd.N_far (p:=⟨gb474,2,none⟩) (Kd.N_far (p:=⟨gb474,1,none⟩) (Kd.N_far (p:=⟨gb474,0,none⟩) (Kd.N_mono HO472.out (fun k_ hk=>(⟨hk,hk.2⟩:_∧k_ ≠ gb474))) (fun _ hk=>hk.2) (.int .i64 t467)) (fun _ hk=>hk.2) (.int .i64 t468)) (fun _ hk=>hk.2) (.string t469)) (fun _ hk=>hk.2) (.slice Ao48 t470.length co48)) (fun _ h_=>h_.1))) hb);have n3_:=Aside0.mk (blk_below (g:=gb445) (o:=.cells #[.int .i64 x446000_6,.int .i64 x446001_6,.string x446002_6,.slice none 0 0] 27 (0,0)) (by (with_reducible repeat (first|refine blk_drewN ?_ _|refine blk_drew ?_|refine blk_alloc ?_ _));refine blk_far ?_ NB445_474.out _;(with_reducible repeat (first|refine blk_drewN ?_ _|refine blk_drew ?_|refine blk_alloc ?_ _));refine blk_far ?_ NB445_474.out _;(with_reducible repeat (first|refine blk_drewN ?_ _|refine blk_drew ?_|refine blk_alloc ?_ _));refine blk_far ?_ NB445_474.out _;(with_reducible repeat (first|refine blk_drewN ?_ _|refine blk_drew ?_|refine blk_alloc ?_ _));refine blk_far ?_ NB445_474.out _;(with_reducible repeat (first|refine blk_drewN ?_ _|refine blk_drew ?_|refine blk_alloc ?_ _));exact BK445.out) hb);have n4_:=Aside0.mk (IsS66.below (show IsS66 w0 ((((w44.setCell ⟨gb474,0,none⟩ (.int .i64 t467)).setCell ⟨gb474,1,none⟩ (.int .i64 t468)).setCell ⟨gb474,2,none⟩ (.string t469)).setCell ⟨gb474,3,none⟩ (.slice Ao48 t470.length co48)) g s0_0 t473 from by repeat (first|(with_reducible first|exact HI0.out|apply IsS66.alloc|apply IsS66.drewN|apply IsS66.drew|apply IsS66.set_1|refine IsS66.far ?_ NB0_445.out _|refine IsS66.far ?_ NB0_474.out _)|exact HI0.out)) hb);have n5_:=Aside0.mk (blk_below (g:=gb474) (o:=.cells #[.int .i64 t467,.int .i64 t468,.string t469,.slice Ao48 t470.length co48] 27 (0,0)) (by (with_reducible repeat (first|refine blk_drewN ?_ _|refine blk_drew ?_|refine blk_alloc ?_ _));refine blk_put (cs:=#[.int .i64 t467,.int .i64 t468,.string t469,.slice none 0 0]) ?_ 3 _ rfl;(with_reducible repeat (first|refine blk_drewN ?_ _|refine blk_drew ?_|refine blk_alloc ?_ _));refine blk_put (cs:=#[.int .i64 t467,.int .i64 t468,.string (⟨#[]⟩:ByteArray),.slice none 0 0]) ?_ 2 _ rfl;(with_reducible repeat (first|refine blk_drewN ?_ _|refine blk_drew ?_|refine blk_alloc ?_ _));refine blk_put (cs:=#[.int .i64 t467,.int .i64 0,.string (⟨#[]⟩:ByteArray),.slice none 0 0]) ?_ 1 _ rfl;(with_reducible repeat (first|refine blk_drewN ?_ _|refine blk_drew ?_|refine blk_alloc ?_ _));refine blk_put (cs:=#[.int .i64 0,.int .i64 0,.string (⟨#[]⟩:ByteArray),.slice none 0 0]) ?_ 0 _ rfl;(with_reducible repeat (first|refine blk_drewN ?_ _|refine blk_drew ?_|refine blk_alloc ?_ _));exact BK474.out) hb);have n6_:=Aside0.mk (KeepBut.trans (by repeat (first|exact gW HK|apply KeepBut.set_|refine keep_far ?_ GW445.out _|refine keep_far ?_ GW474.out _)) (KeepBut.of_below hb g none) (.inl rfl));have n7_:=Aside0.mk (below_step (by repeat (first|exact gB HB|refine below_set ?_ (IsS66.ge HI0.out)|refine below_set ?_ GE445.out|refine below_set ?_ GE474.out)) hb);clear HO_3;clear HO464;clear HO472;clear BK445;clear HI0;clear BK474;clear HK;clear HB;have HO_3:=n0_;have HO464:=n1_;have HO472:=n2_;have BK445:=n3_;have HI0:=n4_;have BK474:=n5_;have HK:=n6_;have HB:=n7_;clear n0_ n1_ n2_ n3_ n4_ n5_ n6_ n7_;(try clear hb);(try clear hb2);(try clear hk);(try clear hi);have hcz50_0:w49.cell? ⟨gb474,0,none⟩=some (.int .i64 t467):=(blk_cell BK474.out 0).trans rfl;have hcz50_1:w49.cell? ⟨gb474,1,none⟩=some (.int .i64 t468):=(blk_cell BK474.out 1).trans rfl;have hcz50_2:w49.cell? ⟨gb474,2,none⟩=some (.string t469):=(blk_cell BK474.out 2).trans rfl;have hcz50_3:w49.cell? ⟨gb474,3,none⟩=some (.slice Ao48 t470.length co48):=(blk_cell BK474.out 3).trans rfl;have hfz50_0:=blk_frozen BK474.out 0;have hfz50_1:=blk_frozen BK474.out 1;have hfz50_2:=blk_frozen BK474.out 2;have hfz50_3:=blk_frozen BK474.out 3)|(go_at_call 54;(with_reducible refine (spec_l1Count.calls kj6 t467 t468 t469 _ _ t470 t476 _ ?side1 ?side2 A37.out).mono ?_);(case side1=>exact gC ((Kd.N_reads' HO472.out).2.2));(case side2=>exact (Kd.N_reads' HO472.out).2.1);rintro e w51 ⟨rfl,hb⟩;have n0_:=Aside0.mk (Kd.R_below (gR HO_3) hb);have n1_:=Aside0.mk (Kd.R_below (gR HO464) hb);have n2_:=Aside0.mk (Kd.N_below (gN HO472) hb);have n3_:=Aside0.mk (blk_below (g:=gb445) (o:=.cells #[.int .i64 x446000_6,.int .i64 x446001_6,.string x446002_6,.slice none 0 0] 27 (0,0)) (gK BK445) hb);have n4_:=Aside0.mk (IsS66.below (by repeat (first|(with_reducible first|exact HI0.out|apply IsS66.alloc|apply IsS66.drewN|apply IsS66.drew|apply IsS66.set_1|refine IsS66.far ?_ NB0_445.out _|refine IsS66.far ?_ NB0_474.out _)|exact HI0.out)) hb);have n5_:=Aside0.mk (blk_below (g:=gb474) (o:=.cells #[.int .i64 t467,.int .i64 t468,.string t469,.slice Ao48 t470.length co48] 27 (0,0)) (gK BK474) hb);have n6_:=Aside0.mk (KeepBut.trans (by repeat (first|exact gW HK|apply KeepBut.set_|refine keep_far ?_ GW445.out _|refine keep_far ?_ GW474.out _)) (KeepBut.of_below hb g none) (.inl rfl));have n7_:=Aside0.mk (below_step (by repeat (first|exact gB HB|refine below_set ?_ (IsS66.ge HI0.out)|refine below_set ?_ GE445.out|refine below_set ?_ GE474.out)) hb);clear HO_3;clear HO464;clear HO472;clear BK445;clear HI0;clear BK474;clear HK;clear HB;have HO_3:=n0_;have HO464:=n1_;have HO472:=n2_;have BK445:=n3_;have HI0:=n4_;have BK474:=n5_;have HK:=n6_;have HB:=n7_;clear n0_ n1_ n2_ n3_ n4_ n5_ n6_ n7_;(try clear hb);(try clear hb2);(try clear hk);(try clear hi);have hcz52_0:w51.cell? ⟨gb474,0,none⟩=some (.int .i64 t467):=(blk_cell BK474.out 0).trans rfl;have hcz52_1:w51.cell? ⟨gb474,1,none⟩=some (.int .i64 t468):=(blk_cell BK474.out 1).trans rfl;have hcz52_2:w51.cell? ⟨gb474,2,none⟩=some (.string t469):=(blk_cell BK474.out 2).trans rfl;have hcz52_3:w51.cell? ⟨gb474,3,none⟩=some (.slice Ao48 t470.length co48):=(blk_cell BK474.out 3).trans rfl;have hfz52_0:=blk_frozen BK474.out 0;have hfz52_1:=blk_frozen BK474.out 1;have hfz52_2:=blk_frozen BK474.out 2;have hfz52_3:=blk_frozen BK474.out 3;have hnb53:=NB445_0.out;have hnc53:=NB0_445.out;have hcz54_0:w51.cell? ⟨gb445,0,none⟩=some (.int .i64 x446000_6):=(blk_cell BK445.out 0).trans rfl;have hcz54_1:w51.cell? ⟨gb445,1,none⟩=some (.int .i64 x446001_6):=(blk_cell BK445.out 1).trans rfl;have hcz54_2:w51.cell? ⟨gb445,2,none⟩=some (.string x446002_6):=(blk_cell BK445.out 2).trans rfl;have hcz54_3:w51.cell? ⟨gb445,3,none⟩=some (.slice none 0 0):=(blk_cell BK445.out 3).trans rfl;have hfz54_0:=blk_frozen BK445.out 0;have hfz54_1:=blk_frozen BK445.out 1;have hfz54_2:=blk_frozen BK445.out 2;have hfz54_3:=blk_frozen BK445.out 3))
        refine bodyPost_ret (results_cell_row rfl _ _ gb445 27 #[.int .i64 t467,.int .i64 t468,.string t469,.slice Ao48 t470.length co48] (0,0) _ rfl (by (with_reducible repeat (first|refine blk_drewN ?_ _|refine blk_drew ?_|refine blk_alloc ?_ _));refine blk_put (cs:=#[.int .i64 t467,.int .i64 t468,.string t469,.slice none 0 0]) ?_ 3 _ rfl;(with_reducible repeat (first|refine blk_drewN ?_ _|refine blk_drew ?_|refine blk_alloc ?_ _));refine blk_put (cs:=#[.int .i64 t467,.int .i64 t468,.string x446002_6,.slice none 0 0]) ?_ 2 _ rfl;(with_reducible repeat (first|refine blk_drewN ?_ _|refine blk_drew ?_|refine blk_alloc ?_ _));refine blk_put (cs:=#[.int .i64 t467,.int .i64 x446001_6,.string x446002_6,.slice none 0 0]) ?_ 1 _ rfl;(with_reducible repeat (first|refine blk_drewN ?_ _|refine blk_drew ?_|refine blk_alloc ?_ _));refine blk_put (cs:=#[.int .i64 x446000_6,.int .i64 x446001_6,.string x446002_6,.slice none 0 0]) ?_ 0 _ rfl;(with_reducible repeat (first|refine blk_drewN ?_ _|refine blk_drew ?_|refine blk_alloc ?_ _));exact BK445.out) Try.underlying27 rfl (by kernel_rfl)) rfl ?_
        exact ⟨_,by first|rfl|(simp [errW_none,errW_some] <;> rfl)|(simp [*,errW_none,errW_some] <;> rfl),by (with_reducible repeat (first|apply Kd.N_alloc|apply Kd.N_drewN|apply Kd.N_drew));exact Kd.N_mono (Kd.N_far (p:=⟨gb445,3,none⟩) (Kd.N_far (p:=⟨gb445,2,none⟩) (Kd.N_far (p:=⟨gb445,1,none⟩) (Kd.N_far (p:=⟨gb445,0,none⟩) (Kd.N_mono HO472.out (fun k_ hk=>(⟨hk,hk.1.2.2.2.1⟩:_∧k_ ≠ gb445))) (fun _ hk=>hk.2) (.int .i64 t467)) (fun _ hk=>hk.2) (.int .i64 t468)) (fun _ hk=>hk.2) (.string t469)) (fun _ hk=>hk.2) (.slice Ao48 t470.length co48)) (fun _ hk=>hk.1.1.1),by repeat (first|(with_reducible first|exact HI0.out|apply IsS66.alloc|apply IsS66.drewN|apply IsS66.drew|apply IsS66.set_1|refine IsS66.far ?_ NB0_445.out _|refine IsS66.far ?_ NB0_474.out _)|exact HI0.out),by repeat (first|exact gB HB|refine below_set ?_ (IsS66.ge HI0.out)|refine below_set ?_ GE445.out|refine below_set ?_ GE474.out),by repeat (first|exact gW HK|apply KeepBut.set_|refine keep_far ?_ GW445.out _|refine keep_far ?_ GW474.out _)⟩
       ·rw [if_neg c38] at H
        have c38b0:decide (t476≤40)=false:=decide_eq_false c38
        clear c38
        have H':=Aside0.mk H
        clear H
        go_wp2_with (first|((with_reducible refine gate_dst (N:=31) rfl ?_);refine Kd.R_lit (Kd.int .i64) _ 3 ?hg (N:=31) ?hd (xs:=([4,3,5,2]:List Int)) (inner:=[.int .i64 4,.int .i64 3,.int .i64 5,.int .i64 2]) (ok:=fun _=>True) (okp:=fun _=>True) ?hr ?hp (fun _ hk=>hk) trivial (Below.refl _ _) (Nat.le_refl _) (by simp) ?_;(case hd=>rfl);(case hg=>rfl);(case hr=>first|(go_simp;done)|(go_simp;rfl));(case hp=>exact (Reps.one (show Kd.M (Kd.int .i64) _ _ _ 4 [.int .i64 4] from rfl) (Reps.one (show Kd.M (Kd.int .i64) _ _ _ 3 [.int .i64 3] from rfl) (Reps.one (show Kd.M (Kd.int .i64) _ _ _ 5 [.int .i64 5] from rfl) (Reps.one (show Kd.M (Kd.int .i64) _ _ _ 2 [.int .i64 2] from rfl) (Reps.none _ _))))));intro v463 w55 ho56 hb hg_ hnew_;clear hg_ hnew_;(first|rw [← Ny462.out] at ho56|(simp only [Int.reduceToNat] at ho56;rw [← Ny462.out] at ho56));have n0_:=Aside0.mk (Kd.R_below (gR HO_3) hb);have n1_:=Aside0.mk (Kd.R_lower (Kd.R_newM (M:=fun k_=>(w.heap.size≤k_)) ho56 (keep_size (w:=w) (g:=g) (row:=none) (by repeat (first|exact gW HK|apply KeepBut.set_|refine keep_far ?_ GW445.out _))) (fun k_ h_=>h_)) (keep_size (w:=w) (g:=g) (row:=none) (by repeat (first|exact gW HK|apply KeepBut.set_|refine keep_far ?_ GW445.out _))));have n2_:=Aside0.mk (blk_below (g:=gb445) (o:=.cells #[.int .i64 x446000_6,.int .i64 x446001_6,.string x446002_6,.slice none 0 0] 27 (0,0)) (gK BK445) hb);have n3_:=Aside0.mk (IsS66.below (by repeat (first|(with_reducible first|exact HI0.out|apply IsS66.alloc|apply IsS66.drewN|apply IsS66.drew|apply IsS66.set_1|refine IsS66.far ?_ NB0_445.out _)|exact HI0.out)) hb);have n4_:=Aside0.mk (KeepBut.trans (by repeat (first|exact gW HK|apply KeepBut.set_|refine keep_far ?_ GW445.out _)) (KeepBut.of_below hb g none) (.inl rfl));have n5_:=Aside0.mk (below_step (by repeat (first|exact gB HB|refine below_set ?_ (IsS66.ge HI0.out)|refine below_set ?_ GE445.out)) hb);clear HO_3;clear BK445;clear HI0;clear HK;clear HB;have HO_3:=n0_;have HO464:=n1_;have BK445:=n2_;have HI0:=n3_;have HK:=n4_;have HB:=n5_;clear n0_ n1_ n2_ n3_ n4_ n5_;clear hb ho56;obtain ⟨Ao57,co57,eo57⟩:=Kd.R_slice HO464.out;subst eo57)|((with_reducible refine gate_callee (f:=49) rfl ?_);refine goesL_ (some 32) rfl rfl Try.func49 (by kernel_rfl) rfl #[.pointer (some ⟨g,0,none⟩),.slice Ao57 y462.length co57] rfl (by (try simp only [List.map_toArray,List.map_cons,List.map_nil]);first|done|rfl|(simp only [List.length_drop,List.length_take];rfl)) ?_;(with_reducible refine (spec_l15Rd_num.calls kj6 g s0_0 x1001_6 _ _ y462 t465 t466 w0 _ ?side1 ?side2 ?side3 ?side4 ?side5 A33.out).mono ?_);(case side1=>repeat (first|(with_reducible first|exact HI0.out|apply IsS66.alloc|apply IsS66.drewN|apply IsS66.drew|apply IsS66.set_1|refine IsS66.far ?_ NB0_445.out _)|exact HI0.out));(case side2=>repeat (first|exact gB HB|refine below_set ?_ (IsS66.ge HI0.out)|refine below_set ?_ GE445.out));(case side3=>exact gC ((Kd.R_reads' HO464.out).2.2));(case side4=>exact (Kd.R_reads' HO464.out).2.1);(case side5=>exact far_slice (IsS66.own_ne HI0.out HO464.out (by decide)));rintro e w58 ⟨rfl,hi,hb,hk⟩;refine ⟨_,rfl,?_⟩;have n0_:=Aside0.mk (Kd.R_mono (Kd.R_keep (IsS66.apart (show IsS66 w0 _ g s0_0 x1001_6 from by repeat (first|(with_reducible first|exact HI0.out|apply IsS66.alloc|apply IsS66.drewN|apply IsS66.drew|apply IsS66.set_1|refine IsS66.far ?_ NB0_445.out _)|exact HI0.out)) (gR HO_3) (by decide)) hk (fun _ h=>h.2)) (fun _ h=>h.1));have n1_:=Aside0.mk (KeepBut.blk hk (g':=gb445) (o:=.cells #[.int .i64 x446000_6,.int .i64 x446001_6,.string x446002_6,.slice none 0 0] 27 (0,0)) (gK BK445) NB445_0.out (by simp));have n2_:=Aside0.mk (Kd.R_mono (Kd.R_keep (IsS66.apart (show IsS66 w0 _ g s0_0 x1001_6 from by repeat (first|(with_reducible first|exact HI0.out|apply IsS66.alloc|apply IsS66.drewN|apply IsS66.drew|apply IsS66.set_1|refine IsS66.far ?_ NB0_445.out _)|exact HI0.out)) (gR HO464) (by decide)) hk (fun _ h=>h.2)) (fun _ h=>h.1));have n3_:=Aside0.mk (KeepBut.trans (by repeat (first|exact gW HK|apply KeepBut.set_|refine keep_far ?_ GW445.out _)) hk (.inl rfl));have n4_:=Aside0.mk (hb);have n5_:=Aside0.mk (hi);clear HO_3;clear BK445;clear HO464;clear HK;clear HB;clear HI0;have HO_3:=n0_;have BK445:=n1_;have HO464:=n2_;have HK:=n3_;have HB:=n4_;have HI0:=n5_;clear n0_ n1_ n2_ n3_ n4_ n5_;(try clear hb);(try clear hb2);(try clear hk);(try clear hi))|((with_reducible refine gate_callee (f:=72) rfl ?_);refine goesL_ (some 33) rfl rfl Try.func72 (by kernel_rfl) rfl #[.pointer (some ⟨g,0,none⟩),.int .i64 t465] rfl (by (try simp only [List.map_toArray,List.map_cons,List.map_nil]);first|done|rfl|(simp only [List.length_drop,List.length_take];rfl)) ?_;(with_reducible refine (spec_l1Some.calls kj6 g s0_0 t466 t465 t467 t468 t469 t470 t473 w0 _ ?side1 ?side2 A34.out).mono ?_);(case side1=>repeat (first|(with_reducible first|exact HI0.out|apply IsS66.alloc|apply IsS66.drewN|apply IsS66.drew|apply IsS66.set_1|refine IsS66.far ?_ NB0_445.out _)|exact HI0.out));(case side2=>repeat (first|exact gB HB|refine below_set ?_ (IsS66.ge HI0.out)|refine below_set ?_ GE445.out));rintro e w59 ⟨v471,rfl,ho0,hi,hb,hk⟩;refine ⟨_,rfl,?_⟩;have n0_:=Aside0.mk (Kd.R_mono (Kd.R_keep (IsS66.apart (show IsS66 w0 _ g s0_0 t466 from by repeat (first|(with_reducible first|exact HI0.out|apply IsS66.alloc|apply IsS66.drewN|apply IsS66.drew|apply IsS66.set_1|refine IsS66.far ?_ NB0_445.out _)|exact HI0.out)) (gR HO_3) (by decide)) hk (fun _ h=>h.2)) (fun _ h=>h.1));have n1_:=Aside0.mk (KeepBut.blk hk (g':=gb445) (o:=.cells #[.int .i64 x446000_6,.int .i64 x446001_6,.string x446002_6,.slice none 0 0] 27 (0,0)) (gK BK445) NB445_0.out (by simp));have n2_:=Aside0.mk (Kd.R_mono (Kd.R_keep (IsS66.apart (show IsS66 w0 _ g s0_0 t466 from by repeat (first|(with_reducible first|exact HI0.out|apply IsS66.alloc|apply IsS66.drewN|apply IsS66.drew|apply IsS66.set_1|refine IsS66.far ?_ NB0_445.out _)|exact HI0.out)) (gR HO464) (by decide)) hk (fun _ h=>h.2)) (fun _ h=>h.1));have n3_:=Aside0.mk (Kd.N_lower (Kd.N_mono (ok':=fun k_=>(w.heap.size≤k_)∧some k_ ≠ (v447:Value).ownBlock∧some k_ ≠ (.slice Ao57 y462.length co57:Value).ownBlock∧k_ ≠ gb445∧k_ ≠ g) ho0 (fun k_ hk_=>⟨(Nat.le_trans (keep_size (w:=w) (g:=g) (row:=none) (by repeat (first|exact gW HK|apply KeepBut.set_|refine keep_far ?_ GW445.out _))) hk_),(Kd.fresh' (Kd.R_lt (gR HO_3)) k_ hk_),(Kd.fresh' (Kd.R_lt (gR HO464)) k_ hk_),(Kd.freshB (g:=gb445) (o:=.cells #[.int .i64 x446000_6,.int .i64 x446001_6,.string x446002_6,.slice none 0 0] 27 (0,0)) (gK BK445) k_ hk_),(IsS66.fresh (by repeat (first|(with_reducible first|exact HI0.out|apply IsS66.alloc|apply IsS66.drewN|apply IsS66.drew|apply IsS66.set_1|refine IsS66.far ?_ NB0_445.out _)|exact HI0.out)) k_ hk_)⟩)) (keep_size (w:=w) (g:=g) (row:=none) (by repeat (first|exact gW HK|apply KeepBut.set_|refine keep_far ?_ GW445.out _))));have n4_:=Aside0.mk (KeepBut.trans (by repeat (first|exact gW HK|apply KeepBut.set_|refine keep_far ?_ GW445.out _)) hk (.inl rfl));have n5_:=Aside0.mk (hb);have n6_:=Aside0.mk (hi);clear HO_3;clear BK445;clear HO464;clear HK;clear HB;clear HI0;have HO_3:=n0_;have BK445:=n1_;have HO464:=n2_;have HO472:=n3_;have HK:=n4_;have HB:=n5_;have HI0:=n6_;clear n0_ n1_ n2_ n3_ n4_ n5_ n6_;(try clear hb);(try clear hb2);(try clear hk);(try clear hi);(try clear ho0))|((with_reducible refine gate_dst (N:=7) rfl ?_);refine box_event ?hg (N:=7) ?hd (cs:=#[.int .i64 0,.int .i64 0,.string (⟨#[]⟩:ByteArray),.slice none 0 0]) (t:=27) ?hr ?_;(case hd=>rfl);(case hg=>rfl);(case hr=>first|(go_simp;done)|(go_simp;rfl));intro gb474 hg w60 hbox hb;have n0_:=Aside0.mk (Kd.R_below (gR HO_3) hb);have n1_:=Aside0.mk (Kd.R_below (gR HO464) hb);have n2_:=Aside0.mk (Kd.N_below (Kd.N_elderB (gN HO472) gb474 (Nat.le_of_eq hg.symm)) hb);have n3_:=Aside0.mk (blk_below (g:=gb445) (o:=.cells #[.int .i64 x446000_6,.int .i64 x446001_6,.string x446002_6,.slice none 0 0] 27 (0,0)) (gK BK445) hb);have n4_:=Aside0.mk (IsS66.below (by repeat (first|(with_reducible first|exact HI0.out|apply IsS66.alloc|apply IsS66.drewN|apply IsS66.drew|apply IsS66.set_1|refine IsS66.far ?_ NB0_445.out _)|exact HI0.out)) hb);have n5_:=Aside0.mk (KeepBut.trans (by repeat (first|exact gW HK|apply KeepBut.set_|refine keep_far ?_ GW445.out _)) (KeepBut.of_below hb g none) (.inl rfl));have n6_:=Aside0.mk (below_step (by repeat (first|exact gB HB|refine below_set ?_ (IsS66.ge HI0.out)|refine below_set ?_ GE445.out)) hb);have n7_:=Aside0.mk (hbox);have n8_:=Aside0.mk ((by rw [hg];exact (keep_size (w:=w) (g:=g) (row:=none) (by repeat (first|exact gW HK|apply KeepBut.set_|refine keep_far ?_ GW445.out _))):w.heap.size≤gb474));have n9_:=Aside0.mk ((Nat.le_trans HW0.out (by rw [hg];exact (keep_size (w:=w) (g:=g) (row:=none) (by repeat (first|exact gW HK|apply KeepBut.set_|refine keep_far ?_ GW445.out _))):w.heap.size≤gb474):w0.heap.size≤gb474));have n10_:=Aside0.mk ((by rw [hg];exact Nat.ne_of_lt (blk_lt (g:=gb445) (o:=.cells #[.int .i64 x446000_6,.int .i64 x446001_6,.string x446002_6,.slice none 0 0] 27 (0,0)) (gK BK445)):gb445 ≠ gb474));have n11_:=Aside0.mk ((by rw [hg];exact Nat.ne_of_gt (blk_lt (g:=gb445) (o:=.cells #[.int .i64 x446000_6,.int .i64 x446001_6,.string x446002_6,.slice none 0 0] 27 (0,0)) (gK BK445)):gb474 ≠ gb445));have n12_:=Aside0.mk ((by rw [hg];exact Nat.ne_of_lt (IsS66.lt (show IsS66 w0 _ g s0_0 t473 from by repeat (first|(with_reducible first|exact HI0.out|apply IsS66.alloc|apply IsS66.drewN|apply IsS66.drew|apply IsS66.set_1|refine IsS66.far ?_ NB0_445.out _)|exact HI0.out))):g ≠ gb474));have n13_:=Aside0.mk ((by rw [hg];exact Nat.ne_of_gt (IsS66.lt (show IsS66 w0 _ g s0_0 t473 from by repeat (first|(with_reducible first|exact HI0.out|apply IsS66.alloc|apply IsS66.drewN|apply IsS66.drew|apply IsS66.set_1|refine IsS66.far ?_ NB0_445.out _)|exact HI0.out))):gb474 ≠ g));clear HO_3;clear HO464;clear HO472;clear BK445;clear HI0;clear HK;clear HB;have HO_3:=n0_;have HO464:=n1_;have HO472:=n2_;have BK445:=n3_;have HI0:=n4_;have HK:=n5_;have HB:=n6_;have BK474:=n7_;have GW474:=n8_;have GE474:=n9_;have NB445_474:=n10_;have NB474_445:=n11_;have NB0_474:=n12_;have NB474_0:=n13_;clear n0_ n1_ n2_ n3_ n4_ n5_ n6_ n7_ n8_ n9_ n10_ n11_ n12_ n13_;clear hb hbox hg;have hnb61:=NB474_445.out;have hnc61:=NB445_474.out;have hnb62:=NB474_0.out;have hnc62:=NB0_474.out;have hcz63_0:w60.cell? ⟨gb474,0,none⟩=some (.int .i64 0):=(blk_cell BK474.out 0).trans rfl;have hcz63_1:w60.cell? ⟨gb474,1,none⟩=some (.int .i64 0):=(blk_cell BK474.out 1).trans rfl;have hcz63_2:w60.cell? ⟨gb474,2,none⟩=some (.string (⟨#[]⟩:ByteArray)):=(blk_cell BK474.out 2).trans rfl;have hcz63_3:w60.cell? ⟨gb474,3,none⟩=some (.slice none 0 0):=(blk_cell BK474.out 3).trans rfl;have hfz63_0:=blk_frozen BK474.out 0;have hfz63_1:=blk_frozen BK474.out 1;have hfz63_2:=blk_frozen BK474.out 2;have hfz63_3:=blk_frozen BK474.out 3;obtain ⟨Ao64,co64,eo64⟩:=Kd.N_slice HO472.out;subst eo64)|((with_reducible refine gate_callee (f:=25) rfl ?_);refine goesL_ (some 35) rfl rfl Try.func25 (by kernel_rfl) rfl #[.agg #[.int .i64 t467,.int .i64 t468,.string t469,.slice Ao64 t470.length co64]] rfl (by (try simp only [List.map_toArray,List.map_cons,List.map_nil]);first|done|rfl|(simp only [List.length_drop,List.length_take];rfl)) ?_;(with_reducible refine (spec_DocValid.calls kj6 t467 t468 t469 _ _ t470 true _ ?side1 ?side2 A35.out).mono ?_);(case side1=>exact (Kd.N_reads' (e:=27) (base:=w.heap.size) (n:=t470.length) (c:=co64) (by (with_reducible repeat (first|apply Kd.N_alloc|apply Kd.N_drewN|apply Kd.N_drew));exact (Kd.N_mono (Kd.N_far (p:=⟨gb474,3,none⟩) (Kd.N_far (p:=⟨gb474,2,none⟩) (Kd.N_far (p:=⟨gb474,1,none⟩) (Kd.N_far (p:=⟨gb474,0,none⟩) (Kd.N_mono HO472.out (fun k_ hk=>(⟨hk,hk.2⟩:_∧k_ ≠ gb474))) (fun _ hk=>hk.2) (.int .i64 t467)) (fun _ hk=>hk.2) (.int .i64 t468)) (fun _ hk=>hk.2) (.string t469)) (fun _ hk=>hk.2) (.slice Ao64 t470.length co64)) (fun _ h_=>h_.1)))).2.2);(case side2=>exact (Kd.N_reads' HO472.out).2.1);rintro e w65 ⟨rfl,hb⟩;refine ⟨_,rfl,?_⟩;have n0_:=Aside0.mk (Kd.R_below (by (with_reducible repeat (first|apply Kd.R_alloc|apply Kd.R_drewN|apply Kd.R_drew));exact (Kd.R_mono (Kd.R_far (p:=⟨gb474,3,none⟩) (Kd.R_far (p:=⟨gb474,2,none⟩) (Kd.R_far (p:=⟨gb474,1,none⟩) (Kd.R_far (p:=⟨gb474,0,none⟩) (Kd.R_types HO_3.out BK474.out (by decide)) (fun _ hk=>hk.2) (.int .i64 t467)) (fun _ hk=>hk.2) (.int .i64 t468)) (fun _ hk=>hk.2) (.string t469)) (fun _ hk=>hk.2) (.slice Ao64 t470.length co64)) (fun _ h_=>h_.1))) hb);have n1_:=Aside0.mk (Kd.R_below (by (with_reducible repeat (first|apply Kd.R_alloc|apply Kd.R_drewN|apply Kd.R_drew));exact (Kd.R_mono (Kd.R_far (p:=⟨gb474,3,none⟩) (Kd.R_far (p:=⟨gb474,2,none⟩) (Kd.R_far (p:=⟨gb474,1,none⟩) (Kd.R_far (p:=⟨gb474,0,none⟩) (Kd.R_types HO464.out BK474.out (by decide)) (fun _ hk=>hk.2) (.int .i64 t467)) (fun _ hk=>hk.2) (.int .i64 t468)) (fun _ hk=>hk.2) (.string t469)) (fun _ hk=>hk.2) (.slice Ao64 t470.length co64)) (fun _ h_=>h_.1))) hb);have n2_:=Aside0.mk (Kd.N_below (by (with_reducible repeat (first|apply Kd.N_alloc|apply Kd.N_drewN|apply Kd.N_drew));exact (Kd.N_mono (Kd.N_far (p:=⟨gb474,3,none⟩) (Kd.N_far (p:=⟨gb474,2,none⟩) (Kd.N_far (p:=⟨gb474,1,none⟩) (Kd.N_far (p:=⟨gb474,0,none⟩) (Kd.N_mono HO472.out (fun k_ hk=>(⟨hk,hk.2⟩:_∧k_ ≠ gb474))) (fun _ hk=>hk.2) (.int .i64 t467)) (fun _ hk=>hk.2) (.int .i64 t468)) (fun _ hk=>hk.2) (.string t469)) (fun _ hk=>hk.2) (.slice Ao64 t470.length co64)) (fun _ h_=>h_.1))) hb);have n3_:=Aside0.mk (blk_below (g:=gb445) (o:=.cells #[.int .i64 x446000_6,.int .i64 x446001_6,.string x446002_6,.slice none 0 0] 27 (0,0)) (by (with_reducible repeat (first|refine blk_drewN ?_ _|refine blk_drew ?_|refine blk_alloc ?_ _));refine blk_far ?_ NB445_474.out _;(with_reducible repeat (first|refine blk_drewN ?_ _|refine blk_drew ?_|refine blk_alloc ?_ _));refine blk_far ?_ NB445_474.out _;(with_reducible repeat (first|refine blk_drewN ?_ _|refine blk_drew ?_|refine blk_alloc ?_ _));refine blk_far ?_ NB445_474.out _;(with_reducible repeat (first|refine blk_drewN ?_ _|refine blk_drew ?_|refine blk_alloc ?_ _));refine blk_far ?_ NB445_474.out _;(with_reducible repeat (first|refine blk_drewN ?_ _|refine blk_drew ?_|refine blk_alloc ?_ _));exact BK445.out) hb);have n4_:=Aside0.mk (IsS66.below (show IsS66 w0 ((((w60.setCell ⟨gb474,0,none⟩ (.int .i64 t467)).setCell ⟨gb474,1,none⟩ (.int .i64 t468)).setCell ⟨gb474,2,none⟩ (.string t469)).setCell ⟨gb474,3,none⟩ (.slice Ao64 t470.length co64)) g s0_0 t473 from by repeat (first|(with_reducible first|exact HI0.out|apply IsS66.alloc|apply IsS66.drewN|apply IsS66.drew|apply IsS66.set_1|refine IsS66.far ?_ NB0_445.out _|refine IsS66.far ?_ NB0_474.out _)|exact HI0.out)) hb);have n5_:=Aside0.mk (blk_below (g:=gb474) (o:=.cells #[.int .i64 t467,.int .i64 t468,.string t469,.slice Ao64 t470.length co64] 27 (0,0)) (by (with_reducible repeat (first|refine blk_drewN ?_ _|refine blk_drew ?_|refine blk_alloc ?_ _));refine blk_put (cs:=#[.int .i64 t467,.int .i64 t468,.string t469,.slice none 0 0]) ?_ 3 _ rfl;(with_reducible repeat (first|refine blk_drewN ?_ _|refine blk_drew ?_|refine blk_alloc ?_ _));refine blk_put (cs:=#[.int .i64 t467,.int .i64 t468,.string (⟨#[]⟩:ByteArray),.slice none 0 0]) ?_ 2 _ rfl;(with_reducible repeat (first|refine blk_drewN ?_ _|refine blk_drew ?_|refine blk_alloc ?_ _));refine blk_put (cs:=#[.int .i64 t467,.int .i64 0,.string (⟨#[]⟩:ByteArray),.slice none 0 0]) ?_ 1 _ rfl;(with_reducible repeat (first|refine blk_drewN ?_ _|refine blk_drew ?_|refine blk_alloc ?_ _));refine blk_put (cs:=#[.int .i64 0,.int .i64 0,.string (⟨#[]⟩:ByteArray),.slice none 0 0]) ?_ 0 _ rfl;(with_reducible repeat (first|refine blk_drewN ?_ _|refine blk_drew ?_|refine blk_alloc ?_ _));exact BK474.out) hb);have n6_:=Aside0.mk (KeepBut.trans (by repeat (first|exact gW HK|apply KeepBut.set_|refine keep_far ?_ GW445.out _|refine keep_far ?_ GW474.out _)) (KeepBut.of_below hb g none) (.inl rfl));have n7_:=Aside0.mk (below_step (by repeat (first|exact gB HB|refine below_set ?_ (IsS66.ge HI0.out)|refine below_set ?_ GE445.out|refine below_set ?_ GE474.out)) hb);clear HO_3;clear HO464;clear HO472;clear BK445;clear HI0;clear BK474;clear HK;clear HB;have HO_3:=n0_;have HO464:=n1_;have HO472:=n2_;have BK445:=n3_;have HI0:=n4_;have BK474:=n5_;have HK:=n6_;have HB:=n7_;clear n0_ n1_ n2_ n3_ n4_ n5_ n6_ n7_;(try clear hb);(try clear hb2);(try clear hk);(try clear hi);have hcz66_0:w65.cell? ⟨gb474,0,none⟩=some (.int .i64 t467):=(blk_cell BK474.out 0).trans rfl;have hcz66_1:w65.cell? ⟨gb474,1,none⟩=some (.int .i64 t468):=(blk_cell BK474.out 1).trans rfl;have hcz66_2:w65.cell? ⟨gb474,2,none⟩=some (.string t469):=(blk_cell BK474.out 2).trans rfl;have hcz66_3:w65.cell? ⟨gb474,3,none⟩=some (.slice Ao64 t470.length co64):=(blk_cell BK474.out 3).trans rfl;have hfz66_0:=blk_frozen BK474.out 0;have hfz66_1:=blk_frozen BK474.out 1;have hfz66_2:=blk_frozen BK474.out 2;have hfz66_3:=blk_frozen BK474.out 3)|(go_at_call 54;(with_reducible refine (spec_l1Count.calls kj6 t467 t468 t469 _ _ t470 t476 _ ?side1 ?side2 A37.out).mono ?_);(case side1=>exact gC ((Kd.N_reads' HO472.out).2.2));(case side2=>exact (Kd.N_reads' HO472.out).2.1);rintro e w67 ⟨rfl,hb⟩;have n0_:=Aside0.mk (Kd.R_below (gR HO_3) hb);have n1_:=Aside0.mk (Kd.R_below (gR HO464) hb);have n2_:=Aside0.mk (Kd.N_below (gN HO472) hb);have n3_:=Aside0.mk (blk_below (g:=gb445) (o:=.cells #[.int .i64 x446000_6,.int .i64 x446001_6,.string x446002_6,.slice none 0 0] 27 (0,0)) (gK BK445) hb);have n4_:=Aside0.mk (IsS66.below (by repeat (first|(with_reducible first|exact HI0.out|apply IsS66.alloc|apply IsS66.drewN|apply IsS66.drew|apply IsS66.set_1|refine IsS66.far ?_ NB0_445.out _|refine IsS66.far ?_ NB0_474.out _)|exact HI0.out)) hb);have n5_:=Aside0.mk (blk_below (g:=gb474) (o:=.cells #[.int .i64 t467,.int .i64 t468,.string t469,.slice Ao64 t470.length co64] 27 (0,0)) (gK BK474) hb);have n6_:=Aside0.mk (KeepBut.trans (by repeat (first|exact gW HK|apply KeepBut.set_|refine keep_far ?_ GW445.out _|refine keep_far ?_ GW474.out _)) (KeepBut.of_below hb g none) (.inl rfl));have n7_:=Aside0.mk (below_step (by repeat (first|exact gB HB|refine below_set ?_ (IsS66.ge HI0.out)|refine below_set ?_ GE445.out|refine below_set ?_ GE474.out)) hb);clear HO_3;clear HO464;clear HO472;clear BK445;clear HI0;clear BK474;clear HK;clear HB;have HO_3:=n0_;have HO464:=n1_;have HO472:=n2_;have BK445:=n3_;have HI0:=n4_;have BK474:=n5_;have HK:=n6_;have HB:=n7_;clear n0_ n1_ n2_ n3_ n4_ n5_ n6_ n7_;(try clear hb);(try clear hb2);(try clear hk);(try clear hi)))
        go_roundg kj6
        case measure=>have:=HK1.out;have:=HJ6.out;omega
        case rel=>exact ⟨(wrap64 (x4_1+1)),(t473),(x446000_6),(x446001_6),(x446002_6),(by first|rfl|(simp;done)|(simp [*];done)),H',⟨by have:=HK1.out;have:=HJ6.out;omega⟩,⟨gR HO_3⟩,⟨gK BK445⟩,⟨by repeat (first|(with_reducible first|exact HI0.out|apply IsS66.alloc|apply IsS66.drewN|apply IsS66.drew|apply IsS66.set_1|refine IsS66.far ?_ NB0_445.out _|refine IsS66.far ?_ NB0_474.out _)|exact HI0.out)⟩,⟨by repeat (first|exact gW HK|apply KeepBut.set_|refine keep_far ?_ GW445.out _|refine keep_far ?_ GW474.out _)⟩,⟨by repeat (first|exact gB HB|refine below_set ?_ (IsS66.ge HI0.out)|refine below_set ?_ GE445.out|refine below_set ?_ GE474.out)⟩⟩
      ·replace c36:=Bool.eq_false_iff.mpr c36
       subst c36
       have H1:(spec_l1Draw.l0 kj6 y446 (wrap64 (x4_1+1)) s0_0 t473)=some (r1,r2,r3,r4,r5):=by rw [if_neg (show ¬ (false=true) by decide)] at H;exact H
       clear H
       have H:=H1
       clear H1
       have H':=Aside0.mk H
       clear H
       go_wp2_with (first|((with_reducible refine gate_dst (N:=31) rfl ?_);refine Kd.R_lit (Kd.int .i64) _ 3 ?hg (N:=31) ?hd (xs:=([4,3,5,2]:List Int)) (inner:=[.int .i64 4,.int .i64 3,.int .i64 5,.int .i64 2]) (ok:=fun _=>True) (okp:=fun _=>True) ?hr ?hp (fun _ hk=>hk) trivial (Below.refl _ _) (Nat.le_refl _) (by simp) ?_;(case hd=>rfl);(case hg=>rfl);(case hr=>first|(go_simp;done)|(go_simp;rfl));(case hp=>exact (Reps.one (show Kd.M (Kd.int .i64) _ _ _ 4 [.int .i64 4] from rfl) (Reps.one (show Kd.M (Kd.int .i64) _ _ _ 3 [.int .i64 3] from rfl) (Reps.one (show Kd.M (Kd.int .i64) _ _ _ 5 [.int .i64 5] from rfl) (Reps.one (show Kd.M (Kd.int .i64) _ _ _ 2 [.int .i64 2] from rfl) (Reps.none _ _))))));intro v463 w68 ho69 hb hg_ hnew_;clear hg_ hnew_;(first|rw [← Ny462.out] at ho69|(simp only [Int.reduceToNat] at ho69;rw [← Ny462.out] at ho69));have n0_:=Aside0.mk (Kd.R_below (gR HO_3) hb);have n1_:=Aside0.mk (Kd.R_lower (Kd.R_newM (M:=fun k_=>(w.heap.size≤k_)) ho69 (keep_size (w:=w) (g:=g) (row:=none) (by repeat (first|exact gW HK|apply KeepBut.set_|refine keep_far ?_ GW445.out _))) (fun k_ h_=>h_)) (keep_size (w:=w) (g:=g) (row:=none) (by repeat (first|exact gW HK|apply KeepBut.set_|refine keep_far ?_ GW445.out _))));have n2_:=Aside0.mk (blk_below (g:=gb445) (o:=.cells #[.int .i64 x446000_6,.int .i64 x446001_6,.string x446002_6,.slice none 0 0] 27 (0,0)) (gK BK445) hb);have n3_:=Aside0.mk (IsS66.below (by repeat (first|(with_reducible first|exact HI0.out|apply IsS66.alloc|apply IsS66.drewN|apply IsS66.drew|apply IsS66.set_1|refine IsS66.far ?_ NB0_445.out _)|exact HI0.out)) hb);have n4_:=Aside0.mk (KeepBut.trans (by repeat (first|exact gW HK|apply KeepBut.set_|refine keep_far ?_ GW445.out _)) (KeepBut.of_below hb g none) (.inl rfl));have n5_:=Aside0.mk (below_step (by repeat (first|exact gB HB|refine below_set ?_ (IsS66.ge HI0.out)|refine below_set ?_ GE445.out)) hb);clear HO_3;clear BK445;clear HI0;clear HK;clear HB;have HO_3:=n0_;have HO464:=n1_;have BK445:=n2_;have HI0:=n3_;have HK:=n4_;have HB:=n5_;clear n0_ n1_ n2_ n3_ n4_ n5_;clear hb ho69;obtain ⟨Ao70,co70,eo70⟩:=Kd.R_slice HO464.out;subst eo70)|((with_reducible refine gate_callee (f:=49) rfl ?_);refine goesL_ (some 32) rfl rfl Try.func49 (by kernel_rfl) rfl #[.pointer (some ⟨g,0,none⟩),.slice Ao70 y462.length co70] rfl (by (try simp only [List.map_toArray,List.map_cons,List.map_nil]);first|done|rfl|(simp only [List.length_drop,List.length_take];rfl)) ?_;(with_reducible refine (spec_l15Rd_num.calls kj6 g s0_0 x1001_6 _ _ y462 t465 t466 w0 _ ?side1 ?side2 ?side3 ?side4 ?side5 A33.out).mono ?_);(case side1=>repeat (first|(with_reducible first|exact HI0.out|apply IsS66.alloc|apply IsS66.drewN|apply IsS66.drew|apply IsS66.set_1|refine IsS66.far ?_ NB0_445.out _)|exact HI0.out));(case side2=>repeat (first|exact gB HB|refine below_set ?_ (IsS66.ge HI0.out)|refine below_set ?_ GE445.out));(case side3=>exact gC ((Kd.R_reads' HO464.out).2.2));(case side4=>exact (Kd.R_reads' HO464.out).2.1);(case side5=>exact far_slice (IsS66.own_ne HI0.out HO464.out (by decide)));rintro e w71 ⟨rfl,hi,hb,hk⟩;refine ⟨_,rfl,?_⟩;have n0_:=Aside0.mk (Kd.R_mono (Kd.R_keep (IsS66.apart (show IsS66 w0 _ g s0_0 x1001_6 from by repeat (first|(with_reducible first|exact HI0.out|apply IsS66.alloc|apply IsS66.drewN|apply IsS66.drew|apply IsS66.set_1|refine IsS66.far ?_ NB0_445.out _)|exact HI0.out)) (gR HO_3) (by decide)) hk (fun _ h=>h.2)) (fun _ h=>h.1));have n1_:=Aside0.mk (KeepBut.blk hk (g':=gb445) (o:=.cells #[.int .i64 x446000_6,.int .i64 x446001_6,.string x446002_6,.slice none 0 0] 27 (0,0)) (gK BK445) NB445_0.out (by simp));have n2_:=Aside0.mk (Kd.R_mono (Kd.R_keep (IsS66.apart (show IsS66 w0 _ g s0_0 x1001_6 from by repeat (first|(with_reducible first|exact HI0.out|apply IsS66.alloc|apply IsS66.drewN|apply IsS66.drew|apply IsS66.set_1|refine IsS66.far ?_ NB0_445.out _)|exact HI0.out)) (gR HO464) (by decide)) hk (fun _ h=>h.2)) (fun _ h=>h.1));have n3_:=Aside0.mk (KeepBut.trans (by repeat (first|exact gW HK|apply KeepBut.set_|refine keep_far ?_ GW445.out _)) hk (.inl rfl));have n4_:=Aside0.mk (hb);have n5_:=Aside0.mk (hi);clear HO_3;clear BK445;clear HO464;clear HK;clear HB;clear HI0;have HO_3:=n0_;have BK445:=n1_;have HO464:=n2_;have HK:=n3_;have HB:=n4_;have HI0:=n5_;clear n0_ n1_ n2_ n3_ n4_ n5_;(try clear hb);(try clear hb2);(try clear hk);(try clear hi))|((with_reducible refine gate_callee (f:=72) rfl ?_);refine goesL_ (some 33) rfl rfl Try.func72 (by kernel_rfl) rfl #[.pointer (some ⟨g,0,none⟩),.int .i64 t465] rfl (by (try simp only [List.map_toArray,List.map_cons,List.map_nil]);first|done|rfl|(simp only [List.length_drop,List.length_take];rfl)) ?_;(with_reducible refine (spec_l1Some.calls kj6 g s0_0 t466 t465 t467 t468 t469 t470 t473 w0 _ ?side1 ?side2 A34.out).mono ?_);(case side1=>repeat (first|(with_reducible first|exact HI0.out|apply IsS66.alloc|apply IsS66.drewN|apply IsS66.drew|apply IsS66.set_1|refine IsS66.far ?_ NB0_445.out _)|exact HI0.out));(case side2=>repeat (first|exact gB HB|refine below_set ?_ (IsS66.ge HI0.out)|refine below_set ?_ GE445.out));rintro e w72 ⟨v471,rfl,ho0,hi,hb,hk⟩;refine ⟨_,rfl,?_⟩;have n0_:=Aside0.mk (Kd.R_mono (Kd.R_keep (IsS66.apart (show IsS66 w0 _ g s0_0 t466 from by repeat (first|(with_reducible first|exact HI0.out|apply IsS66.alloc|apply IsS66.drewN|apply IsS66.drew|apply IsS66.set_1|refine IsS66.far ?_ NB0_445.out _)|exact HI0.out)) (gR HO_3) (by decide)) hk (fun _ h=>h.2)) (fun _ h=>h.1));have n1_:=Aside0.mk (KeepBut.blk hk (g':=gb445) (o:=.cells #[.int .i64 x446000_6,.int .i64 x446001_6,.string x446002_6,.slice none 0 0] 27 (0,0)) (gK BK445) NB445_0.out (by simp));have n2_:=Aside0.mk (Kd.R_mono (Kd.R_keep (IsS66.apart (show IsS66 w0 _ g s0_0 t466 from by repeat (first|(with_reducible first|exact HI0.out|apply IsS66.alloc|apply IsS66.drewN|apply IsS66.drew|apply IsS66.set_1|refine IsS66.far ?_ NB0_445.out _)|exact HI0.out)) (gR HO464) (by decide)) hk (fun _ h=>h.2)) (fun _ h=>h.1));have n3_:=Aside0.mk (Kd.N_lower (Kd.N_mono (ok':=fun k_=>(w.heap.size≤k_)∧some k_ ≠ (v447:Value).ownBlock∧some k_ ≠ (.slice Ao70 y462.length co70:Value).ownBlock∧k_ ≠ gb445∧k_ ≠ g) ho0 (fun k_ hk_=>⟨(Nat.le_trans (keep_size (w:=w) (g:=g) (row:=none) (by repeat (first|exact gW HK|apply KeepBut.set_|refine keep_far ?_ GW445.out _))) hk_),(Kd.fresh' (Kd.R_lt (gR HO_3)) k_ hk_),(Kd.fresh' (Kd.R_lt (gR HO464)) k_ hk_),(Kd.freshB (g:=gb445) (o:=.cells #[.int .i64 x446000_6,.int .i64 x446001_6,.string x446002_6,.slice none 0 0] 27 (0,0)) (gK BK445) k_ hk_),(IsS66.fresh (by repeat (first|(with_reducible first|exact HI0.out|apply IsS66.alloc|apply IsS66.drewN|apply IsS66.drew|apply IsS66.set_1|refine IsS66.far ?_ NB0_445.out _)|exact HI0.out)) k_ hk_)⟩)) (keep_size (w:=w) (g:=g) (row:=none) (by repeat (first|exact gW HK|apply KeepBut.set_|refine keep_far ?_ GW445.out _))));have n4_:=Aside0.mk (KeepBut.trans (by repeat (first|exact gW HK|apply KeepBut.set_|refine keep_far ?_ GW445.out _)) hk (.inl rfl));have n5_:=Aside0.mk (hb);have n6_:=Aside0.mk (hi);clear HO_3;clear BK445;clear HO464;clear HK;clear HB;clear HI0;have HO_3:=n0_;have BK445:=n1_;have HO464:=n2_;have HO472:=n3_;have HK:=n4_;have HB:=n5_;have HI0:=n6_;clear n0_ n1_ n2_ n3_ n4_ n5_ n6_;(try clear hb);(try clear hb2);(try clear hk);(try clear hi);(try clear ho0))|((with_reducible refine gate_dst (N:=7) rfl ?_);refine box_event ?hg (N:=7) ?hd (cs:=#[.int .i64 0,.int .i64 0,.string (⟨#[]⟩:ByteArray),.slice none 0 0]) (t:=27) ?hr ?_;(case hd=>rfl);(case hg=>rfl);(case hr=>first|(go_simp;done)|(go_simp;rfl));intro gb474 hg w73 hbox hb;have n0_:=Aside0.mk (Kd.R_below (gR HO_3) hb);have n1_:=Aside0.mk (Kd.R_below (gR HO464) hb);have n2_:=Aside0.mk (Kd.N_below (Kd.N_elderB (gN HO472) gb474 (Nat.le_of_eq hg.symm)) hb);have n3_:=Aside0.mk (blk_below (g:=gb445) (o:=.cells #[.int .i64 x446000_6,.int .i64 x446001_6,.string x446002_6,.slice none 0 0] 27 (0,0)) (gK BK445) hb);have n4_:=Aside0.mk (IsS66.below (by repeat (first|(with_reducible first|exact HI0.out|apply IsS66.alloc|apply IsS66.drewN|apply IsS66.drew|apply IsS66.set_1|refine IsS66.far ?_ NB0_445.out _)|exact HI0.out)) hb);have n5_:=Aside0.mk (KeepBut.trans (by repeat (first|exact gW HK|apply KeepBut.set_|refine keep_far ?_ GW445.out _)) (KeepBut.of_below hb g none) (.inl rfl));have n6_:=Aside0.mk (below_step (by repeat (first|exact gB HB|refine below_set ?_ (IsS66.ge HI0.out)|refine below_set ?_ GE445.out)) hb);have n7_:=Aside0.mk (hbox);have n8_:=Aside0.mk ((by rw [hg];exact (keep_size (w:=w) (g:=g) (row:=none) (by repeat (first|exact gW HK|apply KeepBut.set_|refine keep_far ?_ GW445.out _))):w.heap.size≤gb474));have n9_:=Aside0.mk ((Nat.le_trans HW0.out (by rw [hg];exact (keep_size (w:=w) (g:=g) (row:=none) (by repeat (first|exact gW HK|apply KeepBut.set_|refine keep_far ?_ GW445.out _))):w.heap.size≤gb474):w0.heap.size≤gb474));have n10_:=Aside0.mk ((by rw [hg];exact Nat.ne_of_lt (blk_lt (g:=gb445) (o:=.cells #[.int .i64 x446000_6,.int .i64 x446001_6,.string x446002_6,.slice none 0 0] 27 (0,0)) (gK BK445)):gb445 ≠ gb474));have n11_:=Aside0.mk ((by rw [hg];exact Nat.ne_of_gt (blk_lt (g:=gb445) (o:=.cells #[.int .i64 x446000_6,.int .i64 x446001_6,.string x446002_6,.slice none 0 0] 27 (0,0)) (gK BK445)):gb474 ≠ gb445));have n12_:=Aside0.mk ((by rw [hg];exact Nat.ne_of_lt (IsS66.lt (show IsS66 w0 _ g s0_0 t473 from by repeat (first|(with_reducible first|exact HI0.out|apply IsS66.alloc|apply IsS66.drewN|apply IsS66.drew|apply IsS66.set_1|refine IsS66.far ?_ NB0_445.out _)|exact HI0.out))):g ≠ gb474));have n13_:=Aside0.mk ((by rw [hg];exact Nat.ne_of_gt (IsS66.lt (show IsS66 w0 _ g s0_0 t473 from by repeat (first|(with_reducible first|exact HI0.out|apply IsS66.alloc|apply IsS66.drewN|apply IsS66.drew|apply IsS66.set_1|refine IsS66.far ?_ NB0_445.out _)|exact HI0.out))):gb474 ≠ g));clear HO_3;clear HO464;clear HO472;clear BK445;clear HI0;clear HK;clear HB;have HO_3:=n0_;have HO464:=n1_;have HO472:=n2_;have BK445:=n3_;have HI0:=n4_;have HK:=n5_;have HB:=n6_;have BK474:=n7_;have GW474:=n8_;have GE474:=n9_;have NB445_474:=n10_;have NB474_445:=n11_;have NB0_474:=n12_;have NB474_0:=n13_;clear n0_ n1_ n2_ n3_ n4_ n5_ n6_ n7_ n8_ n9_ n10_ n11_ n12_ n13_;clear hb hbox hg;have hnb74:=NB474_445.out;have hnc74:=NB445_474.out;have hnb75:=NB474_0.out;have hnc75:=NB0_474.out;have hcz76_0:w73.cell? ⟨gb474,0,none⟩=some (.int .i64 0):=(blk_cell BK474.out 0).trans rfl;have hcz76_1:w73.cell? ⟨gb474,1,none⟩=some (.int .i64 0):=(blk_cell BK474.out 1).trans rfl;have hcz76_2:w73.cell? ⟨gb474,2,none⟩=some (.string (⟨#[]⟩:ByteArray)):=(blk_cell BK474.out 2).trans rfl;have hcz76_3:w73.cell? ⟨gb474,3,none⟩=some (.slice none 0 0):=(blk_cell BK474.out 3).trans rfl;have hfz76_0:=blk_frozen BK474.out 0;have hfz76_1:=blk_frozen BK474.out 1;have hfz76_2:=blk_frozen BK474.out 2;have hfz76_3:=blk_frozen BK474.out 3;obtain ⟨Ao77,co77,eo77⟩:=Kd.N_slice HO472.out;subst eo77)|((with_reducible refine gate_callee (f:=25) rfl ?_);refine goesL_ (some 35) rfl rfl Try.func25 (by kernel_rfl) rfl #[.agg #[.int .i64 t467,.int .i64 t468,.string t469,.slice Ao77 t470.length co77]] rfl (by (try simp only [List.map_toArray,List.map_cons,List.map_nil]);first|done|rfl|(simp only [List.length_drop,List.length_take];rfl)) ?_;(with_reducible refine (spec_DocValid.calls kj6 t467 t468 t469 _ _ t470 false _ ?side1 ?side2 A35.out).mono ?_);(case side1=>exact (Kd.N_reads' (e:=27) (base:=w.heap.size) (n:=t470.length) (c:=co77) (by (with_reducible repeat (first|apply Kd.N_alloc|apply Kd.N_drewN|apply Kd.N_drew));exact (Kd.N_mono (Kd.N_far (p:=⟨gb474,3,none⟩) (Kd.N_far (p:=⟨gb474,2,none⟩) (Kd.N_far (p:=⟨gb474,1,none⟩) (Kd.N_far (p:=⟨gb474,0,none⟩) (Kd.N_mono HO472.out (fun k_ hk=>(⟨hk,hk.2⟩:_∧k_ ≠ gb474))) (fun _ hk=>hk.2) (.int .i64 t467)) (fun _ hk=>hk.2) (.int .i64 t468)) (fun _ hk=>hk.2) (.string t469)) (fun _ hk=>hk.2) (.slice Ao77 t470.length co77)) (fun _ h_=>h_.1)))).2.2);(case side2=>exact (Kd.N_reads' HO472.out).2.1);rintro e w78 ⟨rfl,hb⟩;refine ⟨_,rfl,?_⟩;have n0_:=Aside0.mk (Kd.R_below (by (with_reducible repeat (first|apply Kd.R_alloc|apply Kd.R_drewN|apply Kd.R_drew));exact (Kd.R_mono (Kd.R_far (p:=⟨gb474,3,none⟩) (Kd.R_far (p:=⟨gb474,2,none⟩) (Kd.R_far (p:=⟨gb474,1,none⟩) (Kd.R_far (p:=⟨gb474,0,none⟩) (Kd.R_types HO_3.out BK474.out (by decide)) (fun _ hk=>hk.2) (.int .i64 t467)) (fun _ hk=>hk.2) (.int .i64 t468)) (fun _ hk=>hk.2) (.string t469)) (fun _ hk=>hk.2) (.slice Ao77 t470.length co77)) (fun _ h_=>h_.1))) hb);have n1_:=Aside0.mk (Kd.R_below (by (with_reducible repeat (first|apply Kd.R_alloc|apply Kd.R_drewN|apply Kd.R_drew));exact (Kd.R_mono (Kd.R_far (p:=⟨gb474,3,none⟩) (Kd.R_far (p:=⟨gb474,2,none⟩) (Kd.R_far (p:=⟨gb474,1,none⟩) (Kd.R_far (p:=⟨gb474,0,none⟩) (Kd.R_types HO464.out BK474.out (by decide)) (fun _ hk=>hk.2) (.int .i64 t467)) (fun _ hk=>hk.2) (.int .i64 t468)) (fun _ hk=>hk.2) (.string t469)) (fun _ hk=>hk.2) (.slice Ao77 t470.length co77)) (fun _ h_=>h_.1))) hb);have n2_:=Aside0.mk (Kd.N_below (by (with_reducible repeat (first|apply Kd.N_alloc|apply Kd.N_drewN|apply Kd.N_drew));exact (Kd.N_mono (Kd.N_far (p:=⟨gb474,3,none⟩) (Kd.N_far (p:=⟨gb474,2,none⟩) (Kd.N_far (p:=⟨gb474,1,none⟩) (Kd.N_far (p:=⟨gb474,0,none⟩) (Kd.N_mono HO472.out (fun k_ hk=>(⟨hk,hk.2⟩:_∧k_ ≠ gb474))) (fun _ hk=>hk.2) (.int .i64 t467)) (fun _ hk=>hk.2) (.int .i64 t468)) (fun _ hk=>hk.2) (.string t469)) (fun _ hk=>hk.2) (.slice Ao77 t470.length co77)) (fun _ h_=>h_.1))) hb);have n3_:=Aside0.mk (blk_below (g:=gb445) (o:=.cells #[.int .i64 x446000_6,.int .i64 x446001_6,.string x446002_6,.slice none 0 0] 27 (0,0)) (by (with_reducible repeat (first|refine blk_drewN ?_ _|refine blk_drew ?_|refine blk_alloc ?_ _));refine blk_far ?_ NB445_474.out _;(with_reducible repeat (first|refine blk_drewN ?_ _|refine blk_drew ?_|refine blk_alloc ?_ _));refine blk_far ?_ NB445_474.out _;(with_reducible repeat (first|refine blk_drewN ?_ _|refine blk_drew ?_|refine blk_alloc ?_ _));refine blk_far ?_ NB445_474.out _;(with_reducible repeat (first|refine blk_drewN ?_ _|refine blk_drew ?_|refine blk_alloc ?_ _));refine blk_far ?_ NB445_474.out _;(with_reducible repeat (first|refine blk_drewN ?_ _|refine blk_drew ?_|refine blk_alloc ?_ _));exact BK445.out) hb);have n4_:=Aside0.mk (IsS66.below (show IsS66 w0 ((((w73.setCell ⟨gb474,0,none⟩ (.int .i64 t467)).setCell ⟨gb474,1,none⟩ (.int .i64 t468)).setCell ⟨gb474,2,none⟩ (.string t469)).setCell ⟨gb474,3,none⟩ (.slice Ao77 t470.length co77)) g s0_0 t473 from by repeat (first|(with_reducible first|exact HI0.out|apply IsS66.alloc|apply IsS66.drewN|apply IsS66.drew|apply IsS66.set_1|refine IsS66.far ?_ NB0_445.out _|refine IsS66.far ?_ NB0_474.out _)|exact HI0.out)) hb);have n5_:=Aside0.mk (blk_below (g:=gb474) (o:=.cells #[.int .i64 t467,.int .i64 t468,.string t469,.slice Ao77 t470.length co77] 27 (0,0)) (by (with_reducible repeat (first|refine blk_drewN ?_ _|refine blk_drew ?_|refine blk_alloc ?_ _));refine blk_put (cs:=#[.int .i64 t467,.int .i64 t468,.string t469,.slice none 0 0]) ?_ 3 _ rfl;(with_reducible repeat (first|refine blk_drewN ?_ _|refine blk_drew ?_|refine blk_alloc ?_ _));refine blk_put (cs:=#[.int .i64 t467,.int .i64 t468,.string (⟨#[]⟩:ByteArray),.slice none 0 0]) ?_ 2 _ rfl;(with_reducible repeat (first|refine blk_drewN ?_ _|refine blk_drew ?_|refine blk_alloc ?_ _));refine blk_put (cs:=#[.int .i64 t467,.int .i64 0,.string (⟨#[]⟩:ByteArray),.slice none 0 0]) ?_ 1 _ rfl;(with_reducible repeat (first|refine blk_drewN ?_ _|refine blk_drew ?_|refine blk_alloc ?_ _));refine blk_put (cs:=#[.int .i64 0,.int .i64 0,.string (⟨#[]⟩:ByteArray),.slice none 0 0]) ?_ 0 _ rfl;(with_reducible repeat (first|refine blk_drewN ?_ _|refine blk_drew ?_|refine blk_alloc ?_ _));exact BK474.out) hb);have n6_:=Aside0.mk (KeepBut.trans (by repeat (first|exact gW HK|apply KeepBut.set_|refine keep_far ?_ GW445.out _|refine keep_far ?_ GW474.out _)) (KeepBut.of_below hb g none) (.inl rfl));have n7_:=Aside0.mk (below_step (by repeat (first|exact gB HB|refine below_set ?_ (IsS66.ge HI0.out)|refine below_set ?_ GE445.out|refine below_set ?_ GE474.out)) hb);clear HO_3;clear HO464;clear HO472;clear BK445;clear HI0;clear BK474;clear HK;clear HB;have HO_3:=n0_;have HO464:=n1_;have HO472:=n2_;have BK445:=n3_;have HI0:=n4_;have BK474:=n5_;have HK:=n6_;have HB:=n7_;clear n0_ n1_ n2_ n3_ n4_ n5_ n6_ n7_;(try clear hb);(try clear hb2);(try clear hk);(try clear hi)))
       go_roundg kj6
       case measure=>have:=HK1.out;have:=HJ6.out;omega
       case rel=>exact ⟨(wrap64 (x4_1+1)),(t473),(x446000_6),(x446001_6),(x446002_6),(by first|rfl|(simp;done)|(simp [*];done)),H',⟨by have:=HK1.out;have:=HJ6.out;omega⟩,⟨gR HO_3⟩,⟨gK BK445⟩,⟨by repeat (first|(with_reducible first|exact HI0.out|apply IsS66.alloc|apply IsS66.drewN|apply IsS66.drew|apply IsS66.set_1|refine IsS66.far ?_ NB0_445.out _|refine IsS66.far ?_ NB0_474.out _)|exact HI0.out)⟩,⟨by repeat (first|exact gW HK|apply KeepBut.set_|refine keep_far ?_ GW445.out _|refine keep_far ?_ GW474.out _)⟩,⟨by repeat (first|exact gB HB|refine below_set ?_ (IsS66.ge HI0.out)|refine below_set ?_ GE445.out|refine below_set ?_ GE474.out)⟩⟩
   ·rw [if_neg c5] at H
    have c5b0:decide (x4_1 < 3)=false:=decide_eq_false c5
    clear c5
    replace H:=Option.bind_eq_some_iff.mp H
    obtain ⟨⟨t477,t478,t479,t480,t483⟩,A790,H⟩:=H
    replace H:(some (t477,t478,t479,t480,t483))=some (r1,r2,r3,r4,r5):=H
    have A79:=Aside0.mk A790
    clear A790
    simp only [Option.some.injEq,Prod.mk.injEq] at H
    obtain ⟨rfl,rfl,rfl,rfl,rfl⟩:=H
    go_wp2_with (first|((with_reducible refine gate_callee (f:=72) rfl ?_);refine goesL_ (some 43) rfl rfl Try.func72 (by kernel_rfl) rfl #[.pointer (some ⟨g,0,none⟩),.int .i64 2] rfl (by (try simp only [List.map_toArray,List.map_cons,List.map_nil]);first|done|rfl|(simp only [List.length_drop,List.length_take];rfl)) ?_;(with_reducible refine (spec_l1Some.calls k1 g s0_0 x1001_1 2 t477 t478 t479 t480 t483 w0 _ ?side1 ?side2 A79.out).mono ?_);(case side1=>repeat (first|(with_reducible first|exact HI0.out|apply IsS66.alloc|apply IsS66.drewN|apply IsS66.drew|apply IsS66.set_1|refine IsS66.far ?_ NB0_445.out _)|exact HI0.out));(case side2=>repeat (first|exact gB HB|refine below_set ?_ (IsS66.ge HI0.out)|refine below_set ?_ GE445.out));rintro e w80 ⟨v481,rfl,ho0,hi,hb,hk⟩;refine ⟨_,rfl,?_⟩;have n0_:=Aside0.mk (Kd.R_mono (Kd.R_keep (IsS66.apart (show IsS66 w0 _ g s0_0 x1001_1 from by repeat (first|(with_reducible first|exact HI0.out|apply IsS66.alloc|apply IsS66.drewN|apply IsS66.drew|apply IsS66.set_1|refine IsS66.far ?_ NB0_445.out _)|exact HI0.out)) (gR HO_3) (by decide)) hk (fun _ h=>h.2)) (fun _ h=>h.1));have n1_:=Aside0.mk (KeepBut.blk hk (g':=gb445) (o:=.cells #[.int .i64 x446000_1,.int .i64 x446001_1,.string x446002_1,.slice none 0 0] 27 (0,0)) (gK BK445) NB445_0.out (by simp));have n2_:=Aside0.mk (Kd.N_lower (Kd.N_mono (ok':=fun k_=>(w.heap.size≤k_)∧some k_ ≠ (v447:Value).ownBlock∧k_ ≠ gb445∧k_ ≠ g) ho0 (fun k_ hk_=>⟨(Nat.le_trans (keep_size (w:=w) (g:=g) (row:=none) (by repeat (first|exact gW HK|apply KeepBut.set_|refine keep_far ?_ GW445.out _))) hk_),(Kd.fresh' (Kd.R_lt (gR HO_3)) k_ hk_),(Kd.freshB (g:=gb445) (o:=.cells #[.int .i64 x446000_1,.int .i64 x446001_1,.string x446002_1,.slice none 0 0] 27 (0,0)) (gK BK445) k_ hk_),(IsS66.fresh (by repeat (first|(with_reducible first|exact HI0.out|apply IsS66.alloc|apply IsS66.drewN|apply IsS66.drew|apply IsS66.set_1|refine IsS66.far ?_ NB0_445.out _)|exact HI0.out)) k_ hk_)⟩)) (keep_size (w:=w) (g:=g) (row:=none) (by repeat (first|exact gW HK|apply KeepBut.set_|refine keep_far ?_ GW445.out _))));have n3_:=Aside0.mk (KeepBut.trans (by repeat (first|exact gW HK|apply KeepBut.set_|refine keep_far ?_ GW445.out _)) hk (.inl rfl));have n4_:=Aside0.mk (hb);have n5_:=Aside0.mk (hi);clear HO_3;clear BK445;clear HK;clear HB;clear HI0;have HO_3:=n0_;have BK445:=n1_;have HO482:=n2_;have HK:=n3_;have HB:=n4_;have HI0:=n5_;clear n0_ n1_ n2_ n3_ n4_ n5_;(try clear hb);(try clear hb2);(try clear hk);(try clear hi);(try clear ho0);have hnb81:=NB445_0.out;have hnc81:=NB0_445.out;have hcz82_0:w80.cell? ⟨gb445,0,none⟩=some (.int .i64 x446000_1):=(blk_cell BK445.out 0).trans rfl;have hcz82_1:w80.cell? ⟨gb445,1,none⟩=some (.int .i64 x446001_1):=(blk_cell BK445.out 1).trans rfl;have hcz82_2:w80.cell? ⟨gb445,2,none⟩=some (.string x446002_1):=(blk_cell BK445.out 2).trans rfl;have hcz82_3:w80.cell? ⟨gb445,3,none⟩=some (.slice none 0 0):=(blk_cell BK445.out 3).trans rfl;have hfz82_0:=blk_frozen BK445.out 0;have hfz82_1:=blk_frozen BK445.out 1;have hfz82_2:=blk_frozen BK445.out 2;have hfz82_3:=blk_frozen BK445.out 3;obtain ⟨Ao83,co83,eo83⟩:=Kd.N_slice HO482.out;subst eo83))
    refine bodyPost_ret (results_cell_row rfl _ _ gb445 27 #[.int .i64 t477,.int .i64 t478,.string t479,.slice Ao83 t480.length co83] (0,0) _ rfl (by (with_reducible repeat (first|refine blk_drewN ?_ _|refine blk_drew ?_|refine blk_alloc ?_ _));refine blk_put (cs:=#[.int .i64 t477,.int .i64 t478,.string t479,.slice none 0 0]) ?_ 3 _ rfl;(with_reducible repeat (first|refine blk_drewN ?_ _|refine blk_drew ?_|refine blk_alloc ?_ _));refine blk_put (cs:=#[.int .i64 t477,.int .i64 t478,.string x446002_1,.slice none 0 0]) ?_ 2 _ rfl;(with_reducible repeat (first|refine blk_drewN ?_ _|refine blk_drew ?_|refine blk_alloc ?_ _));refine blk_put (cs:=#[.int .i64 t477,.int .i64 x446001_1,.string x446002_1,.slice none 0 0]) ?_ 1 _ rfl;(with_reducible repeat (first|refine blk_drewN ?_ _|refine blk_drew ?_|refine blk_alloc ?_ _));refine blk_put (cs:=#[.int .i64 x446000_1,.int .i64 x446001_1,.string x446002_1,.slice none 0 0]) ?_ 0 _ rfl;(with_reducible repeat (first|refine blk_drewN ?_ _|refine blk_drew ?_|refine blk_alloc ?_ _));exact BK445.out) Try.underlying27 rfl (by kernel_rfl)) rfl ?_
    exact ⟨_,by first|rfl|(simp [errW_none,errW_some] <;> rfl)|(simp [*,errW_none,errW_some] <;> rfl),by (with_reducible repeat (first|apply Kd.N_alloc|apply Kd.N_drewN|apply Kd.N_drew));exact Kd.N_mono (Kd.N_far (p:=⟨gb445,3,none⟩) (Kd.N_far (p:=⟨gb445,2,none⟩) (Kd.N_far (p:=⟨gb445,1,none⟩) (Kd.N_far (p:=⟨gb445,0,none⟩) (Kd.N_mono HO482.out (fun k_ hk=>(⟨hk,hk.2.2.1⟩:_∧k_ ≠ gb445))) (fun _ hk=>hk.2) (.int .i64 t477)) (fun _ hk=>hk.2) (.int .i64 t478)) (fun _ hk=>hk.2) (.string t479)) (fun _ hk=>hk.2) (.slice Ao83 t480.length co83)) (fun _ hk=>hk.1.1),by repeat (first|(with_reducible first|exact HI0.out|apply IsS66.alloc|apply IsS66.drewN|apply IsS66.drew|apply IsS66.set_1|refine IsS66.far ?_ NB0_445.out _)|exact HI0.out),by repeat (first|exact gB HB|refine below_set ?_ (IsS66.ge HI0.out)|refine below_set ?_ GE445.out),by repeat (first|exact gW HK|apply KeepBut.set_|refine keep_far ?_ GW445.out _)⟩
end Go.Proofs.Ytdhdfmmefghijaa.P
namespace Go.Proofs.Ytdhdfmmefghijaa.P
open Go.RowKit Go.Proofs.YtdhdfmmefghijaaW.PrintWords Go.Proofs.YtdhdfmmefghijaaW.PrintLast Go.Proofs.YtdhdfmmefghijaaW.PrintMore
attribute [local go_sem] max2_int min2_int max_two min_two max_three min_three max_four min_four
set_option linter.unusedVariables false
set_option linter.unusedSimpArgs false
def spec_DrawDocValid.f (k:Nat) (l0:List Int):Option (Int × Int × ByteArray × (List (SDoc))):=(spec_l15Open.f l0).bind fun bt485=>((spec_l1Draw.f k bt485.1 bt485.2).bind fun bt488=>((spec_l1Mutate.f k bt485.1 bt488.2.2.2.2 bt488.1 bt488.2.1 bt488.2.2.1 bt488.2.2.2.1).bind fun bt495=>((spec_l1Mutate.f k bt485.1 bt495.2.2.2.2 bt495.1 bt495.2.1 bt495.2.2.1 bt495.2.2.2.1).bind fun bt502=>(some (bt502.1,bt502.2.1,bt502.2.2.1,bt502.2.2.2.1)))))
set_option maxHeartbeats 8000000 in
set_option maxRecDepth 100000 in
theorem spec_DrawDocValid.calls (k:Nat) (A0:Option Addr) (c0:Nat) (l0:List Int) (r1:Int) (r2:Int) (r3:ByteArray) (r4:List (SDoc)) (w:World) (hr0:Kd.C (Kd.int .u8) w A0 l0.length l0) (hc0:l0.length≤c0) (h:spec_DrawDocValid.f k l0=some (r1,r2,r3,r4)) :
  Calls Try.prog 23 #[.slice A0 l0.length c0] w fun e w'=>∃ v3_:Value,e=.returned (.agg #[.int .i64 r1,.int .i64 r2,.string r3,v3_])∧Kd.N k27 27 w' w.heap.size (fun k_=>(w.heap.size≤k_)) v3_ r4∧Below w.heap.size w w':=by
 have hu27:=Try.underlying27
 have HR0:=Aside0.mk hr0
 have HC0:=Aside0.mk hc0
 clear hr0 hc0
 have HB:=Aside0.mk (Below.refl w.heap.size w)
 have H:((spec_l15Open.f l0).bind fun bt485=>((spec_l1Draw.f k bt485.1 bt485.2).bind fun bt488=>((spec_l1Mutate.f k bt485.1 bt488.2.2.2.2 bt488.1 bt488.2.1 bt488.2.2.1 bt488.2.2.2.1).bind fun bt495=>((spec_l1Mutate.f k bt485.1 bt495.2.2.2.2 bt495.1 bt495.2.1 bt495.2.2.1 bt495.2.2.2.1).bind fun bt502=>(some (bt502.1,bt502.2.1,bt502.2.2.1,bt502.2.2.2.1))))))=some (r1,r2,r3,r4):=h
 clear h
 replace H:=Option.bind_eq_some_iff.mp H
 obtain ⟨⟨t485,t486⟩,A20,H⟩:=H
 replace H:((spec_l1Draw.f k t485 t486).bind fun bt488=>((spec_l1Mutate.f k t485 bt488.2.2.2.2 bt488.1 bt488.2.1 bt488.2.2.1 bt488.2.2.2.1).bind fun bt495=>((spec_l1Mutate.f k t485 bt495.2.2.2.2 bt495.1 bt495.2.1 bt495.2.2.1 bt495.2.2.2.1).bind fun bt502=>(some (bt502.1,bt502.2.1,bt502.2.2.1,bt502.2.2.2.1)))))=some (r1,r2,r3,r4):=H
 have A2:=Aside0.mk A20
 clear A20
 replace H:=Option.bind_eq_some_iff.mp H
 obtain ⟨⟨t488,t489,t490,t491,t494⟩,A30,H⟩:=H
 replace H:((spec_l1Mutate.f k t485 t494 t488 t489 t490 t491).bind fun bt495=>((spec_l1Mutate.f k t485 bt495.2.2.2.2 bt495.1 bt495.2.1 bt495.2.2.1 bt495.2.2.2.1).bind fun bt502=>(some (bt502.1,bt502.2.1,bt502.2.2.1,bt502.2.2.2.1))))=some (r1,r2,r3,r4):=H
 have A3:=Aside0.mk A30
 clear A30
 replace H:=Option.bind_eq_some_iff.mp H
 obtain ⟨⟨t495,t496,t497,t498,t501⟩,A40,H⟩:=H
 replace H:((spec_l1Mutate.f k t485 t501 t495 t496 t497 t498).bind fun bt502=>(some (bt502.1,bt502.2.1,bt502.2.2.1,bt502.2.2.2.1)))=some (r1,r2,r3,r4):=H
 have A4:=Aside0.mk A40
 clear A40
 replace H:=Option.bind_eq_some_iff.mp H
 obtain ⟨⟨t502,t503,t504,t505,t508⟩,A50,H⟩:=H
 replace H:(some (t502,t503,t504,t505))=some (r1,r2,r3,r4):=H
 have A5:=Aside0.mk A50
 clear A50
 simp only [Option.some.injEq,Prod.mk.injEq] at H
 obtain ⟨rfl,rfl,rfl,rfl⟩:=H
 go_enter Try.func23,Try.ntmps23
 go_wp2_with (first|((with_reducible refine gate_dst (N:=2) rfl ?_);refine box_event ?hg (N:=2) ?hd (cs:=#[.int .i64 0,.int .i64 0,.string (⟨#[]⟩:ByteArray),.slice none 0 0]) (t:=27) ?hr ?_;(case hd=>rfl);(case hg=>rfl);(case hr=>first|(go_simp;done)|(go_simp;rfl));intro gb484 hg w6 hbox hb;have n0_:=Aside0.mk (below_step (gB HB) hb);have n1_:=Aside0.mk (hbox);have n2_:=Aside0.mk ((by rw [hg];exact (below_size (gB HB)):w.heap.size≤gb484));have n3_:=Aside0.mk ((by rw [hg];exact (below_size (gB HB)):w.heap.size≤gb484));clear HB;have HB:=n0_;have BK484:=n1_;have GW484:=n2_;have GE484:=n3_;clear n0_ n1_ n2_ n3_;clear hb hbox hg)|((with_reducible refine gate_callee (f:=44) rfl ?_);refine goesL_ (some 5) rfl rfl Try.func44 (by kernel_rfl) rfl #[.slice A0 l0.length c0] rfl (by (try simp only [List.map_toArray,List.map_cons,List.map_nil]);first|done|rfl|(simp only [List.length_drop,List.length_take];rfl)) ?_;(with_reducible refine (spec_l15Open.calls _ _ l0 t485 t486 w _ ?side1 ?side2 ?side3 A2.out).mono ?_);(case side1=>repeat (first|exact gB HB|refine below_set ?_ GE484.out));(case side2=>exact HR0.out);(case side3=>exact HC0.out);rintro e w7 ⟨g487,rfl,hi,hb,hb2⟩;refine ⟨_,rfl,?_⟩;have n0_:=Aside0.mk (blk_below (g:=gb484) (o:=.cells #[.int .i64 0,.int .i64 0,.string (⟨#[]⟩:ByteArray),.slice none 0 0] 27 (0,0)) (gK BK484) hb2);have n1_:=Aside0.mk (hb);have n2_:=Aside0.mk (hi);have n3_:=Aside0.mk (IsS66.ne_blk hi (blk_below (g:=gb484) (o:=.cells #[.int .i64 0,.int .i64 0,.string (⟨#[]⟩:ByteArray),.slice none 0 0] 27 (0,0)) (gK BK484) hb2) (by decide));have n4_:=Aside0.mk (Ne.symm (IsS66.ne_blk hi (blk_below (g:=gb484) (o:=.cells #[.int .i64 0,.int .i64 0,.string (⟨#[]⟩:ByteArray),.slice none 0 0] 27 (0,0)) (gK BK484) hb2) (by decide)));clear BK484;clear HB;have BK484:=n0_;have HB:=n1_;have HI487:=n2_;have NB487_484:=n3_;have NB484_487:=n4_;clear n0_ n1_ n2_ n3_ n4_;(try clear hb);(try clear hb2);(try clear hk);(try clear hi))|((with_reducible refine gate_callee (f:=51) rfl ?_);refine goesL_ (some 9) rfl rfl Try.func51 (by kernel_rfl) rfl #[.pointer (some ⟨g487,0,none⟩)] rfl (by (try simp only [List.map_toArray,List.map_cons,List.map_nil]);first|done|rfl|(simp only [List.length_drop,List.length_take];rfl)) ?_;(with_reducible refine (spec_l1Draw.calls k g487 t485 t486 t488 t489 t490 t491 t494 w _ ?side1 ?side2 A3.out).mono ?_);(case side1=>repeat (first|(with_reducible first|exact HI487.out|apply IsS66.alloc|apply IsS66.drewN|apply IsS66.drew|apply IsS66.set_1|refine IsS66.far ?_ NB487_484.out _)|exact HI487.out));(case side2=>repeat (first|exact gB HB|refine below_set ?_ (IsS66.ge HI487.out)|refine below_set ?_ GE484.out));rintro e w8 ⟨v492,rfl,ho0,hi,hb,hk⟩;refine ⟨_,rfl,?_⟩;have n0_:=Aside0.mk (KeepBut.blk hk (g':=gb484) (o:=.cells #[.int .i64 0,.int .i64 0,.string (⟨#[]⟩:ByteArray),.slice none 0 0] 27 (0,0)) (gK BK484) NB484_487.out (by simp));have n1_:=Aside0.mk (Kd.N_lower (Kd.N_mono (ok':=fun k_=>(w.heap.size≤k_)∧k_ ≠ gb484∧k_ ≠ g487) ho0 (fun k_ hk_=>⟨(Nat.le_trans (below_size (by repeat (first|exact gB HB|refine below_set ?_ (IsS66.ge HI487.out)|refine below_set ?_ GE484.out))) hk_),(Kd.freshB (g:=gb484) (o:=.cells #[.int .i64 0,.int .i64 0,.string (⟨#[]⟩:ByteArray),.slice none 0 0] 27 (0,0)) (gK BK484) k_ hk_),(IsS66.fresh (by repeat (first|(with_reducible first|exact HI487.out|apply IsS66.alloc|apply IsS66.drewN|apply IsS66.drew|apply IsS66.set_1|refine IsS66.far ?_ NB487_484.out _)|exact HI487.out)) k_ hk_)⟩)) (below_size (by repeat (first|exact gB HB|refine below_set ?_ (IsS66.ge HI487.out)|refine below_set ?_ GE484.out))));have n2_:=Aside0.mk (hb);have n3_:=Aside0.mk (hi);clear BK484;clear HB;clear HI487;have BK484:=n0_;have HO493:=n1_;have HB:=n2_;have HI487:=n3_;clear n0_ n1_ n2_ n3_;(try clear hb);(try clear hb2);(try clear hk);(try clear hi);(try clear ho0);obtain ⟨Ao9,co9,eo9⟩:=Kd.N_slice HO493.out;subst eo9)|((with_reducible refine gate_callee (f:=50) rfl ?_);refine goesL_ (some 10) rfl rfl Try.func50 (by kernel_rfl) rfl #[.pointer (some ⟨g487,0,none⟩),.agg #[.int .i64 t488,.int .i64 t489,.string t490,.slice Ao9 t491.length co9]] rfl (by (try simp only [List.map_toArray,List.map_cons,List.map_nil]);first|done|rfl|(simp only [List.length_drop,List.length_take];rfl)) ?_;(with_reducible refine (spec_l1Mutate.calls k g487 t485 t494 t488 t489 t490 _ _ t491 t495 t496 t497 t498 t501 w _ ?side1 ?side2 ?side3 ?side4 A4.out).mono ?_);(case side1=>repeat (first|(with_reducible first|exact HI487.out|apply IsS66.alloc|apply IsS66.drewN|apply IsS66.drew|apply IsS66.set_1|refine IsS66.far ?_ NB487_484.out _)|exact HI487.out));(case side2=>repeat (first|exact gB HB|refine below_set ?_ (IsS66.ge HI487.out)|refine below_set ?_ GE484.out));(case side3=>exact Kd.C_foot_ownV (base:=0) (Kd.N_V (Kd.N_mono (ok:=fun k_=>(((w.heap.size≤k_))∧(k_ ≠ gb484∧k_ ≠ g487))) (gN HO493) (fun k_ hk_=>(⟨hk_,hk_.2.2⟩:_∧k_ ≠ g487)))) (fun _ h_=>h_.2));(case side4=>exact (Kd.N_reads' HO493.out).2.1);rintro e w10 ⟨v499,rfl,ho0,hi,hb,hk⟩;refine ⟨_,rfl,?_⟩;have n0_:=Aside0.mk (KeepBut.blk hk (g':=gb484) (o:=.cells #[.int .i64 0,.int .i64 0,.string (⟨#[]⟩:ByteArray),.slice none 0 0] 27 (0,0)) (gK BK484) NB484_487.out (by simp));have n1_:=Aside0.mk (Kd.N_mono (Kd.N_told (Kd.N_oldK (Kd.N_mono (ok:=fun k_=>(((w.heap.size≤k_))∧(k_ ≠ gb484∧k_ ≠ g487))) (gN HO493) (fun k_ hk_=>(⟨hk_,hk_.2.2⟩:_∧k_ ≠ g487))) hk) (Kd.N_base ho0)) (fun _ h_=>h_.1));have n2_:=Aside0.mk (Kd.N_lower (Kd.N_mono (ok':=fun k_=>(w.heap.size≤k_)∧some k_ ≠ (.slice Ao9 t491.length co9:Value).ownBlock∧k_ ≠ gb484∧k_ ≠ g487) ho0 (fun k_ hk_=>⟨(Nat.le_trans (below_size (by repeat (first|exact gB HB|refine below_set ?_ (IsS66.ge HI487.out)|refine below_set ?_ GE484.out))) hk_),(Kd.fresh' (Kd.N_lt (gN HO493)) k_ hk_),(Kd.freshB (g:=gb484) (o:=.cells #[.int .i64 0,.int .i64 0,.string (⟨#[]⟩:ByteArray),.slice none 0 0] 27 (0,0)) (gK BK484) k_ hk_),(IsS66.fresh (by repeat (first|(with_reducible first|exact HI487.out|apply IsS66.alloc|apply IsS66.drewN|apply IsS66.drew|apply IsS66.set_1|refine IsS66.far ?_ NB487_484.out _)|exact HI487.out)) k_ hk_)⟩)) (below_size (by repeat (first|exact gB HB|refine below_set ?_ (IsS66.ge HI487.out)|refine below_set ?_ GE484.out))));have n3_:=Aside0.mk (hb);have n4_:=Aside0.mk (hi);clear BK484;clear HO493;clear HB;clear HI487;have BK484:=n0_;have HO493:=n1_;have HO500:=n2_;have HB:=n3_;have HI487:=n4_;clear n0_ n1_ n2_ n3_ n4_;(try clear hb);(try clear hb2);(try clear hk);(try clear hi);(try clear ho0);obtain ⟨Ao11,co11,eo11⟩:=Kd.N_slice HO500.out;subst eo11)|((with_reducible refine gate_callee (f:=50) rfl ?_);refine goesL_ (some 11) rfl rfl Try.func50 (by kernel_rfl) rfl #[.pointer (some ⟨g487,0,none⟩),.agg #[.int .i64 t495,.int .i64 t496,.string t497,.slice Ao11 t498.length co11]] rfl (by (try simp only [List.map_toArray,List.map_cons,List.map_nil]);first|done|rfl|(simp only [List.length_drop,List.length_take];rfl)) ?_;(with_reducible refine (spec_l1Mutate.calls k g487 t485 t501 t495 t496 t497 _ _ t498 t502 t503 t504 t505 t508 w _ ?side1 ?side2 ?side3 ?side4 A5.out).mono ?_);(case side1=>repeat (first|(with_reducible first|exact HI487.out|apply IsS66.alloc|apply IsS66.drewN|apply IsS66.drew|apply IsS66.set_1|refine IsS66.far ?_ NB487_484.out _)|exact HI487.out));(case side2=>repeat (first|exact gB HB|refine below_set ?_ (IsS66.ge HI487.out)|refine below_set ?_ GE484.out));(case side3=>exact Kd.C_foot_ownV (base:=0) (Kd.N_V (Kd.N_mono (ok:=fun k_=>(((w.heap.size≤k_))∧(some k_ ≠ (.slice Ao9 t491.length co9:Value).ownBlock∧(k_ ≠ gb484∧k_ ≠ g487)))) (gN HO500) (fun k_ hk_=>(⟨hk_,hk_.2.2.2⟩:_∧k_ ≠ g487)))) (fun _ h_=>h_.2));(case side4=>exact (Kd.N_reads' HO500.out).2.1);rintro e w12 ⟨v506,rfl,ho0,hi,hb,hk⟩;refine ⟨_,rfl,?_⟩;have n0_:=Aside0.mk (KeepBut.blk hk (g':=gb484) (o:=.cells #[.int .i64 0,.int .i64 0,.string (⟨#[]⟩:ByteArray),.slice none 0 0] 27 (0,0)) (gK BK484) NB484_487.out (by simp));have n1_:=Aside0.mk (Kd.N_mono (Kd.N_told (Kd.N_oldK (Kd.N_mono (ok:=fun k_=>((((w.heap.size≤k_))∧(k_ ≠ gb484∧k_ ≠ g487))∧some k_ ≠ (.slice Ao11 t498.length co11:Value).ownBlock)) (gN HO493) (fun k_ hk_=>(⟨hk_,hk_.1.2.2⟩:_∧k_ ≠ g487))) hk) (Kd.N_base ho0)) (fun _ h_=>h_.1));have n2_:=Aside0.mk (Kd.N_mono (Kd.N_told (Kd.N_oldK (Kd.N_mono (ok:=fun k_=>(((w.heap.size≤k_))∧(some k_ ≠ (.slice Ao9 t491.length co9:Value).ownBlock∧(k_ ≠ gb484∧k_ ≠ g487)))) (gN HO500) (fun k_ hk_=>(⟨hk_,hk_.2.2.2⟩:_∧k_ ≠ g487))) hk) (Kd.N_base ho0)) (fun _ h_=>h_.1));have n3_:=Aside0.mk (Kd.N_lower (Kd.N_mono (ok':=fun k_=>(w.heap.size≤k_)∧some k_ ≠ (.slice Ao9 t491.length co9:Value).ownBlock∧some k_ ≠ (.slice Ao11 t498.length co11:Value).ownBlock∧k_ ≠ gb484∧k_ ≠ g487) ho0 (fun k_ hk_=>⟨(Nat.le_trans (below_size (by repeat (first|exact gB HB|refine below_set ?_ (IsS66.ge HI487.out)|refine below_set ?_ GE484.out))) hk_),(Kd.fresh' (Kd.N_lt (gN HO493)) k_ hk_),(Kd.fresh' (Kd.N_lt (gN HO500)) k_ hk_),(Kd.freshB (g:=gb484) (o:=.cells #[.int .i64 0,.int .i64 0,.string (⟨#[]⟩:ByteArray),.slice none 0 0] 27 (0,0)) (gK BK484) k_ hk_),(IsS66.fresh (by repeat (first|(with_reducible first|exact HI487.out|apply IsS66.alloc|apply IsS66.drewN|apply IsS66.drew|apply IsS66.set_1|refine IsS66.far ?_ NB487_484.out _)|exact HI487.out)) k_ hk_)⟩)) (below_size (by repeat (first|exact gB HB|refine below_set ?_ (IsS66.ge HI487.out)|refine below_set ?_ GE484.out))));have n4_:=Aside0.mk (hb);have n5_:=Aside0.mk (hi);clear BK484;clear HO493;clear HO500;clear HB;clear HI487;have BK484:=n0_;have HO493:=n1_;have HO500:=n2_;have HO507:=n3_;have HB:=n4_;have HI487:=n5_;clear n0_ n1_ n2_ n3_ n4_ n5_;(try clear hb);(try clear hb2);(try clear hk);(try clear hi);(try clear ho0);have hnb13:=NB484_487.out;have hnc13:=NB487_484.out;have hcz14_0:w12.cell? ⟨gb484,0,none⟩=some (.int .i64 0):=(blk_cell BK484.out 0).trans rfl;have hcz14_1:w12.cell? ⟨gb484,1,none⟩=some (.int .i64 0):=(blk_cell BK484.out 1).trans rfl;have hcz14_2:w12.cell? ⟨gb484,2,none⟩=some (.string (⟨#[]⟩:ByteArray)):=(blk_cell BK484.out 2).trans rfl;have hcz14_3:w12.cell? ⟨gb484,3,none⟩=some (.slice none 0 0):=(blk_cell BK484.out 3).trans rfl;have hfz14_0:=blk_frozen BK484.out 0;have hfz14_1:=blk_frozen BK484.out 1;have hfz14_2:=blk_frozen BK484.out 2;have hfz14_3:=blk_frozen BK484.out 3;obtain ⟨Ao15,co15,eo15⟩:=Kd.N_slice HO507.out;subst eo15))
 refine bodyPost_ret (results_cell_row rfl _ _ gb484 27 #[.int .i64 t502,.int .i64 t503,.string t504,.slice Ao15 t505.length co15] (0,0) _ rfl (by (with_reducible repeat (first|refine blk_drewN ?_ _|refine blk_drew ?_|refine blk_alloc ?_ _));refine blk_put (cs:=#[.int .i64 t502,.int .i64 t503,.string t504,.slice none 0 0]) ?_ 3 _ rfl;(with_reducible repeat (first|refine blk_drewN ?_ _|refine blk_drew ?_|refine blk_alloc ?_ _));refine blk_put (cs:=#[.int .i64 t502,.int .i64 t503,.string (⟨#[]⟩:ByteArray),.slice none 0 0]) ?_ 2 _ rfl;(with_reducible repeat (first|refine blk_drewN ?_ _|refine blk_drew ?_|refine blk_alloc ?_ _));refine blk_put (cs:=#[.int .i64 t502,.int .i64 0,.string (⟨#[]⟩:ByteArray),.slice none 0 0]) ?_ 1 _ rfl;(with_reducible repeat (first|refine blk_drewN ?_ _|refine blk_drew ?_|refine blk_alloc ?_ _));refine blk_put (cs:=#[.int .i64 0,.int .i64 0,.string (⟨#[]⟩:ByteArray),.slice none 0 0]) ?_ 0 _ rfl;(with_reducible repeat (first|refine blk_drewN ?_ _|refine blk_drew ?_|refine blk_alloc ?_ _));exact BK484.out) Try.underlying27 rfl (by kernel_rfl)) rfl ?_
 exact ⟨_,by first|rfl|(simp [errW_none,errW_some] <;> rfl)|(simp [*,errW_none,errW_some] <;> rfl),by (with_reducible repeat (first|apply Kd.N_alloc|apply Kd.N_drewN|apply Kd.N_drew));exact Kd.N_mono (Kd.N_far (p:=⟨gb484,3,none⟩) (Kd.N_far (p:=⟨gb484,2,none⟩) (Kd.N_far (p:=⟨gb484,1,none⟩) (Kd.N_far (p:=⟨gb484,0,none⟩) (Kd.N_mono HO507.out (fun k_ hk=>(⟨hk,hk.2.2.2.1⟩:_∧k_ ≠ gb484))) (fun _ hk=>hk.2) (.int .i64 t502)) (fun _ hk=>hk.2) (.int .i64 t503)) (fun _ hk=>hk.2) (.string t504)) (fun _ hk=>hk.2) (.slice Ao15 t505.length co15)) (fun _ hk=>hk.1.1),by repeat (first|exact gB HB|refine below_set ?_ (IsS66.ge HI487.out)|refine below_set ?_ GE484.out)⟩
end Go.Proofs.Ytdhdfmmefghijaa.P
namespace Go.Proofs.Ytdhdfmmefghijaa.P
open Go.RowKit Go.Proofs.YtdhdfmmefghijaaW.PrintWords Go.Proofs.YtdhdfmmefghijaaW.PrintLast Go.Proofs.YtdhdfmmefghijaaW.PrintMore
attribute [local go_sem] max2_int min2_int max_two min_two max_three min_three max_four min_four
set_option linter.unusedVariables false
set_option linter.unusedSimpArgs false
def spec_DrawCanFlatten.f (k:Nat) (l0:List Int):Option (Int × Int × ByteArray × (List (SDoc))):=(spec_DrawDocValid.f k l0).bind fun bt535=>(some (bt535.1,bt535.2.1,bt535.2.2.1,bt535.2.2.2))
set_option maxHeartbeats 8000000 in
set_option maxRecDepth 100000 in
theorem spec_DrawCanFlatten.calls (k:Nat) (A0:Option Addr) (c0:Nat) (l0:List Int) (r1:Int) (r2:Int) (r3:ByteArray) (r4:List (SDoc)) (w:World) (hr0:Kd.C (Kd.int .u8) w A0 l0.length l0) (hc0:l0.length≤c0) (h:spec_DrawCanFlatten.f k l0=some (r1,r2,r3,r4)) :
  Calls Try.prog 27 #[.slice A0 l0.length c0] w fun e w'=>∃ v3_:Value,e=.returned (.agg #[.int .i64 r1,.int .i64 r2,.string r3,v3_])∧Kd.N k27 27 w' w.heap.size (fun k_=>(w.heap.size≤k_)) v3_ r4∧Below w.heap.size w w':=by
 have hu27:=Try.underlying27
 have HR0:=Aside0.mk hr0
 have HC0:=Aside0.mk hc0
 clear hr0 hc0
 have HB:=Aside0.mk (Below.refl w.heap.size w)
 have H:((spec_DrawDocValid.f k l0).bind fun bt535=>(some (bt535.1,bt535.2.1,bt535.2.2.1,bt535.2.2.2)))=some (r1,r2,r3,r4):=h
 clear h
 replace H:=Option.bind_eq_some_iff.mp H
 obtain ⟨⟨t535,t536,t537,t538⟩,A20,H⟩:=H
 replace H:(some (t535,t536,t537,t538))=some (r1,r2,r3,r4):=H
 have A2:=Aside0.mk A20
 clear A20
 simp only [Option.some.injEq,Prod.mk.injEq] at H
 obtain ⟨rfl,rfl,rfl,rfl⟩:=H
 go_enter Try.func27,Try.ntmps27
 go_wp2_with (first|((with_reducible refine gate_dst (N:=2) rfl ?_);refine box_event ?hg (N:=2) ?hd (cs:=#[.int .i64 0,.int .i64 0,.string (⟨#[]⟩:ByteArray),.slice none 0 0]) (t:=27) ?hr ?_;(case hd=>rfl);(case hg=>rfl);(case hr=>first|(go_simp;done)|(go_simp;rfl));intro gb534 hg w3 hbox hb;have n0_:=Aside0.mk (below_step (by repeat (first|(with_reducible first|exact HB.out|apply below_alloc|apply pw_below_drewN|apply below_drew1)|exact HB.out)) hb);have n1_:=Aside0.mk (hbox);have n2_:=Aside0.mk ((by rw [hg];exact (below_size (by repeat (first|(with_reducible first|exact HB.out|apply below_alloc|apply pw_below_drewN|apply below_drew1)|exact HB.out))):w.heap.size≤gb534));have n3_:=Aside0.mk ((by rw [hg];exact (below_size (by repeat (first|(with_reducible first|exact HB.out|apply below_alloc|apply pw_below_drewN|apply below_drew1)|exact HB.out))):w.heap.size≤gb534));clear HB;have HB:=n0_;have BK534:=n1_;have GW534:=n2_;have GE534:=n3_;clear n0_ n1_ n2_ n3_;clear hb hbox hg)|((with_reducible refine gate_callee (f:=23) rfl ?_);refine goesL_ (some 4) rfl rfl Try.func23 (by kernel_rfl) rfl #[.slice A0 l0.length c0] rfl (by (try simp only [List.map_toArray,List.map_cons,List.map_nil]);first|done|rfl|(simp only [List.length_drop,List.length_take];rfl)) ?_;(with_reducible refine (spec_DrawDocValid.calls k _ _ l0 t535 t536 t537 t538 _ ?side1 ?side2 A2.out).mono ?_);(case side1=>repeat (first|exact (Kd.C_below HR0.out HB.out)|(with_reducible refine Kd.C_alloc ?_ _)|(with_reducible refine Kd.C_drewN ?_ _)|(with_reducible refine Kd.C_drew ?_)));(case side2=>exact HC0.out);rintro e w4 ⟨v539,rfl,ho0,hb⟩;refine ⟨_,rfl,?_⟩;have n0_:=Aside0.mk (Kd.N_lower (Kd.N_mono (ok':=fun k_=>(w.heap.size≤k_)∧k_ ≠ gb534) ho0 (fun k_ hk_=>⟨(Nat.le_trans (below_size (by repeat (first|(with_reducible first|exact HB.out|apply below_alloc|apply pw_below_drewN|apply below_drew1|refine below_set ?_ GE534.out)|exact HB.out))) hk_),(Kd.freshB (g:=gb534) (o:=.cells #[.int .i64 0,.int .i64 0,.string (⟨#[]⟩:ByteArray),.slice none 0 0] 27 (0,0)) (by (with_reducible repeat (first|refine blk_drewN ?_ _|refine blk_drew ?_|refine blk_alloc ?_ _));exact BK534.out) k_ hk_)⟩)) (below_size (by repeat (first|(with_reducible first|exact HB.out|apply below_alloc|apply pw_below_drewN|apply below_drew1|refine below_set ?_ GE534.out)|exact HB.out))));have n1_:=Aside0.mk (blk_below (g:=gb534) (o:=.cells #[.int .i64 0,.int .i64 0,.string (⟨#[]⟩:ByteArray),.slice none 0 0] 27 (0,0)) (by (with_reducible repeat (first|refine blk_drewN ?_ _|refine blk_drew ?_|refine blk_alloc ?_ _));exact BK534.out) hb);have n2_:=Aside0.mk (below_step (by repeat (first|(with_reducible first|exact HB.out|apply below_alloc|apply pw_below_drewN|apply below_drew1|refine below_set ?_ GE534.out)|exact HB.out)) hb);clear BK534;clear HB;have HO540:=n0_;have BK534:=n1_;have HB:=n2_;clear n0_ n1_ n2_;(try clear hb);(try clear hb2);(try clear hk);(try clear hi);(try clear ho0);have hcz5_0:w4.cell? ⟨gb534,0,none⟩=some (.int .i64 0):=(blk_cell BK534.out 0).trans rfl;have hcz5_1:w4.cell? ⟨gb534,1,none⟩=some (.int .i64 0):=(blk_cell BK534.out 1).trans rfl;have hcz5_2:w4.cell? ⟨gb534,2,none⟩=some (.string (⟨#[]⟩:ByteArray)):=(blk_cell BK534.out 2).trans rfl;have hcz5_3:w4.cell? ⟨gb534,3,none⟩=some (.slice none 0 0):=(blk_cell BK534.out 3).trans rfl;have hfz5_0:=blk_frozen BK534.out 0;have hfz5_1:=blk_frozen BK534.out 1;have hfz5_2:=blk_frozen BK534.out 2;have hfz5_3:=blk_frozen BK534.out 3;obtain ⟨Ao6,co6,eo6⟩:=Kd.N_slice HO540.out;subst eo6))
 refine bodyPost_ret (results_cell_row rfl _ _ gb534 27 #[.int .i64 t535,.int .i64 t536,.string t537,.slice Ao6 t538.length co6] (0,0) _ rfl (by (with_reducible repeat (first|refine blk_drewN ?_ _|refine blk_drew ?_|refine blk_alloc ?_ _));refine blk_put (cs:=#[.int .i64 t535,.int .i64 t536,.string t537,.slice none 0 0]) ?_ 3 _ rfl;(with_reducible repeat (first|refine blk_drewN ?_ _|refine blk_drew ?_|refine blk_alloc ?_ _));refine blk_put (cs:=#[.int .i64 t535,.int .i64 t536,.string (⟨#[]⟩:ByteArray),.slice none 0 0]) ?_ 2 _ rfl;(with_reducible repeat (first|refine blk_drewN ?_ _|refine blk_drew ?_|refine blk_alloc ?_ _));refine blk_put (cs:=#[.int .i64 t535,.int .i64 0,.string (⟨#[]⟩:ByteArray),.slice none 0 0]) ?_ 1 _ rfl;(with_reducible repeat (first|refine blk_drewN ?_ _|refine blk_drew ?_|refine blk_alloc ?_ _));refine blk_put (cs:=#[.int .i64 0,.int .i64 0,.string (⟨#[]⟩:ByteArray),.slice none 0 0]) ?_ 0 _ rfl;(with_reducible repeat (first|refine blk_drewN ?_ _|refine blk_drew ?_|refine blk_alloc ?_ _));exact BK534.out) Try.underlying27 rfl (by kernel_rfl)) rfl ?_
 exact ⟨_,by first|rfl|(simp [errW_none,errW_some] <;> rfl)|(simp [*,errW_none,errW_some] <;> rfl),by (with_reducible repeat (first|apply Kd.N_alloc|apply Kd.N_drewN|apply Kd.N_drew));exact Kd.N_mono (Kd.N_far (p:=⟨gb534,3,none⟩) (Kd.N_far (p:=⟨gb534,2,none⟩) (Kd.N_far (p:=⟨gb534,1,none⟩) (Kd.N_far (p:=⟨gb534,0,none⟩) (Kd.N_mono HO540.out (fun k_ hk=>(⟨hk,hk.2⟩:_∧k_ ≠ gb534))) (fun _ hk=>hk.2) (.int .i64 t535)) (fun _ hk=>hk.2) (.int .i64 t536)) (fun _ hk=>hk.2) (.string t537)) (fun _ hk=>hk.2) (.slice Ao6 t538.length co6)) (fun _ hk=>hk.1.1),by repeat (first|(with_reducible first|exact HB.out|apply below_alloc|apply pw_below_drewN|apply below_drew1|refine below_set ?_ GE534.out)|exact HB.out)⟩
end Go.Proofs.Ytdhdfmmefghijaa.P
namespace Go.Proofs.Ytdhdfmmefghijaa.P
open Go.RowKit Go.Proofs.YtdhdfmmefghijaaW.PrintWords Go.Proofs.YtdhdfmmefghijaaW.PrintLast Go.Proofs.YtdhdfmmefghijaaW.PrintMore
attribute [local go_sem] max2_int min2_int max_two min_two max_three min_three max_four min_four
set_option linter.unusedVariables false
set_option linter.unusedSimpArgs false
mutual
def spec_CountOps.j0:Nat→Int→Int→Int→Int→ByteArray→List (SDoc)→Option (Int)
 | 0,_,_,_,_,_,_=>none
 | k+1,x1,x5,x542000,x542001,x542002,x542003=>spec_CountOps.l0 k x1 x5 0 x542000 x542001 x542002 x542003
def spec_CountOps.l0:Nat→Int→Int→Int→Int→Int→ByteArray→List (SDoc)→Option (Int)
 | 0,_,_,_,_,_,_,_=>none
 | k+1,x1,x5,x6,x542000,x542001,x542002,x542003=>if x6 < (x542003.length:Int) then (if 0≤x6 then ((spec_CountOps.f k ((rd_TDoc x542003 x6).f0) ((rd_TDoc x542003 x6).f1) ((rd_TDoc x542003 x6).f2) ((rd_TDoc x542003 x6).f3) x1).bind fun t543=>(spec_CountOps.l0 k x1 (wrap64 (x5+t543)) (wrap64 (x6+1)) x542000 x542001 x542002 x542003)) else (none)) else (some x5)
def spec_CountOps.f:Nat→Int→Int→ByteArray→List (SDoc)→Int→Option (Int)
 | 0,_,_,_,_,_=>none
 | k+1,a0_0,a0_1,a0_2,l0_3,a1=>if a0_0=a1 then (spec_CountOps.j0 k a1 1 a0_0 a0_1 a0_2 l0_3) else (spec_CountOps.j0 k a1 0 a0_0 a0_1 a0_2 l0_3)
end
set_option maxHeartbeats 8000000 in
set_option maxRecDepth 100000 in
theorem spec_CountOps.calls (k:Nat):∀ (a0_0:Int) (a0_1:Int) (a0_2:ByteArray) (A0_3:Option Addr) (c0_3:Nat) (l0_3:List (SDoc)) (a1:Int) (r:Int) (w:World) (hr0_3:Kd.C k27 w A0_3 l0_3.length l0_3) (hc0_3:l0_3.length≤c0_3) (h:spec_CountOps.f k a0_0 a0_1 a0_2 l0_3 a1=some r),
  Calls Try.prog 21 #[.agg #[.int .i64 a0_0,.int .i64 a0_1,.string a0_2,.slice A0_3 l0_3.length c0_3],.int .i64 a1] w fun e w'=>e=.returned (.int .i64 r)∧Below w.heap.size w w':=by
 induction k using Nat.strongRecOn with
 | _ k ih =>
 intro a0_0 a0_1 a0_2 A0_3 c0_3 l0_3 a1 r w hr0_3 hc0_3 h
 cases k with
 | zero=>exact absurd h (by simp [spec_CountOps.f])
 | succ k =>
 simp only [spec_CountOps.f] at h
 have hu27:=Try.underlying27
 have HR0_3:=Aside0.mk hr0_3
 have HC0_3:=Aside0.mk hc0_3
 clear hr0_3 hc0_3
 have HB:=Aside0.mk (Below.refl w.heap.size w)
 have H:(if a0_0=a1 then (spec_CountOps.j0 k a1 1 a0_0 a0_1 a0_2 l0_3) else (spec_CountOps.j0 k a1 0 a0_0 a0_1 a0_2 l0_3))=some r:=h
 clear h
 have HC3:=Aside0.mk H
 clear H
 go_enter Try.func21,Try.ntmps21
 go_upto_if 10 with (first|((with_reducible refine gate_dst (N:=2) rfl ?_);refine box_event ?hg (N:=2) ?hd (cs:=#[.int .i64 a0_0,.int .i64 a0_1,.string a0_2,.slice A0_3 l0_3.length c0_3]) (t:=27) ?hr ?_;(case hd=>rfl);(case hg=>rfl);(case hr=>first|(go_simp;done)|(go_simp;rfl));intro gb541 hg w4 hbox hb;have n0_:=Aside0.mk (below_step (gB HB) hb);have n1_:=Aside0.mk (hbox);have n2_:=Aside0.mk ((by rw [hg];exact (below_size (gB HB)):w.heap.size≤gb541));have n3_:=Aside0.mk ((by rw [hg];exact (below_size (gB HB)):w.heap.size≤gb541));clear HB;have HB:=n0_;have BK541:=n1_;have GW541:=n2_;have GE541:=n3_;clear n0_ n1_ n2_ n3_;clear hb hbox hg;have hcz5_0:w4.cell? ⟨gb541,0,none⟩=some (.int .i64 a0_0):=(blk_cell BK541.out 0).trans rfl;have hcz5_1:w4.cell? ⟨gb541,1,none⟩=some (.int .i64 a0_1):=(blk_cell BK541.out 1).trans rfl;have hcz5_2:w4.cell? ⟨gb541,2,none⟩=some (.string a0_2):=(blk_cell BK541.out 2).trans rfl;have hcz5_3:w4.cell? ⟨gb541,3,none⟩=some (.slice A0_3 l0_3.length c0_3):=(blk_cell BK541.out 3).trans rfl;have hfz5_0:=blk_frozen BK541.out 0;have hfz5_1:=blk_frozen BK541.out 1;have hfz5_2:=blk_frozen BK541.out 2;have hfz5_3:=blk_frozen BK541.out 3))
 (try simp only [Act.put,List.setIfInBounds_toArray,List.set_cons_zero,List.set_cons_succ])
 go_cut [5] (fun v5 wc=>∃ (kq:Nat) (x5_2:Int),v5=.int .i64 x5_2∧Aside0 (spec_CountOps.j0 kq a1 x5_2 a0_0 a0_1 a0_2 l0_3=some r)∧Aside0 (kq≤k)∧Aside0 (wc.heap[gb541]?=some (.cells #[.int .i64 a0_0,.int .i64 a0_1,.string a0_2,(.slice A0_3 l0_3.length c0_3)] 27 (0,0)))∧Aside0 (Below w.heap.size w wc))
 case first =>
  have H:=HC3.out
  clear HC3
  by_cases c6:a0_0=a1
  ·rw [if_pos c6] at H
   have c6b0:(a0_0 == a1)=true:=beq_iff_eq.mpr c6
   have c6b1:(a0_0 != a1)=false:=bne_eq_false_iff_eq.mpr c6
   clear c6
   (first|rw [c6b0]|(simp only [i64_w,i32_w];rw [c6b0])|skip)
   have H':=Aside0.mk H
   clear H
   go_wp2
   go_meet
   case rel=>exact ⟨_,(1),(by first|rfl|(simp;done)|(simp [*];done)),H',⟨by first|omega|exact Nat.le_refl _⟩,⟨gK BK541⟩,⟨by repeat (first|exact gB HB|refine below_set ?_ GE541.out)⟩⟩
  ·rw [if_neg c6] at H
   have c6b0:(a0_0 == a1)=false:=beq_eq_false_iff_ne.mpr c6
   have c6b1:(a0_0 != a1)=true:=bne_iff_ne.mpr c6
   (first|rw [c6b0]|(simp only [i64_w,i32_w];rw [c6b0])|skip)
   have H':=Aside0.mk H
   clear H
   go_wp2
   go_meet
   case rel=>exact ⟨_,(0),(by first|rfl|(simp;done)|(simp [*];done)),H',⟨by first|omega|exact Nat.le_refl _⟩,⟨gK BK541⟩,⟨by repeat (first|exact gB HB|refine below_set ?_ GE541.out)⟩⟩
 case rest =>
  clear HC3
  try clear c2 p2 c6 c6b0 c6b1 hcz5_0 hcz5_1 hcz5_2 hcz5_3 hfz5_0 hfz5_1 hfz5_2 hfz5_3
  obtain ⟨kq,x5_2,rfl,HA,HJ2,BK541,HB⟩:=hcut
  cases kq with
  | zero=>exact absurd HA.out (by simp [spec_CountOps.j0])
  | succ kj2 =>
   have H:=HA.out
   clear HA
   simp only [spec_CountOps.j0] at H
   have H':=Aside0.mk H
   clear H
   go_wp2
   go_loopg [5,6] kj2 (fun kq v5 v6 w'=>∃ (x5_2:Int) (x6_2:Int),v5=.int .i64 x5_2∧v6=.int .i64 x6_2∧Aside0 (spec_CountOps.l0 kq a1 x5_2 x6_2 a0_0 a0_1 a0_2 l0_3=some r)∧Aside0 (kq≤kj2)∧Aside0 (w'.heap[gb541]?=some (.cells #[.int .i64 a0_0,.int .i64 a0_1,.string a0_2,(.slice A0_3 l0_3.length c0_3)] 27 (0,0)))∧Aside0 (Below w.heap.size w w'))
   case atStart=>exact ⟨(x5_2),(0),(by first|rfl|(simp;done)|(simp [*];done)),(by first|rfl|(simp;done)|(simp [*];done)),H',⟨Nat.le_refl _⟩,⟨gK BK541⟩,⟨by repeat (first|exact gB HB|refine below_set ?_ GE541.out)⟩⟩
   case round =>
    clear H'
    try clear c2 p2 c6 c6b0 c6b1 hcz5_0 hcz5_1 hcz5_2 hcz5_3 hfz5_0 hfz5_1 hfz5_2 hfz5_3 p2
    (try clear BK541);(try clear HB)
    obtain ⟨x5_2,x6_2,rfl,rfl,HA,HK2,BK541,HB⟩:=hrel
    cases gk with
    | zero=>exact absurd HA.out (by simp [spec_CountOps.l0])
    | succ k2 =>
     have H:=HA.out
     clear HA
     simp only [spec_CountOps.l0] at H
     by_cases c7:x6_2 < (l0_3.length:Int)
     ·rw [if_pos c7] at H
      have c7b0:decide (x6_2 < (l0_3.length:Int))=true:=decide_eq_true c7
      clear c7
      by_cases c8:0≤x6_2
      ·rw [if_pos c8] at H
       have c8b0:decide (0≤x6_2)=true:=decide_eq_true c8
       clear c8
       replace H:=Option.bind_eq_some_iff.mp H
       obtain ⟨t543,A90,H⟩:=H
       replace H:(spec_CountOps.l0 k2 a1 (wrap64 (x5_2+t543)) (wrap64 (x6_2+1)) a0_0 a0_1 a0_2 l0_3)=some r:=H
       have A9:=Aside0.mk A90
       clear A90
       have H':=Aside0.mk H
       clear H
       have hcz10_0:wr.cell? ⟨gb541,0,none⟩=some (.int .i64 a0_0):=(blk_cell BK541.out 0).trans rfl
       have hcz10_1:wr.cell? ⟨gb541,1,none⟩=some (.int .i64 a0_1):=(blk_cell BK541.out 1).trans rfl
       have hcz10_2:wr.cell? ⟨gb541,2,none⟩=some (.string a0_2):=(blk_cell BK541.out 2).trans rfl
       have hcz10_3:wr.cell? ⟨gb541,3,none⟩=some (.slice A0_3 l0_3.length c0_3):=(blk_cell BK541.out 3).trans rfl
       have hfz10_0:=blk_frozen BK541.out 0
       have hfz10_1:=blk_frozen BK541.out 1
       have hfz10_2:=blk_frozen BK541.out 2
       have hfz10_3:=blk_frozen BK541.out 3
       have p542:0≤(x6_2:Int):=of_decide_eq_true (by first|(with_reducible assumption)|assumption)
       have q542:x6_2 < (l0_3.length:Int):=of_decide_eq_true (by first|(with_reducible assumption)|assumption)
       obtain ⟨ad542,A542_3,c542_3,e542,hx542_0,hx542_1,hx542_2,hx542_3,hl542_3,hi542_3⟩:=at_TDoc HR0_3.out x6_2 p542 q542
       cases e542
       replace hx542_0:=(HB.out.cell (World.block_lt_of_cell? w _ hx542_0)).trans hx542_0
       replace hx542_1:=(HB.out.cell (World.block_lt_of_cell? w _ hx542_1)).trans hx542_1
       replace hx542_2:=(HB.out.cell (World.block_lt_of_cell? w _ hx542_2)).trans hx542_2
       replace hx542_3:=(HB.out.cell (World.block_lt_of_cell? w _ hx542_3)).trans hx542_3
       have HR542_3:=Aside0.mk hi542_3
       have HC542_3:=Aside0.mk hl542_3
       clear hi542_3 hl542_3
       replace p542:=eq_true p542
       replace q542:=eq_true q542
       go_wp2_with (first|((with_reducible refine gate_callee (f:=21) rfl ?_);refine goesL_ (some 25) rfl rfl Try.func21 (by kernel_rfl) rfl #[.agg #[.int .i64 ((rd_TDoc l0_3 x6_2).f0),.int .i64 ((rd_TDoc l0_3 x6_2).f1),.string ((rd_TDoc l0_3 x6_2).f2),.slice A542_3 ((rd_TDoc l0_3 x6_2).f3).length c542_3],.int .i64 a1] rfl (by (try simp only [List.map_toArray,List.map_cons,List.map_nil]);first|done|rfl|(simp only [List.length_drop,List.length_take];rfl)) ?_;(with_reducible refine (ih k2 (by have:=HJ2.out;have:=HK2.out;omega) ((rd_TDoc l0_3 x6_2).f0) ((rd_TDoc l0_3 x6_2).f1) ((rd_TDoc l0_3 x6_2).f2) _ _ ((rd_TDoc l0_3 x6_2).f3) a1 t543 _ ?side1 ?side2 A9.out).mono ?_);(case side1=>exact gC (Kd.C_below HR542_3.out HB.out));(case side2=>exact HC542_3.out);rintro e w11 ⟨rfl,hb⟩;refine ⟨_,rfl,?_⟩;have n0_:=Aside0.mk (blk_below (g:=gb541) (o:=.cells #[.int .i64 a0_0,.int .i64 a0_1,.string a0_2,.slice (some ad542) l0_3.length c0_3] 27 (0,0)) (gK BK541) hb);have n1_:=Aside0.mk (below_step (by repeat (first|exact gB HB|refine below_set ?_ GE541.out)) hb);clear BK541;clear HB;have BK541:=n0_;have HB:=n1_;clear n0_ n1_;(try clear hb);(try clear hb2);(try clear hk);(try clear hi)))
       go_roundg k2
       case measure=>have:=HJ2.out;have:=HK2.out;omega
       case rel=>exact ⟨(wrap64 (x5_2+t543)),(wrap64 (x6_2+1)),(by first|rfl|(simp;done)|(simp [*];done)),(by first|rfl|(simp;done)|(simp [*];done)),H',⟨by have:=HJ2.out;have:=HK2.out;omega⟩,⟨gK BK541⟩,⟨by repeat (first|exact gB HB|refine below_set ?_ GE541.out)⟩⟩
      ·rw [if_neg c8] at H
       exact absurd H (by simp)
     ·rw [if_neg c7] at H
      have c7b0:decide (x6_2 < (l0_3.length:Int))=false:=decide_eq_false c7
      clear c7
      obtain rfl:=Option.some.inj H
      have hcz12_0:wr.cell? ⟨gb541,0,none⟩=some (.int .i64 a0_0):=(blk_cell BK541.out 0).trans rfl
      have hcz12_1:wr.cell? ⟨gb541,1,none⟩=some (.int .i64 a0_1):=(blk_cell BK541.out 1).trans rfl
      have hcz12_2:wr.cell? ⟨gb541,2,none⟩=some (.string a0_2):=(blk_cell BK541.out 2).trans rfl
      have hcz12_3:wr.cell? ⟨gb541,3,none⟩=some (.slice A0_3 l0_3.length c0_3):=(blk_cell BK541.out 3).trans rfl
      have hfz12_0:=blk_frozen BK541.out 0
      have hfz12_1:=blk_frozen BK541.out 1
      have hfz12_2:=blk_frozen BK541.out 2
      have hfz12_3:=blk_frozen BK541.out 3
      go_wp2
      go_ret
      exact ⟨by first|rfl|(simp [errW_none,errW_some] <;> rfl)|(simp [*,errW_none,errW_some] <;> rfl),by repeat (first|exact gB HB|refine below_set ?_ GE541.out)⟩
end Go.Proofs.Ytdhdfmmefghijaa.P
namespace Go.Proofs.Ytdhdfmmefghijaa.P
open Go.RowKit Go.Proofs.YtdhdfmmefghijaaW.PrintWords Go.Proofs.YtdhdfmmefghijaaW.PrintLast Go.Proofs.YtdhdfmmefghijaaW.PrintMore
attribute [local go_sem] max2_int min2_int max_two min_two max_three min_three max_four min_four
set_option linter.unusedVariables false
set_option linter.unusedSimpArgs false
def spec_CanFlatten.f (k:Nat) (a0_0:Int) (a0_1:Int) (a0_2:ByteArray) (l0_3:List (SDoc)):Option (Bool):=(spec_DocValid.f k a0_0 a0_1 a0_2 l0_3).bind fun t545=>(if t545=true then ((spec_CountOps.f k a0_0 a0_1 a0_2 l0_3 5).bind fun t546=>(some (t546 == 0))) else (some false))
set_option maxHeartbeats 8000000 in
set_option maxRecDepth 100000 in
theorem spec_CanFlatten.calls (k:Nat) (a0_0:Int) (a0_1:Int) (a0_2:ByteArray) (A0_3:Option Addr) (c0_3:Nat) (l0_3:List (SDoc)) (r:Bool) (w:World) (hr0_3:Kd.C k27 w A0_3 l0_3.length l0_3) (hc0_3:l0_3.length≤c0_3) (h:spec_CanFlatten.f k a0_0 a0_1 a0_2 l0_3=some r) :
  Calls Try.prog 28 #[.agg #[.int .i64 a0_0,.int .i64 a0_1,.string a0_2,.slice A0_3 l0_3.length c0_3]] w fun e w'=>e=.returned (.bool r)∧Below w.heap.size w w':=by
 have hu27:=Try.underlying27
 have HR0_3:=Aside0.mk hr0_3
 have HC0_3:=Aside0.mk hc0_3
 clear hr0_3 hc0_3
 have HB:=Aside0.mk (Below.refl w.heap.size w)
 have H:((spec_DocValid.f k a0_0 a0_1 a0_2 l0_3).bind fun t545=>(if t545=true then ((spec_CountOps.f k a0_0 a0_1 a0_2 l0_3 5).bind fun t546=>(some (t546 == 0))) else (some false)))=some r:=h
 clear h
 replace H:=Option.bind_eq_some_iff.mp H
 obtain ⟨t545,A20,H⟩:=H
 replace H:(if t545=true then ((spec_CountOps.f k a0_0 a0_1 a0_2 l0_3 5).bind fun t546=>(some (t546 == 0))) else (some false))=some r:=H
 have A2:=Aside0.mk A20
 clear A20
 by_cases c3:t545=true
 ·subst c3
  have H1:((spec_CountOps.f k a0_0 a0_1 a0_2 l0_3 5).bind fun t546=>(some (t546 == 0)))=some r:=by rw [if_pos rfl] at H;exact H
  clear H
  have H:=H1
  clear H1
  replace H:=Option.bind_eq_some_iff.mp H
  obtain ⟨t546,A40,H⟩:=H
  replace H:(some (t546 == 0))=some r:=H
  have A4:=Aside0.mk A40
  clear A40
  obtain rfl:=Option.some.inj H
  go_enter Try.func28,Try.ntmps28
  go_wp2_with (first|((with_reducible refine gate_dst (N:=1) rfl ?_);refine box_event ?hg (N:=1) ?hd (cs:=#[.int .i64 a0_0,.int .i64 a0_1,.string a0_2,.slice A0_3 l0_3.length c0_3]) (t:=27) ?hr ?_;(case hd=>rfl);(case hg=>rfl);(case hr=>first|(go_simp;done)|(go_simp;rfl));intro gb544 hg w5 hbox hb;have n0_:=Aside0.mk (below_step (by repeat (first|(with_reducible first|exact HB.out|apply below_alloc|apply pw_below_drewN|apply below_drew1)|exact HB.out)) hb);have n1_:=Aside0.mk (hbox);have n2_:=Aside0.mk ((by rw [hg];exact (below_size (by repeat (first|(with_reducible first|exact HB.out|apply below_alloc|apply pw_below_drewN|apply below_drew1)|exact HB.out))):w.heap.size≤gb544));have n3_:=Aside0.mk ((by rw [hg];exact (below_size (by repeat (first|(with_reducible first|exact HB.out|apply below_alloc|apply pw_below_drewN|apply below_drew1)|exact HB.out))):w.heap.size≤gb544));clear HB;have HB:=n0_;have BK544:=n1_;have GW544:=n2_;have GE544:=n3_;clear n0_ n1_ n2_ n3_;clear hb hbox hg;have hcz6_0:w5.cell? ⟨gb544,0,none⟩=some (.int .i64 a0_0):=(blk_cell BK544.out 0).trans rfl;have hcz6_1:w5.cell? ⟨gb544,1,none⟩=some (.int .i64 a0_1):=(blk_cell BK544.out 1).trans rfl;have hcz6_2:w5.cell? ⟨gb544,2,none⟩=some (.string a0_2):=(blk_cell BK544.out 2).trans rfl;have hcz6_3:w5.cell? ⟨gb544,3,none⟩=some (.slice A0_3 l0_3.length c0_3):=(blk_cell BK544.out 3).trans rfl;have hfz6_0:=blk_frozen BK544.out 0;have hfz6_1:=blk_frozen BK544.out 1;have hfz6_2:=blk_frozen BK544.out 2;have hfz6_3:=blk_frozen BK544.out 3)|((with_reducible refine gate_callee (f:=25) rfl ?_);refine goesL_ (some 4) rfl rfl Try.func25 (by kernel_rfl) rfl #[.agg #[.int .i64 a0_0,.int .i64 a0_1,.string a0_2,.slice A0_3 l0_3.length c0_3]] rfl (by (try simp only [List.map_toArray,List.map_cons,List.map_nil]);first|done|rfl|(simp only [List.length_drop,List.length_take];rfl)) ?_;(with_reducible refine (spec_DocValid.calls k a0_0 a0_1 a0_2 _ _ l0_3 true _ ?side1 ?side2 A2.out).mono ?_);(case side1=>repeat (first|exact (Kd.C_below HR0_3.out HB.out)|(with_reducible refine Kd.C_alloc ?_ _)|(with_reducible refine Kd.C_drewN ?_ _)|(with_reducible refine Kd.C_drew ?_)));(case side2=>exact HC0_3.out);rintro e w7 ⟨rfl,hb⟩;refine ⟨_,rfl,?_⟩;have n0_:=Aside0.mk (blk_below (g:=gb544) (o:=.cells #[.int .i64 a0_0,.int .i64 a0_1,.string a0_2,.slice A0_3 l0_3.length c0_3] 27 (0,0)) (by (with_reducible repeat (first|refine blk_drewN ?_ _|refine blk_drew ?_|refine blk_alloc ?_ _));exact BK544.out) hb);have n1_:=Aside0.mk (below_step (by repeat (first|(with_reducible first|exact HB.out|apply below_alloc|apply pw_below_drewN|apply below_drew1|refine below_set ?_ GE544.out)|exact HB.out)) hb);clear BK544;clear HB;have BK544:=n0_;have HB:=n1_;clear n0_ n1_;(try clear hb);(try clear hb2);(try clear hk);(try clear hi);have hcz8_0:w7.cell? ⟨gb544,0,none⟩=some (.int .i64 a0_0):=(blk_cell BK544.out 0).trans rfl;have hcz8_1:w7.cell? ⟨gb544,1,none⟩=some (.int .i64 a0_1):=(blk_cell BK544.out 1).trans rfl;have hcz8_2:w7.cell? ⟨gb544,2,none⟩=some (.string a0_2):=(blk_cell BK544.out 2).trans rfl;have hcz8_3:w7.cell? ⟨gb544,3,none⟩=some (.slice A0_3 l0_3.length c0_3):=(blk_cell BK544.out 3).trans rfl;have hfz8_0:=blk_frozen BK544.out 0;have hfz8_1:=blk_frozen BK544.out 1;have hfz8_2:=blk_frozen BK544.out 2;have hfz8_3:=blk_frozen BK544.out 3)|(go_at_call 21;(with_reducible refine (spec_CountOps.calls k a0_0 a0_1 a0_2 _ _ l0_3 5 t546 _ ?side1 ?side2 A4.out).mono ?_);(case side1=>repeat (first|exact (Kd.C_below HR0_3.out HB.out)|(with_reducible refine Kd.C_alloc ?_ _)|(with_reducible refine Kd.C_drewN ?_ _)|(with_reducible refine Kd.C_drew ?_)));(case side2=>exact HC0_3.out);rintro e w9 ⟨rfl,hb⟩;have n0_:=Aside0.mk (blk_below (g:=gb544) (o:=.cells #[.int .i64 a0_0,.int .i64 a0_1,.string a0_2,.slice A0_3 l0_3.length c0_3] 27 (0,0)) (by (with_reducible repeat (first|refine blk_drewN ?_ _|refine blk_drew ?_|refine blk_alloc ?_ _));exact BK544.out) hb);have n1_:=Aside0.mk (below_step (by repeat (first|(with_reducible first|exact HB.out|apply below_alloc|apply pw_below_drewN|apply below_drew1|refine below_set ?_ GE544.out)|exact HB.out)) hb);clear BK544;clear HB;have BK544:=n0_;have HB:=n1_;clear n0_ n1_;(try clear hb);(try clear hb2);(try clear hk);(try clear hi)))
  go_ret
  exact ⟨by first|rfl|(simp [errW_none,errW_some] <;> rfl)|(simp [*,errW_none,errW_some] <;> rfl),by repeat (first|(with_reducible first|exact HB.out|apply below_alloc|apply pw_below_drewN|apply below_drew1|refine below_set ?_ GE544.out)|exact HB.out)⟩
 ·replace c3:=Bool.eq_false_iff.mpr c3
  subst c3
  have H1:(some false)=some r:=by rw [if_neg (show ¬ (false=true) by decide)] at H;exact H
  clear H
  have H:=H1
  clear H1
  obtain rfl:=Option.some.inj H
  go_enter Try.func28,Try.ntmps28
  go_wp2_with (first|((with_reducible refine gate_dst (N:=1) rfl ?_);refine box_event ?hg (N:=1) ?hd (cs:=#[.int .i64 a0_0,.int .i64 a0_1,.string a0_2,.slice A0_3 l0_3.length c0_3]) (t:=27) ?hr ?_;(case hd=>rfl);(case hg=>rfl);(case hr=>first|(go_simp;done)|(go_simp;rfl));intro gb544 hg w10 hbox hb;have n0_:=Aside0.mk (below_step (by repeat (first|(with_reducible first|exact HB.out|apply below_alloc|apply pw_below_drewN|apply below_drew1)|exact HB.out)) hb);have n1_:=Aside0.mk (hbox);have n2_:=Aside0.mk ((by rw [hg];exact (below_size (by repeat (first|(with_reducible first|exact HB.out|apply below_alloc|apply pw_below_drewN|apply below_drew1)|exact HB.out))):w.heap.size≤gb544));have n3_:=Aside0.mk ((by rw [hg];exact (below_size (by repeat (first|(with_reducible first|exact HB.out|apply below_alloc|apply pw_below_drewN|apply below_drew1)|exact HB.out))):w.heap.size≤gb544));clear HB;have HB:=n0_;have BK544:=n1_;have GW544:=n2_;have GE544:=n3_;clear n0_ n1_ n2_ n3_;clear hb hbox hg;have hcz11_0:w10.cell? ⟨gb544,0,none⟩=some (.int .i64 a0_0):=(blk_cell BK544.out 0).trans rfl;have hcz11_1:w10.cell? ⟨gb544,1,none⟩=some (.int .i64 a0_1):=(blk_cell BK544.out 1).trans rfl;have hcz11_2:w10.cell? ⟨gb544,2,none⟩=some (.string a0_2):=(blk_cell BK544.out 2).trans rfl;have hcz11_3:w10.cell? ⟨gb544,3,none⟩=some (.slice A0_3 l0_3.length c0_3):=(blk_cell BK544.out 3).trans rfl;have hfz11_0:=blk_frozen BK544.out 0;have hfz11_1:=blk_frozen BK544.out 1;have hfz11_2:=blk_frozen BK544.out 2;have hfz11_3:=blk_frozen BK544.out 3)|((with_reducible refine gate_callee (f:=25) rfl ?_);refine goesL_ (some 4) rfl rfl Try.func25 (by kernel_rfl) rfl #[.agg #[.int .i64 a0_0,.int .i64 a0_1,.string a0_2,.slice A0_3 l0_3.length c0_3]] rfl (by (try simp only [List.map_toArray,List.map_cons,List.map_nil]);first|done|rfl|(simp only [List.length_drop,List.length_take];rfl)) ?_;(with_reducible refine (spec_DocValid.calls k a0_0 a0_1 a0_2 _ _ l0_3 false _ ?side1 ?side2 A2.out).mono ?_);(case side1=>repeat (first|exact (Kd.C_below HR0_3.out HB.out)|(with_reducible refine Kd.C_alloc ?_ _)|(with_reducible refine Kd.C_drewN ?_ _)|(with_reducible refine Kd.C_drew ?_)));(case side2=>exact HC0_3.out);rintro e w12 ⟨rfl,hb⟩;refine ⟨_,rfl,?_⟩;have n0_:=Aside0.mk (blk_below (g:=gb544) (o:=.cells #[.int .i64 a0_0,.int .i64 a0_1,.string a0_2,.slice A0_3 l0_3.length c0_3] 27 (0,0)) (by (with_reducible repeat (first|refine blk_drewN ?_ _|refine blk_drew ?_|refine blk_alloc ?_ _));exact BK544.out) hb);have n1_:=Aside0.mk (below_step (by repeat (first|(with_reducible first|exact HB.out|apply below_alloc|apply pw_below_drewN|apply below_drew1|refine below_set ?_ GE544.out)|exact HB.out)) hb);clear BK544;clear HB;have BK544:=n0_;have HB:=n1_;clear n0_ n1_;(try clear hb);(try clear hb2);(try clear hk);(try clear hi)))
  go_ret
  exact ⟨by first|rfl|(simp [errW_none,errW_some] <;> rfl)|(simp [*,errW_none,errW_some] <;> rfl),by repeat (first|(with_reducible first|exact HB.out|apply below_alloc|apply pw_below_drewN|apply below_drew1|refine below_set ?_ GE544.out)|exact HB.out)⟩
end Go.Proofs.Ytdhdfmmefghijaa.P
namespace Go.Proofs.Ytdhdfmmefghijaa.Pure
open Go.RowKit Go.Proofs.Ytdhdfmmefghijaa.P Go.Proofs.YtdhdfmmefghijaaW.PrintWords Go.Proofs.YtdhdfmmefghijaaW.PrintLast Go.Proofs.YtdhdfmmefghijaaW.PrintMore
set_option linter.unusedVariables false
set_option linter.unusedSimpArgs false
theorem w64 {i : Int} (h0 : -9223372036854775808 ≤ i) (h : i ≤ 9223372036854775807) : wrap64 i = i := by unfold wrap64; omega
theorem Ev.iff {α : Type} {c : Prop} [Decidable c] {f g : Nat → Option α} {r : α} (h1 : c → Ev f r) (h2 : ¬ c → Ev g r) : Ev (fun k => if c then f k else g k) r := by
  by_cases h : c
  · simp only [if_pos h]; exact h1 h
  · simp only [if_neg h]; exact h2 h
theorem SDoc.ind {P : SDoc → Prop} (h : ∀ o n t ks, (∀ k, k ∈ ks → P k) → P ⟨o, n, t, ks⟩) : ∀ d, P d
  | ⟨o, n, t, ks⟩ => h o n t ks (fun k hk => SDoc.ind h k)
termination_by d => SizeOf.sizeOf d
decreasing_by
  have := List.sizeOf_lt_of_mem hk
  simp
  omega
mutual
def dsz : SDoc → Nat
  | ⟨_, _, _, ks⟩ => 1 + dszL ks
def dszL : List SDoc → Nat
  | [] => 0
  | k :: ks => dsz k + dszL ks
end
theorem dszL_len : ∀ (a : List SDoc), a.length ≤ dszL a
  | [] => by simp [dszL]
  | ⟨_, _, _, ks⟩ :: a => by have := dszL_len a; simp [dszL, dsz]; omega
theorem dszL_mem : ∀ {a : List SDoc} {d : SDoc}, d ∈ a → dsz d ≤ dszL a
  | k :: a, d, h => by
    rcases List.mem_cons.1 h with rfl | h
    · simp [dszL]
    · have := dszL_mem h; simp [dszL]; omega
theorem dsz_pos (d : SDoc) : 1 ≤ dsz d := by obtain ⟨_, _, _, ks⟩ := d; simp [dsz]
theorem rdD (a b : List SDoc) (d : SDoc) : rd_TDoc (a ++ d :: b) (a.length : Int) = d := by simp [rd_TDoc]
theorem SDoc_eta (d : SDoc) : (⟨d.f0, d.f1, d.f2, d.f3⟩ : SDoc) = d := by cases d; rfl
theorem dec_eq {p q : Prop} [Decidable p] [Decidable q] (h : p ↔ q) : decide p = decide q := by
  by_cases hq : q
  · rw [decide_eq_true hq, decide_eq_true (h.2 hq)]
  · rw [decide_eq_false hq, decide_eq_false (fun hp => hq (h.1 hp))]
end Go.Proofs.Ytdhdfmmefghijaa.Pure
namespace Go.Proofs.Ytdhdfmmefghijaa.Pure
open Go.RowKit Go.Proofs.Ytdhdfmmefghijaa.P Go.Proofs.YtdhdfmmefghijaaW.PrintWords Go.Proofs.YtdhdfmmefghijaaW.PrintLast Go.Proofs.YtdhdfmmefghijaaW.PrintMore
set_option linter.unusedVariables false
set_option linter.unusedSimpArgs false
def Code (b : List Int) : Prop := b.length ≤ 2000 ∧ ∀ x ∈ b, 0 ≤ x ∧ x < 256
theorem open_ev (l : List Int) (hl : l.length ≤ maxLen) (h : ∀ x ∈ l, (Lit.int .u8 x).wf = true) : ∃ b, Code b ∧ spec_l15Open.f l = some (b, 0) := by
  have hx : ∀ x ∈ l, 0 ≤ x ∧ x < 256 := by
    intro x hx
    have := h x hx
    have e1 : IntKind.u8.min = 0 := rfl
    have e2 : IntKind.u8.max = 255 := rfl
    simp [Lit.wf, e1, e2] at this
    omega
  rw [spec_l15Open.f]
  by_cases c : (l.length : Int) > 2000
  · rw [if_pos c, if_pos (by omega)]
    exact ⟨l.take 2000, ⟨by rw [List.length_take]; omega, fun x hx' => hx x (List.mem_of_mem_take hx')⟩, rfl⟩
  · rw [if_neg c]
    exact ⟨l, ⟨by omega, hx⟩, rfl⟩
theorem rd_in {b : List Int} (hb : Code b) (i : Int) : 0 ≤ rd b i ∧ rd b i < 256 := by
  unfold rd
  rw [List.getD_eq_getElem?_getD]
  cases h : b[i.toNat]? with
  | none => simp
  | some x =>
    have := hb.2 x (List.mem_of_getElem? h)
    simpa using this
theorem xor_nonneg (x y : Int) (hx0 : 0 ≤ x) (hx : x < 4611686018427387904) (hy0 : 0 ≤ y) (hy : y < 4611686018427387904) : 0 ≤ Go.bits .xor .i64 x y := by
  obtain ⟨n, rfl⟩ := Int.eq_ofNat_of_zero_le hx0
  obtain ⟨m, rfl⟩ := Int.eq_ofNat_of_zero_le hy0
  have hn : n < 2 ^ 62 := by omega
  have hm : m < 2 ^ 62 := by omega
  have hxm : n ^^^ m < 2 ^ 62 := Nat.xor_lt_two_pow hn hm
  have e1 : (BitVec.ofInt 64 (n : Int)).toNat = n := by
    rw [BitVec.ofInt_natCast, BitVec.toNat_ofNat]
    exact Nat.mod_eq_of_lt (by omega)
  have e2 : (BitVec.ofInt 64 (m : Int)).toNat = m := by
    rw [BitVec.ofInt_natCast, BitVec.toNat_ofNat]
    exact Nat.mod_eq_of_lt (by omega)
  have e : Go.bits .xor .i64 (n : Int) (m : Int) = IntKind.i64.wrap ((n ^^^ m : Nat) : Int) := by
    show IntKind.i64.wrap ((BitVec.ofInt 64 (n : Int) ^^^ BitVec.ofInt 64 (m : Int)).toNat : Int) = _
    rw [BitVec.toNat_xor, e1, e2]
  rw [e]
  have w : IntKind.i64.wrap ((n ^^^ m : Nat) : Int) = ((n ^^^ m : Nat) : Int) := by
    simp [IntKind.wrap, IntKind.bits, IntKind.signed]
    omega
  rw [w]
  omega
theorem tm_in (x : Int) {n : Int} (h0 : 0 ≤ x) (hn : 0 < n) : 0 ≤ Int.tmod x n ∧ Int.tmod x n < n := ⟨Int.tmod_nonneg n h0, Int.tmod_lt_of_pos x hn⟩
theorem pick_ev {b : List Int} (hb : Code b) (p n : Int) (hp0 : 0 ≤ p) (hp : p ≤ 1000000000) : ∃ r, Ev (fun k => spec_l15Rd_pick.f k b p n) (r, p + 1) ∧ 0 ≤ r ∧ (1 ≤ n → r < n) := by
  have w1 : wrap64 (p + 1) = p + 1 := w64 (by omega) (by omega)
  have w2 : wrap64 (p + 1 - 1) = p := by rw [w64 (by omega) (by omega)]; omega
  have hl := hb.1
  have J0 : Ev (fun k => spec_l15Rd_pick.j0 k n true b (p + 1)) (0, p + 1) := by
    refine Ev.step (fun k => by rw [spec_l15Rd_pick.j0]) ?_
    simp only [if_true]
    exact Ev.now _
  by_cases c1 : n < 1
  · refine ⟨0, Ev.congr (fun k => by rw [spec_l15Rd_pick.f, if_pos c1, w1]) J0, Int.le_refl _, fun h => by omega⟩
  by_cases c2 : (b.length : Int) = 0
  · refine ⟨0, Ev.congr (fun k => by rw [spec_l15Rd_pick.f, if_neg c1, w1, show (((b.length : Int)) == 0) = true by simpa using c2]) J0, Int.le_refl _, fun h => by omega⟩
  have hn0 : n ≠ 0 := by omega
  have start : ∀ R, Ev (fun k => spec_l15Rd_pick.j0 k n false b (p + 1)) R → Ev (fun k => spec_l15Rd_pick.f k b p n) R := by
    intro R h
    exact Ev.congr (fun k => by rw [spec_l15Rd_pick.f, if_neg c1, w1, show (((b.length : Int)) == 0) = false by simpa using c2]) h
  by_cases c3 : p < (b.length : Int)
  · have hr := rd_in hb p
    have w3 : wrap64 (rd b p) = rd b p := w64 (by omega) (by omega)
    have ht := tm_in (rd b p) (n := n) hr.1 (by omega)
    refine ⟨Int.tmod (rd b p) n, start _ (Ev.step (fun k => by rw [spec_l15Rd_pick.j0]) ?_), ht.1, fun _ => ht.2⟩
    simp only [Bool.false_eq_true, if_false, w2, if_pos c3, if_pos hp0, if_neg hn0, w3]
    exact Ev.now _
  · have hlp : 0 < (b.length : Int) := by omega
    have t1 := tm_in p hp0 hlp
    have w3 : wrap64 (p * 7) = p * 7 := w64 (by omega) (by omega)
    have w4 : wrap64 (p * 7 + 3) = p * 7 + 3 := w64 (by omega) (by omega)
    have t2 := tm_in (p * 7 + 3) (by omega) hlp
    have r1 := rd_in hb (Int.tmod p (b.length : Int))
    have r2 := rd_in hb (Int.tmod (p * 7 + 3) (b.length : Int))
    have d0 : 0 ≤ Int.tdiv p (b.length : Int) := Int.tdiv_nonneg hp0 (by omega)
    have d1 : Int.tdiv p (b.length : Int) ≤ p := by
      obtain ⟨m, rfl⟩ := Int.eq_ofNat_of_zero_le hp0
      have : Int.tdiv (m : Int) (b.length : Int) = ((m / b.length : Nat) : Int) := rfl
      rw [this]
      exact Int.ofNat_le.2 (Nat.div_le_self _ _)
    generalize hA : rd b (Int.tmod p (b.length : Int)) = A at r1
    generalize hB : rd b (Int.tmod (p * 7 + 3) (b.length : Int)) = B at r2
    generalize hD : Int.tdiv p (b.length : Int) = D at d0 d1
    have e1 : wrap64 (wrap64 A * 131) = A * 131 := by rw [w64 (i := A) (by omega) (by omega), w64 (by omega) (by omega)]
    have e2 : wrap64 (wrap64 B * 1117) = B * 1117 := by rw [w64 (i := B) (by omega) (by omega), w64 (by omega) (by omega)]
    have e3 : wrap64 (p * 29) = p * 29 := w64 (by omega) (by omega)
    have e4 : wrap64 (wrap64 D * 53) = D * 53 := by rw [w64 (i := D) (by omega) (by omega), w64 (by omega) (by omega)]
    have e5 : wrap64 (A * 131 + B * 1117) = A * 131 + B * 1117 := w64 (by omega) (by omega)
    have e6 : wrap64 (A * 131 + B * 1117 + p * 29) = A * 131 + B * 1117 + p * 29 := w64 (by omega) (by omega)
    have e7 : wrap64 (A * 131 + B * 1117 + p * 29 + D * 53) = A * 131 + B * 1117 + p * 29 + D * 53 := w64 (by omega) (by omega)
    generalize hX : A * 131 + B * 1117 + p * 29 + D * 53 = X at e7
    have hX0 : 0 ≤ X := by omega
    have hX1 : X ≤ 1000000000000 := by omega
    have q0 : 0 ≤ Int.tdiv X 64 := Int.tdiv_nonneg hX0 (by omega)
    have q1 : Int.tdiv X 64 ≤ X := by
      obtain ⟨m, rfl⟩ := Int.eq_ofNat_of_zero_le hX0
      have : Int.tdiv (m : Int) 64 = ((m / 64 : Nat) : Int) := rfl
      rw [this]
      exact Int.ofNat_le.2 (Nat.div_le_self _ _)
    have e8 : wrap64 (Int.tdiv X 64) = Int.tdiv X 64 := w64 (by omega) (by omega)
    have hx := xor_nonneg X (Int.tdiv X 64) hX0 (by omega) q0 (by omega)
    have ht := tm_in (Go.bits .xor .i64 X (Int.tdiv X 64)) (n := n) hx (by omega)
    refine ⟨Int.tmod (Go.bits .xor .i64 X (Int.tdiv X 64)) n, start _ (Ev.step (fun k => by rw [spec_l15Rd_pick.j0]) ?_), ht.1, fun _ => ht.2⟩
    simp only [Bool.false_eq_true, if_false, w2, if_neg c3, if_neg c2, w3, w4, if_pos t1.1, if_pos t1.2, if_pos t2.1, if_pos t2.2, if_neg hn0, hA, hB, hD, e1, e2, e3, e4, e5, e6, e7, hX, e8]
    exact Ev.now _
theorem of_ev {b : List Int} (hb : Code b) (p : Int) (l : List ByteArray) (hl : 0 < l.length) (hp0 : 0 ≤ p) (hp : p ≤ 1000000000) : ∃ s, s ∈ l ∧ Ev (fun k => spec_l15Rd_of.f k b p l) (s, p + 1) := by
  obtain ⟨r, h, h0, h1⟩ := pick_ev hb p (l.length : Int) hp0 hp
  have h1 := h1 (by omega)
  have hr : r.toNat < l.length := by omega
  refine ⟨rdOf ByteArray.empty l r, ?_, Ev.congr (fun k => by rw [spec_l15Rd_of.f]) (Ev.bind h ?_)⟩
  · unfold rdOf
    rw [List.getD_eq_getElem?_getD, List.getElem?_eq_getElem hr]
    exact List.getElem_mem hr
  · simp only [if_pos h0, if_pos h1]
    exact Ev.now _
theorem num_ev {b : List Int} (hb : Code b) (p : Int) (l : List Int) (hl : 0 < l.length) (hp0 : 0 ≤ p) (hp : p ≤ 1000000000) : ∃ s, s ∈ l ∧ Ev (fun k => spec_l15Rd_num.f k b p l) (s, p + 1) := by
  obtain ⟨r, h, h0, h1⟩ := pick_ev hb p (l.length : Int) hp0 hp
  have h1 := h1 (by omega)
  have hr : r.toNat < l.length := by omega
  refine ⟨rd l r, ?_, Ev.congr (fun k => by rw [spec_l15Rd_num.f]) (Ev.bind h ?_)⟩
  · unfold rd
    rw [List.getD_eq_getElem?_getD, List.getElem?_eq_getElem hr]
    exact List.getElem_mem hr
  · simp only [if_pos h0, if_pos h1]
    exact Ev.now _
end Go.Proofs.Ytdhdfmmefghijaa.Pure
namespace Go.Proofs.Ytdhdfmmefghijaa.Pure
open Go.RowKit Go.Proofs.Ytdhdfmmefghijaa.P Go.Proofs.YtdhdfmmefghijaaW.PrintWords Go.Proofs.YtdhdfmmefghijaaW.PrintLast Go.Proofs.YtdhdfmmefghijaaW.PrintMore
set_option linter.unusedVariables false
set_option linter.unusedSimpArgs false
theorem size_data (s : ByteArray) : s.size = s.data.toList.length := by rw [Array.length_toList]; rfl
theorem bt_mid {s : ByteArray} {pre suf : List UInt8} {b : UInt8} (h : s.data.toList = pre ++ b :: suf) : bt s (pre.length : Int) = (b.toNat : Int) := by
  have hl : pre.length < s.size := by
    have := congrArg List.length h
    rw [List.length_append, List.length_cons] at this
    rw [size_data]; omega
  unfold bt
  rw [dif_pos (by simpa using hl)]
  have : s[(pre.length : Int).toNat]'(by simpa using hl) = b := by
    show s.data[(pre.length : Int).toNat]'(by simpa using hl) = b
    rw [← Array.getElem_toList]
    simp [h]
  rw [this]
def signC (c : Int) : Bool := c == 44 || (c == 58 || (c == 61 || (c == 123 || (c == 125 || (c == 40 || (c == 41 || (c == 91 || c == 93)))))))
def letC (c : Int) : Bool := (decide (97 ≤ c) && decide (c ≤ 122)) || (decide (48 ≤ c) && decide (c ≤ 57))
def goodC (c : Int) : Bool := letC c || signC c
def goodB (b : UInt8) : Bool := goodC (b.toNat : Int)
def tv (s : ByteArray) : Bool := decide (1 ≤ s.size) && (decide (s.size ≤ 12) && s.data.toList.all goodB)
theorem specText_j3 {s : ByteArray} {i : Int} {l g R : Bool} (h : Ev (fun k => spec_TextValid.l0 k s (wrap64 (i + 1))) R) : Ev (fun k => spec_TextValid.j3 k s i l g) ((l || g) && R) := by
  refine Ev.step (fun k => by rw [spec_TextValid.j3]) ?_
  cases l <;> cases g <;> simp
  · exact Ev.now _
  · exact h
  · exact h
  · exact h
theorem specText_j2 {s : ByteArray} {i c : Int} {l R : Bool} (h : Ev (fun k => spec_TextValid.l0 k s (wrap64 (i + 1))) R) : Ev (fun k => spec_TextValid.j2 k s i c l) ((l || signC c) && R) := by
  refine Ev.step (fun k => by rw [spec_TextValid.j2]) ?_
  have h3 : ∀ g, Ev (fun k => spec_TextValid.j3 k s i l g) ((l || g) && R) := fun g => specText_j3 h
  repeat' refine Ev.iff (fun hc => ?_) (fun hc => ?_)
  · subst hc; exact h3 true
  · subst hc; exact h3 true
  · subst hc; exact h3 true
  · subst hc; exact h3 true
  · subst hc; exact h3 true
  · subst hc; exact h3 true
  · subst hc; exact h3 true
  · subst hc; exact h3 true
  · have e : signC c = (c == 93) := by rw [Bool.eq_iff_iff]; simp [signC]; omega
    rw [e]; exact h3 _
theorem specText_l0 {s : ByteArray} (hs : s.size ≤ 4611686018427387904) : ∀ (suf pre : List UInt8), s.data.toList = pre ++ suf → Ev (fun k => spec_TextValid.l0 k s (pre.length : Int)) (suf.all goodB) := by
  intro suf
  induction suf with
  | nil =>
    intro pre h
    refine Ev.step (fun k => by rw [spec_TextValid.l0]) ?_
    have c1 : ¬ ((pre.length : Int) < (s.size : Int)) := by rw [size_data, h]; simp
    simp only [if_neg c1]
    exact Ev.now _
  | cons b suf ih =>
    intro pre h
    have hl : pre.length < s.size := by rw [size_data, h]; simp
    refine Ev.step (fun k => by rw [spec_TextValid.l0]) ?_
    have c1 : (pre.length : Int) < (s.size : Int) := by omega
    have c2 : (0 : Int) ≤ (pre.length : Int) := by omega
    simp only [if_pos c1, if_pos c2, bt_mid h]
    have hn : Ev (fun k => spec_TextValid.l0 k s (wrap64 ((pre.length : Int) + 1))) (suf.all goodB) := by
      rw [w64 (by omega) (by omega)]
      have := ih (pre ++ [b]) (by rw [h]; simp)
      rw [show ((pre ++ [b]).length : Int) = (pre.length : Int) + 1 by simp] at this
      exact this
    have h2 : ∀ l, l = letC (b.toNat : Int) → Ev (fun k => spec_TextValid.j2 k s (pre.length : Int) (b.toNat : Int) l) ((b :: suf).all goodB) := by
      intro l hl
      rw [List.all_cons, goodB, goodC, ← hl]
      exact specText_j2 hn
    repeat' refine Ev.iff (fun hc => ?_) (fun hc => ?_)
    all_goals refine h2 _ ?_
    all_goals simp [letC, *]
    all_goals omega
theorem specText_ev (s : ByteArray) (hs : s.size ≤ 4611686018427387904) : Ev (fun k => spec_TextValid.f k s) (tv s) := by
  refine Ev.congr (fun k => by rw [spec_TextValid.f]) ?_
  have hl := specText_l0 hs s.data.toList [] rfl
  have h0 : ∀ b, Ev (fun k => spec_TextValid.j0 k s b) (!b && s.data.toList.all goodB) := by
    intro b
    refine Ev.step (fun k => by rw [spec_TextValid.j0]) ?_
    cases b
    · simpa using hl
    · exact Ev.now _
  refine Ev.iff (fun hc => ?_) (fun hc => ?_)
  · have := h0 true
    rwa [show (!true && s.data.toList.all goodB) = tv s from by simp [tv]; omega] at this
  · have := h0 (decide ((s.size : Int) > 12))
    rwa [show (!decide ((s.size : Int) > 12) && s.data.toList.all goodB) = tv s from by
      have e1 : decide (1 ≤ s.size) = true := by simp; omega
      by_cases h12 : s.size ≤ 12
      · have : ¬ ((s.size : Int) > 12) := by omega
        simp [tv, e1, h12, this]
      · have : (s.size : Int) > 12 := by omega
        simp [tv, h12, this]] at this
theorem sign_idx : ∀ n : Nat, n < 256 → (decide (Lib.indexByte [44, 58, 61, 123, 125, 40, 41, 91, 93] (UInt8.ofNat n) ≥ 0)) = signC (n : Int) := by decide +kernel
theorem implText_j1 {s : ByteArray} {i : Int} {g R : Bool} (h : Ev (fun k => impl_TextValid.l0 k s (wrap64 (i + 1))) R) : Ev (fun k => impl_TextValid.j1 k s i (!g)) (g && R) := by
  refine Ev.step (fun k => by rw [impl_TextValid.j1]) ?_
  cases g <;> simp
  · exact Ev.now _
  · exact h
theorem implText_l0 {s : ByteArray} (hs : s.size ≤ 4611686018427387904) : ∀ (suf pre : List UInt8), s.data.toList = pre ++ suf → Ev (fun k => impl_TextValid.l0 k s (pre.length : Int)) (suf.all goodB && (decide (1 ≤ s.size) && decide (s.size ≤ 12))) := by
  intro suf
  induction suf with
  | nil =>
    intro pre h
    refine Ev.step (fun k => by rw [impl_TextValid.l0]) ?_
    have c1 : ¬ ((pre.length : Int) < (s.size : Int)) := by rw [size_data, h]; simp
    simp only [if_neg c1]
    refine Ev.iff (fun hc => ?_) (fun hc => ?_)
    · rw [show (([] : List UInt8).all goodB && (decide (1 ≤ s.size) && decide (s.size ≤ 12))) = decide ((s.size : Int) ≤ 12) from by
        have : 1 ≤ s.size := by omega
        simp [this]; omega]
      exact Ev.now _
    · rw [show (([] : List UInt8).all goodB && (decide (1 ≤ s.size) && decide (s.size ≤ 12))) = false from by
        have : ¬ 1 ≤ s.size := by omega
        simp [this]]
      exact Ev.now _
  | cons b suf ih =>
    intro pre h
    have hl : pre.length < s.size := by rw [size_data, h]; simp
    refine Ev.step (fun k => by rw [impl_TextValid.l0]) ?_
    have c1 : (pre.length : Int) < (s.size : Int) := by omega
    have c2 : (0 : Int) ≤ (pre.length : Int) := by omega
    simp only [if_pos c1, if_pos c2, bt_mid h]
    have hn : Ev (fun k => impl_TextValid.l0 k s (wrap64 ((pre.length : Int) + 1))) (suf.all goodB && (decide (1 ≤ s.size) && decide (s.size ≤ 12))) := by
      rw [w64 (by omega) (by omega)]
      have := ih (pre ++ [b]) (by rw [h]; simp)
      rw [show ((pre ++ [b]).length : Int) = (pre.length : Int) + 1 by simp] at this
      exact this
    have h2 : ∀ g, g = goodC (b.toNat : Int) → Ev (fun k => impl_TextValid.j1 k s (pre.length : Int) (!g)) ((b :: suf).all goodB && (decide (1 ≤ s.size) && decide (s.size ≤ 12))) := by
      intro g hg
      rw [List.all_cons, goodB, ← hg, Bool.and_assoc]
      exact implText_j1 hn
    have hb : b.toNat < 256 := b.toNat_lt
    have hi : strings_IndexByte.f (⟨#[44, 58, 61, 123, 125, 40, 41, 91, 93]⟩ : ByteArray) (b.toNat : Int) = some (Lib.indexByte [44, 58, 61, 123, 125, 40, 41, 91, 93] (UInt8.ofNat b.toNat)) := by
      simp [strings_IndexByte.f]
    have hsg := sign_idx b.toNat hb
    simp only [hi, Option.bind_some, hsg]
    repeat' refine Ev.iff (fun hc => ?_) (fun hc => ?_)
    all_goals refine h2 _ ?_
    all_goals
      have e : letC (b.toNat : Int) = true ∨ letC (b.toNat : Int) = false := by cases letC (b.toNat : Int) <;> simp
      rcases e with e | e <;> simp [goodC, e] <;> (simp [letC] at e; omega)
theorem implText_ev (s : ByteArray) (hs : s.size ≤ 4611686018427387904) : Ev (fun k => impl_TextValid.f k s) (tv s) := by
  refine Ev.congr (fun k => by rw [impl_TextValid.f]) ?_
  have hl := implText_l0 hs s.data.toList [] rfl
  rwa [show (s.data.toList.all goodB && (decide (1 ≤ s.size) && decide (s.size ≤ 12))) = tv s from by
    simp only [tv]
    cases s.data.toList.all goodB <;> simp] at hl
end Go.Proofs.Ytdhdfmmefghijaa.Pure
namespace Go.Proofs.Ytdhdfmmefghijaa.Pure
open Go.RowKit Go.Proofs.Ytdhdfmmefghijaa.P Go.Proofs.YtdhdfmmefghijaaW.PrintWords Go.Proofs.YtdhdfmmefghijaaW.PrintLast Go.Proofs.YtdhdfmmefghijaaW.PrintMore
set_option linter.unusedVariables false
set_option linter.unusedSimpArgs false
mutual
/-- nodes and bytes of texts -/
def msz : SDoc → Nat
  | ⟨_, _, t, ks⟩ => 1 + t.size + mszL ks
def mszL : List SDoc → Nat
  | [] => 0
  | k :: ks => msz k + mszL ks
end
theorem mszL_len : ∀ (a : List SDoc), a.length ≤ mszL a
  | [] => by simp [mszL]
  | ⟨_, _, _, ks⟩ :: a => by have := mszL_len a; simp [mszL, msz]; omega
theorem mszL_mem : ∀ {a : List SDoc} {d : SDoc}, d ∈ a → msz d ≤ mszL a
  | k :: a, d, h => by
    rcases List.mem_cons.1 h with rfl | h
    · simp [mszL]
    · have := mszL_mem h; simp [mszL]; omega
theorem mszL_app : ∀ (a b : List SDoc), mszL (a ++ b) = mszL a + mszL b
  | [], b => by simp [mszL]
  | k :: a, b => by simp [mszL, mszL_app a b]; omega
theorem dsz_msz : ∀ d : SDoc, dsz d ≤ msz d := by
  intro d
  induction d using SDoc.ind with
  | h o n t ks ih =>
    have key : ∀ l : List SDoc, (∀ k, k ∈ l → dsz k ≤ msz k) → dszL l ≤ mszL l := by
      intro l
      induction l with
      | nil => intro _; simp [dszL, mszL]
      | cons y l ihl =>
        intro hl
        have h1 := hl y List.mem_cons_self
        have h2 := ihl (fun k hk => hl k (List.mem_cons_of_mem _ hk))
        simp only [dszL, mszL]
        omega
    have := key ks ih
    simp only [dsz, msz]
    omega
theorem specCount_loop (o n : Int) (t : ByteArray) (suf : List SDoc) : ∀ (pre : List SDoc) (acc : Int),
    (∀ y, y ∈ suf → Ev (fun k => spec_l1Count.f k y.f0 y.f1 y.f2 y.f3) (dsz y : Int)) → 0 ≤ acc → acc + dszL suf ≤ 9223372036854775807 → pre.length + suf.length ≤ 4611686018427387904 →
    Ev (fun k => spec_l1Count.l0 k acc (pre.length : Int) o n t (pre ++ suf)) (acc + dszL suf) := by
  induction suf with
  | nil =>
    intro pre acc _ h0 hs hm
    refine Ev.step (fun k => by rw [spec_l1Count.l0]) ?_
    simp only [List.append_nil, Int.lt_irrefl, if_false, dszL, Int.natCast_zero, Int.add_zero]
    exact Ev.now _
  | cons y suf ih =>
    intro pre acc hy h0 hs hm
    simp only [List.length_cons, dszL] at hm hs
    refine Ev.step (fun k => by rw [spec_l1Count.l0]) ?_
    have c1 : (pre.length : Int) < ((pre ++ y :: suf).length : Int) := by simp; omega
    have c2 : (0 : Int) ≤ (pre.length : Int) := by omega
    simp only [if_pos c1, if_pos c2, rdD]
    refine Ev.bind (hy y List.mem_cons_self) ?_
    rw [w64 (i := acc + dsz y) (by omega) (by omega), w64 (by omega) (by omega)]
    have := ih (pre ++ [y]) (acc + dsz y) (fun z hz => hy z (List.mem_cons_of_mem _ hz)) (by omega) (by omega) (by simp; omega)
    rw [List.append_assoc, show ((pre ++ [y]).length : Int) = (pre.length : Int) + 1 by simp] at this
    rw [show acc + (dszL (y :: suf) : Int) = acc + dsz y + dszL suf by simp [dszL]; omega]
    exact this
theorem specCount_ev : ∀ (d : SDoc), dsz d ≤ 4611686018427387904 → Ev (fun k => spec_l1Count.f k d.f0 d.f1 d.f2 d.f3) (dsz d : Int) := by
  intro d
  induction d using SDoc.ind with
  | h o n t ks ih =>
    intro hd
    simp only [dsz] at hd
    refine Ev.step (fun k => by rw [spec_l1Count.f]) ?_
    have := specCount_loop o n t ks [] 1 (fun y hy => ih y hy (by have := dszL_mem hy; omega)) (by omega) (by omega) (by have := dszL_len ks; simp; omega)
    rw [show ((dsz ⟨o, n, t, ks⟩ : Nat) : Int) = 1 + (dszL ks : Int) by simp [dsz]]
    simpa using this
end Go.Proofs.Ytdhdfmmefghijaa.Pure
namespace Go.Proofs.Ytdhdfmmefghijaa.Pure
open Go.RowKit Go.Proofs.Ytdhdfmmefghijaa.P Go.Proofs.YtdhdfmmefghijaaW.PrintWords Go.Proofs.YtdhdfmmefghijaaW.PrintLast Go.Proofs.YtdhdfmmefghijaaW.PrintMore
set_option linter.unusedVariables false
set_option linter.unusedSimpArgs false
theorem toList_data (bs : ByteArray) : bs.toList = bs.data.toList := by
  have key : ∀ (n i : Nat) (r : List UInt8), bs.size - i = n → ByteArray.toList.loop bs i r = r.reverse ++ bs.data.toList.drop i := by
    intro n
    induction n with
    | zero =>
      intro i r h
      rw [ByteArray.toList.loop]
      have : ¬ i < bs.size := by omega
      simp [this]
      omega
    | succ n ih =>
      intro i r h
      rw [ByteArray.toList.loop]
      have hi : i < bs.size := by omega
      simp only [hi, if_true]
      rw [ih (i+1) _ (by omega)]
      have h2 : i < bs.data.toList.length := by rw [Array.length_toList]; exact hi
      rw [List.drop_eq_getElem_cons h2]
      have h3 : i < bs.data.size := hi
      have : bs.get! i = bs.data.toList[i] := by
        simp [ByteArray.get!, Array.getElem!_eq_getD, Array.getD, hi]
      simp [this]
  unfold ByteArray.toList
  rw [key bs.size 0 [] (by omega)]
  simp
theorem toList_nil {a : ByteArray} : a.toList = [] ↔ a.size = 0 := by
  rw [toList_data, size_data, List.length_eq_zero_iff]
def nodeOk (o n : Int) (t : ByteArray) (len : Nat) : Bool :=
  decide (1 ≤ o) && (decide (o ≤ 8) && (decide ((len : Int) = docKids o) && (decide (0 ≤ n) && (decide (n ≤ 9) && (decide (n = 0 ∨ o = 6) && (if o = 2 then tv t else decide (t.size = 0)))))))
mutual
def wf : SDoc → Nat → Bool
  | ⟨o, n, t, ks⟩, deep => decide (deep ≠ 0) && (nodeOk o n t ks.length && wfL ks (deep - 1))
def wfL : List SDoc → Nat → Bool
  | [], _ => true
  | k :: ks, deep => wf k deep && wfL ks deep
end
def docV (d : SDoc) : Bool := wf d 40 && decide (dsz d ≤ 80)
theorem wfL_all : ∀ (ks : List SDoc) (deep : Nat), wfL ks deep = ks.all fun k => wf k deep
  | [], _ => rfl
  | k :: ks, deep => by rw [wfL, wfL_all ks deep, List.all_cons]
theorem dszL_cons (y : SDoc) (l : List SDoc) : dszL (y :: l) = dsz y + dszL l := rfl
theorem dsz_mk (o n : Int) (t : ByteArray) (ks : List SDoc) : dsz ⟨o, n, t, ks⟩ = 1 + dszL ks := rfl
theorem wfL_cons (y : SDoc) (l : List SDoc) (deep : Nat) : wfL (y :: l) deep = true ↔ wf y deep = true ∧ wfL l deep = true := by rw [wfL, Bool.and_eq_true]
theorem wf_mk (o n : Int) (t : ByteArray) (ks : List SDoc) (deep : Nat) : wf ⟨o, n, t, ks⟩ deep = true ↔ deep ≠ 0 ∧ nodeOk o n t ks.length = true ∧ wfL ks (deep - 1) = true := by rw [wf, Bool.and_eq_true, Bool.and_eq_true, decide_eq_true_eq]
theorem nodeOk_iff (o n : Int) (t : ByteArray) (len : Nat) : nodeOk o n t len = true ↔ 1 ≤ o ∧ o ≤ 8 ∧ (len : Int) = docKids o ∧ 0 ≤ n ∧ n ≤ 9 ∧ (n = 0 ∨ o = 6) ∧ (if o = 2 then tv t else decide (t.size = 0)) = true := by
  simp only [nodeOk, Bool.and_eq_true, decide_eq_true_eq]
theorem docV_iff (d : SDoc) : docV d = true ↔ wf d 40 = true ∧ dsz d ≤ 80 := by rw [docV, Bool.and_eq_true, decide_eq_true_eq]
theorem implOk_loop (deep : Nat) (hdp : deep ≤ 40) (suf : List SDoc) : ∀ (pre : List SDoc) (left : Int),
    (∀ y, y ∈ suf → ∀ left : Int, 0 ≤ left → left ≤ 80 → ∃ b l', Ev (fun k => impl_docOk.f k y.f0 y.f1 y.f2 y.f3 (wrap64 ((deep : Int) - 1)) left) (b, l') ∧ (b = true ↔ wf y (deep - 1) = true ∧ (dsz y : Int) ≤ left) ∧ (b = true → l' = left - dsz y)) →
    0 ≤ left → left ≤ 80 → pre.length + suf.length ≤ 4611686018427387904 →
    ∃ b l', Ev (fun k => impl_docOk.l0 k (pre ++ suf) (pre.length : Int) (deep : Int) left) (b, l') ∧ (b = true ↔ wfL suf (deep - 1) = true ∧ (dszL suf : Int) ≤ left) ∧ (b = true → l' = left - dszL suf) := by
  induction suf with
  | nil =>
    intro pre left _ h0 h1 hm
    refine ⟨true, left, ?_, by simp [wfL, dszL, h0], fun _ => by simp [dszL]⟩
    refine Ev.step (fun k => by rw [impl_docOk.l0]) ?_
    simp only [List.append_nil, Int.lt_irrefl, if_false]
    exact Ev.now _
  | cons y suf ih =>
    intro pre left hy h0 h1 hm
    simp only [List.length_cons] at hm
    obtain ⟨b, l1, he, hb, hl⟩ := hy y List.mem_cons_self left h0 h1
    have c1 : (pre.length : Int) < ((pre ++ y :: suf).length : Int) := by simp; omega
    have c2 : (0 : Int) ≤ (pre.length : Int) := by omega
    have hp := dsz_pos y
    rw [dszL_cons, wfL_cons]
    cases b with
    | false =>
      have hnb : ¬ (wf y (deep - 1) = true ∧ (dsz y : Int) ≤ left) := fun h => by have := hb.2 h; cases this
      refine ⟨false, l1, ?_, ?_, fun h => by cases h⟩
      · refine Ev.step (fun k => by rw [impl_docOk.l0]) ?_
        simp only [if_pos c1, if_pos c2, rdD]
        refine Ev.bind he ?_
        simp only [Bool.false_eq_true, if_false]
        exact Ev.now _
      · refine ⟨fun h => (by cases h), fun h => absurd ⟨h.1.1, ?_⟩ hnb⟩
        have := h.2
        omega
    | true =>
      obtain ⟨hw, hle⟩ := hb.1 rfl
      obtain rfl := hl rfl
      obtain ⟨b2, l2, he2, hb2, hl2⟩ := ih (pre ++ [y]) (left - dsz y) (fun z hz => hy z (List.mem_cons_of_mem _ hz)) (by omega) (by omega) (by simp; omega)
      refine ⟨b2, l2, ?_, ?_, fun h => ?_⟩
      · refine Ev.step (fun k => by rw [impl_docOk.l0]) ?_
        simp only [if_pos c1, if_pos c2, rdD]
        refine Ev.bind he ?_
        simp only [if_true]
        rw [w64 (by omega) (by omega)]
        rw [List.append_assoc, show ((pre ++ [y]).length : Int) = (pre.length : Int) + 1 by simp] at he2
        exact he2
      · rw [hb2]
        constructor
        · intro h; exact ⟨⟨hw, h.1⟩, by have := h.2; omega⟩
        · intro h; exact ⟨h.1.2, by have := h.2; omega⟩
      · have := hl2 h
        omega
theorem implOk_ev : ∀ (d : SDoc), msz d ≤ 1099511627776 → ∀ (deep : Nat), deep ≤ 40 → ∀ (left : Int), 0 ≤ left → left ≤ 80 →
    ∃ b l', Ev (fun k => impl_docOk.f k d.f0 d.f1 d.f2 d.f3 (deep : Int) left) (b, l') ∧ (b = true ↔ wf d deep = true ∧ (dsz d : Int) ≤ left) ∧ (b = true → l' = left - dsz d) := by
  intro d
  induction d using SDoc.ind with
  | h o n t ks ih =>
    intro hd deep hdp left h0 h1
    simp only [msz] at hd
    have hkl := mszL_len ks
    have hwl : wrap64 (left - 1) = left - 1 := w64 (by omega) (by omega)
    rw [wf_mk, dsz_mk, nodeOk_iff]
    by_cases a1 : (deep : Int) = 0 ∨ wrap64 (left - 1) < 0 ∨ o < 1 ∨ 8 < o
    · refine ⟨false, wrap64 (left - 1), ?_, ⟨fun h => (by cases h), fun h => ?_⟩, fun h => by cases h⟩
      · refine Ev.step (fun k => by rw [impl_docOk.f]) ?_
        simp only [if_pos a1]
        exact Ev.now _
      · exfalso
        rw [hwl] at a1
        obtain ⟨⟨h1, ⟨h2, h3, _⟩, _⟩, h4⟩ := h
        omega
    · have hd0 : deep ≠ 0 := fun e => a1 (.inl (by omega))
      have hl0 : ¬ (left - 1 < 0) := fun e => a1 (.inr (.inl (by omega)))
      have ho1 : ¬ o < 1 := fun e => a1 (.inr (.inr (.inl e)))
      have ho8 : ¬ 8 < o := fun e => a1 (.inr (.inr (.inr e)))
      by_cases a2 : ¬ ((ks.length : Int) = docKids o) ∨ n < 0 ∨ 9 < n ∨ (0 < n ∧ ¬ (o = 6))
      · refine ⟨false, wrap64 (left - 1), ?_, ⟨fun h => (by cases h), fun h => ?_⟩, fun h => by cases h⟩
        · refine Ev.step (fun k => by rw [impl_docOk.f]) ?_
          simp only [if_neg a1, if_pos a2]
          exact Ev.now _
        · exfalso
          obtain ⟨⟨_, ⟨_, _, h3, h4, h5, h6, _⟩, _⟩, _⟩ := h
          rcases a2 with a | a | a | a
          · exact a h3
          · omega
          · omega
          · rcases h6 with h6 | h6
            · omega
            · exact a.2 h6
      · have b3 : (ks.length : Int) = docKids o := Decidable.not_not.1 (fun e => a2 (.inl e))
        have b4 : ¬ n < 0 := fun e => a2 (.inr (.inl e))
        have b5 : ¬ 9 < n := fun e => a2 (.inr (.inr (.inl e)))
        have b6 : n = 0 ∨ o = 6 := by
          by_cases hn : 0 < n
          · exact .inr (Decidable.not_not.1 (fun e => a2 (.inr (.inr (.inr ⟨hn, e⟩)))))
          · exact .inl (by omega)
        -- the loop
        obtain ⟨b, l2, he2, hb2, hl2⟩ := implOk_loop deep hdp ks [] (left - 1) (fun y hy left' h0' h1' => by
            have hym := mszL_mem hy
            obtain ⟨b', l', h, h', h''⟩ := ih y hy (by omega) (deep - 1) (by omega) left' h0' h1'
            refine ⟨b', l', ?_, h', h''⟩
            rw [w64 (by omega) (by omega), show ((deep : Int) - 1) = ((deep - 1 : Nat) : Int) by omega]
            exact h) (by omega) (by omega) (by simp; omega)
        have hloop : Ev (fun k => impl_docOk.l0 k ks 0 (deep : Int) (wrap64 (left - 1))) (b, l2) := by rw [hwl]; simpa using he2
        have good : ∀ x : Prop, x → ((b = true ↔ (deep ≠ 0 ∧ (1 ≤ o ∧ o ≤ 8 ∧ (ks.length : Int) = docKids o ∧ 0 ≤ n ∧ n ≤ 9 ∧ (n = 0 ∨ o = 6) ∧ x) ∧ wfL ks (deep - 1) = true) ∧ ((1 + dszL ks : Nat) : Int) ≤ left) ∧ (b = true → l2 = left - ((1 + dszL ks : Nat) : Int))) := by
          intro x hx
          refine ⟨?_, fun h => by have := hl2 h; omega⟩
          rw [hb2]
          constructor
          · intro h; exact ⟨⟨hd0, ⟨by omega, by omega, b3, by omega, by omega, b6, hx⟩, h.1⟩, by have := h.2; omega⟩
          · intro h; exact ⟨h.1.2.2, by have := h.2; omega⟩
        have bad : ∀ x : Prop, ¬ x → (((false : Bool) = true ↔ (deep ≠ 0 ∧ (1 ≤ o ∧ o ≤ 8 ∧ (ks.length : Int) = docKids o ∧ 0 ≤ n ∧ n ≤ 9 ∧ (n = 0 ∨ o = 6) ∧ x) ∧ wfL ks (deep - 1) = true) ∧ ((1 + dszL ks : Nat) : Int) ≤ left) ∧ ((false : Bool) = true → wrap64 (left - 1) = left - ((1 + dszL ks : Nat) : Int))) := by
          intro x hx
          exact ⟨⟨fun h => (by cases h), fun h => absurd h.1.2.1.2.2.2.2.2.2 hx⟩, fun h => by cases h⟩
        by_cases e9 : o = 2
        · have hT := implText_ev t (by omega)
          rw [if_pos e9]
          cases htv : tv t with
          | false =>
            refine ⟨false, wrap64 (left - 1), ?_, bad _ (by simp)⟩
            refine Ev.step (fun k => by rw [impl_docOk.f]) ?_
            simp only [if_neg a1, if_neg a2, if_pos e9]
            refine Ev.bind hT ?_
            simp only [htv, Bool.false_eq_true, if_false]
            exact Ev.now _
          | true =>
            refine ⟨b, l2, ?_, good _ rfl⟩
            refine Ev.step (fun k => by rw [impl_docOk.f]) ?_
            simp only [if_neg a1, if_neg a2, if_pos e9]
            refine Ev.bind hT ?_
            simp only [htv, if_true]
            exact hloop
        · rw [if_neg e9, decide_eq_true_eq]
          by_cases e10 : t.toList = []
          · have hz := toList_nil.1 e10
            refine ⟨b, l2, ?_, good _ hz⟩
            refine Ev.step (fun k => by rw [impl_docOk.f]) ?_
            simp only [if_neg a1, if_neg a2, if_neg e9, if_pos e10]
            exact hloop
          · have hz : ¬ t.size = 0 := fun e => e10 (toList_nil.2 e)
            refine ⟨false, wrap64 (left - 1), ?_, bad _ hz⟩
            refine Ev.step (fun k => by rw [impl_docOk.f]) ?_
            simp only [if_neg a1, if_neg a2, if_neg e9, if_neg e10]
            exact Ev.now _
theorem implValid_ev (d : SDoc) (hd : msz d ≤ 1099511627776) : Ev (fun k => impl_DocValid.f k d.f0 d.f1 d.f2 d.f3) (docV d) := by
  obtain ⟨b, l', h, hb, _⟩ := implOk_ev d hd 40 (by omega) 80 (by omega) (by omega)
  refine Ev.congr (fun k => by rw [impl_DocValid.f]) ?_
  refine Ev.bind (h : Ev (fun k => impl_docOk.f k d.f0 d.f1 d.f2 d.f3 40 80) _) ?_
  rw [show docV d = b from by
    rw [Bool.eq_iff_iff, hb, docV_iff]
    constructor
    · intro h; exact ⟨h.1, by have := h.2; omega⟩
    · intro h; exact ⟨h.1, by have := h.2; omega⟩]
  exact Ev.now _
theorem specKids_ev (o : Int) : Ev (fun k => spec_l1Kids.f k o) (if o < 1 ∨ 8 < o then -1 else docKids o) := by
  have j1 : ∀ b, Ev (fun k => spec_l1Kids.j1 k o b) (if b = true then 1 else if o = 7 then 2 else -1) := by
    intro b
    refine Ev.step (fun k => by rw [spec_l1Kids.j1]) ?_
    cases b
    · simp only [Bool.false_eq_true, if_false]
      by_cases h : o = 7
      · simp only [if_pos h]; exact Ev.now _
      · simp only [if_neg h]; exact Ev.now _
    · exact Ev.now _
  have j0 : ∀ b, Ev (fun k => spec_l1Kids.j0 k o b) (if b = true then 0 else if o = 6 ∨ o = 8 then 1 else if o = 7 then 2 else -1) := by
    intro b
    refine Ev.step (fun k => by rw [spec_l1Kids.j0]) ?_
    cases b
    · simp only [Bool.false_eq_true, if_false]
      by_cases h : o = 6
      · simp only [if_pos h]
        have := j1 (o == 6)
        rw [h] at this ⊢
        simpa using this
      · simp only [if_neg h]
        have := j1 (o == 8)
        by_cases h8 : o = 8
        · rw [h8] at this ⊢
          simpa using this
        · rw [show (o == 8) = false by simpa using h8] at this ⊢
          simpa [h, h8] using this
    · exact Ev.now _
  refine Ev.congr (fun k => by rw [spec_l1Kids.f]) ?_
  have fin : ∀ x b, (o = x → b = true) → (b = true → 1 ≤ o ∧ o ≤ 5) → (b = false → ¬ (1 ≤ o ∧ o ≤ 5)) → Ev (fun k => spec_l1Kids.j0 k o b) (if o < 1 ∨ 8 < o then -1 else docKids o) := by
    intro x b _ h1 h2
    have := j0 b
    cases b
    · have := h2 rfl
      rename_i this'
      rw [show (if o < 1 ∨ 8 < o then -1 else docKids o) = (if (false : Bool) = true then 0 else if o = 6 ∨ o = 8 then 1 else if o = 7 then 2 else -1) from by
        by_cases q : o < 1 ∨ 8 < o
        · have : ¬ (o = 6 ∨ o = 8) := by omega
          have : ¬ o = 7 := by omega
          simp [*]
        · have : o = 6 ∨ o = 7 ∨ o = 8 := by omega
          rcases this with rfl | rfl | rfl <;> simp [docKids]]
      exact this'
    · have := h1 rfl
      rename_i this'
      rw [show (if o < 1 ∨ 8 < o then -1 else docKids o) = 0 from by
        have q : ¬ (o < 1 ∨ 8 < o) := by omega
        rw [if_neg q]
        have : o = 1 ∨ o = 2 ∨ o = 3 ∨ o = 4 ∨ o = 5 := by omega
        rcases this with rfl | rfl | rfl | rfl | rfl <;> rfl]
      exact this'
  repeat' refine Ev.iff (fun hc => ?_) (fun hc => ?_)
  · subst hc; exact fin 1 _ (fun _ => rfl) (fun _ => by omega) (fun h => by cases h)
  · subst hc; exact fin 2 _ (fun _ => rfl) (fun _ => by omega) (fun h => by cases h)
  · subst hc; exact fin 3 _ (fun _ => rfl) (fun _ => by omega) (fun h => by cases h)
  · subst hc; exact fin 4 _ (fun _ => rfl) (fun _ => by omega) (fun h => by cases h)
  · refine fin 5 _ (fun h => by simp [h]) (fun h => by have : o = 5 := by simpa using h
                                                       omega) (fun h => by have : ¬ o = 5 := by simpa using h
                                                                           omega)
theorem specIs_loop (o n : Int) (t : ByteArray) (deep : Nat) (suf : List SDoc) : ∀ (pre : List SDoc),
    (∀ y, y ∈ suf → Ev (fun k => spec_l1Is.f k y.f0 y.f1 y.f2 y.f3 (wrap64 ((deep : Int) - 1))) (wf y (deep - 1))) → pre.length + suf.length ≤ 4611686018427387904 →
    Ev (fun k => spec_l1Is.l0 k (deep : Int) (pre.length : Int) o n t (pre ++ suf)) (wfL suf (deep - 1)) := by
  induction suf with
  | nil =>
    intro pre _ hm
    refine Ev.step (fun k => by rw [spec_l1Is.l0]) ?_
    simp only [List.append_nil, Int.lt_irrefl, if_false]
    exact Ev.now _
  | cons y suf ih =>
    intro pre hy hm
    simp only [List.length_cons] at hm
    have c1 : (pre.length : Int) < ((pre ++ y :: suf).length : Int) := by simp; omega
    have c2 : (0 : Int) ≤ (pre.length : Int) := by omega
    refine Ev.step (fun k => by rw [spec_l1Is.l0]) ?_
    simp only [if_pos c1, if_pos c2, rdD]
    refine Ev.bind (hy y List.mem_cons_self) ?_
    cases hw : wf y (deep - 1) with
    | false =>
      simp only [Bool.false_eq_true, if_false]
      rw [show wfL (y :: suf) (deep - 1) = false from by rw [wfL, hw, Bool.false_and]]
      exact Ev.now _
    | true =>
      simp only [if_true]
      rw [w64 (by omega) (by omega), show wfL (y :: suf) (deep - 1) = wfL suf (deep - 1) from by rw [wfL, hw, Bool.true_and]]
      have := ih (pre ++ [y]) (fun z hz => hy z (List.mem_cons_of_mem _ hz)) (by simp; omega)
      rw [List.append_assoc, show ((pre ++ [y]).length : Int) = (pre.length : Int) + 1 by simp] at this
      exact this
theorem specIs_ev : ∀ (d : SDoc), msz d ≤ 1099511627776 → ∀ (deep : Nat), deep ≤ 40 → Ev (fun k => spec_l1Is.f k d.f0 d.f1 d.f2 d.f3 (deep : Int)) (wf d deep) := by
  intro d
  induction d using SDoc.ind with
  | h o n t ks ih =>
    intro hd deep hdp
    simp only [msz] at hd
    have hkl := mszL_len ks
    have hloop : deep ≠ 0 → Ev (fun k => spec_l1Is.l0 k (deep : Int) 0 o n t ks) (wfL ks (deep - 1)) := fun h0 => by
      have := specIs_loop o n t deep ks [] (fun y hy => by
        have hym := mszL_mem hy
        rw [w64 (by omega) (by omega), show ((deep : Int) - 1) = ((deep - 1 : Nat) : Int) by omega]
        exact ih y hy (by omega) (deep - 1) (by omega)) (by simp; omega)
      simpa using this
    -- the tests, from the last one on
    have j2 : deep ≠ 0 → ∀ b, Ev (fun k => spec_l1Is.j2 k (deep : Int) b o n t ks) (!b && wfL ks (deep - 1)) := fun h0 b => by
      refine Ev.step (fun k => by rw [spec_l1Is.j2]) ?_
      cases b
      · simpa using hloop h0
      · exact Ev.now _
    have j1 : deep ≠ 0 → ∀ b, Ev (fun k => spec_l1Is.j1 k (deep : Int) b o n t ks) (!b && (decide ((o = 6 ∧ 0 ≤ n ∧ n ≤ 9) ∨ (o ≠ 6 ∧ n = 0)) && wfL ks (deep - 1))) := fun h0 b => by
      refine Ev.step (fun k => by rw [spec_l1Is.j1]) ?_
      cases b
      · simp only [Bool.false_eq_true, if_false, Bool.not_false, Bool.true_and]
        have fin : ∀ b, (b = true ↔ ¬ ((o = 6 ∧ 0 ≤ n ∧ n ≤ 9) ∨ (o ≠ 6 ∧ n = 0))) → Ev (fun k => spec_l1Is.j2 k (deep : Int) b o n t ks) (decide ((o = 6 ∧ 0 ≤ n ∧ n ≤ 9) ∨ (o ≠ 6 ∧ n = 0)) && wfL ks (deep - 1)) := fun b hb => by
          have := j2 h0 b
          rwa [show (!b) = decide ((o = 6 ∧ 0 ≤ n ∧ n ≤ 9) ∨ (o ≠ 6 ∧ n = 0)) from by
            rw [Bool.eq_iff_iff, decide_eq_true_eq]
            cases b
            · have : (o = 6 ∧ 0 ≤ n ∧ n ≤ 9) ∨ (o ≠ 6 ∧ n = 0) := Decidable.not_not.1 (fun h => by have := hb.2 h; cases this)
              simpa using this
            · have := hb.1 rfl
              simpa using this] at this
        repeat' refine Ev.iff (fun hc => ?_) (fun hc => ?_)
        · exact fin true ⟨fun _ => by omega, fun _ => rfl⟩
        · exact fin true ⟨fun _ => by omega, fun _ => rfl⟩
        · exact fin false ⟨fun h => (by cases h), fun h => absurd (by omega) h⟩
        · refine fin (n != 0) ⟨fun h => ?_, fun h => ?_⟩
          · have : ¬ n = 0 := by simpa using h
            omega
          · have : ¬ n = 0 := by omega
            simpa using this
      · exact Ev.now _
    have j0 : deep ≠ 0 → ∀ b, Ev (fun k => spec_l1Is.j0 k (deep : Int) b o n t ks) (!b && ((if o = 2 then tv t else decide (t.size = 0)) && (decide ((o = 6 ∧ 0 ≤ n ∧ n ≤ 9) ∨ (o ≠ 6 ∧ n = 0)) && wfL ks (deep - 1)))) := fun h0 b => by
      refine Ev.step (fun k => by rw [spec_l1Is.j0]) ?_
      cases b
      · simp only [Bool.false_eq_true, if_false, Bool.not_false, Bool.true_and]
        by_cases h2 : o = 2
        · simp only [if_pos h2]
          refine Ev.bind (specText_ev t (by omega)) ?_
          cases tv t
          · simp only [Bool.false_eq_true, if_false]
            exact j1 h0 true
          · simp only [if_true]
            exact j1 h0 false
        · simp only [if_neg h2]
          have := j1 h0 (t.toList != ([] : List UInt8))
          rwa [show (!(t.toList != ([] : List UInt8))) = decide (t.size = 0) from by
            rw [Bool.eq_iff_iff, decide_eq_true_eq, ← toList_nil]; simp] at this
      · exact Ev.now _
    refine Ev.step (fun k => by rw [spec_l1Is.f]) ?_
    by_cases h0 : deep = 0
    · subst h0
      simp only [Int.natCast_zero, if_true]
      rw [show wf ⟨o, n, t, ks⟩ 0 = false from by rw [wf]; simp]
      refine Ev.step (fun k => by rw [spec_l1Is.j0]) ?_
      exact Ev.now _
    · have c0 : ¬ (deep : Int) = 0 := by omega
      simp only [if_neg c0]
      refine Ev.bind (specKids_ev o) ?_
      have := j0 h0 ((ks.length : Int) != (if o < 1 ∨ 8 < o then -1 else docKids o))
      rwa [show (!((ks.length : Int) != (if o < 1 ∨ 8 < o then -1 else docKids o)) && ((if o = 2 then tv t else decide (t.size = 0)) && (decide ((o = 6 ∧ 0 ≤ n ∧ n ≤ 9) ∨ (o ≠ 6 ∧ n = 0)) && wfL ks (deep - 1)))) = wf ⟨o, n, t, ks⟩ deep from by
        rw [Bool.eq_iff_iff, wf_mk, nodeOk_iff]
        simp only [Bool.and_eq_true, decide_eq_true_eq, Bool.not_eq_true', bne_eq_false_iff_eq]
        generalize (if o = 2 then tv t else decide (t.size = 0)) = tt
        constructor
        · rintro ⟨h1, h2, h3, h4⟩
          by_cases q : o < 1 ∨ 8 < o
          · rw [if_pos q] at h1; omega
          · rw [if_neg q] at h1
            exact ⟨h0, ⟨by omega, by omega, h1, by omega, by omega, by omega, h2⟩, h4⟩
        · rintro ⟨_, ⟨h1, h2, h3, h4, h5, h6, h7⟩, h8⟩
          have q : ¬ (o < 1 ∨ 8 < o) := by omega
          rw [if_neg q]
          exact ⟨h3, h7, by omega, h8⟩] at this
theorem specValid_ev (d : SDoc) (hd : msz d ≤ 1099511627776) : Ev (fun k => spec_DocValid.f k d.f0 d.f1 d.f2 d.f3) (docV d) := by
  refine Ev.congr (fun k => by rw [spec_DocValid.f]) ?_
  refine Ev.bind (specIs_ev d hd 40 (by omega)) ?_
  cases hw : wf d 40 with
  | false =>
    simp only [Bool.false_eq_true, if_false]
    rw [show docV d = false from by rw [docV, hw, Bool.false_and]]
    exact Ev.now _
  | true =>
    simp only [if_true]
    have := dsz_msz d
    refine Ev.bind (specCount_ev d (by omega)) ?_
    rw [show docV d = decide ((dsz d : Int) ≤ 80) from by rw [docV, hw, Bool.true_and]; exact dec_eq (by omega)]
    exact Ev.now _
end Go.Proofs.Ytdhdfmmefghijaa.Pure
namespace Go.Proofs.Ytdhdfmmefghijaa.Pure
open Go.RowKit Go.Proofs.Ytdhdfmmefghijaa.P Go.Proofs.YtdhdfmmefghijaaW.PrintWords Go.Proofs.YtdhdfmmefghijaaW.PrintLast Go.Proofs.YtdhdfmmefghijaaW.PrintMore
set_option linter.unusedVariables false
set_option linter.unusedSimpArgs false
def ba (l : List UInt8) : ByteArray := ⟨l.toArray⟩
theorem ba_size (l : List UInt8) : (ba l).size = l.length := by simp [ba, ByteArray.size]
theorem ba_data (l : List UInt8) : (ba l).data.toList = l := by simp [ba]
theorem ba_of (s : ByteArray) : ba s.data.toList = s := by
  obtain ⟨⟨l⟩⟩ := s
  rfl
theorem ba_extract (l : List UInt8) (i j : Nat) : (ba l).extract i j = ba ((l.drop i).take (j - i)) := by
  apply ByteArray.ext
  apply Array.ext'
  simp [ba, List.take_drop]
def pW : List UInt8 → Option (List UInt8 × List UInt8)
  | [] => none
  | c :: s => if (c.toNat : Int) = 34 then some ([], s) else (pW s).map fun q => (c :: q.1, q.2)
def pK (f : List UInt8 → Option (SDoc × List UInt8)) : Nat → Int → List UInt8 → Option (List SDoc × List UInt8)
  | 0, _, [] => none
  | 0, e, c :: r => if (c.toNat : Int) = e then some ([], r) else none
  | m + 1, e, s => (f s).bind fun q => (pK f m e q.2).map fun p => (q.1 :: p.1, p.2)
def hd60 : List UInt8 → Bool
  | [] => false
  | c :: _ => (c.toNat : Int) == 60
def pN (f : List UInt8 → Option (SDoc × List UInt8)) : List UInt8 → Option (SDoc × List UInt8)
  | [] => none
  | c :: s =>
    if (c.toNat : Int) = 126 then some (⟨1, 0, ba [], []⟩, s) else if (c.toNat : Int) = 95 then some (⟨3, 0, ba [], []⟩, s)
    else if (c.toNat : Int) = 46 then some (⟨4, 0, ba [], []⟩, s) else if (c.toNat : Int) = 33 then some (⟨5, 0, ba [], []⟩, s)
    else if (c.toNat : Int) = 34 then (pW s).map fun q => (⟨2, 0, ba q.1, []⟩, q.2)
    else if (c.toNat : Int) = 40 then (pK f 2 41 s).map fun q => (⟨7, 0, ba [], q.1⟩, q.2)
    else if (c.toNat : Int) = 91 then (pK f 1 93 s).map fun q => (⟨8, 0, ba [], q.1⟩, q.2)
    else if 48 ≤ (c.toNat : Int) ∧ (c.toNat : Int) ≤ 57 ∧ hd60 s = true then (pK f 1 62 s.tail).map fun q => (⟨6, (c.toNat : Int) - 48, ba [], q.1⟩, q.2)
    else none
def pD : Nat → List UInt8 → Option (SDoc × List UInt8)
  | 0 => fun _ => none
  | n + 1 => pN (pD n)
theorem pW_is : ∀ {s a r : List UInt8}, pW s = some (a, r) → ∃ c : UInt8, (c.toNat : Int) = 34 ∧ s = a ++ c :: r
  | c :: s, a, r, h => by
    rw [pW] at h
    by_cases e : (c.toNat : Int) = 34
    · rw [if_pos e] at h
      obtain ⟨rfl, rfl⟩ := Prod.mk.inj (Option.some.inj h)
      exact ⟨c, e, rfl⟩
    · rw [if_neg e] at h
      obtain ⟨⟨a', r'⟩, h1, h2⟩ := Option.map_eq_some_iff.1 h
      obtain ⟨rfl, rfl⟩ := Prod.mk.inj h2
      obtain ⟨c', hc, hs⟩ := pW_is h1
      exact ⟨c', hc, by rw [hs]; rfl⟩
def Good (f : List UInt8 → Option (SDoc × List UInt8)) : Prop := ∀ s d r, f s = some (d, r) → msz d + r.length ≤ s.length ∧ ∃ u, s = u ++ r
theorem pK_good {f} (hf : Good f) : ∀ (m : Nat) (e : Int) (s : List UInt8) (ks : List SDoc) (r : List UInt8), pK f m e s = some (ks, r) → ks.length = m ∧ mszL ks + 1 + r.length ≤ s.length ∧ ∃ u, s = u ++ r
  | 0, e, [], ks, r, h => by simp [pK] at h
  | 0, e, c :: s, ks, r, h => by
    rw [pK] at h
    by_cases e' : (c.toNat : Int) = e
    · rw [if_pos e'] at h
      obtain ⟨rfl, rfl⟩ := Prod.mk.inj (Option.some.inj h)
      exact ⟨rfl, by simp [mszL]; omega, [c], rfl⟩
    · rw [if_neg e'] at h; cases h
  | m + 1, e, s, ks, r, h => by
    rw [pK] at h
    obtain ⟨⟨d, r1⟩, h1, h⟩ := Option.bind_eq_some_iff.1 h
    obtain ⟨⟨l, r2⟩, h2, h⟩ := Option.map_eq_some_iff.1 h
    obtain ⟨rfl, rfl⟩ := Prod.mk.inj h
    obtain ⟨g1, u1, e1⟩ := hf _ _ _ h1
    obtain ⟨g2, g3, u2, e2⟩ := pK_good hf m e _ _ _ h2
    simp only at g3 e2
    refine ⟨by simp [g2], ?_, u1 ++ u2, by rw [e1, e2, List.append_assoc]⟩
    simp only [mszL]
    have : r1.length = u2.length + r2.length := by rw [e2, List.length_append]
    omega
theorem pN_good {f} (hf : Good f) : Good (pN f) := by
  intro s d r h
  match s, h with
  | c :: s, h =>
    rw [pN] at h
    by_cases c1 : (c.toNat : Int) = 126
    · rw [if_pos c1] at h; obtain ⟨rfl, rfl⟩ := Prod.mk.inj (Option.some.inj h)
      exact ⟨by simp [msz, mszL, ba_size]; omega, [c], rfl⟩
    rw [if_neg c1] at h
    by_cases c2 : (c.toNat : Int) = 95
    · rw [if_pos c2] at h; obtain ⟨rfl, rfl⟩ := Prod.mk.inj (Option.some.inj h)
      exact ⟨by simp [msz, mszL, ba_size]; omega, [c], rfl⟩
    rw [if_neg c2] at h
    by_cases c3 : (c.toNat : Int) = 46
    · rw [if_pos c3] at h; obtain ⟨rfl, rfl⟩ := Prod.mk.inj (Option.some.inj h)
      exact ⟨by simp [msz, mszL, ba_size]; omega, [c], rfl⟩
    rw [if_neg c3] at h
    by_cases c4 : (c.toNat : Int) = 33
    · rw [if_pos c4] at h; obtain ⟨rfl, rfl⟩ := Prod.mk.inj (Option.some.inj h)
      exact ⟨by simp [msz, mszL, ba_size]; omega, [c], rfl⟩
    rw [if_neg c4] at h
    by_cases c5 : (c.toNat : Int) = 34
    · rw [if_pos c5] at h
      obtain ⟨⟨a, r'⟩, h1, h2⟩ := Option.map_eq_some_iff.1 h
      obtain ⟨rfl, rfl⟩ := Prod.mk.inj h2
      obtain ⟨q, _, rfl⟩ := pW_is h1
      exact ⟨by simp [msz, mszL, ba_size]; omega, c :: a ++ [q], by simp⟩
    rw [if_neg c5] at h
    by_cases c6 : (c.toNat : Int) = 40
    · rw [if_pos c6] at h
      obtain ⟨⟨a, r'⟩, h1, h2⟩ := Option.map_eq_some_iff.1 h
      obtain ⟨rfl, rfl⟩ := Prod.mk.inj h2
      obtain ⟨_, g, u, rfl⟩ := pK_good hf _ _ _ _ _ h1
      exact ⟨by simp [msz, ba_size] at g ⊢; omega, c :: u, by simp⟩
    rw [if_neg c6] at h
    by_cases c7 : (c.toNat : Int) = 91
    · rw [if_pos c7] at h
      obtain ⟨⟨a, r'⟩, h1, h2⟩ := Option.map_eq_some_iff.1 h
      obtain ⟨rfl, rfl⟩ := Prod.mk.inj h2
      obtain ⟨_, g, u, rfl⟩ := pK_good hf _ _ _ _ _ h1
      exact ⟨by simp [msz, ba_size] at g ⊢; omega, c :: u, by simp⟩
    rw [if_neg c7] at h
    by_cases c8 : 48 ≤ (c.toNat : Int) ∧ (c.toNat : Int) ≤ 57 ∧ hd60 s = true
    · rw [if_pos c8] at h
      obtain ⟨⟨a, r'⟩, h1, h2⟩ := Option.map_eq_some_iff.1 h
      obtain ⟨rfl, rfl⟩ := Prod.mk.inj h2
      obtain ⟨_, g, u, e⟩ := pK_good hf _ _ _ _ _ h1
      match s, c8, e, g with
      | [], c8, _, _ => simp [hd60] at c8
      | q :: s, _, e, g =>
        simp only [List.tail_cons] at e g
        subst e
        exact ⟨by simp [msz, ba_size] at g ⊢; omega, c :: q :: u, by simp⟩
    · rw [if_neg c8] at h; cases h
theorem pD_good : ∀ n, Good (pD n)
  | 0 => fun s d r h => by simp [pD] at h
  | n + 1 => pN_good (pD_good n)
def endAt (N : Nat) {α : Type} : Option (α × List UInt8) → Int
  | some q => (N : Int) - (q.2.length : Int)
  | none => -1
def parseR (L : List UInt8) : Option SDoc := match pD 40 L with
  | some (d, []) => if docV d = true then some d else none
  | _ => none
def docR : Option SDoc → Int × Int × ByteArray × List SDoc × Bool
  | some d => (d.f0, d.f1, d.f2, d.f3, true)
  | none => (0, 0, ⟨#[]⟩, [], false)
end Go.Proofs.Ytdhdfmmefghijaa.Pure
namespace Go.Proofs.Ytdhdfmmefghijaa.Pure
open Go.RowKit Go.Proofs.Ytdhdfmmefghijaa.P Go.Proofs.YtdhdfmmefghijaaW.PrintWords Go.Proofs.YtdhdfmmefghijaaW.PrintLast Go.Proofs.YtdhdfmmefghijaaW.PrintMore
set_option linter.unusedVariables false
set_option linter.unusedSimpArgs false
theorem bt_at {L pre suf : List UInt8} {c : UInt8} (h : L = pre ++ c :: suf) : bt (ba L) (pre.length : Int) = (c.toNat : Int) := bt_mid (s := ba L) (by rw [ba_data]; exact h)
def wordR (N : Nat) (mid : List UInt8) : Option (List UInt8 × List UInt8) → Int × Int × ByteArray × List SDoc × Int
  | some q => (2, 0, ba (mid ++ q.1), [], (N : Int) - (q.2.length : Int))
  | none => (0, 0, ⟨#[]⟩, [], -1)
theorem specWord_loop {L pre : List UInt8} {c0 : UInt8} (hL : L.length ≤ 1099511627776) : ∀ (suf mid : List UInt8), L = pre ++ c0 :: (mid ++ suf) →
    Ev (fun k => spec_l1Word.l0 k (ba L) (pre.length : Int) ((pre.length + 1 + mid.length : Nat) : Int)) (wordR L.length mid (pW suf)) := by
  intro suf
  induction suf with
  | nil =>
    intro mid h
    have hl : L.length = pre.length + 1 + mid.length := by rw [h]; simp; omega
    refine Ev.step (fun k => by rw [spec_l1Word.l0]) ?_
    simp only [ba_size, if_neg (show ¬ (((pre.length + 1 + mid.length : Nat) : Int) < (L.length : Int)) by omega)]
    refine Ev.step (fun k => by rw [spec_l1Word.j1]) ?_
    simp only [ba_size, if_pos (show ((pre.length + 1 + mid.length : Nat) : Int) ≥ (L.length : Int) by omega)]
    exact Ev.now _
  | cons c suf ih =>
    intro mid h
    have hl : L.length = pre.length + 1 + mid.length + 1 + suf.length := by rw [h]; simp; omega
    have hb : bt (ba L) ((pre.length + 1 + mid.length : Nat) : Int) = (c.toNat : Int) := by
      have := bt_at (L := L) (pre := pre ++ c0 :: mid) (suf := suf) (c := c) (by rw [h]; simp)
      rw [show ((pre.length + 1 + mid.length : Nat) : Int) = (((pre ++ c0 :: mid).length : Nat) : Int) by simp; omega]
      exact this
    refine Ev.step (fun k => by rw [spec_l1Word.l0]) ?_
    simp only [ba_size, if_pos (show ((pre.length + 1 + mid.length : Nat) : Int) < (L.length : Int) by omega), if_pos (show (0 : Int) ≤ ((pre.length + 1 + mid.length : Nat) : Int) by omega), hb]
    rw [pW]
    by_cases e : (c.toNat : Int) = 34
    · simp only [if_pos e]
      refine Ev.step (fun k => by rw [spec_l1Word.j1]) ?_
      have w1 : wrap64 ((pre.length : Int) + 1) = ((pre.length + 1 : Nat) : Int) := by rw [w64 (by omega) (by omega)]; omega
      have w2 : wrap64 (((pre.length + 1 + mid.length : Nat) : Int) + 1) = (L.length : Int) - (suf.length : Int) := by rw [w64 (by omega) (by omega)]; omega
      have hx : (ba L).extract (((pre.length + 1 : Nat) : Int).toNat) (((pre.length + 1 + mid.length : Nat) : Int).toNat) = ba mid := by
        rw [ba_extract, Int.toNat_natCast, Int.toNat_natCast, h, show pre ++ c0 :: (mid ++ c :: suf) = (pre ++ [c0]) ++ (mid ++ c :: suf) by simp, List.drop_left' (by simp), List.take_left' (by omega)]
      simp only [ba_size, if_neg (show ¬ (((pre.length + 1 + mid.length : Nat) : Int) ≥ (L.length : Int)) by omega), w1, w2, if_pos (show (0 : Int) ≤ ((pre.length + 1 : Nat) : Int) by omega),
        if_pos (show ((pre.length + 1 : Nat) : Int) ≤ ((pre.length + 1 + mid.length : Nat) : Int) by omega), if_pos (show ((pre.length + 1 + mid.length : Nat) : Int) ≤ (L.length : Int) by omega), hx]
      simp only [wordR, List.append_nil]
      exact Ev.now _
    · simp only [if_neg e]
      have w1 : wrap64 (((pre.length + 1 + mid.length : Nat) : Int) + 1) = ((pre.length + 1 + (mid ++ [c]).length : Nat) : Int) := by rw [w64 (by omega) (by omega)]; simp; omega
      rw [w1]
      have := ih (mid ++ [c]) (by rw [h]; simp)
      have e2 : wordR L.length (mid ++ [c]) (pW suf) = wordR L.length mid ((pW suf).map fun q => (c :: q.1, q.2)) := by
        cases pW suf <;> simp [wordR]
      rw [← e2]
      exact this
def RdS (L : List UInt8) (n : Nat) : Prop := ∀ pre suf : List UInt8, L = pre ++ suf → ∃ d : SDoc, Ev (fun k => spec_l1Read.f k (ba L) (pre.length : Int) (n : Int)) (d.f0, d.f1, d.f2, d.f3, endAt L.length (pD n suf)) ∧ ∀ d' r, pD n suf = some (d', r) → d' = d
theorem specInner_loop {L : List UInt8} (hL : L.length ≤ 1099511627776) {n : Nat} (hn : n + 1 ≤ 40) (IH : RdS L n) (e : Int) (x2 : Nat) (hx2 : x2 ≤ 2) : ∀ (m : Nat), m ≤ x2 → ∀ (pre suf : List UInt8) (out : List SDoc), L = pre ++ suf → out.length + m = x2 →
    ∃ l : List SDoc, Ev (fun k => spec_l1Inner.l0 k (ba L) (pre.length : Int) (x2 : Int) e ((n + 1 : Nat) : Int) out (out.length : Int)) (l, endAt L.length (pK (pD n) m e suf)) ∧ ∀ ks r, pK (pD n) m e suf = some (ks, r) → l = out ++ ks := by
  intro m
  induction m with
  | zero =>
    intro _ pre suf out h ho
    refine ⟨out, Ev.step (fun k => by rw [spec_l1Inner.l0]) ?_, ?_⟩
    · simp only [if_neg (show ¬ ((out.length : Int) < (x2 : Int)) by omega), ba_size]
      match suf, h with
      | [], h =>
        have hl : L.length = pre.length := by rw [h]; simp
        simp only [if_pos (show (pre.length : Int) ≥ (L.length : Int) by omega)]
        exact Ev.now _
      | c :: suf, h =>
        have hl : L.length = pre.length + 1 + suf.length := by rw [h]; simp; omega
        simp only [if_neg (show ¬ ((pre.length : Int) ≥ (L.length : Int)) by omega), if_pos (show (0 : Int) ≤ (pre.length : Int) by omega), if_pos (show (pre.length : Int) < (L.length : Int) by omega), bt_at h, pK]
        by_cases c1 : (c.toNat : Int) = e
        · simp only [if_pos c1]
          rw [w64 (by omega) (by omega), show endAt L.length (some (([] : List SDoc), suf)) = (pre.length : Int) + 1 by simp [endAt]; omega]
          exact Ev.now _
        · simp only [if_neg c1]
          exact Ev.now _
    · intro ks r hk
      match suf, hk with
      | [], hk => simp [pK] at hk
      | c :: suf, hk =>
        rw [pK] at hk
        by_cases c1 : (c.toNat : Int) = e
        · rw [if_pos c1] at hk
          obtain ⟨rfl, rfl⟩ := Prod.mk.inj (Option.some.inj hk)
          simp
        · rw [if_neg c1] at hk; cases hk
  | succ m ih =>
    intro hm pre suf out h ho
    obtain ⟨d, hd, hd'⟩ := IH pre suf h
    have w1 : wrap64 (((n + 1 : Nat) : Int) - 1) = (n : Int) := by rw [w64 (by omega) (by omega)]; omega
    have c1 : (out.length : Int) < (x2 : Int) := by omega
    cases hp : pD n suf with
    | none =>
      rw [hp] at hd
      refine ⟨out, Ev.step (fun k => by rw [spec_l1Inner.l0]) ?_, ?_⟩
      · simp only [if_pos c1, w1]
        refine Ev.bind hd ?_
        simp only [endAt, show ((-1 : Int) < 0) = True by simp, if_true]
        rw [pK, hp]
        exact Ev.now _
      · intro ks r hk
        rw [pK, hp] at hk
        cases hk
    | some q =>
      obtain ⟨d1, r1⟩ := q
      obtain rfl := hd' d1 r1 hp
      obtain ⟨_, u, rfl⟩ := pD_good n _ _ _ hp
      have hl : L.length = pre.length + u.length + r1.length := by rw [h]; simp; omega
      obtain ⟨l, hl1, hl2⟩ := ih (by omega) (pre ++ u) r1 (out ++ [d1]) (by rw [h]; simp) (by simp; omega)
      rw [hp] at hd
      have e1 : endAt L.length (some (d1, r1)) = (((pre ++ u).length : Nat) : Int) := by simp [endAt]; omega
      rw [e1] at hd
      refine ⟨l, Ev.step (fun k => by rw [spec_l1Inner.l0]) ?_, ?_⟩
      · simp only [if_pos c1, w1]
        refine Ev.bind hd ?_
        simp only [if_neg (show ¬ ((((pre ++ u).length : Nat) : Int) < 0) by omega), if_pos (show out.length < 2513169434916 by omega), SDoc_eta]
        rw [w64 (by omega) (by omega), show (out.length : Int) + 1 = ((out ++ [d1]).length : Int) by simp]
        rw [pK, hp]
        have e2 : endAt L.length (((some (d1, r1)).bind fun q => (pK (pD n) m e q.2).map fun p => (q.1 :: p.1, p.2)) : Option (List SDoc × List UInt8)) = endAt L.length (pK (pD n) m e r1) := by
          simp only [Option.bind_some]
          cases pK (pD n) m e r1 <;> rfl
        rw [e2]
        exact hl1
      · intro ks r hk
        rw [pK, hp] at hk
        simp only [Option.bind_some] at hk
        obtain ⟨⟨l2, r2⟩, h1, h2⟩ := Option.map_eq_some_iff.1 hk
        obtain ⟨rfl, rfl⟩ := Prod.mk.inj h2
        rw [hl2 l2 r2 h1]
        simp
theorem specRead_ev {L : List UInt8} (hL : L.length ≤ 1099511627776) : ∀ n : Nat, n ≤ 40 → RdS L n := by
  intro n
  induction n with
  | zero =>
    intro _ pre suf h
    refine ⟨⟨0, 0, ⟨#[]⟩, []⟩, Ev.step (fun k => by rw [spec_l1Read.f]) ?_, fun d' r hp => by simp [pD] at hp⟩
    have J : Ev (fun k => spec_l1Read.j0 k (ba L) (pre.length : Int) ((0 : Nat) : Int) true) (0, 0, (⟨#[]⟩ : ByteArray), ([] : List SDoc), -1) := by
      refine Ev.step (fun k => by rw [spec_l1Read.j0]) ?_
      simp only [if_true]
      exact Ev.now _
    exact Ev.iff (fun _ => J) (fun _ => J)
  | succ n ih =>
    intro hn pre suf h
    have IH := ih (by omega)
    match suf, h with
    | [], h =>
      have hl : L.length = pre.length := by rw [h]; simp
      refine ⟨⟨0, 0, ⟨#[]⟩, []⟩, Ev.step (fun k => by rw [spec_l1Read.f]) ?_, fun d' r hp => by simp [pD, pN] at hp⟩
      simp only [ba_size, if_pos (show (pre.length : Int) ≥ (L.length : Int) by omega)]
      refine Ev.step (fun k => by rw [spec_l1Read.j0]) ?_
      simp only [if_true]
      exact Ev.now _
    | c :: suf, h =>
      have hl : L.length = pre.length + 1 + suf.length := by rw [h]; simp; omega
      have h' : L = (pre ++ [c]) ++ suf := by rw [h]; simp
      have w1 : wrap64 ((pre.length : Int) + 1) = (((pre ++ [c]).length : Nat) : Int) := by rw [w64 (by omega) (by omega)]; simp
      have start : ∀ R, Ev (fun k => spec_l1Read.j0 k (ba L) (pre.length : Int) ((n + 1 : Nat) : Int) false) R → Ev (fun k => spec_l1Read.f k (ba L) (pre.length : Int) ((n + 1 : Nat) : Int)) R := by
        intro R hR
        refine Ev.step (fun k => by rw [spec_l1Read.f]) ?_
        simp only [ba_size, if_neg (show ¬ ((pre.length : Int) ≥ (L.length : Int)) by omega)]
        rw [show (((n + 1 : Nat) : Int) == 0) = false by simp; omega]
        exact hR
      have inner : ∀ (pre' suf' : List UInt8) (m : Nat) (e : Int), L = pre' ++ suf' → m ≤ 2 → ∃ l : List SDoc, Ev (fun k => spec_l1Inner.f k (ba L) (pre'.length : Int) (m : Int) e ((n + 1 : Nat) : Int)) (l, endAt L.length (pK (pD n) m e suf')) ∧ ∀ ks r, pK (pD n) m e suf' = some (ks, r) → l = ks := by
        intro pre' suf' m e hp hm
        obtain ⟨l, h1, h2⟩ := specInner_loop hL (by omega) IH e m hm m (Nat.le_refl _) pre' suf' [] hp (by simp)
        exact ⟨l, Ev.step (fun k => by rw [spec_l1Inner.f]; rfl) h1, fun ks r hk => by rw [h2 ks r hk]; rfl⟩
      have leafs : ∀ o : Int, pD (n + 1) (c :: suf) = some (⟨o, 0, ba [], []⟩, suf) → Ev (fun k => spec_l1Read.j0 k (ba L) (pre.length : Int) ((n + 1 : Nat) : Int) false) (o, 0, (⟨#[]⟩ : ByteArray), ([] : List SDoc), (((pre ++ [c]).length : Nat) : Int)) →
          ∃ d : SDoc, Ev (fun k => spec_l1Read.f k (ba L) (pre.length : Int) ((n + 1 : Nat) : Int)) (d.f0, d.f1, d.f2, d.f3, endAt L.length (pD (n + 1) (c :: suf))) ∧ ∀ d' r, pD (n + 1) (c :: suf) = some (d', r) → d' = d := by
        intro o hp hR
        refine ⟨⟨o, 0, ba [], []⟩, start _ ?_, fun d' r hd => by rw [hp] at hd; exact (Prod.mk.inj (Option.some.inj hd)).1.symm⟩
        rw [hp, show endAt L.length (some ((⟨o, 0, ba [], []⟩ : SDoc), suf)) = (((pre ++ [c]).length : Nat) : Int) by simp [endAt]; omega]
        exact hR
      have J : ∀ R, (Ev (fun k => if (c.toNat : Int) = 126 then (some ((1 : Int), (0 : Int), (⟨#[]⟩ : ByteArray), ([] : List SDoc), (((pre ++ [c]).length : Nat) : Int))) else (if (c.toNat : Int) = 95 then (some (3, 0, (⟨#[]⟩ : ByteArray), ([] : List SDoc), (((pre ++ [c]).length : Nat) : Int))) else (if (c.toNat : Int) = 46 then (some (4, 0, (⟨#[]⟩ : ByteArray), ([] : List SDoc), (((pre ++ [c]).length : Nat) : Int))) else (if (c.toNat : Int) = 33 then (some (5, 0, (⟨#[]⟩ : ByteArray), ([] : List SDoc), (((pre ++ [c]).length : Nat) : Int))) else (if (c.toNat : Int) = 34 then ((spec_l1Word.f k (ba L) (pre.length : Int)).bind fun b => (some (b.1, b.2.1, b.2.2.1, b.2.2.2.1, b.2.2.2.2))) else (if (c.toNat : Int) = 40 then ((spec_l1Inner.f k (ba L) (((pre ++ [c]).length : Nat) : Int) 2 41 ((n + 1 : Nat) : Int)).bind fun b => (some (7, 0, (⟨#[]⟩ : ByteArray), b.1, b.2))) else (if (c.toNat : Int) = 91 then ((spec_l1Inner.f k (ba L) (((pre ++ [c]).length : Nat) : Int) 1 93 ((n + 1 : Nat) : Int)).bind fun b => (some (8, 0, (⟨#[]⟩ : ByteArray), b.1, b.2))) else (if (c.toNat : Int) ≥ 48 then (if (c.toNat : Int) ≤ 57 then (if (((pre ++ [c]).length : Nat) : Int) < (L.length : Int) then (if 0 ≤ (((pre ++ [c]).length : Nat) : Int) then (spec_l1Read.j1 k (ba L) (pre.length : Int) ((n + 1 : Nat) : Int) ((bt (ba L) (((pre ++ [c]).length : Nat) : Int)) == 60)) else (none)) else (spec_l1Read.j1 k (ba L) (pre.length : Int) ((n + 1 : Nat) : Int) false)) else (spec_l1Read.j1 k (ba L) (pre.length : Int) ((n + 1 : Nat) : Int) false)) else (spec_l1Read.j1 k (ba L) (pre.length : Int) ((n + 1 : Nat) : Int) false))))))))) R) →
          Ev (fun k => spec_l1Read.j0 k (ba L) (pre.length : Int) ((n + 1 : Nat) : Int) false) R := by
        intro R hR
        refine Ev.step (fun k => by rw [spec_l1Read.j0]) ?_
        simp only [Bool.false_eq_true, if_false, if_pos (show (0 : Int) ≤ (pre.length : Int) by omega), ba_size, if_pos (show (pre.length : Int) < (L.length : Int) by omega), bt_at h, w1]
        exact hR
      by_cases c1 : (c.toNat : Int) = 126
      · refine leafs 1 (by rw [pD, pN, if_pos c1]) (J _ ?_)
        simp only [if_pos c1]; exact Ev.now _
      by_cases c2 : (c.toNat : Int) = 95
      · refine leafs 3 (by rw [pD, pN, if_neg c1, if_pos c2]) (J _ ?_)
        simp only [if_neg c1, if_pos c2]; exact Ev.now _
      by_cases c3 : (c.toNat : Int) = 46
      · refine leafs 4 (by rw [pD, pN, if_neg c1, if_neg c2, if_pos c3]) (J _ ?_)
        simp only [if_neg c1, if_neg c2, if_pos c3]; exact Ev.now _
      by_cases c4 : (c.toNat : Int) = 33
      · refine leafs 5 (by rw [pD, pN, if_neg c1, if_neg c2, if_neg c3, if_pos c4]) (J _ ?_)
        simp only [if_neg c1, if_neg c2, if_neg c3, if_pos c4]; exact Ev.now _
      by_cases c5 : (c.toNat : Int) = 34
      · have hp : pD (n + 1) (c :: suf) = (pW suf).map fun q => (⟨2, 0, ba q.1, []⟩, q.2) := by rw [pD, pN, if_neg c1, if_neg c2, if_neg c3, if_neg c4, if_pos c5]
        have hw := specWord_loop (L := L) (pre := pre) (c0 := c) hL suf [] h
        have hw' : Ev (fun k => spec_l1Word.f k (ba L) (pre.length : Int)) (wordR L.length [] (pW suf)) := by
          refine Ev.congr (fun k => by rw [spec_l1Word.f]) ?_
          rw [w64 (by omega) (by omega), show (pre.length : Int) + 1 = ((pre.length + 1 + ([] : List UInt8).length : Nat) : Int) by simp]
          exact hw
        rw [hp]
        cases hq : pW suf with
        | none =>
          rw [hq] at hw'
          refine ⟨⟨0, 0, ⟨#[]⟩, []⟩, start _ (J _ ?_), fun d' r hd => by cases hd⟩
          simp only [if_neg c1, if_neg c2, if_neg c3, if_neg c4, if_pos c5]
          exact Ev.bind hw' (Ev.now _)
        | some q =>
          rw [hq] at hw'
          refine ⟨⟨2, 0, ba q.1, []⟩, start _ (J _ ?_), fun d' r hd => (Prod.mk.inj (Option.some.inj hd)).1.symm⟩
          simp only [if_neg c1, if_neg c2, if_neg c3, if_neg c4, if_pos c5]
          exact Ev.bind hw' (Ev.now _)
      by_cases c6 : (c.toNat : Int) = 40
      · have hp : pD (n + 1) (c :: suf) = (pK (pD n) 2 41 suf).map fun q => (⟨7, 0, ba [], q.1⟩, q.2) := by rw [pD, pN, if_neg c1, if_neg c2, if_neg c3, if_neg c4, if_neg c5, if_pos c6]
        obtain ⟨l, h1, h2⟩ := inner (pre ++ [c]) suf 2 41 h' (by omega)
        refine ⟨⟨7, 0, ba [], l⟩, start _ (J _ ?_), fun d' r hd => ?_⟩
        · simp only [if_neg c1, if_neg c2, if_neg c3, if_neg c4, if_neg c5, if_pos c6]
          refine Ev.bind h1 ?_
          rw [hp, show endAt L.length ((pK (pD n) 2 41 suf).map fun q => ((⟨7, 0, ba [], q.1⟩ : SDoc), q.2)) = endAt L.length (pK (pD n) 2 41 suf) by cases pK (pD n) 2 41 suf <;> rfl]
          exact Ev.now _
        · rw [hp] at hd
          obtain ⟨⟨ks, r'⟩, e1, e2⟩ := Option.map_eq_some_iff.1 hd
          obtain ⟨rfl, rfl⟩ := Prod.mk.inj e2
          rw [h2 ks r' e1]
      by_cases c7 : (c.toNat : Int) = 91
      · have hp : pD (n + 1) (c :: suf) = (pK (pD n) 1 93 suf).map fun q => (⟨8, 0, ba [], q.1⟩, q.2) := by rw [pD, pN, if_neg c1, if_neg c2, if_neg c3, if_neg c4, if_neg c5, if_neg c6, if_pos c7]
        obtain ⟨l, h1, h2⟩ := inner (pre ++ [c]) suf 1 93 h' (by omega)
        refine ⟨⟨8, 0, ba [], l⟩, start _ (J _ ?_), fun d' r hd => ?_⟩
        · simp only [if_neg c1, if_neg c2, if_neg c3, if_neg c4, if_neg c5, if_neg c6, if_pos c7]
          refine Ev.bind h1 ?_
          rw [hp, show endAt L.length ((pK (pD n) 1 93 suf).map fun q => ((⟨8, 0, ba [], q.1⟩ : SDoc), q.2)) = endAt L.length (pK (pD n) 1 93 suf) by cases pK (pD n) 1 93 suf <;> rfl]
          exact Ev.now _
        · rw [hp] at hd
          obtain ⟨⟨ks, r'⟩, e1, e2⟩ := Option.map_eq_some_iff.1 hd
          obtain ⟨rfl, rfl⟩ := Prod.mk.inj e2
          rw [h2 ks r' e1]
      have bad : (¬ (48 ≤ (c.toNat : Int) ∧ (c.toNat : Int) ≤ 57 ∧ hd60 suf = true)) → Ev (fun k => spec_l1Read.j1 k (ba L) (pre.length : Int) ((n + 1 : Nat) : Int) false) ((0 : Int), (0 : Int), (⟨#[]⟩ : ByteArray), ([] : List SDoc), (-1 : Int)) := by
        intro _
        refine Ev.step (fun k => by rw [spec_l1Read.j1]) ?_
        simp only [Bool.false_eq_true, if_false]
        exact Ev.now _
      by_cases c8 : 48 ≤ (c.toNat : Int) ∧ (c.toNat : Int) ≤ 57 ∧ hd60 suf = true
      · have hp : pD (n + 1) (c :: suf) = (pK (pD n) 1 62 suf.tail).map fun q => (⟨6, (c.toNat : Int) - 48, ba [], q.1⟩, q.2) := by rw [pD, pN, if_neg c1, if_neg c2, if_neg c3, if_neg c4, if_neg c5, if_neg c6, if_neg c7, if_pos c8]
        obtain ⟨c80, c81, c82⟩ := c8
        match suf, h, h', c82, hp, hl with
        | [], _, _, c82, _, _ => simp [hd60] at c82
        | q :: suf, h, h', c82, hp, hl =>
          have hq : (q.toNat : Int) = 60 := by simpa [hd60] using c82
          simp only [List.length_cons] at hl
          obtain ⟨l, h1, h2⟩ := inner (pre ++ [c] ++ [q]) suf 1 62 (by rw [h]; simp) (by omega)
          have w2 : wrap64 ((pre.length : Int) + 2) = (((pre ++ [c] ++ [q]).length : Nat) : Int) := by rw [w64 (by omega) (by omega)]; simp
          refine ⟨⟨6, (c.toNat : Int) - 48, ba [], l⟩, start _ (J _ ?_), fun d' r hd => ?_⟩
          · simp only [if_neg c1, if_neg c2, if_neg c3, if_neg c4, if_neg c5, if_neg c6, if_neg c7, if_pos (show (c.toNat : Int) ≥ 48 from c80), if_pos c81]
            rw [bt_at (L := L) (pre := pre ++ [c]) (suf := suf) (c := q) h']
            simp only [if_pos (show (((pre ++ [c]).length : Nat) : Int) < (L.length : Int) by simp; omega), if_pos (show (0 : Int) ≤ (((pre ++ [c]).length : Nat) : Int) by omega), hq, beq_self_eq_true]
            refine Ev.step (fun k => by rw [spec_l1Read.j1]) ?_
            simp only [if_true, w2]
            refine Ev.bind h1 ?_
            simp only [ba_size, if_pos (show (0 : Int) ≤ (pre.length : Int) by omega), if_pos (show (pre.length : Int) < (L.length : Int) by omega), bt_at h]
            rw [show ((c.toNat : Int) - 48) % 256 = (c.toNat : Int) - 48 by omega, hp]
            simp only [List.tail_cons]
            rw [show endAt L.length ((pK (pD n) 1 62 suf).map fun p => ((⟨6, (c.toNat : Int) - 48, ba [], p.1⟩ : SDoc), p.2)) = endAt L.length (pK (pD n) 1 62 suf) by cases pK (pD n) 1 62 suf <;> rfl]
            exact Ev.now _
          · rw [hp] at hd
            simp only [List.tail_cons] at hd
            obtain ⟨⟨ks, r'⟩, e1, e2⟩ := Option.map_eq_some_iff.1 hd
            obtain ⟨rfl, rfl⟩ := Prod.mk.inj e2
            rw [h2 ks r' e1]
      · have hp : pD (n + 1) (c :: suf) = none := by rw [pD, pN, if_neg c1, if_neg c2, if_neg c3, if_neg c4, if_neg c5, if_neg c6, if_neg c7, if_neg c8]
        rw [hp]
        refine ⟨⟨0, 0, ⟨#[]⟩, []⟩, start _ (J _ ?_), fun d' r hd => by cases hd⟩
        simp only [if_neg c1, if_neg c2, if_neg c3, if_neg c4, if_neg c5, if_neg c6, if_neg c7]
        refine Ev.iff (fun c80 => Ev.iff (fun c81 => ?_) (fun _ => bad c8)) (fun _ => bad c8)
        match suf, h, h', c8 with
        | [], h, _, c8 =>
          simp only [List.length_append, List.length_cons, List.length_nil] at hl
          simp only [if_neg (show ¬ ((((pre ++ [c]).length : Nat) : Int) < (L.length : Int)) by simp; omega)]
          exact bad c8
        | q :: suf, h, h', c8 =>
          have hq : ((q.toNat : Int) == 60) = false := by
            cases hb : ((q.toNat : Int) == 60) with
            | false => rfl
            | true => exact absurd ⟨c80, c81, by simpa [hd60] using hb⟩ c8
          simp only [List.length_cons] at hl
          simp only [if_pos (show (((pre ++ [c]).length : Nat) : Int) < (L.length : Int) by simp; omega), if_pos (show (0 : Int) ≤ (((pre ++ [c]).length : Nat) : Int) by omega), bt_at (L := L) (pre := pre ++ [c]) (suf := suf) (c := q) h', hq]
          exact bad c8
theorem specParse_ev (s : ByteArray) (hs : s.size ≤ 1099511627776) : Ev (fun k => spec_ParseDoc.f k s) (docR (parseR s.data.toList)) := by
  have hs' : s.data.toList.length ≤ 1099511627776 := by rw [← size_data]; exact hs
  obtain ⟨d, h1, h2⟩ := specRead_ev hs' 40 (Nat.le_refl _) [] s.data.toList rfl
  rw [ba_of] at h1
  have h1 : Ev (fun k => spec_l1Read.f k s 0 40) (d.f0, d.f1, d.f2, d.f3, endAt s.data.toList.length (pD 40 s.data.toList)) := h1
  refine Ev.congr (fun k => by rw [spec_ParseDoc.f]) (Ev.bind h1 ?_)
  rw [size_data]
  unfold parseR
  cases hp : pD 40 s.data.toList with
  | none =>
    simp only [endAt, if_neg (show ¬ ((-1 : Int) = (s.data.toList.length : Int)) by omega)]
    exact Ev.now _
  | some q =>
    obtain ⟨d', r⟩ := q
    obtain rfl := h2 d' r hp
    obtain ⟨hm, u, hu⟩ := pD_good 40 _ _ _ hp
    match r, hp, hm, hu with
    | [], hp, hm, hu =>
      simp only [endAt, List.length_nil, if_pos (show ((s.data.toList.length : Int) - ((0 : Nat) : Int) = (s.data.toList.length : Int)) by omega)]
      refine Ev.bind (specValid_ev d' (by omega)) ?_
      by_cases hv : docV d' = true
      · simp only [if_pos hv, docR]; exact Ev.now _
      · simp only [if_neg hv, docR]; exact Ev.now _
    | c :: r, hp, hm, hu =>
      simp only [endAt, List.length_cons, if_neg (show ¬ ((s.data.toList.length : Int) - ((r.length + 1 : Nat) : Int) = (s.data.toList.length : Int)) by omega)]
      exact Ev.now _
end Go.Proofs.Ytdhdfmmefghijaa.Pure
namespace Go.Proofs.Ytdhdfmmefghijaa.Pure
open Go.RowKit Go.Proofs.Ytdhdfmmefghijaa.P Go.Proofs.YtdhdfmmefghijaaW.PrintWords Go.Proofs.YtdhdfmmefghijaaW.PrintLast Go.Proofs.YtdhdfmmefghijaaW.PrintMore
set_option linter.unusedVariables false
set_option linter.unusedSimpArgs false
mutual
def cnt (op : Int) : SDoc → Nat
  | ⟨o, _, _, ks⟩ => (if o = op then 1 else 0) + cntL op ks
def cntL (op : Int) : List SDoc → Nat
  | [] => 0
  | k :: ks => cnt op k + cntL op ks
end
theorem cntL_cons (op : Int) (y : SDoc) (l : List SDoc) : cntL op (y :: l) = cnt op y + cntL op l := rfl
theorem cnt_le (op : Int) : ∀ d : SDoc, cnt op d ≤ dsz d := by
  intro d
  induction d using SDoc.ind with
  | h o n t ks ih =>
    have key : ∀ l : List SDoc, (∀ k, k ∈ l → cnt op k ≤ dsz k) → cntL op l ≤ dszL l := by
      intro l
      induction l with
      | nil => intro _; simp [dszL, cntL]
      | cons y l ihl =>
        intro hl
        have h1 := hl y List.mem_cons_self
        have h2 := ihl (fun k hk => hl k (List.mem_cons_of_mem _ hk))
        simp only [dszL, cntL]
        omega
    have := key ks ih
    simp only [dsz, cnt]
    split <;> omega
theorem cntL_le (op : Int) : ∀ l : List SDoc, cntL op l ≤ dszL l
  | [] => by simp [cntL]
  | y :: l => by have := cnt_le op y; have := cntL_le op l; simp only [cntL, dszL]; omega
theorem specCnt_loop (op o n : Int) (t : ByteArray) (suf : List SDoc) : ∀ (pre : List SDoc) (acc : Int),
    (∀ y, y ∈ suf → Ev (fun k => spec_CountOps.f k y.f0 y.f1 y.f2 y.f3 op) (cnt op y : Int)) → 0 ≤ acc → acc + cntL op suf ≤ 9223372036854775807 → pre.length + suf.length ≤ 4611686018427387904 →
    Ev (fun k => spec_CountOps.l0 k op acc (pre.length : Int) o n t (pre ++ suf)) (acc + cntL op suf) := by
  induction suf with
  | nil =>
    intro pre acc _ h0 hs hm
    refine Ev.step (fun k => by rw [spec_CountOps.l0]) ?_
    simp only [List.append_nil, Int.lt_irrefl, if_false, cntL, Int.natCast_zero, Int.add_zero]
    exact Ev.now _
  | cons y suf ih =>
    intro pre acc hy h0 hs hm
    simp only [List.length_cons] at hm
    rw [cntL_cons] at hs ⊢
    refine Ev.step (fun k => by rw [spec_CountOps.l0]) ?_
    have c1 : (pre.length : Int) < ((pre ++ y :: suf).length : Int) := by simp; omega
    have c2 : (0 : Int) ≤ (pre.length : Int) := by omega
    simp only [if_pos c1, if_pos c2, rdD]
    refine Ev.bind (hy y List.mem_cons_self) ?_
    rw [w64 (i := acc + cnt op y) (by omega) (by omega), w64 (by omega) (by omega)]
    have := ih (pre ++ [y]) (acc + cnt op y) (fun z hz => hy z (List.mem_cons_of_mem _ hz)) (by omega) (by omega) (by simp; omega)
    rw [List.append_assoc, show ((pre ++ [y]).length : Int) = (pre.length : Int) + 1 by simp] at this
    rw [show acc + ((cnt op y + cntL op suf : Nat) : Int) = acc + cnt op y + cntL op suf by omega]
    exact this
theorem specCnt_ev (op : Int) : ∀ (d : SDoc), dsz d ≤ 4611686018427387904 → Ev (fun k => spec_CountOps.f k d.f0 d.f1 d.f2 d.f3 op) (cnt op d : Int) := by
  intro d
  induction d using SDoc.ind with
  | h o n t ks ih =>
    intro hd
    simp only [dsz] at hd
    have hc := cntL_le op ks
    have hl := dszL_len ks
    have key : ∀ acc : Int, 0 ≤ acc → acc ≤ 1 → Ev (fun k => spec_CountOps.j0 k op acc o n t ks) (acc + cntL op ks) := fun acc h0 h1 => by
      refine Ev.step (fun k => by rw [spec_CountOps.j0]) ?_
      have := specCnt_loop op o n t ks [] acc (fun y hy => ih y hy (by have := dszL_mem hy; omega)) h0 (by omega) (by simp; omega)
      simpa using this
    refine Ev.step (fun k => by rw [spec_CountOps.f]) ?_
    by_cases h : o = op
    · simp only [if_pos h]
      rw [show ((cnt op ⟨o, n, t, ks⟩ : Nat) : Int) = 1 + (cntL op ks : Int) by simp [cnt, h]]
      exact key 1 (by omega) (by omega)
    · simp only [if_neg h]
      rw [show ((cnt op ⟨o, n, t, ks⟩ : Nat) : Int) = 0 + (cntL op ks : Int) by simp [cnt, h]]
      exact key 0 (by omega) (by omega)
theorem implCnt_loop (op : Int) (suf : List SDoc) : ∀ (pre : List SDoc) (acc N : Int), N = ((pre ++ suf).length : Int) →
    (∀ y, y ∈ suf → Ev (fun k => impl_CountOps.f k y.f0 y.f1 y.f2 y.f3 op) (cnt op y : Int)) → 0 ≤ acc → acc + cntL op suf ≤ 9223372036854775807 → pre.length + suf.length ≤ 4611686018427387904 →
    Ev (fun k => impl_CountOps.l0 k op acc (pre ++ suf) N (pre.length : Int)) (acc + cntL op suf) := by
  induction suf with
  | nil =>
    intro pre acc N hN _ h0 hs hm
    subst hN
    refine Ev.step (fun k => by rw [impl_CountOps.l0]) ?_
    simp only [List.append_nil, Int.lt_irrefl, if_false, cntL, Int.natCast_zero, Int.add_zero]
    exact Ev.now _
  | cons y suf ih =>
    intro pre acc N hN hy h0 hs hm
    simp only [List.length_cons] at hm
    rw [cntL_cons] at hs ⊢
    refine Ev.step (fun k => by rw [impl_CountOps.l0]) ?_
    have c1 : (pre.length : Int) < ((pre ++ y :: suf).length : Int) := by simp; omega
    have c0 : (pre.length : Int) < N := by omega
    have c2 : (0 : Int) ≤ (pre.length : Int) := by omega
    simp only [if_pos c0, if_pos c1, if_pos c2, rdD]
    refine Ev.bind (hy y List.mem_cons_self) ?_
    rw [w64 (i := acc + cnt op y) (by omega) (by omega), w64 (by omega) (by omega)]
    have := ih (pre ++ [y]) (acc + cnt op y) N (by rw [hN]; simp) (fun z hz => hy z (List.mem_cons_of_mem _ hz)) (by omega) (by omega) (by simp; omega)
    rw [List.append_assoc, show ((pre ++ [y]).length : Int) = (pre.length : Int) + 1 by simp] at this
    rw [show acc + ((cnt op y + cntL op suf : Nat) : Int) = acc + cnt op y + cntL op suf by omega]
    exact this
theorem implCnt_ev (op : Int) : ∀ (d : SDoc), dsz d ≤ 4611686018427387904 → Ev (fun k => impl_CountOps.f k d.f0 d.f1 d.f2 d.f3 op) (cnt op d : Int) := by
  intro d
  induction d using SDoc.ind with
  | h o n t ks ih =>
    intro hd
    simp only [dsz] at hd
    have hc := cntL_le op ks
    have hl := dszL_len ks
    have key : ∀ acc : Int, 0 ≤ acc → acc ≤ 1 → Ev (fun k => impl_CountOps.j0 k op acc o n t ks) (acc + cntL op ks) := fun acc h0 h1 => by
      refine Ev.step (fun k => by rw [impl_CountOps.j0]) ?_
      have := implCnt_loop op ks [] acc (ks.length : Int) (by simp) (fun y hy => ih y hy (by have := dszL_mem hy; omega)) h0 (by omega) (by simp; omega)
      simpa using this
    refine Ev.step (fun k => by rw [impl_CountOps.f]) ?_
    by_cases h : o = op
    · simp only [if_pos h]
      rw [show ((cnt op ⟨o, n, t, ks⟩ : Nat) : Int) = 1 + (cntL op ks : Int) by simp [cnt, h]]
      exact key 1 (by omega) (by omega)
    · simp only [if_neg h]
      rw [show ((cnt op ⟨o, n, t, ks⟩ : Nat) : Int) = 0 + (cntL op ks : Int) by simp [cnt, h]]
      exact key 0 (by omega) (by omega)
end Go.Proofs.Ytdhdfmmefghijaa.Pure
namespace Go.Proofs.Ytdhdfmmefghijaa.Pure
open Go.RowKit Go.Proofs.Ytdhdfmmefghijaa.P Go.Proofs.YtdhdfmmefghijaaW.PrintWords Go.Proofs.YtdhdfmmefghijaaW.PrintLast Go.Proofs.YtdhdfmmefghijaaW.PrintMore
set_option linter.unusedVariables false
set_option linter.unusedSimpArgs false
def canF (d : SDoc) : Bool := docV d && decide (cnt 5 d = 0)
theorem specCan_ev (d : SDoc) (hd : msz d ≤ 1099511627776) : Ev (fun k => spec_CanFlatten.f k d.f0 d.f1 d.f2 d.f3) (canF d) := by
  refine Ev.congr (fun k => by rw [spec_CanFlatten.f]) ?_
  refine Ev.bind (specValid_ev d hd) ?_
  cases hv : docV d with
  | false =>
    simp only [Bool.false_eq_true, if_false]
    rw [show canF d = false from by rw [canF, hv, Bool.false_and]]
    exact Ev.now _
  | true =>
    simp only [if_true]
    have := dsz_msz d
    refine Ev.bind (specCnt_ev 5 d (by omega)) ?_
    rw [show canF d = ((cnt 5 d : Int) == 0) from by rw [canF, hv, Bool.true_and, Bool.eq_iff_iff]; simp]
    exact Ev.now _
theorem implCan_ev (d : SDoc) (hd : msz d ≤ 1099511627776) : Ev (fun k => impl_CanFlatten.f k d.f0 d.f1 d.f2 d.f3) (canF d) := by
  refine Ev.congr (fun k => by rw [impl_CanFlatten.f]) ?_
  refine Ev.bind (implValid_ev d hd) ?_
  cases hv : docV d with
  | false =>
    simp only [Bool.false_eq_true, if_false]
    rw [show canF d = false from by rw [canF, hv, Bool.false_and]]
    exact Ev.now _
  | true =>
    simp only [if_true]
    have := dsz_msz d
    refine Ev.bind (implCnt_ev 5 d (by omega)) ?_
    rw [show canF d = ((cnt 5 d : Int) == 0) from by rw [canF, hv, Bool.true_and, Bool.eq_iff_iff]; simp]
    exact Ev.now _
theorem docV_wf {d : SDoc} (h : docV d = true) : wf d 40 = true := (docV_iff d).1 h |>.1
theorem wf_kids {o n : Int} {t : ByteArray} {ks : List SDoc} {deep : Nat} (h : wf ⟨o, n, t, ks⟩ deep = true) : ∀ y, y ∈ ks → wf y (deep - 1) = true := by
  have h3 := ((wf_mk o n t ks deep).1 h).2.2
  rw [wfL_all, List.all_eq_true] at h3
  exact h3
theorem wf_node {o n : Int} {t : ByteArray} {ks : List SDoc} {deep : Nat} (h : wf ⟨o, n, t, ks⟩ deep = true) : 1 ≤ o ∧ o ≤ 8 ∧ (ks.length : Int) = docKids o ∧ 0 ≤ n ∧ n ≤ 9 ∧ (n = 0 ∨ o = 6) ∧ (o = 2 → tv t = true) ∧ (o ≠ 2 → t = ⟨#[]⟩) := by
  have h2 := (nodeOk_iff o n t ks.length).1 ((wf_mk o n t ks deep).1 h).2.1
  obtain ⟨a, b, c, d, e, f, g⟩ := h2
  refine ⟨a, b, c, d, e, f, fun h => by rwa [if_pos h] at g, fun h => ?_⟩
  rw [if_neg h, decide_eq_true_eq, size_data, List.length_eq_zero_iff] at g
  obtain ⟨⟨l⟩⟩ := t
  simp at g
  subst g
  rfl
end Go.Proofs.Ytdhdfmmefghijaa.Pure
namespace Go.Proofs.Ytdhdfmmefghijaa.P
open Go.RowKit Go.Proofs.YtdhdfmmefghijaaW.PrintWords Go.Proofs.YtdhdfmmefghijaaW.PrintLast Go.Proofs.YtdhdfmmefghijaaW.PrintMore
attribute [local go_sem] max2_int min2_int max_two min_two max_three min_three max_four min_four
set_option linter.unusedVariables false
set_option linter.unusedSimpArgs false
mutual
def impl_copyDoc.l0:Nat→List (SDoc)→Int→Int→Int→Int→ByteArray→List (SDoc)→Option (Int × Int × ByteArray × (List (SDoc)))
 | 0,_,_,_,_,_,_,_=>none
 | k+1,x9,x10,x11,x677000,x677001,x677002,x677003=>if x11 < x10 then (if 0≤x11 then (if x11 < (x9.length:Int) then ((impl_copyDoc.f k ((rd_TDoc x9 x11).f0) ((rd_TDoc x9 x11).f1) ((rd_TDoc x9 x11).f2) ((rd_TDoc x9 x11).f3)).bind fun bt680=>(if x677003.length < 2513169434916 then (impl_copyDoc.l0 k x9 x10 (wrap64 (x11+1)) x677000 x677001 x677002 (x677003++[(⟨bt680.1,bt680.2.1,bt680.2.2.1,bt680.2.2.2⟩:SDoc)])) else (none))) else (none)) else (none)) else (some (x677000,x677001,x677002,x677003))
def impl_copyDoc.f:Nat→Int→Int→ByteArray→List (SDoc)→Option (Int × Int × ByteArray × (List (SDoc)))
 | 0,_,_,_,_=>none
 | k+1,a0_0,a0_1,a0_2,l0_3=>impl_copyDoc.l0 k l0_3 (l0_3.length:Int) 0 a0_0 a0_1 a0_2 ([]:List (SDoc))
end
end Go.Proofs.Ytdhdfmmefghijaa.P
namespace Go.Proofs.Ytdhdfmmefghijaa.Pure
open Go.RowKit Go.Proofs.Ytdhdfmmefghijaa.P Go.Proofs.YtdhdfmmefghijaaW.PrintWords Go.Proofs.YtdhdfmmefghijaaW.PrintLast Go.Proofs.YtdhdfmmefghijaaW.PrintMore
set_option linter.unusedVariables false
set_option linter.unusedSimpArgs false
theorem specCopy_loop (o n : Int) (t : ByteArray) (suf : List SDoc) : ∀ (pre : List SDoc),
    (∀ y, y ∈ suf → Ev (fun k => spec_l1Copy.f k y.f0 y.f1 y.f2 y.f3) (y.f0, y.f1, y.f2, y.f3)) → pre.length + suf.length ≤ 1099511627776 →
    ∀ o' n' t', Ev (fun k => spec_l1Copy.l0 k (pre.length : Int) o n t (pre ++ suf) o' n' t' pre) (o', n', t', pre ++ suf) := by
  induction suf with
  | nil =>
    intro pre _ hm o' n' t'
    refine Ev.step (fun k => by rw [spec_l1Copy.l0]) ?_
    simp only [List.append_nil, Int.lt_irrefl, if_false]
    exact Ev.now _
  | cons y suf ih =>
    intro pre hy hm o' n' t'
    simp only [List.length_cons] at hm
    refine Ev.step (fun k => by rw [spec_l1Copy.l0]) ?_
    have c1 : (pre.length : Int) < ((pre ++ y :: suf).length : Int) := by simp; omega
    have c2 : (0 : Int) ≤ (pre.length : Int) := by omega
    simp only [if_pos c1, if_pos c2, rdD]
    refine Ev.bind (hy y List.mem_cons_self) ?_
    simp only [if_pos (show pre.length < 2513169434916 by omega), SDoc_eta]
    rw [w64 (by omega) (by omega)]
    have := ih (pre ++ [y]) (fun z hz => hy z (List.mem_cons_of_mem _ hz)) (by simp; omega) o' n' t'
    rw [List.append_assoc, show ((pre ++ [y]).length : Int) = (pre.length : Int) + 1 by simp] at this
    exact this
theorem specCopy_ev : ∀ (d : SDoc), msz d ≤ 1099511627776 → Ev (fun k => spec_l1Copy.f k d.f0 d.f1 d.f2 d.f3) (d.f0, d.f1, d.f2, d.f3) := by
  intro d
  induction d using SDoc.ind with
  | h o n t ks ih =>
    intro hd
    simp only [msz] at hd
    have hl := mszL_len ks
    refine Ev.step (fun k => by rw [spec_l1Copy.f]) ?_
    exact specCopy_loop o n t ks [] (fun y hy => ih y hy (by have := mszL_mem hy; omega)) (by simp; omega) o n t
end Go.Proofs.Ytdhdfmmefghijaa.Pure
namespace Go.Proofs.Ytdhdfmmefghijaa.Pure
open Go.RowKit Go.Proofs.Ytdhdfmmefghijaa.P Go.Proofs.YtdhdfmmefghijaaW.PrintWords Go.Proofs.YtdhdfmmefghijaaW.PrintLast Go.Proofs.YtdhdfmmefghijaaW.PrintMore
set_option linter.unusedVariables false
set_option linter.unusedSimpArgs false
theorem word2_ev {b : List Int} (hb : Code b) (p : Int) (hp0 : 0 ≤ p) (hp : p ≤ 1000000000) : ∃ s, tv s = true ∧ Ev (fun k => spec_l1Word2.f k b p) (s, p + 1) := by
  obtain ⟨s, hs, h⟩ := of_ev hb p [(⟨#[97]⟩ : ByteArray), (⟨#[98, 98]⟩ : ByteArray), (⟨#[99, 99, 99]⟩ : ByteArray), (⟨#[100, 100, 100, 100]⟩ : ByteArray), (⟨#[102, 40]⟩ : ByteArray), (⟨#[41]⟩ : ByteArray), (⟨#[44]⟩ : ByteArray), (⟨#[120, 61, 49]⟩ : ByteArray), (⟨#[97, 98, 99, 100, 101, 102, 103, 104]⟩ : ByteArray), (⟨#[101]⟩ : ByteArray)] (by simp) hp0 hp
  refine ⟨s, ?_, Ev.congr (fun k => by rw [spec_l1Word2.f]) (Ev.bind h (Ev.now _))⟩
  have : ∀ s ∈ [(⟨#[97]⟩ : ByteArray), (⟨#[98, 98]⟩ : ByteArray), (⟨#[99, 99, 99]⟩ : ByteArray), (⟨#[100, 100, 100, 100]⟩ : ByteArray), (⟨#[102, 40]⟩ : ByteArray), (⟨#[41]⟩ : ByteArray), (⟨#[44]⟩ : ByteArray), (⟨#[120, 61, 49]⟩ : ByteArray), (⟨#[97, 98, 99, 100, 101, 102, 103, 104]⟩ : ByteArray), (⟨#[101]⟩ : ByteArray)], tv s = true := by decide +kernel
  exact this s hs
theorem tv_size {s : ByteArray} (h : tv s = true) : 1 ≤ s.size ∧ s.size ≤ 12 := by
  simp only [tv, Bool.and_eq_true, decide_eq_true_eq] at h
  exact ⟨h.1, h.2.1⟩
theorem wf_mono : ∀ (d : SDoc) (m m' : Nat), m ≤ m' → wf d m = true → wf d m' = true := by
  intro d
  induction d using SDoc.ind with
  | h o n t ks ih =>
    intro m m' hm h
    rw [wf_mk] at h ⊢
    refine ⟨by omega, h.2.1, ?_⟩
    rw [wfL_all, List.all_eq_true] at h ⊢
    exact fun y hy => ih y hy (m - 1) (m' - 1) (by omega) (h.2.2 y hy)
theorem wf_msz : ∀ (d : SDoc) (m : Nat), wf d m = true → msz d ≤ 13 * dsz d := by
  intro d
  induction d using SDoc.ind with
  | h o n t ks ih =>
    intro m h
    obtain ⟨_, _, _, _, _, _, h2, h3⟩ := wf_node h
    have hk := wf_kids h
    have key : ∀ l : List SDoc, (∀ y, y ∈ l → msz y ≤ 13 * dsz y) → mszL l ≤ 13 * dszL l := by
      intro l
      induction l with
      | nil => intro _; simp [mszL, dszL]
      | cons y l ihl =>
        intro hl
        have h1 := hl y List.mem_cons_self
        have h2 := ihl (fun z hz => hl z (List.mem_cons_of_mem _ hz))
        simp only [mszL, dszL]
        omega
    have := key ks (fun y hy => ih y hy (m - 1) (hk y hy))
    have ht : t.size ≤ 12 := by
      by_cases c : o = 2
      · exact (tv_size (h2 c)).2
      · rw [h3 c]; show 0 ≤ 12; omega
    simp only [msz, dsz]
    omega
theorem wf_of {o n : Int} {t : ByteArray} {ks : List SDoc} {m : Nat} (h1 : 1 ≤ o) (h8 : o ≤ 8) (hk : (ks.length : Int) = docKids o) (hn0 : 0 ≤ n) (hn9 : n ≤ 9) (hn : n = 0 ∨ o = 6) (ht : o = 2 → tv t = true) (ht' : o ≠ 2 → t = ⟨#[]⟩) (hks : ∀ y, y ∈ ks → wf y m = true) : wf ⟨o, n, t, ks⟩ (m + 1) = true := by
  rw [wf_mk]
  refine ⟨by omega, (nodeOk_iff _ _ _ _).2 ⟨h1, h8, hk, hn0, hn9, hn, ?_⟩, ?_⟩
  · by_cases c : o = 2
    · rw [if_pos c]; exact ht c
    · rw [if_neg c, ht' c]; rfl
  · rw [wfL_all, List.all_eq_true]
    exact hks
theorem three_pos (n : Nat) : 1 ≤ 3 ^ n := by
  induction n with
  | zero => exact Nat.le_refl 1
  | succ n ih => rw [Nat.pow_succ]; omega
theorem dr_leaf (o : Int) (h : o = 1 ∨ o = 3 ∨ o = 4 ∨ o = 5) (m : Nat) : wf ⟨o, 0, ⟨#[]⟩, []⟩ (m + 1) = true := wf_of (by omega) (by omega) (by rcases h with rfl | rfl | rfl | rfl <;> rfl) (by omega) (by omega) (.inl rfl) (by omega) (fun _ => rfl) (fun y hy => by cases hy)
theorem some0_ev {b : List Int} (hb : Code b) (p : Int) (hp0 : 0 ≤ p) (hp : p ≤ 900000000) : ∃ (d : SDoc) (q : Int), Ev (fun k => spec_l1Some.f k b p 0) (d.f0, d.f1, d.f2, d.f3, q) ∧ wf d 1 = true ∧ dsz d = 1 ∧ p ≤ q ∧ q ≤ p + 2 := by
  obtain ⟨r, h1, hr0, hr⟩ := pick_ev hb p 8 hp0 (by omega)
  obtain ⟨s, hs, h2⟩ := word2_ev hb (p + 1) (by omega) (by omega)
  have J : ∀ R, Ev (fun k => (spec_l15Rd_pick.f k b p 8).bind fun bt237 => (if bt237.1 = 0 then (some ((1 : Int), (0 : Int), (⟨#[]⟩ : ByteArray), ([] : List SDoc), bt237.2)) else (if bt237.1 = 1 then (spec_l1Some.j0 k bt237.1 (bt237.1 == 1) b bt237.2) else (spec_l1Some.j0 k bt237.1 (bt237.1 == 2) b bt237.2)))) R → Ev (fun k => spec_l1Some.f k b p 0) R := by
    intro R h
    refine Ev.step (fun k => by rw [spec_l1Some.f]) ?_
    simp only [if_true]
    exact h
  by_cases c0 : r = 0
  · refine ⟨⟨1, 0, ⟨#[]⟩, []⟩, p + 1, J _ (Ev.bind h1 ?_), dr_leaf 1 (by omega) 0, rfl, by omega, by omega⟩
    simp only [if_pos c0]
    exact Ev.now _
  have J2 : ∀ (R : Int × Int × ByteArray × List SDoc × Int) (w : Bool), w = (decide (r = 1) || decide (r = 2)) → Ev (fun k => spec_l1Some.j0 k r w b (p + 1)) R → Ev (fun k => spec_l1Some.f k b p 0) R := by
    intro R w hw h
    refine J _ (Ev.bind h1 ?_)
    simp only [if_neg c0]
    refine Ev.iff (fun c => ?_) (fun c => ?_)
    · rw [show (r == 1) = w by rw [hw]; simp [c]]
      exact h
    · rw [show (r == 2) = w by rw [hw, decide_eq_false (show ¬ r = 1 from c), Bool.false_or]; rfl]
      exact h
  by_cases c1 : r = 1 ∨ r = 2
  · refine ⟨⟨3, 0, ⟨#[]⟩, []⟩, p + 1, J2 _ true (by rcases c1 with rfl | rfl <;> rfl) (Ev.step (fun k => by rw [spec_l1Some.j0]) ?_), dr_leaf 3 (by omega) 0, rfl, by omega, by omega⟩
    simp only [if_true]
    exact Ev.now _
  have hw : false = (decide (r = 1) || decide (r = 2)) := by
    rw [decide_eq_false (fun e => c1 (.inl e)), decide_eq_false (fun e => c1 (.inr e))]; rfl
  by_cases c3 : r = 3
  · refine ⟨⟨4, 0, ⟨#[]⟩, []⟩, p + 1, J2 _ false hw (Ev.step (fun k => by rw [spec_l1Some.j0]) ?_), dr_leaf 4 (by omega) 0, rfl, by omega, by omega⟩
    simp only [Bool.false_eq_true, if_false, if_pos c3]
    exact Ev.now _
  · refine ⟨⟨2, 0, s, []⟩, p + 1 + 1, J2 _ false hw (Ev.step (fun k => by rw [spec_l1Some.j0]) ?_), ?_, rfl, by omega, by omega⟩
    · simp only [Bool.false_eq_true, if_false, if_neg c3]
      exact Ev.bind h2 (Ev.now _)
    · exact wf_of (by omega) (by omega) rfl (by omega) (by omega) (.inl rfl) (fun _ => hs) (fun h => absurd rfl h) (fun y hy => by cases hy)
theorem some_ev {b : List Int} (hb : Code b) : ∀ (n : Nat), n ≤ 5 → ∀ (p : Int), 0 ≤ p → p + 12 * 3 ^ n ≤ 800000000 → ∃ (d : SDoc) (q : Int), Ev (fun k => spec_l1Some.f k b p (n : Int)) (d.f0, d.f1, d.f2, d.f3, q) ∧ wf d (n + 3) = true ∧ dsz d ≤ 5 * 3 ^ n - 4 ∧ p ≤ q ∧ q ≤ p + 12 * 3 ^ n := by
  intro n
  induction n with
  | zero =>
    intro _ p hp0 hp
    obtain ⟨d, q, h, h1, h2, h3, h4⟩ := some0_ev hb p hp0 (by omega)
    exact ⟨d, q, h, wf_mono d 1 3 (by omega) h1, by omega, h3, by omega⟩
  | succ n ih =>
    intro hn p hp0 hp
    have ih := ih (by omega)
    have h3 := three_pos n
    have h3b : 3 ^ n ≤ 3 ^ 5 := Nat.pow_le_pow_right (by omega) (by omega)
    have h3c : (3 : Nat) ^ 5 = 243 := rfl
    have e3 : 3 ^ (n + 1) = 3 * 3 ^ n := by rw [Nat.pow_succ]; omega
    have e3i : ((3 : Int) ^ (n + 1)) = 3 * ((3 ^ n : Nat) : Int) := by rw [Int.pow_succ]; simp; omega
    have e3j : ((3 : Int) ^ n) = ((3 ^ n : Nat) : Int) := by simp
    rw [e3i] at hp ⊢
    rw [e3j] at ih
    rw [e3]
    generalize 3 ^ n = T at *
    obtain ⟨r, g1, hr0, hr⟩ := pick_ev hb p 12 hp0 (by omega)
    have hr := hr (by omega)
    have w1 : wrap64 (((n + 1 : Nat) : Int) - 1) = (n : Int) := by rw [w64 (by omega) (by omega)]; omega
    have J : ∀ R, Ev (fun k => (spec_l15Rd_pick.f k b p 12).bind fun bt241 => (if bt241.1 = 0 then ((spec_l1Some.f k b bt241.2 0).bind fun bt243 => (some (bt243.1, bt243.2.1, bt243.2.2.1, bt243.2.2.2.1, bt243.2.2.2.2))) else (if bt241.1 = 1 then (spec_l1Some.j1 k ((n + 1 : Nat) : Int) bt241.1 (bt241.1 == 1) b bt241.2) else (spec_l1Some.j1 k ((n + 1 : Nat) : Int) bt241.1 (bt241.1 == 2) b bt241.2)))) R → Ev (fun k => spec_l1Some.f k b p ((n + 1 : Nat) : Int)) R := by
      intro R h
      refine Ev.step (fun k => by rw [spec_l1Some.f]) ?_
      simp only [if_neg (show ¬ ((n + 1 : Nat) : Int) = 0 by omega)]
      exact h
    by_cases c0 : r = 0
    · obtain ⟨d, q, h, h1, h2, h4, h5⟩ := some0_ev hb (p + 1) (by omega) (by omega)
      refine ⟨d, q, J _ (Ev.bind g1 ?_), wf_mono d 1 _ (by omega) h1, by omega, by omega, by omega⟩
      simp only [if_pos c0]
      exact Ev.bind h (Ev.now _)
    have J2 : ∀ (R : Int × Int × ByteArray × List SDoc × Int) (w : Bool), w = (decide (r = 1) || decide (r = 2)) → Ev (fun k => spec_l1Some.j1 k ((n + 1 : Nat) : Int) r w b (p + 1)) R → Ev (fun k => spec_l1Some.f k b p ((n + 1 : Nat) : Int)) R := by
      intro R w hw h
      refine J _ (Ev.bind g1 ?_)
      simp only [if_neg c0]
      refine Ev.iff (fun c => ?_) (fun c => ?_)
      · rw [show (r == 1) = w by rw [hw]; simp [c]]
        exact h
      · rw [show (r == 2) = w by rw [hw, decide_eq_false (show ¬ r = 1 from c), Bool.false_or]; rfl]
        exact h
    by_cases c1 : r = 1 ∨ r = 2
    · obtain ⟨m, hm, g2⟩ := num_ev hb (p + 1) [2, 1, 4, 0, 9] (by simp) (by omega) (by omega)
      have hm9 : 0 ≤ m ∧ m ≤ 9 := by
        simp only [List.mem_cons, List.not_mem_nil, or_false] at hm
        omega
      obtain ⟨d, q, h, h1, h2, h4, h5⟩ := ih (p + 1 + 1) (by omega) (by omega)
      refine ⟨⟨6, m, ⟨#[]⟩, [d]⟩, q, J2 _ true (by rcases c1 with rfl | rfl <;> rfl) (Ev.step (fun k => by rw [spec_l1Some.j1]) ?_), ?_, ?_, by omega, by omega⟩
      · simp only [if_true, w1]
        refine Ev.bind g2 (Ev.bind h ?_)
        simp only [SDoc_eta]
        exact Ev.now _
      · exact wf_of (by omega) (by omega) rfl hm9.1 hm9.2 (.inr rfl) (by omega) (fun _ => rfl) (fun y hy => by rw [List.mem_singleton.1 hy]; exact h1)
      · simp only [dsz, dszL]; omega
    have hw : false = (decide (r = 1) || decide (r = 2)) := by
      rw [decide_eq_false (fun e => c1 (.inl e)), decide_eq_false (fun e => c1 (.inr e))]; rfl
    have J3 : ∀ (R : Int × Int × ByteArray × List SDoc × Int) (w : Bool), w = (decide (r = 3) || (decide (r = 4) || decide (r = 5))) → Ev (fun k => spec_l1Some.j2 k ((n + 1 : Nat) : Int) r w b (p + 1)) R → Ev (fun k => spec_l1Some.f k b p ((n + 1 : Nat) : Int)) R := by
      intro R w hw' h
      refine J2 _ false hw (Ev.step (fun k => by rw [spec_l1Some.j1]) ?_)
      simp only [Bool.false_eq_true, if_false]
      refine Ev.iff (fun c => ?_) (fun c => Ev.iff (fun c' => ?_) (fun c' => ?_))
      · rw [show (r == 3) = w by rw [hw']; simp [c]]
        exact h
      · rw [show (r == 4) = w by rw [hw', decide_eq_false (show ¬ r = 3 from c), Bool.false_or, decide_eq_true (show r = 4 from c'), show (r == 4) = true by rw [show r = 4 from c']; rfl]; rfl]
        exact h
      · rw [show (r == 5) = w by rw [hw', decide_eq_false (show ¬ r = 3 from c), Bool.false_or, decide_eq_false (show ¬ r = 4 from c'), Bool.false_or]; rfl]
        exact h
    by_cases c3 : r = 3 ∨ r = 4 ∨ r = 5
    · obtain ⟨d, q, h, h1, h2, h4, h5⟩ := ih (p + 1) (by omega) (by omega)
      refine ⟨⟨8, 0, ⟨#[]⟩, [d]⟩, q, J3 _ true (by rcases c3 with rfl | rfl | rfl <;> rfl) (Ev.step (fun k => by rw [spec_l1Some.j2]) ?_), ?_, ?_, by omega, by omega⟩
      · simp only [if_true, w1]
        refine Ev.bind h ?_
        simp only [SDoc_eta]
        exact Ev.now _
      · exact wf_of (by omega) (by omega) rfl (by omega) (by omega) (.inl rfl) (by omega) (fun _ => rfl) (fun y hy => by rw [List.mem_singleton.1 hy]; exact h1)
      · simp only [dsz, dszL]; omega
    have hw3 : false = (decide (r = 3) || (decide (r = 4) || decide (r = 5))) := by
      rw [decide_eq_false (fun e => c3 (.inl e)), decide_eq_false (fun e => c3 (.inr (.inl e))), decide_eq_false (fun e => c3 (.inr (.inr e)))]; rfl
    have cat : ∀ (x y : SDoc) (m : Nat), wf x m = true → wf y m = true → wf ⟨7, 0, ⟨#[]⟩, [x, y]⟩ (m + 1) = true := by
      intro x y m hx hy
      refine wf_of (by omega) (by omega) rfl (by omega) (by omega) (.inl rfl) (by omega) (fun _ => rfl) (fun z hz => ?_)
      simp only [List.mem_cons, List.not_mem_nil, or_false] at hz
      rcases hz with rfl | rfl
      · exact hx
      · exact hy
    by_cases c6 : r = 6
    · obtain ⟨s, g2, hs0, hs⟩ := pick_ev hb (p + 1) 3 (by omega) (by omega)
      obtain ⟨d, q, h, h1, h2, h4, h5⟩ := ih (p + 1 + 1) (by omega) (by omega)
      obtain ⟨d0, q0, i, i1, i2, i4, i5⟩ := some0_ev hb q (by omega) (by omega)
      have hd0 := wf_mono d0 1 (n + 1) (by omega) i1
      have fin : ∀ o : Int, (o = 5 ∨ o = 3) → wf ⟨7, 0, ⟨#[]⟩, [d, ⟨7, 0, ⟨#[]⟩, [⟨o, 0, ⟨#[]⟩, []⟩, d0]⟩]⟩ (n + 1 + 3) = true ∧ dsz ⟨7, 0, ⟨#[]⟩, [d, ⟨7, 0, ⟨#[]⟩, [⟨o, 0, ⟨#[]⟩, []⟩, d0]⟩]⟩ ≤ 5 * (3 * T) - 4 := by
        intro o ho
        refine ⟨cat _ _ (n + 3) h1 (wf_mono _ (n + 1 + 1) _ (by omega) (cat _ _ (n + 1) (dr_leaf o (by omega) n) hd0)), ?_⟩
        simp only [dsz, dszL]
        omega
      by_cases cs : s = 0
      · refine ⟨⟨7, 0, ⟨#[]⟩, [d, ⟨7, 0, ⟨#[]⟩, [⟨5, 0, ⟨#[]⟩, []⟩, d0]⟩]⟩, q0, J3 _ false hw3 (Ev.step (fun k => by rw [spec_l1Some.j2]) ?_), (fin 5 (.inl rfl)).1, (fin 5 (.inl rfl)).2, by omega, by omega⟩
        simp only [Bool.false_eq_true, if_false, if_pos c6, w1]
        refine Ev.bind g2 ?_
        simp only [if_pos cs]
        refine Ev.bind h (Ev.bind i ?_)
        simp only [spec_l1Cat.f, Option.bind_some, SDoc_eta]
        exact Ev.now _
      · refine ⟨⟨7, 0, ⟨#[]⟩, [d, ⟨7, 0, ⟨#[]⟩, [⟨3, 0, ⟨#[]⟩, []⟩, d0]⟩]⟩, q0, J3 _ false hw3 (Ev.step (fun k => by rw [spec_l1Some.j2]) ?_), (fin 3 (.inr rfl)).1, (fin 3 (.inr rfl)).2, by omega, by omega⟩
        simp only [Bool.false_eq_true, if_false, if_pos c6, w1]
        refine Ev.bind g2 ?_
        simp only [if_neg cs]
        refine Ev.bind h (Ev.bind i ?_)
        simp only [spec_l1Cat.f, Option.bind_some, SDoc_eta]
        exact Ev.now _
    · obtain ⟨d, q, h, h1, h2, h4, h5⟩ := ih (p + 1) (by omega) (by omega)
      obtain ⟨d', q', i, i1, i2, i4, i5⟩ := ih q (by omega) (by omega)
      refine ⟨⟨7, 0, ⟨#[]⟩, [d, d']⟩, q', J3 _ false hw3 (Ev.step (fun k => by rw [spec_l1Some.j2]) ?_), cat _ _ (n + 3) h1 i1, ?_, by omega, by omega⟩
      · simp only [Bool.false_eq_true, if_false, if_neg c6, w1]
        refine Ev.bind h (Ev.bind i ?_)
        simp only [spec_l1Cat.f, Option.bind_some, SDoc_eta]
        exact Ev.now _
      · simp only [dsz, dszL]; omega
def VDoc (d : SDoc) : Prop := docV d = true ∧ msz d ≤ 1040
theorem vdoc_of {d : SDoc} (h : docV d = true) : VDoc d := by
  obtain ⟨h1, h2⟩ := (docV_iff d).1 h
  have := wf_msz d 40 h1
  exact ⟨h, by omega⟩
theorem draw_loop {b : List Int} (hb : Code b) (L : List ByteArray) (hL0 : 0 < L.length) (hL : ∀ s ∈ L, s.size ≤ 1000) : ∀ (m : Nat) (i : Nat), i + m = 3 → ∀ p : Int, 0 ≤ p → p ≤ 100000000 + 10000 * i →
    ∃ (d : SDoc) (q : Int), Ev (fun k => spec_l1Draw.l0 k L (i : Int) b p) (d.f0, d.f1, d.f2, d.f3, q) ∧ VDoc d ∧ p ≤ q ∧ q ≤ p + 5000 * (m + 1) := by
  intro m
  induction m with
  | zero =>
    intro i hi p hp0 hp
    obtain ⟨d, q, h, h1, h2, h3, h4⟩ := some_ev hb 2 (by omega) p hp0 (by omega)
    refine ⟨d, q, Ev.step (fun k => by rw [spec_l1Draw.l0]) ?_, vdoc_of ((docV_iff d).2 ⟨wf_mono d 5 40 (by omega) h1, by omega⟩), h3, by omega⟩
    simp only [if_neg (show ¬ (i : Int) < 3 by omega)]
    exact Ev.bind h (Ev.now _)
  | succ m ih =>
    intro i hi p hp0 hp
    have c : (i : Int) < 3 := by omega
    have w1 : wrap64 ((i : Int) + 1) = ((i + 1 : Nat) : Int) := by rw [w64 (by omega) (by omega)]; omega
    obtain ⟨r, g1, hr0, hr⟩ := pick_ev hb p 3 hp0 (by omega)
    have J1 : ∀ p' : Int, p + 1 ≤ p' → p' ≤ p + 2 → ∃ (d : SDoc) (q : Int), Ev (fun k => spec_l1Draw.j1 k L (i : Int) b p') (d.f0, d.f1, d.f2, d.f3, q) ∧ VDoc d ∧ p ≤ q ∧ q ≤ p + 5000 * (m + 1 + 1) := by
      intro p' h1 h2
      obtain ⟨n, hn, g2⟩ := num_ev hb p' [4, 3, 5, 2] (by simp) (by omega) (by omega)
      simp only [List.mem_cons, List.not_mem_nil, or_false] at hn
      obtain ⟨n', hn', rfl⟩ : ∃ n' : Nat, n' ≤ 5 ∧ n = (n' : Int) := ⟨n.toNat, by omega, by omega⟩
      obtain ⟨d, q, h, k1, k2, k3, k4⟩ := some_ev hb n' hn' (p' + 1) (by omega) (by
        have h3b : 3 ^ n' ≤ 3 ^ 5 := Nat.pow_le_pow_right (by omega) hn'
        have h3c : (3 : Nat) ^ 5 = 243 := rfl
        have e3j : ((3 : Int) ^ n') = ((3 ^ n' : Nat) : Int) := by simp
        rw [e3j]
        omega)
      have h3b : 3 ^ n' ≤ 3 ^ 5 := Nat.pow_le_pow_right (by omega) hn'
      have h3c : (3 : Nat) ^ 5 = 243 := rfl
      have e3j : ((3 : Int) ^ n') = ((3 ^ n' : Nat) : Int) := by simp
      rw [e3j] at k4
      generalize 3 ^ n' = T at *
      have km := wf_msz d _ k1
      obtain ⟨d2, q2, h2', v2, m2, m3⟩ := ih (i + 1) (by omega) q (by omega) (by omega)
      by_cases cv : docV d = true
      · by_cases c4 : (dsz d : Int) ≤ 40
        · refine ⟨d, q, Ev.step (fun k => by rw [spec_l1Draw.j1]) (Ev.bind g2 (Ev.bind h (Ev.bind (specValid_ev d (by omega)) ?_))), vdoc_of cv, by omega, by omega⟩
          simp only [if_pos cv]
          refine Ev.bind (specCount_ev d (by omega)) ?_
          simp only [if_pos c4]
          exact Ev.now _
        · refine ⟨d2, q2, Ev.step (fun k => by rw [spec_l1Draw.j1]) (Ev.bind g2 (Ev.bind h (Ev.bind (specValid_ev d (by omega)) ?_))), v2, by omega, by omega⟩
          simp only [if_pos cv]
          refine Ev.bind (specCount_ev d (by omega)) ?_
          simp only [if_neg c4, w1]
          exact h2'
      · refine ⟨d2, q2, Ev.step (fun k => by rw [spec_l1Draw.j1]) (Ev.bind g2 (Ev.bind h (Ev.bind (specValid_ev d (by omega)) ?_))), v2, by omega, by omega⟩
        simp only [if_neg cv, w1]
        exact h2'
    by_cases c0 : r = 0
    · obtain ⟨j, g2, hj0, hj⟩ := pick_ev hb (p + 1) (L.length : Int) (by omega) (by omega)
      have hj := hj (by omega)
      have hjl : j.toNat < L.length := by omega
      have hsz : (rdOf ByteArray.empty L j).size ≤ 1000 := by
        unfold rdOf
        rw [List.getD_eq_getElem?_getD, List.getElem?_eq_getElem hjl]
        exact hL _ (List.getElem_mem hjl)
      have hp := specParse_ev (rdOf ByteArray.empty L j) (by omega)
      cases hd : parseR (rdOf ByteArray.empty L j).data.toList with
      | none =>
        rw [hd] at hp
        obtain ⟨d, q, h1, h2, h3, h4⟩ := J1 (p + 1 + 1) (by omega) (by omega)
        refine ⟨d, q, Ev.step (fun k => by rw [spec_l1Draw.l0]) ?_, h2, h3, h4⟩
        simp only [if_pos c]
        refine Ev.bind g1 ?_
        simp only [if_pos c0]
        refine Ev.bind g2 ?_
        simp only [if_pos hj0, if_pos hj]
        refine Ev.bind hp ?_
        simp only [docR, Bool.false_eq_true, if_false]
        exact h1
      | some d =>
        rw [hd] at hp
        have hv : docV d = true := by
          unfold parseR at hd
          split at hd
          · split at hd
            · rename_i hv
              obtain rfl := Option.some.inj hd
              exact hv
            · cases hd
          · cases hd
        refine ⟨d, p + 1 + 1, Ev.step (fun k => by rw [spec_l1Draw.l0]) ?_, vdoc_of hv, by omega, by omega⟩
        simp only [if_pos c]
        refine Ev.bind g1 ?_
        simp only [if_pos c0]
        refine Ev.bind g2 ?_
        simp only [if_pos hj0, if_pos hj]
        refine Ev.bind hp ?_
        simp only [docR, if_true]
        exact Ev.now _
    · obtain ⟨d, q, h1, h2, h3, h4⟩ := J1 (p + 1) (by omega) (by omega)
      refine ⟨d, q, Ev.step (fun k => by rw [spec_l1Draw.l0]) ?_, h2, h3, h4⟩
      simp only [if_pos c]
      refine Ev.bind g1 ?_
      simp only [if_neg c0]
      exact h1
theorem draw_ev {b : List Int} (hb : Code b) (p : Int) (hp0 : 0 ≤ p) (hp : p ≤ 100000000) : ∃ (d : SDoc) (q : Int), Ev (fun k => spec_l1Draw.f k b p) (d.f0, d.f1, d.f2, d.f3, q) ∧ VDoc d ∧ p ≤ q ∧ q ≤ p + 20000 := by
  have key : ∀ L : List ByteArray, 0 < L.length → (∀ s ∈ L, s.size ≤ 1000) → ∃ (d : SDoc) (q : Int), Ev (fun k => spec_l1Draw.l0 k L 0 b p) (d.f0, d.f1, d.f2, d.f3, q) ∧ VDoc d ∧ p ≤ q ∧ q ≤ p + 20000 := by
    intro L h1 h2
    obtain ⟨d, q, h, v, m1, m2⟩ := draw_loop hb L h1 h2 3 0 (by omega) p hp0 (by omega)
    exact ⟨d, q, h, v, m1, by omega⟩
  have : ∀ L : List ByteArray, (0 < L.length ∧ ∀ s ∈ L, s.size ≤ 1000) → (∀ k, spec_l1Draw.f k b p = spec_l1Draw.l0 k L 0 b p) → ∃ (d : SDoc) (q : Int), Ev (fun k => spec_l1Draw.f k b p) (d.f0, d.f1, d.f2, d.f3, q) ∧ VDoc d ∧ p ≤ q ∧ q ≤ p + 20000 := by
    intro L hL hf
    obtain ⟨d, q, h, v⟩ := key L hL.1 hL.2
    exact ⟨d, q, Ev.congr hf h, v⟩
  refine this _ ?_ (fun k => rfl)
  decide +kernel
end Go.Proofs.Ytdhdfmmefghijaa.Pure
namespace Go.Proofs.Ytdhdfmmefghijaa.Pure
open Go.RowKit Go.Proofs.Ytdhdfmmefghijaa.P Go.Proofs.YtdhdfmmefghijaaW.PrintWords Go.Proofs.YtdhdfmmefghijaaW.PrintLast Go.Proofs.YtdhdfmmefghijaaW.PrintMore
set_option linter.unusedVariables false
set_option linter.unusedSimpArgs false
theorem mszL_set : ∀ (ks : List SDoc) (i : Nat) (y : SDoc) (h : i < ks.length), mszL (ks.set i y) + msz ks[i] = mszL ks + msz y
  | k :: ks, 0, y, _ => by simp [mszL]; omega
  | k :: ks, i + 1, y, h => by
    have := mszL_set ks i y (by simpa using h)
    simp [mszL]
    omega
theorem mutate_ev {b : List Int} (hb : Code b) : ∀ (d : SDoc) (p : Int), 0 ≤ p → p + 4 * dsz d ≤ 800000000 → msz d ≤ 1000000 → ∃ (d' : SDoc) (q : Int), Ev (fun k => spec_l1Mutate.f k b p d.f0 d.f1 d.f2 d.f3) (d'.f0, d'.f1, d'.f2, d'.f3, q) ∧ msz d' ≤ msz d + 13 ∧ p ≤ q ∧ q ≤ p + 4 * dsz d := by
  intro d
  induction d using SDoc.ind with
  | h o n t ks ih =>
    intro p hp0 hp hm
    have hcp := specCopy_ev ⟨o, n, t, ks⟩ (by omega)
    simp only [dsz] at hp ⊢
    have hml := mszL_len ks
    simp only [msz] at hm
    have J0 : ∀ p' : Int, 0 ≤ p' → p ≤ p' → p' ≤ p + 1 → ∃ (d' : SDoc) (q : Int), Ev (fun k => spec_l1Mutate.j0 k false b p' o n t ks) (d'.f0, d'.f1, d'.f2, d'.f3, q) ∧ msz d' ≤ msz ⟨o, n, t, ks⟩ + 13 ∧ p ≤ q ∧ q ≤ p + 3 := by
      intro p' h0 h1 h2
      obtain ⟨r, g1, _, _⟩ := pick_ev hb p' 14 h0 (by omega)
      have S : ∀ R, Ev (fun k => (spec_l15Rd_pick.f k b p' 14).bind fun bt729 => (if bt729.1 = 0 then ((spec_l15Rd_num.f k b bt729.2 (([0, 9, 1, 3, 7] : List Int))).bind fun bt734 => (some (bt734.1, n, t, ks, bt734.2))) else (if bt729.1 = 1 then ((spec_l15Rd_num.f k b bt729.2 (([10, (-1), 1] : List Int))).bind fun bt739 => (some (o, bt739.1, t, ks, bt739.2))) else (if bt729.1 = 2 then ((spec_l15Rd_of.f k b bt729.2 (([(⟨#[]⟩ : ByteArray), (⟨#[65]⟩ : ByteArray), (⟨#[97, 98, 99, 100, 101, 102, 103, 104, 105, 106, 107, 108, 109]⟩ : ByteArray), (⟨#[120, 32, 121]⟩ : ByteArray), (⟨#[122]⟩ : ByteArray)] : List ByteArray))).bind fun bt744 => (some (o, n, bt744.1, ks, bt744.2))) else (if bt729.1 = 3 then (if ks.length < 2513169434916 then (some (o, n, t, (ks ++ [(⟨1, 0, (⟨#[]⟩ : ByteArray), ([] : List (SDoc))⟩ : SDoc)]), bt729.2)) else (none)) else (some (o, n, t, ks, bt729.2))))))) R → Ev (fun k => spec_l1Mutate.j0 k false b p' o n t ks) R := by
        intro R h
        refine Ev.step (fun k => by rw [spec_l1Mutate.j0]) ?_
        simp only [Bool.false_eq_true, if_false]
        exact h
      by_cases c0 : r = 0
      · obtain ⟨s, _, g2⟩ := num_ev hb (p' + 1) [0, 9, 1, 3, 7] (by simp) (by omega) (by omega)
        refine ⟨⟨s, n, t, ks⟩, p' + 1 + 1, S _ (Ev.bind g1 ?_), by simp only [msz]; omega, by omega, by omega⟩
        simp only [if_pos c0]
        exact Ev.bind g2 (Ev.now _)
      by_cases c1 : r = 1
      · obtain ⟨s, _, g2⟩ := num_ev hb (p' + 1) [10, (-1), 1] (by simp) (by omega) (by omega)
        refine ⟨⟨o, s, t, ks⟩, p' + 1 + 1, S _ (Ev.bind g1 ?_), by simp only [msz]; omega, by omega, by omega⟩
        simp only [if_neg c0, if_pos c1]
        exact Ev.bind g2 (Ev.now _)
      by_cases c2 : r = 2
      · obtain ⟨s, hs, g2⟩ := of_ev hb (p' + 1) [(⟨#[]⟩ : ByteArray), (⟨#[65]⟩ : ByteArray), (⟨#[97, 98, 99, 100, 101, 102, 103, 104, 105, 106, 107, 108, 109]⟩ : ByteArray), (⟨#[120, 32, 121]⟩ : ByteArray), (⟨#[122]⟩ : ByteArray)] (by simp) (by omega) (by omega)
        have hz : s.size ≤ 13 := by
          have : ∀ s ∈ [(⟨#[]⟩ : ByteArray), (⟨#[65]⟩ : ByteArray), (⟨#[97, 98, 99, 100, 101, 102, 103, 104, 105, 106, 107, 108, 109]⟩ : ByteArray), (⟨#[120, 32, 121]⟩ : ByteArray), (⟨#[122]⟩ : ByteArray)], s.size ≤ 13 := by decide +kernel
          exact this s hs
        refine ⟨⟨o, n, s, ks⟩, p' + 1 + 1, S _ (Ev.bind g1 ?_), by simp only [msz]; omega, by omega, by omega⟩
        simp only [if_neg c0, if_neg c1, if_pos c2]
        exact Ev.bind g2 (Ev.now _)
      by_cases c3 : r = 3
      · refine ⟨⟨o, n, t, ks ++ [⟨1, 0, ⟨#[]⟩, []⟩]⟩, p' + 1, S _ (Ev.bind g1 ?_), ?_, by omega, by omega⟩
        · simp only [if_neg c0, if_neg c1, if_neg c2, if_pos c3, if_pos (show ks.length < 2513169434916 by omega)]
          exact Ev.now _
        · simp only [msz, mszL_app, mszL]
          show 1 + t.size + (mszL ks + (1 + 0 + 0 + 0)) ≤ _
          omega
      · refine ⟨⟨o, n, t, ks⟩, p' + 1, S _ (Ev.bind g1 ?_), by simp only [msz]; omega, by omega, by omega⟩
        simp only [if_neg c0, if_neg c1, if_neg c2, if_neg c3]
        exact Ev.now _
    by_cases c : (ks.length : Int) > 0
    · obtain ⟨r, g1, hr0, hr⟩ := pick_ev hb p 2 hp0 (by omega)
      by_cases cr : r > 0
      · obtain ⟨j, g2, hj0, hj⟩ := pick_ev hb (p + 1) (ks.length : Int) (by omega) (by omega)
        have hj := hj (by omega)
        have hjl : j.toNat < ks.length := by omega
        have hmem : ks[j.toNat] ∈ ks := List.getElem_mem hjl
        have hd := dszL_mem hmem
        have hz := mszL_mem hmem
        have hrd : rd_TDoc ks j = ks[j.toNat] := by
          unfold rd_TDoc
          rw [List.getD_eq_getElem?_getD, List.getElem?_eq_getElem hjl]
          rfl
        obtain ⟨y, q, h, h1, h2, h3⟩ := ih _ hmem (p + 1 + 1) (by omega) (by omega) (by omega)
        refine ⟨⟨o, n, t, ks.set j.toNat y⟩, q, Ev.step (fun k => by rw [spec_l1Mutate.f]) (Ev.bind hcp ?_), ?_, by omega, by omega⟩
        · simp only [if_pos c]
          refine Ev.bind g1 ?_
          rw [decide_eq_true cr]
          refine Ev.step (fun k => by rw [spec_l1Mutate.j0]) ?_
          simp only [if_true]
          refine Ev.bind g2 ?_
          simp only [if_pos hj0, if_pos hj, hrd]
          refine Ev.bind h ?_
          simp only [SDoc_eta]
          exact Ev.now _
        · have := mszL_set ks j.toNat y hjl
          simp only [msz]
          omega
      · obtain ⟨d', q, h, h1, h2, h3⟩ := J0 (p + 1) (by omega) (by omega) (by omega)
        refine ⟨d', q, Ev.step (fun k => by rw [spec_l1Mutate.f]) (Ev.bind hcp ?_), h1, h2, by omega⟩
        simp only [if_pos c]
        refine Ev.bind g1 ?_
        rw [decide_eq_false cr]
        exact h
    · obtain ⟨d', q, h, h1, h2, h3⟩ := J0 p hp0 (by omega) (by omega)
      refine ⟨d', q, Ev.step (fun k => by rw [spec_l1Mutate.f]) (Ev.bind hcp ?_), h1, h2, by omega⟩
      simp only [if_neg c]
      exact h
theorem mutate2_ev {b : List Int} (hb : Code b) (d : SDoc) (p : Int) (hp0 : 0 ≤ p) (hp : p ≤ 700000000) (hm : msz d ≤ 100000) : ∃ (d1 d2 : SDoc) (q q2 : Int), Ev (fun k => spec_l1Mutate.f k b p d.f0 d.f1 d.f2 d.f3) (d1.f0, d1.f1, d1.f2, d1.f3, q) ∧ Ev (fun k => spec_l1Mutate.f k b q d1.f0 d1.f1 d1.f2 d1.f3) (d2.f0, d2.f1, d2.f2, d2.f3, q2) ∧ msz d1 ≤ msz d + 13 ∧ msz d2 ≤ msz d + 26 ∧ p ≤ q ∧ q ≤ q2 ∧ q2 ≤ p + 900000 := by
  have e := dsz_msz d
  obtain ⟨d1, q, h, h1, h2, h3⟩ := mutate_ev hb d p hp0 (by omega) (by omega)
  have e1 := dsz_msz d1
  obtain ⟨d2, q2, k, k1, k2, k3⟩ := mutate_ev hb d1 q (by omega) (by omega) (by omega)
  exact ⟨d1, d2, q, q2, h, k, h1, by omega, h2, k2, by omega⟩
end Go.Proofs.Ytdhdfmmefghijaa.Pure
namespace Go.Proofs.Ytdhdfmmefghijaa.P
open Go.RowKit Go.Proofs.YtdhdfmmefghijaaW.PrintWords Go.Proofs.YtdhdfmmefghijaaW.PrintLast Go.Proofs.YtdhdfmmefghijaaW.PrintMore
attribute [local go_sem] max2_int min2_int max_two min_two max_three min_three max_four min_four
set_option linter.unusedVariables false
set_option linter.unusedSimpArgs false
def spec_DrawFormatDoc.f (k:Nat) (l0:List Int):Option (Int × Int × ByteArray × (List (SDoc))):=(spec_DrawDocValid.f k l0).bind fun bt832=>(some (bt832.1,bt832.2.1,bt832.2.2.1,bt832.2.2.2))
set_option maxHeartbeats 8000000 in
set_option maxRecDepth 100000 in
theorem spec_DrawFormatDoc.calls (k:Nat) (A0:Option Addr) (c0:Nat) (l0:List Int) (r1:Int) (r2:Int) (r3:ByteArray) (r4:List (SDoc)) (w:World) (hr0:Kd.C (Kd.int .u8) w A0 l0.length l0) (hc0:l0.length≤c0) (h:spec_DrawFormatDoc.f k l0=some (r1,r2,r3,r4)) :
  Calls Try.prog 40 #[.slice A0 l0.length c0] w fun e w'=>∃ v3_:Value,e=.returned (.agg #[.int .i64 r1,.int .i64 r2,.string r3,v3_])∧Kd.N k27 27 w' w.heap.size (fun k_=>(w.heap.size≤k_)) v3_ r4∧Below w.heap.size w w':=by
 have hu27:=Try.underlying27
 have HR0:=Aside0.mk hr0
 have HC0:=Aside0.mk hc0
 clear hr0 hc0
 have HB:=Aside0.mk (Below.refl w.heap.size w)
 have H:((spec_DrawDocValid.f k l0).bind fun bt832=>(some (bt832.1,bt832.2.1,bt832.2.2.1,bt832.2.2.2)))=some (r1,r2,r3,r4):=h
 clear h
 replace H:=Option.bind_eq_some_iff.mp H
 obtain ⟨⟨t832,t833,t834,t835⟩,A20,H⟩:=H
 replace H:(some (t832,t833,t834,t835))=some (r1,r2,r3,r4):=H
 have A2:=Aside0.mk A20
 clear A20
 simp only [Option.some.injEq,Prod.mk.injEq] at H
 obtain ⟨rfl,rfl,rfl,rfl⟩:=H
 go_enter Try.func40,Try.ntmps40
 go_wp2_with (first|((with_reducible refine gate_dst (N:=2) rfl ?_);refine box_event ?hg (N:=2) ?hd (cs:=#[.int .i64 0,.int .i64 0,.string (⟨#[]⟩:ByteArray),.slice none 0 0]) (t:=27) ?hr ?_;(case hd=>rfl);(case hg=>rfl);(case hr=>first|(go_simp;done)|(go_simp;rfl));intro gb831 hg w3 hbox hb;have n0_:=Aside0.mk (below_step (by repeat (first|(with_reducible first|exact HB.out|apply below_alloc|apply pw_below_drewN|apply below_drew1)|exact HB.out)) hb);have n1_:=Aside0.mk (hbox);have n2_:=Aside0.mk ((by rw [hg];exact (below_size (by repeat (first|(with_reducible first|exact HB.out|apply below_alloc|apply pw_below_drewN|apply below_drew1)|exact HB.out))):w.heap.size≤gb831));have n3_:=Aside0.mk ((by rw [hg];exact (below_size (by repeat (first|(with_reducible first|exact HB.out|apply below_alloc|apply pw_below_drewN|apply below_drew1)|exact HB.out))):w.heap.size≤gb831));clear HB;have HB:=n0_;have BK831:=n1_;have GW831:=n2_;have GE831:=n3_;clear n0_ n1_ n2_ n3_;clear hb hbox hg)|((with_reducible refine gate_callee (f:=23) rfl ?_);refine goesL_ (some 4) rfl rfl Try.func23 (by kernel_rfl) rfl #[.slice A0 l0.length c0] rfl (by (try simp only [List.map_toArray,List.map_cons,List.map_nil]);first|done|rfl|(simp only [List.length_drop,List.length_take];rfl)) ?_;(with_reducible refine (spec_DrawDocValid.calls k _ _ l0 t832 t833 t834 t835 _ ?side1 ?side2 A2.out).mono ?_);(case side1=>repeat (first|exact (Kd.C_below HR0.out HB.out)|(with_reducible refine Kd.C_alloc ?_ _)|(with_reducible refine Kd.C_drewN ?_ _)|(with_reducible refine Kd.C_drew ?_)));(case side2=>exact HC0.out);rintro e w4 ⟨v836,rfl,ho0,hb⟩;refine ⟨_,rfl,?_⟩;have n0_:=Aside0.mk (Kd.N_lower (Kd.N_mono (ok':=fun k_=>(w.heap.size≤k_)∧k_ ≠ gb831) ho0 (fun k_ hk_=>⟨(Nat.le_trans (below_size (by repeat (first|(with_reducible first|exact HB.out|apply below_alloc|apply pw_below_drewN|apply below_drew1|refine below_set ?_ GE831.out)|exact HB.out))) hk_),(Kd.freshB (g:=gb831) (o:=.cells #[.int .i64 0,.int .i64 0,.string (⟨#[]⟩:ByteArray),.slice none 0 0] 27 (0,0)) (by (with_reducible repeat (first|refine blk_drewN ?_ _|refine blk_drew ?_|refine blk_alloc ?_ _));exact BK831.out) k_ hk_)⟩)) (below_size (by repeat (first|(with_reducible first|exact HB.out|apply below_alloc|apply pw_below_drewN|apply below_drew1|refine below_set ?_ GE831.out)|exact HB.out))));have n1_:=Aside0.mk (blk_below (g:=gb831) (o:=.cells #[.int .i64 0,.int .i64 0,.string (⟨#[]⟩:ByteArray),.slice none 0 0] 27 (0,0)) (by (with_reducible repeat (first|refine blk_drewN ?_ _|refine blk_drew ?_|refine blk_alloc ?_ _));exact BK831.out) hb);have n2_:=Aside0.mk (below_step (by repeat (first|(with_reducible first|exact HB.out|apply below_alloc|apply pw_below_drewN|apply below_drew1|refine below_set ?_ GE831.out)|exact HB.out)) hb);clear BK831;clear HB;have HO837:=n0_;have BK831:=n1_;have HB:=n2_;clear n0_ n1_ n2_;(try clear hb);(try clear hb2);(try clear hk);(try clear hi);(try clear ho0);have hcz5_0:w4.cell? ⟨gb831,0,none⟩=some (.int .i64 0):=(blk_cell BK831.out 0).trans rfl;have hcz5_1:w4.cell? ⟨gb831,1,none⟩=some (.int .i64 0):=(blk_cell BK831.out 1).trans rfl;have hcz5_2:w4.cell? ⟨gb831,2,none⟩=some (.string (⟨#[]⟩:ByteArray)):=(blk_cell BK831.out 2).trans rfl;have hcz5_3:w4.cell? ⟨gb831,3,none⟩=some (.slice none 0 0):=(blk_cell BK831.out 3).trans rfl;have hfz5_0:=blk_frozen BK831.out 0;have hfz5_1:=blk_frozen BK831.out 1;have hfz5_2:=blk_frozen BK831.out 2;have hfz5_3:=blk_frozen BK831.out 3;obtain ⟨Ao6,co6,eo6⟩:=Kd.N_slice HO837.out;subst eo6))
 refine bodyPost_ret (results_cell_row rfl _ _ gb831 27 #[.int .i64 t832,.int .i64 t833,.string t834,.slice Ao6 t835.length co6] (0,0) _ rfl (by (with_reducible repeat (first|refine blk_drewN ?_ _|refine blk_drew ?_|refine blk_alloc ?_ _));refine blk_put (cs:=#[.int .i64 t832,.int .i64 t833,.string t834,.slice none 0 0]) ?_ 3 _ rfl;(with_reducible repeat (first|refine blk_drewN ?_ _|refine blk_drew ?_|refine blk_alloc ?_ _));refine blk_put (cs:=#[.int .i64 t832,.int .i64 t833,.string (⟨#[]⟩:ByteArray),.slice none 0 0]) ?_ 2 _ rfl;(with_reducible repeat (first|refine blk_drewN ?_ _|refine blk_drew ?_|refine blk_alloc ?_ _));refine blk_put (cs:=#[.int .i64 t832,.int .i64 0,.string (⟨#[]⟩:ByteArray),.slice none 0 0]) ?_ 1 _ rfl;(with_reducible repeat (first|refine blk_drewN ?_ _|refine blk_drew ?_|refine blk_alloc ?_ _));refine blk_put (cs:=#[.int .i64 0,.int .i64 0,.string (⟨#[]⟩:ByteArray),.slice none 0 0]) ?_ 0 _ rfl;(with_reducible repeat (first|refine blk_drewN ?_ _|refine blk_drew ?_|refine blk_alloc ?_ _));exact BK831.out) Try.underlying27 rfl (by kernel_rfl)) rfl ?_
 exact ⟨_,by first|rfl|(simp [errW_none,errW_some] <;> rfl)|(simp [*,errW_none,errW_some] <;> rfl),by (with_reducible repeat (first|apply Kd.N_alloc|apply Kd.N_drewN|apply Kd.N_drew));exact Kd.N_mono (Kd.N_far (p:=⟨gb831,3,none⟩) (Kd.N_far (p:=⟨gb831,2,none⟩) (Kd.N_far (p:=⟨gb831,1,none⟩) (Kd.N_far (p:=⟨gb831,0,none⟩) (Kd.N_mono HO837.out (fun k_ hk=>(⟨hk,hk.2⟩:_∧k_ ≠ gb831))) (fun _ hk=>hk.2) (.int .i64 t832)) (fun _ hk=>hk.2) (.int .i64 t833)) (fun _ hk=>hk.2) (.string t834)) (fun _ hk=>hk.2) (.slice Ao6 t835.length co6)) (fun _ hk=>hk.1.1),by repeat (first|(with_reducible first|exact HB.out|apply below_alloc|apply pw_below_drewN|apply below_drew1|refine below_set ?_ GE831.out)|exact HB.out)⟩
end Go.Proofs.Ytdhdfmmefghijaa.P
namespace Go.Proofs.Ytdhdfmmefghijaa.P
open Go.RowKit Go.Proofs.YtdhdfmmefghijaaW.PrintWords Go.Proofs.YtdhdfmmefghijaaW.PrintLast Go.Proofs.YtdhdfmmefghijaaW.PrintMore
attribute [local go_sem] max2_int min2_int max_two min_two max_three min_three max_four min_four
set_option linter.unusedVariables false
set_option linter.unusedSimpArgs false
def spec_DrawDocSame.f (k:Nat) (l0:List Int):Option (Int × Int × ByteArray × (List (SDoc)) × Int × Int × ByteArray × (List (SDoc))):=(spec_l15Open.f l0).bind fun bt562=>((spec_l1Draw.f k bt562.1 bt562.2).bind fun bt565=>((spec_l15Rd_pick.f k bt562.1 bt565.2.2.2.2 4).bind fun bt573=>(if bt573.1=0 then ((spec_l1Draw.f k bt562.1 bt573.2).bind fun bt575=>(some (bt565.1,bt565.2.1,bt565.2.2.1,bt565.2.2.2.1,bt575.1,bt575.2.1,bt575.2.2.1,bt575.2.2.2.1))) else ((spec_l1Mutate.f k bt562.1 bt573.2 bt565.1 bt565.2.1 bt565.2.2.1 bt565.2.2.2.1).bind fun bt582=>((spec_l1Mutate.f k bt562.1 bt582.2.2.2.2 bt582.1 bt582.2.1 bt582.2.2.1 bt582.2.2.2.1).bind fun bt589=>(some (bt565.1,bt565.2.1,bt565.2.2.1,bt565.2.2.2.1,bt589.1,bt589.2.1,bt589.2.2.1,bt589.2.2.2.1)))))))
def spec_DrawDocSame.T5:Bool × List (List Nat × List Nat):=(true,[([],[]),([],[]),([],[]),([],[]),([2,3],[2,3]),([1,4,4],[1,4]),([0,5,0],[0]),([5,6,0,1,2,3,4,5,6],[5])])
def spec_DrawDocSame.B5:List Nat:=[0,0,0,0,12,30,63,127]
theorem spec_DrawDocSame.tab5:rtab .any (opsOf Try.f31 5)=spec_DrawDocSame.T5:=by kernel_rfl
theorem spec_DrawDocSame.bits5:waitsOk spec_DrawDocSame.T5.2 spec_DrawDocSame.B5=true:=by kernel_rfl
end Go.Proofs.Ytdhdfmmefghijaa.P
namespace Go.Proofs.Ytdhdfmmefghijaa.P
open Go.RowKit Go.Proofs.YtdhdfmmefghijaaW.PrintWords Go.Proofs.YtdhdfmmefghijaaW.PrintLast Go.Proofs.YtdhdfmmefghijaaW.PrintMore
attribute [local go_sem] max2_int min2_int max_two min_two max_three min_three max_four min_four
set_option linter.unusedVariables false
set_option linter.unusedSimpArgs false
def spec_DrawCatDocs.f (k:Nat) (l0:List Int):Option (Int × Int × ByteArray × (List (SDoc)) × Int × Int × ByteArray × (List (SDoc))):=(spec_l15Open.f l0).bind fun bt645=>((spec_l1Draw.f k bt645.1 bt645.2).bind fun bt648=>((spec_l1Mutate.f k bt645.1 bt648.2.2.2.2 bt648.1 bt648.2.1 bt648.2.2.1 bt648.2.2.2.1).bind fun bt655=>((spec_l1Draw.f k bt645.1 bt655.2.2.2.2).bind fun bt662=>((spec_l1Mutate.f k bt645.1 bt662.2.2.2.2 bt662.1 bt662.2.1 bt662.2.2.1 bt662.2.2.2.1).bind fun bt669=>(some (bt655.1,bt655.2.1,bt655.2.2.1,bt655.2.2.2.1,bt669.1,bt669.2.1,bt669.2.2.1,bt669.2.2.2.1))))))
end Go.Proofs.Ytdhdfmmefghijaa.P
