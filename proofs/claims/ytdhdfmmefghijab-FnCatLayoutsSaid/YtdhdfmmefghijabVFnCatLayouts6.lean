/- CONTRACTS and lemmas: each contract says that a Go function of the program, called over the translation under the theorem's own hypotheses, returns what the Lean function beside it computes. -/
import Derived.Test.YtdhdfmmefghijabVFnCatLayouts5
namespace Go.Proofs.Ytdhdfmmefghijab.P
open Go.RowKit Go.Proofs.YtdhdfmmefghijabW.PrintWords Go.Proofs.YtdhdfmmefghijabW.PrintLast Go.Proofs.YtdhdfmmefghijabW.PrintMore
attribute [local go_sem] max2_int min2_int max_two min_two max_three min_three max_four min_four
set_option linter.unusedVariables false
set_option linter.unusedSimpArgs false
mutual
def spec_l1Draw.l0:Nat→List ByteArray→Int→List Int→Int→Option (Int × Int × ByteArray × (List (SDoc)) × Int)
 | 0,_,_,_,_=>none
 | k+1,x3,x4,x1000,x1001=>if x4 < 3 then ((spec_l15Rd_pick.f k x1000 x1001 3).bind fun bt353=>(if bt353.1=0 then ((spec_l15Rd_pick.f k x1000 bt353.2 (x3.length:Int)).bind fun bt355=>(if 0≤bt355.1 then (if bt355.1 < (x3.length:Int) then ((spec_ParseDoc.f k (rdOf ByteArray.empty x3 bt355.1)).bind fun bt358=>(if bt358.2.2.2.2=true then (some (bt358.1,bt358.2.1,bt358.2.2.1,bt358.2.2.2.1,bt355.2)) else (spec_l1Draw.j1 k x3 x4 x1000 bt355.2))) else (none)) else (none))) else (spec_l1Draw.j1 k x3 x4 x1000 bt353.2))) else ((spec_l1Some.f k x1000 x1001 2).bind fun bt381=>(some (bt381.1,bt381.2.1,bt381.2.2.1,bt381.2.2.2.1,bt381.2.2.2.2)))
def spec_l1Draw.j1:Nat→List ByteArray→Int→List Int→Int→Option (Int × Int × ByteArray × (List (SDoc)) × Int)
 | 0,_,_,_,_=>none
 | k+1,x3,x4,x1000,x1001=>(spec_l15Rd_num.f k x1000 x1001 (([4,3,5,2]:List Int))).bind fun bt369=>((spec_l1Some.f k x1000 bt369.2 bt369.1).bind fun bt371=>((spec_DocValid.f k bt371.1 bt371.2.1 bt371.2.2.1 bt371.2.2.2.1).bind fun t379=>(if t379=true then ((spec_l1Count.f k bt371.1 bt371.2.1 bt371.2.2.1 bt371.2.2.2.1).bind fun t380=>(if t380≤40 then (some (bt371.1,bt371.2.1,bt371.2.2.1,bt371.2.2.2.1,bt371.2.2.2.2)) else (spec_l1Draw.l0 k x3 (wrap64 (x4+1)) x1000 bt371.2.2.2.2))) else (spec_l1Draw.l0 k x3 (wrap64 (x4+1)) x1000 bt371.2.2.2.2))))
end
def spec_l1Draw.f (k:Nat) (s0_0:List Int) (s0_1:Int):Option (Int × Int × ByteArray × (List (SDoc)) × Int):=spec_l1Draw.l0 k (([(⟨#[91,40,34,102,40,34,40,50,60,40,46,40,34,97,97,97,97,44,34,40,95,34,98,98,98,98,34,41,41,41,62,40,46,34,41,34,41,41,41,93]⟩:ByteArray),(⟨#[40,34,97,34,40,95,40,34,98,34,40,95,34,99,34,41,41,41,41]⟩:ByteArray),(⟨#[91,40,34,97,97,34,40,95,91,40,34,98,98,34,40,95,34,99,99,34,41,41,93,41,41,93]⟩:ByteArray),(⟨#[51,60,91,40,34,120,61,49,34,40,95,34,121,34,41,41,93,62]⟩:ByteArray),(⟨#[40,34,123,34,40,50,60,40,33,40,34,97,58,49,44,34,40,33,34,98,58,50,34,41,41,41,62,40,33,34,125,34,41,41,41]⟩:ByteArray),(⟨#[40,91,40,34,97,34,40,95,34,98,34,41,41,93,91,40,34,99,34,40,46,34,100,34,41,41,93,41]⟩:ByteArray),(⟨#[126]⟩:ByteArray),(⟨#[34,97,98,99,34]⟩:ByteArray)]:List ByteArray)) 0 s0_0 s0_1
set_option maxHeartbeats 8000000 in
set_option maxRecDepth 100000 in
theorem spec_l1Draw.calls (k:Nat) (g:Nat) (s0_0:List Int) (s0_1:Int) (r1:Int) (r2:Int) (r3:ByteArray) (r4:List (SDoc)) (r5:Int) (w0 w:World) (hI:IsS67 w0 w g s0_0 s0_1) (hB:Below w0.heap.size w0 w) (h:spec_l1Draw.f k s0_0 s0_1=some (r1,r2,r3,r4,r5)) :
  Calls Try.prog 65 #[.pointer (some ⟨g,0,none⟩)] w fun e w'=>∃ v3_:Value,e=.returned (.agg #[.int .i64 r1,.int .i64 r2,.string r3,v3_])∧Kd.N k39 39 w' w.heap.size (fun k_=>(w.heap.size≤k_)) v3_ r4∧IsS67 w0 w' g s0_0 r5∧Below w0.heap.size w0 w'∧KeepBut w w' g none:=by
 have hu39:=Try.underlying39
 have HI0:=Aside0.mk hI
 have HK:=Aside0.mk (KeepBut.refl w g none)
 have HL:=Aside0.mk hB.size
 clear hI
 have HW0:=Aside0.mk hB.size
 have HB:=Aside0.mk hB
 clear hB
 have H:(spec_l1Draw.l0 k (([(⟨#[91,40,34,102,40,34,40,50,60,40,46,40,34,97,97,97,97,44,34,40,95,34,98,98,98,98,34,41,41,41,62,40,46,34,41,34,41,41,41,93]⟩:ByteArray),(⟨#[40,34,97,34,40,95,40,34,98,34,40,95,34,99,34,41,41,41,41]⟩:ByteArray),(⟨#[91,40,34,97,97,34,40,95,91,40,34,98,98,34,40,95,34,99,99,34,41,41,93,41,41,93]⟩:ByteArray),(⟨#[51,60,91,40,34,120,61,49,34,40,95,34,121,34,41,41,93,62]⟩:ByteArray),(⟨#[40,34,123,34,40,50,60,40,33,40,34,97,58,49,44,34,40,33,34,98,58,50,34,41,41,41,62,40,33,34,125,34,41,41,41]⟩:ByteArray),(⟨#[40,91,40,34,97,34,40,95,34,98,34,41,41,93,91,40,34,99,34,40,46,34,100,34,41,41,93,41]⟩:ByteArray),(⟨#[126]⟩:ByteArray),(⟨#[34,97,98,99,34]⟩:ByteArray)]:List ByteArray)) 0 s0_0 s0_1)=some (r1,r2,r3,r4,r5):=h
 clear h
 obtain ⟨y350,hy350⟩:∃ y_:List ByteArray,y_=(([(⟨#[91,40,34,102,40,34,40,50,60,40,46,40,34,97,97,97,97,44,34,40,95,34,98,98,98,98,34,41,41,41,62,40,46,34,41,34,41,41,41,93]⟩:ByteArray),(⟨#[40,34,97,34,40,95,40,34,98,34,40,95,34,99,34,41,41,41,41]⟩:ByteArray),(⟨#[91,40,34,97,97,34,40,95,91,40,34,98,98,34,40,95,34,99,99,34,41,41,93,41,41,93]⟩:ByteArray),(⟨#[51,60,91,40,34,120,61,49,34,40,95,34,121,34,41,41,93,62]⟩:ByteArray),(⟨#[40,34,123,34,40,50,60,40,33,40,34,97,58,49,44,34,40,33,34,98,58,50,34,41,41,41,62,40,33,34,125,34,41,41,41]⟩:ByteArray),(⟨#[40,91,40,34,97,34,40,95,34,98,34,41,41,93,91,40,34,99,34,40,46,34,100,34,41,41,93,41]⟩:ByteArray),(⟨#[126]⟩:ByteArray),(⟨#[34,97,98,99,34]⟩:ByteArray)]:List ByteArray)):=⟨_,rfl⟩
 replace H:(spec_l1Draw.l0 k y350 0 s0_0 s0_1)=some (r1,r2,r3,r4,r5):=by first|(rw [hy350];with_reducible exact H)|(have H2_:=(Option.bind_some _ _).symm.trans H;rw [hy350];with_reducible exact H2_)|(have H2_:=(Option.bind_some _ _).symm.trans H;with_reducible exact H2_)|with_reducible exact H|(rw [hy350];exact H)|exact H
 have Ny350:=Aside0.mk hy350
 clear hy350
 have H':=Aside0.mk H
 clear H
 go_enter Try.func65,Try.ntmps65
 go_wp2_with (first|((with_reducible refine gate_dst (N:=2) rfl ?_);refine box_event ?hg (N:=2) ?hd (cs:=#[.int .i64 0,.int .i64 0,.string (⟨#[]⟩:ByteArray),.slice none 0 0]) (t:=39) ?hr ?_;(case hd=>rfl);(case hg=>rfl);(case hr=>first|(go_simp;done)|(go_simp;rfl));intro gb349 hg w2 hbox hb;have n0_:=Aside0.mk (IsS67.below (by repeat (first|(with_reducible first|exact HI0.out|apply IsS67.alloc|apply IsS67.drewN|apply IsS67.drew|apply IsS67.set_1)|exact HI0.out)) hb);have n1_:=Aside0.mk (KeepBut.trans (by repeat (first|exact gW HK|apply KeepBut.set_)) (KeepBut.of_below hb g none) (.inl rfl));have n2_:=Aside0.mk (below_step (by repeat (first|exact gB HB|refine below_set ?_ (IsS67.ge HI0.out))) hb);have n3_:=Aside0.mk (hbox);have n4_:=Aside0.mk ((by rw [hg];exact (keep_size (w:=w) (g:=g) (row:=none) (by repeat (first|exact gW HK|apply KeepBut.set_))):w.heap.size≤gb349));have n5_:=Aside0.mk ((Nat.le_trans HW0.out (by rw [hg];exact (keep_size (w:=w) (g:=g) (row:=none) (by repeat (first|exact gW HK|apply KeepBut.set_))):w.heap.size≤gb349):w0.heap.size≤gb349));have n6_:=Aside0.mk ((by rw [hg];exact Nat.ne_of_lt (IsS67.lt (show IsS67 w0 _ g s0_0 s0_1 from by repeat (first|(with_reducible first|exact HI0.out|apply IsS67.alloc|apply IsS67.drewN|apply IsS67.drew|apply IsS67.set_1)|exact HI0.out))):g ≠ gb349));have n7_:=Aside0.mk ((by rw [hg];exact Nat.ne_of_gt (IsS67.lt (show IsS67 w0 _ g s0_0 s0_1 from by repeat (first|(with_reducible first|exact HI0.out|apply IsS67.alloc|apply IsS67.drewN|apply IsS67.drew|apply IsS67.set_1)|exact HI0.out))):gb349 ≠ g));clear HI0;clear HK;clear HB;have HI0:=n0_;have HK:=n1_;have HB:=n2_;have BK349:=n3_;have GW349:=n4_;have GE349:=n5_;have NB0_349:=n6_;have NB349_0:=n7_;clear n0_ n1_ n2_ n3_ n4_ n5_ n6_ n7_;clear hb hbox hg)|((with_reducible refine gate_dst (N:=8) rfl ?_);refine Kd.R_lit Kd.string _ 9 ?hg (N:=8) ?hd (xs:=([(⟨#[91,40,34,102,40,34,40,50,60,40,46,40,34,97,97,97,97,44,34,40,95,34,98,98,98,98,34,41,41,41,62,40,46,34,41,34,41,41,41,93]⟩:ByteArray),(⟨#[40,34,97,34,40,95,40,34,98,34,40,95,34,99,34,41,41,41,41]⟩:ByteArray),(⟨#[91,40,34,97,97,34,40,95,91,40,34,98,98,34,40,95,34,99,99,34,41,41,93,41,41,93]⟩:ByteArray),(⟨#[51,60,91,40,34,120,61,49,34,40,95,34,121,34,41,41,93,62]⟩:ByteArray),(⟨#[40,34,123,34,40,50,60,40,33,40,34,97,58,49,44,34,40,33,34,98,58,50,34,41,41,41,62,40,33,34,125,34,41,41,41]⟩:ByteArray),(⟨#[40,91,40,34,97,34,40,95,34,98,34,41,41,93,91,40,34,99,34,40,46,34,100,34,41,41,93,41]⟩:ByteArray),(⟨#[126]⟩:ByteArray),(⟨#[34,97,98,99,34]⟩:ByteArray)]:List ByteArray)) (inner:=[.string (⟨#[91,40,34,102,40,34,40,50,60,40,46,40,34,97,97,97,97,44,34,40,95,34,98,98,98,98,34,41,41,41,62,40,46,34,41,34,41,41,41,93]⟩:ByteArray),.string (⟨#[40,34,97,34,40,95,40,34,98,34,40,95,34,99,34,41,41,41,41]⟩:ByteArray),.string (⟨#[91,40,34,97,97,34,40,95,91,40,34,98,98,34,40,95,34,99,99,34,41,41,93,41,41,93]⟩:ByteArray),.string (⟨#[51,60,91,40,34,120,61,49,34,40,95,34,121,34,41,41,93,62]⟩:ByteArray),.string (⟨#[40,34,123,34,40,50,60,40,33,40,34,97,58,49,44,34,40,33,34,98,58,50,34,41,41,41,62,40,33,34,125,34,41,41,41]⟩:ByteArray),.string (⟨#[40,91,40,34,97,34,40,95,34,98,34,41,41,93,91,40,34,99,34,40,46,34,100,34,41,41,93,41]⟩:ByteArray),.string (⟨#[126]⟩:ByteArray),.string (⟨#[34,97,98,99,34]⟩:ByteArray)]) (ok:=fun _=>True) (okp:=fun _=>True) ?hr ?hp (fun _ hk=>hk) trivial (Below.refl _ _) (Nat.le_refl _) (by simp) ?_;(case hd=>rfl);(case hg=>rfl);(case hr=>first|(go_simp;done)|(go_simp;rfl));(case hp=>exact (Reps.one (show Kd.M Kd.string _ _ _ (⟨#[91,40,34,102,40,34,40,50,60,40,46,40,34,97,97,97,97,44,34,40,95,34,98,98,98,98,34,41,41,41,62,40,46,34,41,34,41,41,41,93]⟩:ByteArray) [.string (⟨#[91,40,34,102,40,34,40,50,60,40,46,40,34,97,97,97,97,44,34,40,95,34,98,98,98,98,34,41,41,41,62,40,46,34,41,34,41,41,41,93]⟩:ByteArray)] from rfl) (Reps.one (show Kd.M Kd.string _ _ _ (⟨#[40,34,97,34,40,95,40,34,98,34,40,95,34,99,34,41,41,41,41]⟩:ByteArray) [.string (⟨#[40,34,97,34,40,95,40,34,98,34,40,95,34,99,34,41,41,41,41]⟩:ByteArray)] from rfl) (Reps.one (show Kd.M Kd.string _ _ _ (⟨#[91,40,34,97,97,34,40,95,91,40,34,98,98,34,40,95,34,99,99,34,41,41,93,41,41,93]⟩:ByteArray) [.string (⟨#[91,40,34,97,97,34,40,95,91,40,34,98,98,34,40,95,34,99,99,34,41,41,93,41,41,93]⟩:ByteArray)] from rfl) (Reps.one (show Kd.M Kd.string _ _ _ (⟨#[51,60,91,40,34,120,61,49,34,40,95,34,121,34,41,41,93,62]⟩:ByteArray) [.string (⟨#[51,60,91,40,34,120,61,49,34,40,95,34,121,34,41,41,93,62]⟩:ByteArray)] from rfl) (Reps.one (show Kd.M Kd.string _ _ _ (⟨#[40,34,123,34,40,50,60,40,33,40,34,97,58,49,44,34,40,33,34,98,58,50,34,41,41,41,62,40,33,34,125,34,41,41,41]⟩:ByteArray) [.string (⟨#[40,34,123,34,40,50,60,40,33,40,34,97,58,49,44,34,40,33,34,98,58,50,34,41,41,41,62,40,33,34,125,34,41,41,41]⟩:ByteArray)] from rfl) (Reps.one (show Kd.M Kd.string _ _ _ (⟨#[40,91,40,34,97,34,40,95,34,98,34,41,41,93,91,40,34,99,34,40,46,34,100,34,41,41,93,41]⟩:ByteArray) [.string (⟨#[40,91,40,34,97,34,40,95,34,98,34,41,41,93,91,40,34,99,34,40,46,34,100,34,41,41,93,41]⟩:ByteArray)] from rfl) (Reps.one (show Kd.M Kd.string _ _ _ (⟨#[126]⟩:ByteArray) [.string (⟨#[126]⟩:ByteArray)] from rfl) (Reps.one (show Kd.M Kd.string _ _ _ (⟨#[34,97,98,99,34]⟩:ByteArray) [.string (⟨#[34,97,98,99,34]⟩:ByteArray)] from rfl) (Reps.none _ _))))))))));intro v351 w3 ho4 hb hg_ hnew_;clear hg_ hnew_;(first|rw [← Ny350.out] at ho4|(simp only [Int.reduceToNat] at ho4;rw [← Ny350.out] at ho4));have n0_:=Aside0.mk (Kd.R_lower (Kd.R_newM (M:=fun k_=>(w.heap.size≤k_)) ho4 (keep_size (w:=w) (g:=g) (row:=none) (by repeat (first|exact gW HK|apply KeepBut.set_|refine keep_far ?_ GW349.out _))) (fun k_ h_=>h_)) (keep_size (w:=w) (g:=g) (row:=none) (by repeat (first|exact gW HK|apply KeepBut.set_|refine keep_far ?_ GW349.out _))));have n1_:=Aside0.mk (IsS67.below (by repeat (first|(with_reducible first|exact HI0.out|apply IsS67.alloc|apply IsS67.drewN|apply IsS67.drew|apply IsS67.set_1|refine IsS67.far ?_ NB0_349.out _)|exact HI0.out)) hb);have n2_:=Aside0.mk (blk_below (g:=gb349) (o:=.cells #[.int .i64 0,.int .i64 0,.string (⟨#[]⟩:ByteArray),.slice none 0 0] 39 (0,0)) (gK BK349) hb);have n3_:=Aside0.mk (KeepBut.trans (by repeat (first|exact gW HK|apply KeepBut.set_|refine keep_far ?_ GW349.out _)) (KeepBut.of_below hb g none) (.inl rfl));have n4_:=Aside0.mk (below_step (by repeat (first|exact gB HB|refine below_set ?_ (IsS67.ge HI0.out)|refine below_set ?_ GE349.out)) hb);clear HI0;clear BK349;clear HK;clear HB;have HO352:=n0_;have HI0:=n1_;have BK349:=n2_;have HK:=n3_;have HB:=n4_;clear n0_ n1_ n2_ n3_ n4_;clear hb ho4))
 go_loopg [4] k (fun kq v4 w'=>∃ (x4_1:Int) (x1001_1:Int) (x350000_1:Int) (x350001_1:Int) (x350002_1:ByteArray),v4=.int .i64 x4_1∧Aside0 (spec_l1Draw.l0 kq y350 x4_1 s0_0 x1001_1=some (r1,r2,r3,r4,r5))∧Aside0 (kq≤k)∧Aside0 (Kd.R Kd.string 9 w' w.heap.size (fun k_=>(w.heap.size≤k_)) v351 y350)∧Aside0 (w'.heap[gb349]?=some (.cells #[.int .i64 x350000_1,.int .i64 x350001_1,.string x350002_1,(.slice none 0 0)] 39 (0,0)))∧Aside0 (IsS67 w0 w' g s0_0 x1001_1)∧Aside0 (KeepBut w w' g none)∧Aside0 (Below w0.heap.size w0 w'))
 case atStart=>exact ⟨(0),(s0_1),(0),(0),((⟨#[]⟩:ByteArray)),(by first|rfl|(simp;done)|(simp [*];done)),H',⟨Nat.le_refl _⟩,⟨by (with_reducible repeat (first|apply Kd.R_alloc|apply Kd.R_drewN|apply Kd.R_drew));exact Kd.R_mono HO352.out (fun _ hk=>hk.1)⟩,⟨gK BK349⟩,⟨by repeat (first|(with_reducible first|exact HI0.out|apply IsS67.alloc|apply IsS67.drewN|apply IsS67.drew|apply IsS67.set_1|refine IsS67.far ?_ NB0_349.out _)|exact HI0.out)⟩,⟨by repeat (first|exact gW HK|apply KeepBut.set_|refine keep_far ?_ GW349.out _)⟩,⟨by repeat (first|exact gB HB|refine below_set ?_ (IsS67.ge HI0.out)|refine below_set ?_ GE349.out)⟩⟩
 case round =>
  clear H'
  try clear p2
  (try clear HO_3);(try clear BK349);(try clear HB)
  obtain ⟨x4_1,x1001_1,x350000_1,x350001_1,x350002_1,rfl,HA,HK1,HO_3,BK349,HI0,HK,HB⟩:=hrel
  cases gk with
  | zero=>exact absurd HA.out (by simp [spec_l1Draw.l0])
  | succ k1 =>
   have H:=HA.out
   clear HA
   simp only [spec_l1Draw.l0] at H
   by_cases c5:x4_1 < 3
   ·rw [if_pos c5] at H
    have c5b0:decide (x4_1 < 3)=true:=decide_eq_true c5
    clear c5
    replace H:=Option.bind_eq_some_iff.mp H
    obtain ⟨⟨t353,t354⟩,A60,H⟩:=H
    replace H:(if t353=0 then ((spec_l15Rd_pick.f k1 s0_0 t354 (y350.length:Int)).bind fun bt355=>(if 0≤bt355.1 then (if bt355.1 < (y350.length:Int) then ((spec_ParseDoc.f k1 (rdOf ByteArray.empty y350 bt355.1)).bind fun bt358=>(if bt358.2.2.2.2=true then (some (bt358.1,bt358.2.1,bt358.2.2.1,bt358.2.2.2.1,bt355.2)) else (spec_l1Draw.j1 k1 y350 x4_1 s0_0 bt355.2))) else (none)) else (none))) else (spec_l1Draw.j1 k1 y350 x4_1 s0_0 t354))=some (r1,r2,r3,r4,r5):=H
    have A6:=Aside0.mk A60
    clear A60
    have HC7:=Aside0.mk H
    clear H
    go_upto_if 15 with (first|((with_reducible refine gate_callee (f:=54) rfl ?_);refine goesL_ (some 14) rfl rfl Try.func54 (by kernel_rfl) rfl #[.pointer (some ⟨g,0,none⟩),.int .i64 3] rfl (by (try simp only [List.map_toArray,List.map_cons,List.map_nil]);first|done|rfl|(simp only [List.length_drop,List.length_take];rfl)) ?_;(with_reducible refine (spec_l15Rd_pick.calls k1 g s0_0 x1001_1 3 t353 t354 w0 _ ?side1 ?side2 A6.out).mono ?_);(case side1=>repeat (first|(with_reducible first|exact HI0.out|apply IsS67.alloc|apply IsS67.drewN|apply IsS67.drew|apply IsS67.set_1|refine IsS67.far ?_ NB0_349.out _)|exact HI0.out));(case side2=>repeat (first|exact gB HB|refine below_set ?_ (IsS67.ge HI0.out)|refine below_set ?_ GE349.out));rintro e w8 ⟨rfl,hi,hb,hk⟩;refine ⟨_,rfl,?_⟩;have n0_:=Aside0.mk (Kd.R_mono (Kd.R_keep (IsS67.apart (show IsS67 w0 _ g s0_0 x1001_1 from by repeat (first|(with_reducible first|exact HI0.out|apply IsS67.alloc|apply IsS67.drewN|apply IsS67.drew|apply IsS67.set_1|refine IsS67.far ?_ NB0_349.out _)|exact HI0.out)) (gR HO_3) (by decide)) hk (fun _ h=>h.2)) (fun _ h=>h.1));have n1_:=Aside0.mk (KeepBut.blk hk (g':=gb349) (o:=.cells #[.int .i64 x350000_1,.int .i64 x350001_1,.string x350002_1,.slice none 0 0] 39 (0,0)) (gK BK349) NB349_0.out (by simp));have n2_:=Aside0.mk (KeepBut.trans (by repeat (first|exact gW HK|apply KeepBut.set_|refine keep_far ?_ GW349.out _)) hk (.inl rfl));have n3_:=Aside0.mk (hb);have n4_:=Aside0.mk (hi);clear HO_3;clear BK349;clear HK;clear HB;clear HI0;have HO_3:=n0_;have BK349:=n1_;have HK:=n2_;have HB:=n3_;have HI0:=n4_;clear n0_ n1_ n2_ n3_ n4_;(try clear hb);(try clear hb2);(try clear hk);(try clear hi)))
    (try simp only [Act.put,List.setIfInBounds_toArray,List.set_cons_zero,List.set_cons_succ])
    go_cut [] (fun wc=>∃ (kq:Nat) (x1001_6:Int) (x350000_6:Int) (x350001_6:Int) (x350002_6:ByteArray),Aside0 (spec_l1Draw.j1 kq y350 x4_1 s0_0 x1001_6=some (r1,r2,r3,r4,r5))∧Aside0 (kq≤k1)∧Aside0 (Kd.R Kd.string 9 wc w.heap.size (fun k_=>(w.heap.size≤k_)) v351 y350)∧Aside0 (wc.heap[gb349]?=some (.cells #[.int .i64 x350000_6,.int .i64 x350001_6,.string x350002_6,(.slice none 0 0)] 39 (0,0)))∧Aside0 (IsS67 w0 wc g s0_0 x1001_6)∧Aside0 (KeepBut w wc g none)∧Aside0 (Below w0.heap.size w0 wc))
    case first =>
     have H:=HC7.out
     clear HC7
     by_cases c9:t353=0
     ·rw [if_pos c9] at H
      have c9b0:(t353 == 0)=true:=beq_iff_eq.mpr c9
      have c9b1:(t353 != 0)=false:=bne_eq_false_iff_eq.mpr c9
      clear c9
      (first|rw [c9b0]|(simp only [i64_w,i32_w];rw [c9b0])|skip)
      replace H:=Option.bind_eq_some_iff.mp H
      obtain ⟨⟨t355,t356⟩,A100,H⟩:=H
      replace H:(if 0≤t355 then (if t355 < (y350.length:Int) then ((spec_ParseDoc.f k1 (rdOf ByteArray.empty y350 t355)).bind fun bt358=>(if bt358.2.2.2.2=true then (some (bt358.1,bt358.2.1,bt358.2.2.1,bt358.2.2.2.1,t356)) else (spec_l1Draw.j1 k1 y350 x4_1 s0_0 t356))) else (none)) else (none))=some (r1,r2,r3,r4,r5):=H
      have A10:=Aside0.mk A100
      clear A100
      by_cases c11:0≤t355
      ·rw [if_pos c11] at H
       have c11b0:decide (0≤t355)=true:=decide_eq_true c11
       clear c11
       by_cases c12:t355 < (y350.length:Int)
       ·rw [if_pos c12] at H
        have c12b0:decide (t355 < (y350.length:Int))=true:=decide_eq_true c12
        clear c12
        replace H:=Option.bind_eq_some_iff.mp H
        obtain ⟨⟨t358,t359,t360,t361,t364⟩,A130,H⟩:=H
        replace H:(if t364=true then (some (t358,t359,t360,t361,t356)) else (spec_l1Draw.j1 k1 y350 x4_1 s0_0 t356))=some (r1,r2,r3,r4,r5):=H
        have A13:=Aside0.mk A130
        clear A130
        by_cases c14:t364=true
        ·subst c14
         have H1:(some (t358,t359,t360,t361,t356))=some (r1,r2,r3,r4,r5):=by rw [if_pos rfl] at H;exact H
         clear H
         have H:=H1
         clear H1
         simp only [Option.some.injEq,Prod.mk.injEq] at H
         obtain ⟨rfl,rfl,rfl,rfl,rfl⟩:=H
         obtain ⟨Ao15,co15,eo15⟩:=Kd.R_slice HO_3.out
         subst eo15
         go_wp2_with (first|((with_reducible refine gate_callee (f:=54) rfl ?_);refine goesL_ (some 21) rfl rfl Try.func54 (by kernel_rfl) rfl #[.pointer (some ⟨g,0,none⟩),.int .i64 (y350.length:Int)] rfl (by (try simp only [List.map_toArray,List.map_cons,List.map_nil]);first|done|rfl|(simp only [List.length_drop,List.length_take];rfl)) ?_;(with_reducible refine (spec_l15Rd_pick.calls k1 g s0_0 t354 (y350.length:Int) t355 t356 w0 _ ?side1 ?side2 A10.out).mono ?_);(case side1=>repeat (first|(with_reducible first|exact HI0.out|apply IsS67.alloc|apply IsS67.drewN|apply IsS67.drew|apply IsS67.set_1|refine IsS67.far ?_ NB0_349.out _)|exact HI0.out));(case side2=>repeat (first|exact gB HB|refine below_set ?_ (IsS67.ge HI0.out)|refine below_set ?_ GE349.out));rintro e w16 ⟨rfl,hi,hb,hk⟩;refine ⟨_,rfl,?_⟩;have n0_:=Aside0.mk (Kd.R_mono (Kd.R_keep (IsS67.apart (show IsS67 w0 _ g s0_0 t354 from by repeat (first|(with_reducible first|exact HI0.out|apply IsS67.alloc|apply IsS67.drewN|apply IsS67.drew|apply IsS67.set_1|refine IsS67.far ?_ NB0_349.out _)|exact HI0.out)) (gR HO_3) (by decide)) hk (fun _ h=>h.2)) (fun _ h=>h.1));have n1_:=Aside0.mk (KeepBut.blk hk (g':=gb349) (o:=.cells #[.int .i64 x350000_1,.int .i64 x350001_1,.string x350002_1,.slice none 0 0] 39 (0,0)) (gK BK349) NB349_0.out (by simp));have n2_:=Aside0.mk (KeepBut.trans (by repeat (first|exact gW HK|apply KeepBut.set_|refine keep_far ?_ GW349.out _)) hk (.inl rfl));have n3_:=Aside0.mk (hb);have n4_:=Aside0.mk (hi);clear HO_3;clear BK349;clear HK;clear HB;clear HI0;have HO_3:=n0_;have BK349:=n1_;have HK:=n2_;have HB:=n3_;have HI0:=n4_;clear n0_ n1_ n2_ n3_ n4_;(try clear hb);(try clear hb2);(try clear hk);(try clear hi);have p357:0≤(t355:Int):=of_decide_eq_true (by first|(with_reducible assumption)|assumption);have q357:t355 < (y350.length:Int):=of_decide_eq_true (by first|(with_reducible assumption)|assumption);obtain ⟨ad357,e357,hx357_0⟩:=Kd.at_string (Kd.R_reads' HO_3.out).2.2 t355 p357 q357;cases e357;replace p357:=eq_true p357;replace q357:=eq_true q357)|((with_reducible refine gate_callee (f:=81) rfl ?_);refine goesL_ (some 24) rfl rfl Try.func81 (by kernel_rfl) rfl #[.string (rdOf ByteArray.empty y350 t355)] rfl (by (try simp only [List.map_toArray,List.map_cons,List.map_nil]);first|done|rfl|(simp only [List.length_drop,List.length_take];rfl)) ?_;(with_reducible refine (spec_ParseDoc.calls k1 (rdOf ByteArray.empty y350 t355) t358 t359 t360 t361 true _ A13.out).mono ?_);rintro e w17 ⟨v362,rfl,ho0,hb⟩;refine ⟨_,rfl,?_⟩;have n0_:=Aside0.mk (Kd.R_below (gR HO_3) hb);have n1_:=Aside0.mk (Kd.N_lower (Kd.N_mono (ok':=fun k_=>(w.heap.size≤k_)∧some k_ ≠ (.slice (some ad357) y350.length co15:Value).ownBlock∧k_ ≠ gb349∧k_ ≠ g) (Kd.R_N (Kd.R_bound ho0)) (fun k_ hk_=>⟨(Nat.le_trans (keep_size (w:=w) (g:=g) (row:=none) (by repeat (first|exact gW HK|apply KeepBut.set_|refine keep_far ?_ GW349.out _))) hk_.2.1),(Kd.fresh' (Kd.R_lt (gR HO_3)) k_ hk_.2.1),(Kd.freshB (g:=gb349) (o:=.cells #[.int .i64 x350000_1,.int .i64 x350001_1,.string x350002_1,.slice none 0 0] 39 (0,0)) (gK BK349) k_ hk_.2.1),(IsS67.fresh (by repeat (first|(with_reducible first|exact HI0.out|apply IsS67.alloc|apply IsS67.drewN|apply IsS67.drew|apply IsS67.set_1|refine IsS67.far ?_ NB0_349.out _)|exact HI0.out)) k_ hk_.2.1)⟩)) (keep_size (w:=w) (g:=g) (row:=none) (by repeat (first|exact gW HK|apply KeepBut.set_|refine keep_far ?_ GW349.out _))));have n2_:=Aside0.mk (blk_below (g:=gb349) (o:=.cells #[.int .i64 x350000_1,.int .i64 x350001_1,.string x350002_1,.slice none 0 0] 39 (0,0)) (gK BK349) hb);have n3_:=Aside0.mk (IsS67.below (by repeat (first|(with_reducible first|exact HI0.out|apply IsS67.alloc|apply IsS67.drewN|apply IsS67.drew|apply IsS67.set_1|refine IsS67.far ?_ NB0_349.out _)|exact HI0.out)) hb);have n4_:=Aside0.mk (KeepBut.trans (by repeat (first|exact gW HK|apply KeepBut.set_|refine keep_far ?_ GW349.out _)) (KeepBut.of_below hb g none) (.inl rfl));have n5_:=Aside0.mk (below_step (by repeat (first|exact gB HB|refine below_set ?_ (IsS67.ge HI0.out)|refine below_set ?_ GE349.out)) hb);clear HO_3;clear BK349;clear HI0;clear HK;clear HB;have HO_3:=n0_;have HO363:=n1_;have BK349:=n2_;have HI0:=n3_;have HK:=n4_;have HB:=n5_;clear n0_ n1_ n2_ n3_ n4_ n5_;(try clear hb);(try clear hb2);(try clear hk);(try clear hi);(try clear ho0))|((with_reducible refine gate_dst (N:=5) rfl ?_);refine box_event ?hg (N:=5) ?hd (cs:=#[.int .i64 0,.int .i64 0,.string (⟨#[]⟩:ByteArray),.slice none 0 0]) (t:=39) ?hr ?_;(case hd=>rfl);(case hg=>rfl);(case hr=>first|(go_simp;done)|(go_simp;rfl));intro gb365 hg w18 hbox hb;have n0_:=Aside0.mk (Kd.R_below (gR HO_3) hb);have n1_:=Aside0.mk (Kd.N_below (Kd.N_elderB (gN HO363) gb365 (Nat.le_of_eq hg.symm)) hb);have n2_:=Aside0.mk (blk_below (g:=gb349) (o:=.cells #[.int .i64 x350000_1,.int .i64 x350001_1,.string x350002_1,.slice none 0 0] 39 (0,0)) (gK BK349) hb);have n3_:=Aside0.mk (IsS67.below (by repeat (first|(with_reducible first|exact HI0.out|apply IsS67.alloc|apply IsS67.drewN|apply IsS67.drew|apply IsS67.set_1|refine IsS67.far ?_ NB0_349.out _)|exact HI0.out)) hb);have n4_:=Aside0.mk (KeepBut.trans (by repeat (first|exact gW HK|apply KeepBut.set_|refine keep_far ?_ GW349.out _)) (KeepBut.of_below hb g none) (.inl rfl));have n5_:=Aside0.mk (below_step (by repeat (first|exact gB HB|refine below_set ?_ (IsS67.ge HI0.out)|refine below_set ?_ GE349.out)) hb);have n6_:=Aside0.mk (hbox);have n7_:=Aside0.mk ((by rw [hg];exact (keep_size (w:=w) (g:=g) (row:=none) (by repeat (first|exact gW HK|apply KeepBut.set_|refine keep_far ?_ GW349.out _))):w.heap.size≤gb365));have n8_:=Aside0.mk ((Nat.le_trans HW0.out (by rw [hg];exact (keep_size (w:=w) (g:=g) (row:=none) (by repeat (first|exact gW HK|apply KeepBut.set_|refine keep_far ?_ GW349.out _))):w.heap.size≤gb365):w0.heap.size≤gb365));have n9_:=Aside0.mk ((by rw [hg];exact Nat.ne_of_lt (blk_lt (g:=gb349) (o:=.cells #[.int .i64 x350000_1,.int .i64 x350001_1,.string x350002_1,.slice none 0 0] 39 (0,0)) (gK BK349)):gb349 ≠ gb365));have n10_:=Aside0.mk ((by rw [hg];exact Nat.ne_of_gt (blk_lt (g:=gb349) (o:=.cells #[.int .i64 x350000_1,.int .i64 x350001_1,.string x350002_1,.slice none 0 0] 39 (0,0)) (gK BK349)):gb365 ≠ gb349));have n11_:=Aside0.mk ((by rw [hg];exact Nat.ne_of_lt (IsS67.lt (show IsS67 w0 _ g s0_0 t356 from by repeat (first|(with_reducible first|exact HI0.out|apply IsS67.alloc|apply IsS67.drewN|apply IsS67.drew|apply IsS67.set_1|refine IsS67.far ?_ NB0_349.out _)|exact HI0.out))):g ≠ gb365));have n12_:=Aside0.mk ((by rw [hg];exact Nat.ne_of_gt (IsS67.lt (show IsS67 w0 _ g s0_0 t356 from by repeat (first|(with_reducible first|exact HI0.out|apply IsS67.alloc|apply IsS67.drewN|apply IsS67.drew|apply IsS67.set_1|refine IsS67.far ?_ NB0_349.out _)|exact HI0.out))):gb365 ≠ g));clear HO_3;clear HO363;clear BK349;clear HI0;clear HK;clear HB;have HO_3:=n0_;have HO363:=n1_;have BK349:=n2_;have HI0:=n3_;have HK:=n4_;have HB:=n5_;have BK365:=n6_;have GW365:=n7_;have GE365:=n8_;have NB349_365:=n9_;have NB365_349:=n10_;have NB0_365:=n11_;have NB365_0:=n12_;clear n0_ n1_ n2_ n3_ n4_ n5_ n6_ n7_ n8_ n9_ n10_ n11_ n12_;clear hb hbox hg;have hnb19:=NB365_349.out;have hnc19:=NB349_365.out;have hnb20:=NB365_0.out;have hnc20:=NB0_365.out;have hcz21_0:w18.cell? ⟨gb365,0,none⟩=some (.int .i64 0):=(blk_cell BK365.out 0).trans rfl;have hcz21_1:w18.cell? ⟨gb365,1,none⟩=some (.int .i64 0):=(blk_cell BK365.out 1).trans rfl;have hcz21_2:w18.cell? ⟨gb365,2,none⟩=some (.string (⟨#[]⟩:ByteArray)):=(blk_cell BK365.out 2).trans rfl;have hcz21_3:w18.cell? ⟨gb365,3,none⟩=some (.slice none 0 0):=(blk_cell BK365.out 3).trans rfl;have hfz21_0:=blk_frozen BK365.out 0;have hfz21_1:=blk_frozen BK365.out 1;have hfz21_2:=blk_frozen BK365.out 2;have hfz21_3:=blk_frozen BK365.out 3;obtain ⟨Ao22,co22,eo22⟩:=Kd.N_slice HO363.out;subst eo22;have hnb23:=NB349_0.out;have hnc23:=NB0_349.out;have hcz24_0:w18.cell? ⟨gb349,0,none⟩=some (.int .i64 x350000_1):=(blk_cell BK349.out 0).trans rfl;have hcz24_1:w18.cell? ⟨gb349,1,none⟩=some (.int .i64 x350001_1):=(blk_cell BK349.out 1).trans rfl;have hcz24_2:w18.cell? ⟨gb349,2,none⟩=some (.string x350002_1):=(blk_cell BK349.out 2).trans rfl;have hcz24_3:w18.cell? ⟨gb349,3,none⟩=some (.slice none 0 0):=(blk_cell BK349.out 3).trans rfl;have hfz24_0:=blk_frozen BK349.out 0;have hfz24_1:=blk_frozen BK349.out 1;have hfz24_2:=blk_frozen BK349.out 2;have hfz24_3:=blk_frozen BK349.out 3))
         refine bodyPost_ret (results_cell_row rfl _ _ gb349 39 #[.int .i64 t358,.int .i64 t359,.string t360,.slice Ao22 t361.length co22] (0,0) _ rfl (by (with_reducible repeat (first|refine blk_drewN ?_ _|refine blk_drew ?_|refine blk_alloc ?_ _));refine blk_put (cs:=#[.int .i64 t358,.int .i64 t359,.string t360,.slice none 0 0]) ?_ 3 _ rfl;(with_reducible repeat (first|refine blk_drewN ?_ _|refine blk_drew ?_|refine blk_alloc ?_ _));refine blk_put (cs:=#[.int .i64 t358,.int .i64 t359,.string x350002_1,.slice none 0 0]) ?_ 2 _ rfl;(with_reducible repeat (first|refine blk_drewN ?_ _|refine blk_drew ?_|refine blk_alloc ?_ _));refine blk_put (cs:=#[.int .i64 t358,.int .i64 x350001_1,.string x350002_1,.slice none 0 0]) ?_ 1 _ rfl;(with_reducible repeat (first|refine blk_drewN ?_ _|refine blk_drew ?_|refine blk_alloc ?_ _));refine blk_put (cs:=#[.int .i64 x350000_1,.int .i64 x350001_1,.string x350002_1,.slice none 0 0]) ?_ 0 _ rfl;(with_reducible repeat (first|refine blk_drewN ?_ _|refine blk_drew ?_|refine blk_alloc ?_ _));refine blk_far ?_ NB349_365.out _;(with_reducible repeat (first|refine blk_drewN ?_ _|refine blk_drew ?_|refine blk_alloc ?_ _));refine blk_far ?_ NB349_365.out _;(with_reducible repeat (first|refine blk_drewN ?_ _|refine blk_drew ?_|refine blk_alloc ?_ _));refine blk_far ?_ NB349_365.out _;(with_reducible repeat (first|refine blk_drewN ?_ _|refine blk_drew ?_|refine blk_alloc ?_ _));refine blk_far ?_ NB349_365.out _;(with_reducible repeat (first|refine blk_drewN ?_ _|refine blk_drew ?_|refine blk_alloc ?_ _));exact BK349.out) Try.underlying39 rfl (by kernel_rfl)) rfl ?_
         exact ⟨_,by first|rfl|(simp [errW_none,errW_some] <;> rfl)|(simp [*,errW_none,errW_some] <;> rfl),by (with_reducible repeat (first|apply Kd.N_alloc|apply Kd.N_drewN|apply Kd.N_drew));exact Kd.N_mono (Kd.N_far (p:=⟨gb349,3,none⟩) (Kd.N_far (p:=⟨gb349,2,none⟩) (Kd.N_far (p:=⟨gb349,1,none⟩) (Kd.N_far (p:=⟨gb349,0,none⟩) (Kd.N_far (p:=⟨gb365,3,none⟩) (Kd.N_far (p:=⟨gb365,2,none⟩) (Kd.N_far (p:=⟨gb365,1,none⟩) (Kd.N_far (p:=⟨gb365,0,none⟩) (Kd.N_mono (Kd.N_mono HO363.out (fun k_ hk=>(⟨hk,hk.2⟩:_∧k_ ≠ gb365))) (fun k_ hk=>(⟨hk,hk.1.1.2.2.1⟩:_∧k_ ≠ gb349))) (fun _ hk=>hk.1.2) (.int .i64 t358)) (fun _ hk=>hk.1.2) (.int .i64 t359)) (fun _ hk=>hk.1.2) (.string t360)) (fun _ hk=>hk.1.2) (.slice Ao22 t361.length co22)) (fun _ hk=>hk.2) (.int .i64 t358)) (fun _ hk=>hk.2) (.int .i64 t359)) (fun _ hk=>hk.2) (.string t360)) (fun _ hk=>hk.2) (.slice Ao22 t361.length co22)) (fun _ hk=>hk.1.1.1.1),by repeat (first|(with_reducible first|exact HI0.out|apply IsS67.alloc|apply IsS67.drewN|apply IsS67.drew|apply IsS67.set_1|refine IsS67.far ?_ NB0_349.out _|refine IsS67.far ?_ NB0_365.out _)|exact HI0.out),by repeat (first|exact gB HB|refine below_set ?_ (IsS67.ge HI0.out)|refine below_set ?_ GE349.out|refine below_set ?_ GE365.out),by repeat (first|exact gW HK|apply KeepBut.set_|refine keep_far ?_ GW349.out _|refine keep_far ?_ GW365.out _)⟩
        ·replace c14:=Bool.eq_false_iff.mpr c14
         subst c14
         have H1:(spec_l1Draw.j1 k1 y350 x4_1 s0_0 t356)=some (r1,r2,r3,r4,r5):=by rw [if_neg (show ¬ (false=true) by decide)] at H;exact H
         clear H
         have H:=H1
         clear H1
         have H':=Aside0.mk H
         clear H
         obtain ⟨Ao25,co25,eo25⟩:=Kd.R_slice HO_3.out
         subst eo25
         go_wp2_with (first|((with_reducible refine gate_callee (f:=54) rfl ?_);refine goesL_ (some 21) rfl rfl Try.func54 (by kernel_rfl) rfl #[.pointer (some ⟨g,0,none⟩),.int .i64 (y350.length:Int)] rfl (by (try simp only [List.map_toArray,List.map_cons,List.map_nil]);first|done|rfl|(simp only [List.length_drop,List.length_take];rfl)) ?_;(with_reducible refine (spec_l15Rd_pick.calls k1 g s0_0 t354 (y350.length:Int) t355 t356 w0 _ ?side1 ?side2 A10.out).mono ?_);(case side1=>repeat (first|(with_reducible first|exact HI0.out|apply IsS67.alloc|apply IsS67.drewN|apply IsS67.drew|apply IsS67.set_1|refine IsS67.far ?_ NB0_349.out _)|exact HI0.out));(case side2=>repeat (first|exact gB HB|refine below_set ?_ (IsS67.ge HI0.out)|refine below_set ?_ GE349.out));rintro e w26 ⟨rfl,hi,hb,hk⟩;refine ⟨_,rfl,?_⟩;have n0_:=Aside0.mk (Kd.R_mono (Kd.R_keep (IsS67.apart (show IsS67 w0 _ g s0_0 t354 from by repeat (first|(with_reducible first|exact HI0.out|apply IsS67.alloc|apply IsS67.drewN|apply IsS67.drew|apply IsS67.set_1|refine IsS67.far ?_ NB0_349.out _)|exact HI0.out)) (gR HO_3) (by decide)) hk (fun _ h=>h.2)) (fun _ h=>h.1));have n1_:=Aside0.mk (KeepBut.blk hk (g':=gb349) (o:=.cells #[.int .i64 x350000_1,.int .i64 x350001_1,.string x350002_1,.slice none 0 0] 39 (0,0)) (gK BK349) NB349_0.out (by simp));have n2_:=Aside0.mk (KeepBut.trans (by repeat (first|exact gW HK|apply KeepBut.set_|refine keep_far ?_ GW349.out _)) hk (.inl rfl));have n3_:=Aside0.mk (hb);have n4_:=Aside0.mk (hi);clear HO_3;clear BK349;clear HK;clear HB;clear HI0;have HO_3:=n0_;have BK349:=n1_;have HK:=n2_;have HB:=n3_;have HI0:=n4_;clear n0_ n1_ n2_ n3_ n4_;(try clear hb);(try clear hb2);(try clear hk);(try clear hi);have p357:0≤(t355:Int):=of_decide_eq_true (by first|(with_reducible assumption)|assumption);have q357:t355 < (y350.length:Int):=of_decide_eq_true (by first|(with_reducible assumption)|assumption);obtain ⟨ad357,e357,hx357_0⟩:=Kd.at_string (Kd.R_reads' HO_3.out).2.2 t355 p357 q357;cases e357;replace p357:=eq_true p357;replace q357:=eq_true q357)|((with_reducible refine gate_callee (f:=81) rfl ?_);refine goesL_ (some 24) rfl rfl Try.func81 (by kernel_rfl) rfl #[.string (rdOf ByteArray.empty y350 t355)] rfl (by (try simp only [List.map_toArray,List.map_cons,List.map_nil]);first|done|rfl|(simp only [List.length_drop,List.length_take];rfl)) ?_;(with_reducible refine (spec_ParseDoc.calls k1 (rdOf ByteArray.empty y350 t355) t358 t359 t360 t361 false _ A13.out).mono ?_);rintro e w27 ⟨v362,rfl,ho0,hb⟩;refine ⟨_,rfl,?_⟩;have n0_:=Aside0.mk (Kd.R_below (gR HO_3) hb);have n1_:=Aside0.mk (Kd.N_lower (Kd.N_mono (ok':=fun k_=>(w.heap.size≤k_)∧some k_ ≠ (.slice (some ad357) y350.length co25:Value).ownBlock∧k_ ≠ gb349∧k_ ≠ g) (Kd.R_N (Kd.R_bound ho0)) (fun k_ hk_=>⟨(Nat.le_trans (keep_size (w:=w) (g:=g) (row:=none) (by repeat (first|exact gW HK|apply KeepBut.set_|refine keep_far ?_ GW349.out _))) hk_.2.1),(Kd.fresh' (Kd.R_lt (gR HO_3)) k_ hk_.2.1),(Kd.freshB (g:=gb349) (o:=.cells #[.int .i64 x350000_1,.int .i64 x350001_1,.string x350002_1,.slice none 0 0] 39 (0,0)) (gK BK349) k_ hk_.2.1),(IsS67.fresh (by repeat (first|(with_reducible first|exact HI0.out|apply IsS67.alloc|apply IsS67.drewN|apply IsS67.drew|apply IsS67.set_1|refine IsS67.far ?_ NB0_349.out _)|exact HI0.out)) k_ hk_.2.1)⟩)) (keep_size (w:=w) (g:=g) (row:=none) (by repeat (first|exact gW HK|apply KeepBut.set_|refine keep_far ?_ GW349.out _))));have n2_:=Aside0.mk (blk_below (g:=gb349) (o:=.cells #[.int .i64 x350000_1,.int .i64 x350001_1,.string x350002_1,.slice none 0 0] 39 (0,0)) (gK BK349) hb);have n3_:=Aside0.mk (IsS67.below (by repeat (first|(with_reducible first|exact HI0.out|apply IsS67.alloc|apply IsS67.drewN|apply IsS67.drew|apply IsS67.set_1|refine IsS67.far ?_ NB0_349.out _)|exact HI0.out)) hb);have n4_:=Aside0.mk (KeepBut.trans (by repeat (first|exact gW HK|apply KeepBut.set_|refine keep_far ?_ GW349.out _)) (KeepBut.of_below hb g none) (.inl rfl));have n5_:=Aside0.mk (below_step (by repeat (first|exact gB HB|refine below_set ?_ (IsS67.ge HI0.out)|refine below_set ?_ GE349.out)) hb);clear HO_3;clear BK349;clear HI0;clear HK;clear HB;have HO_3:=n0_;have HO363:=n1_;have BK349:=n2_;have HI0:=n3_;have HK:=n4_;have HB:=n5_;clear n0_ n1_ n2_ n3_ n4_ n5_;(try clear hb);(try clear hb2);(try clear hk);(try clear hi);(try clear ho0))|((with_reducible refine gate_dst (N:=5) rfl ?_);refine box_event ?hg (N:=5) ?hd (cs:=#[.int .i64 0,.int .i64 0,.string (⟨#[]⟩:ByteArray),.slice none 0 0]) (t:=39) ?hr ?_;(case hd=>rfl);(case hg=>rfl);(case hr=>first|(go_simp;done)|(go_simp;rfl));intro gb365 hg w28 hbox hb;have n0_:=Aside0.mk (Kd.R_below (gR HO_3) hb);have n1_:=Aside0.mk (Kd.N_below (Kd.N_elderB (gN HO363) gb365 (Nat.le_of_eq hg.symm)) hb);have n2_:=Aside0.mk (blk_below (g:=gb349) (o:=.cells #[.int .i64 x350000_1,.int .i64 x350001_1,.string x350002_1,.slice none 0 0] 39 (0,0)) (gK BK349) hb);have n3_:=Aside0.mk (IsS67.below (by repeat (first|(with_reducible first|exact HI0.out|apply IsS67.alloc|apply IsS67.drewN|apply IsS67.drew|apply IsS67.set_1|refine IsS67.far ?_ NB0_349.out _)|exact HI0.out)) hb);have n4_:=Aside0.mk (KeepBut.trans (by repeat (first|exact gW HK|apply KeepBut.set_|refine keep_far ?_ GW349.out _)) (KeepBut.of_below hb g none) (.inl rfl));have n5_:=Aside0.mk (below_step (by repeat (first|exact gB HB|refine below_set ?_ (IsS67.ge HI0.out)|refine below_set ?_ GE349.out)) hb);have n6_:=Aside0.mk (hbox);have n7_:=Aside0.mk ((by rw [hg];exact (keep_size (w:=w) (g:=g) (row:=none) (by repeat (first|exact gW HK|apply KeepBut.set_|refine keep_far ?_ GW349.out _))):w.heap.size≤gb365));have n8_:=Aside0.mk ((Nat.le_trans HW0.out (by rw [hg];exact (keep_size (w:=w) (g:=g) (row:=none) (by repeat (first|exact gW HK|apply KeepBut.set_|refine keep_far ?_ GW349.out _))):w.heap.size≤gb365):w0.heap.size≤gb365));have n9_:=Aside0.mk ((by rw [hg];exact Nat.ne_of_lt (blk_lt (g:=gb349) (o:=.cells #[.int .i64 x350000_1,.int .i64 x350001_1,.string x350002_1,.slice none 0 0] 39 (0,0)) (gK BK349)):gb349 ≠ gb365));have n10_:=Aside0.mk ((by rw [hg];exact Nat.ne_of_gt (blk_lt (g:=gb349) (o:=.cells #[.int .i64 x350000_1,.int .i64 x350001_1,.string x350002_1,.slice none 0 0] 39 (0,0)) (gK BK349)):gb365 ≠ gb349));have n11_:=Aside0.mk ((by rw [hg];exact Nat.ne_of_lt (IsS67.lt (show IsS67 w0 _ g s0_0 t356 from by repeat (first|(with_reducible first|exact HI0.out|apply IsS67.alloc|apply IsS67.drewN|apply IsS67.drew|apply IsS67.set_1|refine IsS67.far ?_ NB0_349.out _)|exact HI0.out))):g ≠ gb365));have n12_:=Aside0.mk ((by rw [hg];exact Nat.ne_of_gt (IsS67.lt (show IsS67 w0 _ g s0_0 t356 from by repeat (first|(with_reducible first|exact HI0.out|apply IsS67.alloc|apply IsS67.drewN|apply IsS67.drew|apply IsS67.set_1|refine IsS67.far ?_ NB0_349.out _)|exact HI0.out))):gb365 ≠ g));clear HO_3;clear HO363;clear BK349;clear HI0;clear HK;clear HB;have HO_3:=n0_;have HO363:=n1_;have BK349:=n2_;have HI0:=n3_;have HK:=n4_;have HB:=n5_;have BK365:=n6_;have GW365:=n7_;have GE365:=n8_;have NB349_365:=n9_;have NB365_349:=n10_;have NB0_365:=n11_;have NB365_0:=n12_;clear n0_ n1_ n2_ n3_ n4_ n5_ n6_ n7_ n8_ n9_ n10_ n11_ n12_;clear hb hbox hg;have hnb29:=NB365_349.out;have hnc29:=NB349_365.out;have hnb30:=NB365_0.out;have hnc30:=NB0_365.out;have hcz31_0:w28.cell? ⟨gb365,0,none⟩=some (.int .i64 0):=(blk_cell BK365.out 0).trans rfl;have hcz31_1:w28.cell? ⟨gb365,1,none⟩=some (.int .i64 0):=(blk_cell BK365.out 1).trans rfl;have hcz31_2:w28.cell? ⟨gb365,2,none⟩=some (.string (⟨#[]⟩:ByteArray)):=(blk_cell BK365.out 2).trans rfl;have hcz31_3:w28.cell? ⟨gb365,3,none⟩=some (.slice none 0 0):=(blk_cell BK365.out 3).trans rfl;have hfz31_0:=blk_frozen BK365.out 0;have hfz31_1:=blk_frozen BK365.out 1;have hfz31_2:=blk_frozen BK365.out 2;have hfz31_3:=blk_frozen BK365.out 3;obtain ⟨Ao32,co32,eo32⟩:=Kd.N_slice HO363.out;subst eo32))
         go_meet
         case rel=>exact ⟨_,(t356),(x350000_1),(x350001_1),(x350002_1),H',⟨by have:=HK1.out;first|omega|exact Nat.le_refl _⟩,⟨by (with_reducible repeat (first|apply Kd.R_alloc|apply Kd.R_drewN|apply Kd.R_drew));exact Kd.R_mono (Kd.R_far (p:=⟨gb365,3,none⟩) (Kd.R_far (p:=⟨gb365,2,none⟩) (Kd.R_far (p:=⟨gb365,1,none⟩) (Kd.R_far (p:=⟨gb365,0,none⟩) (Kd.R_types HO_3.out BK365.out (by decide)) (fun _ hk=>hk.2) (.int .i64 t358)) (fun _ hk=>hk.2) (.int .i64 t359)) (fun _ hk=>hk.2) (.string t360)) (fun _ hk=>hk.2) (.slice Ao32 t361.length co32)) (fun _ hk=>hk.1)⟩,⟨by (with_reducible repeat (first|refine blk_drewN ?_ _|refine blk_drew ?_|refine blk_alloc ?_ _));refine blk_far ?_ NB349_365.out _;(with_reducible repeat (first|refine blk_drewN ?_ _|refine blk_drew ?_|refine blk_alloc ?_ _));refine blk_far ?_ NB349_365.out _;(with_reducible repeat (first|refine blk_drewN ?_ _|refine blk_drew ?_|refine blk_alloc ?_ _));refine blk_far ?_ NB349_365.out _;(with_reducible repeat (first|refine blk_drewN ?_ _|refine blk_drew ?_|refine blk_alloc ?_ _));refine blk_far ?_ NB349_365.out _;(with_reducible repeat (first|refine blk_drewN ?_ _|refine blk_drew ?_|refine blk_alloc ?_ _));exact BK349.out⟩,⟨by repeat (first|(with_reducible first|exact HI0.out|apply IsS67.alloc|apply IsS67.drewN|apply IsS67.drew|apply IsS67.set_1|refine IsS67.far ?_ NB0_349.out _|refine IsS67.far ?_ NB0_365.out _)|exact HI0.out)⟩,⟨by repeat (first|exact gW HK|apply KeepBut.set_|refine keep_far ?_ GW349.out _|refine keep_far ?_ GW365.out _)⟩,⟨by repeat (first|exact gB HB|refine below_set ?_ (IsS67.ge HI0.out)|refine below_set ?_ GE349.out|refine below_set ?_ GE365.out)⟩⟩
       ·rw [if_neg c12] at H
        exact absurd H (by simp)
      ·rw [if_neg c11] at H
       exact absurd H (by simp)
     ·rw [if_neg c9] at H
      have c9b0:(t353 == 0)=false:=beq_eq_false_iff_ne.mpr c9
      have c9b1:(t353 != 0)=true:=bne_iff_ne.mpr c9
      (first|rw [c9b0]|(simp only [i64_w,i32_w];rw [c9b0])|skip)
      have H':=Aside0.mk H
      clear H
      go_wp2
      go_meet
      case rel=>exact ⟨_,(t354),(x350000_1),(x350001_1),(x350002_1),H',⟨by have:=HK1.out;first|omega|exact Nat.le_refl _⟩,⟨gR HO_3⟩,⟨gK BK349⟩,⟨by repeat (first|(with_reducible first|exact HI0.out|apply IsS67.alloc|apply IsS67.drewN|apply IsS67.drew|apply IsS67.set_1|refine IsS67.far ?_ NB0_349.out _)|exact HI0.out)⟩,⟨by repeat (first|exact gW HK|apply KeepBut.set_|refine keep_far ?_ GW349.out _)⟩,⟨by repeat (first|exact gB HB|refine below_set ?_ (IsS67.ge HI0.out)|refine below_set ?_ GE349.out)⟩⟩
    case rest =>
     clear HC7
     try clear c1 c2 p2 c3 p3 q3 hx3 c5 c5b0 c6 c8 c9 c9b0 c9b1 c11 c11b0 c12 c12b0 c14 c19 c20 c23 c29 c30 hcz21_0 hcz21_1 hcz21_2 hcz21_3 hcz24_0 hcz24_1 hcz24_2 hcz24_3 hcz31_0 hcz31_1 hcz31_2 hcz31_3 hfz21_0 hfz21_1 hfz21_2 hfz21_3 hfz24_0 hfz24_1 hfz24_2 hfz24_3 hfz31_0 hfz31_1 hfz31_2 hfz31_3 hx357_0 p2 p357 q357
     obtain ⟨kq,x1001_6,x350000_6,x350001_6,x350002_6,HA,HJ6,HO_3,BK349,HI0,HK,HB⟩:=hcut
     cases kq with
     | zero=>exact absurd HA.out (by simp [spec_l1Draw.j1])
     | succ kj6 =>
      have H:=HA.out
      clear HA
      simp only [spec_l1Draw.j1] at H
      obtain ⟨y366,hy366⟩:∃ y_:List Int,y_=(([4,3,5,2]:List Int)):=⟨_,rfl⟩
      replace H:((spec_l15Rd_num.f kj6 s0_0 x1001_6 y366).bind fun bt369=>((spec_l1Some.f kj6 s0_0 bt369.2 bt369.1).bind fun bt371=>((spec_DocValid.f kj6 bt371.1 bt371.2.1 bt371.2.2.1 bt371.2.2.2.1).bind fun t379=>(if t379=true then ((spec_l1Count.f kj6 bt371.1 bt371.2.1 bt371.2.2.1 bt371.2.2.2.1).bind fun t380=>(if t380≤40 then (some (bt371.1,bt371.2.1,bt371.2.2.1,bt371.2.2.2.1,bt371.2.2.2.2)) else (spec_l1Draw.l0 kj6 y350 (wrap64 (x4_1+1)) s0_0 bt371.2.2.2.2))) else (spec_l1Draw.l0 kj6 y350 (wrap64 (x4_1+1)) s0_0 bt371.2.2.2.2)))))=some (r1,r2,r3,r4,r5):=by first|(rw [hy366];with_reducible exact H)|(have H2_:=(Option.bind_some _ _).symm.trans H;rw [hy366];with_reducible exact H2_)|(have H2_:=(Option.bind_some _ _).symm.trans H;with_reducible exact H2_)|with_reducible exact H|(rw [hy366];exact H)|exact H
      have Ny366:=Aside0.mk hy366
      clear hy366
      replace H:=Option.bind_eq_some_iff.mp H
      obtain ⟨⟨t369,t370⟩,A330,H⟩:=H
      replace H:((spec_l1Some.f kj6 s0_0 t370 t369).bind fun bt371=>((spec_DocValid.f kj6 bt371.1 bt371.2.1 bt371.2.2.1 bt371.2.2.2.1).bind fun t379=>(if t379=true then ((spec_l1Count.f kj6 bt371.1 bt371.2.1 bt371.2.2.1 bt371.2.2.2.1).bind fun t380=>(if t380≤40 then (some (bt371.1,bt371.2.1,bt371.2.2.1,bt371.2.2.2.1,bt371.2.2.2.2)) else (spec_l1Draw.l0 kj6 y350 (wrap64 (x4_1+1)) s0_0 bt371.2.2.2.2))) else (spec_l1Draw.l0 kj6 y350 (wrap64 (x4_1+1)) s0_0 bt371.2.2.2.2))))=some (r1,r2,r3,r4,r5):=H
      have A33:=Aside0.mk A330
      clear A330
      replace H:=Option.bind_eq_some_iff.mp H
      obtain ⟨⟨t371,t372,t373,t374,t377⟩,A340,H⟩:=H
      replace H:((spec_DocValid.f kj6 t371 t372 t373 t374).bind fun t379=>(if t379=true then ((spec_l1Count.f kj6 t371 t372 t373 t374).bind fun t380=>(if t380≤40 then (some (t371,t372,t373,t374,t377)) else (spec_l1Draw.l0 kj6 y350 (wrap64 (x4_1+1)) s0_0 t377))) else (spec_l1Draw.l0 kj6 y350 (wrap64 (x4_1+1)) s0_0 t377)))=some (r1,r2,r3,r4,r5):=H
      have A34:=Aside0.mk A340
      clear A340
      replace H:=Option.bind_eq_some_iff.mp H
      obtain ⟨t379,A350,H⟩:=H
      replace H:(if t379=true then ((spec_l1Count.f kj6 t371 t372 t373 t374).bind fun t380=>(if t380≤40 then (some (t371,t372,t373,t374,t377)) else (spec_l1Draw.l0 kj6 y350 (wrap64 (x4_1+1)) s0_0 t377))) else (spec_l1Draw.l0 kj6 y350 (wrap64 (x4_1+1)) s0_0 t377))=some (r1,r2,r3,r4,r5):=H
      have A35:=Aside0.mk A350
      clear A350
      by_cases c36:t379=true
      ·subst c36
       have H1:((spec_l1Count.f kj6 t371 t372 t373 t374).bind fun t380=>(if t380≤40 then (some (t371,t372,t373,t374,t377)) else (spec_l1Draw.l0 kj6 y350 (wrap64 (x4_1+1)) s0_0 t377)))=some (r1,r2,r3,r4,r5):=by rw [if_pos rfl] at H;exact H
       clear H
       have H:=H1
       clear H1
       replace H:=Option.bind_eq_some_iff.mp H
       obtain ⟨t380,A370,H⟩:=H
       replace H:(if t380≤40 then (some (t371,t372,t373,t374,t377)) else (spec_l1Draw.l0 kj6 y350 (wrap64 (x4_1+1)) s0_0 t377))=some (r1,r2,r3,r4,r5):=H
       have A37:=Aside0.mk A370
       clear A370
       by_cases c38:t380≤40
       ·rw [if_pos c38] at H
        have c38b0:decide (t380≤40)=true:=decide_eq_true c38
        clear c38
        simp only [Option.some.injEq,Prod.mk.injEq] at H
        obtain ⟨rfl,rfl,rfl,rfl,rfl⟩:=H
        go_wp2_with (first|((with_reducible refine gate_dst (N:=31) rfl ?_);refine Kd.R_lit (Kd.int .i64) _ 3 ?hg (N:=31) ?hd (xs:=([4,3,5,2]:List Int)) (inner:=[.int .i64 4,.int .i64 3,.int .i64 5,.int .i64 2]) (ok:=fun _=>True) (okp:=fun _=>True) ?hr ?hp (fun _ hk=>hk) trivial (Below.refl _ _) (Nat.le_refl _) (by simp) ?_;(case hd=>rfl);(case hg=>rfl);(case hr=>first|(go_simp;done)|(go_simp;rfl));(case hp=>exact (Reps.one (show Kd.M (Kd.int .i64) _ _ _ 4 [.int .i64 4] from rfl) (Reps.one (show Kd.M (Kd.int .i64) _ _ _ 3 [.int .i64 3] from rfl) (Reps.one (show Kd.M (Kd.int .i64) _ _ _ 5 [.int .i64 5] from rfl) (Reps.one (show Kd.M (Kd.int .i64) _ _ _ 2 [.int .i64 2] from rfl) (Reps.none _ _))))));intro v367 w39 ho40 hb hg_ hnew_;clear hg_ hnew_;(first|rw [← Ny366.out] at ho40|(simp only [Int.reduceToNat] at ho40;rw [← Ny366.out] at ho40));have n0_:=Aside0.mk (Kd.R_below (gR HO_3) hb);have n1_:=Aside0.mk (Kd.R_lower (Kd.R_newM (M:=fun k_=>(w.heap.size≤k_)) ho40 (keep_size (w:=w) (g:=g) (row:=none) (by repeat (first|exact gW HK|apply KeepBut.set_|refine keep_far ?_ GW349.out _))) (fun k_ h_=>h_)) (keep_size (w:=w) (g:=g) (row:=none) (by repeat (first|exact gW HK|apply KeepBut.set_|refine keep_far ?_ GW349.out _))));have n2_:=Aside0.mk (blk_below (g:=gb349) (o:=.cells #[.int .i64 x350000_6,.int .i64 x350001_6,.string x350002_6,.slice none 0 0] 39 (0,0)) (gK BK349) hb);have n3_:=Aside0.mk (IsS67.below (by repeat (first|(with_reducible first|exact HI0.out|apply IsS67.alloc|apply IsS67.drewN|apply IsS67.drew|apply IsS67.set_1|refine IsS67.far ?_ NB0_349.out _)|exact HI0.out)) hb);have n4_:=Aside0.mk (KeepBut.trans (by repeat (first|exact gW HK|apply KeepBut.set_|refine keep_far ?_ GW349.out _)) (KeepBut.of_below hb g none) (.inl rfl));have n5_:=Aside0.mk (below_step (by repeat (first|exact gB HB|refine below_set ?_ (IsS67.ge HI0.out)|refine below_set ?_ GE349.out)) hb);clear HO_3;clear BK349;clear HI0;clear HK;clear HB;have HO_3:=n0_;have HO368:=n1_;have BK349:=n2_;have HI0:=n3_;have HK:=n4_;have HB:=n5_;clear n0_ n1_ n2_ n3_ n4_ n5_;clear hb ho40;obtain ⟨Ao41,co41,eo41⟩:=Kd.R_slice HO368.out;subst eo41)|((with_reducible refine gate_callee (f:=46) rfl ?_);refine goesL_ (some 32) rfl rfl Try.func46 (by kernel_rfl) rfl #[.pointer (some ⟨g,0,none⟩),.slice Ao41 y366.length co41] rfl (by (try simp only [List.map_toArray,List.map_cons,List.map_nil]);first|done|rfl|(simp only [List.length_drop,List.length_take];rfl)) ?_;(with_reducible refine (spec_l15Rd_num.calls kj6 g s0_0 x1001_6 _ _ y366 t369 t370 w0 _ ?side1 ?side2 ?side3 ?side4 ?side5 A33.out).mono ?_);(case side1=>repeat (first|(with_reducible first|exact HI0.out|apply IsS67.alloc|apply IsS67.drewN|apply IsS67.drew|apply IsS67.set_1|refine IsS67.far ?_ NB0_349.out _)|exact HI0.out));(case side2=>repeat (first|exact gB HB|refine below_set ?_ (IsS67.ge HI0.out)|refine below_set ?_ GE349.out));(case side3=>exact gC ((Kd.R_reads' HO368.out).2.2));(case side4=>exact (Kd.R_reads' HO368.out).2.1);(case side5=>exact far_slice (IsS67.own_ne HI0.out HO368.out (by decide)));rintro e w42 ⟨rfl,hi,hb,hk⟩;refine ⟨_,rfl,?_⟩;have n0_:=Aside0.mk (Kd.R_mono (Kd.R_keep (IsS67.apart (show IsS67 w0 _ g s0_0 x1001_6 from by repeat (first|(with_reducible first|exact HI0.out|apply IsS67.alloc|apply IsS67.drewN|apply IsS67.drew|apply IsS67.set_1|refine IsS67.far ?_ NB0_349.out _)|exact HI0.out)) (gR HO_3) (by decide)) hk (fun _ h=>h.2)) (fun _ h=>h.1));have n1_:=Aside0.mk (KeepBut.blk hk (g':=gb349) (o:=.cells #[.int .i64 x350000_6,.int .i64 x350001_6,.string x350002_6,.slice none 0 0] 39 (0,0)) (gK BK349) NB349_0.out (by simp));have n2_:=Aside0.mk (Kd.R_mono (Kd.R_keep (IsS67.apart (show IsS67 w0 _ g s0_0 x1001_6 from by repeat (first|(with_reducible first|exact HI0.out|apply IsS67.alloc|apply IsS67.drewN|apply IsS67.drew|apply IsS67.set_1|refine IsS67.far ?_ NB0_349.out _)|exact HI0.out)) (gR HO368) (by decide)) hk (fun _ h=>h.2)) (fun _ h=>h.1));have n3_:=Aside0.mk (KeepBut.trans (by repeat (first|exact gW HK|apply KeepBut.set_|refine keep_far ?_ GW349.out _)) hk (.inl rfl));have n4_:=Aside0.mk (hb);have n5_:=Aside0.mk (hi);clear HO_3;clear BK349;clear HO368;clear HK;clear HB;clear HI0;have HO_3:=n0_;have BK349:=n1_;have HO368:=n2_;have HK:=n3_;have HB:=n4_;have HI0:=n5_;clear n0_ n1_ n2_ n3_ n4_ n5_;(try clear hb);(try clear hb2);(try clear hk);(try clear hi))|((with_reducible refine gate_callee (f:=82) rfl ?_);refine goesL_ (some 33) rfl rfl Try.func82 (by kernel_rfl) rfl #[.pointer (some ⟨g,0,none⟩),.int .i64 t369] rfl (by (try simp only [List.map_toArray,List.map_cons,List.map_nil]);first|done|rfl|(simp only [List.length_drop,List.length_take];rfl)) ?_;(with_reducible refine (spec_l1Some.calls kj6 g s0_0 t370 t369 t371 t372 t373 t374 t377 w0 _ ?side1 ?side2 A34.out).mono ?_);(case side1=>repeat (first|(with_reducible first|exact HI0.out|apply IsS67.alloc|apply IsS67.drewN|apply IsS67.drew|apply IsS67.set_1|refine IsS67.far ?_ NB0_349.out _)|exact HI0.out));(case side2=>repeat (first|exact gB HB|refine below_set ?_ (IsS67.ge HI0.out)|refine below_set ?_ GE349.out));rintro e w43 ⟨v375,rfl,ho0,hi,hb,hk⟩;refine ⟨_,rfl,?_⟩;have n0_:=Aside0.mk (Kd.R_mono (Kd.R_keep (IsS67.apart (show IsS67 w0 _ g s0_0 t370 from by repeat (first|(with_reducible first|exact HI0.out|apply IsS67.alloc|apply IsS67.drewN|apply IsS67.drew|apply IsS67.set_1|refine IsS67.far ?_ NB0_349.out _)|exact HI0.out)) (gR HO_3) (by decide)) hk (fun _ h=>h.2)) (fun _ h=>h.1));have n1_:=Aside0.mk (KeepBut.blk hk (g':=gb349) (o:=.cells #[.int .i64 x350000_6,.int .i64 x350001_6,.string x350002_6,.slice none 0 0] 39 (0,0)) (gK BK349) NB349_0.out (by simp));have n2_:=Aside0.mk (Kd.R_mono (Kd.R_keep (IsS67.apart (show IsS67 w0 _ g s0_0 t370 from by repeat (first|(with_reducible first|exact HI0.out|apply IsS67.alloc|apply IsS67.drewN|apply IsS67.drew|apply IsS67.set_1|refine IsS67.far ?_ NB0_349.out _)|exact HI0.out)) (gR HO368) (by decide)) hk (fun _ h=>h.2)) (fun _ h=>h.1));have n3_:=Aside0.mk (Kd.N_lower (Kd.N_mono (ok':=fun k_=>(w.heap.size≤k_)∧some k_ ≠ (v351:Value).ownBlock∧some k_ ≠ (.slice Ao41 y366.length co41:Value).ownBlock∧k_ ≠ gb349∧k_ ≠ g) ho0 (fun k_ hk_=>⟨(Nat.le_trans (keep_size (w:=w) (g:=g) (row:=none) (by repeat (first|exact gW HK|apply KeepBut.set_|refine keep_far ?_ GW349.out _))) hk_),(Kd.fresh' (Kd.R_lt (gR HO_3)) k_ hk_),(Kd.fresh' (Kd.R_lt (gR HO368)) k_ hk_),(Kd.freshB (g:=gb349) (o:=.cells #[.int .i64 x350000_6,.int .i64 x350001_6,.string x350002_6,.slice none 0 0] 39 (0,0)) (gK BK349) k_ hk_),(IsS67.fresh (by repeat (first|(with_reducible first|exact HI0.out|apply IsS67.alloc|apply IsS67.drewN|apply IsS67.drew|apply IsS67.set_1|refine IsS67.far ?_ NB0_349.out _)|exact HI0.out)) k_ hk_)⟩)) (keep_size (w:=w) (g:=g) (row:=none) (by repeat (first|exact gW HK|apply KeepBut.set_|refine keep_far ?_ GW349.out _))));have n4_:=Aside0.mk (KeepBut.trans (by repeat (first|exact gW HK|apply KeepBut.set_|refine keep_far ?_ GW349.out _)) hk (.inl rfl));have n5_:=Aside0.mk (hb);have n6_:=Aside0.mk (hi);clear HO_3;clear BK349;clear HO368;clear HK;clear HB;clear HI0;have HO_3:=n0_;have BK349:=n1_;have HO368:=n2_;have HO376:=n3_;have HK:=n4_;have HB:=n5_;have HI0:=n6_;clear n0_ n1_ n2_ n3_ n4_ n5_ n6_;(try clear hb);(try clear hb2);(try clear hk);(try clear hi);(try clear ho0))|((with_reducible refine gate_dst (N:=7) rfl ?_);refine box_event ?hg (N:=7) ?hd (cs:=#[.int .i64 0,.int .i64 0,.string (⟨#[]⟩:ByteArray),.slice none 0 0]) (t:=39) ?hr ?_;(case hd=>rfl);(case hg=>rfl);(case hr=>first|(go_simp;done)|(go_simp;rfl));intro gb378 hg w44 hbox hb;have n0_:=Aside0.mk (Kd.R_below (gR HO_3) hb);have n1_:=Aside0.mk (Kd.R_below (gR HO368) hb);have n2_:=Aside0.mk (Kd.N_below (Kd.N_elderB (gN HO376) gb378 (Nat.le_of_eq hg.symm)) hb);have n3_:=Aside0.mk (blk_below (g:=gb349) (o:=.cells #[.int .i64 x350000_6,.int .i64 x350001_6,.string x350002_6,.slice none 0 0] 39 (0,0)) (gK BK349) hb);have n4_:=Aside0.mk (IsS67.below (by repeat (first|(with_reducible first|exact HI0.out|apply IsS67.alloc|apply IsS67.drewN|apply IsS67.drew|apply IsS67.set_1|refine IsS67.far ?_ NB0_349.out _)|exact HI0.out)) hb);have n5_:=Aside0.mk (KeepBut.trans (by repeat (first|exact gW HK|apply KeepBut.set_|refine keep_far ?_ GW349.out _)) (KeepBut.of_below hb g none) (.inl rfl));have n6_:=Aside0.mk (below_step (by repeat (first|exact gB HB|refine below_set ?_ (IsS67.ge HI0.out)|refine below_set ?_ GE349.out)) hb);have n7_:=Aside0.mk (hbox);have n8_:=Aside0.mk ((by rw [hg];exact (keep_size (w:=w) (g:=g) (row:=none) (by repeat (first|exact gW HK|apply KeepBut.set_|refine keep_far ?_ GW349.out _))):w.heap.size≤gb378));have n9_:=Aside0.mk ((Nat.le_trans HW0.out (by rw [hg];exact (keep_size (w:=w) (g:=g) (row:=none) (by repeat (first|exact gW HK|apply KeepBut.set_|refine keep_far ?_ GW349.out _))):w.heap.size≤gb378):w0.heap.size≤gb378));have n10_:=Aside0.mk ((by rw [hg];exact Nat.ne_of_lt (blk_lt (g:=gb349) (o:=.cells #[.int .i64 x350000_6,.int .i64 x350001_6,.string x350002_6,.slice none 0 0] 39 (0,0)) (gK BK349)):gb349 ≠ gb378));have n11_:=Aside0.mk ((by rw [hg];exact Nat.ne_of_gt (blk_lt (g:=gb349) (o:=.cells #[.int .i64 x350000_6,.int .i64 x350001_6,.string x350002_6,.slice none 0 0] 39 (0,0)) (gK BK349)):gb378 ≠ gb349));have n12_:=Aside0.mk ((by rw [hg];exact Nat.ne_of_lt (IsS67.lt (show IsS67 w0 _ g s0_0 t377 from by repeat (first|(with_reducible first|exact HI0.out|apply IsS67.alloc|apply IsS67.drewN|apply IsS67.drew|apply IsS67.set_1|refine IsS67.far ?_ NB0_349.out _)|exact HI0.out))):g ≠ gb378));have n13_:=Aside0.mk ((by rw [hg];exact Nat.ne_of_gt (IsS67.lt (show IsS67 w0 _ g s0_0 t377 from by repeat (first|(with_reducible first|exact HI0.out|apply IsS67.alloc|apply IsS67.drewN|apply IsS67.drew|apply IsS67.set_1|refine IsS67.far ?_ NB0_349.out _)|exact HI0.out))):gb378 ≠ g));clear HO_3;clear HO368;clear HO376;clear BK349;clear HI0;clear HK;clear HB;have HO_3:=n0_;have HO368:=n1_;have HO376:=n2_;have BK349:=n3_;have HI0:=n4_;have HK:=n5_;have HB:=n6_;have BK378:=n7_;have GW378:=n8_;have GE378:=n9_;have NB349_378:=n10_;have NB378_349:=n11_;have NB0_378:=n12_;have NB378_0:=n13_;clear n0_ n1_ n2_ n3_ n4_ n5_ n6_ n7_ n8_ n9_ n10_ n11_ n12_ n13_;clear hb hbox hg;have hnb45:=NB378_349.out;have hnc45:=NB349_378.out;have hnb46:=NB378_0.out;have hnc46:=NB0_378.out;have hcz47_0:w44.cell? ⟨gb378,0,none⟩=some (.int .i64 0):=(blk_cell BK378.out 0).trans rfl;have hcz47_1:w44.cell? ⟨gb378,1,none⟩=some (.int .i64 0):=(blk_cell BK378.out 1).trans rfl;have hcz47_2:w44.cell? ⟨gb378,2,none⟩=some (.string (⟨#[]⟩:ByteArray)):=(blk_cell BK378.out 2).trans rfl;have hcz47_3:w44.cell? ⟨gb378,3,none⟩=some (.slice none 0 0):=(blk_cell BK378.out 3).trans rfl;have hfz47_0:=blk_frozen BK378.out 0;have hfz47_1:=blk_frozen BK378.out 1;have hfz47_2:=blk_frozen BK378.out 2;have hfz47_3:=blk_frozen BK378.out 3;obtain ⟨Ao48,co48,eo48⟩:=Kd.N_slice HO376.out;subst eo48)|((with_reducible refine gate_callee (f:=52) rfl ?_);refine goesL_ (some 35) rfl rfl Try.func52 (by kernel_rfl) rfl #[.agg #[.int .i64 t371,.int .i64 t372,.string t373,.slice Ao48 t374.length co48]] rfl (by (try simp only [List.map_toArray,List.map_cons,List.map_nil]);first|done|rfl|(simp only [List.length_drop,List.length_take];rfl)) ?_;(with_reducible refine (spec_DocValid.calls kj6 t371 t372 t373 _ _ t374 true _ ?side1 ?side2 A35.out).mono ?_);(case side1=>refine (Kd.N_reads' (e:=39) (base:=w.heap.size) (ok:=fun k_=>(((w.heap.size≤k_)∧(some k_ ≠ (v351:Value).ownBlock∧(some k_ ≠ (.slice Ao41 y366.length co41:Value).ownBlock∧(k_ ≠ gb349∧k_ ≠ g))))∧k_ ≠ gb378)) (n:=t374.length) (c:=co48) ?_).2.2;exact (by (with_reducible repeat (first|apply Kd.N_alloc|apply Kd.N_drewN|apply Kd.N_drew));exact (Kd.N_mono (Kd.N_far (p:=⟨gb378,3,none⟩) (Kd.N_far (p:=⟨gb378,2,none⟩) (Kd.N_far (p:=⟨gb378,1,none⟩) (Kd.N_far (p:=⟨gb378,0,none⟩) (Kd.N_mono HO376.out (fun k_ hk=>(⟨hk,hk.2⟩:_∧k_ ≠ gb378))) (fun _ hk=>hk.2) (.int .i64 t371)) (fun _ hk=>hk.2) (.int .i64 t372)) (fun _ hk=>hk.2) (.string t373)) (fun _ hk=>hk.2) (.slice Ao48 t374.length co48)) (fun _ h_=>h_.1))));(case side2=>exact (Kd.N_reads' HO376.out).2.1);rintro e w49 ⟨rfl,hb⟩;refine ⟨_,rfl,?_⟩;have n0_:=Aside0.mk (Kd.R_below (by (with_reducible repeat (first|apply Kd.R_alloc|apply Kd.R_drewN|apply Kd.R_drew));exact (Kd.R_mono (Kd.R_far (p:=⟨gb378,3,none⟩) (Kd.R_far (p:=⟨gb378,2,none⟩) (Kd.R_far (p:=⟨gb378,1,none⟩) (Kd.R_far (p:=⟨gb378,0,none⟩) (Kd.R_types HO_3.out BK378.out (by decide)) (fun _ hk=>hk.2) (.int .i64 t371)) (fun _ hk=>hk.2) (.int .i64 t372)) (fun _ hk=>hk.2) (.string t373)) (fun _ hk=>hk.2) (.slice Ao48 t374.length co48)) (fun _ h_=>h_.1))) hb);have n1_:=Aside0.mk (Kd.R_below (by (with_reducible repeat (first|apply Kd.R_alloc|apply Kd.R_drewN|apply Kd.R_drew));exact (Kd.R_mono (Kd.R_far (p:=⟨gb378,3,none⟩) (Kd.R_far (p:=⟨gb378,2,none⟩) (Kd.R_far (p:=⟨gb378,1,none⟩) (Kd.R_far (p:=⟨gb378,0,none⟩) (Kd.R_types HO368.out BK378.out (by decide)) (fun _ hk=>hk.2) (.int .i64 t371)) (fun _ hk=>hk.2) (.int .i64 t372)) (fun _ hk=>hk.2) (.string t373)) (fun _ hk=>hk.2) (.slice Ao48 t374.length co48)) (fun _ h_=>h_.1))) hb);have n2_:=Aside0.mk (Kd.N_below (by (with_reducible repeat (first|apply Kd.N_alloc|apply Kd.N_drewN|apply Kd.N_drew));exact (Kd.N_mono (Kd.N_far (p:=⟨gb378,3,none⟩) (Kd.N_far (p:=⟨gb378,2,none⟩) (Kd.N_far (p:=⟨gb378,1,none⟩) (Kd.N_far (p:=⟨gb378,0,none⟩) (Kd.N_mono HO376.out (fun k_ hk=>(⟨hk,hk.2⟩:_∧k_ ≠ gb378))) (fun _ hk=>hk.2) (.int .i64 t371)) (fun _ hk=>hk.2) (.int .i64 t372)) (fun _ hk=>hk.2) (.string t373)) (fun _ hk=>hk.2) (.slice Ao48 t374.length co48)) (fun _ h_=>h_.1))) hb);have n3_:=Aside0.mk (blk_below (g:=gb349) (o:=.cells #[.int .i64 x350000_6,.int .i64 x350001_6,.string x350002_6,.slice none 0 0] 39 (0,0)) (by (with_reducible repeat (first|refine blk_drewN ?_ _|refine blk_drew ?_|refine blk_alloc ?_ _));refine blk_far ?_ NB349_378.out _;(with_reducible repeat (first|refine blk_drewN ?_ _|refine blk_drew ?_|refine blk_alloc ?_ _));refine blk_far ?_ NB349_378.out _;(with_reducible repeat (first|refine blk_drewN ?_ _|refine blk_drew ?_|refine blk_alloc ?_ _));refine blk_far ?_ NB349_378.out _;(with_reducible repeat (first|refine blk_drewN ?_ _|refine blk_drew ?_|refine blk_alloc ?_ _));refine blk_far ?_ NB349_378.out _;(with_reducible repeat (first|refine blk_drewN ?_ _|refine blk_drew ?_|refine blk_alloc ?_ _));exact BK349.out) hb);have n4_:=Aside0.mk (IsS67.below (show IsS67 w0 ((((w44.setCell ⟨gb378,0,none⟩ (.int .i64 t371)).setCell ⟨gb378,1,none⟩ (.int .i64 t372)).setCell ⟨gb378,2,none⟩ (.string t373)).setCell ⟨gb378,3,none⟩ (.slice Ao48 t374.length co48)) g s0_0 t377 from by repeat (first|(with_reducible first|exact HI0.out|apply IsS67.alloc|apply IsS67.drewN|apply IsS67.drew|apply IsS67.set_1|refine IsS67.far ?_ NB0_349.out _|refine IsS67.far ?_ NB0_378.out _)|exact HI0.out)) hb);have n5_:=Aside0.mk (blk_below (g:=gb378) (o:=.cells #[.int .i64 t371,.int .i64 t372,.string t373,.slice Ao48 t374.length co48] 39 (0,0)) (by (with_reducible repeat (first|refine blk_drewN ?_ _|refine blk_drew ?_|refine blk_alloc ?_ _));refine blk_put (cs:=#[.int .i64 t371,.int .i64 t372,.string t373,.slice none 0 0]) ?_ 3 _ rfl;(with_reducible repeat (first|refine blk_drewN ?_ _|refine blk_drew ?_|refine blk_alloc ?_ _));refine blk_put (cs:=#[.int .i64 t371,.int .i64 t372,.string (⟨#[]⟩:ByteArray),.slice none 0 0]) ?_ 2 _ rfl;(with_reducible repeat (first|refine blk_drewN ?_ _|refine blk_drew ?_|refine blk_alloc ?_ _));refine blk_put (cs:=#[.int .i64 t371,.int .i64 0,.string (⟨#[]⟩:ByteArray),.slice none 0 0]) ?_ 1 _ rfl;(with_reducible repeat (first|refine blk_drewN ?_ _|refine blk_drew ?_|refine blk_alloc ?_ _));refine blk_put (cs:=#[.int .i64 0,.int .i64 0,.string (⟨#[]⟩:ByteArray),.slice none 0 0]) ?_ 0 _ rfl;(with_reducible repeat (first|refine blk_drewN ?_ _|refine blk_drew ?_|refine blk_alloc ?_ _));exact BK378.out) hb);have n6_:=Aside0.mk (KeepBut.trans (by repeat (first|exact gW HK|apply KeepBut.set_|refine keep_far ?_ GW349.out _|refine keep_far ?_ GW378.out _)) (KeepBut.of_below hb g none) (.inl rfl));have n7_:=Aside0.mk (below_step (by repeat (first|exact gB HB|refine below_set ?_ (IsS67.ge HI0.out)|refine below_set ?_ GE349.out|refine below_set ?_ GE378.out)) hb);clear HO_3;clear HO368;clear HO376;clear BK349;clear HI0;clear BK378;clear HK;clear HB;have HO_3:=n0_;have HO368:=n1_;have HO376:=n2_;have BK349:=n3_;have HI0:=n4_;have BK378:=n5_;have HK:=n6_;have HB:=n7_;clear n0_ n1_ n2_ n3_ n4_ n5_ n6_ n7_;(try clear hb);(try clear hb2);(try clear hk);(try clear hi);have hcz50_0:w49.cell? ⟨gb378,0,none⟩=some (.int .i64 t371):=(blk_cell BK378.out 0).trans rfl;have hcz50_1:w49.cell? ⟨gb378,1,none⟩=some (.int .i64 t372):=(blk_cell BK378.out 1).trans rfl;have hcz50_2:w49.cell? ⟨gb378,2,none⟩=some (.string t373):=(blk_cell BK378.out 2).trans rfl;have hcz50_3:w49.cell? ⟨gb378,3,none⟩=some (.slice Ao48 t374.length co48):=(blk_cell BK378.out 3).trans rfl;have hfz50_0:=blk_frozen BK378.out 0;have hfz50_1:=blk_frozen BK378.out 1;have hfz50_2:=blk_frozen BK378.out 2;have hfz50_3:=blk_frozen BK378.out 3)|(go_at_call 72;(with_reducible refine (spec_l1Count.calls kj6 t371 t372 t373 _ _ t374 t380 _ ?side1 ?side2 A37.out).mono ?_);(case side1=>exact gC ((Kd.N_reads' HO376.out).2.2));(case side2=>exact (Kd.N_reads' HO376.out).2.1);rintro e w51 ⟨rfl,hb⟩;have n0_:=Aside0.mk (Kd.R_below (gR HO_3) hb);have n1_:=Aside0.mk (Kd.R_below (gR HO368) hb);have n2_:=Aside0.mk (Kd.N_below (gN HO376) hb);have n3_:=Aside0.mk (blk_below (g:=gb349) (o:=.cells #[.int .i64 x350000_6,.int .i64 x350001_6,.string x350002_6,.slice none 0 0] 39 (0,0)) (gK BK349) hb);have n4_:=Aside0.mk (IsS67.below (by repeat (first|(with_reducible first|exact HI0.out|apply IsS67.alloc|apply IsS67.drewN|apply IsS67.drew|apply IsS67.set_1|refine IsS67.far ?_ NB0_349.out _|refine IsS67.far ?_ NB0_378.out _)|exact HI0.out)) hb);have n5_:=Aside0.mk (blk_below (g:=gb378) (o:=.cells #[.int .i64 t371,.int .i64 t372,.string t373,.slice Ao48 t374.length co48] 39 (0,0)) (gK BK378) hb);have n6_:=Aside0.mk (KeepBut.trans (by repeat (first|exact gW HK|apply KeepBut.set_|refine keep_far ?_ GW349.out _|refine keep_far ?_ GW378.out _)) (KeepBut.of_below hb g none) (.inl rfl));have n7_:=Aside0.mk (below_step (by repeat (first|exact gB HB|refine below_set ?_ (IsS67.ge HI0.out)|refine below_set ?_ GE349.out|refine below_set ?_ GE378.out)) hb);clear HO_3;clear HO368;clear HO376;clear BK349;clear HI0;clear BK378;clear HK;clear HB;have HO_3:=n0_;have HO368:=n1_;have HO376:=n2_;have BK349:=n3_;have HI0:=n4_;have BK378:=n5_;have HK:=n6_;have HB:=n7_;clear n0_ n1_ n2_ n3_ n4_ n5_ n6_ n7_;(try clear hb);(try clear hb2);(try clear hk);(try clear hi);have hcz52_0:w51.cell? ⟨gb378,0,none⟩=some (.int .i64 t371):=(blk_cell BK378.out 0).trans rfl;have hcz52_1:w51.cell? ⟨gb378,1,none⟩=some (.int .i64 t372):=(blk_cell BK378.out 1).trans rfl;have hcz52_2:w51.cell? ⟨gb378,2,none⟩=some (.string t373):=(blk_cell BK378.out 2).trans rfl;have hcz52_3:w51.cell? ⟨gb378,3,none⟩=some (.slice Ao48 t374.length co48):=(blk_cell BK378.out 3).trans rfl;have hfz52_0:=blk_frozen BK378.out 0;have hfz52_1:=blk_frozen BK378.out 1;have hfz52_2:=blk_frozen BK378.out 2;have hfz52_3:=blk_frozen BK378.out 3;have hnb53:=NB349_0.out;have hnc53:=NB0_349.out;have hcz54_0:w51.cell? ⟨gb349,0,none⟩=some (.int .i64 x350000_6):=(blk_cell BK349.out 0).trans rfl;have hcz54_1:w51.cell? ⟨gb349,1,none⟩=some (.int .i64 x350001_6):=(blk_cell BK349.out 1).trans rfl;have hcz54_2:w51.cell? ⟨gb349,2,none⟩=some (.string x350002_6):=(blk_cell BK349.out 2).trans rfl;have hcz54_3:w51.cell? ⟨gb349,3,none⟩=some (.slice none 0 0):=(blk_cell BK349.out 3).trans rfl;have hfz54_0:=blk_frozen BK349.out 0;have hfz54_1:=blk_frozen BK349.out 1;have hfz54_2:=blk_frozen BK349.out 2;have hfz54_3:=blk_frozen BK349.out 3))
        refine bodyPost_ret (results_cell_row rfl _ _ gb349 39 #[.int .i64 t371,.int .i64 t372,.string t373,.slice Ao48 t374.length co48] (0,0) _ rfl (by (with_reducible repeat (first|refine blk_drewN ?_ _|refine blk_drew ?_|refine blk_alloc ?_ _));refine blk_put (cs:=#[.int .i64 t371,.int .i64 t372,.string t373,.slice none 0 0]) ?_ 3 _ rfl;(with_reducible repeat (first|refine blk_drewN ?_ _|refine blk_drew ?_|refine blk_alloc ?_ _));refine blk_put (cs:=#[.int .i64 t371,.int .i64 t372,.string x350002_6,.slice none 0 0]) ?_ 2 _ rfl;(with_reducible repeat (first|refine blk_drewN ?_ _|refine blk_drew ?_|refine blk_alloc ?_ _));refine blk_put (cs:=#[.int .i64 t371,.int .i64 x350001_6,.string x350002_6,.slice none 0 0]) ?_ 1 _ rfl;(with_reducible repeat (first|refine blk_drewN ?_ _|refine blk_drew ?_|refine blk_alloc ?_ _));refine blk_put (cs:=#[.int .i64 x350000_6,.int .i64 x350001_6,.string x350002_6,.slice none 0 0]) ?_ 0 _ rfl;(with_reducible repeat (first|refine blk_drewN ?_ _|refine blk_drew ?_|refine blk_alloc ?_ _));exact BK349.out) Try.underlying39 rfl (by kernel_rfl)) rfl ?_
        exact ⟨_,by first|rfl|(simp [errW_none,errW_some] <;> rfl)|(simp [*,errW_none,errW_some] <;> rfl),by (with_reducible repeat (first|apply Kd.N_alloc|apply Kd.N_drewN|apply Kd.N_drew));exact Kd.N_mono (Kd.N_far (p:=⟨gb349,3,none⟩) (Kd.N_far (p:=⟨gb349,2,none⟩) (Kd.N_far (p:=⟨gb349,1,none⟩) (Kd.N_far (p:=⟨gb349,0,none⟩) (Kd.N_mono HO376.out (fun k_ hk=>(⟨hk,hk.1.2.2.2.1⟩:_∧k_ ≠ gb349))) (fun _ hk=>hk.2) (.int .i64 t371)) (fun _ hk=>hk.2) (.int .i64 t372)) (fun _ hk=>hk.2) (.string t373)) (fun _ hk=>hk.2) (.slice Ao48 t374.length co48)) (fun _ hk=>hk.1.1.1),by repeat (first|(with_reducible first|exact HI0.out|apply IsS67.alloc|apply IsS67.drewN|apply IsS67.drew|apply IsS67.set_1|refine IsS67.far ?_ NB0_349.out _|refine IsS67.far ?_ NB0_378.out _)|exact HI0.out),by repeat (first|exact gB HB|refine below_set ?_ (IsS67.ge HI0.out)|refine below_set ?_ GE349.out|refine below_set ?_ GE378.out),by repeat (first|exact gW HK|apply KeepBut.set_|refine keep_far ?_ GW349.out _|refine keep_far ?_ GW378.out _)⟩
       ·rw [if_neg c38] at H
        have c38b0:decide (t380≤40)=false:=decide_eq_false c38
        clear c38
        have H':=Aside0.mk H
        clear H
        go_wp2_with (first|((with_reducible refine gate_dst (N:=31) rfl ?_);refine Kd.R_lit (Kd.int .i64) _ 3 ?hg (N:=31) ?hd (xs:=([4,3,5,2]:List Int)) (inner:=[.int .i64 4,.int .i64 3,.int .i64 5,.int .i64 2]) (ok:=fun _=>True) (okp:=fun _=>True) ?hr ?hp (fun _ hk=>hk) trivial (Below.refl _ _) (Nat.le_refl _) (by simp) ?_;(case hd=>rfl);(case hg=>rfl);(case hr=>first|(go_simp;done)|(go_simp;rfl));(case hp=>exact (Reps.one (show Kd.M (Kd.int .i64) _ _ _ 4 [.int .i64 4] from rfl) (Reps.one (show Kd.M (Kd.int .i64) _ _ _ 3 [.int .i64 3] from rfl) (Reps.one (show Kd.M (Kd.int .i64) _ _ _ 5 [.int .i64 5] from rfl) (Reps.one (show Kd.M (Kd.int .i64) _ _ _ 2 [.int .i64 2] from rfl) (Reps.none _ _))))));intro v367 w55 ho56 hb hg_ hnew_;clear hg_ hnew_;(first|rw [← Ny366.out] at ho56|(simp only [Int.reduceToNat] at ho56;rw [← Ny366.out] at ho56));have n0_:=Aside0.mk (Kd.R_below (gR HO_3) hb);have n1_:=Aside0.mk (Kd.R_lower (Kd.R_newM (M:=fun k_=>(w.heap.size≤k_)) ho56 (keep_size (w:=w) (g:=g) (row:=none) (by repeat (first|exact gW HK|apply KeepBut.set_|refine keep_far ?_ GW349.out _))) (fun k_ h_=>h_)) (keep_size (w:=w) (g:=g) (row:=none) (by repeat (first|exact gW HK|apply KeepBut.set_|refine keep_far ?_ GW349.out _))));have n2_:=Aside0.mk (blk_below (g:=gb349) (o:=.cells #[.int .i64 x350000_6,.int .i64 x350001_6,.string x350002_6,.slice none 0 0] 39 (0,0)) (gK BK349) hb);have n3_:=Aside0.mk (IsS67.below (by repeat (first|(with_reducible first|exact HI0.out|apply IsS67.alloc|apply IsS67.drewN|apply IsS67.drew|apply IsS67.set_1|refine IsS67.far ?_ NB0_349.out _)|exact HI0.out)) hb);have n4_:=Aside0.mk (KeepBut.trans (by repeat (first|exact gW HK|apply KeepBut.set_|refine keep_far ?_ GW349.out _)) (KeepBut.of_below hb g none) (.inl rfl));have n5_:=Aside0.mk (below_step (by repeat (first|exact gB HB|refine below_set ?_ (IsS67.ge HI0.out)|refine below_set ?_ GE349.out)) hb);clear HO_3;clear BK349;clear HI0;clear HK;clear HB;have HO_3:=n0_;have HO368:=n1_;have BK349:=n2_;have HI0:=n3_;have HK:=n4_;have HB:=n5_;clear n0_ n1_ n2_ n3_ n4_ n5_;clear hb ho56;obtain ⟨Ao57,co57,eo57⟩:=Kd.R_slice HO368.out;subst eo57)|((with_reducible refine gate_callee (f:=46) rfl ?_);refine goesL_ (some 32) rfl rfl Try.func46 (by kernel_rfl) rfl #[.pointer (some ⟨g,0,none⟩),.slice Ao57 y366.length co57] rfl (by (try simp only [List.map_toArray,List.map_cons,List.map_nil]);first|done|rfl|(simp only [List.length_drop,List.length_take];rfl)) ?_;(with_reducible refine (spec_l15Rd_num.calls kj6 g s0_0 x1001_6 _ _ y366 t369 t370 w0 _ ?side1 ?side2 ?side3 ?side4 ?side5 A33.out).mono ?_);(case side1=>repeat (first|(with_reducible first|exact HI0.out|apply IsS67.alloc|apply IsS67.drewN|apply IsS67.drew|apply IsS67.set_1|refine IsS67.far ?_ NB0_349.out _)|exact HI0.out));(case side2=>repeat (first|exact gB HB|refine below_set ?_ (IsS67.ge HI0.out)|refine below_set ?_ GE349.out));(case side3=>exact gC ((Kd.R_reads' HO368.out).2.2));(case side4=>exact (Kd.R_reads' HO368.out).2.1);(case side5=>exact far_slice (IsS67.own_ne HI0.out HO368.out (by decide)));rintro e w58 ⟨rfl,hi,hb,hk⟩;refine ⟨_,rfl,?_⟩;have n0_:=Aside0.mk (Kd.R_mono (Kd.R_keep (IsS67.apart (show IsS67 w0 _ g s0_0 x1001_6 from by repeat (first|(with_reducible first|exact HI0.out|apply IsS67.alloc|apply IsS67.drewN|apply IsS67.drew|apply IsS67.set_1|refine IsS67.far ?_ NB0_349.out _)|exact HI0.out)) (gR HO_3) (by decide)) hk (fun _ h=>h.2)) (fun _ h=>h.1));have n1_:=Aside0.mk (KeepBut.blk hk (g':=gb349) (o:=.cells #[.int .i64 x350000_6,.int .i64 x350001_6,.string x350002_6,.slice none 0 0] 39 (0,0)) (gK BK349) NB349_0.out (by simp));have n2_:=Aside0.mk (Kd.R_mono (Kd.R_keep (IsS67.apart (show IsS67 w0 _ g s0_0 x1001_6 from by repeat (first|(with_reducible first|exact HI0.out|apply IsS67.alloc|apply IsS67.drewN|apply IsS67.drew|apply IsS67.set_1|refine IsS67.far ?_ NB0_349.out _)|exact HI0.out)) (gR HO368) (by decide)) hk (fun _ h=>h.2)) (fun _ h=>h.1));have n3_:=Aside0.mk (KeepBut.trans (by repeat (first|exact gW HK|apply KeepBut.set_|refine keep_far ?_ GW349.out _)) hk (.inl rfl));have n4_:=Aside0.mk (hb);have n5_:=Aside0.mk (hi);clear HO_3;clear BK349;clear HO368;clear HK;clear HB;clear HI0;have HO_3:=n0_;have BK349:=n1_;have HO368:=n2_;have HK:=n3_;have HB:=n4_;have HI0:=n5_;clear n0_ n1_ n2_ n3_ n4_ n5_;(try clear hb);(try clear hb2);(try clear hk);(try clear hi))|((with_reducible refine gate_callee (f:=82) rfl ?_);refine goesL_ (some 33) rfl rfl Try.func82 (by kernel_rfl) rfl #[.pointer (some ⟨g,0,none⟩),.int .i64 t369] rfl (by (try simp only [List.map_toArray,List.map_cons,List.map_nil]);first|done|rfl|(simp only [List.length_drop,List.length_take];rfl)) ?_;(with_reducible refine (spec_l1Some.calls kj6 g s0_0 t370 t369 t371 t372 t373 t374 t377 w0 _ ?side1 ?side2 A34.out).mono ?_);(case side1=>repeat (first|(with_reducible first|exact HI0.out|apply IsS67.alloc|apply IsS67.drewN|apply IsS67.drew|apply IsS67.set_1|refine IsS67.far ?_ NB0_349.out _)|exact HI0.out));(case side2=>repeat (first|exact gB HB|refine below_set ?_ (IsS67.ge HI0.out)|refine below_set ?_ GE349.out));rintro e w59 ⟨v375,rfl,ho0,hi,hb,hk⟩;refine ⟨_,rfl,?_⟩;have n0_:=Aside0.mk (Kd.R_mono (Kd.R_keep (IsS67.apart (show IsS67 w0 _ g s0_0 t370 from by repeat (first|(with_reducible first|exact HI0.out|apply IsS67.alloc|apply IsS67.drewN|apply IsS67.drew|apply IsS67.set_1|refine IsS67.far ?_ NB0_349.out _)|exact HI0.out)) (gR HO_3) (by decide)) hk (fun _ h=>h.2)) (fun _ h=>h.1));have n1_:=Aside0.mk (KeepBut.blk hk (g':=gb349) (o:=.cells #[.int .i64 x350000_6,.int .i64 x350001_6,.string x350002_6,.slice none 0 0] 39 (0,0)) (gK BK349) NB349_0.out (by simp));have n2_:=Aside0.mk (Kd.R_mono (Kd.R_keep (IsS67.apart (show IsS67 w0 _ g s0_0 t370 from by repeat (first|(with_reducible first|exact HI0.out|apply IsS67.alloc|apply IsS67.drewN|apply IsS67.drew|apply IsS67.set_1|refine IsS67.far ?_ NB0_349.out _)|exact HI0.out)) (gR HO368) (by decide)) hk (fun _ h=>h.2)) (fun _ h=>h.1));have n3_:=Aside0.mk (Kd.N_lower (Kd.N_mono (ok':=fun k_=>(w.heap.size≤k_)∧some k_ ≠ (v351:Value).ownBlock∧some k_ ≠ (.slice Ao57 y366.length co57:Value).ownBlock∧k_ ≠ gb349∧k_ ≠ g) ho0 (fun k_ hk_=>⟨(Nat.le_trans (keep_size (w:=w) (g:=g) (row:=none) (by repeat (first|exact gW HK|apply KeepBut.set_|refine keep_far ?_ GW349.out _))) hk_),(Kd.fresh' (Kd.R_lt (gR HO_3)) k_ hk_),(Kd.fresh' (Kd.R_lt (gR HO368)) k_ hk_),(Kd.freshB (g:=gb349) (o:=.cells #[.int .i64 x350000_6,.int .i64 x350001_6,.string x350002_6,.slice none 0 0] 39 (0,0)) (gK BK349) k_ hk_),(IsS67.fresh (by repeat (first|(with_reducible first|exact HI0.out|apply IsS67.alloc|apply IsS67.drewN|apply IsS67.drew|apply IsS67.set_1|refine IsS67.far ?_ NB0_349.out _)|exact HI0.out)) k_ hk_)⟩)) (keep_size (w:=w) (g:=g) (row:=none) (by repeat (first|exact gW HK|apply KeepBut.set_|refine keep_far ?_ GW349.out _))));have n4_:=Aside0.mk (KeepBut.trans (by repeat (first|exact gW HK|apply KeepBut.set_|refine keep_far ?_ GW349.out _)) hk (.inl rfl));have n5_:=Aside0.mk (hb);have n6_:=Aside0.mk (hi);clear HO_3;clear BK349;clear HO368;clear HK;clear HB;clear HI0;have HO_3:=n0_;have BK349:=n1_;have HO368:=n2_;have HO376:=n3_;have HK:=n4_;have HB:=n5_;have HI0:=n6_;clear n0_ n1_ n2_ n3_ n4_ n5_ n6_;(try clear hb);(try clear hb2);(try clear hk);(try clear hi);(try clear ho0))|((with_reducible refine gate_dst (N:=7) rfl ?_);refine box_event ?hg (N:=7) ?hd (cs:=#[.int .i64 0,.int .i64 0,.string (⟨#[]⟩:ByteArray),.slice none 0 0]) (t:=39) ?hr ?_;(case hd=>rfl);(case hg=>rfl);(case hr=>first|(go_simp;done)|(go_simp;rfl));intro gb378 hg w60 hbox hb;have n0_:=Aside0.mk (Kd.R_below (gR HO_3) hb);have n1_:=Aside0.mk (Kd.R_below (gR HO368) hb);have n2_:=Aside0.mk (Kd.N_below (Kd.N_elderB (gN HO376) gb378 (Nat.le_of_eq hg.symm)) hb);have n3_:=Aside0.mk (blk_below (g:=gb349) (o:=.cells #[.int .i64 x350000_6,.int .i64 x350001_6,.string x350002_6,.slice none 0 0] 39 (0,0)) (gK BK349) hb);have n4_:=Aside0.mk (IsS67.below (by repeat (first|(with_reducible first|exact HI0.out|apply IsS67.alloc|apply IsS67.drewN|apply IsS67.drew|apply IsS67.set_1|refine IsS67.far ?_ NB0_349.out _)|exact HI0.out)) hb);have n5_:=Aside0.mk (KeepBut.trans (by repeat (first|exact gW HK|apply KeepBut.set_|refine keep_far ?_ GW349.out _)) (KeepBut.of_below hb g none) (.inl rfl));have n6_:=Aside0.mk (below_step (by repeat (first|exact gB HB|refine below_set ?_ (IsS67.ge HI0.out)|refine below_set ?_ GE349.out)) hb);have n7_:=Aside0.mk (hbox);have n8_:=Aside0.mk ((by rw [hg];exact (keep_size (w:=w) (g:=g) (row:=none) (by repeat (first|exact gW HK|apply KeepBut.set_|refine keep_far ?_ GW349.out _))):w.heap.size≤gb378));have n9_:=Aside0.mk ((Nat.le_trans HW0.out (by rw [hg];exact (keep_size (w:=w) (g:=g) (row:=none) (by repeat (first|exact gW HK|apply KeepBut.set_|refine keep_far ?_ GW349.out _))):w.heap.size≤gb378):w0.heap.size≤gb378));have n10_:=Aside0.mk ((by rw [hg];exact Nat.ne_of_lt (blk_lt (g:=gb349) (o:=.cells #[.int .i64 x350000_6,.int .i64 x350001_6,.string x350002_6,.slice none 0 0] 39 (0,0)) (gK BK349)):gb349 ≠ gb378));have n11_:=Aside0.mk ((by rw [hg];exact Nat.ne_of_gt (blk_lt (g:=gb349) (o:=.cells #[.int .i64 x350000_6,.int .i64 x350001_6,.string x350002_6,.slice none 0 0] 39 (0,0)) (gK BK349)):gb378 ≠ gb349));have n12_:=Aside0.mk ((by rw [hg];exact Nat.ne_of_lt (IsS67.lt (show IsS67 w0 _ g s0_0 t377 from by repeat (first|(with_reducible first|exact HI0.out|apply IsS67.alloc|apply IsS67.drewN|apply IsS67.drew|apply IsS67.set_1|refine IsS67.far ?_ NB0_349.out _)|exact HI0.out))):g ≠ gb378));have n13_:=Aside0.mk ((by rw [hg];exact Nat.ne_of_gt (IsS67.lt (show IsS67 w0 _ g s0_0 t377 from by repeat (first|(with_reducible first|exact HI0.out|apply IsS67.alloc|apply IsS67.drewN|apply IsS67.drew|apply IsS67.set_1|refine IsS67.far ?_ NB0_349.out _)|exact HI0.out))):gb378 ≠ g));clear HO_3;clear HO368;clear HO376;clear BK349;clear HI0;clear HK;clear HB;have HO_3:=n0_;have HO368:=n1_;have HO376:=n2_;have BK349:=n3_;have HI0:=n4_;have HK:=n5_;have HB:=n6_;have BK378:=n7_;have GW378:=n8_;have GE378:=n9_;have NB349_378:=n10_;have NB378_349:=n11_;have NB0_378:=n12_;have NB378_0:=n13_;clear n0_ n1_ n2_ n3_ n4_ n5_ n6_ n7_ n8_ n9_ n10_ n11_ n12_ n13_;clear hb hbox hg;have hnb61:=NB378_349.out;have hnc61:=NB349_378.out;have hnb62:=NB378_0.out;have hnc62:=NB0_378.out;have hcz63_0:w60.cell? ⟨gb378,0,none⟩=some (.int .i64 0):=(blk_cell BK378.out 0).trans rfl;have hcz63_1:w60.cell? ⟨gb378,1,none⟩=some (.int .i64 0):=(blk_cell BK378.out 1).trans rfl;have hcz63_2:w60.cell? ⟨gb378,2,none⟩=some (.string (⟨#[]⟩:ByteArray)):=(blk_cell BK378.out 2).trans rfl;have hcz63_3:w60.cell? ⟨gb378,3,none⟩=some (.slice none 0 0):=(blk_cell BK378.out 3).trans rfl;have hfz63_0:=blk_frozen BK378.out 0;have hfz63_1:=blk_frozen BK378.out 1;have hfz63_2:=blk_frozen BK378.out 2;have hfz63_3:=blk_frozen BK378.out 3;obtain ⟨Ao64,co64,eo64⟩:=Kd.N_slice HO376.out;subst eo64)|((with_reducible refine gate_callee (f:=52) rfl ?_);refine goesL_ (some 35) rfl rfl Try.func52 (by kernel_rfl) rfl #[.agg #[.int .i64 t371,.int .i64 t372,.string t373,.slice Ao64 t374.length co64]] rfl (by (try simp only [List.map_toArray,List.map_cons,List.map_nil]);first|done|rfl|(simp only [List.length_drop,List.length_take];rfl)) ?_;(with_reducible refine (spec_DocValid.calls kj6 t371 t372 t373 _ _ t374 true _ ?side1 ?side2 A35.out).mono ?_);(case side1=>refine (Kd.N_reads' (e:=39) (base:=w.heap.size) (ok:=fun k_=>(((w.heap.size≤k_)∧(some k_ ≠ (v351:Value).ownBlock∧(some k_ ≠ (.slice Ao57 y366.length co57:Value).ownBlock∧(k_ ≠ gb349∧k_ ≠ g))))∧k_ ≠ gb378)) (n:=t374.length) (c:=co64) ?_).2.2;exact (by (with_reducible repeat (first|apply Kd.N_alloc|apply Kd.N_drewN|apply Kd.N_drew));exact (Kd.N_mono (Kd.N_far (p:=⟨gb378,3,none⟩) (Kd.N_far (p:=⟨gb378,2,none⟩) (Kd.N_far (p:=⟨gb378,1,none⟩) (Kd.N_far (p:=⟨gb378,0,none⟩) (Kd.N_mono HO376.out (fun k_ hk=>(⟨hk,hk.2⟩:_∧k_ ≠ gb378))) (fun _ hk=>hk.2) (.int .i64 t371)) (fun _ hk=>hk.2) (.int .i64 t372)) (fun _ hk=>hk.2) (.string t373)) (fun _ hk=>hk.2) (.slice Ao64 t374.length co64)) (fun _ h_=>h_.1))));(case side2=>exact (Kd.N_reads' HO376.out).2.1);rintro e w65 ⟨rfl,hb⟩;refine ⟨_,rfl,?_⟩;have n0_:=Aside0.mk (Kd.R_below (by (with_reducible repeat (first|apply Kd.R_alloc|apply Kd.R_drewN|apply Kd.R_drew));exact (Kd.R_mono (Kd.R_far (p:=⟨gb378,3,none⟩) (Kd.R_far (p:=⟨gb378,2,none⟩) (Kd.R_far (p:=⟨gb378,1,none⟩) (Kd.R_far (p:=⟨gb378,0,none⟩) (Kd.R_types HO_3.out BK378.out (by decide)) (fun _ hk=>hk.2) (.int .i64 t371)) (fun _ hk=>hk.2) (.int .i64 t372)) (fun _ hk=>hk.2) (.string t373)) (fun _ hk=>hk.2) (.slice Ao64 t374.length co64)) (fun _ h_=>h_.1))) hb);have n1_:=Aside0.mk (Kd.R_below (by (with_reducible repeat (first|apply Kd.R_alloc|apply Kd.R_drewN|apply Kd.R_drew));exact (Kd.R_mono (Kd.R_far (p:=⟨gb378,3,none⟩) (Kd.R_far (p:=⟨gb378,2,none⟩) (Kd.R_far (p:=⟨gb378,1,none⟩) (Kd.R_far (p:=⟨gb378,0,none⟩) (Kd.R_types HO368.out BK378.out (by decide)) (fun _ hk=>hk.2) (.int .i64 t371)) (fun _ hk=>hk.2) (.int .i64 t372)) (fun _ hk=>hk.2) (.string t373)) (fun _ hk=>hk.2) (.slice Ao64 t374.length co64)) (fun _ h_=>h_.1))) hb);have n2_:=Aside0.mk (Kd.N_below (by (with_reducible repeat (first|apply Kd.N_alloc|apply Kd.N_drewN|apply Kd.N_drew));exact (Kd.N_mono (Kd.N_far (p:=⟨gb378,3,none⟩) (Kd.N_far (p:=⟨gb378,2,none⟩) (Kd.N_far (p:=⟨gb378,1,none⟩) (Kd.N_far (p:=⟨gb378,0,none⟩) (Kd.N_mono HO376.out (fun k_ hk=>(⟨hk,hk.2⟩:_∧k_ ≠ gb378))) (fun _ hk=>hk.2) (.int .i64 t371)) (fun _ hk=>hk.2) (.int .i64 t372)) (fun _ hk=>hk.2) (.string t373)) (fun _ hk=>hk.2) (.slice Ao64 t374.length co64)) (fun _ h_=>h_.1))) hb);have n3_:=Aside0.mk (blk_below (g:=gb349) (o:=.cells #[.int .i64 x350000_6,.int .i64 x350001_6,.string x350002_6,.slice none 0 0] 39 (0,0)) (by (with_reducible repeat (first|refine blk_drewN ?_ _|refine blk_drew ?_|refine blk_alloc ?_ _));refine blk_far ?_ NB349_378.out _;(with_reducible repeat (first|refine blk_drewN ?_ _|refine blk_drew ?_|refine blk_alloc ?_ _));refine blk_far ?_ NB349_378.out _;(with_reducible repeat (first|refine blk_drewN ?_ _|refine blk_drew ?_|refine blk_alloc ?_ _));refine blk_far ?_ NB349_378.out _;(with_reducible repeat (first|refine blk_drewN ?_ _|refine blk_drew ?_|refine blk_alloc ?_ _));refine blk_far ?_ NB349_378.out _;(with_reducible repeat (first|refine blk_drewN ?_ _|refine blk_drew ?_|refine blk_alloc ?_ _));exact BK349.out) hb);have n4_:=Aside0.mk (IsS67.below (show IsS67 w0 ((((w60.setCell ⟨gb378,0,none⟩ (.int .i64 t371)).setCell ⟨gb378,1,none⟩ (.int .i64 t372)).setCell ⟨gb378,2,none⟩ (.string t373)).setCell ⟨gb378,3,none⟩ (.slice Ao64 t374.length co64)) g s0_0 t377 from by repeat (first|(with_reducible first|exact HI0.out|apply IsS67.alloc|apply IsS67.drewN|apply IsS67.drew|apply IsS67.set_1|refine IsS67.far ?_ NB0_349.out _|refine IsS67.far ?_ NB0_378.out _)|exact HI0.out)) hb);have n5_:=Aside0.mk (blk_below (g:=gb378) (o:=.cells #[.int .i64 t371,.int .i64 t372,.string t373,.slice Ao64 t374.length co64] 39 (0,0)) (by (with_reducible repeat (first|refine blk_drewN ?_ _|refine blk_drew ?_|refine blk_alloc ?_ _));refine blk_put (cs:=#[.int .i64 t371,.int .i64 t372,.string t373,.slice none 0 0]) ?_ 3 _ rfl;(with_reducible repeat (first|refine blk_drewN ?_ _|refine blk_drew ?_|refine blk_alloc ?_ _));refine blk_put (cs:=#[.int .i64 t371,.int .i64 t372,.string (⟨#[]⟩:ByteArray),.slice none 0 0]) ?_ 2 _ rfl;(with_reducible repeat (first|refine blk_drewN ?_ _|refine blk_drew ?_|refine blk_alloc ?_ _));refine blk_put (cs:=#[.int .i64 t371,.int .i64 0,.string (⟨#[]⟩:ByteArray),.slice none 0 0]) ?_ 1 _ rfl;(with_reducible repeat (first|refine blk_drewN ?_ _|refine blk_drew ?_|refine blk_alloc ?_ _));refine blk_put (cs:=#[.int .i64 0,.int .i64 0,.string (⟨#[]⟩:ByteArray),.slice none 0 0]) ?_ 0 _ rfl;(with_reducible repeat (first|refine blk_drewN ?_ _|refine blk_drew ?_|refine blk_alloc ?_ _));exact BK378.out) hb);have n6_:=Aside0.mk (KeepBut.trans (by repeat (first|exact gW HK|apply KeepBut.set_|refine keep_far ?_ GW349.out _|refine keep_far ?_ GW378.out _)) (KeepBut.of_below hb g none) (.inl rfl));have n7_:=Aside0.mk (below_step (by repeat (first|exact gB HB|refine below_set ?_ (IsS67.ge HI0.out)|refine below_set ?_ GE349.out|refine below_set ?_ GE378.out)) hb);clear HO_3;clear HO368;clear HO376;clear BK349;clear HI0;clear BK378;clear HK;clear HB;have HO_3:=n0_;have HO368:=n1_;have HO376:=n2_;have BK349:=n3_;have HI0:=n4_;have BK378:=n5_;have HK:=n6_;have HB:=n7_;clear n0_ n1_ n2_ n3_ n4_ n5_ n6_ n7_;(try clear hb);(try clear hb2);(try clear hk);(try clear hi);have hcz66_0:w65.cell? ⟨gb378,0,none⟩=some (.int .i64 t371):=(blk_cell BK378.out 0).trans rfl;have hcz66_1:w65.cell? ⟨gb378,1,none⟩=some (.int .i64 t372):=(blk_cell BK378.out 1).trans rfl;have hcz66_2:w65.cell? ⟨gb378,2,none⟩=some (.string t373):=(blk_cell BK378.out 2).trans rfl;have hcz66_3:w65.cell? ⟨gb378,3,none⟩=some (.slice Ao64 t374.length co64):=(blk_cell BK378.out 3).trans rfl;have hfz66_0:=blk_frozen BK378.out 0;have hfz66_1:=blk_frozen BK378.out 1;have hfz66_2:=blk_frozen BK378.out 2;have hfz66_3:=blk_frozen BK378.out 3)|(go_at_call 72;(with_reducible refine (spec_l1Count.calls kj6 t371 t372 t373 _ _ t374 t380 _ ?side1 ?side2 A37.out).mono ?_);(case side1=>exact gC ((Kd.N_reads' HO376.out).2.2));(case side2=>exact (Kd.N_reads' HO376.out).2.1);rintro e w67 ⟨rfl,hb⟩;have n0_:=Aside0.mk (Kd.R_below (gR HO_3) hb);have n1_:=Aside0.mk (Kd.R_below (gR HO368) hb);have n2_:=Aside0.mk (Kd.N_below (gN HO376) hb);have n3_:=Aside0.mk (blk_below (g:=gb349) (o:=.cells #[.int .i64 x350000_6,.int .i64 x350001_6,.string x350002_6,.slice none 0 0] 39 (0,0)) (gK BK349) hb);have n4_:=Aside0.mk (IsS67.below (by repeat (first|(with_reducible first|exact HI0.out|apply IsS67.alloc|apply IsS67.drewN|apply IsS67.drew|apply IsS67.set_1|refine IsS67.far ?_ NB0_349.out _|refine IsS67.far ?_ NB0_378.out _)|exact HI0.out)) hb);have n5_:=Aside0.mk (blk_below (g:=gb378) (o:=.cells #[.int .i64 t371,.int .i64 t372,.string t373,.slice Ao64 t374.length co64] 39 (0,0)) (gK BK378) hb);have n6_:=Aside0.mk (KeepBut.trans (by repeat (first|exact gW HK|apply KeepBut.set_|refine keep_far ?_ GW349.out _|refine keep_far ?_ GW378.out _)) (KeepBut.of_below hb g none) (.inl rfl));have n7_:=Aside0.mk (below_step (by repeat (first|exact gB HB|refine below_set ?_ (IsS67.ge HI0.out)|refine below_set ?_ GE349.out|refine below_set ?_ GE378.out)) hb);clear HO_3;clear HO368;clear HO376;clear BK349;clear HI0;clear BK378;clear HK;clear HB;have HO_3:=n0_;have HO368:=n1_;have HO376:=n2_;have BK349:=n3_;have HI0:=n4_;have BK378:=n5_;have HK:=n6_;have HB:=n7_;clear n0_ n1_ n2_ n3_ n4_ n5_ n6_ n7_;(try clear hb);(try clear hb2);(try clear hk);(try clear hi)))
        go_roundg kj6
        case measure=>have:=HK1.out;have:=HJ6.out;omega
        case rel=>exact ⟨(wrap64 (x4_1+1)),(t377),(x350000_6),(x350001_6),(x350002_6),(by first|rfl|(simp;done)|(simp [*];done)),H',⟨by have:=HK1.out;have:=HJ6.out;omega⟩,⟨gR HO_3⟩,⟨gK BK349⟩,⟨by repeat (first|(with_reducible first|exact HI0.out|apply IsS67.alloc|apply IsS67.drewN|apply IsS67.drew|apply IsS67.set_1|refine IsS67.far ?_ NB0_349.out _|refine IsS67.far ?_ NB0_378.out _)|exact HI0.out)⟩,⟨by repeat (first|exact gW HK|apply KeepBut.set_|refine keep_far ?_ GW349.out _|refine keep_far ?_ GW378.out _)⟩,⟨by repeat (first|exact gB HB|refine below_set ?_ (IsS67.ge HI0.out)|refine below_set ?_ GE349.out|refine below_set ?_ GE378.out)⟩⟩
      ·replace c36:=Bool.eq_false_iff.mpr c36
       subst c36
       have H1:(spec_l1Draw.l0 kj6 y350 (wrap64 (x4_1+1)) s0_0 t377)=some (r1,r2,r3,r4,r5):=by rw [if_neg (show ¬ (false=true) by decide)] at H;exact H
       clear H
       have H:=H1
       clear H1
       have H':=Aside0.mk H
       clear H
       go_wp2_with (first|((with_reducible refine gate_dst (N:=31) rfl ?_);refine Kd.R_lit (Kd.int .i64) _ 3 ?hg (N:=31) ?hd (xs:=([4,3,5,2]:List Int)) (inner:=[.int .i64 4,.int .i64 3,.int .i64 5,.int .i64 2]) (ok:=fun _=>True) (okp:=fun _=>True) ?hr ?hp (fun _ hk=>hk) trivial (Below.refl _ _) (Nat.le_refl _) (by simp) ?_;(case hd=>rfl);(case hg=>rfl);(case hr=>first|(go_simp;done)|(go_simp;rfl));(case hp=>exact (Reps.one (show Kd.M (Kd.int .i64) _ _ _ 4 [.int .i64 4] from rfl) (Reps.one (show Kd.M (Kd.int .i64) _ _ _ 3 [.int .i64 3] from rfl) (Reps.one (show Kd.M (Kd.int .i64) _ _ _ 5 [.int .i64 5] from rfl) (Reps.one (show Kd.M (Kd.int .i64) _ _ _ 2 [.int .i64 2] from rfl) (Reps.none _ _))))));intro v367 w68 ho69 hb hg_ hnew_;clear hg_ hnew_;(first|rw [← Ny366.out] at ho69|(simp only [Int.reduceToNat] at ho69;rw [← Ny366.out] at ho69));have n0_:=Aside0.mk (Kd.R_below (gR HO_3) hb);have n1_:=Aside0.mk (Kd.R_lower (Kd.R_newM (M:=fun k_=>(w.heap.size≤k_)) ho69 (keep_size (w:=w) (g:=g) (row:=none) (by repeat (first|exact gW HK|apply KeepBut.set_|refine keep_far ?_ GW349.out _))) (fun k_ h_=>h_)) (keep_size (w:=w) (g:=g) (row:=none) (by repeat (first|exact gW HK|apply KeepBut.set_|refine keep_far ?_ GW349.out _))));have n2_:=Aside0.mk (blk_below (g:=gb349) (o:=.cells #[.int .i64 x350000_6,.int .i64 x350001_6,.string x350002_6,.slice none 0 0] 39 (0,0)) (gK BK349) hb);have n3_:=Aside0.mk (IsS67.below (by repeat (first|(with_reducible first|exact HI0.out|apply IsS67.alloc|apply IsS67.drewN|apply IsS67.drew|apply IsS67.set_1|refine IsS67.far ?_ NB0_349.out _)|exact HI0.out)) hb);have n4_:=Aside0.mk (KeepBut.trans (by repeat (first|exact gW HK|apply KeepBut.set_|refine keep_far ?_ GW349.out _)) (KeepBut.of_below hb g none) (.inl rfl));have n5_:=Aside0.mk (below_step (by repeat (first|exact gB HB|refine below_set ?_ (IsS67.ge HI0.out)|refine below_set ?_ GE349.out)) hb);clear HO_3;clear BK349;clear HI0;clear HK;clear HB;have HO_3:=n0_;have HO368:=n1_;have BK349:=n2_;have HI0:=n3_;have HK:=n4_;have HB:=n5_;clear n0_ n1_ n2_ n3_ n4_ n5_;clear hb ho69;obtain ⟨Ao70,co70,eo70⟩:=Kd.R_slice HO368.out;subst eo70)|((with_reducible refine gate_callee (f:=46) rfl ?_);refine goesL_ (some 32) rfl rfl Try.func46 (by kernel_rfl) rfl #[.pointer (some ⟨g,0,none⟩),.slice Ao70 y366.length co70] rfl (by (try simp only [List.map_toArray,List.map_cons,List.map_nil]);first|done|rfl|(simp only [List.length_drop,List.length_take];rfl)) ?_;(with_reducible refine (spec_l15Rd_num.calls kj6 g s0_0 x1001_6 _ _ y366 t369 t370 w0 _ ?side1 ?side2 ?side3 ?side4 ?side5 A33.out).mono ?_);(case side1=>repeat (first|(with_reducible first|exact HI0.out|apply IsS67.alloc|apply IsS67.drewN|apply IsS67.drew|apply IsS67.set_1|refine IsS67.far ?_ NB0_349.out _)|exact HI0.out));(case side2=>repeat (first|exact gB HB|refine below_set ?_ (IsS67.ge HI0.out)|refine below_set ?_ GE349.out));(case side3=>exact gC ((Kd.R_reads' HO368.out).2.2));(case side4=>exact (Kd.R_reads' HO368.out).2.1);(case side5=>exact far_slice (IsS67.own_ne HI0.out HO368.out (by decide)));rintro e w71 ⟨rfl,hi,hb,hk⟩;refine ⟨_,rfl,?_⟩;have n0_:=Aside0.mk (Kd.R_mono (Kd.R_keep (IsS67.apart (show IsS67 w0 _ g s0_0 x1001_6 from by repeat (first|(with_reducible first|exact HI0.out|apply IsS67.alloc|apply IsS67.drewN|apply IsS67.drew|apply IsS67.set_1|refine IsS67.far ?_ NB0_349.out _)|exact HI0.out)) (gR HO_3) (by decide)) hk (fun _ h=>h.2)) (fun _ h=>h.1));have n1_:=Aside0.mk (KeepBut.blk hk (g':=gb349) (o:=.cells #[.int .i64 x350000_6,.int .i64 x350001_6,.string x350002_6,.slice none 0 0] 39 (0,0)) (gK BK349) NB349_0.out (by simp));have n2_:=Aside0.mk (Kd.R_mono (Kd.R_keep (IsS67.apart (show IsS67 w0 _ g s0_0 x1001_6 from by repeat (first|(with_reducible first|exact HI0.out|apply IsS67.alloc|apply IsS67.drewN|apply IsS67.drew|apply IsS67.set_1|refine IsS67.far ?_ NB0_349.out _)|exact HI0.out)) (gR HO368) (by decide)) hk (fun _ h=>h.2)) (fun _ h=>h.1));have n3_:=Aside0.mk (KeepBut.trans (by repeat (first|exact gW HK|apply KeepBut.set_|refine keep_far ?_ GW349.out _)) hk (.inl rfl));have n4_:=Aside0.mk (hb);have n5_:=Aside0.mk (hi);clear HO_3;clear BK349;clear HO368;clear HK;clear HB;clear HI0;have HO_3:=n0_;have BK349:=n1_;have HO368:=n2_;have HK:=n3_;have HB:=n4_;have HI0:=n5_;clear n0_ n1_ n2_ n3_ n4_ n5_;(try clear hb);(try clear hb2);(try clear hk);(try clear hi))|((with_reducible refine gate_callee (f:=82) rfl ?_);refine goesL_ (some 33) rfl rfl Try.func82 (by kernel_rfl) rfl #[.pointer (some ⟨g,0,none⟩),.int .i64 t369] rfl (by (try simp only [List.map_toArray,List.map_cons,List.map_nil]);first|done|rfl|(simp only [List.length_drop,List.length_take];rfl)) ?_;(with_reducible refine (spec_l1Some.calls kj6 g s0_0 t370 t369 t371 t372 t373 t374 t377 w0 _ ?side1 ?side2 A34.out).mono ?_);(case side1=>repeat (first|(with_reducible first|exact HI0.out|apply IsS67.alloc|apply IsS67.drewN|apply IsS67.drew|apply IsS67.set_1|refine IsS67.far ?_ NB0_349.out _)|exact HI0.out));(case side2=>repeat (first|exact gB HB|refine below_set ?_ (IsS67.ge HI0.out)|refine below_set ?_ GE349.out));rintro e w72 ⟨v375,rfl,ho0,hi,hb,hk⟩;refine ⟨_,rfl,?_⟩;have n0_:=Aside0.mk (Kd.R_mono (Kd.R_keep (IsS67.apart (show IsS67 w0 _ g s0_0 t370 from by repeat (first|(with_reducible first|exact HI0.out|apply IsS67.alloc|apply IsS67.drewN|apply IsS67.drew|apply IsS67.set_1|refine IsS67.far ?_ NB0_349.out _)|exact HI0.out)) (gR HO_3) (by decide)) hk (fun _ h=>h.2)) (fun _ h=>h.1));have n1_:=Aside0.mk (KeepBut.blk hk (g':=gb349) (o:=.cells #[.int .i64 x350000_6,.int .i64 x350001_6,.string x350002_6,.slice none 0 0] 39 (0,0)) (gK BK349) NB349_0.out (by simp));have n2_:=Aside0.mk (Kd.R_mono (Kd.R_keep (IsS67.apart (show IsS67 w0 _ g s0_0 t370 from by repeat (first|(with_reducible first|exact HI0.out|apply IsS67.alloc|apply IsS67.drewN|apply IsS67.drew|apply IsS67.set_1|refine IsS67.far ?_ NB0_349.out _)|exact HI0.out)) (gR HO368) (by decide)) hk (fun _ h=>h.2)) (fun _ h=>h.1));have n3_:=Aside0.mk (Kd.N_lower (Kd.N_mono (ok':=fun k_=>(w.heap.size≤k_)∧some k_ ≠ (v351:Value).ownBlock∧some k_ ≠ (.slice Ao70 y366.length co70:Value).ownBlock∧k_ ≠ gb349∧k_ ≠ g) ho0 (fun k_ hk_=>⟨(Nat.le_trans (keep_size (w:=w) (g:=g) (row:=none) (by repeat (first|exact gW HK|apply KeepBut.set_|refine keep_far ?_ GW349.out _))) hk_),(Kd.fresh' (Kd.R_lt (gR HO_3)) k_ hk_),(Kd.fresh' (Kd.R_lt (gR HO368)) k_ hk_),(Kd.freshB (g:=gb349) (o:=.cells #[.int .i64 x350000_6,.int .i64 x350001_6,.string x350002_6,.slice none 0 0] 39 (0,0)) (gK BK349) k_ hk_),(IsS67.fresh (by repeat (first|(with_reducible first|exact HI0.out|apply IsS67.alloc|apply IsS67.drewN|apply IsS67.drew|apply IsS67.set_1|refine IsS67.far ?_ NB0_349.out _)|exact HI0.out)) k_ hk_)⟩)) (keep_size (w:=w) (g:=g) (row:=none) (by repeat (first|exact gW HK|apply KeepBut.set_|refine keep_far ?_ GW349.out _))));have n4_:=Aside0.mk (KeepBut.trans (by repeat (first|exact gW HK|apply KeepBut.set_|refine keep_far ?_ GW349.out _)) hk (.inl rfl));have n5_:=Aside0.mk (hb);have n6_:=Aside0.mk (hi);clear HO_3;clear BK349;clear HO368;clear HK;clear HB;clear HI0;have HO_3:=n0_;have BK349:=n1_;have HO368:=n2_;have HO376:=n3_;have HK:=n4_;have HB:=n5_;have HI0:=n6_;clear n0_ n1_ n2_ n3_ n4_ n5_ n6_;(try clear hb);(try clear hb2);(try clear hk);(try clear hi);(try clear ho0))|((with_reducible refine gate_dst (N:=7) rfl ?_);refine box_event ?hg (N:=7) ?hd (cs:=#[.int .i64 0,.int .i64 0,.string (⟨#[]⟩:ByteArray),.slice none 0 0]) (t:=39) ?hr ?_;(case hd=>rfl);(case hg=>rfl);(case hr=>first|(go_simp;done)|(go_simp;rfl));intro gb378 hg w73 hbox hb;have n0_:=Aside0.mk (Kd.R_below (gR HO_3) hb);have n1_:=Aside0.mk (Kd.R_below (gR HO368) hb);have n2_:=Aside0.mk (Kd.N_below (Kd.N_elderB (gN HO376) gb378 (Nat.le_of_eq hg.symm)) hb);have n3_:=Aside0.mk (blk_below (g:=gb349) (o:=.cells #[.int .i64 x350000_6,.int .i64 x350001_6,.string x350002_6,.slice none 0 0] 39 (0,0)) (gK BK349) hb);have n4_:=Aside0.mk (IsS67.below (by repeat (first|(with_reducible first|exact HI0.out|apply IsS67.alloc|apply IsS67.drewN|apply IsS67.drew|apply IsS67.set_1|refine IsS67.far ?_ NB0_349.out _)|exact HI0.out)) hb);have n5_:=Aside0.mk (KeepBut.trans (by repeat (first|exact gW HK|apply KeepBut.set_|refine keep_far ?_ GW349.out _)) (KeepBut.of_below hb g none) (.inl rfl));have n6_:=Aside0.mk (below_step (by repeat (first|exact gB HB|refine below_set ?_ (IsS67.ge HI0.out)|refine below_set ?_ GE349.out)) hb);have n7_:=Aside0.mk (hbox);have n8_:=Aside0.mk ((by rw [hg];exact (keep_size (w:=w) (g:=g) (row:=none) (by repeat (first|exact gW HK|apply KeepBut.set_|refine keep_far ?_ GW349.out _))):w.heap.size≤gb378));have n9_:=Aside0.mk ((Nat.le_trans HW0.out (by rw [hg];exact (keep_size (w:=w) (g:=g) (row:=none) (by repeat (first|exact gW HK|apply KeepBut.set_|refine keep_far ?_ GW349.out _))):w.heap.size≤gb378):w0.heap.size≤gb378));have n10_:=Aside0.mk ((by rw [hg];exact Nat.ne_of_lt (blk_lt (g:=gb349) (o:=.cells #[.int .i64 x350000_6,.int .i64 x350001_6,.string x350002_6,.slice none 0 0] 39 (0,0)) (gK BK349)):gb349 ≠ gb378));have n11_:=Aside0.mk ((by rw [hg];exact Nat.ne_of_gt (blk_lt (g:=gb349) (o:=.cells #[.int .i64 x350000_6,.int .i64 x350001_6,.string x350002_6,.slice none 0 0] 39 (0,0)) (gK BK349)):gb378 ≠ gb349));have n12_:=Aside0.mk ((by rw [hg];exact Nat.ne_of_lt (IsS67.lt (show IsS67 w0 _ g s0_0 t377 from by repeat (first|(with_reducible first|exact HI0.out|apply IsS67.alloc|apply IsS67.drewN|apply IsS67.drew|apply IsS67.set_1|refine IsS67.far ?_ NB0_349.out _)|exact HI0.out))):g ≠ gb378));have n13_:=Aside0.mk ((by rw [hg];exact Nat.ne_of_gt (IsS67.lt (show IsS67 w0 _ g s0_0 t377 from by repeat (first|(with_reducible first|exact HI0.out|apply IsS67.alloc|apply IsS67.drewN|apply IsS67.drew|apply IsS67.set_1|refine IsS67.far ?_ NB0_349.out _)|exact HI0.out))):gb378 ≠ g));clear HO_3;clear HO368;clear HO376;clear BK349;clear HI0;clear HK;clear HB;have HO_3:=n0_;have HO368:=n1_;have HO376:=n2_;have BK349:=n3_;have HI0:=n4_;have HK:=n5_;have HB:=n6_;have BK378:=n7_;have GW378:=n8_;have GE378:=n9_;have NB349_378:=n10_;have NB378_349:=n11_;have NB0_378:=n12_;have NB378_0:=n13_;clear n0_ n1_ n2_ n3_ n4_ n5_ n6_ n7_ n8_ n9_ n10_ n11_ n12_ n13_;clear hb hbox hg;have hnb74:=NB378_349.out;have hnc74:=NB349_378.out;have hnb75:=NB378_0.out;have hnc75:=NB0_378.out;have hcz76_0:w73.cell? ⟨gb378,0,none⟩=some (.int .i64 0):=(blk_cell BK378.out 0).trans rfl;have hcz76_1:w73.cell? ⟨gb378,1,none⟩=some (.int .i64 0):=(blk_cell BK378.out 1).trans rfl;have hcz76_2:w73.cell? ⟨gb378,2,none⟩=some (.string (⟨#[]⟩:ByteArray)):=(blk_cell BK378.out 2).trans rfl;have hcz76_3:w73.cell? ⟨gb378,3,none⟩=some (.slice none 0 0):=(blk_cell BK378.out 3).trans rfl;have hfz76_0:=blk_frozen BK378.out 0;have hfz76_1:=blk_frozen BK378.out 1;have hfz76_2:=blk_frozen BK378.out 2;have hfz76_3:=blk_frozen BK378.out 3;obtain ⟨Ao77,co77,eo77⟩:=Kd.N_slice HO376.out;subst eo77)|((with_reducible refine gate_callee (f:=52) rfl ?_);refine goesL_ (some 35) rfl rfl Try.func52 (by kernel_rfl) rfl #[.agg #[.int .i64 t371,.int .i64 t372,.string t373,.slice Ao77 t374.length co77]] rfl (by (try simp only [List.map_toArray,List.map_cons,List.map_nil]);first|done|rfl|(simp only [List.length_drop,List.length_take];rfl)) ?_;(with_reducible refine (spec_DocValid.calls kj6 t371 t372 t373 _ _ t374 false _ ?side1 ?side2 A35.out).mono ?_);(case side1=>refine (Kd.N_reads' (e:=39) (base:=w.heap.size) (ok:=fun k_=>(((w.heap.size≤k_)∧(some k_ ≠ (v351:Value).ownBlock∧(some k_ ≠ (.slice Ao70 y366.length co70:Value).ownBlock∧(k_ ≠ gb349∧k_ ≠ g))))∧k_ ≠ gb378)) (n:=t374.length) (c:=co77) ?_).2.2;exact (by (with_reducible repeat (first|apply Kd.N_alloc|apply Kd.N_drewN|apply Kd.N_drew));exact (Kd.N_mono (Kd.N_far (p:=⟨gb378,3,none⟩) (Kd.N_far (p:=⟨gb378,2,none⟩) (Kd.N_far (p:=⟨gb378,1,none⟩) (Kd.N_far (p:=⟨gb378,0,none⟩) (Kd.N_mono HO376.out (fun k_ hk=>(⟨hk,hk.2⟩:_∧k_ ≠ gb378))) (fun _ hk=>hk.2) (.int .i64 t371)) (fun _ hk=>hk.2) (.int .i64 t372)) (fun _ hk=>hk.2) (.string t373)) (fun _ hk=>hk.2) (.slice Ao77 t374.length co77)) (fun _ h_=>h_.1))));(case side2=>exact (Kd.N_reads' HO376.out).2.1);rintro e w78 ⟨rfl,hb⟩;refine ⟨_,rfl,?_⟩;have n0_:=Aside0.mk (Kd.R_below (by (with_reducible repeat (first|apply Kd.R_alloc|apply Kd.R_drewN|apply Kd.R_drew));exact (Kd.R_mono (Kd.R_far (p:=⟨gb378,3,none⟩) (Kd.R_far (p:=⟨gb378,2,none⟩) (Kd.R_far (p:=⟨gb378,1,none⟩) (Kd.R_far (p:=⟨gb378,0,none⟩) (Kd.R_types HO_3.out BK378.out (by decide)) (fun _ hk=>hk.2) (.int .i64 t371)) (fun _ hk=>hk.2) (.int .i64 t372)) (fun _ hk=>hk.2) (.string t373)) (fun _ hk=>hk.2) (.slice Ao77 t374.length co77)) (fun _ h_=>h_.1))) hb);have n1_:=Aside0.mk (Kd.R_below (by (with_reducible repeat (first|apply Kd.R_alloc|apply Kd.R_drewN|apply Kd.R_drew));exact (Kd.R_mono (Kd.R_far (p:=⟨gb378,3,none⟩) (Kd.R_far (p:=⟨gb378,2,none⟩) (Kd.R_far (p:=⟨gb378,1,none⟩) (Kd.R_far (p:=⟨gb378,0,none⟩) (Kd.R_types HO368.out BK378.out (by decide)) (fun _ hk=>hk.2) (.int .i64 t371)) (fun _ hk=>hk.2) (.int .i64 t372)) (fun _ hk=>hk.2) (.string t373)) (fun _ hk=>hk.2) (.slice Ao77 t374.length co77)) (fun _ h_=>h_.1))) hb);have n2_:=Aside0.mk (Kd.N_below (by (with_reducible repeat (first|apply Kd.N_alloc|apply Kd.N_drewN|apply Kd.N_drew));exact (Kd.N_mono (Kd.N_far (p:=⟨gb378,3,none⟩) (Kd.N_far (p:=⟨gb378,2,none⟩) (Kd.N_far (p:=⟨gb378,1,none⟩) (Kd.N_far (p:=⟨gb378,0,none⟩) (Kd.N_mono HO376.out (fun k_ hk=>(⟨hk,hk.2⟩:_∧k_ ≠ gb378))) (fun _ hk=>hk.2) (.int .i64 t371)) (fun _ hk=>hk.2) (.int .i64 t372)) (fun _ hk=>hk.2) (.string t373)) (fun _ hk=>hk.2) (.slice Ao77 t374.length co77)) (fun _ h_=>h_.1))) hb);have n3_:=Aside0.mk (blk_below (g:=gb349) (o:=.cells #[.int .i64 x350000_6,.int .i64 x350001_6,.string x350002_6,.slice none 0 0] 39 (0,0)) (by (with_reducible repeat (first|refine blk_drewN ?_ _|refine blk_drew ?_|refine blk_alloc ?_ _));refine blk_far ?_ NB349_378.out _;(with_reducible repeat (first|refine blk_drewN ?_ _|refine blk_drew ?_|refine blk_alloc ?_ _));refine blk_far ?_ NB349_378.out _;(with_reducible repeat (first|refine blk_drewN ?_ _|refine blk_drew ?_|refine blk_alloc ?_ _));refine blk_far ?_ NB349_378.out _;(with_reducible repeat (first|refine blk_drewN ?_ _|refine blk_drew ?_|refine blk_alloc ?_ _));refine blk_far ?_ NB349_378.out _;(with_reducible repeat (first|refine blk_drewN ?_ _|refine blk_drew ?_|refine blk_alloc ?_ _));exact BK349.out) hb);have n4_:=Aside0.mk (IsS67.below (show IsS67 w0 ((((w73.setCell ⟨gb378,0,none⟩ (.int .i64 t371)).setCell ⟨gb378,1,none⟩ (.int .i64 t372)).setCell ⟨gb378,2,none⟩ (.string t373)).setCell ⟨gb378,3,none⟩ (.slice Ao77 t374.length co77)) g s0_0 t377 from by repeat (first|(with_reducible first|exact HI0.out|apply IsS67.alloc|apply IsS67.drewN|apply IsS67.drew|apply IsS67.set_1|refine IsS67.far ?_ NB0_349.out _|refine IsS67.far ?_ NB0_378.out _)|exact HI0.out)) hb);have n5_:=Aside0.mk (blk_below (g:=gb378) (o:=.cells #[.int .i64 t371,.int .i64 t372,.string t373,.slice Ao77 t374.length co77] 39 (0,0)) (by (with_reducible repeat (first|refine blk_drewN ?_ _|refine blk_drew ?_|refine blk_alloc ?_ _));refine blk_put (cs:=#[.int .i64 t371,.int .i64 t372,.string t373,.slice none 0 0]) ?_ 3 _ rfl;(with_reducible repeat (first|refine blk_drewN ?_ _|refine blk_drew ?_|refine blk_alloc ?_ _));refine blk_put (cs:=#[.int .i64 t371,.int .i64 t372,.string (⟨#[]⟩:ByteArray),.slice none 0 0]) ?_ 2 _ rfl;(with_reducible repeat (first|refine blk_drewN ?_ _|refine blk_drew ?_|refine blk_alloc ?_ _));refine blk_put (cs:=#[.int .i64 t371,.int .i64 0,.string (⟨#[]⟩:ByteArray),.slice none 0 0]) ?_ 1 _ rfl;(with_reducible repeat (first|refine blk_drewN ?_ _|refine blk_drew ?_|refine blk_alloc ?_ _));refine blk_put (cs:=#[.int .i64 0,.int .i64 0,.string (⟨#[]⟩:ByteArray),.slice none 0 0]) ?_ 0 _ rfl;(with_reducible repeat (first|refine blk_drewN ?_ _|refine blk_drew ?_|refine blk_alloc ?_ _));exact BK378.out) hb);have n6_:=Aside0.mk (KeepBut.trans (by repeat (first|exact gW HK|apply KeepBut.set_|refine keep_far ?_ GW349.out _|refine keep_far ?_ GW378.out _)) (KeepBut.of_below hb g none) (.inl rfl));have n7_:=Aside0.mk (below_step (by repeat (first|exact gB HB|refine below_set ?_ (IsS67.ge HI0.out)|refine below_set ?_ GE349.out|refine below_set ?_ GE378.out)) hb);clear HO_3;clear HO368;clear HO376;clear BK349;clear HI0;clear BK378;clear HK;clear HB;have HO_3:=n0_;have HO368:=n1_;have HO376:=n2_;have BK349:=n3_;have HI0:=n4_;have BK378:=n5_;have HK:=n6_;have HB:=n7_;clear n0_ n1_ n2_ n3_ n4_ n5_ n6_ n7_;(try clear hb);(try clear hb2);(try clear hk);(try clear hi)))
       go_roundg kj6
       case measure=>have:=HK1.out;have:=HJ6.out;omega
       case rel=>exact ⟨(wrap64 (x4_1+1)),(t377),(x350000_6),(x350001_6),(x350002_6),(by first|rfl|(simp;done)|(simp [*];done)),H',⟨by have:=HK1.out;have:=HJ6.out;omega⟩,⟨gR HO_3⟩,⟨gK BK349⟩,⟨by repeat (first|(with_reducible first|exact HI0.out|apply IsS67.alloc|apply IsS67.drewN|apply IsS67.drew|apply IsS67.set_1|refine IsS67.far ?_ NB0_349.out _|refine IsS67.far ?_ NB0_378.out _)|exact HI0.out)⟩,⟨by repeat (first|exact gW HK|apply KeepBut.set_|refine keep_far ?_ GW349.out _|refine keep_far ?_ GW378.out _)⟩,⟨by repeat (first|exact gB HB|refine below_set ?_ (IsS67.ge HI0.out)|refine below_set ?_ GE349.out|refine below_set ?_ GE378.out)⟩⟩
   ·rw [if_neg c5] at H
    have c5b0:decide (x4_1 < 3)=false:=decide_eq_false c5
    clear c5
    replace H:=Option.bind_eq_some_iff.mp H
    obtain ⟨⟨t381,t382,t383,t384,t387⟩,A790,H⟩:=H
    replace H:(some (t381,t382,t383,t384,t387))=some (r1,r2,r3,r4,r5):=H
    have A79:=Aside0.mk A790
    clear A790
    simp only [Option.some.injEq,Prod.mk.injEq] at H
    obtain ⟨rfl,rfl,rfl,rfl,rfl⟩:=H
    go_wp2_with (first|((with_reducible refine gate_callee (f:=82) rfl ?_);refine goesL_ (some 43) rfl rfl Try.func82 (by kernel_rfl) rfl #[.pointer (some ⟨g,0,none⟩),.int .i64 2] rfl (by (try simp only [List.map_toArray,List.map_cons,List.map_nil]);first|done|rfl|(simp only [List.length_drop,List.length_take];rfl)) ?_;(with_reducible refine (spec_l1Some.calls k1 g s0_0 x1001_1 2 t381 t382 t383 t384 t387 w0 _ ?side1 ?side2 A79.out).mono ?_);(case side1=>repeat (first|(with_reducible first|exact HI0.out|apply IsS67.alloc|apply IsS67.drewN|apply IsS67.drew|apply IsS67.set_1|refine IsS67.far ?_ NB0_349.out _)|exact HI0.out));(case side2=>repeat (first|exact gB HB|refine below_set ?_ (IsS67.ge HI0.out)|refine below_set ?_ GE349.out));rintro e w80 ⟨v385,rfl,ho0,hi,hb,hk⟩;refine ⟨_,rfl,?_⟩;have n0_:=Aside0.mk (Kd.R_mono (Kd.R_keep (IsS67.apart (show IsS67 w0 _ g s0_0 x1001_1 from by repeat (first|(with_reducible first|exact HI0.out|apply IsS67.alloc|apply IsS67.drewN|apply IsS67.drew|apply IsS67.set_1|refine IsS67.far ?_ NB0_349.out _)|exact HI0.out)) (gR HO_3) (by decide)) hk (fun _ h=>h.2)) (fun _ h=>h.1));have n1_:=Aside0.mk (KeepBut.blk hk (g':=gb349) (o:=.cells #[.int .i64 x350000_1,.int .i64 x350001_1,.string x350002_1,.slice none 0 0] 39 (0,0)) (gK BK349) NB349_0.out (by simp));have n2_:=Aside0.mk (Kd.N_lower (Kd.N_mono (ok':=fun k_=>(w.heap.size≤k_)∧some k_ ≠ (v351:Value).ownBlock∧k_ ≠ gb349∧k_ ≠ g) ho0 (fun k_ hk_=>⟨(Nat.le_trans (keep_size (w:=w) (g:=g) (row:=none) (by repeat (first|exact gW HK|apply KeepBut.set_|refine keep_far ?_ GW349.out _))) hk_),(Kd.fresh' (Kd.R_lt (gR HO_3)) k_ hk_),(Kd.freshB (g:=gb349) (o:=.cells #[.int .i64 x350000_1,.int .i64 x350001_1,.string x350002_1,.slice none 0 0] 39 (0,0)) (gK BK349) k_ hk_),(IsS67.fresh (by repeat (first|(with_reducible first|exact HI0.out|apply IsS67.alloc|apply IsS67.drewN|apply IsS67.drew|apply IsS67.set_1|refine IsS67.far ?_ NB0_349.out _)|exact HI0.out)) k_ hk_)⟩)) (keep_size (w:=w) (g:=g) (row:=none) (by repeat (first|exact gW HK|apply KeepBut.set_|refine keep_far ?_ GW349.out _))));have n3_:=Aside0.mk (KeepBut.trans (by repeat (first|exact gW HK|apply KeepBut.set_|refine keep_far ?_ GW349.out _)) hk (.inl rfl));have n4_:=Aside0.mk (hb);have n5_:=Aside0.mk (hi);clear HO_3;clear BK349;clear HK;clear HB;clear HI0;have HO_3:=n0_;have BK349:=n1_;have HO386:=n2_;have HK:=n3_;have HB:=n4_;have HI0:=n5_;clear n0_ n1_ n2_ n3_ n4_ n5_;(try clear hb);(try clear hb2);(try clear hk);(try clear hi);(try clear ho0);have hnb81:=NB349_0.out;have hnc81:=NB0_349.out;have hcz82_0:w80.cell? ⟨gb349,0,none⟩=some (.int .i64 x350000_1):=(blk_cell BK349.out 0).trans rfl;have hcz82_1:w80.cell? ⟨gb349,1,none⟩=some (.int .i64 x350001_1):=(blk_cell BK349.out 1).trans rfl;have hcz82_2:w80.cell? ⟨gb349,2,none⟩=some (.string x350002_1):=(blk_cell BK349.out 2).trans rfl;have hcz82_3:w80.cell? ⟨gb349,3,none⟩=some (.slice none 0 0):=(blk_cell BK349.out 3).trans rfl;have hfz82_0:=blk_frozen BK349.out 0;have hfz82_1:=blk_frozen BK349.out 1;have hfz82_2:=blk_frozen BK349.out 2;have hfz82_3:=blk_frozen BK349.out 3;obtain ⟨Ao83,co83,eo83⟩:=Kd.N_slice HO386.out;subst eo83))
    refine bodyPost_ret (results_cell_row rfl _ _ gb349 39 #[.int .i64 t381,.int .i64 t382,.string t383,.slice Ao83 t384.length co83] (0,0) _ rfl (by (with_reducible repeat (first|refine blk_drewN ?_ _|refine blk_drew ?_|refine blk_alloc ?_ _));refine blk_put (cs:=#[.int .i64 t381,.int .i64 t382,.string t383,.slice none 0 0]) ?_ 3 _ rfl;(with_reducible repeat (first|refine blk_drewN ?_ _|refine blk_drew ?_|refine blk_alloc ?_ _));refine blk_put (cs:=#[.int .i64 t381,.int .i64 t382,.string x350002_1,.slice none 0 0]) ?_ 2 _ rfl;(with_reducible repeat (first|refine blk_drewN ?_ _|refine blk_drew ?_|refine blk_alloc ?_ _));refine blk_put (cs:=#[.int .i64 t381,.int .i64 x350001_1,.string x350002_1,.slice none 0 0]) ?_ 1 _ rfl;(with_reducible repeat (first|refine blk_drewN ?_ _|refine blk_drew ?_|refine blk_alloc ?_ _));refine blk_put (cs:=#[.int .i64 x350000_1,.int .i64 x350001_1,.string x350002_1,.slice none 0 0]) ?_ 0 _ rfl;(with_reducible repeat (first|refine blk_drewN ?_ _|refine blk_drew ?_|refine blk_alloc ?_ _));exact BK349.out) Try.underlying39 rfl (by kernel_rfl)) rfl ?_
    exact ⟨_,by first|rfl|(simp [errW_none,errW_some] <;> rfl)|(simp [*,errW_none,errW_some] <;> rfl),by (with_reducible repeat (first|apply Kd.N_alloc|apply Kd.N_drewN|apply Kd.N_drew));exact Kd.N_mono (Kd.N_far (p:=⟨gb349,3,none⟩) (Kd.N_far (p:=⟨gb349,2,none⟩) (Kd.N_far (p:=⟨gb349,1,none⟩) (Kd.N_far (p:=⟨gb349,0,none⟩) (Kd.N_mono HO386.out (fun k_ hk=>(⟨hk,hk.2.2.1⟩:_∧k_ ≠ gb349))) (fun _ hk=>hk.2) (.int .i64 t381)) (fun _ hk=>hk.2) (.int .i64 t382)) (fun _ hk=>hk.2) (.string t383)) (fun _ hk=>hk.2) (.slice Ao83 t384.length co83)) (fun _ hk=>hk.1.1),by repeat (first|(with_reducible first|exact HI0.out|apply IsS67.alloc|apply IsS67.drewN|apply IsS67.drew|apply IsS67.set_1|refine IsS67.far ?_ NB0_349.out _)|exact HI0.out),by repeat (first|exact gB HB|refine below_set ?_ (IsS67.ge HI0.out)|refine below_set ?_ GE349.out),by repeat (first|exact gW HK|apply KeepBut.set_|refine keep_far ?_ GW349.out _)⟩
end Go.Proofs.Ytdhdfmmefghijab.P
namespace Go.Proofs.Ytdhdfmmefghijab.P
open Go.RowKit Go.Proofs.YtdhdfmmefghijabW.PrintWords Go.Proofs.YtdhdfmmefghijabW.PrintLast Go.Proofs.YtdhdfmmefghijabW.PrintMore
attribute [local go_sem] max2_int min2_int max_two min_two max_three min_three max_four min_four
set_option linter.unusedVariables false
set_option linter.unusedSimpArgs false
def spec_l2Draw.f (k:Nat) (s0_0:List Int) (s0_1:Int):Option ((List (SRow)) × Int):=(spec_l1Draw.f k s0_0 s0_1).bind fun bt388=>((spec_l2Open.f k bt388.1 bt388.2.1 bt388.2.2.1 bt388.2.2.2.1).bind fun t395=>((spec_l15Rd_pick.f k s0_0 bt388.2.2.2.2 (t395.length:Int)).bind fun bt398=>((spec_l15Rd_pick.f k s0_0 bt398.2 16).bind fun bt400=>(if bt400.1=0 then ((spec_l15Rd_num.f k s0_0 bt400.2 (([(-1),401,3]:List Int))).bind fun bt405=>(if 0≤bt398.1 then (if bt398.1 < (t395.length:Int) then (some ((t395.set (bt398.1:Int).toNat (⟨bt405.1,(rd_TRow t395 bt398.1).f1⟩:SRow)),bt405.2)) else (none)) else (none))) else (if bt400.1=1 then ((spec_l15Rd_of.f k s0_0 bt400.2 (([(⟨#[65]⟩:ByteArray),(⟨#[97,32,98]⟩:ByteArray),(⟨#[120,10]⟩:ByteArray),(⟨#[]⟩:ByteArray)]:List ByteArray))).bind fun bt411=>(if 0≤bt398.1 then (if bt398.1 < (t395.length:Int) then (some ((t395.set (bt398.1:Int).toNat (⟨(rd_TRow t395 bt398.1).f0,bt411.1⟩:SRow)),bt411.2)) else (none)) else (none))) else (if bt400.1=2 then (if 0≤(t395.length:Int) then (some ((t395.take (0:Int).toNat),bt400.2)) else (none)) else (some (t395,bt400.2))))))))
set_option maxHeartbeats 8000000 in
set_option maxRecDepth 100000 in
theorem spec_l2Draw.calls (k:Nat) (g:Nat) (s0_0:List Int) (s0_1:Int) (r1:List (SRow)) (r2:Int) (w0 w:World) (hI:IsS67 w0 w g s0_0 s0_1) (hB:Below w0.heap.size w0 w) (h:spec_l2Draw.f k s0_0 s0_1=some (r1,r2)) :
  Calls Try.prog 41 #[.pointer (some ⟨g,0,none⟩)] w fun e w'=>∃ v0_:Value,e=.returned (v0_)∧Kd.R k30 30 w' w.heap.size (fun _=>True) v0_ r1∧IsS67 w0 w' g s0_0 r2∧Below w0.heap.size w0 w'∧KeepBut w w' g none:=by
 have HI0:=Aside0.mk hI
 have HK:=Aside0.mk (KeepBut.refl w g none)
 have HL:=Aside0.mk hB.size
 clear hI
 have HW0:=Aside0.mk hB.size
 have HB:=Aside0.mk hB
 clear hB
 have H:((spec_l1Draw.f k s0_0 s0_1).bind fun bt388=>((spec_l2Open.f k bt388.1 bt388.2.1 bt388.2.2.1 bt388.2.2.2.1).bind fun t395=>((spec_l15Rd_pick.f k s0_0 bt388.2.2.2.2 (t395.length:Int)).bind fun bt398=>((spec_l15Rd_pick.f k s0_0 bt398.2 16).bind fun bt400=>(if bt400.1=0 then ((spec_l15Rd_num.f k s0_0 bt400.2 (([(-1),401,3]:List Int))).bind fun bt405=>(if 0≤bt398.1 then (if bt398.1 < (t395.length:Int) then (some ((t395.set (bt398.1:Int).toNat (⟨bt405.1,(rd_TRow t395 bt398.1).f1⟩:SRow)),bt405.2)) else (none)) else (none))) else (if bt400.1=1 then ((spec_l15Rd_of.f k s0_0 bt400.2 (([(⟨#[65]⟩:ByteArray),(⟨#[97,32,98]⟩:ByteArray),(⟨#[120,10]⟩:ByteArray),(⟨#[]⟩:ByteArray)]:List ByteArray))).bind fun bt411=>(if 0≤bt398.1 then (if bt398.1 < (t395.length:Int) then (some ((t395.set (bt398.1:Int).toNat (⟨(rd_TRow t395 bt398.1).f0,bt411.1⟩:SRow)),bt411.2)) else (none)) else (none))) else (if bt400.1=2 then (if 0≤(t395.length:Int) then (some ((t395.take (0:Int).toNat),bt400.2)) else (none)) else (some (t395,bt400.2)))))))))=some (r1,r2):=h
 clear h
 replace H:=Option.bind_eq_some_iff.mp H
 obtain ⟨⟨t388,t389,t390,t391,t394⟩,A20,H⟩:=H
 replace H:((spec_l2Open.f k t388 t389 t390 t391).bind fun t395=>((spec_l15Rd_pick.f k s0_0 t394 (t395.length:Int)).bind fun bt398=>((spec_l15Rd_pick.f k s0_0 bt398.2 16).bind fun bt400=>(if bt400.1=0 then ((spec_l15Rd_num.f k s0_0 bt400.2 (([(-1),401,3]:List Int))).bind fun bt405=>(if 0≤bt398.1 then (if bt398.1 < (t395.length:Int) then (some ((t395.set (bt398.1:Int).toNat (⟨bt405.1,(rd_TRow t395 bt398.1).f1⟩:SRow)),bt405.2)) else (none)) else (none))) else (if bt400.1=1 then ((spec_l15Rd_of.f k s0_0 bt400.2 (([(⟨#[65]⟩:ByteArray),(⟨#[97,32,98]⟩:ByteArray),(⟨#[120,10]⟩:ByteArray),(⟨#[]⟩:ByteArray)]:List ByteArray))).bind fun bt411=>(if 0≤bt398.1 then (if bt398.1 < (t395.length:Int) then (some ((t395.set (bt398.1:Int).toNat (⟨(rd_TRow t395 bt398.1).f0,bt411.1⟩:SRow)),bt411.2)) else (none)) else (none))) else (if bt400.1=2 then (if 0≤(t395.length:Int) then (some ((t395.take (0:Int).toNat),bt400.2)) else (none)) else (some (t395,bt400.2))))))))=some (r1,r2):=H
 have A2:=Aside0.mk A20
 clear A20
 replace H:=Option.bind_eq_some_iff.mp H
 obtain ⟨t395,A30,H⟩:=H
 replace H:((spec_l15Rd_pick.f k s0_0 t394 (t395.length:Int)).bind fun bt398=>((spec_l15Rd_pick.f k s0_0 bt398.2 16).bind fun bt400=>(if bt400.1=0 then ((spec_l15Rd_num.f k s0_0 bt400.2 (([(-1),401,3]:List Int))).bind fun bt405=>(if 0≤bt398.1 then (if bt398.1 < (t395.length:Int) then (some ((t395.set (bt398.1:Int).toNat (⟨bt405.1,(rd_TRow t395 bt398.1).f1⟩:SRow)),bt405.2)) else (none)) else (none))) else (if bt400.1=1 then ((spec_l15Rd_of.f k s0_0 bt400.2 (([(⟨#[65]⟩:ByteArray),(⟨#[97,32,98]⟩:ByteArray),(⟨#[120,10]⟩:ByteArray),(⟨#[]⟩:ByteArray)]:List ByteArray))).bind fun bt411=>(if 0≤bt398.1 then (if bt398.1 < (t395.length:Int) then (some ((t395.set (bt398.1:Int).toNat (⟨(rd_TRow t395 bt398.1).f0,bt411.1⟩:SRow)),bt411.2)) else (none)) else (none))) else (if bt400.1=2 then (if 0≤(t395.length:Int) then (some ((t395.take (0:Int).toNat),bt400.2)) else (none)) else (some (t395,bt400.2)))))))=some (r1,r2):=H
 have A3:=Aside0.mk A30
 clear A30
 replace H:=Option.bind_eq_some_iff.mp H
 obtain ⟨⟨t398,t399⟩,A40,H⟩:=H
 replace H:((spec_l15Rd_pick.f k s0_0 t399 16).bind fun bt400=>(if bt400.1=0 then ((spec_l15Rd_num.f k s0_0 bt400.2 (([(-1),401,3]:List Int))).bind fun bt405=>(if 0≤t398 then (if t398 < (t395.length:Int) then (some ((t395.set (t398:Int).toNat (⟨bt405.1,(rd_TRow t395 t398).f1⟩:SRow)),bt405.2)) else (none)) else (none))) else (if bt400.1=1 then ((spec_l15Rd_of.f k s0_0 bt400.2 (([(⟨#[65]⟩:ByteArray),(⟨#[97,32,98]⟩:ByteArray),(⟨#[120,10]⟩:ByteArray),(⟨#[]⟩:ByteArray)]:List ByteArray))).bind fun bt411=>(if 0≤t398 then (if t398 < (t395.length:Int) then (some ((t395.set (t398:Int).toNat (⟨(rd_TRow t395 t398).f0,bt411.1⟩:SRow)),bt411.2)) else (none)) else (none))) else (if bt400.1=2 then (if 0≤(t395.length:Int) then (some ((t395.take (0:Int).toNat),bt400.2)) else (none)) else (some (t395,bt400.2))))))=some (r1,r2):=H
 have A4:=Aside0.mk A40
 clear A40
 replace H:=Option.bind_eq_some_iff.mp H
 obtain ⟨⟨t400,t401⟩,A50,H⟩:=H
 replace H:(if t400=0 then ((spec_l15Rd_num.f k s0_0 t401 (([(-1),401,3]:List Int))).bind fun bt405=>(if 0≤t398 then (if t398 < (t395.length:Int) then (some ((t395.set (t398:Int).toNat (⟨bt405.1,(rd_TRow t395 t398).f1⟩:SRow)),bt405.2)) else (none)) else (none))) else (if t400=1 then ((spec_l15Rd_of.f k s0_0 t401 (([(⟨#[65]⟩:ByteArray),(⟨#[97,32,98]⟩:ByteArray),(⟨#[120,10]⟩:ByteArray),(⟨#[]⟩:ByteArray)]:List ByteArray))).bind fun bt411=>(if 0≤t398 then (if t398 < (t395.length:Int) then (some ((t395.set (t398:Int).toNat (⟨(rd_TRow t395 t398).f0,bt411.1⟩:SRow)),bt411.2)) else (none)) else (none))) else (if t400=2 then (if 0≤(t395.length:Int) then (some ((t395.take (0:Int).toNat),t401)) else (none)) else (some (t395,t401)))))=some (r1,r2):=H
 have A5:=Aside0.mk A50
 clear A50
 by_cases c6:t400=0
 ·rw [if_pos c6] at H
  have c6b0:(t400 == 0)=true:=beq_iff_eq.mpr c6
  have c6b1:(t400 != 0)=false:=bne_eq_false_iff_eq.mpr c6
  clear c6
  obtain ⟨y402,hy402⟩:∃ y_:List Int,y_=(([(-1),401,3]:List Int)):=⟨_,rfl⟩
  replace H:((spec_l15Rd_num.f k s0_0 t401 y402).bind fun bt405=>(if 0≤t398 then (if t398 < (t395.length:Int) then (some ((t395.set (t398:Int).toNat (⟨bt405.1,(rd_TRow t395 t398).f1⟩:SRow)),bt405.2)) else (none)) else (none)))=some (r1,r2):=by first|(rw [hy402];with_reducible exact H)|(have H2_:=(Option.bind_some _ _).symm.trans H;rw [hy402];with_reducible exact H2_)|(have H2_:=(Option.bind_some _ _).symm.trans H;with_reducible exact H2_)|with_reducible exact H|(rw [hy402];exact H)|exact H
  have Ny402:=Aside0.mk hy402
  clear hy402
  replace H:=Option.bind_eq_some_iff.mp H
  obtain ⟨⟨t405,t406⟩,A70,H⟩:=H
  replace H:(if 0≤t398 then (if t398 < (t395.length:Int) then (some ((t395.set (t398:Int).toNat (⟨t405,(rd_TRow t395 t398).f1⟩:SRow)),t406)) else (none)) else (none))=some (r1,r2):=H
  have A7:=Aside0.mk A70
  clear A70
  by_cases c8:0≤t398
  ·rw [if_pos c8] at H
   have c8b0:decide (0≤t398)=true:=decide_eq_true c8
   clear c8
   by_cases c9:t398 < (t395.length:Int)
   ·rw [if_pos c9] at H
    have c9b0:decide (t398 < (t395.length:Int))=true:=decide_eq_true c9
    clear c9
    obtain ⟨y407,hy407⟩:∃ y_:List (SRow),y_=(t395.set (t398:Int).toNat (⟨t405,(rd_TRow t395 t398).f1⟩:SRow)):=⟨_,rfl⟩
    replace H:(some (y407,t406))=some (r1,r2):=by first|(rw [hy407];with_reducible exact H)|(have H2_:=(Option.bind_some _ _).symm.trans H;rw [hy407];with_reducible exact H2_)|(have H2_:=(Option.bind_some _ _).symm.trans H;with_reducible exact H2_)|with_reducible exact H|(rw [hy407];exact H)|exact H
    have Ny407:=Aside0.mk hy407
    clear hy407
    simp only [Option.some.injEq,Prod.mk.injEq] at H
    obtain ⟨rfl,rfl⟩:=H
    go_enter Try.func41,Try.ntmps41
    go_wp2_with (first|((with_reducible refine gate_callee (f:=65) rfl ?_);refine goesL_ (some 6) rfl rfl Try.func65 (by kernel_rfl) rfl #[.pointer (some ⟨g,0,none⟩)] rfl (by (try simp only [List.map_toArray,List.map_cons,List.map_nil]);first|done|rfl|(simp only [List.length_drop,List.length_take];rfl)) ?_;(with_reducible refine (spec_l1Draw.calls k g s0_0 s0_1 t388 t389 t390 t391 t394 w0 _ ?side1 ?side2 A2.out).mono ?_);(case side1=>repeat (first|(with_reducible first|exact HI0.out|apply IsS67.alloc|apply IsS67.drewN|apply IsS67.drew|apply IsS67.set_1)|exact HI0.out));(case side2=>repeat (first|exact gB HB|refine below_set ?_ (IsS67.ge HI0.out)));rintro e w11 ⟨v392,rfl,ho0,hi,hb,hk⟩;refine ⟨_,rfl,?_⟩;have n0_:=Aside0.mk (Kd.N_lower (Kd.N_mono (ok':=fun k_=>k_ ≠ g) ho0 (fun k_ hk_=>(IsS67.fresh (by repeat (first|(with_reducible first|exact HI0.out|apply IsS67.alloc|apply IsS67.drewN|apply IsS67.drew|apply IsS67.set_1)|exact HI0.out)) k_ hk_))) (keep_size (w:=w) (g:=g) (row:=none) (by repeat (first|exact gW HK|apply KeepBut.set_))));have n1_:=Aside0.mk (KeepBut.trans (by repeat (first|exact gW HK|apply KeepBut.set_)) hk (.inl rfl));have n2_:=Aside0.mk (hb);have n3_:=Aside0.mk (hi);clear HK;clear HB;clear HI0;have HO393:=n0_;have HK:=n1_;have HB:=n2_;have HI0:=n3_;clear n0_ n1_ n2_ n3_;(try clear hb);(try clear hb2);(try clear hk);(try clear hi);(try clear ho0);obtain ⟨Ao12,co12,eo12⟩:=Kd.N_slice HO393.out;subst eo12)|((with_reducible refine gate_callee (f:=53) rfl ?_);refine goesL_ (some 7) rfl rfl Try.func53 (by kernel_rfl) rfl #[.agg #[.int .i64 t388,.int .i64 t389,.string t390,.slice Ao12 t391.length co12]] rfl (by (try simp only [List.map_toArray,List.map_cons,List.map_nil]);first|done|rfl|(simp only [List.length_drop,List.length_take];rfl)) ?_;(with_reducible refine (spec_l2Open.calls k t388 t389 t390 _ _ t391 t395 _ ?side1 ?side2 A3.out).mono ?_);(case side1=>exact gC ((Kd.N_reads' HO393.out).2.2));(case side2=>exact (Kd.N_reads' HO393.out).2.1);rintro e w13 ⟨v396,rfl,ho0,hb⟩;refine ⟨_,rfl,?_⟩;have n0_:=Aside0.mk (Kd.N_elder' (gN HO393) (Kd.R_base ho0) hb);have n1_:=Aside0.mk (Kd.R_lower ho0 (keep_size (w:=w) (g:=g) (row:=none) (by repeat (first|exact gW HK|apply KeepBut.set_))));have n2_:=Aside0.mk (IsS67.below (by repeat (first|(with_reducible first|exact HI0.out|apply IsS67.alloc|apply IsS67.drewN|apply IsS67.drew|apply IsS67.set_1)|exact HI0.out)) hb);have n3_:=Aside0.mk (KeepBut.trans (by repeat (first|exact gW HK|apply KeepBut.set_)) (KeepBut.of_below hb g none) (.inl rfl));have n4_:=Aside0.mk (below_step (by repeat (first|exact gB HB|refine below_set ?_ (IsS67.ge HI0.out))) hb);clear HO393;clear HI0;clear HK;clear HB;have HO393:=n0_;have HO397:=n1_;have HI0:=n2_;have HK:=n3_;have HB:=n4_;clear n0_ n1_ n2_ n3_ n4_;(try clear hb);(try clear hb2);(try clear hk);(try clear hi);(try clear ho0);obtain ⟨Ao14,co14,eo14⟩:=Kd.R_slice HO397.out;subst eo14)|((with_reducible refine gate_callee (f:=54) rfl ?_);refine goesL_ (some 11) rfl rfl Try.func54 (by kernel_rfl) rfl #[.pointer (some ⟨g,0,none⟩),.int .i64 (t395.length:Int)] rfl (by (try simp only [List.map_toArray,List.map_cons,List.map_nil]);first|done|rfl|(simp only [List.length_drop,List.length_take];rfl)) ?_;(with_reducible refine (spec_l15Rd_pick.calls k g s0_0 t394 (t395.length:Int) t398 t399 w0 _ ?side1 ?side2 A4.out).mono ?_);(case side1=>repeat (first|(with_reducible first|exact HI0.out|apply IsS67.alloc|apply IsS67.drewN|apply IsS67.drew|apply IsS67.set_1)|exact HI0.out));(case side2=>repeat (first|exact gB HB|refine below_set ?_ (IsS67.ge HI0.out)));rintro e w15 ⟨rfl,hi,hb,hk⟩;refine ⟨_,rfl,?_⟩;have n0_:=Aside0.mk (Kd.N_mono (Kd.N_keep (Kd.N_mono (ok:=fun k_=>(k_ ≠ g∧some k_ ≠ (.slice Ao14 t395.length co14:Value).ownBlock)) (gN HO393) (fun k_ hk_=>(⟨hk_,hk_.1⟩:_∧k_ ≠ g))) hk (fun _ h=>h.2)) (fun _ h=>h.1));have n1_:=Aside0.mk (Kd.R_mono (Kd.R_keep (IsS67.apart (show IsS67 w0 _ g s0_0 t394 from by repeat (first|(with_reducible first|exact HI0.out|apply IsS67.alloc|apply IsS67.drewN|apply IsS67.drew|apply IsS67.set_1)|exact HI0.out)) (gR HO397) (by decide)) hk (fun _ h=>h.2)) (fun _ h=>h.1));have n2_:=Aside0.mk (KeepBut.trans (by repeat (first|exact gW HK|apply KeepBut.set_)) hk (.inl rfl));have n3_:=Aside0.mk (hb);have n4_:=Aside0.mk (hi);clear HO393;clear HO397;clear HK;clear HB;clear HI0;have HO393:=n0_;have HO397:=n1_;have HK:=n2_;have HB:=n3_;have HI0:=n4_;clear n0_ n1_ n2_ n3_ n4_;(try clear hb);(try clear hb2);(try clear hk);(try clear hi))|((with_reducible refine gate_callee (f:=54) rfl ?_);refine goesL_ (some 13) rfl rfl Try.func54 (by kernel_rfl) rfl #[.pointer (some ⟨g,0,none⟩),.int .i64 16] rfl (by (try simp only [List.map_toArray,List.map_cons,List.map_nil]);first|done|rfl|(simp only [List.length_drop,List.length_take];rfl)) ?_;(with_reducible refine (spec_l15Rd_pick.calls k g s0_0 t399 16 t400 t401 w0 _ ?side1 ?side2 A5.out).mono ?_);(case side1=>repeat (first|(with_reducible first|exact HI0.out|apply IsS67.alloc|apply IsS67.drewN|apply IsS67.drew|apply IsS67.set_1)|exact HI0.out));(case side2=>repeat (first|exact gB HB|refine below_set ?_ (IsS67.ge HI0.out)));rintro e w16 ⟨rfl,hi,hb,hk⟩;refine ⟨_,rfl,?_⟩;have n0_:=Aside0.mk (Kd.N_mono (Kd.N_keep (Kd.N_mono (ok:=fun k_=>(k_ ≠ g∧some k_ ≠ (.slice Ao14 t395.length co14:Value).ownBlock)) (gN HO393) (fun k_ hk_=>(⟨hk_,hk_.1⟩:_∧k_ ≠ g))) hk (fun _ h=>h.2)) (fun _ h=>h.1));have n1_:=Aside0.mk (Kd.R_mono (Kd.R_keep (IsS67.apart (show IsS67 w0 _ g s0_0 t399 from by repeat (first|(with_reducible first|exact HI0.out|apply IsS67.alloc|apply IsS67.drewN|apply IsS67.drew|apply IsS67.set_1)|exact HI0.out)) (gR HO397) (by decide)) hk (fun _ h=>h.2)) (fun _ h=>h.1));have n2_:=Aside0.mk (KeepBut.trans (by repeat (first|exact gW HK|apply KeepBut.set_)) hk (.inl rfl));have n3_:=Aside0.mk (hb);have n4_:=Aside0.mk (hi);clear HO393;clear HO397;clear HK;clear HB;clear HI0;have HO393:=n0_;have HO397:=n1_;have HK:=n2_;have HB:=n3_;have HI0:=n4_;clear n0_ n1_ n2_ n3_ n4_;(try clear hb);(try clear hb2);(try clear hk);(try clear hi))|((with_reducible refine gate_dst (N:=19) rfl ?_);refine Kd.R_lit (Kd.int .i64) _ 3 ?hg (N:=19) ?hd (xs:=([(-1),401,3]:List Int)) (inner:=[.int .i64 (-1),.int .i64 401,.int .i64 3]) (ok:=fun _=>True) (okp:=fun _=>True) ?hr ?hp (fun _ hk=>hk) trivial (Below.refl _ _) (Nat.le_refl _) (by simp) ?_;(case hd=>rfl);(case hg=>rfl);(case hr=>first|(go_simp;done)|(go_simp;rfl));(case hp=>exact (Reps.one (show Kd.M (Kd.int .i64) _ _ _ (-1) [.int .i64 (-1)] from rfl) (Reps.one (show Kd.M (Kd.int .i64) _ _ _ 401 [.int .i64 401] from rfl) (Reps.one (show Kd.M (Kd.int .i64) _ _ _ 3 [.int .i64 3] from rfl) (Reps.none _ _)))));intro v403 w17 ho18 hb hg_ hnew_;clear hg_ hnew_;(first|rw [← Ny402.out] at ho18|(simp only [Int.reduceToNat] at ho18;rw [← Ny402.out] at ho18));have n0_:=Aside0.mk (Kd.N_elder' (gN HO393) (Kd.R_base ho18) hb);have n1_:=Aside0.mk (Kd.R_below (gR HO397) hb);have n2_:=Aside0.mk (Kd.R_lower ho18 (keep_size (w:=w) (g:=g) (row:=none) (by repeat (first|exact gW HK|apply KeepBut.set_))));have n3_:=Aside0.mk (IsS67.below (by repeat (first|(with_reducible first|exact HI0.out|apply IsS67.alloc|apply IsS67.drewN|apply IsS67.drew|apply IsS67.set_1)|exact HI0.out)) hb);have n4_:=Aside0.mk (KeepBut.trans (by repeat (first|exact gW HK|apply KeepBut.set_)) (KeepBut.of_below hb g none) (.inl rfl));have n5_:=Aside0.mk (below_step (by repeat (first|exact gB HB|refine below_set ?_ (IsS67.ge HI0.out))) hb);clear HO393;clear HO397;clear HI0;clear HK;clear HB;have HO393:=n0_;have HO397:=n1_;have HO404:=n2_;have HI0:=n3_;have HK:=n4_;have HB:=n5_;clear n0_ n1_ n2_ n3_ n4_ n5_;clear hb ho18;obtain ⟨Ao19,co19,eo19⟩:=Kd.R_slice HO404.out;subst eo19)|((with_reducible refine gate_callee (f:=46) rfl ?_);refine goesL_ (some 20) rfl rfl Try.func46 (by kernel_rfl) rfl #[.pointer (some ⟨g,0,none⟩),.slice Ao19 y402.length co19] rfl (by (try simp only [List.map_toArray,List.map_cons,List.map_nil]);first|done|rfl|(simp only [List.length_drop,List.length_take];rfl)) ?_;(with_reducible refine (spec_l15Rd_num.calls k g s0_0 t401 _ _ y402 t405 t406 w0 _ ?side1 ?side2 ?side3 ?side4 ?side5 A7.out).mono ?_);(case side1=>repeat (first|(with_reducible first|exact HI0.out|apply IsS67.alloc|apply IsS67.drewN|apply IsS67.drew|apply IsS67.set_1)|exact HI0.out));(case side2=>repeat (first|exact gB HB|refine below_set ?_ (IsS67.ge HI0.out)));(case side3=>exact gC ((Kd.R_reads' HO404.out).2.2));(case side4=>exact (Kd.R_reads' HO404.out).2.1);(case side5=>exact far_slice (IsS67.own_ne HI0.out HO404.out (by decide)));rintro e w20 ⟨rfl,hi,hb,hk⟩;refine ⟨_,rfl,?_⟩;have n0_:=Aside0.mk (Kd.N_mono (Kd.N_keep (Kd.N_mono (ok:=fun k_=>((k_ ≠ g∧some k_ ≠ (.slice Ao14 t395.length co14:Value).ownBlock)∧some k_ ≠ (.slice Ao19 y402.length co19:Value).ownBlock)) (gN HO393) (fun k_ hk_=>(⟨hk_,hk_.1.1⟩:_∧k_ ≠ g))) hk (fun _ h=>h.2)) (fun _ h=>h.1));have n1_:=Aside0.mk (Kd.R_mono (Kd.R_keep (IsS67.apart (show IsS67 w0 _ g s0_0 t401 from by repeat (first|(with_reducible first|exact HI0.out|apply IsS67.alloc|apply IsS67.drewN|apply IsS67.drew|apply IsS67.set_1)|exact HI0.out)) (gR HO397) (by decide)) hk (fun _ h=>h.2)) (fun _ h=>h.1));have n2_:=Aside0.mk (Kd.R_mono (Kd.R_keep (IsS67.apart (show IsS67 w0 _ g s0_0 t401 from by repeat (first|(with_reducible first|exact HI0.out|apply IsS67.alloc|apply IsS67.drewN|apply IsS67.drew|apply IsS67.set_1)|exact HI0.out)) (gR HO404) (by decide)) hk (fun _ h=>h.2)) (fun _ h=>h.1));have n3_:=Aside0.mk (KeepBut.trans (by repeat (first|exact gW HK|apply KeepBut.set_)) hk (.inl rfl));have n4_:=Aside0.mk (hb);have n5_:=Aside0.mk (hi);clear HO393;clear HO397;clear HO404;clear HK;clear HB;clear HI0;have HO393:=n0_;have HO397:=n1_;have HO404:=n2_;have HK:=n3_;have HB:=n4_;have HI0:=n5_;clear n0_ n1_ n2_ n3_ n4_ n5_;(try clear hb);(try clear hb2);(try clear hk);(try clear hi);have p10:0≤(t398:Int):=of_decide_eq_true (by first|(with_reducible assumption)|assumption);have q10:(t398:Int) < ((t395.length:Int):Int):=of_decide_eq_true (by first|(with_reducible assumption)|assumption);obtain ⟨go10,co10,eo10,gb10,gl10,cl10,HG10⟩:=Kd.R_form HO397.out (by omega);(first|cases eo10|(injection eo10 with ea_ en_ ec_;(first|subst ea_|(injection ea_ with ea_;subst ea_));subst ec_;clear en_));have GB10:=Aside0.mk gb10;have GG10:=Aside0.mk HG10;clear gb10 gl10 HG10;obtain ⟨ce10,hcl10,hM10,hcc10,hfr10⟩:=Kd.R_elem HO397.out zRow (t398:Int) p10 q10;obtain rfl:=k30_openM hM10;have hx10_0:w20.cell? ⟨go10,(t398:Int).toNat * 2,none⟩=some (.int .i64 ((rd_TRow t395 t398).f0)):=hcc10 0 _ rfl;have hx10_1:w20.cell? ⟨go10,(t398:Int).toNat * 2+1,none⟩=some (.string ((rd_TRow t395 t398).f1)):=hcc10 1 _ rfl;have hf10_0:w20.frozen? ⟨go10,(t398:Int).toNat * 2,none⟩=false:=hfr10 0;have hf10_1:w20.frozen? ⟨go10,(t398:Int).toNat * 2+1,none⟩=false:=hfr10 1;clear hcl10 hcc10 hfr10 hM10;replace p10:=eq_true p10;replace q10:=eq_true q10;have HX21:=Aside0.mk (show Kd.R k30 30 w20 w.heap.size (fun _=>True) (.slice (some ⟨go10,0,none⟩) t395.length co14) t395 from (gR HO397));obtain ⟨ce21,hcl21,hM21,hcc21,hfr21⟩:=Kd.R_elem HX21.out zRow (t398:Int) (of_decide_eq_true (by first|(with_reducible assumption)|assumption)) (by have h_:(t398:Int) < ((t395.length:Int):Int):=of_decide_eq_true (by first|(with_reducible assumption)|assumption);first|exact h_|(have e_:=(Kd.R_reads' HO397.out).1;omega)|simpa using h_);obtain rfl:=k30_openM hM21;have HP21:=Kd.R_seg HX21.out (t398:Int) (of_decide_eq_true (by first|(with_reducible assumption)|assumption)) (by have h_:(t398:Int) < ((t395.length:Int):Int):=of_decide_eq_true (by first|(with_reducible assumption)|assumption);first|exact h_|(have e_:=(Kd.R_reads' HO397.out).1;omega)|simpa using h_) (seg:=[.int .i64 t405]) (j:=0) hcl21 hcc21 (show 1≤2 from by decide) (x':=(⟨t405,(rd_TRow t395 t398).f1⟩:SRow)) (k30_mkM _ _ _ (⟨t405,(rd_TRow t395 t398).f1⟩:SRow) ) (fun _ hk=>hk);have hx21_0:=hcc21 0 _ rfl;(try simp only [show (k30).sz=2 from rfl,Nat.mul_one,Nat.add_zero] at hx21_0);have hf21_0:=hfr21 0;(try simp only [show (k30).sz=2 from rfl,Nat.mul_one,Nat.add_zero] at hf21_0);clear hcl21 hcc21 hfr21 hM21)|((with_reducible refine gate_store (t:=3) (p:=22) rfl ?_);refine store_event (t:=3) (p:=22) (v:=?vo_w22) (w1:=(w20.setCell ⟨go10,(t398:Int).toNat * 2,none⟩ (.int .i64 t405))) ?hg ?ho ?hn ?hr ?_;(case ho=>rfl);(case hg=>rfl);(case hn=>rfl);(case hr=>first|(go_simp;done)|(go_simp;rfl));intro w22 hw;have hg:w20.grownBy w22 (some go10):=(by rw [hw];exact HP21.2);have hp_:Kd.R k30 30 w22 w.heap.size (fun _=>True) (.slice (some ⟨go10,0,none⟩) t395.length co14) y407:=(by rw [hw,Ny407.out];exact HP21.1);clear HP21;have n0_:=Aside0.mk (IsS67.grown (by repeat (first|(with_reducible first|exact HI0.out|apply IsS67.alloc|apply IsS67.drewN|apply IsS67.drew|apply IsS67.set_1)|exact HI0.out)) hg (IsS67.own_ne HI0.out HO397.out (by decide)));have n1_:=Aside0.mk (Kd.N_afterv (v:=(.slice (some ⟨go10,0,none⟩) t395.length co14)) (v1:=(.slice (some ⟨go10,0,none⟩) t395.length co14)) (ok:=(fun k_=>some k_ ≠ (.slice Ao19 y402.length co19:Value).ownBlock∧k_ ≠ g)) (by (with_reducible repeat (first|apply Kd.N_alloc|apply Kd.N_drewN|apply Kd.N_drew));exact Kd.N_mono HO393.out (fun _ hk=>⟨⟨hk.2,hk.1.1⟩,hk.1.2⟩)) hg (.inl rfl));have n2_:=Aside0.mk (hp_);have n3_:=Aside0.mk (Kd.R_over' (v:=(.slice (some ⟨go10,0,none⟩) t395.length co14)) (gR HO404) (Kd.R_typed HO397.out) (by decide) hg);have n4_:=Aside0.mk ((by rw [hw];exact below_set (HB.out) (Nat.le_trans HL.out GB10.out):Below w0.heap.size w0 w22));have n5_:=Aside0.mk (KeepBut.trans (by repeat (first|exact gW HK|apply KeepBut.set_)) (KeepBut.of_grown hg g) (Kd.R_base2 HO397.out));clear HI0;clear HO393;clear HO397;clear HO404;clear HB;clear HK;have HI0:=n0_;have HO393:=n1_;have HO397:=n2_;have HO404:=n3_;have HB:=n4_;have HK:=n5_;clear n0_ n1_ n2_ n3_ n4_ n5_;clear hg hw hp_))
    go_ret
    exact ⟨_,by first|rfl|(simp [errW_none,errW_some] <;> rfl)|(simp [*,errW_none,errW_some] <;> rfl),gR HO397,by repeat (first|(with_reducible first|exact HI0.out|apply IsS67.alloc|apply IsS67.drewN|apply IsS67.drew|apply IsS67.set_1)|exact HI0.out),by repeat (first|exact gB HB|refine below_set ?_ (IsS67.ge HI0.out)),by repeat (first|exact gW HK|apply KeepBut.set_)⟩
   ·rw [if_neg c9] at H
    exact absurd H (by simp)
  ·rw [if_neg c8] at H
   exact absurd H (by simp)
 ·rw [if_neg c6] at H
  have c6b0:(t400 == 0)=false:=beq_eq_false_iff_ne.mpr c6
  have c6b1:(t400 != 0)=true:=bne_iff_ne.mpr c6
  by_cases c23:t400=1
  ·rw [if_pos c23] at H
   have c23b0:(t400 == 1)=true:=beq_iff_eq.mpr c23
   have c23b1:(t400 != 1)=false:=bne_eq_false_iff_eq.mpr c23
   clear c23
   obtain ⟨y408,hy408⟩:∃ y_:List ByteArray,y_=(([(⟨#[65]⟩:ByteArray),(⟨#[97,32,98]⟩:ByteArray),(⟨#[120,10]⟩:ByteArray),(⟨#[]⟩:ByteArray)]:List ByteArray)):=⟨_,rfl⟩
   replace H:((spec_l15Rd_of.f k s0_0 t401 y408).bind fun bt411=>(if 0≤t398 then (if t398 < (t395.length:Int) then (some ((t395.set (t398:Int).toNat (⟨(rd_TRow t395 t398).f0,bt411.1⟩:SRow)),bt411.2)) else (none)) else (none)))=some (r1,r2):=by first|(rw [hy408];with_reducible exact H)|(have H2_:=(Option.bind_some _ _).symm.trans H;rw [hy408];with_reducible exact H2_)|(have H2_:=(Option.bind_some _ _).symm.trans H;with_reducible exact H2_)|with_reducible exact H|(rw [hy408];exact H)|exact H
   have Ny408:=Aside0.mk hy408
   clear hy408
   replace H:=Option.bind_eq_some_iff.mp H
   obtain ⟨⟨t411,t412⟩,A240,H⟩:=H
   replace H:(if 0≤t398 then (if t398 < (t395.length:Int) then (some ((t395.set (t398:Int).toNat (⟨(rd_TRow t395 t398).f0,t411⟩:SRow)),t412)) else (none)) else (none))=some (r1,r2):=H
   have A24:=Aside0.mk A240
   clear A240
   by_cases c25:0≤t398
   ·rw [if_pos c25] at H
    have c25b0:decide (0≤t398)=true:=decide_eq_true c25
    clear c25
    by_cases c26:t398 < (t395.length:Int)
    ·rw [if_pos c26] at H
     have c26b0:decide (t398 < (t395.length:Int))=true:=decide_eq_true c26
     clear c26
     obtain ⟨y413,hy413⟩:∃ y_:List (SRow),y_=(t395.set (t398:Int).toNat (⟨(rd_TRow t395 t398).f0,t411⟩:SRow)):=⟨_,rfl⟩
     replace H:(some (y413,t412))=some (r1,r2):=by first|(rw [hy413];with_reducible exact H)|(have H2_:=(Option.bind_some _ _).symm.trans H;rw [hy413];with_reducible exact H2_)|(have H2_:=(Option.bind_some _ _).symm.trans H;with_reducible exact H2_)|with_reducible exact H|(rw [hy413];exact H)|exact H
     have Ny413:=Aside0.mk hy413
     clear hy413
     simp only [Option.some.injEq,Prod.mk.injEq] at H
     obtain ⟨rfl,rfl⟩:=H
     go_enter Try.func41,Try.ntmps41
     go_wp2_with (first|((with_reducible refine gate_callee (f:=65) rfl ?_);refine goesL_ (some 6) rfl rfl Try.func65 (by kernel_rfl) rfl #[.pointer (some ⟨g,0,none⟩)] rfl (by (try simp only [List.map_toArray,List.map_cons,List.map_nil]);first|done|rfl|(simp only [List.length_drop,List.length_take];rfl)) ?_;(with_reducible refine (spec_l1Draw.calls k g s0_0 s0_1 t388 t389 t390 t391 t394 w0 _ ?side1 ?side2 A2.out).mono ?_);(case side1=>repeat (first|(with_reducible first|exact HI0.out|apply IsS67.alloc|apply IsS67.drewN|apply IsS67.drew|apply IsS67.set_1)|exact HI0.out));(case side2=>repeat (first|exact gB HB|refine below_set ?_ (IsS67.ge HI0.out)));rintro e w28 ⟨v392,rfl,ho0,hi,hb,hk⟩;refine ⟨_,rfl,?_⟩;have n0_:=Aside0.mk (Kd.N_lower (Kd.N_mono (ok':=fun k_=>k_ ≠ g) ho0 (fun k_ hk_=>(IsS67.fresh (by repeat (first|(with_reducible first|exact HI0.out|apply IsS67.alloc|apply IsS67.drewN|apply IsS67.drew|apply IsS67.set_1)|exact HI0.out)) k_ hk_))) (keep_size (w:=w) (g:=g) (row:=none) (by repeat (first|exact gW HK|apply KeepBut.set_))));have n1_:=Aside0.mk (KeepBut.trans (by repeat (first|exact gW HK|apply KeepBut.set_)) hk (.inl rfl));have n2_:=Aside0.mk (hb);have n3_:=Aside0.mk (hi);clear HK;clear HB;clear HI0;have HO393:=n0_;have HK:=n1_;have HB:=n2_;have HI0:=n3_;clear n0_ n1_ n2_ n3_;(try clear hb);(try clear hb2);(try clear hk);(try clear hi);(try clear ho0);obtain ⟨Ao29,co29,eo29⟩:=Kd.N_slice HO393.out;subst eo29)|((with_reducible refine gate_callee (f:=53) rfl ?_);refine goesL_ (some 7) rfl rfl Try.func53 (by kernel_rfl) rfl #[.agg #[.int .i64 t388,.int .i64 t389,.string t390,.slice Ao29 t391.length co29]] rfl (by (try simp only [List.map_toArray,List.map_cons,List.map_nil]);first|done|rfl|(simp only [List.length_drop,List.length_take];rfl)) ?_;(with_reducible refine (spec_l2Open.calls k t388 t389 t390 _ _ t391 t395 _ ?side1 ?side2 A3.out).mono ?_);(case side1=>exact gC ((Kd.N_reads' HO393.out).2.2));(case side2=>exact (Kd.N_reads' HO393.out).2.1);rintro e w30 ⟨v396,rfl,ho0,hb⟩;refine ⟨_,rfl,?_⟩;have n0_:=Aside0.mk (Kd.N_elder' (gN HO393) (Kd.R_base ho0) hb);have n1_:=Aside0.mk (Kd.R_lower ho0 (keep_size (w:=w) (g:=g) (row:=none) (by repeat (first|exact gW HK|apply KeepBut.set_))));have n2_:=Aside0.mk (IsS67.below (by repeat (first|(with_reducible first|exact HI0.out|apply IsS67.alloc|apply IsS67.drewN|apply IsS67.drew|apply IsS67.set_1)|exact HI0.out)) hb);have n3_:=Aside0.mk (KeepBut.trans (by repeat (first|exact gW HK|apply KeepBut.set_)) (KeepBut.of_below hb g none) (.inl rfl));have n4_:=Aside0.mk (below_step (by repeat (first|exact gB HB|refine below_set ?_ (IsS67.ge HI0.out))) hb);clear HO393;clear HI0;clear HK;clear HB;have HO393:=n0_;have HO397:=n1_;have HI0:=n2_;have HK:=n3_;have HB:=n4_;clear n0_ n1_ n2_ n3_ n4_;(try clear hb);(try clear hb2);(try clear hk);(try clear hi);(try clear ho0);obtain ⟨Ao31,co31,eo31⟩:=Kd.R_slice HO397.out;subst eo31)|((with_reducible refine gate_callee (f:=54) rfl ?_);refine goesL_ (some 11) rfl rfl Try.func54 (by kernel_rfl) rfl #[.pointer (some ⟨g,0,none⟩),.int .i64 (t395.length:Int)] rfl (by (try simp only [List.map_toArray,List.map_cons,List.map_nil]);first|done|rfl|(simp only [List.length_drop,List.length_take];rfl)) ?_;(with_reducible refine (spec_l15Rd_pick.calls k g s0_0 t394 (t395.length:Int) t398 t399 w0 _ ?side1 ?side2 A4.out).mono ?_);(case side1=>repeat (first|(with_reducible first|exact HI0.out|apply IsS67.alloc|apply IsS67.drewN|apply IsS67.drew|apply IsS67.set_1)|exact HI0.out));(case side2=>repeat (first|exact gB HB|refine below_set ?_ (IsS67.ge HI0.out)));rintro e w32 ⟨rfl,hi,hb,hk⟩;refine ⟨_,rfl,?_⟩;have n0_:=Aside0.mk (Kd.N_mono (Kd.N_keep (Kd.N_mono (ok:=fun k_=>(k_ ≠ g∧some k_ ≠ (.slice Ao31 t395.length co31:Value).ownBlock)) (gN HO393) (fun k_ hk_=>(⟨hk_,hk_.1⟩:_∧k_ ≠ g))) hk (fun _ h=>h.2)) (fun _ h=>h.1));have n1_:=Aside0.mk (Kd.R_mono (Kd.R_keep (IsS67.apart (show IsS67 w0 _ g s0_0 t394 from by repeat (first|(with_reducible first|exact HI0.out|apply IsS67.alloc|apply IsS67.drewN|apply IsS67.drew|apply IsS67.set_1)|exact HI0.out)) (gR HO397) (by decide)) hk (fun _ h=>h.2)) (fun _ h=>h.1));have n2_:=Aside0.mk (KeepBut.trans (by repeat (first|exact gW HK|apply KeepBut.set_)) hk (.inl rfl));have n3_:=Aside0.mk (hb);have n4_:=Aside0.mk (hi);clear HO393;clear HO397;clear HK;clear HB;clear HI0;have HO393:=n0_;have HO397:=n1_;have HK:=n2_;have HB:=n3_;have HI0:=n4_;clear n0_ n1_ n2_ n3_ n4_;(try clear hb);(try clear hb2);(try clear hk);(try clear hi))|((with_reducible refine gate_callee (f:=54) rfl ?_);refine goesL_ (some 13) rfl rfl Try.func54 (by kernel_rfl) rfl #[.pointer (some ⟨g,0,none⟩),.int .i64 16] rfl (by (try simp only [List.map_toArray,List.map_cons,List.map_nil]);first|done|rfl|(simp only [List.length_drop,List.length_take];rfl)) ?_;(with_reducible refine (spec_l15Rd_pick.calls k g s0_0 t399 16 t400 t401 w0 _ ?side1 ?side2 A5.out).mono ?_);(case side1=>repeat (first|(with_reducible first|exact HI0.out|apply IsS67.alloc|apply IsS67.drewN|apply IsS67.drew|apply IsS67.set_1)|exact HI0.out));(case side2=>repeat (first|exact gB HB|refine below_set ?_ (IsS67.ge HI0.out)));rintro e w33 ⟨rfl,hi,hb,hk⟩;refine ⟨_,rfl,?_⟩;have n0_:=Aside0.mk (Kd.N_mono (Kd.N_keep (Kd.N_mono (ok:=fun k_=>(k_ ≠ g∧some k_ ≠ (.slice Ao31 t395.length co31:Value).ownBlock)) (gN HO393) (fun k_ hk_=>(⟨hk_,hk_.1⟩:_∧k_ ≠ g))) hk (fun _ h=>h.2)) (fun _ h=>h.1));have n1_:=Aside0.mk (Kd.R_mono (Kd.R_keep (IsS67.apart (show IsS67 w0 _ g s0_0 t399 from by repeat (first|(with_reducible first|exact HI0.out|apply IsS67.alloc|apply IsS67.drewN|apply IsS67.drew|apply IsS67.set_1)|exact HI0.out)) (gR HO397) (by decide)) hk (fun _ h=>h.2)) (fun _ h=>h.1));have n2_:=Aside0.mk (KeepBut.trans (by repeat (first|exact gW HK|apply KeepBut.set_)) hk (.inl rfl));have n3_:=Aside0.mk (hb);have n4_:=Aside0.mk (hi);clear HO393;clear HO397;clear HK;clear HB;clear HI0;have HO393:=n0_;have HO397:=n1_;have HK:=n2_;have HB:=n3_;have HI0:=n4_;clear n0_ n1_ n2_ n3_ n4_;(try clear hb);(try clear hb2);(try clear hk);(try clear hi))|((with_reducible refine gate_dst (N:=28) rfl ?_);refine Kd.R_lit Kd.string _ 9 ?hg (N:=28) ?hd (xs:=([(⟨#[65]⟩:ByteArray),(⟨#[97,32,98]⟩:ByteArray),(⟨#[120,10]⟩:ByteArray),(⟨#[]⟩:ByteArray)]:List ByteArray)) (inner:=[.string (⟨#[65]⟩:ByteArray),.string (⟨#[97,32,98]⟩:ByteArray),.string (⟨#[120,10]⟩:ByteArray),.string (⟨#[]⟩:ByteArray)]) (ok:=fun _=>True) (okp:=fun _=>True) ?hr ?hp (fun _ hk=>hk) trivial (Below.refl _ _) (Nat.le_refl _) (by simp) ?_;(case hd=>rfl);(case hg=>rfl);(case hr=>first|(go_simp;done)|(go_simp;rfl));(case hp=>exact (Reps.one (show Kd.M Kd.string _ _ _ (⟨#[65]⟩:ByteArray) [.string (⟨#[65]⟩:ByteArray)] from rfl) (Reps.one (show Kd.M Kd.string _ _ _ (⟨#[97,32,98]⟩:ByteArray) [.string (⟨#[97,32,98]⟩:ByteArray)] from rfl) (Reps.one (show Kd.M Kd.string _ _ _ (⟨#[120,10]⟩:ByteArray) [.string (⟨#[120,10]⟩:ByteArray)] from rfl) (Reps.one (show Kd.M Kd.string _ _ _ (⟨#[]⟩:ByteArray) [.string (⟨#[]⟩:ByteArray)] from rfl) (Reps.none _ _))))));intro v409 w34 ho35 hb hg_ hnew_;clear hg_ hnew_;(first|rw [← Ny408.out] at ho35|(simp only [Int.reduceToNat] at ho35;rw [← Ny408.out] at ho35));have n0_:=Aside0.mk (Kd.N_elder' (gN HO393) (Kd.R_base ho35) hb);have n1_:=Aside0.mk (Kd.R_below (gR HO397) hb);have n2_:=Aside0.mk (Kd.R_lower ho35 (keep_size (w:=w) (g:=g) (row:=none) (by repeat (first|exact gW HK|apply KeepBut.set_))));have n3_:=Aside0.mk (IsS67.below (by repeat (first|(with_reducible first|exact HI0.out|apply IsS67.alloc|apply IsS67.drewN|apply IsS67.drew|apply IsS67.set_1)|exact HI0.out)) hb);have n4_:=Aside0.mk (KeepBut.trans (by repeat (first|exact gW HK|apply KeepBut.set_)) (KeepBut.of_below hb g none) (.inl rfl));have n5_:=Aside0.mk (below_step (by repeat (first|exact gB HB|refine below_set ?_ (IsS67.ge HI0.out))) hb);clear HO393;clear HO397;clear HI0;clear HK;clear HB;have HO393:=n0_;have HO397:=n1_;have HO410:=n2_;have HI0:=n3_;have HK:=n4_;have HB:=n5_;clear n0_ n1_ n2_ n3_ n4_ n5_;clear hb ho35;obtain ⟨Ao36,co36,eo36⟩:=Kd.R_slice HO410.out;subst eo36)|((with_reducible refine gate_callee (f:=66) rfl ?_);refine goesL_ (some 29) rfl rfl Try.func66 (by kernel_rfl) rfl #[.pointer (some ⟨g,0,none⟩),.slice Ao36 y408.length co36] rfl (by (try simp only [List.map_toArray,List.map_cons,List.map_nil]);first|done|rfl|(simp only [List.length_drop,List.length_take];rfl)) ?_;(with_reducible refine (spec_l15Rd_of.calls k g s0_0 t401 _ _ y408 t411 t412 w0 _ ?side1 ?side2 ?side3 ?side4 ?side5 A24.out).mono ?_);(case side1=>repeat (first|(with_reducible first|exact HI0.out|apply IsS67.alloc|apply IsS67.drewN|apply IsS67.drew|apply IsS67.set_1)|exact HI0.out));(case side2=>repeat (first|exact gB HB|refine below_set ?_ (IsS67.ge HI0.out)));(case side3=>exact gC ((Kd.R_reads' HO410.out).2.2));(case side4=>exact (Kd.R_reads' HO410.out).2.1);(case side5=>exact far_slice (IsS67.own_ne HI0.out HO410.out (by decide)));rintro e w37 ⟨rfl,hi,hb,hk⟩;refine ⟨_,rfl,?_⟩;have n0_:=Aside0.mk (Kd.N_mono (Kd.N_keep (Kd.N_mono (ok:=fun k_=>((k_ ≠ g∧some k_ ≠ (.slice Ao31 t395.length co31:Value).ownBlock)∧some k_ ≠ (.slice Ao36 y408.length co36:Value).ownBlock)) (gN HO393) (fun k_ hk_=>(⟨hk_,hk_.1.1⟩:_∧k_ ≠ g))) hk (fun _ h=>h.2)) (fun _ h=>h.1));have n1_:=Aside0.mk (Kd.R_mono (Kd.R_keep (IsS67.apart (show IsS67 w0 _ g s0_0 t401 from by repeat (first|(with_reducible first|exact HI0.out|apply IsS67.alloc|apply IsS67.drewN|apply IsS67.drew|apply IsS67.set_1)|exact HI0.out)) (gR HO397) (by decide)) hk (fun _ h=>h.2)) (fun _ h=>h.1));have n2_:=Aside0.mk (Kd.R_mono (Kd.R_keep (IsS67.apart (show IsS67 w0 _ g s0_0 t401 from by repeat (first|(with_reducible first|exact HI0.out|apply IsS67.alloc|apply IsS67.drewN|apply IsS67.drew|apply IsS67.set_1)|exact HI0.out)) (gR HO410) (by decide)) hk (fun _ h=>h.2)) (fun _ h=>h.1));have n3_:=Aside0.mk (KeepBut.trans (by repeat (first|exact gW HK|apply KeepBut.set_)) hk (.inl rfl));have n4_:=Aside0.mk (hb);have n5_:=Aside0.mk (hi);clear HO393;clear HO397;clear HO410;clear HK;clear HB;clear HI0;have HO393:=n0_;have HO397:=n1_;have HO410:=n2_;have HK:=n3_;have HB:=n4_;have HI0:=n5_;clear n0_ n1_ n2_ n3_ n4_ n5_;(try clear hb);(try clear hb2);(try clear hk);(try clear hi);have p27:0≤(t398:Int):=of_decide_eq_true (by first|(with_reducible assumption)|assumption);have q27:(t398:Int) < ((t395.length:Int):Int):=of_decide_eq_true (by first|(with_reducible assumption)|assumption);obtain ⟨go27,co27,eo27,gb27,gl27,cl27,HG27⟩:=Kd.R_form HO397.out (by omega);(first|cases eo27|(injection eo27 with ea_ en_ ec_;(first|subst ea_|(injection ea_ with ea_;subst ea_));subst ec_;clear en_));have GB27:=Aside0.mk gb27;have GG27:=Aside0.mk HG27;clear gb27 gl27 HG27;obtain ⟨ce27,hcl27,hM27,hcc27,hfr27⟩:=Kd.R_elem HO397.out zRow (t398:Int) p27 q27;obtain rfl:=k30_openM hM27;have hx27_0:w37.cell? ⟨go27,(t398:Int).toNat * 2,none⟩=some (.int .i64 ((rd_TRow t395 t398).f0)):=hcc27 0 _ rfl;have hx27_1:w37.cell? ⟨go27,(t398:Int).toNat * 2+1,none⟩=some (.string ((rd_TRow t395 t398).f1)):=hcc27 1 _ rfl;have hf27_0:w37.frozen? ⟨go27,(t398:Int).toNat * 2,none⟩=false:=hfr27 0;have hf27_1:w37.frozen? ⟨go27,(t398:Int).toNat * 2+1,none⟩=false:=hfr27 1;clear hcl27 hcc27 hfr27 hM27;replace p27:=eq_true p27;replace q27:=eq_true q27;have HX38:=Aside0.mk (show Kd.R k30 30 w37 w.heap.size (fun _=>True) (.slice (some ⟨go27,0,none⟩) t395.length co31) t395 from (gR HO397));obtain ⟨ce38,hcl38,hM38,hcc38,hfr38⟩:=Kd.R_elem HX38.out zRow (t398:Int) (of_decide_eq_true (by first|(with_reducible assumption)|assumption)) (by have h_:(t398:Int) < ((t395.length:Int):Int):=of_decide_eq_true (by first|(with_reducible assumption)|assumption);first|exact h_|(have e_:=(Kd.R_reads' HO397.out).1;omega)|simpa using h_);obtain rfl:=k30_openM hM38;have HP38:=Kd.R_seg HX38.out (t398:Int) (of_decide_eq_true (by first|(with_reducible assumption)|assumption)) (by have h_:(t398:Int) < ((t395.length:Int):Int):=of_decide_eq_true (by first|(with_reducible assumption)|assumption);first|exact h_|(have e_:=(Kd.R_reads' HO397.out).1;omega)|simpa using h_) (seg:=[.string t411]) (j:=1) hcl38 hcc38 (show 2≤2 from by decide) (x':=(⟨(rd_TRow t395 t398).f0,t411⟩:SRow)) (k30_mkM _ _ _ (⟨(rd_TRow t395 t398).f0,t411⟩:SRow) ) (fun _ hk=>hk);have hx38_1:=hcc38 1 _ rfl;(try simp only [show (k30).sz=2 from rfl,Nat.mul_one,Nat.add_zero] at hx38_1);have hf38_1:=hfr38 1;(try simp only [show (k30).sz=2 from rfl,Nat.mul_one,Nat.add_zero] at hf38_1);clear hcl38 hcc38 hfr38 hM38)|((with_reducible refine gate_store (t:=9) (p:=31) rfl ?_);refine store_event (t:=9) (p:=31) (v:=?vo_w39) (w1:=(w37.setCell ⟨go27,(t398:Int).toNat * 2+1,none⟩ (.string t411))) ?hg ?ho ?hn ?hr ?_;(case ho=>rfl);(case hg=>rfl);(case hn=>rfl);(case hr=>first|(go_simp;done)|(go_simp;rfl));intro w39 hw;have hg:w37.grownBy w39 (some go27):=(by rw [hw];exact HP38.2);have hp_:Kd.R k30 30 w39 w.heap.size (fun _=>True) (.slice (some ⟨go27,0,none⟩) t395.length co31) y413:=(by rw [hw,Ny413.out];exact HP38.1);clear HP38;have n0_:=Aside0.mk (IsS67.grown (by repeat (first|(with_reducible first|exact HI0.out|apply IsS67.alloc|apply IsS67.drewN|apply IsS67.drew|apply IsS67.set_1)|exact HI0.out)) hg (IsS67.own_ne HI0.out HO397.out (by decide)));have n1_:=Aside0.mk (Kd.N_afterv (v:=(.slice (some ⟨go27,0,none⟩) t395.length co31)) (v1:=(.slice (some ⟨go27,0,none⟩) t395.length co31)) (ok:=(fun k_=>some k_ ≠ (.slice Ao36 y408.length co36:Value).ownBlock∧k_ ≠ g)) (by (with_reducible repeat (first|apply Kd.N_alloc|apply Kd.N_drewN|apply Kd.N_drew));exact Kd.N_mono HO393.out (fun _ hk=>⟨⟨hk.2,hk.1.1⟩,hk.1.2⟩)) hg (.inl rfl));have n2_:=Aside0.mk (hp_);have n3_:=Aside0.mk (Kd.R_over' (v:=(.slice (some ⟨go27,0,none⟩) t395.length co31)) (gR HO410) (Kd.R_typed HO397.out) (by decide) hg);have n4_:=Aside0.mk ((by rw [hw];exact below_set (HB.out) (Nat.le_trans HL.out GB27.out):Below w0.heap.size w0 w39));have n5_:=Aside0.mk (KeepBut.trans (by repeat (first|exact gW HK|apply KeepBut.set_)) (KeepBut.of_grown hg g) (Kd.R_base2 HO397.out));clear HI0;clear HO393;clear HO397;clear HO410;clear HB;clear HK;have HI0:=n0_;have HO393:=n1_;have HO397:=n2_;have HO410:=n3_;have HB:=n4_;have HK:=n5_;clear n0_ n1_ n2_ n3_ n4_ n5_;clear hg hw hp_))
     go_ret
     exact ⟨_,by first|rfl|(simp [errW_none,errW_some] <;> rfl)|(simp [*,errW_none,errW_some] <;> rfl),gR HO397,by repeat (first|(with_reducible first|exact HI0.out|apply IsS67.alloc|apply IsS67.drewN|apply IsS67.drew|apply IsS67.set_1)|exact HI0.out),by repeat (first|exact gB HB|refine below_set ?_ (IsS67.ge HI0.out)),by repeat (first|exact gW HK|apply KeepBut.set_)⟩
    ·rw [if_neg c26] at H
     exact absurd H (by simp)
   ·rw [if_neg c25] at H
    exact absurd H (by simp)
  ·rw [if_neg c23] at H
   have c23b0:(t400 == 1)=false:=beq_eq_false_iff_ne.mpr c23
   have c23b1:(t400 != 1)=true:=bne_iff_ne.mpr c23
   by_cases c40:t400=2
   ·rw [if_pos c40] at H
    have c40b0:(t400 == 2)=true:=beq_iff_eq.mpr c40
    have c40b1:(t400 != 2)=false:=bne_eq_false_iff_eq.mpr c40
    clear c40
    by_cases c41:0≤(t395.length:Int)
    ·rw [if_pos c41] at H
     have c41b0:=eq_true c41
     have c41b1:decide (0≤(t395.length:Int))=true:=decide_eq_true c41
     clear c41
     obtain ⟨y414,hy414⟩:∃ y_:List (SRow),y_=(t395.take (0:Int).toNat):=⟨_,rfl⟩
     replace H:(some (y414,t401))=some (r1,r2):=by first|(rw [hy414];with_reducible exact H)|(have H2_:=(Option.bind_some _ _).symm.trans H;rw [hy414];with_reducible exact H2_)|(have H2_:=(Option.bind_some _ _).symm.trans H;with_reducible exact H2_)|with_reducible exact H|(rw [hy414];exact H)|exact H
     have Ny414:=Aside0.mk hy414
     clear hy414
     simp only [Option.some.injEq,Prod.mk.injEq] at H
     obtain ⟨rfl,rfl⟩:=H
     go_enter Try.func41,Try.ntmps41
     go_wp2_with (first|((with_reducible refine gate_callee (f:=65) rfl ?_);refine goesL_ (some 6) rfl rfl Try.func65 (by kernel_rfl) rfl #[.pointer (some ⟨g,0,none⟩)] rfl (by (try simp only [List.map_toArray,List.map_cons,List.map_nil]);first|done|rfl|(simp only [List.length_drop,List.length_take];rfl)) ?_;(with_reducible refine (spec_l1Draw.calls k g s0_0 s0_1 t388 t389 t390 t391 t394 w0 _ ?side1 ?side2 A2.out).mono ?_);(case side1=>repeat (first|(with_reducible first|exact HI0.out|apply IsS67.alloc|apply IsS67.drewN|apply IsS67.drew|apply IsS67.set_1)|exact HI0.out));(case side2=>repeat (first|exact gB HB|refine below_set ?_ (IsS67.ge HI0.out)));rintro e w42 ⟨v392,rfl,ho0,hi,hb,hk⟩;refine ⟨_,rfl,?_⟩;have n0_:=Aside0.mk (Kd.N_lower (Kd.N_mono (ok':=fun k_=>k_ ≠ g) ho0 (fun k_ hk_=>(IsS67.fresh (by repeat (first|(with_reducible first|exact HI0.out|apply IsS67.alloc|apply IsS67.drewN|apply IsS67.drew|apply IsS67.set_1)|exact HI0.out)) k_ hk_))) (keep_size (w:=w) (g:=g) (row:=none) (by repeat (first|exact gW HK|apply KeepBut.set_))));have n1_:=Aside0.mk (KeepBut.trans (by repeat (first|exact gW HK|apply KeepBut.set_)) hk (.inl rfl));have n2_:=Aside0.mk (hb);have n3_:=Aside0.mk (hi);clear HK;clear HB;clear HI0;have HO393:=n0_;have HK:=n1_;have HB:=n2_;have HI0:=n3_;clear n0_ n1_ n2_ n3_;(try clear hb);(try clear hb2);(try clear hk);(try clear hi);(try clear ho0);obtain ⟨Ao43,co43,eo43⟩:=Kd.N_slice HO393.out;subst eo43)|((with_reducible refine gate_callee (f:=53) rfl ?_);refine goesL_ (some 7) rfl rfl Try.func53 (by kernel_rfl) rfl #[.agg #[.int .i64 t388,.int .i64 t389,.string t390,.slice Ao43 t391.length co43]] rfl (by (try simp only [List.map_toArray,List.map_cons,List.map_nil]);first|done|rfl|(simp only [List.length_drop,List.length_take];rfl)) ?_;(with_reducible refine (spec_l2Open.calls k t388 t389 t390 _ _ t391 t395 _ ?side1 ?side2 A3.out).mono ?_);(case side1=>exact gC ((Kd.N_reads' HO393.out).2.2));(case side2=>exact (Kd.N_reads' HO393.out).2.1);rintro e w44 ⟨v396,rfl,ho0,hb⟩;refine ⟨_,rfl,?_⟩;have n0_:=Aside0.mk (Kd.N_elder' (gN HO393) (Kd.R_base ho0) hb);have n1_:=Aside0.mk (Kd.R_lower ho0 (keep_size (w:=w) (g:=g) (row:=none) (by repeat (first|exact gW HK|apply KeepBut.set_))));have n2_:=Aside0.mk (IsS67.below (by repeat (first|(with_reducible first|exact HI0.out|apply IsS67.alloc|apply IsS67.drewN|apply IsS67.drew|apply IsS67.set_1)|exact HI0.out)) hb);have n3_:=Aside0.mk (KeepBut.trans (by repeat (first|exact gW HK|apply KeepBut.set_)) (KeepBut.of_below hb g none) (.inl rfl));have n4_:=Aside0.mk (below_step (by repeat (first|exact gB HB|refine below_set ?_ (IsS67.ge HI0.out))) hb);clear HO393;clear HI0;clear HK;clear HB;have HO393:=n0_;have HO397:=n1_;have HI0:=n2_;have HK:=n3_;have HB:=n4_;clear n0_ n1_ n2_ n3_ n4_;(try clear hb);(try clear hb2);(try clear hk);(try clear hi);(try clear ho0);obtain ⟨Ao45,co45,eo45⟩:=Kd.R_slice HO397.out;subst eo45)|((with_reducible refine gate_callee (f:=54) rfl ?_);refine goesL_ (some 11) rfl rfl Try.func54 (by kernel_rfl) rfl #[.pointer (some ⟨g,0,none⟩),.int .i64 (t395.length:Int)] rfl (by (try simp only [List.map_toArray,List.map_cons,List.map_nil]);first|done|rfl|(simp only [List.length_drop,List.length_take];rfl)) ?_;(with_reducible refine (spec_l15Rd_pick.calls k g s0_0 t394 (t395.length:Int) t398 t399 w0 _ ?side1 ?side2 A4.out).mono ?_);(case side1=>repeat (first|(with_reducible first|exact HI0.out|apply IsS67.alloc|apply IsS67.drewN|apply IsS67.drew|apply IsS67.set_1)|exact HI0.out));(case side2=>repeat (first|exact gB HB|refine below_set ?_ (IsS67.ge HI0.out)));rintro e w46 ⟨rfl,hi,hb,hk⟩;refine ⟨_,rfl,?_⟩;have n0_:=Aside0.mk (Kd.N_mono (Kd.N_keep (Kd.N_mono (ok:=fun k_=>(k_ ≠ g∧some k_ ≠ (.slice Ao45 t395.length co45:Value).ownBlock)) (gN HO393) (fun k_ hk_=>(⟨hk_,hk_.1⟩:_∧k_ ≠ g))) hk (fun _ h=>h.2)) (fun _ h=>h.1));have n1_:=Aside0.mk (Kd.R_mono (Kd.R_keep (IsS67.apart (show IsS67 w0 _ g s0_0 t394 from by repeat (first|(with_reducible first|exact HI0.out|apply IsS67.alloc|apply IsS67.drewN|apply IsS67.drew|apply IsS67.set_1)|exact HI0.out)) (gR HO397) (by decide)) hk (fun _ h=>h.2)) (fun _ h=>h.1));have n2_:=Aside0.mk (KeepBut.trans (by repeat (first|exact gW HK|apply KeepBut.set_)) hk (.inl rfl));have n3_:=Aside0.mk (hb);have n4_:=Aside0.mk (hi);clear HO393;clear HO397;clear HK;clear HB;clear HI0;have HO393:=n0_;have HO397:=n1_;have HK:=n2_;have HB:=n3_;have HI0:=n4_;clear n0_ n1_ n2_ n3_ n4_;(try clear hb);(try clear hb2);(try clear hk);(try clear hi))|((with_reducible refine gate_callee (f:=54) rfl ?_);refine goesL_ (some 13) rfl rfl Try.func54 (by kernel_rfl) rfl #[.pointer (some ⟨g,0,none⟩),.int .i64 16] rfl (by (try simp only [List.map_toArray,List.map_cons,List.map_nil]);first|done|rfl|(simp only [List.length_drop,List.length_take];rfl)) ?_;(with_reducible refine (spec_l15Rd_pick.calls k g s0_0 t399 16 t400 t401 w0 _ ?side1 ?side2 A5.out).mono ?_);(case side1=>repeat (first|(with_reducible first|exact HI0.out|apply IsS67.alloc|apply IsS67.drewN|apply IsS67.drew|apply IsS67.set_1)|exact HI0.out));(case side2=>repeat (first|exact gB HB|refine below_set ?_ (IsS67.ge HI0.out)));rintro e w47 ⟨rfl,hi,hb,hk⟩;refine ⟨_,rfl,?_⟩;have n0_:=Aside0.mk (Kd.N_mono (Kd.N_keep (Kd.N_mono (ok:=fun k_=>(k_ ≠ g∧some k_ ≠ (.slice Ao45 t395.length co45:Value).ownBlock)) (gN HO393) (fun k_ hk_=>(⟨hk_,hk_.1⟩:_∧k_ ≠ g))) hk (fun _ h=>h.2)) (fun _ h=>h.1));have n1_:=Aside0.mk (Kd.R_mono (Kd.R_keep (IsS67.apart (show IsS67 w0 _ g s0_0 t399 from by repeat (first|(with_reducible first|exact HI0.out|apply IsS67.alloc|apply IsS67.drewN|apply IsS67.drew|apply IsS67.set_1)|exact HI0.out)) (gR HO397) (by decide)) hk (fun _ h=>h.2)) (fun _ h=>h.1));have n2_:=Aside0.mk (KeepBut.trans (by repeat (first|exact gW HK|apply KeepBut.set_)) hk (.inl rfl));have n3_:=Aside0.mk (hb);have n4_:=Aside0.mk (hi);clear HO393;clear HO397;clear HK;clear HB;clear HI0;have HO393:=n0_;have HO397:=n1_;have HK:=n2_;have HB:=n3_;have HI0:=n4_;clear n0_ n1_ n2_ n3_ n4_;(try clear hb);(try clear hb2);(try clear hk);(try clear hi);have q48:(0:Int)≤((t395.length:Int):Int):=of_decide_eq_true (by first|(with_reducible assumption)|assumption);obtain ⟨i048,hi048,_,hsz48,_⟩:=info_parts info30;have hcut48:=cut_to (P:=Try.prog) 23 30 .i64 Try.underlying23 hi048 Ao45 t395.length co45 0 (by omega) q48 (Kd.R_reads' HO397.out).2.1;have hr48:=Kd.R_take (m:=(0:Int).toNat) HO397.out (by omega);have hy48:y414.length=(0:Int).toNat:=(by rw [Ny414.out,List.length_take];omega);rw [← Ny414.out] at hr48;rw [← hy48] at hr48 hcut48;clear hy48 hi048 hsz48 HO397;have HO416:=Aside0.mk hr48;clear hr48;replace q48:=eq_true q48))
     go_ret
     exact ⟨_,by first|rfl|(simp [errW_none,errW_some] <;> rfl)|(simp [*,errW_none,errW_some] <;> rfl),gR HO416,by repeat (first|(with_reducible first|exact HI0.out|apply IsS67.alloc|apply IsS67.drewN|apply IsS67.drew|apply IsS67.set_1)|exact HI0.out),by repeat (first|exact gB HB|refine below_set ?_ (IsS67.ge HI0.out)),by repeat (first|exact gW HK|apply KeepBut.set_)⟩
    ·rw [if_neg c41] at H
     exact absurd H (by simp)
   ·rw [if_neg c40] at H
    have c40b0:(t400 == 2)=false:=beq_eq_false_iff_ne.mpr c40
    have c40b1:(t400 != 2)=true:=bne_iff_ne.mpr c40
    simp only [Option.some.injEq,Prod.mk.injEq] at H
    obtain ⟨rfl,rfl⟩:=H
    go_enter Try.func41,Try.ntmps41
    go_wp2_with (first|((with_reducible refine gate_callee (f:=65) rfl ?_);refine goesL_ (some 6) rfl rfl Try.func65 (by kernel_rfl) rfl #[.pointer (some ⟨g,0,none⟩)] rfl (by (try simp only [List.map_toArray,List.map_cons,List.map_nil]);first|done|rfl|(simp only [List.length_drop,List.length_take];rfl)) ?_;(with_reducible refine (spec_l1Draw.calls k g s0_0 s0_1 t388 t389 t390 t391 t394 w0 _ ?side1 ?side2 A2.out).mono ?_);(case side1=>repeat (first|(with_reducible first|exact HI0.out|apply IsS67.alloc|apply IsS67.drewN|apply IsS67.drew|apply IsS67.set_1)|exact HI0.out));(case side2=>repeat (first|exact gB HB|refine below_set ?_ (IsS67.ge HI0.out)));rintro e w49 ⟨v392,rfl,ho0,hi,hb,hk⟩;refine ⟨_,rfl,?_⟩;have n0_:=Aside0.mk (Kd.N_lower (Kd.N_mono (ok':=fun k_=>k_ ≠ g) ho0 (fun k_ hk_=>(IsS67.fresh (by repeat (first|(with_reducible first|exact HI0.out|apply IsS67.alloc|apply IsS67.drewN|apply IsS67.drew|apply IsS67.set_1)|exact HI0.out)) k_ hk_))) (keep_size (w:=w) (g:=g) (row:=none) (by repeat (first|exact gW HK|apply KeepBut.set_))));have n1_:=Aside0.mk (KeepBut.trans (by repeat (first|exact gW HK|apply KeepBut.set_)) hk (.inl rfl));have n2_:=Aside0.mk (hb);have n3_:=Aside0.mk (hi);clear HK;clear HB;clear HI0;have HO393:=n0_;have HK:=n1_;have HB:=n2_;have HI0:=n3_;clear n0_ n1_ n2_ n3_;(try clear hb);(try clear hb2);(try clear hk);(try clear hi);(try clear ho0);obtain ⟨Ao50,co50,eo50⟩:=Kd.N_slice HO393.out;subst eo50)|((with_reducible refine gate_callee (f:=53) rfl ?_);refine goesL_ (some 7) rfl rfl Try.func53 (by kernel_rfl) rfl #[.agg #[.int .i64 t388,.int .i64 t389,.string t390,.slice Ao50 t391.length co50]] rfl (by (try simp only [List.map_toArray,List.map_cons,List.map_nil]);first|done|rfl|(simp only [List.length_drop,List.length_take];rfl)) ?_;(with_reducible refine (spec_l2Open.calls k t388 t389 t390 _ _ t391 t395 _ ?side1 ?side2 A3.out).mono ?_);(case side1=>exact gC ((Kd.N_reads' HO393.out).2.2));(case side2=>exact (Kd.N_reads' HO393.out).2.1);rintro e w51 ⟨v396,rfl,ho0,hb⟩;refine ⟨_,rfl,?_⟩;have n0_:=Aside0.mk (Kd.N_elder' (gN HO393) (Kd.R_base ho0) hb);have n1_:=Aside0.mk (Kd.R_lower ho0 (keep_size (w:=w) (g:=g) (row:=none) (by repeat (first|exact gW HK|apply KeepBut.set_))));have n2_:=Aside0.mk (IsS67.below (by repeat (first|(with_reducible first|exact HI0.out|apply IsS67.alloc|apply IsS67.drewN|apply IsS67.drew|apply IsS67.set_1)|exact HI0.out)) hb);have n3_:=Aside0.mk (KeepBut.trans (by repeat (first|exact gW HK|apply KeepBut.set_)) (KeepBut.of_below hb g none) (.inl rfl));have n4_:=Aside0.mk (below_step (by repeat (first|exact gB HB|refine below_set ?_ (IsS67.ge HI0.out))) hb);clear HO393;clear HI0;clear HK;clear HB;have HO393:=n0_;have HO397:=n1_;have HI0:=n2_;have HK:=n3_;have HB:=n4_;clear n0_ n1_ n2_ n3_ n4_;(try clear hb);(try clear hb2);(try clear hk);(try clear hi);(try clear ho0);obtain ⟨Ao52,co52,eo52⟩:=Kd.R_slice HO397.out;subst eo52)|((with_reducible refine gate_callee (f:=54) rfl ?_);refine goesL_ (some 11) rfl rfl Try.func54 (by kernel_rfl) rfl #[.pointer (some ⟨g,0,none⟩),.int .i64 (t395.length:Int)] rfl (by (try simp only [List.map_toArray,List.map_cons,List.map_nil]);first|done|rfl|(simp only [List.length_drop,List.length_take];rfl)) ?_;(with_reducible refine (spec_l15Rd_pick.calls k g s0_0 t394 (t395.length:Int) t398 t399 w0 _ ?side1 ?side2 A4.out).mono ?_);(case side1=>repeat (first|(with_reducible first|exact HI0.out|apply IsS67.alloc|apply IsS67.drewN|apply IsS67.drew|apply IsS67.set_1)|exact HI0.out));(case side2=>repeat (first|exact gB HB|refine below_set ?_ (IsS67.ge HI0.out)));rintro e w53 ⟨rfl,hi,hb,hk⟩;refine ⟨_,rfl,?_⟩;have n0_:=Aside0.mk (Kd.N_mono (Kd.N_keep (Kd.N_mono (ok:=fun k_=>(k_ ≠ g∧some k_ ≠ (.slice Ao52 t395.length co52:Value).ownBlock)) (gN HO393) (fun k_ hk_=>(⟨hk_,hk_.1⟩:_∧k_ ≠ g))) hk (fun _ h=>h.2)) (fun _ h=>h.1));have n1_:=Aside0.mk (Kd.R_mono (Kd.R_keep (IsS67.apart (show IsS67 w0 _ g s0_0 t394 from by repeat (first|(with_reducible first|exact HI0.out|apply IsS67.alloc|apply IsS67.drewN|apply IsS67.drew|apply IsS67.set_1)|exact HI0.out)) (gR HO397) (by decide)) hk (fun _ h=>h.2)) (fun _ h=>h.1));have n2_:=Aside0.mk (KeepBut.trans (by repeat (first|exact gW HK|apply KeepBut.set_)) hk (.inl rfl));have n3_:=Aside0.mk (hb);have n4_:=Aside0.mk (hi);clear HO393;clear HO397;clear HK;clear HB;clear HI0;have HO393:=n0_;have HO397:=n1_;have HK:=n2_;have HB:=n3_;have HI0:=n4_;clear n0_ n1_ n2_ n3_ n4_;(try clear hb);(try clear hb2);(try clear hk);(try clear hi))|((with_reducible refine gate_callee (f:=54) rfl ?_);refine goesL_ (some 13) rfl rfl Try.func54 (by kernel_rfl) rfl #[.pointer (some ⟨g,0,none⟩),.int .i64 16] rfl (by (try simp only [List.map_toArray,List.map_cons,List.map_nil]);first|done|rfl|(simp only [List.length_drop,List.length_take];rfl)) ?_;(with_reducible refine (spec_l15Rd_pick.calls k g s0_0 t399 16 t400 t401 w0 _ ?side1 ?side2 A5.out).mono ?_);(case side1=>repeat (first|(with_reducible first|exact HI0.out|apply IsS67.alloc|apply IsS67.drewN|apply IsS67.drew|apply IsS67.set_1)|exact HI0.out));(case side2=>repeat (first|exact gB HB|refine below_set ?_ (IsS67.ge HI0.out)));rintro e w54 ⟨rfl,hi,hb,hk⟩;refine ⟨_,rfl,?_⟩;have n0_:=Aside0.mk (Kd.N_mono (Kd.N_keep (Kd.N_mono (ok:=fun k_=>(k_ ≠ g∧some k_ ≠ (.slice Ao52 t395.length co52:Value).ownBlock)) (gN HO393) (fun k_ hk_=>(⟨hk_,hk_.1⟩:_∧k_ ≠ g))) hk (fun _ h=>h.2)) (fun _ h=>h.1));have n1_:=Aside0.mk (Kd.R_mono (Kd.R_keep (IsS67.apart (show IsS67 w0 _ g s0_0 t399 from by repeat (first|(with_reducible first|exact HI0.out|apply IsS67.alloc|apply IsS67.drewN|apply IsS67.drew|apply IsS67.set_1)|exact HI0.out)) (gR HO397) (by decide)) hk (fun _ h=>h.2)) (fun _ h=>h.1));have n2_:=Aside0.mk (KeepBut.trans (by repeat (first|exact gW HK|apply KeepBut.set_)) hk (.inl rfl));have n3_:=Aside0.mk (hb);have n4_:=Aside0.mk (hi);clear HO393;clear HO397;clear HK;clear HB;clear HI0;have HO393:=n0_;have HO397:=n1_;have HK:=n2_;have HB:=n3_;have HI0:=n4_;clear n0_ n1_ n2_ n3_ n4_;(try clear hb);(try clear hb2);(try clear hk);(try clear hi)))
    go_ret
    exact ⟨_,by first|rfl|(simp [errW_none,errW_some] <;> rfl)|(simp [*,errW_none,errW_some] <;> rfl),gR HO397,by repeat (first|(with_reducible first|exact HI0.out|apply IsS67.alloc|apply IsS67.drewN|apply IsS67.drew|apply IsS67.set_1)|exact HI0.out),by repeat (first|exact gB HB|refine below_set ?_ (IsS67.ge HI0.out)),by repeat (first|exact gW HK|apply KeepBut.set_)⟩
end Go.Proofs.Ytdhdfmmefghijab.P
namespace Go.Proofs.Ytdhdfmmefghijab.P
open Go.RowKit Go.Proofs.YtdhdfmmefghijabW.PrintWords Go.Proofs.YtdhdfmmefghijabW.PrintLast Go.Proofs.YtdhdfmmefghijabW.PrintMore
attribute [local go_sem] max2_int min2_int max_two min_two max_three min_three max_four min_four
set_option linter.unusedVariables false
set_option linter.unusedSimpArgs false
def spec_DrawCatLayouts.f (k:Nat) (l0:List Int):Option ((List (SRow)) × (List (SRow))):=(spec_l15Open.f l0).bind fun bt417=>((spec_l2Draw.f k bt417.1 bt417.2).bind fun bt420=>((spec_l2Draw.f k bt417.1 bt420.2).bind fun bt424=>(some (bt420.1,bt424.1))))
set_option maxHeartbeats 8000000 in
set_option maxRecDepth 100000 in
theorem spec_DrawCatLayouts.calls (k:Nat) (A0:Option Addr) (c0:Nat) (l0:List Int) (r1:List (SRow)) (r2:List (SRow)) (w:World) (hr0:Kd.C (Kd.int .u8) w A0 l0.length l0) (hc0:l0.length≤c0) (h:spec_DrawCatLayouts.f k l0=some (r1,r2)) :
  Calls Try.prog 15 #[.slice A0 l0.length c0] w fun e w'=>∃ v0_ v1_:Value,e=.returned (.tuple #[v0_,v1_])∧Kd.R k30 30 w' w.heap.size (fun k_=>some k_ ≠ (v1_:Value).ownBlock) v0_ r1∧Kd.R k30 30 w' w.heap.size (fun k_=>some k_ ≠ (v0_:Value).ownBlock) v1_ r2∧Below w.heap.size w w':=by
 have HR0:=Aside0.mk hr0
 have HC0:=Aside0.mk hc0
 clear hr0 hc0
 have HB:=Aside0.mk (Below.refl w.heap.size w)
 have H:((spec_l15Open.f l0).bind fun bt417=>((spec_l2Draw.f k bt417.1 bt417.2).bind fun bt420=>((spec_l2Draw.f k bt417.1 bt420.2).bind fun bt424=>(some (bt420.1,bt424.1)))))=some (r1,r2):=h
 clear h
 replace H:=Option.bind_eq_some_iff.mp H
 obtain ⟨⟨t417,t418⟩,A20,H⟩:=H
 replace H:((spec_l2Draw.f k t417 t418).bind fun bt420=>((spec_l2Draw.f k t417 bt420.2).bind fun bt424=>(some (bt420.1,bt424.1))))=some (r1,r2):=H
 have A2:=Aside0.mk A20
 clear A20
 replace H:=Option.bind_eq_some_iff.mp H
 obtain ⟨⟨t420,t423⟩,A30,H⟩:=H
 replace H:((spec_l2Draw.f k t417 t423).bind fun bt424=>(some (t420,bt424.1)))=some (r1,r2):=H
 have A3:=Aside0.mk A30
 clear A30
 replace H:=Option.bind_eq_some_iff.mp H
 obtain ⟨⟨t424,t427⟩,A40,H⟩:=H
 replace H:(some (t420,t424))=some (r1,r2):=H
 have A4:=Aside0.mk A40
 clear A40
 simp only [Option.some.injEq,Prod.mk.injEq] at H
 obtain ⟨rfl,rfl⟩:=H
 go_enter Try.func15,Try.ntmps15
 go_wp2_with (first|((with_reducible refine gate_callee (f:=40) rfl ?_);refine goesL_ (some 6) rfl rfl Try.func40 (by kernel_rfl) rfl #[.slice A0 l0.length c0] rfl (by (try simp only [List.map_toArray,List.map_cons,List.map_nil]);first|done|rfl|(simp only [List.length_drop,List.length_take];rfl)) ?_;(with_reducible refine (spec_l15Open.calls _ _ l0 t417 t418 w _ ?side1 ?side2 ?side3 A2.out).mono ?_);(case side1=>exact gB HB);(case side2=>exact HR0.out);(case side3=>exact HC0.out);rintro e w5 ⟨g419,rfl,hi,hb,hb2⟩;refine ⟨_,rfl,?_⟩;have n0_:=Aside0.mk (hb);have n1_:=Aside0.mk (hi);clear HB;have HB:=n0_;have HI419:=n1_;clear n0_ n1_;(try clear hb);(try clear hb2);(try clear hk);(try clear hi))|((with_reducible refine gate_callee (f:=41) rfl ?_);refine goesL_ (some 8) rfl rfl Try.func41 (by kernel_rfl) rfl #[.pointer (some ⟨g419,0,none⟩)] rfl (by (try simp only [List.map_toArray,List.map_cons,List.map_nil]);first|done|rfl|(simp only [List.length_drop,List.length_take];rfl)) ?_;(with_reducible refine (spec_l2Draw.calls k g419 t417 t418 t420 t423 w _ ?side1 ?side2 A3.out).mono ?_);(case side1=>repeat (first|(with_reducible first|exact HI419.out|apply IsS67.alloc|apply IsS67.drewN|apply IsS67.drew|apply IsS67.set_1)|exact HI419.out));(case side2=>repeat (first|exact gB HB|refine below_set ?_ (IsS67.ge HI419.out)));rintro e w6 ⟨v421,rfl,ho0,hi,hb,hk⟩;refine ⟨_,rfl,?_⟩;have n0_:=Aside0.mk (Kd.R_lower ho0 (below_size (by repeat (first|exact gB HB|refine below_set ?_ (IsS67.ge HI419.out)))));have n1_:=Aside0.mk (hb);have n2_:=Aside0.mk (hi);clear HB;clear HI419;have HO422:=n0_;have HB:=n1_;have HI419:=n2_;clear n0_ n1_ n2_;(try clear hb);(try clear hb2);(try clear hk);(try clear hi);(try clear ho0))|((with_reducible refine gate_callee (f:=41) rfl ?_);refine goesL_ (some 10) rfl rfl Try.func41 (by kernel_rfl) rfl #[.pointer (some ⟨g419,0,none⟩)] rfl (by (try simp only [List.map_toArray,List.map_cons,List.map_nil]);first|done|rfl|(simp only [List.length_drop,List.length_take];rfl)) ?_;(with_reducible refine (spec_l2Draw.calls k g419 t417 t423 t424 t427 w _ ?side1 ?side2 A4.out).mono ?_);(case side1=>repeat (first|(with_reducible first|exact HI419.out|apply IsS67.alloc|apply IsS67.drewN|apply IsS67.drew|apply IsS67.set_1)|exact HI419.out));(case side2=>repeat (first|exact gB HB|refine below_set ?_ (IsS67.ge HI419.out)));rintro e w7 ⟨v425,rfl,ho0,hi,hb,hk⟩;refine ⟨_,rfl,?_⟩;have n0_:=Aside0.mk (Kd.R_mono (Kd.R_told (Kd.R_oldK (IsS67.apart (show IsS67 w _ g419 t417 t423 from by repeat (first|(with_reducible first|exact HI419.out|apply IsS67.alloc|apply IsS67.drewN|apply IsS67.drew|apply IsS67.set_1)|exact HI419.out)) (gR HO422) (by decide)) hk) (Kd.R_base ho0)) (fun _ h_=>h_.1));have n1_:=Aside0.mk (Kd.R_lower (Kd.R_new' ho0 (Kd.R_lt (gR HO422))) (below_size (by repeat (first|exact gB HB|refine below_set ?_ (IsS67.ge HI419.out)))));have n2_:=Aside0.mk (hb);have n3_:=Aside0.mk (hi);clear HO422;clear HB;clear HI419;have HO422:=n0_;have HO426:=n1_;have HB:=n2_;have HI419:=n3_;clear n0_ n1_ n2_ n3_;(try clear hb);(try clear hb2);(try clear hk);(try clear hi);(try clear ho0)))
 go_ret2
 exact ⟨_,_,by first|rfl|(simp [errW_none,errW_some] <;> rfl)|(simp [*,errW_none,errW_some] <;> rfl),by (with_reducible repeat (first|apply Kd.R_alloc|apply Kd.R_drewN|apply Kd.R_drew));exact Kd.R_mono HO422.out (fun _ hk=>hk.2),by (with_reducible repeat (first|apply Kd.R_alloc|apply Kd.R_drewN|apply Kd.R_drew));exact Kd.R_mono HO426.out (fun _ hk=>hk.2),by repeat (first|exact gB HB|refine below_set ?_ (IsS67.ge HI419.out))⟩
end Go.Proofs.Ytdhdfmmefghijab.P
namespace Go.Proofs.Ytdhdfmmefghijab.P
open Go.RowKit Go.Proofs.YtdhdfmmefghijabW.PrintWords Go.Proofs.YtdhdfmmefghijabW.PrintLast Go.Proofs.YtdhdfmmefghijabW.PrintMore
attribute [local go_sem] max2_int min2_int max_two min_two max_three min_three max_four min_four
set_option linter.unusedVariables false
set_option linter.unusedSimpArgs false
def strings_IndexByte.f (a0:ByteArray) (a1:Int):Option (Int):=some (Lib.indexByte a0.data.toList a1.toNat.toUInt8)
theorem strings_IndexByte.calls (a0:ByteArray) (a1:Int) (r:Int) (w:World) (h:strings_IndexByte.f a0 a1=some r) :
  Calls Try.prog 83 #[.string a0,.int .u8 a1] w fun e w'=>e=.returned (.int .i64 r)∧Drawn0 w w':=by
 obtain rfl:=Option.some.inj h
 refine (Try.strings_IndexByte a0 a1 w).mono ?_
 rintro e w' ⟨rfl,rfl⟩
 exact ⟨rfl,Drawn0.refl _⟩
end Go.Proofs.Ytdhdfmmefghijab.P
namespace Go.Proofs.Ytdhdfmmefghijab.P
open Go.RowKit Go.Proofs.YtdhdfmmefghijabW.PrintWords Go.Proofs.YtdhdfmmefghijabW.PrintLast Go.Proofs.YtdhdfmmefghijabW.PrintMore
attribute [local go_sem] max2_int min2_int max_two min_two max_three min_three max_four min_four
set_option linter.unusedVariables false
set_option linter.unusedSimpArgs false
mutual
def impl_TextValid.l0:Nat→ByteArray→Int→Option (Bool)
 | 0,_,_=>none
 | k+1,x0,x3=>if x3 < (x0.size:Int) then (if 0≤x3 then (if (bt x0 x3) ≥ 97 then (if (bt x0 x3)≤122 then (impl_TextValid.j1 k x0 x3 (!true)) else (if (bt x0 x3) ≥ 48 then (if (bt x0 x3)≤57 then (impl_TextValid.j1 k x0 x3 (!true)) else ((strings_IndexByte.f (⟨#[44,58,61,123,125,40,41,91,93]⟩:ByteArray) (bt x0 x3)).bind fun t428=>(impl_TextValid.j1 k x0 x3 (!(decide (t428 ≥ 0)))))) else ((strings_IndexByte.f (⟨#[44,58,61,123,125,40,41,91,93]⟩:ByteArray) (bt x0 x3)).bind fun t429=>(impl_TextValid.j1 k x0 x3 (!(decide (t429 ≥ 0))))))) else (if (bt x0 x3) ≥ 48 then (if (bt x0 x3)≤57 then (impl_TextValid.j1 k x0 x3 (!true)) else ((strings_IndexByte.f (⟨#[44,58,61,123,125,40,41,91,93]⟩:ByteArray) (bt x0 x3)).bind fun t430=>(impl_TextValid.j1 k x0 x3 (!(decide (t430 ≥ 0)))))) else ((strings_IndexByte.f (⟨#[44,58,61,123,125,40,41,91,93]⟩:ByteArray) (bt x0 x3)).bind fun t431=>(impl_TextValid.j1 k x0 x3 (!(decide (t431 ≥ 0))))))) else (none)) else (if (x0.size:Int) ≥ 1 then (some (decide ((x0.size:Int)≤12))) else (some false))
def impl_TextValid.j1:Nat→ByteArray→Int→Bool→Option (Bool)
 | 0,_,_,_=>none
 | k+1,x0,x3,x39=>if x39=true then (some false) else (impl_TextValid.l0 k x0 (wrap64 (x3+1)))
end
def impl_TextValid.f (k:Nat) (a0:ByteArray):Option (Bool):=impl_TextValid.l0 k a0 0
set_option maxHeartbeats 8000000 in
set_option maxRecDepth 100000 in
theorem impl_TextValid.calls (k:Nat) (a0:ByteArray) (r:Bool) (w:World) (h:impl_TextValid.f k a0=some r) :
  Calls Try.prog 68 #[.string a0] w fun e w'=>e=.returned (.bool r)∧Drawn0 w w':=by
 have H:(impl_TextValid.l0 k a0 0)=some r:=h
 clear h
 have H':=Aside0.mk H
 clear H
 go_enter Try.func68,Try.ntmps68
 go_wp2
 go_loopg [3] k (fun kq v3 w'=>∃ (x3_1:Int),v3=.int .i64 x3_1∧Aside0 (impl_TextValid.l0 kq a0 x3_1=some r)∧Aside0 (kq≤k)∧Drawn0 w w')
 case atStart=>exact ⟨(0),(by first|rfl|(simp;done)|(simp [*];done)),H',⟨Nat.le_refl _⟩,by repeat (first|exact Drawn0.refl _|apply Drawn0.step)⟩
 case round =>
  clear H'
  obtain ⟨x3_1,rfl,HA,HK1,⟨m1,rfl⟩⟩:=hrel
  cases gk with
  | zero=>exact absurd HA.out (by simp [impl_TextValid.l0])
  | succ k1 =>
   have H:=HA.out
   clear HA
   simp only [impl_TextValid.l0] at H
   by_cases c2:x3_1 < (a0.size:Int)
   ·rw [if_pos c2] at H
    have c2b0:decide (x3_1 < (a0.size:Int))=true:=decide_eq_true c2
    clear c2
    have HC3:=Aside0.mk H
    clear H
    go_upto_region 4 with (fail)
    go_cut [39] (fun v39 wc=>∃ (kq:Nat) (x39_2:Bool),v39=.bool x39_2∧Aside0 (impl_TextValid.j1 kq a0 x3_1 x39_2=some r)∧Aside0 (kq≤k1)∧Drawn0 w wc)
    case first =>
     have H:=HC3.out
     clear HC3
     by_cases c4:0≤x3_1
     ·rw [if_pos c4] at H
      have c4b0:decide (0≤x3_1)=true:=decide_eq_true c4
      clear c4
      (first|rw [c4b0]|(simp only [i64_w,i32_w];rw [c4b0])|skip)
      by_cases c6:(bt a0 x3_1) ≥ 97
      ·rw [if_pos c6] at H
       have c6b0:decide (97≤(bt a0 x3_1))=true:=decide_eq_true c6
       clear c6
       by_cases c8:(bt a0 x3_1)≤122
       ·rw [if_pos c8] at H
        have c8b0:decide ((bt a0 x3_1)≤122)=true:=decide_eq_true c8
        clear c8
        have H':=Aside0.mk H
        clear H
        have p5:0≤(x3_1:Int):=of_decide_eq_true (by first|(with_reducible assumption)|assumption)
        have q5:x3_1 < (a0.size:Int):=of_decide_eq_true (by first|(with_reducible assumption)|assumption)
        have hx5:=bt_at a0 x3_1
        replace p5:=eq_true p5
        replace q5:=eq_true q5
        have p7:0≤(x3_1:Int):=of_decide_eq_true (by first|(with_reducible assumption)|assumption)
        have q7:x3_1 < (a0.size:Int):=of_decide_eq_true (by first|(with_reducible assumption)|assumption)
        have hx7:=bt_at a0 x3_1
        replace p7:=eq_true p7
        replace q7:=eq_true q7
        go_wp2
        go_meet
        case rel=>exact ⟨_,(!true),(by first|rfl|(simp;done)|(simp [*];done)),H',⟨by have:=HK1.out;first|omega|exact Nat.le_refl _⟩,by repeat (first|exact Drawn0.refl _|apply Drawn0.step)⟩
       ·rw [if_neg c8] at H
        have c8b0:decide ((bt a0 x3_1)≤122)=false:=decide_eq_false c8
        clear c8
        by_cases c10:(bt a0 x3_1) ≥ 48
        ·rw [if_pos c10] at H
         have c10b0:decide (48≤(bt a0 x3_1))=true:=decide_eq_true c10
         clear c10
         by_cases c12:(bt a0 x3_1)≤57
         ·rw [if_pos c12] at H
          have c12b0:decide ((bt a0 x3_1)≤57)=true:=decide_eq_true c12
          clear c12
          have H':=Aside0.mk H
          clear H
          have p5:0≤(x3_1:Int):=of_decide_eq_true (by first|(with_reducible assumption)|assumption)
          have q5:x3_1 < (a0.size:Int):=of_decide_eq_true (by first|(with_reducible assumption)|assumption)
          have hx5:=bt_at a0 x3_1
          replace p5:=eq_true p5
          replace q5:=eq_true q5
          have p7:0≤(x3_1:Int):=of_decide_eq_true (by first|(with_reducible assumption)|assumption)
          have q7:x3_1 < (a0.size:Int):=of_decide_eq_true (by first|(with_reducible assumption)|assumption)
          have hx7:=bt_at a0 x3_1
          replace p7:=eq_true p7
          replace q7:=eq_true q7
          have p9:0≤(x3_1:Int):=of_decide_eq_true (by first|(with_reducible assumption)|assumption)
          have q9:x3_1 < (a0.size:Int):=of_decide_eq_true (by first|(with_reducible assumption)|assumption)
          have hx9:=bt_at a0 x3_1
          replace p9:=eq_true p9
          replace q9:=eq_true q9
          have p11:0≤(x3_1:Int):=of_decide_eq_true (by first|(with_reducible assumption)|assumption)
          have q11:x3_1 < (a0.size:Int):=of_decide_eq_true (by first|(with_reducible assumption)|assumption)
          have hx11:=bt_at a0 x3_1
          replace p11:=eq_true p11
          replace q11:=eq_true q11
          go_wp2
          go_meet
          case rel=>exact ⟨_,(!true),(by first|rfl|(simp;done)|(simp [*];done)),H',⟨by have:=HK1.out;first|omega|exact Nat.le_refl _⟩,by repeat (first|exact Drawn0.refl _|apply Drawn0.step)⟩
         ·rw [if_neg c12] at H
          have c12b0:decide ((bt a0 x3_1)≤57)=false:=decide_eq_false c12
          clear c12
          replace H:=Option.bind_eq_some_iff.mp H
          obtain ⟨t428,A140,H⟩:=H
          replace H:(impl_TextValid.j1 k1 a0 x3_1 (!(decide (t428 ≥ 0))))=some r:=H
          have A14:=Aside0.mk A140
          clear A140
          have H':=Aside0.mk H
          clear H
          have p5:0≤(x3_1:Int):=of_decide_eq_true (by first|(with_reducible assumption)|assumption)
          have q5:x3_1 < (a0.size:Int):=of_decide_eq_true (by first|(with_reducible assumption)|assumption)
          have hx5:=bt_at a0 x3_1
          replace p5:=eq_true p5
          replace q5:=eq_true q5
          have p7:0≤(x3_1:Int):=of_decide_eq_true (by first|(with_reducible assumption)|assumption)
          have q7:x3_1 < (a0.size:Int):=of_decide_eq_true (by first|(with_reducible assumption)|assumption)
          have hx7:=bt_at a0 x3_1
          replace p7:=eq_true p7
          replace q7:=eq_true q7
          have p9:0≤(x3_1:Int):=of_decide_eq_true (by first|(with_reducible assumption)|assumption)
          have q9:x3_1 < (a0.size:Int):=of_decide_eq_true (by first|(with_reducible assumption)|assumption)
          have hx9:=bt_at a0 x3_1
          replace p9:=eq_true p9
          replace q9:=eq_true q9
          have p11:0≤(x3_1:Int):=of_decide_eq_true (by first|(with_reducible assumption)|assumption)
          have q11:x3_1 < (a0.size:Int):=of_decide_eq_true (by first|(with_reducible assumption)|assumption)
          have hx11:=bt_at a0 x3_1
          replace p11:=eq_true p11
          replace q11:=eq_true q11
          have p13:0≤(x3_1:Int):=of_decide_eq_true (by first|(with_reducible assumption)|assumption)
          have q13:x3_1 < (a0.size:Int):=of_decide_eq_true (by first|(with_reducible assumption)|assumption)
          have hx13:=bt_at a0 x3_1
          replace p13:=eq_true p13
          replace q13:=eq_true q13
          go_wp2_with (first|(go_at_call 83;(with_reducible refine (strings_IndexByte.calls (⟨#[44,58,61,123,125,40,41,91,93]⟩:ByteArray) (bt a0 x3_1) t428 _ A14.out).mono ?_);rintro e w' ⟨rfl,⟨nd,rfl⟩⟩))
          go_meet
          case rel=>exact ⟨_,(!(decide (t428 ≥ 0))),(by first|rfl|(simp;done)|(simp [*];done)),H',⟨by have:=HK1.out;first|omega|exact Nat.le_refl _⟩,by repeat (first|exact Drawn0.refl _|apply Drawn0.step)⟩
        ·rw [if_neg c10] at H
         have c10b0:decide (48≤(bt a0 x3_1))=false:=decide_eq_false c10
         clear c10
         replace H:=Option.bind_eq_some_iff.mp H
         obtain ⟨t429,A160,H⟩:=H
         replace H:(impl_TextValid.j1 k1 a0 x3_1 (!(decide (t429 ≥ 0))))=some r:=H
         have A16:=Aside0.mk A160
         clear A160
         have H':=Aside0.mk H
         clear H
         have p5:0≤(x3_1:Int):=of_decide_eq_true (by first|(with_reducible assumption)|assumption)
         have q5:x3_1 < (a0.size:Int):=of_decide_eq_true (by first|(with_reducible assumption)|assumption)
         have hx5:=bt_at a0 x3_1
         replace p5:=eq_true p5
         replace q5:=eq_true q5
         have p7:0≤(x3_1:Int):=of_decide_eq_true (by first|(with_reducible assumption)|assumption)
         have q7:x3_1 < (a0.size:Int):=of_decide_eq_true (by first|(with_reducible assumption)|assumption)
         have hx7:=bt_at a0 x3_1
         replace p7:=eq_true p7
         replace q7:=eq_true q7
         have p9:0≤(x3_1:Int):=of_decide_eq_true (by first|(with_reducible assumption)|assumption)
         have q9:x3_1 < (a0.size:Int):=of_decide_eq_true (by first|(with_reducible assumption)|assumption)
         have hx9:=bt_at a0 x3_1
         replace p9:=eq_true p9
         replace q9:=eq_true q9
         have p15:0≤(x3_1:Int):=of_decide_eq_true (by first|(with_reducible assumption)|assumption)
         have q15:x3_1 < (a0.size:Int):=of_decide_eq_true (by first|(with_reducible assumption)|assumption)
         have hx15:=bt_at a0 x3_1
         replace p15:=eq_true p15
         replace q15:=eq_true q15
         go_wp2_with (first|(go_at_call 83;(with_reducible refine (strings_IndexByte.calls (⟨#[44,58,61,123,125,40,41,91,93]⟩:ByteArray) (bt a0 x3_1) t429 _ A16.out).mono ?_);rintro e w' ⟨rfl,⟨nd,rfl⟩⟩))
         go_meet
         case rel=>exact ⟨_,(!(decide (t429 ≥ 0))),(by first|rfl|(simp;done)|(simp [*];done)),H',⟨by have:=HK1.out;first|omega|exact Nat.le_refl _⟩,by repeat (first|exact Drawn0.refl _|apply Drawn0.step)⟩
      ·rw [if_neg c6] at H
       have c6b0:decide (97≤(bt a0 x3_1))=false:=decide_eq_false c6
       clear c6
       by_cases c18:(bt a0 x3_1) ≥ 48
       ·rw [if_pos c18] at H
        have c18b0:decide (48≤(bt a0 x3_1))=true:=decide_eq_true c18
        clear c18
        by_cases c20:(bt a0 x3_1)≤57
        ·rw [if_pos c20] at H
         have c20b0:decide ((bt a0 x3_1)≤57)=true:=decide_eq_true c20
         clear c20
         have H':=Aside0.mk H
         clear H
         have p5:0≤(x3_1:Int):=of_decide_eq_true (by first|(with_reducible assumption)|assumption)
         have q5:x3_1 < (a0.size:Int):=of_decide_eq_true (by first|(with_reducible assumption)|assumption)
         have hx5:=bt_at a0 x3_1
         replace p5:=eq_true p5
         replace q5:=eq_true q5
         have p17:0≤(x3_1:Int):=of_decide_eq_true (by first|(with_reducible assumption)|assumption)
         have q17:x3_1 < (a0.size:Int):=of_decide_eq_true (by first|(with_reducible assumption)|assumption)
         have hx17:=bt_at a0 x3_1
         replace p17:=eq_true p17
         replace q17:=eq_true q17
         have p19:0≤(x3_1:Int):=of_decide_eq_true (by first|(with_reducible assumption)|assumption)
         have q19:x3_1 < (a0.size:Int):=of_decide_eq_true (by first|(with_reducible assumption)|assumption)
         have hx19:=bt_at a0 x3_1
         replace p19:=eq_true p19
         replace q19:=eq_true q19
         go_wp2
         go_meet
         case rel=>exact ⟨_,(!true),(by first|rfl|(simp;done)|(simp [*];done)),H',⟨by have:=HK1.out;first|omega|exact Nat.le_refl _⟩,by repeat (first|exact Drawn0.refl _|apply Drawn0.step)⟩
        ·rw [if_neg c20] at H
         have c20b0:decide ((bt a0 x3_1)≤57)=false:=decide_eq_false c20
         clear c20
         replace H:=Option.bind_eq_some_iff.mp H
         obtain ⟨t430,A220,H⟩:=H
         replace H:(impl_TextValid.j1 k1 a0 x3_1 (!(decide (t430 ≥ 0))))=some r:=H
         have A22:=Aside0.mk A220
         clear A220
         have H':=Aside0.mk H
         clear H
         have p5:0≤(x3_1:Int):=of_decide_eq_true (by first|(with_reducible assumption)|assumption)
         have q5:x3_1 < (a0.size:Int):=of_decide_eq_true (by first|(with_reducible assumption)|assumption)
         have hx5:=bt_at a0 x3_1
         replace p5:=eq_true p5
         replace q5:=eq_true q5
         have p17:0≤(x3_1:Int):=of_decide_eq_true (by first|(with_reducible assumption)|assumption)
         have q17:x3_1 < (a0.size:Int):=of_decide_eq_true (by first|(with_reducible assumption)|assumption)
         have hx17:=bt_at a0 x3_1
         replace p17:=eq_true p17
         replace q17:=eq_true q17
         have p19:0≤(x3_1:Int):=of_decide_eq_true (by first|(with_reducible assumption)|assumption)
         have q19:x3_1 < (a0.size:Int):=of_decide_eq_true (by first|(with_reducible assumption)|assumption)
         have hx19:=bt_at a0 x3_1
         replace p19:=eq_true p19
         replace q19:=eq_true q19
         have p21:0≤(x3_1:Int):=of_decide_eq_true (by first|(with_reducible assumption)|assumption)
         have q21:x3_1 < (a0.size:Int):=of_decide_eq_true (by first|(with_reducible assumption)|assumption)
         have hx21:=bt_at a0 x3_1
         replace p21:=eq_true p21
         replace q21:=eq_true q21
         go_wp2_with (first|(go_at_call 83;(with_reducible refine (strings_IndexByte.calls (⟨#[44,58,61,123,125,40,41,91,93]⟩:ByteArray) (bt a0 x3_1) t430 _ A22.out).mono ?_);rintro e w' ⟨rfl,⟨nd,rfl⟩⟩))
         go_meet
         case rel=>exact ⟨_,(!(decide (t430 ≥ 0))),(by first|rfl|(simp;done)|(simp [*];done)),H',⟨by have:=HK1.out;first|omega|exact Nat.le_refl _⟩,by repeat (first|exact Drawn0.refl _|apply Drawn0.step)⟩
       ·rw [if_neg c18] at H
        have c18b0:decide (48≤(bt a0 x3_1))=false:=decide_eq_false c18
        clear c18
        replace H:=Option.bind_eq_some_iff.mp H
        obtain ⟨t431,A240,H⟩:=H
        replace H:(impl_TextValid.j1 k1 a0 x3_1 (!(decide (t431 ≥ 0))))=some r:=H
        have A24:=Aside0.mk A240
        clear A240
        have H':=Aside0.mk H
        clear H
        have p5:0≤(x3_1:Int):=of_decide_eq_true (by first|(with_reducible assumption)|assumption)
        have q5:x3_1 < (a0.size:Int):=of_decide_eq_true (by first|(with_reducible assumption)|assumption)
        have hx5:=bt_at a0 x3_1
        replace p5:=eq_true p5
        replace q5:=eq_true q5
        have p17:0≤(x3_1:Int):=of_decide_eq_true (by first|(with_reducible assumption)|assumption)
        have q17:x3_1 < (a0.size:Int):=of_decide_eq_true (by first|(with_reducible assumption)|assumption)
        have hx17:=bt_at a0 x3_1
        replace p17:=eq_true p17
        replace q17:=eq_true q17
        have p23:0≤(x3_1:Int):=of_decide_eq_true (by first|(with_reducible assumption)|assumption)
        have q23:x3_1 < (a0.size:Int):=of_decide_eq_true (by first|(with_reducible assumption)|assumption)
        have hx23:=bt_at a0 x3_1
        replace p23:=eq_true p23
        replace q23:=eq_true q23
        go_wp2_with (first|(go_at_call 83;(with_reducible refine (strings_IndexByte.calls (⟨#[44,58,61,123,125,40,41,91,93]⟩:ByteArray) (bt a0 x3_1) t431 _ A24.out).mono ?_);rintro e w' ⟨rfl,⟨nd,rfl⟩⟩))
        go_meet
        case rel=>exact ⟨_,(!(decide (t431 ≥ 0))),(by first|rfl|(simp;done)|(simp [*];done)),H',⟨by have:=HK1.out;first|omega|exact Nat.le_refl _⟩,by repeat (first|exact Drawn0.refl _|apply Drawn0.step)⟩
     ·rw [if_neg c4] at H
      exact absurd H (by simp)
    case rest =>
     clear HC3
     try clear c1 p1 q1 hx1 c2 c2b0 p2 q2 hx2 c4 c4b0 p5 q5 hx5 c6 c6b0 p7 q7 hx7 c8 c8b0 p9 q9 hx9 c10 c10b0 p11 q11 hx11 c12 c12b0 p13 q13 hx13 p15 q15 hx15 p17 q17 hx17 c18 c18b0 p19 q19 hx19 c20 c20b0 p21 q21 hx21 p23 q23 hx23 p11 p13 p15 p17 p19 p21 p23 p5 p7 p9 q11 q13 q15 q17 q19 q21 q23 q5 q7 q9
     obtain ⟨kq,x39_2,rfl,HA,HJ2,⟨mc2,rfl⟩⟩:=hcut
     cases kq with
     | zero=>exact absurd HA.out (by simp [impl_TextValid.j1])
     | succ kj2 =>
      have H:=HA.out
      clear HA
      simp only [impl_TextValid.j1] at H
      by_cases c25:x39_2=true
      ·subst c25
       have H1:(some false)=some r:=by rw [if_pos rfl] at H;exact H
       clear H
       have H:=H1
       clear H1
       obtain rfl:=Option.some.inj H
       go_wp2
       go_ret
       exact ⟨by first|rfl|(simp;done)|(simp [*];done),by repeat (first|exact Drawn0.refl _|apply Drawn0.step)⟩
      ·replace c25:=Bool.eq_false_iff.mpr c25
       subst c25
       have H1:(impl_TextValid.l0 kj2 a0 (wrap64 (x3_1+1)))=some r:=by rw [if_neg (show ¬ (false=true) by decide)] at H;exact H
       clear H
       have H:=H1
       clear H1
       have H':=Aside0.mk H
       clear H
       go_wp2
       go_roundg kj2
       case measure=>have:=HK1.out;have:=HJ2.out;omega
       case rel=>exact ⟨(wrap64 (x3_1+1)),(by first|rfl|(simp;done)|(simp [*];done)),H',⟨by have:=HK1.out;have:=HJ2.out;omega⟩,by repeat (first|exact Drawn0.refl _|apply Drawn0.step)⟩
   ·rw [if_neg c2] at H
    have c2b0:decide (x3_1 < (a0.size:Int))=false:=decide_eq_false c2
    clear c2
    by_cases c26:(a0.size:Int) ≥ 1
    ·rw [if_pos c26] at H
     have c26b0:decide (1≤(a0.size:Int))=true:=decide_eq_true c26
     have c26b1:decide (1≤a0.size)=true:=decide_eq_true (by omega)
     clear c26
     obtain rfl:=Option.some.inj H
     go_wp2
     go_ret
     exact ⟨by first|rfl|(simp;done)|(simp [*];done),by repeat (first|exact Drawn0.refl _|apply Drawn0.step)⟩
    ·rw [if_neg c26] at H
     have c26b0:decide (1≤(a0.size:Int))=false:=decide_eq_false c26
     have c26b1:decide (1≤a0.size)=false:=decide_eq_false (by omega)
     clear c26
     obtain rfl:=Option.some.inj H
     go_wp2
     go_ret
     exact ⟨by first|rfl|(simp;done)|(simp [*];done),by repeat (first|exact Drawn0.refl _|apply Drawn0.step)⟩
end Go.Proofs.Ytdhdfmmefghijab.P
namespace Go.Proofs.Ytdhdfmmefghijab.P
open Go.RowKit Go.Proofs.YtdhdfmmefghijabW.PrintWords Go.Proofs.YtdhdfmmefghijabW.PrintLast Go.Proofs.YtdhdfmmefghijabW.PrintMore
attribute [local go_sem] max2_int min2_int max_two min_two max_three min_three max_four min_four
set_option linter.unusedVariables false
set_option linter.unusedSimpArgs false
def impl_rowBytes.l0:Nat→ByteArray→Int→Option (Bool)
 | 0,_,_=>none
 | k+1,x0,x3=>if x3 < (x0.size:Int) then (if 0≤x3 then (if (bt x0 x3)=32 then (impl_rowBytes.l0 k x0 (wrap64 (x3+1))) else (if x3≤(wrap64 (x3+1)) then (if (wrap64 (x3+1))≤(x0.size:Int) then ((impl_TextValid.f k (x0.extract (x3:Int).toNat ((wrap64 (x3+1)):Int).toNat)).bind fun t432=>(if t432=true then (impl_rowBytes.l0 k x0 (wrap64 (x3+1))) else (some false))) else (none)) else (none))) else (none)) else (some true)
def impl_rowBytes.f (k:Nat) (a0:ByteArray):Option (Bool):=impl_rowBytes.l0 k a0 0
set_option maxHeartbeats 8000000 in
set_option maxRecDepth 100000 in
theorem impl_rowBytes.calls (k:Nat) (a0:ByteArray) (r:Bool) (w:World) (h:impl_rowBytes.f k a0=some r) :
  Calls Try.prog 45 #[.string a0] w fun e w'=>e=.returned (.bool r)∧Drawn0 w w':=by
 have H:(impl_rowBytes.l0 k a0 0)=some r:=h
 clear h
 have H':=Aside0.mk H
 clear H
 go_enter Try.func45,Try.ntmps45
 go_wp2
 go_loopg [3] k (fun kq v3 w'=>∃ (x3_1:Int),v3=.int .i64 x3_1∧Aside0 (impl_rowBytes.l0 kq a0 x3_1=some r)∧Aside0 (kq≤k)∧Drawn0 w w')
 case atStart=>exact ⟨(0),(by first|rfl|(simp;done)|(simp [*];done)),H',⟨Nat.le_refl _⟩,by repeat (first|exact Drawn0.refl _|apply Drawn0.step)⟩
 case round =>
  clear H'
  obtain ⟨x3_1,rfl,HA,HK1,⟨m1,rfl⟩⟩:=hrel
  cases gk with
  | zero=>exact absurd HA.out (by simp [impl_rowBytes.l0])
  | succ k1 =>
   have H:=HA.out
   clear HA
   simp only [impl_rowBytes.l0] at H
   by_cases c2:x3_1 < (a0.size:Int)
   ·rw [if_pos c2] at H
    have c2b0:decide (x3_1 < (a0.size:Int))=true:=decide_eq_true c2
    clear c2
    by_cases c3:0≤x3_1
    ·rw [if_pos c3] at H
     have c3b0:decide (0≤x3_1)=true:=decide_eq_true c3
     clear c3
     by_cases c5:(bt a0 x3_1)=32
     ·rw [if_pos c5] at H
      have c5b0:((bt a0 x3_1) == 32)=true:=beq_iff_eq.mpr c5
      have c5b1:((bt a0 x3_1) != 32)=false:=bne_eq_false_iff_eq.mpr c5
      clear c5
      have H':=Aside0.mk H
      clear H
      have p4:0≤(x3_1:Int):=of_decide_eq_true (by first|(with_reducible assumption)|assumption)
      have q4:x3_1 < (a0.size:Int):=of_decide_eq_true (by first|(with_reducible assumption)|assumption)
      have hx4:=bt_at a0 x3_1
      replace p4:=eq_true p4
      replace q4:=eq_true q4
      go_wp2
      go_roundg k1
      case measure=>have:=HK1.out;omega
      case rel=>exact ⟨(wrap64 (x3_1+1)),(by first|rfl|(simp;done)|(simp [*];done)),H',⟨by have:=HK1.out;omega⟩,by repeat (first|exact Drawn0.refl _|apply Drawn0.step)⟩
     ·rw [if_neg c5] at H
      have c5b0:((bt a0 x3_1) == 32)=false:=beq_eq_false_iff_ne.mpr c5
      have c5b1:((bt a0 x3_1) != 32)=true:=bne_iff_ne.mpr c5
      have c6b0:=eq_true (of_decide_eq_true (by first|(with_reducible assumption)|assumption):0≤x3_1)
      by_cases c7:x3_1≤(wrap64 (x3_1+1))
      ·rw [if_pos c7] at H
       have c7b0:=eq_true c7
       have c7b1:decide (x3_1≤(wrap64 (x3_1+1)))=true:=decide_eq_true c7
       by_cases c8:(wrap64 (x3_1+1))≤(a0.size:Int)
       ·rw [if_pos c8] at H
        have c8b0:=eq_true c8
        have c8b1:decide ((wrap64 (x3_1+1))≤(a0.size:Int))=true:=decide_eq_true c8
        replace H:=Option.bind_eq_some_iff.mp H
        obtain ⟨t432,A90,H⟩:=H
        replace H:(if t432=true then (impl_rowBytes.l0 k1 a0 (wrap64 (x3_1+1))) else (some false))=some r:=H
        have A9:=Aside0.mk A90
        clear A90
        by_cases c10:t432=true
        ·subst c10
         have H1:(impl_rowBytes.l0 k1 a0 (wrap64 (x3_1+1)))=some r:=by rw [if_pos rfl] at H;exact H
         clear H
         have H:=H1
         clear H1
         have H':=Aside0.mk H
         clear H
         have p4:0≤(x3_1:Int):=of_decide_eq_true (by first|(with_reducible assumption)|assumption)
         have q4:x3_1 < (a0.size:Int):=of_decide_eq_true (by first|(with_reducible assumption)|assumption)
         have hx4:=bt_at a0 x3_1
         replace p4:=eq_true p4
         replace q4:=eq_true q4
         go_wp2_with (first|(go_at_call 68;(with_reducible refine (impl_TextValid.calls k1 (a0.extract (x3_1:Int).toNat ((wrap64 (x3_1+1)):Int).toNat) true _ A9.out).mono ?_);rintro e w' ⟨rfl,⟨nd,rfl⟩⟩))
         go_roundg k1
         case measure=>have:=HK1.out;omega
         case rel=>exact ⟨(wrap64 (x3_1+1)),(by first|rfl|(simp;done)|(simp [*];done)),H',⟨by have:=HK1.out;omega⟩,by repeat (first|exact Drawn0.refl _|apply Drawn0.step)⟩
        ·replace c10:=Bool.eq_false_iff.mpr c10
         subst c10
         have H1:(some false)=some r:=by rw [if_neg (show ¬ (false=true) by decide)] at H;exact H
         clear H
         have H:=H1
         clear H1
         obtain rfl:=Option.some.inj H
         have p4:0≤(x3_1:Int):=of_decide_eq_true (by first|(with_reducible assumption)|assumption)
         have q4:x3_1 < (a0.size:Int):=of_decide_eq_true (by first|(with_reducible assumption)|assumption)
         have hx4:=bt_at a0 x3_1
         replace p4:=eq_true p4
         replace q4:=eq_true q4
         go_wp2_with (first|(go_at_call 68;(with_reducible refine (impl_TextValid.calls k1 (a0.extract (x3_1:Int).toNat ((wrap64 (x3_1+1)):Int).toNat) false _ A9.out).mono ?_);rintro e w' ⟨rfl,⟨nd,rfl⟩⟩))
         go_ret
         exact ⟨by first|rfl|(simp;done)|(simp [*];done),by repeat (first|exact Drawn0.refl _|apply Drawn0.step)⟩
       ·rw [if_neg c8] at H
        exact absurd H (by simp)
      ·rw [if_neg c7] at H
       exact absurd H (by simp)
    ·rw [if_neg c3] at H
     exact absurd H (by simp)
   ·rw [if_neg c2] at H
    have c2b0:decide (x3_1 < (a0.size:Int))=false:=decide_eq_false c2
    clear c2
    obtain rfl:=Option.some.inj H
    go_wp2
    go_ret
    exact ⟨by first|rfl|(simp;done)|(simp [*];done),by repeat (first|exact Drawn0.refl _|apply Drawn0.step)⟩
end Go.Proofs.Ytdhdfmmefghijab.P
namespace Go.Proofs.Ytdhdfmmefghijab.P
open Go.RowKit Go.Proofs.YtdhdfmmefghijabW.PrintWords Go.Proofs.YtdhdfmmefghijabW.PrintLast Go.Proofs.YtdhdfmmefghijabW.PrintMore
attribute [local go_sem] max2_int min2_int max_two min_two max_three min_three max_four min_four
set_option linter.unusedVariables false
set_option linter.unusedSimpArgs false
mutual
def impl_LayoutValid.j0:Nat→List (SRow)→Bool→Option (Bool)
 | 0,_,_=>none
 | k+1,x0,x19=>if x19=true then (some false) else (impl_LayoutValid.l0 k x0 (x0.length:Int) 0)
def impl_LayoutValid.l0:Nat→List (SRow)→Int→Int→Option (Bool)
 | 0,_,_,_=>none
 | k+1,x20,x21,x22=>if x22 < x21 then (if 0≤x22 then (if x22 < (x20.length:Int) then (if ((rd_TRow x20 x22).f0) < 0 then (impl_LayoutValid.j2 k x20 x21 x22 true) else (if ((rd_TRow x20 x22).f0) > 400 then (impl_LayoutValid.j2 k x20 x21 x22 true) else ((impl_rowBytes.f k ((rd_TRow x20 x22).f1)).bind fun t436=>(if t436=true then (impl_LayoutValid.j2 k x20 x21 x22 (decide ((((rd_TRow x20 x22).f1).size:Int) ≥ 2000))) else (impl_LayoutValid.j2 k x20 x21 x22 true))))) else (none)) else (none)) else (some true)
def impl_LayoutValid.j2:Nat→List (SRow)→Int→Int→Bool→Option (Bool)
 | 0,_,_,_,_=>none
 | k+1,x20,x21,x22,x45=>if x45=true then (some false) else (impl_LayoutValid.l0 k x20 x21 (wrap64 (x22+1)))
end
def impl_LayoutValid.f (k:Nat) (l0:List (SRow)):Option (Bool):=if (l0.length:Int) < 1 then (impl_LayoutValid.j0 k l0 true) else (if (l0.length:Int) > 200 then (impl_LayoutValid.j0 k l0 true) else (if 0 < (l0.length:Int) then (impl_LayoutValid.j0 k l0 (((rd_TRow l0 0).f0) != 0)) else (none)))
set_option maxHeartbeats 8000000 in
set_option maxRecDepth 100000 in
theorem impl_LayoutValid.calls (k:Nat) (A0:Option Addr) (c0:Nat) (l0:List (SRow)) (r:Bool) (w:World) (hr0:Kd.C k30 w A0 l0.length l0) (hc0:l0.length≤c0) (h:impl_LayoutValid.f k l0=some r) :
  Calls Try.prog 19 #[.slice A0 l0.length c0] w fun e w'=>e=.returned (.bool r)∧Below w.heap.size w w':=by
 have hu30:=Try.underlying30
 have HR0:=Aside0.mk hr0
 have HC0:=Aside0.mk hc0
 clear hr0 hc0
 have HB:=Aside0.mk (Below.refl w.heap.size w)
 have H:(if (l0.length:Int) < 1 then (impl_LayoutValid.j0 k l0 true) else (if (l0.length:Int) > 200 then (impl_LayoutValid.j0 k l0 true) else (if 0 < (l0.length:Int) then (impl_LayoutValid.j0 k l0 (((rd_TRow l0 0).f0) != 0)) else (none))))=some r:=h
 clear h
 have HC2:=Aside0.mk H
 clear H
 go_enter Try.func19,Try.ntmps19
 go_upto_region 1 with (fail)
 go_cut [19] (fun v19 wc=>∃ (kq:Nat) (x19_1:Bool),v19=.bool x19_1∧Aside0 (impl_LayoutValid.j0 kq l0 x19_1=some r)∧Aside0 (kq≤k)∧Aside0 (Below w.heap.size w wc))
 case first =>
  have H:=HC2.out
  clear HC2
  by_cases c3:(l0.length:Int) < 1
  ·rw [if_pos c3] at H
   have c3b0:decide ((l0.length:Int) < 1)=true:=decide_eq_true c3
   have c3b1:decide (l0.length < 1)=true:=decide_eq_true (by omega)
   clear c3
   (first|rw [c3b0]|(simp only [i64_w,i32_w];rw [c3b0])|skip)
   have H':=Aside0.mk H
   clear H
   go_wp2
   go_meet
   case rel=>exact ⟨_,(true),(by first|rfl|(simp;done)|(simp [*];done)),H',⟨by first|omega|exact Nat.le_refl _⟩,⟨gB HB⟩⟩
  ·rw [if_neg c3] at H
   have c3b0:decide ((l0.length:Int) < 1)=false:=decide_eq_false c3
   have c3b1:decide (l0.length < 1)=false:=decide_eq_false (by omega)
   clear c3
   (first|rw [c3b0]|(simp only [i64_w,i32_w];rw [c3b0])|skip)
   by_cases c4:(l0.length:Int) > 200
   ·rw [if_pos c4] at H
    have c4b0:decide (200 < (l0.length:Int))=true:=decide_eq_true c4
    have c4b1:decide (200 < l0.length)=true:=decide_eq_true (by omega)
    clear c4
    have H':=Aside0.mk H
    clear H
    go_wp2
    go_meet
    case rel=>exact ⟨_,(true),(by first|rfl|(simp;done)|(simp [*];done)),H',⟨by first|omega|exact Nat.le_refl _⟩,⟨gB HB⟩⟩
   ·rw [if_neg c4] at H
    have c4b0:decide (200 < (l0.length:Int))=false:=decide_eq_false c4
    have c4b1:decide (200 < l0.length)=false:=decide_eq_false (by omega)
    clear c4
    by_cases c5:0 < (l0.length:Int)
    ·rw [if_pos c5] at H
     have c5b0:decide (0 < (l0.length:Int))=true:=decide_eq_true c5
     have c5b1:decide (0 < l0.length)=true:=decide_eq_true (by omega)
     clear c5
     have H':=Aside0.mk H
     clear H
     have p433:0≤(0:Int):=(by omega)
     have q433:0 < (l0.length:Int):=of_decide_eq_true (by first|(with_reducible assumption)|assumption)
     obtain ⟨ad433,e433,hx433_0,hx433_1⟩:=at_TRow HR0.out 0 p433 q433
     cases e433
     have qi433:(0 < l0.length)=True:=eq_true (by omega)
     (try rw [show ((0:Int)).toNat=0 from rfl] at hx433_0)
     (try rw [show 0 * 2=0 from rfl] at hx433_0)
     (try rw [Addr.add_zero'] at hx433_0)
     (try rw [show ((0:Int)).toNat=0 from rfl] at hx433_1)
     (try rw [show 0 * 2=0 from rfl] at hx433_1)
     (try rw [Addr.add_zero'] at hx433_1)
     replace hx433_0:=(HB.out.cell (World.block_lt_of_cell? w _ hx433_0)).trans hx433_0
     replace hx433_1:=(HB.out.cell (World.block_lt_of_cell? w _ hx433_1)).trans hx433_1
     replace p433:=eq_true p433
     replace q433:=eq_true q433
     go_wp2
     go_meet
     case rel=>exact ⟨_,((((rd_TRow l0 0).f0) != 0)),(by first|rfl|(simp;done)|(simp [*];done)),H',⟨by first|omega|exact Nat.le_refl _⟩,⟨gB HB⟩⟩
    ·rw [if_neg c5] at H
     exact absurd H (by simp)
 case rest =>
  clear HC2
  try clear c1 p2 c3 c3b0 c3b1 c4 c4b0 c4b1 p4 q4 hx4 qi4 c5 c5b0 c5b1 hx433_0 hx433_1 p433 q433
  obtain ⟨kq,x19_1,rfl,HA,HJ1,HB⟩:=hcut
  cases kq with
  | zero=>exact absurd HA.out (by simp [impl_LayoutValid.j0])
  | succ kj1 =>
   have H:=HA.out
   clear HA
   simp only [impl_LayoutValid.j0] at H
   by_cases c6:x19_1=true
   ·subst c6
    have H1:(some false)=some r:=by rw [if_pos rfl] at H;exact H
    clear H
    have H:=H1
    clear H1
    obtain rfl:=Option.some.inj H
    go_wp2
    go_ret
    exact ⟨by first|rfl|(simp [errW_none,errW_some] <;> rfl)|(simp [*,errW_none,errW_some] <;> rfl),gB HB⟩
   ·replace c6:=Bool.eq_false_iff.mpr c6
    subst c6
    have H1:(impl_LayoutValid.l0 kj1 l0 (l0.length:Int) 0)=some r:=by rw [if_neg (show ¬ (false=true) by decide)] at H;exact H
    clear H
    have H:=H1
    clear H1
    have H':=Aside0.mk H
    clear H
    go_wp2
    go_loopg [22] kj1 (fun kq v22 w'=>∃ (x22_2:Int),v22=.int .i64 x22_2∧Aside0 (impl_LayoutValid.l0 kq l0 (l0.length:Int) x22_2=some r)∧Aside0 (kq≤kj1)∧Aside0 (Below w.heap.size w w'))
    case atStart=>exact ⟨(0),(by first|rfl|(simp;done)|(simp [*];done)),H',⟨Nat.le_refl _⟩,⟨gB HB⟩⟩
    case round =>
     clear H'
     try clear c1 p2 c3 c3b0 c3b1 c4 c4b0 c4b1 p4 q4 hx4 qi4 c5 c5b0 c5b1 c6 hx433_0 hx433_1 p2 p4 p433 q4 q433
     (try clear HB)
     obtain ⟨x22_2,rfl,HA,HK2,HB⟩:=hrel
     cases gk with
     | zero=>exact absurd HA.out (by simp [impl_LayoutValid.l0])
     | succ k2 =>
      have H:=HA.out
      clear HA
      simp only [impl_LayoutValid.l0] at H
      by_cases c7:x22_2 < (l0.length:Int)
      ·rw [if_pos c7] at H
       have c7b0:decide (x22_2 < (l0.length:Int))=true:=decide_eq_true c7
       clear c7
       by_cases c8:0≤x22_2
       ·rw [if_pos c8] at H
        have c8b0:decide (0≤x22_2)=true:=decide_eq_true c8
        clear c8
        by_cases c9:x22_2 < (l0.length:Int)
        ·rw [if_pos c9] at H
         have c9b0:decide (x22_2 < (l0.length:Int))=true:=decide_eq_true c9
         clear c9
         have HC10:=Aside0.mk H
         clear H
         have p434:0≤(x22_2:Int):=of_decide_eq_true (by first|(with_reducible assumption)|assumption)
         have q434:x22_2 < (l0.length:Int):=of_decide_eq_true (by first|(with_reducible assumption)|assumption)
         obtain ⟨ad434,e434,hx434_0,hx434_1⟩:=at_TRow HR0.out x22_2 p434 q434
         cases e434
         replace hx434_0:=(HB.out.cell (World.block_lt_of_cell? w _ hx434_0)).trans hx434_0
         replace hx434_1:=(HB.out.cell (World.block_lt_of_cell? w _ hx434_1)).trans hx434_1
         replace p434:=eq_true p434
         replace q434:=eq_true q434
         go_upto_region 6 with (first|((with_reducible refine gate_dst (N:=4) rfl ?_);(try (refine gate_guard (by rfl) ?_;dsimp only));refine box_event ?hg (N:=4) ?hd (cs:=#[.int .i64 0,.string (⟨#[]⟩:ByteArray)]) (t:=30) ?hr ?_;(case hd=>rfl);(case hg=>rfl);(case hr=>first|(go_simp;done)|(go_simp;rfl));intro gb435 hg w11 hbox hb;have n0_:=Aside0.mk (below_step (gB HB) hb);have n1_:=Aside0.mk (hbox);have n2_:=Aside0.mk ((by rw [hg];exact (below_size (gB HB)):w.heap.size≤gb435));have n3_:=Aside0.mk ((by rw [hg];exact (below_size (gB HB)):w.heap.size≤gb435));clear HB;have HB:=n0_;have BK435:=n1_;have GW435:=n2_;have GE435:=n3_;clear n0_ n1_ n2_ n3_;clear hb hbox hg;have hcz12_0:w11.cell? ⟨gb435,0,none⟩=some (.int .i64 0):=(blk_cell BK435.out 0).trans rfl;have hcz12_1:w11.cell? ⟨gb435,1,none⟩=some (.string (⟨#[]⟩:ByteArray)):=(blk_cell BK435.out 1).trans rfl;have hfz12_0:=blk_frozen BK435.out 0;have hfz12_1:=blk_frozen BK435.out 1))
         (try simp only [Act.put,List.setIfInBounds_toArray,List.set_cons_zero,List.set_cons_succ])
         go_cut [45] (fun v45 wc=>∃ (kq:Nat) (x45_9:Bool),v45=.bool x45_9∧Aside0 (impl_LayoutValid.j2 kq l0 (l0.length:Int) x22_2 x45_9=some r)∧Aside0 (kq≤k2)∧Aside0 (wc.heap[gb435]?=some (.cells #[.int .i64 ((rd_TRow l0 x22_2).f0),.string ((rd_TRow l0 x22_2).f1)] 30 (0,0)))∧Aside0 (Below w.heap.size w wc))
         case first =>
          have H:=HC10.out
          clear HC10
          by_cases c13:((rd_TRow l0 x22_2).f0) < 0
          ·rw [if_pos c13] at H
           have c13b0:decide (((rd_TRow l0 x22_2).f0) < 0)=true:=decide_eq_true c13
           clear c13
           (first|rw [c13b0]|(simp only [i64_w,i32_w];rw [c13b0])|skip)
           have H':=Aside0.mk H
           clear H
           have hcz14_0:w11.cell? ⟨gb435,0,none⟩=some (.int .i64 0):=(blk_cell BK435.out 0).trans rfl
           have hcz14_1:w11.cell? ⟨gb435,1,none⟩=some (.string (⟨#[]⟩:ByteArray)):=(blk_cell BK435.out 1).trans rfl
           have hfz14_0:=blk_frozen BK435.out 0
           have hfz14_1:=blk_frozen BK435.out 1
           go_wp2
           go_meet
           case rel=>exact ⟨_,(true),(by first|rfl|(simp;done)|(simp [*];done)),H',⟨by have:=HJ1.out;have:=HK2.out;first|omega|exact Nat.le_refl _⟩,⟨by (with_reducible repeat (first|refine blk_drewN ?_ _|refine blk_drew ?_|refine blk_alloc ?_ _));refine blk_put (cs:=#[.int .i64 ((rd_TRow l0 x22_2).f0),.string (⟨#[]⟩:ByteArray)]) ?_ 1 _ rfl;(with_reducible repeat (first|refine blk_drewN ?_ _|refine blk_drew ?_|refine blk_alloc ?_ _));refine blk_put (cs:=#[.int .i64 0,.string (⟨#[]⟩:ByteArray)]) ?_ 0 _ rfl;(with_reducible repeat (first|refine blk_drewN ?_ _|refine blk_drew ?_|refine blk_alloc ?_ _));exact BK435.out⟩,⟨by repeat (first|(with_reducible first|exact HB.out|apply below_alloc|apply pw_below_drewN|apply below_drew1|refine below_set ?_ GE435.out)|exact HB.out)⟩⟩
          ·rw [if_neg c13] at H
           have c13b0:decide (((rd_TRow l0 x22_2).f0) < 0)=false:=decide_eq_false c13
           clear c13
           (first|rw [c13b0]|(simp only [i64_w,i32_w];rw [c13b0])|skip)
           by_cases c15:((rd_TRow l0 x22_2).f0) > 400
           ·rw [if_pos c15] at H
            have c15b0:decide (400 < ((rd_TRow l0 x22_2).f0))=true:=decide_eq_true c15
            clear c15
            have H':=Aside0.mk H
            clear H
            have hcz16_0:w11.cell? ⟨gb435,0,none⟩=some (.int .i64 0):=(blk_cell BK435.out 0).trans rfl
            have hcz16_1:w11.cell? ⟨gb435,1,none⟩=some (.string (⟨#[]⟩:ByteArray)):=(blk_cell BK435.out 1).trans rfl
            have hfz16_0:=blk_frozen BK435.out 0
            have hfz16_1:=blk_frozen BK435.out 1
            go_wp2
            go_meet
            case rel=>exact ⟨_,(true),(by first|rfl|(simp;done)|(simp [*];done)),H',⟨by have:=HJ1.out;have:=HK2.out;first|omega|exact Nat.le_refl _⟩,⟨by (with_reducible repeat (first|refine blk_drewN ?_ _|refine blk_drew ?_|refine blk_alloc ?_ _));refine blk_put (cs:=#[.int .i64 ((rd_TRow l0 x22_2).f0),.string (⟨#[]⟩:ByteArray)]) ?_ 1 _ rfl;(with_reducible repeat (first|refine blk_drewN ?_ _|refine blk_drew ?_|refine blk_alloc ?_ _));refine blk_put (cs:=#[.int .i64 0,.string (⟨#[]⟩:ByteArray)]) ?_ 0 _ rfl;(with_reducible repeat (first|refine blk_drewN ?_ _|refine blk_drew ?_|refine blk_alloc ?_ _));exact BK435.out⟩,⟨by repeat (first|(with_reducible first|exact HB.out|apply below_alloc|apply pw_below_drewN|apply below_drew1|refine below_set ?_ GE435.out)|exact HB.out)⟩⟩
           ·rw [if_neg c15] at H
            have c15b0:decide (400 < ((rd_TRow l0 x22_2).f0))=false:=decide_eq_false c15
            clear c15
            replace H:=Option.bind_eq_some_iff.mp H
            obtain ⟨t436,A170,H⟩:=H
            replace H:(if t436=true then (impl_LayoutValid.j2 k2 l0 (l0.length:Int) x22_2 (decide ((((rd_TRow l0 x22_2).f1).size:Int) ≥ 2000))) else (impl_LayoutValid.j2 k2 l0 (l0.length:Int) x22_2 true))=some r:=H
            have A17:=Aside0.mk A170
            clear A170
            by_cases c18:t436=true
            ·subst c18
             have H1:(impl_LayoutValid.j2 k2 l0 (l0.length:Int) x22_2 (decide ((((rd_TRow l0 x22_2).f1).size:Int) ≥ 2000)))=some r:=by rw [if_pos rfl] at H;exact H
             clear H
             have H:=H1
             clear H1
             have H':=Aside0.mk H
             clear H
             have hcz19_0:w11.cell? ⟨gb435,0,none⟩=some (.int .i64 0):=(blk_cell BK435.out 0).trans rfl
             have hcz19_1:w11.cell? ⟨gb435,1,none⟩=some (.string (⟨#[]⟩:ByteArray)):=(blk_cell BK435.out 1).trans rfl
             have hfz19_0:=blk_frozen BK435.out 0
             have hfz19_1:=blk_frozen BK435.out 1
             go_wp2_with (first|(go_at_call 45;(with_reducible refine (impl_rowBytes.calls k2 ((rd_TRow l0 x22_2).f1) true _ A17.out).mono ?_);rintro e w' ⟨rfl,⟨nd,rfl⟩⟩))
             go_meet
             case rel=>exact ⟨_,(decide ((((rd_TRow l0 x22_2).f1).size:Int) ≥ 2000)),(by first|rfl|(simp;done)|(simp [*];done)),H',⟨by have:=HJ1.out;have:=HK2.out;first|omega|exact Nat.le_refl _⟩,⟨by (with_reducible repeat (first|refine blk_drewN ?_ _|refine blk_drew ?_|refine blk_alloc ?_ _));refine blk_put (cs:=#[.int .i64 ((rd_TRow l0 x22_2).f0),.string (⟨#[]⟩:ByteArray)]) ?_ 1 _ rfl;(with_reducible repeat (first|refine blk_drewN ?_ _|refine blk_drew ?_|refine blk_alloc ?_ _));refine blk_put (cs:=#[.int .i64 0,.string (⟨#[]⟩:ByteArray)]) ?_ 0 _ rfl;(with_reducible repeat (first|refine blk_drewN ?_ _|refine blk_drew ?_|refine blk_alloc ?_ _));exact BK435.out⟩,⟨by repeat (first|(with_reducible first|exact HB.out|apply below_alloc|apply pw_below_drewN|apply below_drew1|refine below_set ?_ GE435.out)|exact HB.out)⟩⟩
            ·replace c18:=Bool.eq_false_iff.mpr c18
             subst c18
             have H1:(impl_LayoutValid.j2 k2 l0 (l0.length:Int) x22_2 true)=some r:=by rw [if_neg (show ¬ (false=true) by decide)] at H;exact H
             clear H
             have H:=H1
             clear H1
             have H':=Aside0.mk H
             clear H
             have hcz20_0:w11.cell? ⟨gb435,0,none⟩=some (.int .i64 0):=(blk_cell BK435.out 0).trans rfl
             have hcz20_1:w11.cell? ⟨gb435,1,none⟩=some (.string (⟨#[]⟩:ByteArray)):=(blk_cell BK435.out 1).trans rfl
             have hfz20_0:=blk_frozen BK435.out 0
             have hfz20_1:=blk_frozen BK435.out 1
             go_wp2_with (first|(go_at_call 45;(with_reducible refine (impl_rowBytes.calls k2 ((rd_TRow l0 x22_2).f1) false _ A17.out).mono ?_);rintro e w' ⟨rfl,⟨nd,rfl⟩⟩))
             go_meet
             case rel=>exact ⟨_,(true),(by first|rfl|(simp;done)|(simp [*];done)),H',⟨by have:=HJ1.out;have:=HK2.out;first|omega|exact Nat.le_refl _⟩,⟨by (with_reducible repeat (first|refine blk_drewN ?_ _|refine blk_drew ?_|refine blk_alloc ?_ _));refine blk_put (cs:=#[.int .i64 ((rd_TRow l0 x22_2).f0),.string (⟨#[]⟩:ByteArray)]) ?_ 1 _ rfl;(with_reducible repeat (first|refine blk_drewN ?_ _|refine blk_drew ?_|refine blk_alloc ?_ _));refine blk_put (cs:=#[.int .i64 0,.string (⟨#[]⟩:ByteArray)]) ?_ 0 _ rfl;(with_reducible repeat (first|refine blk_drewN ?_ _|refine blk_drew ?_|refine blk_alloc ?_ _));exact BK435.out⟩,⟨by repeat (first|(with_reducible first|exact HB.out|apply below_alloc|apply pw_below_drewN|apply below_drew1|refine below_set ?_ GE435.out)|exact HB.out)⟩⟩
         case rest =>
          clear HC10
          try clear c1 p2 c3 c3b0 c3b1 c4 c4b0 c4b1 p4 q4 hx4 qi4 c5 c5b0 c5b1 c6 c7 c7b0 c8 c8b0 c9 c9b0 c13 c13b0 c15 c15b0 c18 c19 hcz12_0 hcz12_1 hcz14_0 hcz14_1 hcz16_0 hcz16_1 hcz19_0 hcz19_1 hcz20_0 hcz20_1 hfz12_0 hfz12_1 hfz14_0 hfz14_1 hfz16_0 hfz16_1 hfz19_0 hfz19_1 hfz20_0 hfz20_1 hx433_0 hx433_1 hx434_0 hx434_1 p2 p4 p433 p434 q4 q433 q434
          obtain ⟨kq,x45_9,rfl,HA,HJ9,BK435,HB⟩:=hcut
          cases kq with
          | zero=>exact absurd HA.out (by simp [impl_LayoutValid.j2])
          | succ kj9 =>
           have H:=HA.out
           clear HA
           simp only [impl_LayoutValid.j2] at H
           by_cases c21:x45_9=true
           ·subst c21
            have H1:(some false)=some r:=by rw [if_pos rfl] at H;exact H
            clear H
            have H:=H1
            clear H1
            obtain rfl:=Option.some.inj H
            go_wp2
            go_ret
            exact ⟨by first|rfl|(simp [errW_none,errW_some] <;> rfl)|(simp [*,errW_none,errW_some] <;> rfl),by repeat (first|(with_reducible first|exact HB.out|apply below_alloc|apply pw_below_drewN|apply below_drew1|refine below_set ?_ GE435.out)|exact HB.out)⟩
           ·replace c21:=Bool.eq_false_iff.mpr c21
            subst c21
            have H1:(impl_LayoutValid.l0 kj9 l0 (l0.length:Int) (wrap64 (x22_2+1)))=some r:=by rw [if_neg (show ¬ (false=true) by decide)] at H;exact H
            clear H
            have H:=H1
            clear H1
            have H':=Aside0.mk H
            clear H
            go_wp2
            go_roundg kj9
            case measure=>have:=HJ1.out;have:=HK2.out;have:=HJ9.out;omega
            case rel=>exact ⟨(wrap64 (x22_2+1)),(by first|rfl|(simp;done)|(simp [*];done)),H',⟨by have:=HJ1.out;have:=HK2.out;have:=HJ9.out;omega⟩,⟨by repeat (first|(with_reducible first|exact HB.out|apply below_alloc|apply pw_below_drewN|apply below_drew1|refine below_set ?_ GE435.out)|exact HB.out)⟩⟩
        ·rw [if_neg c9] at H
         exact absurd H (by simp)
       ·rw [if_neg c8] at H
        exact absurd H (by simp)
      ·rw [if_neg c7] at H
       have c7b0:decide (x22_2 < (l0.length:Int))=false:=decide_eq_false c7
       clear c7
       obtain rfl:=Option.some.inj H
       go_wp2
       go_ret
       exact ⟨by first|rfl|(simp [errW_none,errW_some] <;> rfl)|(simp [*,errW_none,errW_some] <;> rfl),gB HB⟩
end Go.Proofs.Ytdhdfmmefghijab.P
namespace Go.Proofs.Ytdhdfmmefghijab.P
open Go.RowKit Go.Proofs.YtdhdfmmefghijabW.PrintWords Go.Proofs.YtdhdfmmefghijabW.PrintLast Go.Proofs.YtdhdfmmefghijabW.PrintMore
attribute [local go_sem] max2_int min2_int max_two min_two max_three min_three max_four min_four
set_option linter.unusedVariables false
set_option linter.unusedSimpArgs false
def slices_Clone_Llimpl_Row.f (l0:List (SRow)):Option ((List (SRow))):=if l0.length < 5864062014805 then some l0 else none
set_option maxHeartbeats 8000000 in
set_option maxRecDepth 100000 in
theorem slices_Clone_Llimpl_Row.calls (A0:Option Addr) (c0:Nat) (l0:List (SRow)) (r:List (SRow)) (w:World) (hr0:Kd.C k30 w A0 l0.length l0) (hc0:l0.length≤c0) (h:slices_Clone_Llimpl_Row.f l0=some r) :
  Calls Try.prog 67 #[.slice A0 l0.length c0] w fun e w'=>∃ v0_:Value,e=.returned (v0_)∧Kd.R k30 30 w' w.heap.size (fun _=>True) v0_ r∧Below w.heap.size w w':=by
 unfold slices_Clone_Llimpl_Row.f at h
 by_cases c2:l0.length < 5864062014805
 case neg=>rw [if_neg c2] at h;cases h
 rw [if_pos c2] at h
 obtain rfl:=Option.some.inj h
 clear h
 have hq:=fun (W:World) (a:Option Addr) (n c:Nat)=>Lib.run_eql_slice_nil (P:=Try.prog) W 23 30 a n c 0 0 Try.underlying23
 cases A0 with
 | none =>
  have hl:l0.length=0:=by
   rcases Nat.eq_zero_or_pos l0.length with h|h
   ·exact h
   ·obtain ⟨ad,he,_⟩:=hr0.2.2 h;cases he
  obtain rfl:=List.length_eq_zero_iff.1 hl
  clear hr0 hc0 hl c2
  go_enter Try.func67,Try.ntmps67
  go_wp2
  go_ret
  exact ⟨_,rfl,Kd.R_nil _ _ _ _ _,Below.refl _ _⟩
 | some ad0 =>
 have HR0:=Aside0.mk hr0
 have HC0:=Aside0.mk hc0
 clear hr0 hc0
 have HB:=Aside0.mk (Below.refl w.heap.size w)
 obtain ⟨y528,hy528⟩:∃ y_:List (SRow),y_=(([]:List (SRow))):=⟨_,rfl⟩
 have LMc2:Aside0 (y528.length+l0.length < 5864062014805):=⟨by rw [hy528];simpa using c2⟩
 have Ny528:=Aside0.mk hy528
 clear hy528
 clear c2
 obtain ⟨y531,hy531⟩:∃ y_:List (SRow),y_=(y528++l0):=⟨_,rfl⟩
 have Ny531:=Aside0.mk hy531
 have Nl:Aside0 (l0=y531):=⟨by rw [hy531,Ny528.out];simp⟩
 clear hy531
 go_enter Try.func67,Try.ntmps67
 go_wp2_with (first|((with_reducible refine gate_dst (N:=5) rfl ?_);refine Kd.R_lit k30 _ 30 ?hg (N:=5) ?hd (xs:=([]:List (SRow))) (inner:=[]) (ok:=fun _=>True) (okp:=fun _=>True) ?hr ?hp (fun _ hk=>hk) trivial (Below.refl _ _) (Nat.le_refl _) (by simp) ?_;(case hd=>rfl);(case hg=>rfl);(case hr=>first|(go_simp;done)|(go_simp;rfl));(case hp=>exact (Reps.none _ _));intro v529 w3 ho4 hb hg_ hnew_;clear hg_ hnew_;(first|rw [← Ny528.out] at ho4|(simp only [Int.reduceToNat] at ho4;rw [← Ny528.out] at ho4));have n0_:=Aside0.mk (Kd.R_lower ho4 (below_size (gB HB)));have n1_:=Aside0.mk (below_step (gB HB) hb);clear HB;have HO530:=n0_;have HB:=n1_;clear n0_ n1_;clear hb ho4)|((with_reducible refine gate_builtin (b:=.append) (xs:=#[.tmp 5,.tmp 6]) rfl ?_);at_builtin;refine Kd.R_append_rows k30 (w0:=w) w.heap.size rfl (.tmp 5) (.tmp 6) 23 30 (.agg #[(.int .i64 0),(.string ⟨#[]⟩)]) 24 rfl Try.underlying23 (by kernel_rfl) rfl (by decide) (by omega) v529 y528 l0 _ _ _ (fun _=>True) (fun _=>False) rfl rfl ?aO ?aR (fun _ _ h=>h) (fun _ h=>h.elim) ?aF ?aB ?aS ?aL ?_;(case aR=>exact gC (Kd.C_below HR0.out HB.out));(case aB=>exact (gB HB));(case aF=>exact (fun _ _=>trivial));(case aO=>exact (gR HO530));(case aS=>exact (below_size (gB HB)));(case aL=>have:=LMc2.out;omega);intro v532 w5 ho hb hg hat;rw [← Ny531.out] at ho;have n0_:=Aside0.mk (hb);have n1_:=Aside0.mk (ho);clear HB;clear HO530;have HB:=n0_;have HO533:=n1_;clear n0_ n1_;clear ho hb hg hat))
 go_ret
 exact ⟨_,rfl,by rw [Nl.out];exact HO533.out,HB.out⟩
end Go.Proofs.Ytdhdfmmefghijab.P
namespace Go.Proofs.Ytdhdfmmefghijab.P
open Go.RowKit Go.Proofs.YtdhdfmmefghijabW.PrintWords Go.Proofs.YtdhdfmmefghijabW.PrintLast Go.Proofs.YtdhdfmmefghijabW.PrintMore
attribute [local go_sem] max2_int min2_int max_two min_two max_three min_three max_four min_four
set_option linter.unusedVariables false
set_option linter.unusedSimpArgs false
def impl_catRows.f (l0:List (SRow)) (l1:List (SRow)):Option ((List (SRow))):=(slices_Clone_Llimpl_Row.f l0).bind fun t437=>(if 1≤(l1.length:Int) then ((some (l1.drop 1:List (SRow))).bind fun y440=>(if t437.length+y440.length < 5864062014805 then ((some (t437++y440:List (SRow))).bind fun y444=>(if 0≤(wrap64 ((l0.length:Int) - 1)) then (if (wrap64 ((l0.length:Int) - 1)) < (y444.length:Int) then (if 0 < (l1.length:Int) then (if ((rd_TRow y444 (wrap64 ((l0.length:Int) - 1))).f1).size+((rd_TRow l1 0).f1).size≤9223372036854775807 then (some (y444.set ((wrap64 ((l0.length:Int) - 1)):Int).toNat (⟨(rd_TRow y444 (wrap64 ((l0.length:Int) - 1))).f0,((rd_TRow y444 (wrap64 ((l0.length:Int) - 1))).f1)++((rd_TRow l1 0).f1)⟩:SRow))) else (none)) else (none)) else (none)) else (none))) else (none))) else (none))
def impl_catRows.T2:Bool × List (List Nat × List Nat):=(true,[([],[]),([],[]),([1],[1]),([2],[2]),([0,3],[0,3]),([4],[4]),([5],[5]),([],[]),([7],[7]),([8],[8]),([9],[9]),([6,10],[6,10]),([0,3,0,1,2,3,4,5,6,7,8,9,10,11],[0,3]),([12,0,1,2,3,4,5,6,7,8,9,10,11],[12]),([13,11,0,1,2,3,4,5,6,7,8,9,10,11],[11,13])])
def impl_catRows.B2:List Nat:=[0,0,2,6,15,31,63,0,128,384,896,2047,4095,8191,16383]
theorem impl_catRows.tab2:rtab .any (opsOf Try.f42 2)=impl_catRows.T2:=by kernel_rfl
theorem impl_catRows.bits2:waitsOk impl_catRows.T2.2 impl_catRows.B2=true:=by kernel_rfl
set_option maxHeartbeats 8000000 in
set_option maxRecDepth 100000 in
theorem impl_catRows.calls (A0:Option Addr) (c0:Nat) (l0:List (SRow)) (A1:Option Addr) (c1:Nat) (l1:List (SRow)) (r:List (SRow)) (w:World) (hr0:Kd.C k30 w A0 l0.length l0) (hc0:l0.length≤c0) (hr1:Kd.C k30 w A1 l1.length l1) (hc1:l1.length≤c1) (h:impl_catRows.f l0 l1=some r) :
  Calls Try.prog 42 #[.slice A0 l0.length c0,.slice A1 l1.length c1] w fun e w'=>∃ v0_:Value,e=.returned (v0_)∧Kd.R k30 30 w' w.heap.size (fun _=>True) v0_ r∧Below w.heap.size w w':=by
 have HR0:=Aside0.mk hr0
 have HC0:=Aside0.mk hc0
 clear hr0 hc0
 have HR1:=Aside0.mk hr1
 have HC1:=Aside0.mk hc1
 clear hr1 hc1
 have HB:=Aside0.mk (Below.refl w.heap.size w)
 have H:((slices_Clone_Llimpl_Row.f l0).bind fun t437=>(if 1≤(l1.length:Int) then ((some (l1.drop 1:List (SRow))).bind fun y440=>(if t437.length+y440.length < 5864062014805 then ((some (t437++y440:List (SRow))).bind fun y444=>(if 0≤(wrap64 ((l0.length:Int) - 1)) then (if (wrap64 ((l0.length:Int) - 1)) < (y444.length:Int) then (if 0 < (l1.length:Int) then (if ((rd_TRow y444 (wrap64 ((l0.length:Int) - 1))).f1).size+((rd_TRow l1 0).f1).size≤9223372036854775807 then (some (y444.set ((wrap64 ((l0.length:Int) - 1)):Int).toNat (⟨(rd_TRow y444 (wrap64 ((l0.length:Int) - 1))).f0,((rd_TRow y444 (wrap64 ((l0.length:Int) - 1))).f1)++((rd_TRow l1 0).f1)⟩:SRow))) else (none)) else (none)) else (none)) else (none))) else (none))) else (none)))=some r:=h
 clear h
 replace H:=Option.bind_eq_some_iff.mp H
 obtain ⟨t437,A30,H⟩:=H
 replace H:(if 1≤(l1.length:Int) then ((some (l1.drop 1:List (SRow))).bind fun y440=>(if t437.length+y440.length < 5864062014805 then ((some (t437++y440:List (SRow))).bind fun y444=>(if 0≤(wrap64 ((l0.length:Int) - 1)) then (if (wrap64 ((l0.length:Int) - 1)) < (y444.length:Int) then (if 0 < (l1.length:Int) then (if ((rd_TRow y444 (wrap64 ((l0.length:Int) - 1))).f1).size+((rd_TRow l1 0).f1).size≤9223372036854775807 then (some (y444.set ((wrap64 ((l0.length:Int) - 1)):Int).toNat (⟨(rd_TRow y444 (wrap64 ((l0.length:Int) - 1))).f0,((rd_TRow y444 (wrap64 ((l0.length:Int) - 1))).f1)++((rd_TRow l1 0).f1)⟩:SRow))) else (none)) else (none)) else (none)) else (none))) else (none))) else (none))=some r:=H
 have A3:=Aside0.mk A30
 clear A30
 by_cases c4:1≤(l1.length:Int)
 ·rw [if_pos c4] at H
  have c4b0:=eq_true c4
  have c4b1:decide (1≤(l1.length:Int))=true:=decide_eq_true c4
  clear c4
  obtain ⟨y440,hy440⟩:∃ y_:List (SRow),y_=(l1.drop 1):=⟨_,rfl⟩
  replace H:(if t437.length+y440.length < 5864062014805 then ((some (t437++y440:List (SRow))).bind fun y444=>(if 0≤(wrap64 ((l0.length:Int) - 1)) then (if (wrap64 ((l0.length:Int) - 1)) < (y444.length:Int) then (if 0 < (l1.length:Int) then (if ((rd_TRow y444 (wrap64 ((l0.length:Int) - 1))).f1).size+((rd_TRow l1 0).f1).size≤9223372036854775807 then (some (y444.set ((wrap64 ((l0.length:Int) - 1)):Int).toNat (⟨(rd_TRow y444 (wrap64 ((l0.length:Int) - 1))).f0,((rd_TRow y444 (wrap64 ((l0.length:Int) - 1))).f1)++((rd_TRow l1 0).f1)⟩:SRow))) else (none)) else (none)) else (none)) else (none))) else (none))=some r:=by first|(rw [hy440];with_reducible exact H)|(have H2_:=(Option.bind_some _ _).symm.trans H;rw [hy440];with_reducible exact H2_)|(have H2_:=(Option.bind_some _ _).symm.trans H;with_reducible exact H2_)|with_reducible exact H|(rw [hy440];exact H)|exact H
  have Ny440:=Aside0.mk hy440
  clear hy440
  by_cases c5:t437.length+y440.length < 5864062014805
  ·rw [if_pos c5] at H
   have LMc5:=Aside0.mk c5
   clear c5
   obtain ⟨y444,hy444⟩:∃ y_:List (SRow),y_=(t437++y440):=⟨_,rfl⟩
   replace H:(if 0≤(wrap64 ((l0.length:Int) - 1)) then (if (wrap64 ((l0.length:Int) - 1)) < (y444.length:Int) then (if 0 < (l1.length:Int) then (if ((rd_TRow y444 (wrap64 ((l0.length:Int) - 1))).f1).size+((rd_TRow l1 0).f1).size≤9223372036854775807 then (some (y444.set ((wrap64 ((l0.length:Int) - 1)):Int).toNat (⟨(rd_TRow y444 (wrap64 ((l0.length:Int) - 1))).f0,((rd_TRow y444 (wrap64 ((l0.length:Int) - 1))).f1)++((rd_TRow l1 0).f1)⟩:SRow))) else (none)) else (none)) else (none)) else (none))=some r:=by first|(rw [hy444];with_reducible exact H)|(have H2_:=(Option.bind_some _ _).symm.trans H;rw [hy444];with_reducible exact H2_)|(have H2_:=(Option.bind_some _ _).symm.trans H;with_reducible exact H2_)|with_reducible exact H|(rw [hy444];exact H)|exact H
   have Ny444:=Aside0.mk hy444
   clear hy444
   obtain ⟨ji6,hji6⟩:∃ j_:Int,(wrap64 ((l0.length:Int) - 1))=j_:=⟨_,rfl⟩
   replace H:(if 0≤(ji6) then (if (ji6) < (y444.length:Int) then (if 0 < (l1.length:Int) then (if ((rd_TRow y444 (ji6)).f1).size+((rd_TRow l1 0).f1).size≤9223372036854775807 then (some (y444.set ((ji6):Int).toNat (⟨(rd_TRow y444 (ji6)).f0,((rd_TRow y444 (ji6)).f1)++((rd_TRow l1 0).f1)⟩:SRow))) else (none)) else (none)) else (none)) else (none))=some r:=by first|(rw [hji6] at H;exact H)|(simp only [hji6] at H ⊢;exact H)
   (try rw [hji6] at A3)
   have hji6w:(IntKind.i64.wrap ((l0.length:Int) - 1))=ji6:=(i64_w _).trans hji6
   by_cases c7:0≤(ji6)
   ·rw [if_pos c7] at H
    have c7b0:decide (0≤(ji6))=true:=decide_eq_true c7
    clear c7
    by_cases c8:(ji6) < (y444.length:Int)
    ·rw [if_pos c8] at H
     have c8b0:decide ((ji6) < (y444.length:Int))=true:=decide_eq_true c8
     clear c8
     by_cases c9:0 < (l1.length:Int)
     ·rw [if_pos c9] at H
      have c9b0:decide (0 < (l1.length:Int))=true:=decide_eq_true c9
      have c9b1:decide (0 < l1.length)=true:=decide_eq_true (by omega)
      clear c9
      by_cases c10:((rd_TRow y444 (ji6)).f1).size+((rd_TRow l1 0).f1).size≤9223372036854775807
      ·rw [if_pos c10] at H
       have c10b0:=eq_true c10
       have c10b1:decide (((rd_TRow y444 (ji6)).f1).size+((rd_TRow l1 0).f1).size≤9223372036854775807)=true:=decide_eq_true c10
       try have c10b2:(9223372036854775807 < ((rd_TRow y444 (ji6)).f1).size+((rd_TRow l1 0).f1).size)=False:=eq_false (Nat.not_lt.2 c10)
       obtain ⟨y449,hy449⟩:∃ y_:List (SRow),y_=(y444.set ((ji6):Int).toNat (⟨(rd_TRow y444 (ji6)).f0,((rd_TRow y444 (ji6)).f1)++((rd_TRow l1 0).f1)⟩:SRow)):=⟨_,rfl⟩
       replace H:(some y449)=some r:=by first|(rw [hy449];with_reducible exact H)|(have H2_:=(Option.bind_some _ _).symm.trans H;rw [hy449];with_reducible exact H2_)|(have H2_:=(Option.bind_some _ _).symm.trans H;with_reducible exact H2_)|with_reducible exact H|(rw [hy449];exact H)|exact H
       have Ny449:=Aside0.mk hy449
       clear hy449
       obtain rfl:=Option.some.inj H
       go_enter Try.func42,Try.ntmps42
       try go_wp2
       have n0_:=Aside0.mk (below_drew1 HB.out)
       clear HB
       have HB:=n0_
       clear n0_
       have q13:(1:Int)≤((l1.length:Int):Int):=of_decide_eq_true (by first|(with_reducible assumption)|assumption)
       obtain ⟨i013,hi013,_,hsz13,_⟩:=info_parts info30
       have hroom13:l1.length≤c1:=HC1.out
       have hC13:Kd.C k30 _ A1 l1.length l1:=HR1.out
       have hcut13:=cut_from (P:=Try.prog) 23 30 .i64 Try.underlying23 hi013 2 hsz13 A1 l1.length c1 1 (by omega) q13
       have hr13:=Kd.C_drop (m:=(1:Int).toNat) (c:=c1) hC13 (by omega) hroom13
       obtain ⟨A13,hA13⟩:∃ Az_,Az_=(if c1=(1:Int).toNat then A1 else (A1:Option Addr).map (·.add ((1:Int).toNat * 2))):=⟨_,rfl⟩
       obtain ⟨c13,hc13⟩:∃ cz_,cz_=c1 - (1:Int).toNat:=⟨_,rfl⟩
       have hy13:y440.length=l1.length - (1:Int).toNat:=(by rw [Ny440.out,List.length_drop] <;> omega)
       rw [show (l1).drop (1:Int).toNat=y440 from Ny440.out.symm] at hr13
       replace hr13:Kd.C k30 _ A13 y440.length y440:=(by rw [hA13];exact hr13)
       rw [← hy13,← hA13,← hc13] at hcut13
       have HR443:=Aside0.mk hr13
       have HC443:=Aside0.mk (show y440.length≤c13 from by rw [hy13,hc13];exact Nat.sub_le_sub_right hroom13 _)
       clear hr13 hC13 hroom13 hi013 hsz13 hc13
       have KY13:=Aside0.mk hy13
       have KA13:=Aside0.mk hA13
       clear hy13 hA13
       replace q13:=eq_true q13
       refine start_ (n:=6) (S:=fun w'=>True) (ds:=[]) #[false,false,false,false,false,false] (by kernel_rfl) rfl rfl trivial (fun hHeld=>?_)
       generalize w.drew=w12 at HB HR443 hHeld ⊢
       refine pure_ (i:=0) (N:=some 6) (v:=?_) (a':=?_) #[true,false,false,false,false,false] rfl rfl (by kernel_rfl) (fun _ _ _ h=>h) (Or.inl ⟨by rfl,?_⟩) ?_ ?_
       rotate_left
       ·intro w'
        go_simp
        with_reducible rfl
       rotate_left
       ·simp only [Act.put,List.setIfInBounds_toArray,List.set_cons_zero,List.set_cons_succ,i64_w,i32_w]
        rfl
       refine pure_ (i:=2) (N:=some 8) (v:=?_) (a':=?_) #[true,false,true,false,false,false] rfl rfl (by kernel_rfl) (fun _ _ _ h=>h) (Or.inl ⟨by rfl,?_⟩) ?_ ?_
       rotate_left
       ·intro w'
        go_simp
        with_reducible rfl
       rotate_left
       ·simp only [Act.put,List.setIfInBounds_toArray,List.set_cons_zero,List.set_cons_succ,i64_w,i32_w]
        rfl
       refine pure_ (i:=3) (N:=some 9) (v:=?_) (a':=?_) #[true,false,true,true,false,false] rfl rfl (by kernel_rfl) (fun _ _ _ h=>h) (Or.inl ⟨by rfl,?_⟩) ?_ ?_
       rotate_left
       ·intro w'
        go_simp
        with_reducible rfl
       rotate_left
       ·simp only [Act.put,List.setIfInBounds_toArray,List.set_cons_zero,List.set_cons_succ,i64_w,i32_w]
        rfl
       refine one_ (i:=1) (N:=some 7) #[true,true,true,true,false,false] rfl rfl (by kernel_rfl) (by decide) (fun K hK=>?_)
       refine goes_ Try.func67 (by kernel_rfl) rfl #[.slice A0 l0.length c0] (by rfl) rfl rfl (by (try simp only [List.map_toArray,List.map_cons,List.map_nil]);first|done|rfl|(simp only [List.length_drop,List.length_take];rfl)) ?_
       with_reducible refine (slices_Clone_Llimpl_Row.calls _ _ l0 t437 _ ?side1 ?side2 A3.out).mono ?_
       (case side1=>repeat (first|exact (Kd.C_below HR0.out HB.out)|(with_reducible refine Kd.C_alloc ?_ _)|(with_reducible refine Kd.C_drewN ?_ _)|(with_reducible refine Kd.C_drew ?_)))
       (case side2=>exact HC0.out)
       rintro e w14 ⟨v438,rfl,ho0,hb⟩
       refine ⟨_,rfl,?_⟩
       have n0_:=Aside0.mk (Kd.R_lower ho0 (below_size (by repeat (first|(with_reducible first|exact HB.out|apply below_alloc|apply pw_below_drewN|apply below_drew1)|exact HB.out))))
       have n1_:=Aside0.mk (below_step (by repeat (first|(with_reducible first|exact HB.out|apply below_alloc|apply pw_below_drewN|apply below_drew1)|exact HB.out)) hb)
       clear HB
       have HO439:=n0_
       have HB:=n1_
       clear n0_ n1_
       (try clear hb)
       (try clear hb2)
       (try clear hk)
       (try clear hi)
       (try clear ho0)
       refine hK.out _ _ trivial (fun hHeld=>?_)
       clear hK K
       refine norm_ (a':=?_) ?_ ?_
       rotate_left
       ·show Act.put _ (some 7) _=_
        simp only [Act.put,List.setIfInBounds_toArray,List.set_cons_zero,List.set_cons_succ,i64_w,i32_w]
        rfl
       refine one_ (i:=4) (N:=some 10) #[true,true,true,true,true,false] rfl rfl (by kernel_rfl) (by decide) (fun K hK=>?_)
       refine Kd.R_append_rows_step k30 (w0:=w) w.heap.size (by rfl) (.tmp 7) (.tmp 9) 23 30 (.agg #[(.int .i64 0),(.string ⟨#[]⟩)]) 24 rfl Try.underlying23 info30 rfl (by decide) (by omega) v438 t437 y440 _ _ _ (fun _=>True) (fun _=>False) rfl rfl ?aO ?aR (fun _ _ h=>h) (fun _ h=>h.elim) ?aF ?aB ?aS ?aL ?_
       (case aR=>repeat (first|exact (Kd.C_below HR443.out HB.out)|(with_reducible refine Kd.C_alloc ?_ _)|(with_reducible refine Kd.C_drewN ?_ _)|(with_reducible refine Kd.C_drew ?_)))
       (case aB=>exact (by repeat (first|(with_reducible first|exact HB.out|apply below_alloc|apply pw_below_drewN|apply below_drew1)|exact HB.out)))
       (case aF=>exact (fun _ _=>trivial))
       (case aO=>exact (by (with_reducible repeat (first|apply Kd.R_alloc|apply Kd.R_drewN|apply Kd.R_drew));exact HO439.out))
       (case aS=>exact (below_size (by repeat (first|(with_reducible first|exact HB.out|apply below_alloc|apply pw_below_drewN|apply below_drew1)|exact HB.out))))
       (case aL=>have:=LMc5.out;omega)
       intro v445 w15 ho hb hg hat
       rw [← Ny444.out] at ho
       have n0_:=Aside0.mk (hb)
       have n1_:=Aside0.mk (ho)
       clear HB
       clear HO439
       have HB:=n0_
       have HO446:=n1_
       clear n0_ n1_
       clear ho hb hg hat
       refine hK.out _ _ trivial (fun hHeld=>?_)
       clear hK K
       refine norm_ (a':=?_) ?_ ?_
       rotate_left
       ·show Act.put _ (some 10) _=_
        simp only [Act.put,List.setIfInBounds_toArray,List.set_cons_zero,List.set_cons_succ,i64_w,i32_w]
        rfl
       refine pure_ (i:=5) (N:=some 5) (v:=?_) (a':=?_) #[true,true,true,true,true,true] rfl rfl (by kernel_rfl) (fun _ _ _ h=>h) (Or.inl ⟨by rfl,?_⟩) ?_ ?_
       rotate_left
       ·intro w'
        go_simp
        with_reducible rfl
       rotate_left
       ·simp only [Act.put,List.setIfInBounds_toArray,List.set_cons_zero,List.set_cons_succ,i64_w,i32_w]
        rfl
       refine done_ (by kernel_rfl) ?_
       try go_wp2
       have n0_:=Aside0.mk (Kd.R_drew HO446.out)
       have n1_:=Aside0.mk (below_drew1 HB.out)
       clear HO446
       clear HB
       have HO446:=n0_
       have HB:=n1_
       clear n0_ n1_
       obtain ⟨Ao17,co17,eo17⟩:=Kd.R_slice HO446.out
       (first|subst eo17|(injection eo17 with f1_ f2_ f3_;have f4_:=f1_.symm;have f5_:=f3_.symm;clear f1_ f2_ f3_;subst f4_;subst f5_))
       have p447:0≤((ji6):Int):=of_decide_eq_true (by first|(with_reducible assumption)|assumption)
       have q447:(ji6) < (y444.length:Int):=of_decide_eq_true (by first|(with_reducible assumption)|assumption)
       obtain ⟨ad447,e447,hx447_0,hx447_1⟩:=at_TRow (Kd.R_reads' HO446.out).2.2 (ji6) p447 q447
       cases e447
       replace p447:=eq_true p447
       replace q447:=eq_true q447
       have p448:0≤(0:Int):=(by omega)
       have q448:0 < (l1.length:Int):=of_decide_eq_true (by first|(with_reducible assumption)|assumption)
       obtain ⟨ad448,e448,hx448_0,hx448_1⟩:=at_TRow HR1.out 0 p448 q448
       have hw448_1:=hx448_1
       (try rw [show ((0:Int)).toNat=0 from rfl] at hw448_1)
       (try rw [show 0 * 2=0 from rfl] at hw448_1)
       (try rw [Addr.add_zero'] at hw448_1)
       have hw448_0:=hx448_0
       (try rw [show ((0:Int)).toNat=0 from rfl] at hw448_0)
       (try rw [show 0 * 2=0 from rfl] at hw448_0)
       (try rw [Addr.add_zero'] at hw448_0)
       cases e448
       have qi448:(0 < l1.length)=True:=eq_true (by omega)
       (try rw [show ((0:Int)).toNat=0 from rfl] at hx448_0)
       (try rw [show 0 * 2=0 from rfl] at hx448_0)
       (try rw [Addr.add_zero'] at hx448_0)
       (try rw [show ((0:Int)).toNat=0 from rfl] at hx448_1)
       (try rw [show 0 * 2=0 from rfl] at hx448_1)
       (try rw [Addr.add_zero'] at hx448_1)
       replace hx448_0:=(HB.out.cell (World.block_lt_of_cell? w _ hx448_0)).trans hx448_0
       replace hx448_1:=(HB.out.cell (World.block_lt_of_cell? w _ hx448_1)).trans hx448_1
       replace p448:=eq_true p448
       replace q448:=eq_true q448
       have p11:0≤((ji6):Int):=of_decide_eq_true (by first|(with_reducible assumption)|assumption)
       have q11:((ji6):Int) < ((y444.length:Int):Int):=of_decide_eq_true (by first|(with_reducible assumption)|assumption)
       obtain ⟨go11,co11,eo11,gb11,gl11,cl11,HG11⟩:=Kd.R_form HO446.out (by omega)
       (first|cases eo11|(injection eo11 with ea_ en_ ec_;(first|subst ea_|(injection ea_ with ea_;subst ea_));subst ec_;clear en_))
       have GB11:=Aside0.mk gb11
       have GG11:=Aside0.mk HG11
       clear gb11 gl11 HG11
       (first|simp only [add_plain] at hx447_0|skip)
       (first|simp only [add_plain] at hx447_1|skip)
       obtain ⟨ce11,hcl11,hM11,hcc11,hfr11⟩:=Kd.R_elem HO446.out zRow ((ji6):Int) p11 q11
       obtain rfl:=k30_openM hM11
       have hx11_0:World.cell? _ ⟨go11,((ji6):Int).toNat * 2,none⟩=some (.int .i64 ((rd_TRow y444 (ji6)).f0)):=hcc11 0 _ rfl
       have hx11_1:World.cell? _ ⟨go11,((ji6):Int).toNat * 2+1,none⟩=some (.string ((rd_TRow y444 (ji6)).f1)):=hcc11 1 _ rfl
       have hf11_0:World.frozen? _ ⟨go11,((ji6):Int).toNat * 2,none⟩=false:=hfr11 0
       have hf11_1:World.frozen? _ ⟨go11,((ji6):Int).toNat * 2+1,none⟩=false:=hfr11 1
       clear hcl11 hcc11 hfr11 hM11
       replace p11:=eq_true p11
       replace q11:=eq_true q11
       obtain ⟨ce18,hcl18,hM18,hcc18,hfr18⟩:=Kd.R_elem HO446.out zRow ((ji6):Int) (of_decide_eq_true (by first|(with_reducible assumption)|assumption)) (by have h_:((ji6):Int) < ((y444.length:Int):Int):=of_decide_eq_true (by first|(with_reducible assumption)|assumption);first|exact h_|(have e_:=(Kd.R_reads' HO446.out).1;omega)|simpa using h_)
       obtain rfl:=k30_openM hM18
       have HP18:=(Kd.R_seg HO446.out ((ji6):Int) (of_decide_eq_true (by first|(with_reducible assumption)|assumption)) (by have h_:((ji6):Int) < ((y444.length:Int):Int):=of_decide_eq_true (by first|(with_reducible assumption)|assumption);first|exact h_|(have e_:=(Kd.R_reads' HO446.out).1;omega)|simpa using h_) (seg:=[.string (((rd_TRow y444 (ji6)).f1)++((rd_TRow l1 0).f1))]) (j:=1) hcl18 hcc18 (show 2≤2 from by decide) (x':=(⟨(rd_TRow y444 (ji6)).f0,((rd_TRow y444 (ji6)).f1)++((rd_TRow l1 0).f1)⟩:SRow)) (k30_mkM _ _ _ (⟨(rd_TRow y444 (ji6)).f0,((rd_TRow y444 (ji6)).f1)++((rd_TRow l1 0).f1)⟩:SRow) ) (fun _ hk=>hk)).1
       rw [← Ny449.out] at HP18
       have HQ18:=Aside0.mk HP18
       clear hcl18 hcc18 hfr18 hM18 HP18
       refine start_ (n:=15) (S:=fun w'=>w'.cell? ⟨go11,((ji6)).toNat * 2,none⟩=some (.int .i64 ((rd_TRow y444 (ji6)).f0))∧w'.cell? ⟨go11,((ji6)).toNat * 2+1,none⟩=some (.string ((rd_TRow y444 (ji6)).f1))∧w'.cell? ad448=some (.int .i64 ((rd_TRow l1 0).f0))∧w'.cell? ⟨ad448.block,ad448.off+1,none⟩=some (.string ((rd_TRow l1 0).f1))) (ds:=[14]) #[false,false,false,false,false,false,false,false,false,false,false,false,false,false,false] (by kernel_rfl) rfl rfl ⟨hx447_0,hx447_1,((HB.out.cell (World.block_lt_of_cell? w _ hw448_0)).trans hw448_0),((HB.out.cell (World.block_lt_of_cell? w _ hw448_1)).trans hw448_1)⟩ (fun hHeld=>?_);refine with_tabW impl_catRows.tab2 impl_catRows.bits2 (fun HT_ HW_=>?_)
       generalize w15.drew=w16 at HO446 HB GG11 HQ18 hf11_0 hf11_1 hx11_0 hx11_1 hx447_0 hx447_1 hx448_0 hx448_1 hHeld ⊢
       refine pure_ (i:=0) (N:=some 11) (v:=?_) (a':=?_) #[true,false,false,false,false,false,false,false,false,false,false,false,false,false,false] rfl rfl (any_of HT_.out (by kernel_rfl)) (fun _ _ _ h=>h) (Or.inl ⟨by rfl,?_⟩) ?_ ?_
       rotate_left
       ·intro w'
        go_simp
        with_reducible rfl
       rotate_left
       ·simp only [Act.put,List.setIfInBounds_toArray,List.set_cons_zero,List.set_cons_succ,i64_w,i32_w]
        rfl
       refine pure_ (i:=1) (N:=some 12) (v:=?_) (a':=?_) #[true,true,false,false,false,false,false,false,false,false,false,false,false,false,false] rfl rfl (any_of HT_.out (by kernel_rfl)) (fun _ _ _ h=>h) (Or.inl ⟨by rfl,?_⟩) ?_ ?_
       rotate_left
       ·intro w'
        go_simp
        with_reducible rfl
       rotate_left
       ·simp only [Act.put,List.setIfInBounds_toArray,List.set_cons_zero,List.set_cons_succ,i64_w,i32_w]
        rfl
       refine pure_ (i:=2) (N:=some 13) (v:=?_) (a':=?_) #[true,true,true,false,false,false,false,false,false,false,false,false,false,false,false] rfl rfl (any_of HT_.out (by kernel_rfl)) (fun _ _ _ h=>h) (Or.inl ⟨by rfl,?_⟩) ?_ ?_
       rotate_left
       ·intro w'
        go_simp
        with_reducible rfl
       rotate_left
       ·simp only [Act.put,List.setIfInBounds_toArray,List.set_cons_zero,List.set_cons_succ,i64_w,i32_w]
        rfl
       refine pure_ (i:=3) (N:=some 14) (v:=?_) (a':=?_) #[true,true,true,true,false,false,false,false,false,false,false,false,false,false,false] rfl rfl (any_of HT_.out (by kernel_rfl)) (fun _ _ _ h=>h) (Or.inl ⟨by rfl,?_⟩) ?_ ?_
       rotate_left
       ·intro w'
        go_simp
        with_reducible rfl
       rotate_left
       ·simp only [Act.put,List.setIfInBounds_toArray,List.set_cons_zero,List.set_cons_succ,i64_w,i32_w]
        rfl
       refine pure_ (i:=4) (N:=some 15) (v:=?_) (a':=?_) #[true,true,true,true,true,false,false,false,false,false,false,false,false,false,false] rfl rfl (any_of HT_.out (by kernel_rfl)) (fun _ _ _ h=>h) (Or.inl ⟨by rfl,?_⟩) ?_ ?_
       rotate_left
       ·intro w'
        go_simp
        with_reducible rfl
       rotate_left
       ·simp only [Act.put,List.setIfInBounds_toArray,List.set_cons_zero,List.set_cons_succ,i64_w,i32_w]
        rfl
       refine pure_ (i:=5) (N:=some 16) (v:=?_) (a':=?_) #[true,true,true,true,true,true,false,false,false,false,false,false,false,false,false] rfl rfl (any_of HT_.out (by kernel_rfl)) (fun _ _ _ h=>h) (Or.inl ⟨by rfl,?_⟩) ?_ ?_
       rotate_left
       ·intro w'
        go_simp
        with_reducible rfl
       rotate_left
       ·simp only [Act.put,List.setIfInBounds_toArray,List.set_cons_zero,List.set_cons_succ,i64_w,i32_w]
        rfl
       refine pure_ (i:=7) (N:=some 18) (v:=?_) (a':=?_) #[true,true,true,true,true,true,false,true,false,false,false,false,false,false,false] rfl rfl (any_of HT_.out (by kernel_rfl)) (fun _ _ _ h=>h) (Or.inl ⟨by rfl,?_⟩) ?_ ?_
       rotate_left
       ·intro w'
        go_simp
        with_reducible rfl
       rotate_left
       ·simp only [Act.put,List.setIfInBounds_toArray,List.set_cons_zero,List.set_cons_succ,i64_w,i32_w]
        rfl
       refine pure_ (i:=8) (N:=some 19) (v:=?_) (a':=?_) #[true,true,true,true,true,true,false,true,true,false,false,false,false,false,false] rfl rfl (any_of HT_.out (by kernel_rfl)) (fun _ _ _ h=>h) (Or.inl ⟨by rfl,?_⟩) ?_ ?_
       rotate_left
       ·intro w'
        go_simp
        with_reducible rfl
       rotate_left
       ·simp only [Act.put,List.setIfInBounds_toArray,List.set_cons_zero,List.set_cons_succ,i64_w,i32_w]
        rfl
       refine pure_ (i:=9) (N:=some 20) (v:=?_) (a':=?_) #[true,true,true,true,true,true,false,true,true,true,false,false,false,false,false] rfl rfl (any_of HT_.out (by kernel_rfl)) (fun _ _ _ h=>h) (Or.inl ⟨by rfl,?_⟩) ?_ ?_
       rotate_left
       ·intro w'
        go_simp
        with_reducible rfl
       rotate_left
       ·simp only [Act.put,List.setIfInBounds_toArray,List.set_cons_zero,List.set_cons_succ,i64_w,i32_w]
        rfl
       refine take_ (i:=6) (N:=some 17) (v:=?_) (a':=?_) #[true,true,true,true,true,true,true,true,true,true,false,false,false,false,false] rfl rfl (take_ofW HT_.out HW_.out (by kernel_rfl)) (fun _ _ _ h=>h) (Or.inl ⟨by rfl,?_⟩) hHeld ?_ ?_
       rotate_left
       ·rintro w' ⟨s0,s1,s2,s3⟩
        go_simp
        with_reducible rfl
       rotate_left
       ·simp only [Act.put,List.setIfInBounds_toArray,List.set_cons_zero,List.set_cons_succ,i64_w,i32_w]
        rfl
       refine take_ (i:=10) (N:=some 21) (v:=?_) (a':=?_) #[true,true,true,true,true,true,true,true,true,true,true,false,false,false,false] rfl rfl (take_ofW HT_.out HW_.out (by kernel_rfl)) (fun _ _ _ h=>h) (Or.inl ⟨by rfl,?_⟩) hHeld ?_ ?_
       rotate_left
       ·rintro w' ⟨s0,s1,s2,s3⟩
        go_simp
        with_reducible rfl
       rotate_left
       ·simp only [Act.put,List.setIfInBounds_toArray,List.set_cons_zero,List.set_cons_succ,i64_w,i32_w]
        rfl
       refine pure_ (i:=11) (N:=some 22) (v:=?_) (a':=?_) #[true,true,true,true,true,true,true,true,true,true,true,true,false,false,false] rfl rfl (any_of HT_.out (by kernel_rfl)) (fun _ _ _ h=>h) (Or.inl ⟨by rfl,?_⟩) ?_ ?_
       rotate_left
       ·intro w'
        go_simp
        with_reducible rfl
       rotate_left
       ·simp only [Act.put,List.setIfInBounds_toArray,List.set_cons_zero,List.set_cons_succ,i64_w,i32_w]
        rfl
       refine pure_ (i:=12) (N:=some 23) (v:=?_) (a':=?_) #[true,true,true,true,true,true,true,true,true,true,true,true,true,false,false] rfl rfl (any_of HT_.out (by kernel_rfl)) (fun _ _ _ h=>h) (Or.inl ⟨by rfl,?_⟩) ?_ ?_
       rotate_left
       ·intro w'
        go_simp
        with_reducible rfl
       rotate_left
       ·simp only [Act.put,List.setIfInBounds_toArray,List.set_cons_zero,List.set_cons_succ,i64_w,i32_w]
        rfl
       refine pure_ (i:=13) (N:=some 24) (v:=?_) (a':=?_) #[true,true,true,true,true,true,true,true,true,true,true,true,true,true,false] rfl rfl (any_of HT_.out (by kernel_rfl)) (fun _ _ _ h=>h) (Or.inl ⟨by rfl,?_⟩) ?_ ?_
       rotate_left
       ·intro w'
        go_simp
        with_reducible rfl
       rotate_left
       ·simp only [Act.put,List.setIfInBounds_toArray,List.set_cons_zero,List.set_cons_succ,i64_w,i32_w]
        rfl
       refine last_ (i:=14) (N:=none) #[true,true,true,true,true,true,true,true,true,true,true,true,true,true,true] rfl rfl (one_of HT_.out (by kernel_rfl)) (by decide) (fun K hK=>?_)
       refine skip_ (w1:=?_) (by rfl) rfl ?_ ?_
       rotate_left
       ·go_simp
        rfl
       refine hK.out _ _ ?_
       clear hK K
       refine done_ (done_of HT_.out (by kernel_rfl)) ?_
       try go_wp2
       go_ret
       exact ⟨_,by first|rfl|(simp [errW_none,errW_some] <;> rfl)|(simp only [← hji6];first|rfl|(simp [errW_none,errW_some] <;> rfl))|(simp [*,errW_none,errW_some] <;> rfl),by (with_reducible repeat (first|apply Kd.R_alloc|apply Kd.R_drewN|apply Kd.R_drew));exact HQ18.out,by repeat (first|(with_reducible first|exact HB.out|apply below_alloc|apply pw_below_drewN|apply below_drew1|refine below_set ?_ GB11.out)|exact HB.out)⟩
      ·rw [if_neg c10] at H
       exact absurd H (by simp)
     ·rw [if_neg c9] at H
      exact absurd H (by simp)
    ·rw [if_neg c8] at H
     exact absurd H (by simp)
   ·rw [if_neg c7] at H
    exact absurd H (by simp)
  ·rw [if_neg c5] at H
   exact absurd H (by simp)
 ·rw [if_neg c4] at H
  exact absurd H (by simp)
end Go.Proofs.Ytdhdfmmefghijab.P
namespace Go.Proofs.Ytdhdfmmefghijab.P
open Go.RowKit Go.Proofs.YtdhdfmmefghijabW.PrintWords Go.Proofs.YtdhdfmmefghijabW.PrintLast Go.Proofs.YtdhdfmmefghijabW.PrintMore
attribute [local go_sem] max2_int min2_int max_two min_two max_three min_three max_four min_four
set_option linter.unusedVariables false
set_option linter.unusedSimpArgs false
def impl_CatLayouts.j0:Nat→List (SRow)→List (SRow)→Bool→Option ((List (SRow)) × Bool)
 | 0,_,_,_=>none
 | k+1,x0,x1,x14=>if x14=true then (some (([]:List (SRow)),false)) else ((impl_catRows.f x0 x1).bind fun t452=>((impl_LayoutValid.f k t452).bind fun t455=>(if t455=true then (some (t452,true)) else (some (([]:List (SRow)),false)))))
def impl_CatLayouts.f (k:Nat) (l0:List (SRow)) (l1:List (SRow)):Option ((List (SRow)) × Bool):=(impl_LayoutValid.f k l0).bind fun t450=>(if t450=true then ((impl_LayoutValid.f k l1).bind fun t451=>(impl_CatLayouts.j0 k l0 l1 (!t451))) else (impl_CatLayouts.j0 k l0 l1 true))
set_option maxHeartbeats 8000000 in
set_option maxRecDepth 100000 in
theorem impl_CatLayouts.calls (k:Nat) (A0:Option Addr) (c0:Nat) (l0:List (SRow)) (A1:Option Addr) (c1:Nat) (l1:List (SRow)) (r1:List (SRow)) (r2:Bool) (w:World) (hr0:Kd.C k30 w A0 l0.length l0) (hc0:l0.length≤c0) (hr1:Kd.C k30 w A1 l1.length l1) (hc1:l1.length≤c1) (h:impl_CatLayouts.f k l0 l1=some (r1,r2)) :
  Calls Try.prog 16 #[.slice A0 l0.length c0,.slice A1 l1.length c1] w fun e w'=>∃ v0_:Value,e=.returned (.tuple #[v0_,.bool r2])∧Kd.R k30 30 w' w.heap.size (fun _=>True) v0_ r1∧Below w.heap.size w w':=by
 have HR0:=Aside0.mk hr0
 have HC0:=Aside0.mk hc0
 clear hr0 hc0
 have HR1:=Aside0.mk hr1
 have HC1:=Aside0.mk hc1
 clear hr1 hc1
 have HB:=Aside0.mk (Below.refl w.heap.size w)
 have H:((impl_LayoutValid.f k l0).bind fun t450=>(if t450=true then ((impl_LayoutValid.f k l1).bind fun t451=>(impl_CatLayouts.j0 k l0 l1 (!t451))) else (impl_CatLayouts.j0 k l0 l1 true)))=some (r1,r2):=h
 clear h
 have HC3:=Aside0.mk H
 clear H
 go_enter Try.func16,Try.ntmps16
 go_upto_region 1 with (fail)
 go_cut [14] (fun v14 wc=>∃ (kq:Nat) (x14_2:Bool),v14=.bool x14_2∧Aside0 (impl_CatLayouts.j0 kq l0 l1 x14_2=some (r1,r2))∧Aside0 (kq≤k)∧Aside0 (Below w.heap.size w wc))
 case first =>
  have H:=HC3.out
  clear HC3
  replace H:=Option.bind_eq_some_iff.mp H
  obtain ⟨t450,A40,H⟩:=H
  replace H:(if t450=true then ((impl_LayoutValid.f k l1).bind fun t451=>(impl_CatLayouts.j0 k l0 l1 (!t451))) else (impl_CatLayouts.j0 k l0 l1 true))=some (r1,r2):=H
  have A4:=Aside0.mk A40
  clear A40
  by_cases c5:t450=true
  ·subst c5
   have H1:((impl_LayoutValid.f k l1).bind fun t451=>(impl_CatLayouts.j0 k l0 l1 (!t451)))=some (r1,r2):=by rw [if_pos rfl] at H;exact H
   clear H
   have H:=H1
   clear H1
   replace H:=Option.bind_eq_some_iff.mp H
   obtain ⟨t451,A60,H⟩:=H
   replace H:(impl_CatLayouts.j0 k l0 l1 (!t451))=some (r1,r2):=H
   have A6:=Aside0.mk A60
   clear A60
   have H':=Aside0.mk H
   clear H
   go_wp2_with (first|((with_reducible refine gate_callee (f:=19) rfl ?_);refine goesL_ (some 8) rfl rfl Try.func19 (by kernel_rfl) rfl #[.slice A0 l0.length c0] rfl (by (try simp only [List.map_toArray,List.map_cons,List.map_nil]);first|done|rfl|(simp only [List.length_drop,List.length_take];rfl)) ?_;(with_reducible refine (impl_LayoutValid.calls k _ _ l0 true _ ?side1 ?side2 A4.out).mono ?_);(case side1=>exact gC (Kd.C_below HR0.out HB.out));(case side2=>exact HC0.out);rintro e w7 ⟨rfl,hb⟩;refine ⟨_,rfl,?_⟩;have n0_:=Aside0.mk (below_step (gB HB) hb);clear HB;have HB:=n0_;clear n0_;(try clear hb);(try clear hb2);(try clear hk);(try clear hi))|(go_at_call 19;(with_reducible refine (impl_LayoutValid.calls k _ _ l1 t451 _ ?side1 ?side2 A6.out).mono ?_);(case side1=>exact gC (Kd.C_below HR1.out HB.out));(case side2=>exact HC1.out);rintro e w8 ⟨rfl,hb⟩;have n0_:=Aside0.mk (below_step (gB HB) hb);clear HB;have HB:=n0_;clear n0_;(try clear hb);(try clear hb2);(try clear hk);(try clear hi)))
   go_meet
   case rel=>exact ⟨_,(!t451),(by first|rfl|(simp;done)|(simp [*];done)),H',⟨by first|omega|exact Nat.le_refl _⟩,⟨gB HB⟩⟩
  ·replace c5:=Bool.eq_false_iff.mpr c5
   subst c5
   have H1:(impl_CatLayouts.j0 k l0 l1 true)=some (r1,r2):=by rw [if_neg (show ¬ (false=true) by decide)] at H;exact H
   clear H
   have H:=H1
   clear H1
   have H':=Aside0.mk H
   clear H
   go_wp2_with (first|((with_reducible refine gate_callee (f:=19) rfl ?_);refine goesL_ (some 8) rfl rfl Try.func19 (by kernel_rfl) rfl #[.slice A0 l0.length c0] rfl (by (try simp only [List.map_toArray,List.map_cons,List.map_nil]);first|done|rfl|(simp only [List.length_drop,List.length_take];rfl)) ?_;(with_reducible refine (impl_LayoutValid.calls k _ _ l0 false _ ?side1 ?side2 A4.out).mono ?_);(case side1=>exact gC (Kd.C_below HR0.out HB.out));(case side2=>exact HC0.out);rintro e w9 ⟨rfl,hb⟩;refine ⟨_,rfl,?_⟩;have n0_:=Aside0.mk (below_step (gB HB) hb);clear HB;have HB:=n0_;clear n0_;(try clear hb);(try clear hb2);(try clear hk);(try clear hi)))
   go_meet
   case rel=>exact ⟨_,(true),(by first|rfl|(simp;done)|(simp [*];done)),H',⟨by first|omega|exact Nat.le_refl _⟩,⟨gB HB⟩⟩
 case rest =>
  clear HC3
  try clear c1 p2 c5
  obtain ⟨kq,x14_2,rfl,HA,HJ2,HB⟩:=hcut
  cases kq with
  | zero=>exact absurd HA.out (by simp [impl_CatLayouts.j0])
  | succ kj2 =>
   have H:=HA.out
   clear HA
   simp only [impl_CatLayouts.j0] at H
   by_cases c10:x14_2=true
   ·subst c10
    have H1:(some (([]:List (SRow)),false))=some (r1,r2):=by rw [if_pos rfl] at H;exact H
    clear H
    have H:=H1
    clear H1
    simp only [Option.some.injEq,Prod.mk.injEq] at H
    obtain ⟨rfl,rfl⟩:=H
    go_wp2
    go_ret2
    exact ⟨_,by first|rfl|(simp [errW_none,errW_some] <;> rfl)|(simp [*,errW_none,errW_some] <;> rfl),by first|exact Kd.R_nil _ _ _ _ _|exact Kd.N_nil _ _ _ _ _|exact Kd.V_nil _ _ _ _ _|exact Kd.Q_nil _ _ _ _ _|exact Kd.S_nil _ _ _ _ _,gB HB⟩
   ·replace c10:=Bool.eq_false_iff.mpr c10
    subst c10
    have H1:((impl_catRows.f l0 l1).bind fun t452=>((impl_LayoutValid.f kj2 t452).bind fun t455=>(if t455=true then (some (t452,true)) else (some (([]:List (SRow)),false)))))=some (r1,r2):=by rw [if_neg (show ¬ (false=true) by decide)] at H;exact H
    clear H
    have H:=H1
    clear H1
    replace H:=Option.bind_eq_some_iff.mp H
    obtain ⟨t452,A110,H⟩:=H
    replace H:((impl_LayoutValid.f kj2 t452).bind fun t455=>(if t455=true then (some (t452,true)) else (some (([]:List (SRow)),false))))=some (r1,r2):=H
    have A11:=Aside0.mk A110
    clear A110
    replace H:=Option.bind_eq_some_iff.mp H
    obtain ⟨t455,A120,H⟩:=H
    replace H:(if t455=true then (some (t452,true)) else (some (([]:List (SRow)),false)))=some (r1,r2):=H
    have A12:=Aside0.mk A120
    clear A120
    by_cases c13:t455=true
    ·subst c13
     have H1:(some (t452,true))=some (r1,r2):=by rw [if_pos rfl] at H;exact H
     clear H
     have H:=H1
     clear H1
     simp only [Option.some.injEq,Prod.mk.injEq] at H
     obtain ⟨rfl,rfl⟩:=H
     go_wp2_with (first|((with_reducible refine gate_callee (f:=42) rfl ?_);refine goesL_ (some 17) rfl rfl Try.func42 (by kernel_rfl) rfl #[.slice A0 l0.length c0,.slice A1 l1.length c1] rfl (by (try simp only [List.map_toArray,List.map_cons,List.map_nil]);first|done|rfl|(simp only [List.length_drop,List.length_take];rfl)) ?_;(with_reducible refine (impl_catRows.calls _ _ l0 _ _ l1 t452 _ ?side1 ?side2 ?side3 ?side4 A11.out).mono ?_);(case side1=>exact gC (Kd.C_below HR0.out HB.out));(case side2=>exact HC0.out);(case side3=>exact gC (Kd.C_below HR1.out HB.out));(case side4=>exact HC1.out);rintro e w14 ⟨v453,rfl,ho0,hb⟩;refine ⟨_,rfl,?_⟩;have n0_:=Aside0.mk (Kd.R_lower ho0 (below_size (gB HB)));have n1_:=Aside0.mk (below_step (gB HB) hb);clear HB;have HO454:=n0_;have HB:=n1_;clear n0_ n1_;(try clear hb);(try clear hb2);(try clear hk);(try clear hi);(try clear ho0);obtain ⟨Ao15,co15,eo15⟩:=Kd.R_slice HO454.out;subst eo15)|((with_reducible refine gate_callee (f:=19) rfl ?_);refine goesL_ (some 19) rfl rfl Try.func19 (by kernel_rfl) rfl #[.slice Ao15 t452.length co15] rfl (by (try simp only [List.map_toArray,List.map_cons,List.map_nil]);first|done|rfl|(simp only [List.length_drop,List.length_take];rfl)) ?_;(with_reducible refine (impl_LayoutValid.calls kj2 _ _ t452 true _ ?side1 ?side2 A12.out).mono ?_);(case side1=>exact gC ((Kd.R_reads' HO454.out).2.2));(case side2=>exact (Kd.R_reads' HO454.out).2.1);rintro e w16 ⟨rfl,hb⟩;refine ⟨_,rfl,?_⟩;have n0_:=Aside0.mk (Kd.R_below (gR HO454) hb);have n1_:=Aside0.mk (below_step (gB HB) hb);clear HO454;clear HB;have HO454:=n0_;have HB:=n1_;clear n0_ n1_;(try clear hb);(try clear hb2);(try clear hk);(try clear hi)))
     go_ret2
     exact ⟨_,by first|rfl|(simp [errW_none,errW_some] <;> rfl)|(simp [*,errW_none,errW_some] <;> rfl),gR HO454,gB HB⟩
    ·replace c13:=Bool.eq_false_iff.mpr c13
     subst c13
     have H1:(some (([]:List (SRow)),false))=some (r1,r2):=by rw [if_neg (show ¬ (false=true) by decide)] at H;exact H
     clear H
     have H:=H1
     clear H1
     simp only [Option.some.injEq,Prod.mk.injEq] at H
     obtain ⟨rfl,rfl⟩:=H
     go_wp2_with (first|((with_reducible refine gate_callee (f:=42) rfl ?_);refine goesL_ (some 17) rfl rfl Try.func42 (by kernel_rfl) rfl #[.slice A0 l0.length c0,.slice A1 l1.length c1] rfl (by (try simp only [List.map_toArray,List.map_cons,List.map_nil]);first|done|rfl|(simp only [List.length_drop,List.length_take];rfl)) ?_;(with_reducible refine (impl_catRows.calls _ _ l0 _ _ l1 t452 _ ?side1 ?side2 ?side3 ?side4 A11.out).mono ?_);(case side1=>exact gC (Kd.C_below HR0.out HB.out));(case side2=>exact HC0.out);(case side3=>exact gC (Kd.C_below HR1.out HB.out));(case side4=>exact HC1.out);rintro e w17 ⟨v453,rfl,ho0,hb⟩;refine ⟨_,rfl,?_⟩;have n0_:=Aside0.mk (Kd.R_lower ho0 (below_size (gB HB)));have n1_:=Aside0.mk (below_step (gB HB) hb);clear HB;have HO454:=n0_;have HB:=n1_;clear n0_ n1_;(try clear hb);(try clear hb2);(try clear hk);(try clear hi);(try clear ho0);obtain ⟨Ao18,co18,eo18⟩:=Kd.R_slice HO454.out;subst eo18)|((with_reducible refine gate_callee (f:=19) rfl ?_);refine goesL_ (some 19) rfl rfl Try.func19 (by kernel_rfl) rfl #[.slice Ao18 t452.length co18] rfl (by (try simp only [List.map_toArray,List.map_cons,List.map_nil]);first|done|rfl|(simp only [List.length_drop,List.length_take];rfl)) ?_;(with_reducible refine (impl_LayoutValid.calls kj2 _ _ t452 false _ ?side1 ?side2 A12.out).mono ?_);(case side1=>exact gC ((Kd.R_reads' HO454.out).2.2));(case side2=>exact (Kd.R_reads' HO454.out).2.1);rintro e w19 ⟨rfl,hb⟩;refine ⟨_,rfl,?_⟩;have n0_:=Aside0.mk (Kd.R_below (gR HO454) hb);have n1_:=Aside0.mk (below_step (gB HB) hb);clear HO454;clear HB;have HO454:=n0_;have HB:=n1_;clear n0_ n1_;(try clear hb);(try clear hb2);(try clear hk);(try clear hi)))
     go_ret2
     exact ⟨_,by first|rfl|(simp [errW_none,errW_some] <;> rfl)|(simp [*,errW_none,errW_some] <;> rfl),by first|exact Kd.R_nil _ _ _ _ _|exact Kd.N_nil _ _ _ _ _|exact Kd.V_nil _ _ _ _ _|exact Kd.Q_nil _ _ _ _ _|exact Kd.S_nil _ _ _ _ _,gB HB⟩
end Go.Proofs.Ytdhdfmmefghijab.P
namespace Go.Proofs.Ytdhdfmmefghijab.P
open Go.RowKit Go.Proofs.YtdhdfmmefghijabW.PrintWords Go.Proofs.YtdhdfmmefghijabW.PrintLast Go.Proofs.YtdhdfmmefghijabW.PrintMore
attribute [local go_sem] max2_int min2_int max_two min_two max_three min_three max_four min_four
set_option linter.unusedVariables false
set_option linter.unusedSimpArgs false
mutual
def spec_l2Text.l0:Nat→ByteArray→Int→Option (Bool)
 | 0,_,_=>none
 | k+1,x0,x3=>if x3 < (x0.size:Int) then (spec_l2Text.j1 k x0 x3 (decide (x3 < 2000))) else (spec_l2Text.j1 k x0 x3 false)
def spec_l2Text.j1:Nat→ByteArray→Int→Bool→Option (Bool)
 | 0,_,_,_=>none
 | k+1,x0,x3,x11=>if x11=true then (if 0≤x3 then (if x3 < (x0.size:Int) then (if (bt x0 x3)=32 then (spec_l2Text.l0 k x0 (wrap64 (x3+1))) else (if x3≤(wrap64 (x3+1)) then (if (wrap64 (x3+1))≤(x0.size:Int) then ((spec_TextValid.f k (x0.extract (x3:Int).toNat ((wrap64 (x3+1)):Int).toNat)).bind fun t456=>(if t456=true then (spec_l2Text.l0 k x0 (wrap64 (x3+1))) else (some false))) else (none)) else (none))) else (none)) else (none)) else (some (decide ((x0.size:Int) < 2000)))
end
def spec_l2Text.f (k:Nat) (a0:ByteArray):Option (Bool):=spec_l2Text.l0 k a0 0
set_option maxHeartbeats 8000000 in
set_option maxRecDepth 100000 in
theorem spec_l2Text.calls (k:Nat) (a0:ByteArray) (r:Bool) (w:World) (h:spec_l2Text.f k a0=some r) :
  Calls Try.prog 55 #[.string a0] w fun e w'=>e=.returned (.bool r)∧Drawn0 w w':=by
 have H:(spec_l2Text.l0 k a0 0)=some r:=h
 clear h
 have H':=Aside0.mk H
 clear H
 go_enter Try.func55,Try.ntmps55
 go_wp2
 go_loopg [3] k (fun kq v3 w'=>∃ (x3_1:Int),v3=.int .i64 x3_1∧Aside0 (spec_l2Text.l0 kq a0 x3_1=some r)∧Aside0 (kq≤k)∧Drawn0 w w')
 case atStart=>exact ⟨(0),(by first|rfl|(simp;done)|(simp [*];done)),H',⟨Nat.le_refl _⟩,by repeat (first|exact Drawn0.refl _|apply Drawn0.step)⟩
 case round =>
  clear H'
  obtain ⟨x3_1,rfl,HA,HK1,⟨m1,rfl⟩⟩:=hrel
  cases gk with
  | zero=>exact absurd HA.out (by simp [spec_l2Text.l0])
  | succ k1 =>
   have H:=HA.out
   clear HA
   simp only [spec_l2Text.l0] at H
   have HC2:=Aside0.mk H
   clear H
   go_upto_region 2 with (fail)
   go_cut [11] (fun v11 wc=>∃ (kq:Nat) (x11_1:Bool),v11=.bool x11_1∧Aside0 (spec_l2Text.j1 kq a0 x3_1 x11_1=some r)∧Aside0 (kq≤k1)∧Drawn0 w wc)
   case first =>
    have H:=HC2.out
    clear HC2
    by_cases c3:x3_1 < (a0.size:Int)
    ·rw [if_pos c3] at H
     have c3b0:decide (x3_1 < (a0.size:Int))=true:=decide_eq_true c3
     clear c3
     (first|rw [c3b0]|(simp only [i64_w,i32_w];rw [c3b0])|skip)
     have H':=Aside0.mk H
     clear H
     go_wp2
     go_meet
     case rel=>exact ⟨_,(decide (x3_1 < 2000)),(by first|rfl|(simp;done)|(simp [*];done)),H',⟨by have:=HK1.out;first|omega|exact Nat.le_refl _⟩,by repeat (first|exact Drawn0.refl _|apply Drawn0.step)⟩
    ·rw [if_neg c3] at H
     have c3b0:decide (x3_1 < (a0.size:Int))=false:=decide_eq_false c3
     clear c3
     (first|rw [c3b0]|(simp only [i64_w,i32_w];rw [c3b0])|skip)
     have H':=Aside0.mk H
     clear H
     go_wp2
     go_meet
     case rel=>exact ⟨_,(false),(by first|rfl|(simp;done)|(simp [*];done)),H',⟨by have:=HK1.out;first|omega|exact Nat.le_refl _⟩,by repeat (first|exact Drawn0.refl _|apply Drawn0.step)⟩
   case rest =>
    clear HC2
    try clear p2 c3 c3b0
    obtain ⟨kq,x11_1,rfl,HA,HJ1,⟨mc1,rfl⟩⟩:=hcut
    cases kq with
    | zero=>exact absurd HA.out (by simp [spec_l2Text.j1])
    | succ kj1 =>
     have H:=HA.out
     clear HA
     simp only [spec_l2Text.j1] at H
     by_cases c4:x11_1=true
     ·subst c4
      have H1:(if 0≤x3_1 then (if x3_1 < (a0.size:Int) then (if (bt a0 x3_1)=32 then (spec_l2Text.l0 kj1 a0 (wrap64 (x3_1+1))) else (if x3_1≤(wrap64 (x3_1+1)) then (if (wrap64 (x3_1+1))≤(a0.size:Int) then ((spec_TextValid.f kj1 (a0.extract (x3_1:Int).toNat ((wrap64 (x3_1+1)):Int).toNat)).bind fun t456=>(if t456=true then (spec_l2Text.l0 kj1 a0 (wrap64 (x3_1+1))) else (some false))) else (none)) else (none))) else (none)) else (none))=some r:=by rw [if_pos rfl] at H;exact H
      clear H
      have H:=H1
      clear H1
      by_cases c5:0≤x3_1
      ·rw [if_pos c5] at H
       have c5b0:decide (0≤x3_1)=true:=decide_eq_true c5
       clear c5
       by_cases c6:x3_1 < (a0.size:Int)
       ·rw [if_pos c6] at H
        have c6b0:decide (x3_1 < (a0.size:Int))=true:=decide_eq_true c6
        clear c6
        by_cases c8:(bt a0 x3_1)=32
        ·rw [if_pos c8] at H
         have c8b0:((bt a0 x3_1) == 32)=true:=beq_iff_eq.mpr c8
         have c8b1:((bt a0 x3_1) != 32)=false:=bne_eq_false_iff_eq.mpr c8
         clear c8
         have H':=Aside0.mk H
         clear H
         have p7:0≤(x3_1:Int):=of_decide_eq_true (by first|(with_reducible assumption)|assumption)
         have q7:x3_1 < (a0.size:Int):=of_decide_eq_true (by first|(with_reducible assumption)|assumption)
         have hx7:=bt_at a0 x3_1
         replace p7:=eq_true p7
         replace q7:=eq_true q7
         go_wp2
         go_roundg kj1
         case measure=>have:=HK1.out;have:=HJ1.out;omega
         case rel=>exact ⟨(wrap64 (x3_1+1)),(by first|rfl|(simp;done)|(simp [*];done)),H',⟨by have:=HK1.out;have:=HJ1.out;omega⟩,by repeat (first|exact Drawn0.refl _|apply Drawn0.step)⟩
        ·rw [if_neg c8] at H
         have c8b0:((bt a0 x3_1) == 32)=false:=beq_eq_false_iff_ne.mpr c8
         have c8b1:((bt a0 x3_1) != 32)=true:=bne_iff_ne.mpr c8
         have c9b0:=eq_true (of_decide_eq_true (by first|(with_reducible assumption)|assumption):0≤x3_1)
         by_cases c10:x3_1≤(wrap64 (x3_1+1))
         ·rw [if_pos c10] at H
          have c10b0:=eq_true c10
          have c10b1:decide (x3_1≤(wrap64 (x3_1+1)))=true:=decide_eq_true c10
          by_cases c11:(wrap64 (x3_1+1))≤(a0.size:Int)
          ·rw [if_pos c11] at H
           have c11b0:=eq_true c11
           have c11b1:decide ((wrap64 (x3_1+1))≤(a0.size:Int))=true:=decide_eq_true c11
           replace H:=Option.bind_eq_some_iff.mp H
           obtain ⟨t456,A120,H⟩:=H
           replace H:(if t456=true then (spec_l2Text.l0 kj1 a0 (wrap64 (x3_1+1))) else (some false))=some r:=H
           have A12:=Aside0.mk A120
           clear A120
           by_cases c13:t456=true
           ·subst c13
            have H1:(spec_l2Text.l0 kj1 a0 (wrap64 (x3_1+1)))=some r:=by rw [if_pos rfl] at H;exact H
            clear H
            have H:=H1
            clear H1
            have H':=Aside0.mk H
            clear H
            have p7:0≤(x3_1:Int):=of_decide_eq_true (by first|(with_reducible assumption)|assumption)
            have q7:x3_1 < (a0.size:Int):=of_decide_eq_true (by first|(with_reducible assumption)|assumption)
            have hx7:=bt_at a0 x3_1
            replace p7:=eq_true p7
            replace q7:=eq_true q7
            go_wp2_with (first|(go_at_call 73;(with_reducible refine (spec_TextValid.calls kj1 (a0.extract (x3_1:Int).toNat ((wrap64 (x3_1+1)):Int).toNat) true _ A12.out).mono ?_);rintro e w' ⟨rfl,⟨nd,rfl⟩⟩))
            go_roundg kj1
            case measure=>have:=HK1.out;have:=HJ1.out;omega
            case rel=>exact ⟨(wrap64 (x3_1+1)),(by first|rfl|(simp;done)|(simp [*];done)),H',⟨by have:=HK1.out;have:=HJ1.out;omega⟩,by repeat (first|exact Drawn0.refl _|apply Drawn0.step)⟩
           ·replace c13:=Bool.eq_false_iff.mpr c13
            subst c13
            have H1:(some false)=some r:=by rw [if_neg (show ¬ (false=true) by decide)] at H;exact H
            clear H
            have H:=H1
            clear H1
            obtain rfl:=Option.some.inj H
            have p7:0≤(x3_1:Int):=of_decide_eq_true (by first|(with_reducible assumption)|assumption)
            have q7:x3_1 < (a0.size:Int):=of_decide_eq_true (by first|(with_reducible assumption)|assumption)
            have hx7:=bt_at a0 x3_1
            replace p7:=eq_true p7
            replace q7:=eq_true q7
            go_wp2_with (first|(go_at_call 73;(with_reducible refine (spec_TextValid.calls kj1 (a0.extract (x3_1:Int).toNat ((wrap64 (x3_1+1)):Int).toNat) false _ A12.out).mono ?_);rintro e w' ⟨rfl,⟨nd,rfl⟩⟩))
            go_ret
            exact ⟨by first|rfl|(simp;done)|(simp [*];done),by repeat (first|exact Drawn0.refl _|apply Drawn0.step)⟩
          ·rw [if_neg c11] at H
           exact absurd H (by simp)
         ·rw [if_neg c10] at H
          exact absurd H (by simp)
       ·rw [if_neg c6] at H
        exact absurd H (by simp)
      ·rw [if_neg c5] at H
       exact absurd H (by simp)
     ·replace c4:=Bool.eq_false_iff.mpr c4
      subst c4
      have H1:(some (decide ((a0.size:Int) < 2000)))=some r:=by rw [if_neg (show ¬ (false=true) by decide)] at H;exact H
      clear H
      have H:=H1
      clear H1
      obtain rfl:=Option.some.inj H
      go_wp2
      go_ret
      exact ⟨by first|rfl|(simp;done)|(simp [*];done),by repeat (first|exact Drawn0.refl _|apply Drawn0.step)⟩
end Go.Proofs.Ytdhdfmmefghijab.P
