/- CONTRACTS and lemmas: each contract says that a Go function of the program, called over the translation under the theorem's own hypotheses, returns what the Lean function beside it computes. -/
import Derived.Test.YtdhdfmmefghijabVFnCountGroups3
import Derived.Test.YtdhdfmmefghijabProg
import Derived.Below
import Derived.Deep.Draws
import Derived.Deep.AppendLies
import Derived.Maps.AppendAt
import Derived.OwnWalk
import Derived.Laws.BytesArg
import Derived.Laws.MakeOwn
import Derived.Laws.OwnMore
import Derived.Deep.OwnRows
import Derived.Tactics
import Derived.Lib.ConvBytes
import Derived.Laws.Slices
import Derived.WalkKit
import Derived.KernelRfl
import Derived.RowKit3
import Derived.Deep.LoopGhost
import Derived.Deep.QuietTactic
import Derived.BigQuiet
import Derived.WideLaws
import Derived.Deep.DeepCutAuto
import Derived.Deep.CutBlock
import Derived.Deep.RegionHeld3
import Derived.Laws.Rows
import Derived.Lib.AppendStr
import Derived.ArgAppend
import Derived.Laws.IdiomCopy
import Derived.OrdersHeld
import Derived.Laws.BitsLemmas
import Derived.RowKit
import Derived.WalkSpells
namespace Go.Proofs.Ytdhdfmmefghijab.P
open Go.RowKit Go.Proofs.YtdhdfmmefghijabW.PrintWords Go.Proofs.YtdhdfmmefghijabW.PrintLast Go.Proofs.YtdhdfmmefghijabW.PrintMore
attribute [local go_sem] max2_int min2_int max_two min_two max_three min_three max_four min_four
set_option linter.unusedVariables false
set_option linter.unusedSimpArgs false
def errW:Option Int→Value
 | none=>.nilIface
 | some c=>.iface 0 (.int .i64 c)
theorem errW_none:errW none=.nilIface:=rfl
theorem errW_some (c:Int):errW (some c)=.iface 0 (.int .i64 c):=rfl
theorem info5:(Try.prog.info? 5).map (fun i=>(i.zero,i.size,i.bytes))=some (some (.int .u8 0),1,1):=by kernel_rfl
theorem info39:(Try.prog.info? 39).map (fun i=>(i.zero,i.size,i.bytes))=some (some (.agg #[(.int .i64 0),(.int .i64 0),(.string ⟨#[]⟩),(.slice none 0 0)]),4,56):=by kernel_rfl
structure SDoc where
 f0:Int
 f1:Int
 f2:ByteArray
 f3:(List SDoc)
def zDoc:SDoc:=⟨(0:Int),(0:Int),(⟨#[]⟩:ByteArray),([]:List SDoc)⟩
def F39 (d:Kd SDoc):Kd SDoc:=Kd.iso (Kd.pair (Kd.int .i64) (Kd.pair (Kd.int .i64) (Kd.pair Kd.string (Kd.slice 39 d)))) (fun x:SDoc=>(x.f0,x.f1,x.f2,x.f3))
theorem mono39:Kd.Mono F39:=Kd.mono_iso _ (Kd.mono_pair (Kd.mono_const _) (Kd.mono_pair (Kd.mono_const _) (Kd.mono_pair (Kd.mono_const _) (Kd.mono_slice 39 Kd.mono_id))))
theorem sub39:Kd.Sub F39 [39]:=Kd.sub_iso _ (Kd.sub_pair (Kd.sub_const _ (by decide)) (Kd.sub_pair (Kd.sub_const _ (by decide)) (Kd.sub_pair (Kd.sub_const _ (by decide)) (Kd.sub_slice 39 (by decide) Kd.sub_id))))
theorem sz39:∀ n,(Kd.upto F39 4 [39] n).sz=4:=Kd.upto_sz (fun _=>rfl)
def k39:Kd SDoc:=Kd.fix F39 4 [39] sz39 (Kd.upto_E sub39)
theorem k39_open {w:World} {x:SDoc} {cs:List Value} (h:k39.K w x cs):∃ A3 c3,cs=[.int .i64 x.f0,.int .i64 x.f1,.string x.f2,.slice A3 x.f3.length c3]∧x.f3.length≤c3∧k39.C w A3 x.f3.length x.f3:=by
 obtain ⟨n,h⟩:=h
 cases n with
 | zero=>exact h.elim
 | succ n =>
  obtain ⟨_,_,rfl,rfl,⟨_,_,rfl,rfl,⟨_,_,rfl,rfl,⟨A3,c3,rfl,l3,g3⟩⟩⟩⟩:=h
  exact ⟨A3,c3,rfl,l3,Kd.fix_C g3⟩
theorem k39_mk (w:World) (x:SDoc) {A3:Option Addr} {c3:Nat} (l3:x.f3.length≤c3) (g3:k39.C w A3 x.f3.length x.f3):k39.K w x [.int .i64 x.f0,.int .i64 x.f1,.string x.f2,.slice A3 x.f3.length c3]:=by
 obtain ⟨n3,q3⟩:=Kd.fix_C_back mono39 g3
 have r3:=Kd.upto_C_le mono39 sz39 (show n3≤n3 by omega) q3
 exact ⟨n3+1,⟨[.int .i64 x.f0],[.int .i64 x.f1,.string x.f2,.slice A3 x.f3.length c3],rfl,rfl,⟨[.int .i64 x.f1],[.string x.f2,.slice A3 x.f3.length c3],rfl,rfl,⟨[.string x.f2],[.slice A3 x.f3.length c3],rfl,rfl,⟨A3,c3,rfl,l3,r3⟩⟩⟩⟩⟩
theorem k39_mkM (w:World) (base:Nat) (ok:Nat→Prop) (x:SDoc) {v3:Value} (g3:k39.R 39 w base ok v3 x.f3):k39.M w base ok x [.int .i64 x.f0,.int .i64 x.f1,.string x.f2,v3]:=by
 obtain ⟨n3,q3⟩:=Kd.fix_R_back mono39 g3
 have r3:=Kd.upto_R_le mono39 sz39 (show n3≤n3 by omega) q3
 exact ⟨n3+1,⟨[.int .i64 x.f0],[.int .i64 x.f1,.string x.f2,v3],rfl,rfl,⟨[.int .i64 x.f1],[.string x.f2,v3],rfl,rfl,⟨[.string x.f2],[v3],rfl,rfl,⟨v3,rfl,r3⟩⟩⟩⟩⟩
theorem k39_openF {W:World} {ok:Nat→Prop} {x:SDoc} {cs:List Value} (h:Kd.FK k39 W ok x cs):∃ A3 c3,cs=[.int .i64 x.f0,.int .i64 x.f1,.string x.f2,.slice A3 x.f3.length c3]∧x.f3.length≤c3∧Kd.F k39 W ok A3 x.f3.length x.f3:=by
 obtain ⟨A3,c3,rfl,l3,_⟩:=k39_open (Kd.FK_now h)
 exact ⟨A3,c3,rfl,l3,(fun W' hW=>by obtain ⟨A3_,c3_,he,l3_,g3_⟩:=k39_open (h W' hW);injection (Option.some.inj (show some (Value.slice A3 x.f3.length c3)=some (Value.slice A3_ x.f3.length c3_) from congrArg (fun l=>l[3]?) he)) with ha_ _ _;rw [ha_];exact g3_)⟩
theorem k39_mkF (W:World) (ok:Nat→Prop) (x:SDoc) {A3:Option Addr} {c3:Nat} (l3:x.f3.length≤c3) (g3:Kd.F k39 W ok A3 x.f3.length x.f3):Kd.FK k39 W ok x [.int .i64 x.f0,.int .i64 x.f1,.string x.f2,.slice A3 x.f3.length c3]:=fun W2 hW=>k39_mk W2 x l3 (g3 W2 hW)
def rd_TDoc (xs:List SDoc) (i:Int):SDoc:=xs.getD i.toNat zDoc
theorem at_TDoc {w:World} {A:Option Addr} {n:Nat} {xs:List SDoc} (h:Kd.C k39 w A n xs) (i:Int) (h0:0≤i) (h1:i < n):∃ ad A3 c3,A=some ad∧w.cell? (ad.add (i.toNat * 4))=some (.int .i64 (rd_TDoc xs i).f0)∧w.cell? ⟨(ad.add (i.toNat * 4)).block,(ad.add (i.toNat * 4)).off+1,none⟩=some (.int .i64 (rd_TDoc xs i).f1)∧w.cell? ⟨(ad.add (i.toNat * 4)).block,(ad.add (i.toNat * 4)).off+2,none⟩=some (.string (rd_TDoc xs i).f2)∧w.cell? ⟨(ad.add (i.toNat * 4)).block,(ad.add (i.toNat * 4)).off+3,none⟩=some (.slice A3 (rd_TDoc xs i).f3.length c3)∧(rd_TDoc xs i).f3.length≤c3∧k39.C w A3 (rd_TDoc xs i).f3.length (rd_TDoc xs i).f3:=by
 obtain ⟨ad,c,e,_,hK,hc0⟩:=Kd.C_get h zDoc i h0 h1
 have hc:∀ j u,c[j]?=some u→w.cell? (ad.add (i.toNat * 4+j))=some u:=hc0
 obtain ⟨A3,c3,rfl,l3,g3⟩:=k39_open hK
 exact ⟨ad,A3,c3,e,hc 0 _ rfl,by rw [← add_field _ _ 1 (by omega)];exact hc 1 _ rfl,by rw [← add_field _ _ 2 (by omega)];exact hc 2 _ rfl,by rw [← add_field _ _ 3 (by omega)];exact hc 3 _ rfl,l3,g3⟩
theorem xp_isEmpty (l:List UInt8):(!l.isEmpty)=(l != []):=by cases l <;> rfl
end Go.Proofs.Ytdhdfmmefghijab.P
namespace Go.Proofs.Ytdhdfmmefghijab.P
open Go.RowKit Go.Proofs.YtdhdfmmefghijabW.PrintWords Go.Proofs.YtdhdfmmefghijabW.PrintLast Go.Proofs.YtdhdfmmefghijabW.PrintMore
class Gr (a b : World) : Prop where
  out : Below a.heap.size a b
instance gr_refl (a : World) : Gr a a := ⟨Below.refl _ _⟩
instance gr_alloc (a b : World) (o : Obj) [h : Gr a b] : Gr a (b.alloc o) := ⟨below_alloc h.out o⟩
instance gr_drewN (a b : World) (n : Nat) [h : Gr a b] : Gr a (b.drewN n) := ⟨pw_below_drewN h.out n⟩
instance gr_drew (a b : World) [h : Gr a b] : Gr a b.drew := ⟨below_drew1 h.out⟩
theorem gB {w a b : World} (h : Aside0 (Below w.heap.size w a)) [g : Gr a b] : Below w.heap.size w b := below_step h.out g.out
theorem gR {α : Type} {d : Kd α} {e : Nat} {a b : World} {base : Nat} {ok : Nat → Prop} {v : Value} {xs : List α} (h : Aside0 (d.R e a base ok v xs)) [g : Gr a b] : d.R e b base ok v xs := Kd.R_below h.out g.out
theorem gN {α : Type} {d : Kd α} {e : Nat} {a b : World} {base : Nat} {ok : Nat → Prop} {v : Value} {xs : List α} (h : Aside0 (Kd.N d e a base ok v xs)) [g : Gr a b] : Kd.N d e b base ok v xs := Kd.N_below h.out g.out
theorem gV {α : Type} {d : Kd α} {e : Nat} {a b : World} {base : Nat} {ok : Nat → Prop} {v : Value} {xs : List α} (h : Aside0 (Kd.V d e a base ok v xs)) [g : Gr a b] : Kd.V d e b base ok v xs := Kd.V_below h.out g.out
theorem gS {α : Type} {d : Kd α} {e : Nat} {a b : World} {base : Nat} {ok : Nat → Prop} {v : Value} {xs : List α} (h : Aside0 (Kd.S d e a base ok v xs)) [g : Gr a b] : Kd.S d e b base ok v xs := Kd.S_below h.out g.out
theorem gC {α : Type} {d : Kd α} {a b : World} {A : Option Addr} {n : Nat} {xs : List α} (h : d.C a A n xs) [g : Gr a b] : d.C b A n xs := Kd.C_below h g.out
theorem gK {a b : World} {g : Nat} {o : Obj} (h : Aside0 (a.heap[g]? = some o)) [r : Gr a b] : b.heap[g]? = some o := blk_below h.out r.out
theorem gW {w a b : World} {g : Nat} (h : Aside0 (KeepBut w a g none)) [r : Gr a b] : KeepBut w b g none := KeepBut.trans h.out (KeepBut.of_below r.out g none) (.inl rfl)
theorem gT {w a b : World} {S : Nat → Prop} (h : Aside0 (Kept w a S)) [r : Gr a b] : Kept w b S := Kept.below h.out r.out
end Go.Proofs.Ytdhdfmmefghijab.P
namespace Go.Proofs.Ytdhdfmmefghijab.P
open Go.RowKit Go.Proofs.YtdhdfmmefghijabW.PrintWords Go.Proofs.YtdhdfmmefghijabW.PrintLast Go.Proofs.YtdhdfmmefghijabW.PrintMore
attribute [local go_sem] max2_int min2_int max_two min_two max_three min_three max_four min_four
set_option linter.unusedVariables false
set_option linter.unusedSimpArgs false
mutual
def impl_CountOps.j0:Nat→Int→Int→Int→Int→ByteArray→List (SDoc)→Option (Int)
 | 0,_,_,_,_,_,_=>none
 | k+1,x1,x5,x860000,x860001,x860002,x860003=>impl_CountOps.l0 k x1 x5 x860003 (x860003.length:Int) 0
def impl_CountOps.l0:Nat→Int→Int→List (SDoc)→Int→Int→Option (Int)
 | 0,_,_,_,_,_=>none
 | k+1,x1,x5,x13,x14,x15=>if x15 < x14 then (if 0≤x15 then (if x15 < (x13.length:Int) then ((impl_CountOps.f k ((rd_TDoc x13 x15).f0) ((rd_TDoc x13 x15).f1) ((rd_TDoc x13 x15).f2) ((rd_TDoc x13 x15).f3) x1).bind fun t862=>(impl_CountOps.l0 k x1 (wrap64 (x5+t862)) x13 x14 (wrap64 (x15+1)))) else (none)) else (none)) else (some x5)
def impl_CountOps.f:Nat→Int→Int→ByteArray→List (SDoc)→Int→Option (Int)
 | 0,_,_,_,_,_=>none
 | k+1,a0_0,a0_1,a0_2,l0_3,a1=>if a0_0=a1 then (impl_CountOps.j0 k a1 1 a0_0 a0_1 a0_2 l0_3) else (impl_CountOps.j0 k a1 0 a0_0 a0_1 a0_2 l0_3)
end
set_option maxHeartbeats 8000000 in
set_option maxRecDepth 100000 in
theorem impl_CountOps.calls (k:Nat):∀ (a0_0:Int) (a0_1:Int) (a0_2:ByteArray) (A0_3:Option Addr) (c0_3:Nat) (l0_3:List (SDoc)) (a1:Int) (r:Int) (w:World) (hr0_3:Kd.C k39 w A0_3 l0_3.length l0_3) (hc0_3:l0_3.length≤c0_3) (h:impl_CountOps.f k a0_0 a0_1 a0_2 l0_3 a1=some r),
  Calls Try.prog 26 #[.agg #[.int .i64 a0_0,.int .i64 a0_1,.string a0_2,.slice A0_3 l0_3.length c0_3],.int .i64 a1] w fun e w'=>e=.returned (.int .i64 r)∧Below w.heap.size w w':=by
 induction k using Nat.strongRecOn with
 | _ k ih =>
 intro a0_0 a0_1 a0_2 A0_3 c0_3 l0_3 a1 r w hr0_3 hc0_3 h
 cases k with
 | zero=>exact absurd h (by simp [impl_CountOps.f])
 | succ k =>
 simp only [impl_CountOps.f] at h
 have hu39:=Try.underlying39
 have HR0_3:=Aside0.mk hr0_3
 have HC0_3:=Aside0.mk hc0_3
 clear hr0_3 hc0_3
 have HB:=Aside0.mk (Below.refl w.heap.size w)
 have H:(if a0_0=a1 then (impl_CountOps.j0 k a1 1 a0_0 a0_1 a0_2 l0_3) else (impl_CountOps.j0 k a1 0 a0_0 a0_1 a0_2 l0_3))=some r:=h
 clear h
 have HC3:=Aside0.mk H
 clear H
 go_enter Try.func26,Try.ntmps26
 go_upto_if 11 with (first|((with_reducible refine gate_dst (N:=2) rfl ?_);refine box_event ?hg (N:=2) ?hd (cs:=#[.int .i64 a0_0,.int .i64 a0_1,.string a0_2,.slice A0_3 l0_3.length c0_3]) (t:=39) ?hr ?_;(case hd=>rfl);(case hg=>rfl);(case hr=>first|(go_simp;done)|(go_simp;rfl));intro gb859 hg w4 hbox hb;have n0_:=Aside0.mk (below_step (gB HB) hb);have n1_:=Aside0.mk (hbox);have n2_:=Aside0.mk ((by rw [hg];exact (below_size (gB HB)):w.heap.size≤gb859));have n3_:=Aside0.mk ((by rw [hg];exact (below_size (gB HB)):w.heap.size≤gb859));clear HB;have HB:=n0_;have BK859:=n1_;have GW859:=n2_;have GE859:=n3_;clear n0_ n1_ n2_ n3_;clear hb hbox hg;have hcz5_0:w4.cell? ⟨gb859,0,none⟩=some (.int .i64 a0_0):=(blk_cell BK859.out 0).trans rfl;have hcz5_1:w4.cell? ⟨gb859,1,none⟩=some (.int .i64 a0_1):=(blk_cell BK859.out 1).trans rfl;have hcz5_2:w4.cell? ⟨gb859,2,none⟩=some (.string a0_2):=(blk_cell BK859.out 2).trans rfl;have hcz5_3:w4.cell? ⟨gb859,3,none⟩=some (.slice A0_3 l0_3.length c0_3):=(blk_cell BK859.out 3).trans rfl;have hfz5_0:=blk_frozen BK859.out 0;have hfz5_1:=blk_frozen BK859.out 1;have hfz5_2:=blk_frozen BK859.out 2;have hfz5_3:=blk_frozen BK859.out 3))
 (try simp only [Act.put,List.setIfInBounds_toArray,List.set_cons_zero,List.set_cons_succ])
 go_cut [5] (fun v5 wc=>∃ (kq:Nat) (x5_2:Int),v5=.int .i64 x5_2∧Aside0 (impl_CountOps.j0 kq a1 x5_2 a0_0 a0_1 a0_2 l0_3=some r)∧Aside0 (kq≤k)∧Aside0 (wc.heap[gb859]?=some (.cells #[.int .i64 a0_0,.int .i64 a0_1,.string a0_2,(.slice A0_3 l0_3.length c0_3)] 39 (0,0)))∧Aside0 (Below w.heap.size w wc))
 case first =>
  have H:=HC3.out
  clear HC3
  by_cases c6:a0_0=a1
  ·rw [if_pos c6] at H
   have c6b0:(a0_0 == a1)=true:=beq_iff_eq.mpr c6
   have c6b1:(a0_0 != a1)=false:=bne_eq_false_iff_eq.mpr c6
   clear c6
   (first|rw [c6b0]|(simp only [i64_w,i32_w];rw [c6b0])|skip)
   have H':=Aside0.mk H
   clear H
   go_wp2
   go_meet
   case rel=>exact ⟨_,(1),(by first|rfl|(simp;done)|(simp [*];done)),H',⟨by first|omega|exact Nat.le_refl _⟩,⟨gK BK859⟩,⟨by repeat (first|exact gB HB|refine below_set ?_ GE859.out)⟩⟩
  ·rw [if_neg c6] at H
   have c6b0:(a0_0 == a1)=false:=beq_eq_false_iff_ne.mpr c6
   have c6b1:(a0_0 != a1)=true:=bne_iff_ne.mpr c6
   (first|rw [c6b0]|(simp only [i64_w,i32_w];rw [c6b0])|skip)
   have H':=Aside0.mk H
   clear H
   go_wp2
   go_meet
   case rel=>exact ⟨_,(0),(by first|rfl|(simp;done)|(simp [*];done)),H',⟨by first|omega|exact Nat.le_refl _⟩,⟨gK BK859⟩,⟨by repeat (first|exact gB HB|refine below_set ?_ GE859.out)⟩⟩
 case rest =>
  clear HC3
  try clear c2 p2 c6 c6b0 c6b1 hcz5_0 hcz5_1 hcz5_2 hcz5_3 hfz5_0 hfz5_1 hfz5_2 hfz5_3
  obtain ⟨kq,x5_2,rfl,HA,HJ2,BK859,HB⟩:=hcut
  cases kq with
  | zero=>exact absurd HA.out (by simp [impl_CountOps.j0])
  | succ kj2 =>
   have H:=HA.out
   clear HA
   simp only [impl_CountOps.j0] at H
   have H':=Aside0.mk H
   clear H
   have hcz7_0:wc.cell? ⟨gb859,0,none⟩=some (.int .i64 a0_0):=(blk_cell BK859.out 0).trans rfl
   have hcz7_1:wc.cell? ⟨gb859,1,none⟩=some (.int .i64 a0_1):=(blk_cell BK859.out 1).trans rfl
   have hcz7_2:wc.cell? ⟨gb859,2,none⟩=some (.string a0_2):=(blk_cell BK859.out 2).trans rfl
   have hcz7_3:wc.cell? ⟨gb859,3,none⟩=some (.slice A0_3 l0_3.length c0_3):=(blk_cell BK859.out 3).trans rfl
   have hfz7_0:=blk_frozen BK859.out 0
   have hfz7_1:=blk_frozen BK859.out 1
   have hfz7_2:=blk_frozen BK859.out 2
   have hfz7_3:=blk_frozen BK859.out 3
   go_wp2
   go_loopg [5,15] kj2 (fun kq v5 v15 w'=>∃ (x5_2:Int) (x15_2:Int),v5=.int .i64 x5_2∧v15=.int .i64 x15_2∧Aside0 (impl_CountOps.l0 kq a1 x5_2 l0_3 (l0_3.length:Int) x15_2=some r)∧Aside0 (kq≤kj2)∧Aside0 (w'.heap[gb859]?=some (.cells #[.int .i64 a0_0,.int .i64 a0_1,.string a0_2,(.slice A0_3 l0_3.length c0_3)] 39 (0,0)))∧Aside0 (Below w.heap.size w w'))
   case atStart=>exact ⟨(x5_2),(0),(by first|rfl|(simp;done)|(simp [*];done)),(by first|rfl|(simp;done)|(simp [*];done)),H',⟨Nat.le_refl _⟩,⟨gK BK859⟩,⟨by repeat (first|exact gB HB|refine below_set ?_ GE859.out)⟩⟩
   case round =>
    clear H'
    try clear c2 p2 c6 c6b0 c6b1 hcz5_0 hcz5_1 hcz5_2 hcz5_3 hcz7_0 hcz7_1 hcz7_2 hcz7_3 hfz5_0 hfz5_1 hfz5_2 hfz5_3 hfz7_0 hfz7_1 hfz7_2 hfz7_3 p2
    (try clear BK859);(try clear HB)
    obtain ⟨x5_2,x15_2,rfl,rfl,HA,HK2,BK859,HB⟩:=hrel
    cases gk with
    | zero=>exact absurd HA.out (by simp [impl_CountOps.l0])
    | succ k2 =>
     have H:=HA.out
     clear HA
     simp only [impl_CountOps.l0] at H
     by_cases c8:x15_2 < (l0_3.length:Int)
     ·rw [if_pos c8] at H
      have c8b0:decide (x15_2 < (l0_3.length:Int))=true:=decide_eq_true c8
      clear c8
      by_cases c9:0≤x15_2
      ·rw [if_pos c9] at H
       have c9b0:decide (0≤x15_2)=true:=decide_eq_true c9
       clear c9
       by_cases c10:x15_2 < (l0_3.length:Int)
       ·rw [if_pos c10] at H
        have c10b0:decide (x15_2 < (l0_3.length:Int))=true:=decide_eq_true c10
        clear c10
        replace H:=Option.bind_eq_some_iff.mp H
        obtain ⟨t862,A110,H⟩:=H
        replace H:(impl_CountOps.l0 k2 a1 (wrap64 (x5_2+t862)) l0_3 (l0_3.length:Int) (wrap64 (x15_2+1)))=some r:=H
        have A11:=Aside0.mk A110
        clear A110
        have H':=Aside0.mk H
        clear H
        have p860:0≤(x15_2:Int):=of_decide_eq_true (by first|(with_reducible assumption)|assumption)
        have q860:x15_2 < (l0_3.length:Int):=of_decide_eq_true (by first|(with_reducible assumption)|assumption)
        obtain ⟨ad860,A860_3,c860_3,e860,hx860_0,hx860_1,hx860_2,hx860_3,hl860_3,hi860_3⟩:=at_TDoc HR0_3.out x15_2 p860 q860
        cases e860
        replace hx860_0:=(HB.out.cell (World.block_lt_of_cell? w _ hx860_0)).trans hx860_0
        replace hx860_1:=(HB.out.cell (World.block_lt_of_cell? w _ hx860_1)).trans hx860_1
        replace hx860_2:=(HB.out.cell (World.block_lt_of_cell? w _ hx860_2)).trans hx860_2
        replace hx860_3:=(HB.out.cell (World.block_lt_of_cell? w _ hx860_3)).trans hx860_3
        have HR860_3:=Aside0.mk hi860_3
        have HC860_3:=Aside0.mk hl860_3
        clear hi860_3 hl860_3
        replace p860:=eq_true p860
        replace q860:=eq_true q860
        go_wp2_with (first|((with_reducible refine gate_dst (N:=7) rfl ?_);refine box_event ?hg (N:=7) ?hd (cs:=#[.int .i64 0,.int .i64 0,.string (⟨#[]⟩:ByteArray),.slice none 0 0]) (t:=39) ?hr ?_;(case hd=>rfl);(case hg=>rfl);(case hr=>first|(go_simp;done)|(go_simp;rfl));intro gb861 hg w12 hbox hb;have n0_:=Aside0.mk (blk_below (g:=gb859) (o:=.cells #[.int .i64 a0_0,.int .i64 a0_1,.string a0_2,.slice (some ad860) l0_3.length c0_3] 39 (0,0)) (gK BK859) hb);have n1_:=Aside0.mk (below_step (by repeat (first|exact gB HB|refine below_set ?_ GE859.out)) hb);have n2_:=Aside0.mk (hbox);have n3_:=Aside0.mk ((by rw [hg];exact (below_size (by repeat (first|exact gB HB|refine below_set ?_ GE859.out))):w.heap.size≤gb861));have n4_:=Aside0.mk ((by rw [hg];exact (below_size (by repeat (first|exact gB HB|refine below_set ?_ GE859.out))):w.heap.size≤gb861));have n5_:=Aside0.mk ((by rw [hg];exact Nat.ne_of_lt (blk_lt (g:=gb859) (o:=.cells #[.int .i64 a0_0,.int .i64 a0_1,.string a0_2,.slice (some ad860) l0_3.length c0_3] 39 (0,0)) (gK BK859)):gb859 ≠ gb861));have n6_:=Aside0.mk ((by rw [hg];exact Nat.ne_of_gt (blk_lt (g:=gb859) (o:=.cells #[.int .i64 a0_0,.int .i64 a0_1,.string a0_2,.slice (some ad860) l0_3.length c0_3] 39 (0,0)) (gK BK859)):gb861 ≠ gb859));clear BK859;clear HB;have BK859:=n0_;have HB:=n1_;have BK861:=n2_;have GW861:=n3_;have GE861:=n4_;have NB859_861:=n5_;have NB861_859:=n6_;clear n0_ n1_ n2_ n3_ n4_ n5_ n6_;clear hb hbox hg;have hnb13:=NB861_859.out;have hnc13:=NB859_861.out;have hcz14_0:w12.cell? ⟨gb861,0,none⟩=some (.int .i64 0):=(blk_cell BK861.out 0).trans rfl;have hcz14_1:w12.cell? ⟨gb861,1,none⟩=some (.int .i64 0):=(blk_cell BK861.out 1).trans rfl;have hcz14_2:w12.cell? ⟨gb861,2,none⟩=some (.string (⟨#[]⟩:ByteArray)):=(blk_cell BK861.out 2).trans rfl;have hcz14_3:w12.cell? ⟨gb861,3,none⟩=some (.slice none 0 0):=(blk_cell BK861.out 3).trans rfl;have hfz14_0:=blk_frozen BK861.out 0;have hfz14_1:=blk_frozen BK861.out 1;have hfz14_2:=blk_frozen BK861.out 2;have hfz14_3:=blk_frozen BK861.out 3)|((with_reducible refine gate_callee (f:=26) rfl ?_);refine goesL_ (some 22) rfl rfl Try.func26 (by kernel_rfl) rfl #[.agg #[.int .i64 ((rd_TDoc l0_3 x15_2).f0),.int .i64 ((rd_TDoc l0_3 x15_2).f1),.string ((rd_TDoc l0_3 x15_2).f2),.slice A860_3 ((rd_TDoc l0_3 x15_2).f3).length c860_3],.int .i64 a1] rfl (by (try simp only [List.map_toArray,List.map_cons,List.map_nil]);first|done|rfl|(simp only [List.length_drop,List.length_take];rfl)) ?_;(with_reducible refine (ih k2 (by have:=HJ2.out;have:=HK2.out;omega) ((rd_TDoc l0_3 x15_2).f0) ((rd_TDoc l0_3 x15_2).f1) ((rd_TDoc l0_3 x15_2).f2) _ _ ((rd_TDoc l0_3 x15_2).f3) a1 t862 _ ?side1 ?side2 A11.out).mono ?_);(case side1=>exact Kd.C_below HR860_3.out (by repeat (first|exact gB HB|refine below_set ?_ GE859.out|refine below_set ?_ GE861.out)));(case side2=>exact HC860_3.out);rintro e w15 ⟨rfl,hb⟩;refine ⟨_,rfl,?_⟩;have n0_:=Aside0.mk (blk_below (g:=gb859) (o:=.cells #[.int .i64 a0_0,.int .i64 a0_1,.string a0_2,.slice (some ad860) l0_3.length c0_3] 39 (0,0)) (by (with_reducible repeat (first|refine blk_drewN ?_ _|refine blk_drew ?_|refine blk_alloc ?_ _));refine blk_far ?_ NB859_861.out _;(with_reducible repeat (first|refine blk_drewN ?_ _|refine blk_drew ?_|refine blk_alloc ?_ _));refine blk_far ?_ NB859_861.out _;(with_reducible repeat (first|refine blk_drewN ?_ _|refine blk_drew ?_|refine blk_alloc ?_ _));refine blk_far ?_ NB859_861.out _;(with_reducible repeat (first|refine blk_drewN ?_ _|refine blk_drew ?_|refine blk_alloc ?_ _));refine blk_far ?_ NB859_861.out _;(with_reducible repeat (first|refine blk_drewN ?_ _|refine blk_drew ?_|refine blk_alloc ?_ _));exact BK859.out) hb);have n1_:=Aside0.mk (blk_below (g:=gb861) (o:=.cells #[.int .i64 ((rd_TDoc l0_3 x15_2).f0),.int .i64 ((rd_TDoc l0_3 x15_2).f1),.string ((rd_TDoc l0_3 x15_2).f2),.slice A860_3 ((rd_TDoc l0_3 x15_2).f3).length c860_3] 39 (0,0)) (by (with_reducible repeat (first|refine blk_drewN ?_ _|refine blk_drew ?_|refine blk_alloc ?_ _));refine blk_put (cs:=#[.int .i64 ((rd_TDoc l0_3 x15_2).f0),.int .i64 ((rd_TDoc l0_3 x15_2).f1),.string ((rd_TDoc l0_3 x15_2).f2),.slice none 0 0]) ?_ 3 _ rfl;(with_reducible repeat (first|refine blk_drewN ?_ _|refine blk_drew ?_|refine blk_alloc ?_ _));refine blk_put (cs:=#[.int .i64 ((rd_TDoc l0_3 x15_2).f0),.int .i64 ((rd_TDoc l0_3 x15_2).f1),.string (⟨#[]⟩:ByteArray),.slice none 0 0]) ?_ 2 _ rfl;(with_reducible repeat (first|refine blk_drewN ?_ _|refine blk_drew ?_|refine blk_alloc ?_ _));refine blk_put (cs:=#[.int .i64 ((rd_TDoc l0_3 x15_2).f0),.int .i64 0,.string (⟨#[]⟩:ByteArray),.slice none 0 0]) ?_ 1 _ rfl;(with_reducible repeat (first|refine blk_drewN ?_ _|refine blk_drew ?_|refine blk_alloc ?_ _));refine blk_put (cs:=#[.int .i64 0,.int .i64 0,.string (⟨#[]⟩:ByteArray),.slice none 0 0]) ?_ 0 _ rfl;(with_reducible repeat (first|refine blk_drewN ?_ _|refine blk_drew ?_|refine blk_alloc ?_ _));exact BK861.out) hb);have n2_:=Aside0.mk (below_step (by repeat (first|exact gB HB|refine below_set ?_ GE859.out|refine below_set ?_ GE861.out)) hb);clear BK859;clear BK861;clear HB;have BK859:=n0_;have BK861:=n1_;have HB:=n2_;clear n0_ n1_ n2_;(try clear hb);(try clear hb2);(try clear hk);(try clear hi)))
        go_roundg k2
        case measure=>have:=HJ2.out;have:=HK2.out;omega
        case rel=>exact ⟨(wrap64 (x5_2+t862)),(wrap64 (x15_2+1)),(by first|rfl|(simp;done)|(simp [*];done)),(by first|rfl|(simp;done)|(simp [*];done)),H',⟨by have:=HJ2.out;have:=HK2.out;omega⟩,⟨gK BK859⟩,⟨by repeat (first|exact gB HB|refine below_set ?_ GE859.out|refine below_set ?_ GE861.out)⟩⟩
       ·rw [if_neg c10] at H
        exact absurd H (by simp)
      ·rw [if_neg c9] at H
       exact absurd H (by simp)
     ·rw [if_neg c8] at H
      have c8b0:decide (x15_2 < (l0_3.length:Int))=false:=decide_eq_false c8
      clear c8
      obtain rfl:=Option.some.inj H
      go_wp2
      go_ret
      exact ⟨by first|rfl|(simp [errW_none,errW_some] <;> rfl)|(simp [*,errW_none,errW_some] <;> rfl),by repeat (first|exact gB HB|refine below_set ?_ GE859.out)⟩
end Go.Proofs.Ytdhdfmmefghijab.P
namespace Go.Proofs.Ytdhdfmmefghijab.P
open Go.RowKit Go.Proofs.YtdhdfmmefghijabW.PrintWords Go.Proofs.YtdhdfmmefghijabW.PrintLast Go.Proofs.YtdhdfmmefghijabW.PrintMore
attribute [local go_sem] max2_int min2_int max_two min_two max_three min_three max_four min_four
set_option linter.unusedVariables false
set_option linter.unusedSimpArgs false
def IsS67 (w0 W:World) (g:Nat) (f0:List Int) (f1:Int):Prop:=∃ A0 c0,W.heap[g]?=some (.cells #[.slice A0 f0.length c0,.int .i64 f1] 67 (0,0))∧w0.heap.size≤g∧Kd.C (Kd.int .u8) w0 A0 f0.length f0
theorem IsS67.grown {w0 W:World} {g:Nat} {f0:List Int} {f1:Int} {W1:World} {row:Option Nat} (h:IsS67 w0 W g f0 f1) (hw:W.grownBy W1 row) (hne:some g ≠ row):IsS67 w0 W1 g f0 f1:=by
 obtain ⟨A0,c0,hb,hg,hr0⟩:=h
 exact ⟨A0,c0,blk_grown hb hw hne,hg,hr0⟩
theorem IsS67.own_neN {w0 W:World} {g:Nat} {f0:List Int} {f1:Int} {α:Type} {d:Kd α} {e:Nat} {base:Nat} {ok:Nat→Prop} {v:Value} {xs:List α} (h:IsS67 w0 W g f0 f1) (ho:Kd.N d e W base ok v xs) (ht:e ≠ 67):some g ≠ v.ownBlock:=by
 obtain ⟨A0,c0,hb,hg,hr0⟩:=h
 exact Kd.N_ne ho hb ht
theorem IsS67.fresh {w0 W:World} {g:Nat} {f0:List Int} {f1:Int} (h:IsS67 w0 W g f0 f1):∀ k,W.heap.size≤k→k ≠ g:=by
 obtain ⟨A0,c0,hb,hg,hr0⟩:=h
 exact Kd.freshB hb
theorem IsS67.kept {w0 W:World} {g:Nat} {f0:List Int} {f1:Int} {W1:World} {S:Nat→Prop} (h:IsS67 w0 W g f0 f1) (hk:Kept W W1 S) (hne:¬ S g):IsS67 w0 W1 g f0 f1:=by
 obtain ⟨A0,c0,hb,hg,hr0⟩:=h
 exact ⟨A0,c0,blk_kept hb hk hne,hg,hr0⟩
theorem IsS67.below {w0 W:World} {g:Nat} {f0:List Int} {f1:Int} {W1:World} (h:IsS67 w0 W g f0 f1) (hw:Below W.heap.size W W1):IsS67 w0 W1 g f0 f1:=h.grown (grown_of_below hw none) (by simp)
theorem IsS67.alloc {w0 W:World} {g:Nat} {f0:List Int} {f1:Int} (h:IsS67 w0 W g f0 f1) (o:Obj):IsS67 w0 (W.alloc o) g f0 f1:=h.below (below_alloc (Below.refl _ _) o)
theorem IsS67.drewN {w0 W:World} {g:Nat} {f0:List Int} {f1:Int} (h:IsS67 w0 W g f0 f1) (m:Nat):IsS67 w0 (W.drewN m) g f0 f1:=h
theorem IsS67.drew {w0 W:World} {g:Nat} {f0:List Int} {f1:Int} (h:IsS67 w0 W g f0 f1):IsS67 w0 W.drew g f0 f1:=h
theorem IsS67.at_ {w0 W:World} {g:Nat} {f0:List Int} {f1:Int} {w':World} {m:Nat} (hq:W.drewN m=w') (h:IsS67 w0 W g f0 f1):IsS67 w0 w' g f0 f1:=by subst hq;exact IsS67.drewN h m
theorem IsS67.apart {w0 W:World} {g:Nat} {f0:List Int} {f1:Int} {α:Type} {d:Kd α} {e:Nat} {base:Nat} {ok:Nat→Prop} {v:Value} {xs:List α} (h:IsS67 w0 W g f0 f1) (ho:d.R e W base ok v xs) (ht:∀ q,q ∈ e :: d.E→q ≠ 67):d.R e W base (fun k=>ok k∧k ≠ g) v xs:=by
 obtain ⟨A0,c0,hb,hg,hr0⟩:=h
 exact Kd.R_types ho hb ht
theorem IsS67.own_ne {w0 W:World} {g:Nat} {f0:List Int} {f1:Int} {α:Type} {d:Kd α} {e:Nat} {base:Nat} {ok:Nat→Prop} {v:Value} {xs:List α} (h:IsS67 w0 W g f0 f1) (ho:d.R e W base ok v xs) (ht:e ≠ 67):some g ≠ v.ownBlock:=by
 obtain ⟨A0,c0,hb,hg,hr0⟩:=h
 exact Kd.R_ne ho hb ht
theorem IsS67.lt {w0 W:World} {g:Nat} {f0:List Int} {f1:Int} (h:IsS67 w0 W g f0 f1):g < W.heap.size:=by
 obtain ⟨A0,c0,hb,hg,hr0⟩:=h
 exact blk_lt hb
theorem IsS67.ge {w0 W:World} {g:Nat} {f0:List Int} {f1:Int} (h:IsS67 w0 W g f0 f1):w0.heap.size≤g:=by
 obtain ⟨A0,c0,hb,hg,hr0⟩:=h
 exact hg
theorem IsS67.ne_blk {w0 W:World} {g:Nat} {f0:List Int} {f1:Int} {a:Nat} {cs:Array Value} {t:TypeId} {fr:Nat × Nat} (h:IsS67 w0 W g f0 f1) (hb2:W.heap[a]?=some (.cells cs t fr)) (ht:t ≠ 67):g ≠ a:=by
 obtain ⟨A0,c0,hb,hg,hr0⟩:=h
 rintro rfl
 rw [hb] at hb2
 injection hb2 with hb2
 injection hb2 with _ ht2
 exact ht ht2.symm
theorem IsS67.far {w0 W:World} {g:Nat} {f0:List Int} {f1:Int} {p:Addr} (h:IsS67 w0 W g f0 f1) (hne:g ≠ p.block) (u:Value):IsS67 w0 (W.setCell p u) g f0 f1:=by
 obtain ⟨A0,c0,hb,hg,hr0⟩:=h
 exact ⟨A0,c0,blk_far hb hne u,hg,hr0⟩
theorem cellS67_0 {W:World} {g:Nat} {A0:Option Addr} {c0:Nat} {f0:List Int} {f1:Int} (h:W.heap[g]?=some (.cells #[.slice A0 f0.length c0,.int .i64 f1] 67 (0,0))):W.cell? ⟨g,0,none⟩=some (.slice A0 f0.length c0):=(blk_cell h 0).trans rfl
theorem cellS67_1 {W:World} {g:Nat} {A0:Option Addr} {c0:Nat} {f0:List Int} {f1:Int} (h:W.heap[g]?=some (.cells #[.slice A0 f0.length c0,.int .i64 f1] 67 (0,0))):W.cell? ⟨g,1,none⟩=some (.int .i64 f1):=(blk_cell h 1).trans rfl
theorem IsS67.set_1 {w0 W:World} {g:Nat} {f0:List Int} {f1:Int} (h:IsS67 w0 W g f0 f1) (x:Int):IsS67 w0 (W.setCell ⟨g,1,none⟩ (.int .i64 x)) g f0 x:=by
 obtain ⟨A0,c0,hb,hg,hr0⟩:=h
 exact ⟨A0,c0,by simpa using blk_set hb 1 (.int .i64 x),hg,hr0⟩
def spec_l15Open.f (l0:List Int):Option (List Int × Int):=if (l0.length:Int) > 2000 then (if 2000≤(l0.length:Int) then (some (l0.take 2000,0)) else (none)) else (some (l0,0))
set_option maxHeartbeats 8000000 in
set_option maxRecDepth 100000 in
theorem spec_l15Open.calls (A0:Option Addr) (c0:Nat) (l0:List Int) (r1:List Int) (r2:Int) (w0 w:World) (hB:Below w0.heap.size w0 w) (hr0:Kd.C (Kd.int .u8) w0 A0 l0.length l0) (hc0:l0.length≤c0) (h:spec_l15Open.f l0=some (r1,r2)) :
  Calls Try.prog 40 #[.slice A0 l0.length c0] w fun e w'=>∃ g_:Nat,e=.returned (.pointer (some ⟨g_,0,none⟩))∧IsS67 w0 w' g_ r1 r2∧Below w0.heap.size w0 w'∧Below w.heap.size w w':=by
 have hu67:=Try.underlying67
 have HR0:=Aside0.mk hr0
 have HC0:=Aside0.mk hc0
 clear hr0 hc0
 have HBW:=Aside0.mk (Below.refl w.heap.size w)
 have HW0:=Aside0.mk hB.size
 have HB:=Aside0.mk hB
 clear hB
 have H:(if (l0.length:Int) > 2000 then (if 2000≤(l0.length:Int) then (some (l0.take 2000,0)) else (none)) else (some (l0,0)))=some (r1,r2):=h
 clear h
 by_cases c2:(l0.length:Int) > 2000
 ·rw [if_pos c2] at H
  have c2b0:decide (2000 < (l0.length:Int))=true:=decide_eq_true c2
  have c2b1:decide (2000 < l0.length)=true:=decide_eq_true (by omega)
  clear c2
  by_cases c3:2000≤(l0.length:Int)
  ·rw [if_pos c3] at H
   have c3b0:=eq_true c3
   have c3b1:decide (2000≤(l0.length:Int))=true:=decide_eq_true c3
   clear c3
   simp only [Option.some.injEq,Prod.mk.injEq] at H
   obtain ⟨rfl,rfl⟩:=H
   obtain ⟨i04,hi04,_,hsz4,_⟩:=info_parts info5
   obtain ⟨hcut4,hA4,hC4⟩:=print_take_of (P:=Try.prog) (Value.int .u8) 0 22 5 .i64 Try.underlying22 hi04 hsz4 A0 c0 l0 2000 (by omega) (of_decide_eq_true (by first|(with_reducible assumption)|assumption)) HC0.out
   have HR101:=Aside0.mk (Kd.C_of_reads (h1:=fun _=>rfl) (hA4 _ (Kd.reads_of_C HR0.out)))
   have HC101:=Aside0.mk hC4
   clear hA4 hC4 hi04 hsz4
   go_enter Try.func40,Try.ntmps40
   go_wp2_with (first|((with_reducible refine gate_dst (N:=10) rfl ?_);refine box_event ?hg (N:=10) ?hd (cs:=#[.slice A0 (l0.take 2000).length c0,.int .i64 0]) (t:=67) ?hr ?_;(case hd=>rfl);(case hg=>rfl);(case hr=>first|(go_simp;done)|(go_simp;rfl));intro gb102 hg w5 hbox hb;have n0_:=Aside0.mk (below_step HBW.out hb);have n1_:=Aside0.mk (below_step (gB HB) hb);have n2_:=Aside0.mk (hbox);have n3_:=Aside0.mk ((by rw [hg];exact (below_size (gB HBW)):w.heap.size≤gb102));have n4_:=Aside0.mk ((Nat.le_trans HW0.out (by rw [hg];exact (below_size (gB HBW)):w.heap.size≤gb102):w0.heap.size≤gb102));clear HBW;clear HB;have HBW:=n0_;have HB:=n1_;have BK102:=n2_;have GW102:=n3_;have GE102:=n4_;clear n0_ n1_ n2_ n3_ n4_;clear hb hbox hg))
   go_ret
   exact ⟨_,rfl,(show IsS67 w0 _ gb102 (l0.take 2000) 0 from ⟨_,_,gK BK102,GE102.out,HR101.out⟩),by repeat (first|exact gB HB|refine below_set ?_ GE102.out),by repeat (first|exact gB HBW|refine below_set ?_ GW102.out)⟩
  ·rw [if_neg c3] at H
   exact absurd H (by simp)
 ·rw [if_neg c2] at H
  have c2b0:decide (2000 < (l0.length:Int))=false:=decide_eq_false c2
  have c2b1:decide (2000 < l0.length)=false:=decide_eq_false (by omega)
  clear c2
  simp only [Option.some.injEq,Prod.mk.injEq] at H
  obtain ⟨rfl,rfl⟩:=H
  go_enter Try.func40,Try.ntmps40
  go_wp2_with (first|((with_reducible refine gate_dst (N:=10) rfl ?_);refine box_event ?hg (N:=10) ?hd (cs:=#[.slice A0 l0.length c0,.int .i64 0]) (t:=67) ?hr ?_;(case hd=>rfl);(case hg=>rfl);(case hr=>first|(go_simp;done)|(go_simp;rfl));intro gb103 hg w6 hbox hb;have n0_:=Aside0.mk (below_step HBW.out hb);have n1_:=Aside0.mk (below_step (gB HB) hb);have n2_:=Aside0.mk (hbox);have n3_:=Aside0.mk ((by rw [hg];exact (below_size (gB HBW)):w.heap.size≤gb103));have n4_:=Aside0.mk ((Nat.le_trans HW0.out (by rw [hg];exact (below_size (gB HBW)):w.heap.size≤gb103):w0.heap.size≤gb103));clear HBW;clear HB;have HBW:=n0_;have HB:=n1_;have BK103:=n2_;have GW103:=n3_;have GE103:=n4_;clear n0_ n1_ n2_ n3_ n4_;clear hb hbox hg))
  go_ret
  exact ⟨_,rfl,(show IsS67 w0 _ gb103 l0 0 from ⟨_,_,gK BK103,GE103.out,HR0.out⟩),by repeat (first|exact gB HB|refine below_set ?_ GE103.out),by repeat (first|exact gB HBW|refine below_set ?_ GW103.out)⟩
end Go.Proofs.Ytdhdfmmefghijab.P
namespace Go.Proofs.Ytdhdfmmefghijab.P
open Go.RowKit Go.Proofs.YtdhdfmmefghijabW.PrintWords Go.Proofs.YtdhdfmmefghijabW.PrintLast Go.Proofs.YtdhdfmmefghijabW.PrintMore
attribute [local go_sem] max2_int min2_int max_two min_two max_three min_three max_four min_four
set_option linter.unusedVariables false
set_option linter.unusedSimpArgs false
def spec_l15Rd_pick.j0:Nat→Int→Bool→List Int→Int→Option (Int × Int)
 | 0,_,_,_,_=>none
 | k+1,x1,x24,x1000,x1001=>if x24=true then (some (0,x1001)) else (if (wrap64 (x1001 - 1)) < (x1000.length:Int) then (if 0≤(wrap64 (x1001 - 1)) then (if x1=0 then (none) else (some (Int.tmod (wrap64 (rd x1000 (wrap64 (x1001 - 1)))) x1,x1001))) else (none)) else (if (x1000.length:Int)=0 then (none) else (if 0≤(Int.tmod (wrap64 (x1001 - 1)) (x1000.length:Int)) then (if (Int.tmod (wrap64 (x1001 - 1)) (x1000.length:Int)) < (x1000.length:Int) then (if 0≤(Int.tmod (wrap64 ((wrap64 ((wrap64 (x1001 - 1)) * 7))+3)) (x1000.length:Int)) then (if (Int.tmod (wrap64 ((wrap64 ((wrap64 (x1001 - 1)) * 7))+3)) (x1000.length:Int)) < (x1000.length:Int) then (if x1=0 then (none) else (some (Int.tmod (Go.bits .xor .i64 (wrap64 ((wrap64 ((wrap64 ((wrap64 ((wrap64 (rd x1000 (Int.tmod (wrap64 (x1001 - 1)) (x1000.length:Int)))) * 131))+(wrap64 ((wrap64 (rd x1000 (Int.tmod (wrap64 ((wrap64 ((wrap64 (x1001 - 1)) * 7))+3)) (x1000.length:Int)))) * 1117))))+(wrap64 ((wrap64 (x1001 - 1)) * 29))))+(wrap64 ((wrap64 (Int.tdiv (wrap64 (x1001 - 1)) (x1000.length:Int))) * 53)))) (wrap64 (Int.tdiv (wrap64 ((wrap64 ((wrap64 ((wrap64 ((wrap64 (rd x1000 (Int.tmod (wrap64 (x1001 - 1)) (x1000.length:Int)))) * 131))+(wrap64 ((wrap64 (rd x1000 (Int.tmod (wrap64 ((wrap64 ((wrap64 (x1001 - 1)) * 7))+3)) (x1000.length:Int)))) * 1117))))+(wrap64 ((wrap64 (x1001 - 1)) * 29))))+(wrap64 ((wrap64 (Int.tdiv (wrap64 (x1001 - 1)) (x1000.length:Int))) * 53)))) 64))) x1,x1001))) else (none)) else (none)) else (none)) else (none))))
def spec_l15Rd_pick.f (k:Nat) (s0_0:List Int) (s0_1:Int) (a1:Int):Option (Int × Int):=if a1 < 1 then (spec_l15Rd_pick.j0 k a1 true s0_0 (wrap64 (s0_1+1))) else (spec_l15Rd_pick.j0 k a1 ((s0_0.length:Int) == 0) s0_0 (wrap64 (s0_1+1)))
set_option maxHeartbeats 8000000 in
set_option maxRecDepth 100000 in
theorem spec_l15Rd_pick.calls (k:Nat) (g:Nat) (s0_0:List Int) (s0_1:Int) (a1:Int) (r1:Int) (r2:Int) (w0 w:World) (hI:IsS67 w0 w g s0_0 s0_1) (hB:Below w0.heap.size w0 w) (h:spec_l15Rd_pick.f k s0_0 s0_1 a1=some (r1,r2)) :
  Calls Try.prog 54 #[.pointer (some ⟨g,0,none⟩),.int .i64 a1] w fun e w'=>e=.returned (.int .i64 r1)∧IsS67 w0 w' g s0_0 r2∧Below w0.heap.size w0 w'∧KeepBut w w' g none:=by
 have HI0:=Aside0.mk hI
 have HK:=Aside0.mk (KeepBut.refl w g none)
 have HL:=Aside0.mk hB.size
 clear hI
 have HW0:=Aside0.mk hB.size
 have HB:=Aside0.mk hB
 clear hB
 have H:(if a1 < 1 then (spec_l15Rd_pick.j0 k a1 true s0_0 (wrap64 (s0_1+1))) else (spec_l15Rd_pick.j0 k a1 ((s0_0.length:Int) == 0) s0_0 (wrap64 (s0_1+1))))=some (r1,r2):=h
 clear h
 have HC3:=Aside0.mk H
 clear H
 obtain ⟨ASz4_0,cSz4_0,HGz4,hgz4,HSz4_0⟩:=HI0.out
 have hcz4_0:=cellS67_0 HGz4
 have hcz4_1:=cellS67_1 HGz4
 have hfz4_1:=blk_frozen HGz4 1
 clear HGz4 hgz4
 go_enter Try.func54,Try.ntmps54
 go_upto_region 2 with (fail)
 repeat (go_quiet (fail);go_upto_region 2 with (fail))
 go_cut [24] (fun v24 wc=>∃ (kq:Nat) (x24_2:Bool),v24=.bool x24_2∧Aside0 (spec_l15Rd_pick.j0 kq a1 x24_2 s0_0 (wrap64 (s0_1+1))=some (r1,r2))∧Aside0 (kq≤k)∧Aside0 (IsS67 w0 wc g s0_0 (wrap64 (s0_1+1)))∧Aside0 (KeepBut w wc g none)∧Aside0 (Below w0.heap.size w0 wc))
 case first =>
  have H:=HC3.out
  clear HC3
  by_cases c5:a1 < 1
  ·rw [if_pos c5] at H
   have c5b0:decide (a1 < 1)=true:=decide_eq_true c5
   clear c5
   (first|rw [c5b0]|(simp only [i64_w,i32_w];rw [c5b0])|skip)
   have H':=Aside0.mk H
   clear H
   go_wp2
   repeat (go_quiet (fail);try go_wp2)
   go_meet
   case rel=>exact ⟨_,(true),(by first|rfl|(simp;done)|(simp [*];done)),H',⟨by first|omega|exact Nat.le_refl _⟩,⟨by repeat (first|(with_reducible first|exact HI0.out|apply IsS67.alloc|apply IsS67.drewN|apply IsS67.drew|apply IsS67.set_1)|exact HI0.out)⟩,⟨by repeat (first|exact gW HK|apply KeepBut.set_)⟩,⟨by repeat (first|exact gB HB|refine below_set ?_ (IsS67.ge HI0.out))⟩⟩
  ·rw [if_neg c5] at H
   have c5b0:decide (a1 < 1)=false:=decide_eq_false c5
   clear c5
   (first|rw [c5b0]|(simp only [i64_w,i32_w];rw [c5b0])|skip)
   have H':=Aside0.mk H
   clear H
   obtain ⟨ASz6_0,cSz6_0,HGz6,hgz6,HSz6_0⟩:=HI0.out
   have hcz6_0:=cellS67_0 HGz6
   have hcz6_1:=cellS67_1 HGz6
   have hfz6_1:=blk_frozen HGz6 1
   clear HGz6 hgz6
   go_wp2
   repeat (go_quiet (fail);try go_wp2)
   go_meet
   case rel=>exact ⟨_,(((s0_0.length:Int) == 0)),(by first|rfl|(simp;done)|(simp [*];done)),H',⟨by first|omega|exact Nat.le_refl _⟩,⟨by repeat (first|(with_reducible first|exact HI0.out|apply IsS67.alloc|apply IsS67.drewN|apply IsS67.drew|apply IsS67.set_1)|exact HI0.out)⟩,⟨by repeat (first|exact gW HK|apply KeepBut.set_)⟩,⟨by repeat (first|exact gB HB|refine below_set ?_ (IsS67.ge HI0.out))⟩⟩
 case rest =>
  clear HC3
  try clear p2 c5 c5b0 p6 hcz4_0 hcz4_1 hcz6_0 hcz6_1 hfz4_1 hfz6_1
  obtain ⟨kq,x24_2,rfl,HA,HJ2,HI0,HK,HB⟩:=hcut
  cases kq with
  | zero=>exact absurd HA.out (by simp [spec_l15Rd_pick.j0])
  | succ kj2 =>
   have H:=HA.out
   clear HA
   simp only [spec_l15Rd_pick.j0] at H
   by_cases c7:x24_2=true
   ·subst c7
    have H1:(some (0,(wrap64 (s0_1+1))))=some (r1,r2):=by rw [if_pos rfl] at H;exact H
    clear H
    have H:=H1
    clear H1
    simp only [Option.some.injEq,Prod.mk.injEq] at H
    obtain ⟨rfl,rfl⟩:=H
    go_wp2
    repeat (go_quiet (fail);try go_wp2)
    go_ret
    exact ⟨by first|rfl|(simp [errW_none,errW_some] <;> rfl)|(simp [*,errW_none,errW_some] <;> rfl),by repeat (first|(with_reducible first|exact HI0.out|apply IsS67.alloc|apply IsS67.drewN|apply IsS67.drew|apply IsS67.set_1)|exact HI0.out),by repeat (first|exact gB HB|refine below_set ?_ (IsS67.ge HI0.out)),by repeat (first|exact gW HK|apply KeepBut.set_)⟩
   ·replace c7:=Bool.eq_false_iff.mpr c7
    subst c7
    have H1:(if (wrap64 ((wrap64 (s0_1+1)) - 1)) < (s0_0.length:Int) then (if 0≤(wrap64 ((wrap64 (s0_1+1)) - 1)) then (if a1=0 then (none) else (some (Int.tmod (wrap64 (rd s0_0 (wrap64 ((wrap64 (s0_1+1)) - 1)))) a1,(wrap64 (s0_1+1))))) else (none)) else (if (s0_0.length:Int)=0 then (none) else (if 0≤(Int.tmod (wrap64 ((wrap64 (s0_1+1)) - 1)) (s0_0.length:Int)) then (if (Int.tmod (wrap64 ((wrap64 (s0_1+1)) - 1)) (s0_0.length:Int)) < (s0_0.length:Int) then (if 0≤(Int.tmod (wrap64 ((wrap64 ((wrap64 ((wrap64 (s0_1+1)) - 1)) * 7))+3)) (s0_0.length:Int)) then (if (Int.tmod (wrap64 ((wrap64 ((wrap64 ((wrap64 (s0_1+1)) - 1)) * 7))+3)) (s0_0.length:Int)) < (s0_0.length:Int) then (if a1=0 then (none) else (some (Int.tmod (Go.bits .xor .i64 (wrap64 ((wrap64 ((wrap64 ((wrap64 ((wrap64 (rd s0_0 (Int.tmod (wrap64 ((wrap64 (s0_1+1)) - 1)) (s0_0.length:Int)))) * 131))+(wrap64 ((wrap64 (rd s0_0 (Int.tmod (wrap64 ((wrap64 ((wrap64 ((wrap64 (s0_1+1)) - 1)) * 7))+3)) (s0_0.length:Int)))) * 1117))))+(wrap64 ((wrap64 ((wrap64 (s0_1+1)) - 1)) * 29))))+(wrap64 ((wrap64 (Int.tdiv (wrap64 ((wrap64 (s0_1+1)) - 1)) (s0_0.length:Int))) * 53)))) (wrap64 (Int.tdiv (wrap64 ((wrap64 ((wrap64 ((wrap64 ((wrap64 (rd s0_0 (Int.tmod (wrap64 ((wrap64 (s0_1+1)) - 1)) (s0_0.length:Int)))) * 131))+(wrap64 ((wrap64 (rd s0_0 (Int.tmod (wrap64 ((wrap64 ((wrap64 ((wrap64 (s0_1+1)) - 1)) * 7))+3)) (s0_0.length:Int)))) * 1117))))+(wrap64 ((wrap64 ((wrap64 (s0_1+1)) - 1)) * 29))))+(wrap64 ((wrap64 (Int.tdiv (wrap64 ((wrap64 (s0_1+1)) - 1)) (s0_0.length:Int))) * 53)))) 64))) a1,(wrap64 (s0_1+1))))) else (none)) else (none)) else (none)) else (none))))=some (r1,r2):=by rw [if_neg (show ¬ (false=true) by decide)] at H;exact H
    clear H
    have H:=H1
    clear H1
    by_cases c8:(wrap64 ((wrap64 (s0_1+1)) - 1)) < (s0_0.length:Int)
    ·rw [if_pos c8] at H
     have c8b0:decide ((wrap64 ((wrap64 (s0_1+1)) - 1)) < (s0_0.length:Int))=true:=decide_eq_true c8
     clear c8
     obtain ⟨ji9,hji9⟩:∃ j_:Int,(wrap64 ((wrap64 (s0_1+1)) - 1))=j_:=⟨_,rfl⟩
     replace H:(if 0≤(ji9) then (if a1=0 then (none) else (some (Int.tmod (wrap64 (rd s0_0 (ji9))) a1,(wrap64 (s0_1+1))))) else (none))=some (r1,r2):=by first|(rw [hji9] at H;exact H)|(simp only [hji9] at H ⊢;exact H)
     (try rw [hji9] at c8b0)
     have hji9w:(IntKind.i64.wrap ((wrap64 (s0_1+1)) - 1))=ji9:=(i64_w _).trans hji9
     by_cases c10:0≤(ji9)
     ·rw [if_pos c10] at H
      have c10b0:decide (0≤(ji9))=true:=decide_eq_true c10
      clear c10
      by_cases c11:a1=0
      ·rw [if_pos c11] at H
       exact absurd H (by simp)
      ·rw [if_neg c11] at H
       have c11b0:(a1 == 0)=false:=beq_eq_false_iff_ne.mpr c11
       have c11b1:(a1 != 0)=true:=bne_iff_ne.mpr c11
       simp only [Option.some.injEq,Prod.mk.injEq] at H
       obtain ⟨rfl,rfl⟩:=H
       obtain ⟨ASz12_0,cSz12_0,HGz12,hgz12,HSz12_0⟩:=HI0.out
       have hcz12_0:=cellS67_0 HGz12
       have hcz12_1:=cellS67_1 HGz12
       have hfz12_1:=blk_frozen HGz12 1
       clear HGz12 hgz12
       have p104:0≤((ji9):Int):=of_decide_eq_true (by first|(with_reducible assumption)|assumption)
       have q104:(ji9) < (s0_0.length:Int):=of_decide_eq_true (by first|(with_reducible assumption)|assumption)
       obtain ⟨ad104,e104,hx104_0⟩:=Kd.at_int HSz12_0 (ji9) p104 q104
       cases e104
       replace hx104_0:=pw_cell_below HB.out hx104_0
       replace p104:=eq_true p104
       replace q104:=eq_true q104
       go_wp2
       repeat (go_quiet (fail);try go_wp2)
       go_ret
       exact ⟨by first|rfl|(simp [errW_none,errW_some] <;> rfl)|(simp only [← hji9];first|rfl|(simp [errW_none,errW_some] <;> rfl))|(simp [*,errW_none,errW_some] <;> rfl),by repeat (first|(with_reducible first|exact HI0.out|apply IsS67.alloc|apply IsS67.drewN|apply IsS67.drew|apply IsS67.set_1)|exact HI0.out),by repeat (first|exact gB HB|refine below_set ?_ (IsS67.ge HI0.out)),by repeat (first|exact gW HK|apply KeepBut.set_)⟩
     ·rw [if_neg c10] at H
      exact absurd H (by simp)
    ·rw [if_neg c8] at H
     have c8b0:decide ((wrap64 ((wrap64 (s0_1+1)) - 1)) < (s0_0.length:Int))=false:=decide_eq_false c8
     clear c8
     by_cases c13:(s0_0.length:Int)=0
     ·rw [if_pos c13] at H
      exact absurd H (by simp)
     ·rw [if_neg c13] at H
      have c13b0:((s0_0.length:Int) == 0)=false:=beq_eq_false_iff_ne.mpr c13
      have c13b1:((s0_0.length:Int) != 0)=true:=bne_iff_ne.mpr c13
      have c13b2:¬ (s0_0=[]):=fun h_=>c13 (by rw [h_];rfl)
      obtain ⟨ji14,hji14⟩:∃ j_:Int,(Int.tmod (wrap64 ((wrap64 (s0_1+1)) - 1)) (s0_0.length:Int))=j_:=⟨_,rfl⟩
      replace H:(if 0≤(ji14) then (if (ji14) < (s0_0.length:Int) then (if 0≤(Int.tmod (wrap64 ((wrap64 ((wrap64 ((wrap64 (s0_1+1)) - 1)) * 7))+3)) (s0_0.length:Int)) then (if (Int.tmod (wrap64 ((wrap64 ((wrap64 ((wrap64 (s0_1+1)) - 1)) * 7))+3)) (s0_0.length:Int)) < (s0_0.length:Int) then (if a1=0 then (none) else (some (Int.tmod (Go.bits .xor .i64 (wrap64 ((wrap64 ((wrap64 ((wrap64 ((wrap64 (rd s0_0 (ji14))) * 131))+(wrap64 ((wrap64 (rd s0_0 (Int.tmod (wrap64 ((wrap64 ((wrap64 ((wrap64 (s0_1+1)) - 1)) * 7))+3)) (s0_0.length:Int)))) * 1117))))+(wrap64 ((wrap64 ((wrap64 (s0_1+1)) - 1)) * 29))))+(wrap64 ((wrap64 (Int.tdiv (wrap64 ((wrap64 (s0_1+1)) - 1)) (s0_0.length:Int))) * 53)))) (wrap64 (Int.tdiv (wrap64 ((wrap64 ((wrap64 ((wrap64 ((wrap64 (rd s0_0 (ji14))) * 131))+(wrap64 ((wrap64 (rd s0_0 (Int.tmod (wrap64 ((wrap64 ((wrap64 ((wrap64 (s0_1+1)) - 1)) * 7))+3)) (s0_0.length:Int)))) * 1117))))+(wrap64 ((wrap64 ((wrap64 (s0_1+1)) - 1)) * 29))))+(wrap64 ((wrap64 (Int.tdiv (wrap64 ((wrap64 (s0_1+1)) - 1)) (s0_0.length:Int))) * 53)))) 64))) a1,(wrap64 (s0_1+1))))) else (none)) else (none)) else (none)) else (none))=some (r1,r2):=by first|(rw [hji14] at H;exact H)|(simp only [hji14] at H ⊢;exact H)
      by_cases c15:0≤(ji14)
      ·rw [if_pos c15] at H
       have c15b0:decide (0≤(ji14))=true:=decide_eq_true c15
       clear c15
       by_cases c16:(ji14) < (s0_0.length:Int)
       ·rw [if_pos c16] at H
        have c16b0:decide ((ji14) < (s0_0.length:Int))=true:=decide_eq_true c16
        clear c16
        obtain ⟨ji17,hji17⟩:∃ j_:Int,(Int.tmod (wrap64 ((wrap64 ((wrap64 ((wrap64 (s0_1+1)) - 1)) * 7))+3)) (s0_0.length:Int))=j_:=⟨_,rfl⟩
        replace H:(if 0≤(ji17) then (if (ji17) < (s0_0.length:Int) then (if a1=0 then (none) else (some (Int.tmod (Go.bits .xor .i64 (wrap64 ((wrap64 ((wrap64 ((wrap64 ((wrap64 (rd s0_0 (ji14))) * 131))+(wrap64 ((wrap64 (rd s0_0 (ji17))) * 1117))))+(wrap64 ((wrap64 ((wrap64 (s0_1+1)) - 1)) * 29))))+(wrap64 ((wrap64 (Int.tdiv (wrap64 ((wrap64 (s0_1+1)) - 1)) (s0_0.length:Int))) * 53)))) (wrap64 (Int.tdiv (wrap64 ((wrap64 ((wrap64 ((wrap64 ((wrap64 (rd s0_0 (ji14))) * 131))+(wrap64 ((wrap64 (rd s0_0 (ji17))) * 1117))))+(wrap64 ((wrap64 ((wrap64 (s0_1+1)) - 1)) * 29))))+(wrap64 ((wrap64 (Int.tdiv (wrap64 ((wrap64 (s0_1+1)) - 1)) (s0_0.length:Int))) * 53)))) 64))) a1,(wrap64 (s0_1+1))))) else (none)) else (none))=some (r1,r2):=by first|(rw [hji17] at H;exact H)|(simp only [hji17] at H ⊢;exact H)
        by_cases c18:0≤(ji17)
        ·rw [if_pos c18] at H
         have c18b0:decide (0≤(ji17))=true:=decide_eq_true c18
         clear c18
         by_cases c19:(ji17) < (s0_0.length:Int)
         ·rw [if_pos c19] at H
          have c19b0:decide ((ji17) < (s0_0.length:Int))=true:=decide_eq_true c19
          clear c19
          by_cases c20:a1=0
          ·rw [if_pos c20] at H
           exact absurd H (by simp)
          ·rw [if_neg c20] at H
           have c20b0:(a1 == 0)=false:=beq_eq_false_iff_ne.mpr c20
           have c20b1:(a1 != 0)=true:=bne_iff_ne.mpr c20
           simp only [Option.some.injEq,Prod.mk.injEq] at H
           obtain ⟨rfl,rfl⟩:=H
           obtain ⟨ASz21_0,cSz21_0,HGz21,hgz21,HSz21_0⟩:=HI0.out
           have hcz21_0:=cellS67_0 HGz21
           have hcz21_1:=cellS67_1 HGz21
           have hfz21_1:=blk_frozen HGz21 1
           clear HGz21 hgz21
           have p105:0≤((ji14):Int):=of_decide_eq_true (by first|(with_reducible assumption)|assumption)
           have q105:(ji14) < (s0_0.length:Int):=of_decide_eq_true (by first|(with_reducible assumption)|assumption)
           obtain ⟨ad105,e105,hx105_0⟩:=Kd.at_int HSz21_0 (ji14) p105 q105
           cases e105
           replace hx105_0:=pw_cell_below HB.out hx105_0
           replace p105:=eq_true p105
           replace q105:=eq_true q105
           have p106:0≤((ji17):Int):=of_decide_eq_true (by first|(with_reducible assumption)|assumption)
           have q106:(ji17) < (s0_0.length:Int):=of_decide_eq_true (by first|(with_reducible assumption)|assumption)
           obtain ⟨ad106,e106,hx106_0⟩:=Kd.at_int HSz21_0 (ji17) p106 q106
           obtain rfl:ad105=ad106:=(by injection e106)
           replace hx106_0:=pw_cell_below HB.out hx106_0
           replace p106:=eq_true p106
           replace q106:=eq_true q106
           go_wp2
           repeat (go_quiet (fail);try go_wp2)
           go_ret
           exact ⟨by first|rfl|(simp [errW_none,errW_some] <;> rfl)|(simp only [← hji14,← hji17];first|rfl|(simp [errW_none,errW_some] <;> rfl))|(simp [*,errW_none,errW_some] <;> rfl),by repeat (first|(with_reducible first|exact HI0.out|apply IsS67.alloc|apply IsS67.drewN|apply IsS67.drew|apply IsS67.set_1)|exact HI0.out),by repeat (first|exact gB HB|refine below_set ?_ (IsS67.ge HI0.out)),by repeat (first|exact gW HK|apply KeepBut.set_)⟩
         ·rw [if_neg c19] at H
          exact absurd H (by simp)
        ·rw [if_neg c18] at H
         exact absurd H (by simp)
       ·rw [if_neg c16] at H
        exact absurd H (by simp)
      ·rw [if_neg c15] at H
       exact absurd H (by simp)
end Go.Proofs.Ytdhdfmmefghijab.P
namespace Go.Proofs.Ytdhdfmmefghijab.P
open Go.RowKit Go.Proofs.YtdhdfmmefghijabW.PrintWords Go.Proofs.YtdhdfmmefghijabW.PrintLast Go.Proofs.YtdhdfmmefghijabW.PrintMore
attribute [local go_sem] max2_int min2_int max_two min_two max_three min_three max_four min_four
set_option linter.unusedVariables false
set_option linter.unusedSimpArgs false
def spec_l15Rd_num.f (k:Nat) (s0_0:List Int) (s0_1:Int) (l1:List Int):Option (Int × Int):=(spec_l15Rd_pick.f k s0_0 s0_1 (l1.length:Int)).bind fun bt107=>(if 0≤bt107.1 then (if bt107.1 < (l1.length:Int) then (some (rd l1 bt107.1,bt107.2)) else (none)) else (none))
set_option maxHeartbeats 8000000 in
set_option maxRecDepth 100000 in
theorem spec_l15Rd_num.calls (k:Nat) (g:Nat) (s0_0:List Int) (s0_1:Int) (A1:Option Addr) (c1:Nat) (l1:List Int) (r1:Int) (r2:Int) (w0 w:World) (hI:IsS67 w0 w g s0_0 s0_1) (hB:Below w0.heap.size w0 w) (hr1:Kd.C (Kd.int .i64) w A1 l1.length l1) (hc1:l1.length≤c1) (hf1:∀ ad,A1=some ad→0 < l1.length→ad.block ≠ g) (h:spec_l15Rd_num.f k s0_0 s0_1 l1=some (r1,r2)) :
  Calls Try.prog 46 #[.pointer (some ⟨g,0,none⟩),.slice A1 l1.length c1] w fun e w'=>e=.returned (.int .i64 r1)∧IsS67 w0 w' g s0_0 r2∧Below w0.heap.size w0 w'∧KeepBut w w' g none:=by
 have HR1:=Aside0.mk hr1
 have HC1:=Aside0.mk hc1
 clear hr1 hc1
 have HI0:=Aside0.mk hI
 have HK:=Aside0.mk (KeepBut.refl w g none)
 have HL:=Aside0.mk hB.size
 clear hI
 have HW0:=Aside0.mk hB.size
 have HB:=Aside0.mk hB
 clear hB
 have H:((spec_l15Rd_pick.f k s0_0 s0_1 (l1.length:Int)).bind fun bt107=>(if 0≤bt107.1 then (if bt107.1 < (l1.length:Int) then (some (rd l1 bt107.1,bt107.2)) else (none)) else (none)))=some (r1,r2):=h
 clear h
 replace H:=Option.bind_eq_some_iff.mp H
 obtain ⟨⟨t107,t108⟩,A30,H⟩:=H
 replace H:(if 0≤t107 then (if t107 < (l1.length:Int) then (some (rd l1 t107,t108)) else (none)) else (none))=some (r1,r2):=H
 have A3:=Aside0.mk A30
 clear A30
 by_cases c4:0≤t107
 ·rw [if_pos c4] at H
  have c4b0:decide (0≤t107)=true:=decide_eq_true c4
  clear c4
  by_cases c5:t107 < (l1.length:Int)
  ·rw [if_pos c5] at H
   have c5b0:decide (t107 < (l1.length:Int))=true:=decide_eq_true c5
   clear c5
   simp only [Option.some.injEq,Prod.mk.injEq] at H
   obtain ⟨rfl,rfl⟩:=H
   go_enter Try.func46,Try.ntmps46
   go_wp2_with (first|((with_reducible refine gate_callee (f:=54) rfl ?_);refine goesL_ (some 9) rfl rfl Try.func54 (by kernel_rfl) rfl #[.pointer (some ⟨g,0,none⟩),.int .i64 (l1.length:Int)] rfl (by (try simp only [List.map_toArray,List.map_cons,List.map_nil]);first|done|rfl|(simp only [List.length_drop,List.length_take];rfl)) ?_;(with_reducible refine (spec_l15Rd_pick.calls k g s0_0 s0_1 (l1.length:Int) t107 t108 w0 _ ?side1 ?side2 A3.out).mono ?_);(case side1=>repeat (first|(with_reducible first|exact HI0.out|apply IsS67.alloc|apply IsS67.drewN|apply IsS67.drew|apply IsS67.set_1)|exact HI0.out));(case side2=>repeat (first|exact gB HB|refine below_set ?_ (IsS67.ge HI0.out)));rintro e w6 ⟨rfl,hi,hb,hk⟩;refine ⟨_,rfl,?_⟩;have n0_:=Aside0.mk (KeepBut.trans (by repeat (first|exact gW HK|apply KeepBut.set_)) hk (.inl rfl));have n1_:=Aside0.mk (hb);have n2_:=Aside0.mk (hi);clear HK;clear HB;clear HI0;have HK:=n0_;have HB:=n1_;have HI0:=n2_;clear n0_ n1_ n2_;(try clear hb);(try clear hb2);(try clear hk);(try clear hi);have p109:0≤(t107:Int):=of_decide_eq_true (by first|(with_reducible assumption)|assumption);have q109:t107 < (l1.length:Int):=of_decide_eq_true (by first|(with_reducible assumption)|assumption);obtain ⟨ad109,e109,hx109_0⟩:=Kd.at_int HR1.out t107 p109 q109;cases e109;replace hx109_0:=keep_cell HK.out hx109_0 (by first|(rw [add_block];exact hf1 _ rfl (by omega))|exact hf1 _ rfl (by omega)|exact hf1 ad109 rfl (by omega));replace p109:=eq_true p109;replace q109:=eq_true q109))
   go_ret
   exact ⟨by first|rfl|(simp [errW_none,errW_some] <;> rfl)|(simp [*,errW_none,errW_some] <;> rfl),by repeat (first|(with_reducible first|exact HI0.out|apply IsS67.alloc|apply IsS67.drewN|apply IsS67.drew|apply IsS67.set_1)|exact HI0.out),by repeat (first|exact gB HB|refine below_set ?_ (IsS67.ge HI0.out)),by repeat (first|exact gW HK|apply KeepBut.set_)⟩
  ·rw [if_neg c5] at H
   exact absurd H (by simp)
 ·rw [if_neg c4] at H
  exact absurd H (by simp)
end Go.Proofs.Ytdhdfmmefghijab.P
namespace Go.Proofs.Ytdhdfmmefghijab.P
open Go.RowKit Go.Proofs.YtdhdfmmefghijabW.PrintWords Go.Proofs.YtdhdfmmefghijabW.PrintLast Go.Proofs.YtdhdfmmefghijabW.PrintMore
attribute [local go_sem] max2_int min2_int max_two min_two max_three min_three max_four min_four
set_option linter.unusedVariables false
set_option linter.unusedSimpArgs false
mutual
def spec_l1Count.l0:Nat→Int→Int→Int→Int→ByteArray→List (SDoc)→Option (Int)
 | 0,_,_,_,_,_,_=>none
 | k+1,x3,x4,x172000,x172001,x172002,x172003=>if x4 < (x172003.length:Int) then (if 0≤x4 then ((spec_l1Count.f k ((rd_TDoc x172003 x4).f0) ((rd_TDoc x172003 x4).f1) ((rd_TDoc x172003 x4).f2) ((rd_TDoc x172003 x4).f3)).bind fun t173=>(spec_l1Count.l0 k (wrap64 (x3+t173)) (wrap64 (x4+1)) x172000 x172001 x172002 x172003)) else (none)) else (some x3)
def spec_l1Count.f:Nat→Int→Int→ByteArray→List (SDoc)→Option (Int)
 | 0,_,_,_,_=>none
 | k+1,a0_0,a0_1,a0_2,l0_3=>spec_l1Count.l0 k 1 0 a0_0 a0_1 a0_2 l0_3
end
set_option maxHeartbeats 8000000 in
set_option maxRecDepth 100000 in
theorem spec_l1Count.calls (k:Nat):∀ (a0_0:Int) (a0_1:Int) (a0_2:ByteArray) (A0_3:Option Addr) (c0_3:Nat) (l0_3:List (SDoc)) (r:Int) (w:World) (hr0_3:Kd.C k39 w A0_3 l0_3.length l0_3) (hc0_3:l0_3.length≤c0_3) (h:spec_l1Count.f k a0_0 a0_1 a0_2 l0_3=some r),
  Calls Try.prog 72 #[.agg #[.int .i64 a0_0,.int .i64 a0_1,.string a0_2,.slice A0_3 l0_3.length c0_3]] w fun e w'=>e=.returned (.int .i64 r)∧Below w.heap.size w w':=by
 induction k using Nat.strongRecOn with
 | _ k ih =>
 intro a0_0 a0_1 a0_2 A0_3 c0_3 l0_3 r w hr0_3 hc0_3 h
 cases k with
 | zero=>exact absurd h (by simp [spec_l1Count.f])
 | succ k =>
 simp only [spec_l1Count.f] at h
 have hu39:=Try.underlying39
 have HR0_3:=Aside0.mk hr0_3
 have HC0_3:=Aside0.mk hc0_3
 clear hr0_3 hc0_3
 have HB:=Aside0.mk (Below.refl w.heap.size w)
 have H:(spec_l1Count.l0 k 1 0 a0_0 a0_1 a0_2 l0_3)=some r:=h
 clear h
 have H':=Aside0.mk H
 clear H
 go_enter Try.func72,Try.ntmps72
 go_wp2_with (first|((with_reducible refine gate_dst (N:=1) rfl ?_);refine box_event ?hg (N:=1) ?hd (cs:=#[.int .i64 a0_0,.int .i64 a0_1,.string a0_2,.slice A0_3 l0_3.length c0_3]) (t:=39) ?hr ?_;(case hd=>rfl);(case hg=>rfl);(case hr=>first|(go_simp;done)|(go_simp;rfl));intro gb171 hg w2 hbox hb;have n0_:=Aside0.mk (below_step (gB HB) hb);have n1_:=Aside0.mk (hbox);have n2_:=Aside0.mk ((by rw [hg];exact (below_size (gB HB)):w.heap.size≤gb171));have n3_:=Aside0.mk ((by rw [hg];exact (below_size (gB HB)):w.heap.size≤gb171));clear HB;have HB:=n0_;have BK171:=n1_;have GW171:=n2_;have GE171:=n3_;clear n0_ n1_ n2_ n3_;clear hb hbox hg))
 go_loopg [3,4] k (fun kq v3 v4 w'=>∃ (x3_1:Int) (x4_1:Int),v3=.int .i64 x3_1∧v4=.int .i64 x4_1∧Aside0 (spec_l1Count.l0 kq x3_1 x4_1 a0_0 a0_1 a0_2 l0_3=some r)∧Aside0 (kq≤k)∧Aside0 (w'.heap[gb171]?=some (.cells #[.int .i64 a0_0,.int .i64 a0_1,.string a0_2,(.slice A0_3 l0_3.length c0_3)] 39 (0,0)))∧Aside0 (Below w.heap.size w w'))
 case atStart=>exact ⟨(1),(0),(by first|rfl|(simp;done)|(simp [*];done)),(by first|rfl|(simp;done)|(simp [*];done)),H',⟨Nat.le_refl _⟩,⟨gK BK171⟩,⟨by repeat (first|exact gB HB|refine below_set ?_ GE171.out)⟩⟩
 case round =>
  clear H'
  try clear p2
  (try clear BK171);(try clear HB)
  obtain ⟨x3_1,x4_1,rfl,rfl,HA,HK1,BK171,HB⟩:=hrel
  cases gk with
  | zero=>exact absurd HA.out (by simp [spec_l1Count.l0])
  | succ k1 =>
   have H:=HA.out
   clear HA
   simp only [spec_l1Count.l0] at H
   by_cases c3:x4_1 < (l0_3.length:Int)
   ·rw [if_pos c3] at H
    have c3b0:decide (x4_1 < (l0_3.length:Int))=true:=decide_eq_true c3
    clear c3
    by_cases c4:0≤x4_1
    ·rw [if_pos c4] at H
     have c4b0:decide (0≤x4_1)=true:=decide_eq_true c4
     clear c4
     replace H:=Option.bind_eq_some_iff.mp H
     obtain ⟨t173,A50,H⟩:=H
     replace H:(spec_l1Count.l0 k1 (wrap64 (x3_1+t173)) (wrap64 (x4_1+1)) a0_0 a0_1 a0_2 l0_3)=some r:=H
     have A5:=Aside0.mk A50
     clear A50
     have H':=Aside0.mk H
     clear H
     have hcz6_0:wr.cell? ⟨gb171,0,none⟩=some (.int .i64 a0_0):=(blk_cell BK171.out 0).trans rfl
     have hcz6_1:wr.cell? ⟨gb171,1,none⟩=some (.int .i64 a0_1):=(blk_cell BK171.out 1).trans rfl
     have hcz6_2:wr.cell? ⟨gb171,2,none⟩=some (.string a0_2):=(blk_cell BK171.out 2).trans rfl
     have hcz6_3:wr.cell? ⟨gb171,3,none⟩=some (.slice A0_3 l0_3.length c0_3):=(blk_cell BK171.out 3).trans rfl
     have hfz6_0:=blk_frozen BK171.out 0
     have hfz6_1:=blk_frozen BK171.out 1
     have hfz6_2:=blk_frozen BK171.out 2
     have hfz6_3:=blk_frozen BK171.out 3
     have p172:0≤(x4_1:Int):=of_decide_eq_true (by first|(with_reducible assumption)|assumption)
     have q172:x4_1 < (l0_3.length:Int):=of_decide_eq_true (by first|(with_reducible assumption)|assumption)
     obtain ⟨ad172,A172_3,c172_3,e172,hx172_0,hx172_1,hx172_2,hx172_3,hl172_3,hi172_3⟩:=at_TDoc HR0_3.out x4_1 p172 q172
     cases e172
     replace hx172_0:=(HB.out.cell (World.block_lt_of_cell? w _ hx172_0)).trans hx172_0
     replace hx172_1:=(HB.out.cell (World.block_lt_of_cell? w _ hx172_1)).trans hx172_1
     replace hx172_2:=(HB.out.cell (World.block_lt_of_cell? w _ hx172_2)).trans hx172_2
     replace hx172_3:=(HB.out.cell (World.block_lt_of_cell? w _ hx172_3)).trans hx172_3
     have HR172_3:=Aside0.mk hi172_3
     have HC172_3:=Aside0.mk hl172_3
     clear hi172_3 hl172_3
     replace p172:=eq_true p172
     replace q172:=eq_true q172
     go_wp2_with (first|((with_reducible refine gate_callee (f:=72) rfl ?_);refine goesL_ (some 18) rfl rfl Try.func72 (by kernel_rfl) rfl #[.agg #[.int .i64 ((rd_TDoc l0_3 x4_1).f0),.int .i64 ((rd_TDoc l0_3 x4_1).f1),.string ((rd_TDoc l0_3 x4_1).f2),.slice A172_3 ((rd_TDoc l0_3 x4_1).f3).length c172_3]] rfl (by (try simp only [List.map_toArray,List.map_cons,List.map_nil]);first|done|rfl|(simp only [List.length_drop,List.length_take];rfl)) ?_;(with_reducible refine (ih k1 (by have:=HK1.out;omega) ((rd_TDoc l0_3 x4_1).f0) ((rd_TDoc l0_3 x4_1).f1) ((rd_TDoc l0_3 x4_1).f2) _ _ ((rd_TDoc l0_3 x4_1).f3) t173 _ ?side1 ?side2 A5.out).mono ?_);(case side1=>exact gC (Kd.C_below HR172_3.out HB.out));(case side2=>exact HC172_3.out);rintro e w7 ⟨rfl,hb⟩;refine ⟨_,rfl,?_⟩;have n0_:=Aside0.mk (blk_below (g:=gb171) (o:=.cells #[.int .i64 a0_0,.int .i64 a0_1,.string a0_2,.slice (some ad172) l0_3.length c0_3] 39 (0,0)) (gK BK171) hb);have n1_:=Aside0.mk (below_step (by repeat (first|exact gB HB|refine below_set ?_ GE171.out)) hb);clear BK171;clear HB;have BK171:=n0_;have HB:=n1_;clear n0_ n1_;(try clear hb);(try clear hb2);(try clear hk);(try clear hi)))
     go_roundg k1
     case measure=>have:=HK1.out;omega
     case rel=>exact ⟨(wrap64 (x3_1+t173)),(wrap64 (x4_1+1)),(by first|rfl|(simp;done)|(simp [*];done)),(by first|rfl|(simp;done)|(simp [*];done)),H',⟨by have:=HK1.out;omega⟩,⟨gK BK171⟩,⟨by repeat (first|exact gB HB|refine below_set ?_ GE171.out)⟩⟩
    ·rw [if_neg c4] at H
     exact absurd H (by simp)
   ·rw [if_neg c3] at H
    have c3b0:decide (x4_1 < (l0_3.length:Int))=false:=decide_eq_false c3
    clear c3
    obtain rfl:=Option.some.inj H
    have hcz8_0:wr.cell? ⟨gb171,0,none⟩=some (.int .i64 a0_0):=(blk_cell BK171.out 0).trans rfl
    have hcz8_1:wr.cell? ⟨gb171,1,none⟩=some (.int .i64 a0_1):=(blk_cell BK171.out 1).trans rfl
    have hcz8_2:wr.cell? ⟨gb171,2,none⟩=some (.string a0_2):=(blk_cell BK171.out 2).trans rfl
    have hcz8_3:wr.cell? ⟨gb171,3,none⟩=some (.slice A0_3 l0_3.length c0_3):=(blk_cell BK171.out 3).trans rfl
    have hfz8_0:=blk_frozen BK171.out 0
    have hfz8_1:=blk_frozen BK171.out 1
    have hfz8_2:=blk_frozen BK171.out 2
    have hfz8_3:=blk_frozen BK171.out 3
    go_wp2
    go_ret
    exact ⟨by first|rfl|(simp [errW_none,errW_some] <;> rfl)|(simp [*,errW_none,errW_some] <;> rfl),by repeat (first|exact gB HB|refine below_set ?_ GE171.out)⟩
end Go.Proofs.Ytdhdfmmefghijab.P
namespace Go.Proofs.Ytdhdfmmefghijab.P
open Go.RowKit Go.Proofs.YtdhdfmmefghijabW.PrintWords Go.Proofs.YtdhdfmmefghijabW.PrintLast Go.Proofs.YtdhdfmmefghijabW.PrintMore
attribute [local go_sem] max2_int min2_int max_two min_two max_three min_three max_four min_four
set_option linter.unusedVariables false
set_option linter.unusedSimpArgs false
mutual
def spec_TextValid.j0:Nat→ByteArray→Bool→Option (Bool)
 | 0,_,_=>none
 | k+1,x0,x14=>if x14=true then (some false) else (spec_TextValid.l0 k x0 0)
def spec_TextValid.l0:Nat→ByteArray→Int→Option (Bool)
 | 0,_,_=>none
 | k+1,x0,x3=>if x3 < (x0.size:Int) then (if 0≤x3 then (if (bt x0 x3) ≥ 97 then (if (bt x0 x3)≤122 then (spec_TextValid.j2 k x0 x3 (bt x0 x3) true) else (if (bt x0 x3) ≥ 48 then (spec_TextValid.j2 k x0 x3 (bt x0 x3) (decide ((bt x0 x3)≤57))) else (spec_TextValid.j2 k x0 x3 (bt x0 x3) false))) else (if (bt x0 x3) ≥ 48 then (spec_TextValid.j2 k x0 x3 (bt x0 x3) (decide ((bt x0 x3)≤57))) else (spec_TextValid.j2 k x0 x3 (bt x0 x3) false))) else (none)) else (some true)
def spec_TextValid.j2:Nat→ByteArray→Int→Int→Bool→Option (Bool)
 | 0,_,_,_,_=>none
 | k+1,x0,x3,x4,x5=>if x4=44 then (spec_TextValid.j3 k x0 x3 x5 true) else (if x4=58 then (spec_TextValid.j3 k x0 x3 x5 true) else (if x4=61 then (spec_TextValid.j3 k x0 x3 x5 true) else (if x4=123 then (spec_TextValid.j3 k x0 x3 x5 true) else (if x4=125 then (spec_TextValid.j3 k x0 x3 x5 true) else (if x4=40 then (spec_TextValid.j3 k x0 x3 x5 true) else (if x4=41 then (spec_TextValid.j3 k x0 x3 x5 true) else (if x4=91 then (spec_TextValid.j3 k x0 x3 x5 true) else (spec_TextValid.j3 k x0 x3 x5 (x4 == 93)))))))))
def spec_TextValid.j3:Nat→ByteArray→Int→Bool→Bool→Option (Bool)
 | 0,_,_,_,_=>none
 | k+1,x0,x3,x5,x6=>if x5=true then (spec_TextValid.l0 k x0 (wrap64 (x3+1))) else (if x6=true then (spec_TextValid.l0 k x0 (wrap64 (x3+1))) else (some false))
end
def spec_TextValid.f (k:Nat) (a0:ByteArray):Option (Bool):=if (a0.size:Int) < 1 then (spec_TextValid.j0 k a0 true) else (spec_TextValid.j0 k a0 (decide ((a0.size:Int) > 12)))
set_option maxHeartbeats 8000000 in
set_option maxRecDepth 100000 in
theorem spec_TextValid.calls (k:Nat) (a0:ByteArray) (r:Bool) (w:World) (h:spec_TextValid.f k a0=some r) :
  Calls Try.prog 73 #[.string a0] w fun e w'=>e=.returned (.bool r)∧Drawn0 w w':=by
 have H:(if (a0.size:Int) < 1 then (spec_TextValid.j0 k a0 true) else (spec_TextValid.j0 k a0 (decide ((a0.size:Int) > 12))))=some r:=h
 clear h
 have HC2:=Aside0.mk H
 clear H
 go_enter Try.func73,Try.ntmps73
 go_upto_region 1 with (fail)
 go_cut [14] (fun v14 wc=>∃ (kq:Nat) (x14_1:Bool),v14=.bool x14_1∧Aside0 (spec_TextValid.j0 kq a0 x14_1=some r)∧Aside0 (kq≤k)∧Drawn0 w wc)
 case first =>
  have H:=HC2.out
  clear HC2
  by_cases c3:(a0.size:Int) < 1
  ·rw [if_pos c3] at H
   have c3b0:decide ((a0.size:Int) < 1)=true:=decide_eq_true c3
   have c3b1:decide (a0.size < 1)=true:=decide_eq_true (by omega)
   clear c3
   (first|rw [c3b0]|(simp only [i64_w,i32_w];rw [c3b0])|skip)
   have H':=Aside0.mk H
   clear H
   go_wp2
   go_meet
   case rel=>exact ⟨_,(true),(by first|rfl|(simp;done)|(simp [*];done)),H',⟨by first|omega|exact Nat.le_refl _⟩,by repeat (first|exact Drawn0.refl _|apply Drawn0.step)⟩
  ·rw [if_neg c3] at H
   have c3b0:decide ((a0.size:Int) < 1)=false:=decide_eq_false c3
   have c3b1:decide (a0.size < 1)=false:=decide_eq_false (by omega)
   clear c3
   (first|rw [c3b0]|(simp only [i64_w,i32_w];rw [c3b0])|skip)
   have H':=Aside0.mk H
   clear H
   go_wp2
   go_meet
   case rel=>exact ⟨_,(decide ((a0.size:Int) > 12)),(by first|rfl|(simp;done)|(simp [*];done)),H',⟨by first|omega|exact Nat.le_refl _⟩,by repeat (first|exact Drawn0.refl _|apply Drawn0.step)⟩
 case rest =>
  clear HC2
  try clear p2 c3 c3b0 c3b1
  obtain ⟨kq,x14_1,rfl,HA,HJ1,⟨mc1,rfl⟩⟩:=hcut
  cases kq with
  | zero=>exact absurd HA.out (by simp [spec_TextValid.j0])
  | succ kj1 =>
   have H:=HA.out
   clear HA
   simp only [spec_TextValid.j0] at H
   by_cases c4:x14_1=true
   ·subst c4
    have H1:(some false)=some r:=by rw [if_pos rfl] at H;exact H
    clear H
    have H:=H1
    clear H1
    obtain rfl:=Option.some.inj H
    go_wp2
    go_ret
    exact ⟨by first|rfl|(simp;done)|(simp [*];done),by repeat (first|exact Drawn0.refl _|apply Drawn0.step)⟩
   ·replace c4:=Bool.eq_false_iff.mpr c4
    subst c4
    have H1:(spec_TextValid.l0 kj1 a0 0)=some r:=by rw [if_neg (show ¬ (false=true) by decide)] at H;exact H
    clear H
    have H:=H1
    clear H1
    have H':=Aside0.mk H
    clear H
    go_wp2
    go_loopg [3] kj1 (fun kq v3 w'=>∃ (x3_2:Int),v3=.int .i64 x3_2∧Aside0 (spec_TextValid.l0 kq a0 x3_2=some r)∧Aside0 (kq≤kj1)∧Drawn0 w w')
    case atStart=>exact ⟨(0),(by first|rfl|(simp;done)|(simp [*];done)),H',⟨Nat.le_refl _⟩,by repeat (first|exact Drawn0.refl _|apply Drawn0.step)⟩
    case round =>
     clear H'
     try clear c1 p2 c3 c3b0 c3b1 c4 p2
     obtain ⟨x3_2,rfl,HA,HK2,⟨m2,rfl⟩⟩:=hrel
     cases gk with
     | zero=>exact absurd HA.out (by simp [spec_TextValid.l0])
     | succ k2 =>
      have H:=HA.out
      clear HA
      simp only [spec_TextValid.l0] at H
      by_cases c5:x3_2 < (a0.size:Int)
      ·rw [if_pos c5] at H
       have c5b0:decide (x3_2 < (a0.size:Int))=true:=decide_eq_true c5
       clear c5
       by_cases c6:0≤x3_2
       ·rw [if_pos c6] at H
        have c6b0:decide (0≤x3_2)=true:=decide_eq_true c6
        clear c6
        have HC8:=Aside0.mk H
        clear H
        have p7:0≤(x3_2:Int):=of_decide_eq_true (by first|(with_reducible assumption)|assumption)
        have q7:x3_2 < (a0.size:Int):=of_decide_eq_true (by first|(with_reducible assumption)|assumption)
        have hx7:=bt_at a0 x3_2
        replace p7:=eq_true p7
        replace q7:=eq_true q7
        go_upto_region 7 with (fail)
        go_cut [5] (fun v5 wc=>∃ (kq:Nat) (x5_7:Bool),v5=.bool x5_7∧Aside0 (spec_TextValid.j2 kq a0 x3_2 (bt a0 x3_2) x5_7=some r)∧Aside0 (kq≤k2)∧Drawn0 w wc)
        case first =>
         have H:=HC8.out
         clear HC8
         by_cases c9:(bt a0 x3_2) ≥ 97
         ·rw [if_pos c9] at H
          have c9b0:decide (97≤(bt a0 x3_2))=true:=decide_eq_true c9
          clear c9
          (first|rw [c9b0]|(simp only [i64_w,i32_w];rw [c9b0])|skip)
          by_cases c10:(bt a0 x3_2)≤122
          ·rw [if_pos c10] at H
           have c10b0:decide ((bt a0 x3_2)≤122)=true:=decide_eq_true c10
           clear c10
           have H':=Aside0.mk H
           clear H
           go_wp2
           go_meet
           case rel=>exact ⟨_,(true),(by first|rfl|(simp;done)|(simp [*];done)),H',⟨by have:=HJ1.out;have:=HK2.out;first|omega|exact Nat.le_refl _⟩,by repeat (first|exact Drawn0.refl _|apply Drawn0.step)⟩
          ·rw [if_neg c10] at H
           have c10b0:decide ((bt a0 x3_2)≤122)=false:=decide_eq_false c10
           clear c10
           by_cases c11:(bt a0 x3_2) ≥ 48
           ·rw [if_pos c11] at H
            have c11b0:decide (48≤(bt a0 x3_2))=true:=decide_eq_true c11
            clear c11
            have H':=Aside0.mk H
            clear H
            go_wp2
            go_meet
            case rel=>exact ⟨_,(decide ((bt a0 x3_2)≤57)),(by first|rfl|(simp;done)|(simp [*];done)),H',⟨by have:=HJ1.out;have:=HK2.out;first|omega|exact Nat.le_refl _⟩,by repeat (first|exact Drawn0.refl _|apply Drawn0.step)⟩
           ·rw [if_neg c11] at H
            have c11b0:decide (48≤(bt a0 x3_2))=false:=decide_eq_false c11
            clear c11
            have H':=Aside0.mk H
            clear H
            go_wp2
            go_meet
            case rel=>exact ⟨_,(false),(by first|rfl|(simp;done)|(simp [*];done)),H',⟨by have:=HJ1.out;have:=HK2.out;first|omega|exact Nat.le_refl _⟩,by repeat (first|exact Drawn0.refl _|apply Drawn0.step)⟩
         ·rw [if_neg c9] at H
          have c9b0:decide (97≤(bt a0 x3_2))=false:=decide_eq_false c9
          clear c9
          (first|rw [c9b0]|(simp only [i64_w,i32_w];rw [c9b0])|skip)
          by_cases c12:(bt a0 x3_2) ≥ 48
          ·rw [if_pos c12] at H
           have c12b0:decide (48≤(bt a0 x3_2))=true:=decide_eq_true c12
           clear c12
           have H':=Aside0.mk H
           clear H
           go_wp2
           go_meet
           case rel=>exact ⟨_,(decide ((bt a0 x3_2)≤57)),(by first|rfl|(simp;done)|(simp [*];done)),H',⟨by have:=HJ1.out;have:=HK2.out;first|omega|exact Nat.le_refl _⟩,by repeat (first|exact Drawn0.refl _|apply Drawn0.step)⟩
          ·rw [if_neg c12] at H
           have c12b0:decide (48≤(bt a0 x3_2))=false:=decide_eq_false c12
           clear c12
           have H':=Aside0.mk H
           clear H
           go_wp2
           go_meet
           case rel=>exact ⟨_,(false),(by first|rfl|(simp;done)|(simp [*];done)),H',⟨by have:=HJ1.out;have:=HK2.out;first|omega|exact Nat.le_refl _⟩,by repeat (first|exact Drawn0.refl _|apply Drawn0.step)⟩
        case rest =>
         clear HC8
         try clear c1 p2 c3 c3b0 c3b1 c4 c5 c5b0 c6 c6b0 c7 p7 q7 hx7 c9 c9b0 c10 c10b0 c11 c11b0 c12 c12b0 p2 p7 q7
         obtain ⟨kq,x5_7,rfl,HA,HJ7,⟨mc7,rfl⟩⟩:=hcut
         cases kq with
         | zero=>exact absurd HA.out (by simp [spec_TextValid.j2])
         | succ kj7 =>
          have H:=HA.out
          clear HA
          simp only [spec_TextValid.j2] at H
          have HC13:=Aside0.mk H
          clear H
          go_upto_region 8 with (fail)
          go_cut [6] (fun v6 wc=>∃ (kq:Nat) (x6_12:Bool),v6=.bool x6_12∧Aside0 (spec_TextValid.j3 kq a0 x3_2 x5_7 x6_12=some r)∧Aside0 (kq≤kj7)∧Drawn0 w wc)
          case first =>
           have H:=HC13.out
           clear HC13
           by_cases c14:(bt a0 x3_2)=44
           ·rw [if_pos c14] at H
            have c14b0:((bt a0 x3_2) == 44)=true:=beq_iff_eq.mpr c14
            have c14b1:((bt a0 x3_2) != 44)=false:=bne_eq_false_iff_eq.mpr c14
            clear c14
            (first|rw [c14b0]|(simp only [i64_w,i32_w];rw [c14b0])|skip)
            have H':=Aside0.mk H
            clear H
            go_wp2
            go_meet
            case rel=>exact ⟨_,(true),(by first|rfl|(simp;done)|(simp [*];done)),H',⟨by have:=HJ1.out;have:=HK2.out;have:=HJ7.out;first|omega|exact Nat.le_refl _⟩,by repeat (first|exact Drawn0.refl _|apply Drawn0.step)⟩
           ·rw [if_neg c14] at H
            have c14b0:((bt a0 x3_2) == 44)=false:=beq_eq_false_iff_ne.mpr c14
            have c14b1:((bt a0 x3_2) != 44)=true:=bne_iff_ne.mpr c14
            (first|rw [c14b0]|(simp only [i64_w,i32_w];rw [c14b0])|skip)
            by_cases c15:(bt a0 x3_2)=58
            ·rw [if_pos c15] at H
             have c15b0:((bt a0 x3_2) == 58)=true:=beq_iff_eq.mpr c15
             have c15b1:((bt a0 x3_2) != 58)=false:=bne_eq_false_iff_eq.mpr c15
             clear c15
             have H':=Aside0.mk H
             clear H
             go_wp2
             go_meet
             case rel=>exact ⟨_,(true),(by first|rfl|(simp;done)|(simp [*];done)),H',⟨by have:=HJ1.out;have:=HK2.out;have:=HJ7.out;first|omega|exact Nat.le_refl _⟩,by repeat (first|exact Drawn0.refl _|apply Drawn0.step)⟩
            ·rw [if_neg c15] at H
             have c15b0:((bt a0 x3_2) == 58)=false:=beq_eq_false_iff_ne.mpr c15
             have c15b1:((bt a0 x3_2) != 58)=true:=bne_iff_ne.mpr c15
             by_cases c16:(bt a0 x3_2)=61
             ·rw [if_pos c16] at H
              have c16b0:((bt a0 x3_2) == 61)=true:=beq_iff_eq.mpr c16
              have c16b1:((bt a0 x3_2) != 61)=false:=bne_eq_false_iff_eq.mpr c16
              clear c16
              have H':=Aside0.mk H
              clear H
              go_wp2
              go_meet
              case rel=>exact ⟨_,(true),(by first|rfl|(simp;done)|(simp [*];done)),H',⟨by have:=HJ1.out;have:=HK2.out;have:=HJ7.out;first|omega|exact Nat.le_refl _⟩,by repeat (first|exact Drawn0.refl _|apply Drawn0.step)⟩
             ·rw [if_neg c16] at H
              have c16b0:((bt a0 x3_2) == 61)=false:=beq_eq_false_iff_ne.mpr c16
              have c16b1:((bt a0 x3_2) != 61)=true:=bne_iff_ne.mpr c16
              by_cases c17:(bt a0 x3_2)=123
              ·rw [if_pos c17] at H
               have c17b0:((bt a0 x3_2) == 123)=true:=beq_iff_eq.mpr c17
               have c17b1:((bt a0 x3_2) != 123)=false:=bne_eq_false_iff_eq.mpr c17
               clear c17
               have H':=Aside0.mk H
               clear H
               go_wp2
               go_meet
               case rel=>exact ⟨_,(true),(by first|rfl|(simp;done)|(simp [*];done)),H',⟨by have:=HJ1.out;have:=HK2.out;have:=HJ7.out;first|omega|exact Nat.le_refl _⟩,by repeat (first|exact Drawn0.refl _|apply Drawn0.step)⟩
              ·rw [if_neg c17] at H
               have c17b0:((bt a0 x3_2) == 123)=false:=beq_eq_false_iff_ne.mpr c17
               have c17b1:((bt a0 x3_2) != 123)=true:=bne_iff_ne.mpr c17
               by_cases c18:(bt a0 x3_2)=125
               ·rw [if_pos c18] at H
                have c18b0:((bt a0 x3_2) == 125)=true:=beq_iff_eq.mpr c18
                have c18b1:((bt a0 x3_2) != 125)=false:=bne_eq_false_iff_eq.mpr c18
                clear c18
                have H':=Aside0.mk H
                clear H
                go_wp2
                go_meet
                case rel=>exact ⟨_,(true),(by first|rfl|(simp;done)|(simp [*];done)),H',⟨by have:=HJ1.out;have:=HK2.out;have:=HJ7.out;first|omega|exact Nat.le_refl _⟩,by repeat (first|exact Drawn0.refl _|apply Drawn0.step)⟩
               ·rw [if_neg c18] at H
                have c18b0:((bt a0 x3_2) == 125)=false:=beq_eq_false_iff_ne.mpr c18
                have c18b1:((bt a0 x3_2) != 125)=true:=bne_iff_ne.mpr c18
                by_cases c19:(bt a0 x3_2)=40
                ·rw [if_pos c19] at H
                 have c19b0:((bt a0 x3_2) == 40)=true:=beq_iff_eq.mpr c19
                 have c19b1:((bt a0 x3_2) != 40)=false:=bne_eq_false_iff_eq.mpr c19
                 clear c19
                 have H':=Aside0.mk H
                 clear H
                 go_wp2
                 go_meet
                 case rel=>exact ⟨_,(true),(by first|rfl|(simp;done)|(simp [*];done)),H',⟨by have:=HJ1.out;have:=HK2.out;have:=HJ7.out;first|omega|exact Nat.le_refl _⟩,by repeat (first|exact Drawn0.refl _|apply Drawn0.step)⟩
                ·rw [if_neg c19] at H
                 have c19b0:((bt a0 x3_2) == 40)=false:=beq_eq_false_iff_ne.mpr c19
                 have c19b1:((bt a0 x3_2) != 40)=true:=bne_iff_ne.mpr c19
                 by_cases c20:(bt a0 x3_2)=41
                 ·rw [if_pos c20] at H
                  have c20b0:((bt a0 x3_2) == 41)=true:=beq_iff_eq.mpr c20
                  have c20b1:((bt a0 x3_2) != 41)=false:=bne_eq_false_iff_eq.mpr c20
                  clear c20
                  have H':=Aside0.mk H
                  clear H
                  go_wp2
                  go_meet
                  case rel=>exact ⟨_,(true),(by first|rfl|(simp;done)|(simp [*];done)),H',⟨by have:=HJ1.out;have:=HK2.out;have:=HJ7.out;first|omega|exact Nat.le_refl _⟩,by repeat (first|exact Drawn0.refl _|apply Drawn0.step)⟩
                 ·rw [if_neg c20] at H
                  have c20b0:((bt a0 x3_2) == 41)=false:=beq_eq_false_iff_ne.mpr c20
                  have c20b1:((bt a0 x3_2) != 41)=true:=bne_iff_ne.mpr c20
                  by_cases c21:(bt a0 x3_2)=91
                  ·rw [if_pos c21] at H
                   have c21b0:((bt a0 x3_2) == 91)=true:=beq_iff_eq.mpr c21
                   have c21b1:((bt a0 x3_2) != 91)=false:=bne_eq_false_iff_eq.mpr c21
                   clear c21
                   have H':=Aside0.mk H
                   clear H
                   go_wp2
                   go_meet
                   case rel=>exact ⟨_,(true),(by first|rfl|(simp;done)|(simp [*];done)),H',⟨by have:=HJ1.out;have:=HK2.out;have:=HJ7.out;first|omega|exact Nat.le_refl _⟩,by repeat (first|exact Drawn0.refl _|apply Drawn0.step)⟩
                  ·rw [if_neg c21] at H
                   have c21b0:((bt a0 x3_2) == 91)=false:=beq_eq_false_iff_ne.mpr c21
                   have c21b1:((bt a0 x3_2) != 91)=true:=bne_iff_ne.mpr c21
                   have H':=Aside0.mk H
                   clear H
                   go_wp2
                   go_meet
                   case rel=>exact ⟨_,(((bt a0 x3_2) == 93)),(by first|rfl|(simp;done)|(simp [*];done)),H',⟨by have:=HJ1.out;have:=HK2.out;have:=HJ7.out;first|omega|exact Nat.le_refl _⟩,by repeat (first|exact Drawn0.refl _|apply Drawn0.step)⟩
          case rest =>
           clear HC13
           try clear c1 c2 p2 c3 c3b0 c3b1 c4 c5 c5b0 c6 c6b0 c7 p7 q7 hx7 c9 c9b0 c10 c10b0 c11 c11b0 c12 c12b0 c14 c14b0 c14b1 c15 c15b0 c15b1 c16 c16b0 c16b1 c17 c17b0 c17b1 c18 c18b0 c18b1 c19 c19b0 c19b1 c20 c20b0 c20b1 c21 c21b0 c21b1 p2 p7 q7
           obtain ⟨kq,x6_12,rfl,HA,HJ12,⟨mc12,rfl⟩⟩:=hcut
           cases kq with
           | zero=>exact absurd HA.out (by simp [spec_TextValid.j3])
           | succ kj12 =>
            have H:=HA.out
            clear HA
            simp only [spec_TextValid.j3] at H
            by_cases c22:x5_7=true
            ·subst c22
             have H1:(spec_TextValid.l0 kj12 a0 (wrap64 (x3_2+1)))=some r:=by rw [if_pos rfl] at H;exact H
             clear H
             have H:=H1
             clear H1
             have H':=Aside0.mk H
             clear H
             go_wp2
             go_roundg kj12
             case measure=>have:=HJ1.out;have:=HK2.out;have:=HJ7.out;have:=HJ12.out;omega
             case rel=>exact ⟨(wrap64 (x3_2+1)),(by first|rfl|(simp;done)|(simp [*];done)),H',⟨by have:=HJ1.out;have:=HK2.out;have:=HJ7.out;have:=HJ12.out;omega⟩,by repeat (first|exact Drawn0.refl _|apply Drawn0.step)⟩
            ·replace c22:=Bool.eq_false_iff.mpr c22
             subst c22
             have H1:(if x6_12=true then (spec_TextValid.l0 kj12 a0 (wrap64 (x3_2+1))) else (some false))=some r:=by rw [if_neg (show ¬ (false=true) by decide)] at H;exact H
             clear H
             have H:=H1
             clear H1
             by_cases c23:x6_12=true
             ·subst c23
              have H1:(spec_TextValid.l0 kj12 a0 (wrap64 (x3_2+1)))=some r:=by rw [if_pos rfl] at H;exact H
              clear H
              have H:=H1
              clear H1
              have H':=Aside0.mk H
              clear H
              go_wp2
              go_roundg kj12
              case measure=>have:=HJ1.out;have:=HK2.out;have:=HJ7.out;have:=HJ12.out;omega
              case rel=>exact ⟨(wrap64 (x3_2+1)),(by first|rfl|(simp;done)|(simp [*];done)),H',⟨by have:=HJ1.out;have:=HK2.out;have:=HJ7.out;have:=HJ12.out;omega⟩,by repeat (first|exact Drawn0.refl _|apply Drawn0.step)⟩
             ·replace c23:=Bool.eq_false_iff.mpr c23
              subst c23
              have H1:(some false)=some r:=by rw [if_neg (show ¬ (false=true) by decide)] at H;exact H
              clear H
              have H:=H1
              clear H1
              obtain rfl:=Option.some.inj H
              go_wp2
              go_ret
              exact ⟨by first|rfl|(simp;done)|(simp [*];done),by repeat (first|exact Drawn0.refl _|apply Drawn0.step)⟩
       ·rw [if_neg c6] at H
        exact absurd H (by simp)
      ·rw [if_neg c5] at H
       have c5b0:decide (x3_2 < (a0.size:Int))=false:=decide_eq_false c5
       clear c5
       obtain rfl:=Option.some.inj H
       go_wp2
       go_ret
       exact ⟨by first|rfl|(simp;done)|(simp [*];done),by repeat (first|exact Drawn0.refl _|apply Drawn0.step)⟩
end Go.Proofs.Ytdhdfmmefghijab.P
namespace Go.Proofs.Ytdhdfmmefghijab.P
open Go.RowKit Go.Proofs.YtdhdfmmefghijabW.PrintWords Go.Proofs.YtdhdfmmefghijabW.PrintLast Go.Proofs.YtdhdfmmefghijabW.PrintMore
attribute [local go_sem] max2_int min2_int max_two min_two max_three min_three max_four min_four
set_option linter.unusedVariables false
set_option linter.unusedSimpArgs false
mutual
def spec_l1Kids.j0:Nat→Int→Bool→Option (Int)
 | 0,_,_=>none
 | k+1,x3,x4=>if x4=true then (some 0) else (if x3=6 then (spec_l1Kids.j1 k x3 (x3 == 6)) else (spec_l1Kids.j1 k x3 (x3 == 8)))
def spec_l1Kids.j1:Nat→Int→Bool→Option (Int)
 | 0,_,_=>none
 | k+1,x3,x10=>if x10=true then (some 1) else (if x3=7 then (some 2) else (some (-1)))
end
def spec_l1Kids.f (k:Nat) (a0:Int):Option (Int):=if a0=1 then (spec_l1Kids.j0 k a0 (a0 == 1)) else (if a0=2 then (spec_l1Kids.j0 k a0 (a0 == 2)) else (if a0=3 then (spec_l1Kids.j0 k a0 (a0 == 3)) else (if a0=4 then (spec_l1Kids.j0 k a0 (a0 == 4)) else (spec_l1Kids.j0 k a0 (a0 == 5)))))
set_option maxHeartbeats 8000000 in
set_option maxRecDepth 100000 in
theorem spec_l1Kids.calls (k:Nat) (a0:Int) (r:Int) (w:World) (h:spec_l1Kids.f k a0=some r) :
  Calls Try.prog 85 #[.int .i64 a0] w fun e w'=>e=.returned (.int .i64 r)∧Drawn0 w w':=by
 have H:(if a0=1 then (spec_l1Kids.j0 k a0 (a0 == 1)) else (if a0=2 then (spec_l1Kids.j0 k a0 (a0 == 2)) else (if a0=3 then (spec_l1Kids.j0 k a0 (a0 == 3)) else (if a0=4 then (spec_l1Kids.j0 k a0 (a0 == 4)) else (spec_l1Kids.j0 k a0 (a0 == 5))))))=some r:=h
 clear h
 have HC2:=Aside0.mk H
 clear H
 go_enter Try.func85,Try.ntmps85
 go_upto_if 4 with (fail)
 go_cut [4] (fun v4 wc=>∃ (kq:Nat) (x4_1:Bool),v4=.bool x4_1∧Aside0 (spec_l1Kids.j0 kq a0 x4_1=some r)∧Aside0 (kq≤k)∧Drawn0 w wc)
 case first =>
  have H:=HC2.out
  clear HC2
  by_cases c3:a0=1
  ·rw [if_pos c3] at H
   have c3b0:(a0 == 1)=true:=beq_iff_eq.mpr c3
   have c3b1:(a0 != 1)=false:=bne_eq_false_iff_eq.mpr c3
   clear c3
   (first|rw [c3b0]|(simp only [i64_w,i32_w];rw [c3b0])|skip)
   have H':=Aside0.mk H
   clear H
   go_wp2
   go_meet
   case rel=>exact ⟨_,((a0 == 1)),(by first|rfl|(simp;done)|(simp [*];done)),H',⟨by first|omega|exact Nat.le_refl _⟩,by repeat (first|exact Drawn0.refl _|apply Drawn0.step)⟩
  ·rw [if_neg c3] at H
   have c3b0:(a0 == 1)=false:=beq_eq_false_iff_ne.mpr c3
   have c3b1:(a0 != 1)=true:=bne_iff_ne.mpr c3
   (first|rw [c3b0]|(simp only [i64_w,i32_w];rw [c3b0])|skip)
   by_cases c4:a0=2
   ·rw [if_pos c4] at H
    have c4b0:(a0 == 2)=true:=beq_iff_eq.mpr c4
    have c4b1:(a0 != 2)=false:=bne_eq_false_iff_eq.mpr c4
    clear c4
    have H':=Aside0.mk H
    clear H
    go_wp2
    go_meet
    case rel=>exact ⟨_,((a0 == 2)),(by first|rfl|(simp;done)|(simp [*];done)),H',⟨by first|omega|exact Nat.le_refl _⟩,by repeat (first|exact Drawn0.refl _|apply Drawn0.step)⟩
   ·rw [if_neg c4] at H
    have c4b0:(a0 == 2)=false:=beq_eq_false_iff_ne.mpr c4
    have c4b1:(a0 != 2)=true:=bne_iff_ne.mpr c4
    by_cases c5:a0=3
    ·rw [if_pos c5] at H
     have c5b0:(a0 == 3)=true:=beq_iff_eq.mpr c5
     have c5b1:(a0 != 3)=false:=bne_eq_false_iff_eq.mpr c5
     clear c5
     have H':=Aside0.mk H
     clear H
     go_wp2
     go_meet
     case rel=>exact ⟨_,((a0 == 3)),(by first|rfl|(simp;done)|(simp [*];done)),H',⟨by first|omega|exact Nat.le_refl _⟩,by repeat (first|exact Drawn0.refl _|apply Drawn0.step)⟩
    ·rw [if_neg c5] at H
     have c5b0:(a0 == 3)=false:=beq_eq_false_iff_ne.mpr c5
     have c5b1:(a0 != 3)=true:=bne_iff_ne.mpr c5
     by_cases c6:a0=4
     ·rw [if_pos c6] at H
      have c6b0:(a0 == 4)=true:=beq_iff_eq.mpr c6
      have c6b1:(a0 != 4)=false:=bne_eq_false_iff_eq.mpr c6
      clear c6
      have H':=Aside0.mk H
      clear H
      go_wp2
      go_meet
      case rel=>exact ⟨_,((a0 == 4)),(by first|rfl|(simp;done)|(simp [*];done)),H',⟨by first|omega|exact Nat.le_refl _⟩,by repeat (first|exact Drawn0.refl _|apply Drawn0.step)⟩
     ·rw [if_neg c6] at H
      have c6b0:(a0 == 4)=false:=beq_eq_false_iff_ne.mpr c6
      have c6b1:(a0 != 4)=true:=bne_iff_ne.mpr c6
      have H':=Aside0.mk H
      clear H
      go_wp2
      go_meet
      case rel=>exact ⟨_,((a0 == 5)),(by first|rfl|(simp;done)|(simp [*];done)),H',⟨by first|omega|exact Nat.le_refl _⟩,by repeat (first|exact Drawn0.refl _|apply Drawn0.step)⟩
 case rest =>
  clear HC2
  try clear p2 c3 c3b0 c3b1 c4 c4b0 c4b1 c5 c5b0 c5b1 c6 c6b0 c6b1
  obtain ⟨kq,x4_1,rfl,HA,HJ1,⟨mc1,rfl⟩⟩:=hcut
  cases kq with
  | zero=>exact absurd HA.out (by simp [spec_l1Kids.j0])
  | succ kj1 =>
   have H:=HA.out
   clear HA
   simp only [spec_l1Kids.j0] at H
   by_cases c7:x4_1=true
   ·subst c7
    have H1:(some 0)=some r:=by rw [if_pos rfl] at H;exact H
    clear H
    have H:=H1
    clear H1
    obtain rfl:=Option.some.inj H
    go_wp2
    go_ret
    exact ⟨by first|rfl|(simp;done)|(simp [*];done),by repeat (first|exact Drawn0.refl _|apply Drawn0.step)⟩
   ·replace c7:=Bool.eq_false_iff.mpr c7
    subst c7
    have H1:(if a0=6 then (spec_l1Kids.j1 kj1 a0 (a0 == 6)) else (spec_l1Kids.j1 kj1 a0 (a0 == 8)))=some r:=by rw [if_neg (show ¬ (false=true) by decide)] at H;exact H
    clear H
    have H:=H1
    clear H1
    have HC8:=Aside0.mk H
    clear H
    go_upto_if 10 with (fail)
    go_cut [10] (fun v10 wc=>∃ (kq:Nat) (x10_7:Bool),v10=.bool x10_7∧Aside0 (spec_l1Kids.j1 kq a0 x10_7=some r)∧Aside0 (kq≤kj1)∧Drawn0 w wc)
    case first =>
     have H:=HC8.out
     clear HC8
     by_cases c9:a0=6
     ·rw [if_pos c9] at H
      have c9b0:(a0 == 6)=true:=beq_iff_eq.mpr c9
      have c9b1:(a0 != 6)=false:=bne_eq_false_iff_eq.mpr c9
      clear c9
      (first|rw [c9b0]|(simp only [i64_w,i32_w];rw [c9b0])|skip)
      have H':=Aside0.mk H
      clear H
      go_wp2
      go_meet
      case rel=>exact ⟨_,((a0 == 6)),(by first|rfl|(simp;done)|(simp [*];done)),H',⟨by have:=HJ1.out;first|omega|exact Nat.le_refl _⟩,by repeat (first|exact Drawn0.refl _|apply Drawn0.step)⟩
     ·rw [if_neg c9] at H
      have c9b0:(a0 == 6)=false:=beq_eq_false_iff_ne.mpr c9
      have c9b1:(a0 != 6)=true:=bne_iff_ne.mpr c9
      (first|rw [c9b0]|(simp only [i64_w,i32_w];rw [c9b0])|skip)
      have H':=Aside0.mk H
      clear H
      go_wp2
      go_meet
      case rel=>exact ⟨_,((a0 == 8)),(by first|rfl|(simp;done)|(simp [*];done)),H',⟨by have:=HJ1.out;first|omega|exact Nat.le_refl _⟩,by repeat (first|exact Drawn0.refl _|apply Drawn0.step)⟩
    case rest =>
     clear HC8
     try clear c1 p2 c3 c3b0 c3b1 c4 c4b0 c4b1 c5 c5b0 c5b1 c6 c6b0 c6b1 c7 c8 c9 c9b0 c9b1 p2
     obtain ⟨kq,x10_7,rfl,HA,HJ7,⟨mc7,rfl⟩⟩:=hcut
     cases kq with
     | zero=>exact absurd HA.out (by simp [spec_l1Kids.j1])
     | succ kj7 =>
      have H:=HA.out
      clear HA
      simp only [spec_l1Kids.j1] at H
      by_cases c10:x10_7=true
      ·subst c10
       have H1:(some 1)=some r:=by rw [if_pos rfl] at H;exact H
       clear H
       have H:=H1
       clear H1
       obtain rfl:=Option.some.inj H
       go_wp2
       go_ret
       exact ⟨by first|rfl|(simp;done)|(simp [*];done),by repeat (first|exact Drawn0.refl _|apply Drawn0.step)⟩
      ·replace c10:=Bool.eq_false_iff.mpr c10
       subst c10
       have H1:(if a0=7 then (some 2) else (some (-1)))=some r:=by rw [if_neg (show ¬ (false=true) by decide)] at H;exact H
       clear H
       have H:=H1
       clear H1
       by_cases c11:a0=7
       ·rw [if_pos c11] at H
        have c11b0:(a0 == 7)=true:=beq_iff_eq.mpr c11
        have c11b1:(a0 != 7)=false:=bne_eq_false_iff_eq.mpr c11
        clear c11
        obtain rfl:=Option.some.inj H
        go_wp2
        go_ret
        exact ⟨by first|rfl|(simp;done)|(simp [*];done),by repeat (first|exact Drawn0.refl _|apply Drawn0.step)⟩
       ·rw [if_neg c11] at H
        have c11b0:(a0 == 7)=false:=beq_eq_false_iff_ne.mpr c11
        have c11b1:(a0 != 7)=true:=bne_iff_ne.mpr c11
        obtain rfl:=Option.some.inj H
        go_wp2
        go_ret
        exact ⟨by first|rfl|(simp;done)|(simp [*];done),by repeat (first|exact Drawn0.refl _|apply Drawn0.step)⟩
end Go.Proofs.Ytdhdfmmefghijab.P
namespace Go.Proofs.Ytdhdfmmefghijab.P
open Go.RowKit Go.Proofs.YtdhdfmmefghijabW.PrintWords Go.Proofs.YtdhdfmmefghijabW.PrintLast Go.Proofs.YtdhdfmmefghijabW.PrintMore
attribute [local go_sem] max2_int min2_int max_two min_two max_three min_three max_four min_four
set_option linter.unusedVariables false
set_option linter.unusedSimpArgs false
mutual
def spec_l1Is.j0:Nat→Int→Bool→Int→Int→ByteArray→List (SDoc)→Option (Bool)
 | 0,_,_,_,_,_,_=>none
 | k+1,x1,x16,x167000,x167001,x167002,x167003=>if x16=true then (some false) else (if x167000=2 then ((spec_TextValid.f k x167002).bind fun t168=>(if t168=true then (spec_l1Is.j1 k x1 false x167000 x167001 x167002 x167003) else (spec_l1Is.j1 k x1 true x167000 x167001 x167002 x167003))) else (spec_l1Is.j1 k x1 (x167002.toList != ([]:List UInt8)) x167000 x167001 x167002 x167003))
def spec_l1Is.j1:Nat→Int→Bool→Int→Int→ByteArray→List (SDoc)→Option (Bool)
 | 0,_,_,_,_,_,_=>none
 | k+1,x1,x35,x167000,x167001,x167002,x167003=>if x35=true then (some false) else (if x167000=6 then (if x167001 < 0 then (spec_l1Is.j2 k x1 true x167000 x167001 x167002 x167003) else (if x167001 > 9 then (spec_l1Is.j2 k x1 true x167000 x167001 x167002 x167003) else (spec_l1Is.j2 k x1 false x167000 x167001 x167002 x167003))) else (spec_l1Is.j2 k x1 (x167001 != 0) x167000 x167001 x167002 x167003))
def spec_l1Is.j2:Nat→Int→Bool→Int→Int→ByteArray→List (SDoc)→Option (Bool)
 | 0,_,_,_,_,_,_=>none
 | k+1,x1,x58,x167000,x167001,x167002,x167003=>if x58=true then (some false) else (spec_l1Is.l0 k x1 0 x167000 x167001 x167002 x167003)
def spec_l1Is.l0:Nat→Int→Int→Int→Int→ByteArray→List (SDoc)→Option (Bool)
 | 0,_,_,_,_,_,_=>none
 | k+1,x1,x5,x167000,x167001,x167002,x167003=>if x5 < (x167003.length:Int) then (if 0≤x5 then ((spec_l1Is.f k ((rd_TDoc x167003 x5).f0) ((rd_TDoc x167003 x5).f1) ((rd_TDoc x167003 x5).f2) ((rd_TDoc x167003 x5).f3) (wrap64 (x1 - 1))).bind fun t170=>(if t170=true then (spec_l1Is.l0 k x1 (wrap64 (x5+1)) x167000 x167001 x167002 x167003) else (some false))) else (none)) else (some true)
def spec_l1Is.f:Nat→Int→Int→ByteArray→List (SDoc)→Int→Option (Bool)
 | 0,_,_,_,_,_=>none
 | k+1,a0_0,a0_1,a0_2,l0_3,a1=>if a1=0 then (spec_l1Is.j0 k a1 true a0_0 a0_1 a0_2 l0_3) else ((spec_l1Kids.f k a0_0).bind fun t167=>(spec_l1Is.j0 k a1 ((l0_3.length:Int) != t167) a0_0 a0_1 a0_2 l0_3))
end
set_option maxHeartbeats 8000000 in
set_option maxRecDepth 100000 in
theorem spec_l1Is.calls (k:Nat):∀ (a0_0:Int) (a0_1:Int) (a0_2:ByteArray) (A0_3:Option Addr) (c0_3:Nat) (l0_3:List (SDoc)) (a1:Int) (r:Bool) (w:World) (hr0_3:Kd.C k39 w A0_3 l0_3.length l0_3) (hc0_3:l0_3.length≤c0_3) (h:spec_l1Is.f k a0_0 a0_1 a0_2 l0_3 a1=some r),
  Calls Try.prog 71 #[.agg #[.int .i64 a0_0,.int .i64 a0_1,.string a0_2,.slice A0_3 l0_3.length c0_3],.int .i64 a1] w fun e w'=>e=.returned (.bool r)∧Below w.heap.size w w':=by
 induction k using Nat.strongRecOn with
 | _ k ih =>
 intro a0_0 a0_1 a0_2 A0_3 c0_3 l0_3 a1 r w hr0_3 hc0_3 h
 cases k with
 | zero=>exact absurd h (by simp [spec_l1Is.f])
 | succ k =>
 simp only [spec_l1Is.f] at h
 have hu39:=Try.underlying39
 have HR0_3:=Aside0.mk hr0_3
 have HC0_3:=Aside0.mk hc0_3
 clear hr0_3 hc0_3
 have HB:=Aside0.mk (Below.refl w.heap.size w)
 have H:(if a1=0 then (spec_l1Is.j0 k a1 true a0_0 a0_1 a0_2 l0_3) else ((spec_l1Kids.f k a0_0).bind fun t167=>(spec_l1Is.j0 k a1 ((l0_3.length:Int) != t167) a0_0 a0_1 a0_2 l0_3)))=some r:=h
 clear h
 have HC3:=Aside0.mk H
 clear H
 go_enter Try.func71,Try.ntmps71
 go_upto_region 1 with (first|((with_reducible refine gate_dst (N:=2) rfl ?_);(try (refine gate_guard (by rfl) ?_;dsimp only));refine box_event ?hg (N:=2) ?hd (cs:=#[.int .i64 a0_0,.int .i64 a0_1,.string a0_2,.slice A0_3 l0_3.length c0_3]) (t:=39) ?hr ?_;(case hd=>rfl);(case hg=>rfl);(case hr=>first|(go_simp;done)|(go_simp;rfl));intro gb166 hg w4 hbox hb;have n0_:=Aside0.mk (below_step (gB HB) hb);have n1_:=Aside0.mk (hbox);have n2_:=Aside0.mk ((by rw [hg];exact (below_size (gB HB)):w.heap.size≤gb166));have n3_:=Aside0.mk ((by rw [hg];exact (below_size (gB HB)):w.heap.size≤gb166));clear HB;have HB:=n0_;have BK166:=n1_;have GW166:=n2_;have GE166:=n3_;clear n0_ n1_ n2_ n3_;clear hb hbox hg))
 repeat (go_quiet (first|((with_reducible refine gate_dst (N:=2) rfl ?_);(try (refine gate_guard (by rfl) ?_;dsimp only));refine box_event ?hg (N:=2) ?hd (cs:=#[.int .i64 a0_0,.int .i64 a0_1,.string a0_2,.slice A0_3 l0_3.length c0_3]) (t:=39) ?hr ?_;(case hd=>rfl);(case hg=>rfl);(case hr=>first|(go_simp;done)|(go_simp;rfl));intro gb166 hg w4 hbox hb;have n0_:=Aside0.mk (below_step (gB HB) hb);have n1_:=Aside0.mk (hbox);have n2_:=Aside0.mk ((by rw [hg];exact (below_size (gB HB)):w.heap.size≤gb166));have n3_:=Aside0.mk ((by rw [hg];exact (below_size (gB HB)):w.heap.size≤gb166));clear HB;have HB:=n0_;have BK166:=n1_;have GW166:=n2_;have GE166:=n3_;clear n0_ n1_ n2_ n3_;clear hb hbox hg));go_upto_region 1 with (first|((with_reducible refine gate_dst (N:=2) rfl ?_);(try (refine gate_guard (by rfl) ?_;dsimp only));refine box_event ?hg (N:=2) ?hd (cs:=#[.int .i64 a0_0,.int .i64 a0_1,.string a0_2,.slice A0_3 l0_3.length c0_3]) (t:=39) ?hr ?_;(case hd=>rfl);(case hg=>rfl);(case hr=>first|(go_simp;done)|(go_simp;rfl));intro gb166 hg w4 hbox hb;have n0_:=Aside0.mk (below_step (gB HB) hb);have n1_:=Aside0.mk (hbox);have n2_:=Aside0.mk ((by rw [hg];exact (below_size (gB HB)):w.heap.size≤gb166));have n3_:=Aside0.mk ((by rw [hg];exact (below_size (gB HB)):w.heap.size≤gb166));clear HB;have HB:=n0_;have BK166:=n1_;have GW166:=n2_;have GE166:=n3_;clear n0_ n1_ n2_ n3_;clear hb hbox hg)))
 (try simp only [Act.put,List.setIfInBounds_toArray,List.set_cons_zero,List.set_cons_succ])
 go_cut [16] (fun v16 wc=>∃ (kq:Nat) (x16_2:Bool),v16=.bool x16_2∧Aside0 (spec_l1Is.j0 kq a1 x16_2 a0_0 a0_1 a0_2 l0_3=some r)∧Aside0 (kq≤k)∧Aside0 (wc.heap[gb166]?=some (.cells #[.int .i64 a0_0,.int .i64 a0_1,.string a0_2,(.slice A0_3 l0_3.length c0_3)] 39 (0,0)))∧Aside0 (Below w.heap.size w wc))
 case first =>
  have H:=HC3.out
  clear HC3
  by_cases c5:a1=0
  ·rw [if_pos c5] at H
   have c5b0:(a1 == 0)=true:=beq_iff_eq.mpr c5
   have c5b1:(a1 != 0)=false:=bne_eq_false_iff_eq.mpr c5
   clear c5
   (first|rw [c5b0]|(simp only [i64_w,i32_w];rw [c5b0])|skip)
   have H':=Aside0.mk H
   clear H
   go_wp2
   repeat (go_quiet (fail);try go_wp2)
   go_meet
   case rel=>exact ⟨_,(true),(by first|rfl|(simp;done)|(simp [*];done)),H',⟨by first|omega|exact Nat.le_refl _⟩,⟨gK BK166⟩,⟨by repeat (first|exact gB HB|refine below_set ?_ GE166.out)⟩⟩
  ·rw [if_neg c5] at H
   have c5b0:(a1 == 0)=false:=beq_eq_false_iff_ne.mpr c5
   have c5b1:(a1 != 0)=true:=bne_iff_ne.mpr c5
   (first|rw [c5b0]|(simp only [i64_w,i32_w];rw [c5b0])|skip)
   replace H:=Option.bind_eq_some_iff.mp H
   obtain ⟨t167,A60,H⟩:=H
   replace H:(spec_l1Is.j0 k a1 ((l0_3.length:Int) != t167) a0_0 a0_1 a0_2 l0_3)=some r:=H
   have A6:=Aside0.mk A60
   clear A60
   have H':=Aside0.mk H
   clear H
   have hcz7_0:w4.cell? ⟨gb166,0,none⟩=some (.int .i64 a0_0):=(blk_cell BK166.out 0).trans rfl
   have hcz7_1:w4.cell? ⟨gb166,1,none⟩=some (.int .i64 a0_1):=(blk_cell BK166.out 1).trans rfl
   have hcz7_2:w4.cell? ⟨gb166,2,none⟩=some (.string a0_2):=(blk_cell BK166.out 2).trans rfl
   have hcz7_3:w4.cell? ⟨gb166,3,none⟩=some (.slice A0_3 l0_3.length c0_3):=(blk_cell BK166.out 3).trans rfl
   have hfz7_0:=blk_frozen BK166.out 0
   have hfz7_1:=blk_frozen BK166.out 1
   have hfz7_2:=blk_frozen BK166.out 2
   have hfz7_3:=blk_frozen BK166.out 3
   go_wp2_with (first|(go_at_call 85;(with_reducible refine (spec_l1Kids.calls k a0_0 t167 _ A6.out).mono ?_);rintro e w' ⟨rfl,⟨nd,rfl⟩⟩;(try first|exact ⟨rfl,_,World.drewN_drewN _ _ _⟩ | exact ⟨rfl,_,Eq.trans (World.drewN_drewN _ _ _) (congrArg (World.drewN _) (Nat.add_assoc _ _ _))⟩)))
   repeat (go_quiet (first|(go_at_call 85;(with_reducible refine (spec_l1Kids.calls k a0_0 t167 _ A6.out).mono ?_);rintro e w' ⟨rfl,⟨nd,rfl⟩⟩;(try first|exact ⟨rfl,_,World.drewN_drewN _ _ _⟩ | exact ⟨rfl,_,Eq.trans (World.drewN_drewN _ _ _) (congrArg (World.drewN _) (Nat.add_assoc _ _ _))⟩)));try go_wp2_with (first|(go_at_call 85;(with_reducible refine (spec_l1Kids.calls k a0_0 t167 _ A6.out).mono ?_);rintro e w' ⟨rfl,⟨nd,rfl⟩⟩;(try first|exact ⟨rfl,_,World.drewN_drewN _ _ _⟩ | exact ⟨rfl,_,Eq.trans (World.drewN_drewN _ _ _) (congrArg (World.drewN _) (Nat.add_assoc _ _ _))⟩))))
   go_meet
   case rel=>exact ⟨_,(((l0_3.length:Int) != t167)),(by first|rfl|(simp;done)|(simp [*];done)),H',⟨by first|omega|exact Nat.le_refl _⟩,⟨gK BK166⟩,⟨by repeat (first|exact gB HB|refine below_set ?_ GE166.out)⟩⟩
 case rest =>
  clear HC3
  try clear p2 c5 c5b0 c5b1 c7 hcz7_0 hcz7_1 hcz7_2 hcz7_3 hfz7_0 hfz7_1 hfz7_2 hfz7_3
  obtain ⟨kq,x16_2,rfl,HA,HJ2,BK166,HB⟩:=hcut
  cases kq with
  | zero=>exact absurd HA.out (by simp [spec_l1Is.j0])
  | succ kj2 =>
   have H:=HA.out
   clear HA
   simp only [spec_l1Is.j0] at H
   by_cases c8:x16_2=true
   ·subst c8
    have H1:(some false)=some r:=by rw [if_pos rfl] at H;exact H
    clear H
    have H:=H1
    clear H1
    obtain rfl:=Option.some.inj H
    go_wp2
    repeat (go_quiet (fail);try go_wp2)
    go_ret
    exact ⟨by first|rfl|(simp [errW_none,errW_some] <;> rfl)|(simp [*,errW_none,errW_some] <;> rfl),by repeat (first|exact gB HB|refine below_set ?_ GE166.out)⟩
   ·replace c8:=Bool.eq_false_iff.mpr c8
    subst c8
    have H1:(if a0_0=2 then ((spec_TextValid.f kj2 a0_2).bind fun t168=>(if t168=true then (spec_l1Is.j1 kj2 a1 false a0_0 a0_1 a0_2 l0_3) else (spec_l1Is.j1 kj2 a1 true a0_0 a0_1 a0_2 l0_3))) else (spec_l1Is.j1 kj2 a1 (a0_2.toList != ([]:List UInt8)) a0_0 a0_1 a0_2 l0_3))=some r:=by rw [if_neg (show ¬ (false=true) by decide)] at H;exact H
    clear H
    have H:=H1
    clear H1
    have HC9:=Aside0.mk H
    clear H
    go_upto_region 3 with (fail)
    repeat (go_quiet (fail);go_upto_region 3 with (fail))
    go_cut [35] (fun v35 wc=>∃ (kq:Nat) (x35_8:Bool),v35=.bool x35_8∧Aside0 (spec_l1Is.j1 kq a1 x35_8 a0_0 a0_1 a0_2 l0_3=some r)∧Aside0 (kq≤kj2)∧Aside0 (wc.heap[gb166]?=some (.cells #[.int .i64 a0_0,.int .i64 a0_1,.string a0_2,(.slice A0_3 l0_3.length c0_3)] 39 (0,0)))∧Aside0 (Below w.heap.size w wc))
    case first =>
     have H:=HC9.out
     clear HC9
     by_cases c10:a0_0=2
     ·rw [if_pos c10] at H
      have c10b0:(a0_0 == 2)=true:=beq_iff_eq.mpr c10
      have c10b1:(a0_0 != 2)=false:=bne_eq_false_iff_eq.mpr c10
      clear c10
      (first|rw [c10b0]|(simp only [i64_w,i32_w];rw [c10b0])|skip)
      replace H:=Option.bind_eq_some_iff.mp H
      obtain ⟨t168,A110,H⟩:=H
      replace H:(if t168=true then (spec_l1Is.j1 kj2 a1 false a0_0 a0_1 a0_2 l0_3) else (spec_l1Is.j1 kj2 a1 true a0_0 a0_1 a0_2 l0_3))=some r:=H
      have A11:=Aside0.mk A110
      clear A110
      by_cases c12:t168=true
      ·subst c12
       have H1:(spec_l1Is.j1 kj2 a1 false a0_0 a0_1 a0_2 l0_3)=some r:=by rw [if_pos rfl] at H;exact H
       clear H
       have H:=H1
       clear H1
       have H':=Aside0.mk H
       clear H
       have hcz13_0:wc.cell? ⟨gb166,0,none⟩=some (.int .i64 a0_0):=(blk_cell BK166.out 0).trans rfl
       have hcz13_1:wc.cell? ⟨gb166,1,none⟩=some (.int .i64 a0_1):=(blk_cell BK166.out 1).trans rfl
       have hcz13_2:wc.cell? ⟨gb166,2,none⟩=some (.string a0_2):=(blk_cell BK166.out 2).trans rfl
       have hcz13_3:wc.cell? ⟨gb166,3,none⟩=some (.slice A0_3 l0_3.length c0_3):=(blk_cell BK166.out 3).trans rfl
       have hfz13_0:=blk_frozen BK166.out 0
       have hfz13_1:=blk_frozen BK166.out 1
       have hfz13_2:=blk_frozen BK166.out 2
       have hfz13_3:=blk_frozen BK166.out 3
       go_wp2_with (first|(go_at_call 73;(with_reducible refine (spec_TextValid.calls kj2 a0_2 true _ A11.out).mono ?_);rintro e w' ⟨rfl,⟨nd,rfl⟩⟩;(try first|exact ⟨rfl,_,World.drewN_drewN _ _ _⟩ | exact ⟨rfl,_,Eq.trans (World.drewN_drewN _ _ _) (congrArg (World.drewN _) (Nat.add_assoc _ _ _))⟩)))
       repeat (go_quiet (first|(go_at_call 73;(with_reducible refine (spec_TextValid.calls kj2 a0_2 true _ A11.out).mono ?_);rintro e w' ⟨rfl,⟨nd,rfl⟩⟩;(try first|exact ⟨rfl,_,World.drewN_drewN _ _ _⟩ | exact ⟨rfl,_,Eq.trans (World.drewN_drewN _ _ _) (congrArg (World.drewN _) (Nat.add_assoc _ _ _))⟩)));try go_wp2_with (first|(go_at_call 73;(with_reducible refine (spec_TextValid.calls kj2 a0_2 true _ A11.out).mono ?_);rintro e w' ⟨rfl,⟨nd,rfl⟩⟩;(try first|exact ⟨rfl,_,World.drewN_drewN _ _ _⟩ | exact ⟨rfl,_,Eq.trans (World.drewN_drewN _ _ _) (congrArg (World.drewN _) (Nat.add_assoc _ _ _))⟩))))
       go_meet
       case rel=>exact ⟨_,(false),(by first|rfl|(simp;done)|(simp [*];done)),H',⟨by have:=HJ2.out;first|omega|exact Nat.le_refl _⟩,⟨gK BK166⟩,⟨by repeat (first|exact gB HB|refine below_set ?_ GE166.out)⟩⟩
      ·replace c12:=Bool.eq_false_iff.mpr c12
       subst c12
       have H1:(spec_l1Is.j1 kj2 a1 true a0_0 a0_1 a0_2 l0_3)=some r:=by rw [if_neg (show ¬ (false=true) by decide)] at H;exact H
       clear H
       have H:=H1
       clear H1
       have H':=Aside0.mk H
       clear H
       have hcz14_0:wc.cell? ⟨gb166,0,none⟩=some (.int .i64 a0_0):=(blk_cell BK166.out 0).trans rfl
       have hcz14_1:wc.cell? ⟨gb166,1,none⟩=some (.int .i64 a0_1):=(blk_cell BK166.out 1).trans rfl
       have hcz14_2:wc.cell? ⟨gb166,2,none⟩=some (.string a0_2):=(blk_cell BK166.out 2).trans rfl
       have hcz14_3:wc.cell? ⟨gb166,3,none⟩=some (.slice A0_3 l0_3.length c0_3):=(blk_cell BK166.out 3).trans rfl
       have hfz14_0:=blk_frozen BK166.out 0
       have hfz14_1:=blk_frozen BK166.out 1
       have hfz14_2:=blk_frozen BK166.out 2
       have hfz14_3:=blk_frozen BK166.out 3
       go_wp2_with (first|(go_at_call 73;(with_reducible refine (spec_TextValid.calls kj2 a0_2 false _ A11.out).mono ?_);rintro e w' ⟨rfl,⟨nd,rfl⟩⟩;(try first|exact ⟨rfl,_,World.drewN_drewN _ _ _⟩ | exact ⟨rfl,_,Eq.trans (World.drewN_drewN _ _ _) (congrArg (World.drewN _) (Nat.add_assoc _ _ _))⟩)))
       repeat (go_quiet (first|(go_at_call 73;(with_reducible refine (spec_TextValid.calls kj2 a0_2 false _ A11.out).mono ?_);rintro e w' ⟨rfl,⟨nd,rfl⟩⟩;(try first|exact ⟨rfl,_,World.drewN_drewN _ _ _⟩ | exact ⟨rfl,_,Eq.trans (World.drewN_drewN _ _ _) (congrArg (World.drewN _) (Nat.add_assoc _ _ _))⟩)));try go_wp2_with (first|(go_at_call 73;(with_reducible refine (spec_TextValid.calls kj2 a0_2 false _ A11.out).mono ?_);rintro e w' ⟨rfl,⟨nd,rfl⟩⟩;(try first|exact ⟨rfl,_,World.drewN_drewN _ _ _⟩ | exact ⟨rfl,_,Eq.trans (World.drewN_drewN _ _ _) (congrArg (World.drewN _) (Nat.add_assoc _ _ _))⟩))))
       go_meet
       case rel=>exact ⟨_,(true),(by first|rfl|(simp;done)|(simp [*];done)),H',⟨by have:=HJ2.out;first|omega|exact Nat.le_refl _⟩,⟨gK BK166⟩,⟨by repeat (first|exact gB HB|refine below_set ?_ GE166.out)⟩⟩
     ·rw [if_neg c10] at H
      have c10b0:(a0_0 == 2)=false:=beq_eq_false_iff_ne.mpr c10
      have c10b1:(a0_0 != 2)=true:=bne_iff_ne.mpr c10
      (first|rw [c10b0]|(simp only [i64_w,i32_w];rw [c10b0])|skip)
      have H':=Aside0.mk H
      clear H
      have hcz15_0:wc.cell? ⟨gb166,0,none⟩=some (.int .i64 a0_0):=(blk_cell BK166.out 0).trans rfl
      have hcz15_1:wc.cell? ⟨gb166,1,none⟩=some (.int .i64 a0_1):=(blk_cell BK166.out 1).trans rfl
      have hcz15_2:wc.cell? ⟨gb166,2,none⟩=some (.string a0_2):=(blk_cell BK166.out 2).trans rfl
      have hcz15_3:wc.cell? ⟨gb166,3,none⟩=some (.slice A0_3 l0_3.length c0_3):=(blk_cell BK166.out 3).trans rfl
      have hfz15_0:=blk_frozen BK166.out 0
      have hfz15_1:=blk_frozen BK166.out 1
      have hfz15_2:=blk_frozen BK166.out 2
      have hfz15_3:=blk_frozen BK166.out 3
      go_wp2
      repeat (go_quiet (fail);try go_wp2)
      go_meet
      case rel=>exact ⟨_,((a0_2.toList != ([]:List UInt8))),(by first|rfl|(simp only [xp_isEmpty];done)|(simp;done)|(simp [*];done)),H',⟨by have:=HJ2.out;first|omega|exact Nat.le_refl _⟩,⟨gK BK166⟩,⟨by repeat (first|exact gB HB|refine below_set ?_ GE166.out)⟩⟩
    case rest =>
     clear HC9
     try clear c1 p2 c5 c5b0 c5b1 c7 c8 c10 c10b0 c10b1 c12 hcz13_0 hcz13_1 hcz13_2 hcz13_3 hcz14_0 hcz14_1 hcz14_2 hcz14_3 hcz15_0 hcz15_1 hcz15_2 hcz15_3 hcz7_0 hcz7_1 hcz7_2 hcz7_3 hfz13_0 hfz13_1 hfz13_2 hfz13_3 hfz14_0 hfz14_1 hfz14_2 hfz14_3 hfz15_0 hfz15_1 hfz15_2 hfz15_3 hfz7_0 hfz7_1 hfz7_2 hfz7_3 p2
     obtain ⟨kq,x35_8,rfl,HA,HJ8,BK166,HB⟩:=hcut
     cases kq with
     | zero=>exact absurd HA.out (by simp [spec_l1Is.j1])
     | succ kj8 =>
      have H:=HA.out
      clear HA
      simp only [spec_l1Is.j1] at H
      by_cases c16:x35_8=true
      ·subst c16
       have H1:(some false)=some r:=by rw [if_pos rfl] at H;exact H
       clear H
       have H:=H1
       clear H1
       obtain rfl:=Option.some.inj H
       go_wp2
       repeat (go_quiet (fail);try go_wp2)
       go_ret
       exact ⟨by first|rfl|(simp [errW_none,errW_some] <;> rfl)|(simp [*,errW_none,errW_some] <;> rfl),by repeat (first|exact gB HB|refine below_set ?_ GE166.out)⟩
      ·replace c16:=Bool.eq_false_iff.mpr c16
       subst c16
       have H1:(if a0_0=6 then (if a0_1 < 0 then (spec_l1Is.j2 kj8 a1 true a0_0 a0_1 a0_2 l0_3) else (if a0_1 > 9 then (spec_l1Is.j2 kj8 a1 true a0_0 a0_1 a0_2 l0_3) else (spec_l1Is.j2 kj8 a1 false a0_0 a0_1 a0_2 l0_3))) else (spec_l1Is.j2 kj8 a1 (a0_1 != 0) a0_0 a0_1 a0_2 l0_3))=some r:=by rw [if_neg (show ¬ (false=true) by decide)] at H;exact H
       clear H
       have H:=H1
       clear H1
       have HC17:=Aside0.mk H
       clear H
       go_upto_region 5 with (fail)
       repeat (go_quiet (fail);go_upto_region 5 with (fail))
       go_cut [58] (fun v58 wc=>∃ (kq:Nat) (x58_16:Bool),v58=.bool x58_16∧Aside0 (spec_l1Is.j2 kq a1 x58_16 a0_0 a0_1 a0_2 l0_3=some r)∧Aside0 (kq≤kj8)∧Aside0 (wc.heap[gb166]?=some (.cells #[.int .i64 a0_0,.int .i64 a0_1,.string a0_2,(.slice A0_3 l0_3.length c0_3)] 39 (0,0)))∧Aside0 (Below w.heap.size w wc))
       case first =>
        have H:=HC17.out
        clear HC17
        by_cases c18:a0_0=6
        ·rw [if_pos c18] at H
         have c18b0:(a0_0 == 6)=true:=beq_iff_eq.mpr c18
         have c18b1:(a0_0 != 6)=false:=bne_eq_false_iff_eq.mpr c18
         clear c18
         (first|rw [c18b0]|(simp only [i64_w,i32_w];rw [c18b0])|skip)
         by_cases c19:a0_1 < 0
         ·rw [if_pos c19] at H
          have c19b0:decide (a0_1 < 0)=true:=decide_eq_true c19
          clear c19
          have H':=Aside0.mk H
          clear H
          have hcz20_0:wc.cell? ⟨gb166,0,none⟩=some (.int .i64 a0_0):=(blk_cell BK166.out 0).trans rfl
          have hcz20_1:wc.cell? ⟨gb166,1,none⟩=some (.int .i64 a0_1):=(blk_cell BK166.out 1).trans rfl
          have hcz20_2:wc.cell? ⟨gb166,2,none⟩=some (.string a0_2):=(blk_cell BK166.out 2).trans rfl
          have hcz20_3:wc.cell? ⟨gb166,3,none⟩=some (.slice A0_3 l0_3.length c0_3):=(blk_cell BK166.out 3).trans rfl
          have hfz20_0:=blk_frozen BK166.out 0
          have hfz20_1:=blk_frozen BK166.out 1
          have hfz20_2:=blk_frozen BK166.out 2
          have hfz20_3:=blk_frozen BK166.out 3
          go_wp2
          repeat (go_quiet (fail);try go_wp2)
          go_meet
          case rel=>exact ⟨_,(true),(by first|rfl|(simp;done)|(simp [*];done)),H',⟨by have:=HJ2.out;have:=HJ8.out;first|omega|exact Nat.le_refl _⟩,⟨gK BK166⟩,⟨by repeat (first|exact gB HB|refine below_set ?_ GE166.out)⟩⟩
         ·rw [if_neg c19] at H
          have c19b0:decide (a0_1 < 0)=false:=decide_eq_false c19
          clear c19
          by_cases c21:a0_1 > 9
          ·rw [if_pos c21] at H
           have c21b0:decide (9 < a0_1)=true:=decide_eq_true c21
           clear c21
           have H':=Aside0.mk H
           clear H
           have hcz22_0:wc.cell? ⟨gb166,0,none⟩=some (.int .i64 a0_0):=(blk_cell BK166.out 0).trans rfl
           have hcz22_1:wc.cell? ⟨gb166,1,none⟩=some (.int .i64 a0_1):=(blk_cell BK166.out 1).trans rfl
           have hcz22_2:wc.cell? ⟨gb166,2,none⟩=some (.string a0_2):=(blk_cell BK166.out 2).trans rfl
           have hcz22_3:wc.cell? ⟨gb166,3,none⟩=some (.slice A0_3 l0_3.length c0_3):=(blk_cell BK166.out 3).trans rfl
           have hfz22_0:=blk_frozen BK166.out 0
           have hfz22_1:=blk_frozen BK166.out 1
           have hfz22_2:=blk_frozen BK166.out 2
           have hfz22_3:=blk_frozen BK166.out 3
           go_wp2
           repeat (go_quiet (fail);try go_wp2)
           go_meet
           case rel=>exact ⟨_,(true),(by first|rfl|(simp;done)|(simp [*];done)),H',⟨by have:=HJ2.out;have:=HJ8.out;first|omega|exact Nat.le_refl _⟩,⟨gK BK166⟩,⟨by repeat (first|exact gB HB|refine below_set ?_ GE166.out)⟩⟩
          ·rw [if_neg c21] at H
           have c21b0:decide (9 < a0_1)=false:=decide_eq_false c21
           clear c21
           have H':=Aside0.mk H
           clear H
           have hcz23_0:wc.cell? ⟨gb166,0,none⟩=some (.int .i64 a0_0):=(blk_cell BK166.out 0).trans rfl
           have hcz23_1:wc.cell? ⟨gb166,1,none⟩=some (.int .i64 a0_1):=(blk_cell BK166.out 1).trans rfl
           have hcz23_2:wc.cell? ⟨gb166,2,none⟩=some (.string a0_2):=(blk_cell BK166.out 2).trans rfl
           have hcz23_3:wc.cell? ⟨gb166,3,none⟩=some (.slice A0_3 l0_3.length c0_3):=(blk_cell BK166.out 3).trans rfl
           have hfz23_0:=blk_frozen BK166.out 0
           have hfz23_1:=blk_frozen BK166.out 1
           have hfz23_2:=blk_frozen BK166.out 2
           have hfz23_3:=blk_frozen BK166.out 3
           go_wp2
           repeat (go_quiet (fail);try go_wp2)
           go_meet
           case rel=>exact ⟨_,(false),(by first|rfl|(simp;done)|(simp [*];done)),H',⟨by have:=HJ2.out;have:=HJ8.out;first|omega|exact Nat.le_refl _⟩,⟨gK BK166⟩,⟨by repeat (first|exact gB HB|refine below_set ?_ GE166.out)⟩⟩
        ·rw [if_neg c18] at H
         have c18b0:(a0_0 == 6)=false:=beq_eq_false_iff_ne.mpr c18
         have c18b1:(a0_0 != 6)=true:=bne_iff_ne.mpr c18
         (first|rw [c18b0]|(simp only [i64_w,i32_w];rw [c18b0])|skip)
         have H':=Aside0.mk H
         clear H
         have hcz24_0:wc.cell? ⟨gb166,0,none⟩=some (.int .i64 a0_0):=(blk_cell BK166.out 0).trans rfl
         have hcz24_1:wc.cell? ⟨gb166,1,none⟩=some (.int .i64 a0_1):=(blk_cell BK166.out 1).trans rfl
         have hcz24_2:wc.cell? ⟨gb166,2,none⟩=some (.string a0_2):=(blk_cell BK166.out 2).trans rfl
         have hcz24_3:wc.cell? ⟨gb166,3,none⟩=some (.slice A0_3 l0_3.length c0_3):=(blk_cell BK166.out 3).trans rfl
         have hfz24_0:=blk_frozen BK166.out 0
         have hfz24_1:=blk_frozen BK166.out 1
         have hfz24_2:=blk_frozen BK166.out 2
         have hfz24_3:=blk_frozen BK166.out 3
         go_wp2
         repeat (go_quiet (fail);try go_wp2)
         go_meet
         case rel=>exact ⟨_,((a0_1 != 0)),(by first|rfl|(simp;done)|(simp [*];done)),H',⟨by have:=HJ2.out;have:=HJ8.out;first|omega|exact Nat.le_refl _⟩,⟨gK BK166⟩,⟨by repeat (first|exact gB HB|refine below_set ?_ GE166.out)⟩⟩
       case rest =>
        clear HC17
        try clear c1 c2 p2 c5 c5b0 c5b1 c7 c8 c10 c10b0 c10b1 c12 c16 c18 c18b0 c18b1 c19 c19b0 c21 c21b0 hcz13_0 hcz13_1 hcz13_2 hcz13_3 hcz14_0 hcz14_1 hcz14_2 hcz14_3 hcz15_0 hcz15_1 hcz15_2 hcz15_3 hcz20_0 hcz20_1 hcz20_2 hcz20_3 hcz22_0 hcz22_1 hcz22_2 hcz22_3 hcz23_0 hcz23_1 hcz23_2 hcz23_3 hcz24_0 hcz24_1 hcz24_2 hcz24_3 hcz7_0 hcz7_1 hcz7_2 hcz7_3 hfz13_0 hfz13_1 hfz13_2 hfz13_3 hfz14_0 hfz14_1 hfz14_2 hfz14_3 hfz15_0 hfz15_1 hfz15_2 hfz15_3 hfz20_0 hfz20_1 hfz20_2 hfz20_3 hfz22_0 hfz22_1 hfz22_2 hfz22_3 hfz23_0 hfz23_1 hfz23_2 hfz23_3 hfz24_0 hfz24_1 hfz24_2 hfz24_3 hfz7_0 hfz7_1 hfz7_2 hfz7_3 p2
        obtain ⟨kq,x58_16,rfl,HA,HJ16,BK166,HB⟩:=hcut
        cases kq with
        | zero=>exact absurd HA.out (by simp [spec_l1Is.j2])
        | succ kj16 =>
         have H:=HA.out
         clear HA
         simp only [spec_l1Is.j2] at H
         by_cases c25:x58_16=true
         ·subst c25
          have H1:(some false)=some r:=by rw [if_pos rfl] at H;exact H
          clear H
          have H:=H1
          clear H1
          obtain rfl:=Option.some.inj H
          go_wp2
          repeat (go_quiet (fail);try go_wp2)
          go_ret
          exact ⟨by first|rfl|(simp [errW_none,errW_some] <;> rfl)|(simp [*,errW_none,errW_some] <;> rfl),by repeat (first|exact gB HB|refine below_set ?_ GE166.out)⟩
         ·replace c25:=Bool.eq_false_iff.mpr c25
          subst c25
          have H1:(spec_l1Is.l0 kj16 a1 0 a0_0 a0_1 a0_2 l0_3)=some r:=by rw [if_neg (show ¬ (false=true) by decide)] at H;exact H
          clear H
          have H:=H1
          clear H1
          have H':=Aside0.mk H
          clear H
          go_wp2
          repeat (go_quiet (fail);try go_wp2)
          go_loopg [5] kj16 (fun kq v5 w'=>∃ (x5_4:Int),v5=.int .i64 x5_4∧Aside0 (spec_l1Is.l0 kq a1 x5_4 a0_0 a0_1 a0_2 l0_3=some r)∧Aside0 (kq≤kj16)∧Aside0 (w'.heap[gb166]?=some (.cells #[.int .i64 a0_0,.int .i64 a0_1,.string a0_2,(.slice A0_3 l0_3.length c0_3)] 39 (0,0)))∧Aside0 (Below w.heap.size w w'))
          case atStart=>exact ⟨(0),(by first|rfl|(simp;done)|(simp [*];done)),H',⟨Nat.le_refl _⟩,⟨gK BK166⟩,⟨by repeat (first|exact gB HB|refine below_set ?_ GE166.out)⟩⟩
          case round =>
           clear H'
           try clear c1 c2 p2 c5 c5b0 c5b1 c7 c8 c10 c10b0 c10b1 c12 c16 c18 c18b0 c18b1 c19 c19b0 c21 c21b0 c25 hcz13_0 hcz13_1 hcz13_2 hcz13_3 hcz14_0 hcz14_1 hcz14_2 hcz14_3 hcz15_0 hcz15_1 hcz15_2 hcz15_3 hcz20_0 hcz20_1 hcz20_2 hcz20_3 hcz22_0 hcz22_1 hcz22_2 hcz22_3 hcz23_0 hcz23_1 hcz23_2 hcz23_3 hcz24_0 hcz24_1 hcz24_2 hcz24_3 hcz7_0 hcz7_1 hcz7_2 hcz7_3 hfz13_0 hfz13_1 hfz13_2 hfz13_3 hfz14_0 hfz14_1 hfz14_2 hfz14_3 hfz15_0 hfz15_1 hfz15_2 hfz15_3 hfz20_0 hfz20_1 hfz20_2 hfz20_3 hfz22_0 hfz22_1 hfz22_2 hfz22_3 hfz23_0 hfz23_1 hfz23_2 hfz23_3 hfz24_0 hfz24_1 hfz24_2 hfz24_3 hfz7_0 hfz7_1 hfz7_2 hfz7_3 p2
           (try clear BK166);(try clear HB)
           obtain ⟨x5_4,rfl,HA,HK4,BK166,HB⟩:=hrel
           cases gk with
           | zero=>exact absurd HA.out (by simp [spec_l1Is.l0])
           | succ k4 =>
            have H:=HA.out
            clear HA
            simp only [spec_l1Is.l0] at H
            by_cases c26:x5_4 < (l0_3.length:Int)
            ·rw [if_pos c26] at H
             have c26b0:decide (x5_4 < (l0_3.length:Int))=true:=decide_eq_true c26
             clear c26
             by_cases c27:0≤x5_4
             ·rw [if_pos c27] at H
              have c27b0:decide (0≤x5_4)=true:=decide_eq_true c27
              clear c27
              replace H:=Option.bind_eq_some_iff.mp H
              obtain ⟨t170,A280,H⟩:=H
              replace H:(if t170=true then (spec_l1Is.l0 k4 a1 (wrap64 (x5_4+1)) a0_0 a0_1 a0_2 l0_3) else (some false))=some r:=H
              have A28:=Aside0.mk A280
              clear A280
              by_cases c29:t170=true
              ·subst c29
               have H1:(spec_l1Is.l0 k4 a1 (wrap64 (x5_4+1)) a0_0 a0_1 a0_2 l0_3)=some r:=by rw [if_pos rfl] at H;exact H
               clear H
               have H:=H1
               clear H1
               have H':=Aside0.mk H
               clear H
               have hcz30_0:wr.cell? ⟨gb166,0,none⟩=some (.int .i64 a0_0):=(blk_cell BK166.out 0).trans rfl
               have hcz30_1:wr.cell? ⟨gb166,1,none⟩=some (.int .i64 a0_1):=(blk_cell BK166.out 1).trans rfl
               have hcz30_2:wr.cell? ⟨gb166,2,none⟩=some (.string a0_2):=(blk_cell BK166.out 2).trans rfl
               have hcz30_3:wr.cell? ⟨gb166,3,none⟩=some (.slice A0_3 l0_3.length c0_3):=(blk_cell BK166.out 3).trans rfl
               have hfz30_0:=blk_frozen BK166.out 0
               have hfz30_1:=blk_frozen BK166.out 1
               have hfz30_2:=blk_frozen BK166.out 2
               have hfz30_3:=blk_frozen BK166.out 3
               have p169:0≤(x5_4:Int):=of_decide_eq_true (by first|(with_reducible assumption)|assumption)
               have q169:x5_4 < (l0_3.length:Int):=of_decide_eq_true (by first|(with_reducible assumption)|assumption)
               obtain ⟨ad169,A169_3,c169_3,e169,hx169_0,hx169_1,hx169_2,hx169_3,hl169_3,hi169_3⟩:=at_TDoc HR0_3.out x5_4 p169 q169
               cases e169
               replace hx169_0:=(HB.out.cell (World.block_lt_of_cell? w _ hx169_0)).trans hx169_0
               replace hx169_1:=(HB.out.cell (World.block_lt_of_cell? w _ hx169_1)).trans hx169_1
               replace hx169_2:=(HB.out.cell (World.block_lt_of_cell? w _ hx169_2)).trans hx169_2
               replace hx169_3:=(HB.out.cell (World.block_lt_of_cell? w _ hx169_3)).trans hx169_3
               have HR169_3:=Aside0.mk hi169_3
               have HC169_3:=Aside0.mk hl169_3
               clear hi169_3 hl169_3
               replace p169:=eq_true p169
               replace q169:=eq_true q169
               go_wp2_with (first|(go_at_call 71;(with_reducible refine (ih k4 (by have:=HJ2.out;have:=HJ8.out;have:=HJ16.out;have:=HK4.out;omega) ((rd_TDoc l0_3 x5_4).f0) ((rd_TDoc l0_3 x5_4).f1) ((rd_TDoc l0_3 x5_4).f2) _ _ ((rd_TDoc l0_3 x5_4).f3) (wrap64 (a1 - 1)) true _ ?side1 ?side2 A28.out).mono ?_);(case side1=>exact gC (Kd.C_below HR169_3.out HB.out));(case side2=>exact HC169_3.out);rintro e w31 ⟨rfl,hb⟩;have n0_:=Aside0.mk (blk_below (g:=gb166) (o:=.cells #[.int .i64 a0_0,.int .i64 a0_1,.string a0_2,.slice (some ad169) l0_3.length c0_3] 39 (0,0)) (gK BK166) hb);have n1_:=Aside0.mk (below_step (by repeat (first|exact gB HB|refine below_set ?_ GE166.out)) hb);clear BK166;clear HB;have BK166:=n0_;have HB:=n1_;clear n0_ n1_;(try clear hb);(try clear hb2);(try clear hk);(try clear hi)))
               repeat (go_quiet (first|(go_at_call 71;(with_reducible refine (ih k4 (by have:=HJ2.out;have:=HJ8.out;have:=HJ16.out;have:=HK4.out;omega) ((rd_TDoc l0_3 x5_4).f0) ((rd_TDoc l0_3 x5_4).f1) ((rd_TDoc l0_3 x5_4).f2) _ _ ((rd_TDoc l0_3 x5_4).f3) (wrap64 (a1 - 1)) true _ ?side1 ?side2 A28.out).mono ?_);(case side1=>exact gC (Kd.C_below HR169_3.out HB.out));(case side2=>exact HC169_3.out);rintro e w31 ⟨rfl,hb⟩;have n0_:=Aside0.mk (blk_below (g:=gb166) (o:=.cells #[.int .i64 a0_0,.int .i64 a0_1,.string a0_2,.slice (some ad169) l0_3.length c0_3] 39 (0,0)) (gK BK166) hb);have n1_:=Aside0.mk (below_step (by repeat (first|exact gB HB|refine below_set ?_ GE166.out)) hb);clear BK166;clear HB;have BK166:=n0_;have HB:=n1_;clear n0_ n1_;(try clear hb);(try clear hb2);(try clear hk);(try clear hi)));try go_wp2_with (first|(go_at_call 71;(with_reducible refine (ih k4 (by have:=HJ2.out;have:=HJ8.out;have:=HJ16.out;have:=HK4.out;omega) ((rd_TDoc l0_3 x5_4).f0) ((rd_TDoc l0_3 x5_4).f1) ((rd_TDoc l0_3 x5_4).f2) _ _ ((rd_TDoc l0_3 x5_4).f3) (wrap64 (a1 - 1)) true _ ?side1 ?side2 A28.out).mono ?_);(case side1=>exact gC (Kd.C_below HR169_3.out HB.out));(case side2=>exact HC169_3.out);rintro e w31 ⟨rfl,hb⟩;have n0_:=Aside0.mk (blk_below (g:=gb166) (o:=.cells #[.int .i64 a0_0,.int .i64 a0_1,.string a0_2,.slice (some ad169) l0_3.length c0_3] 39 (0,0)) (gK BK166) hb);have n1_:=Aside0.mk (below_step (by repeat (first|exact gB HB|refine below_set ?_ GE166.out)) hb);clear BK166;clear HB;have BK166:=n0_;have HB:=n1_;clear n0_ n1_;(try clear hb);(try clear hb2);(try clear hk);(try clear hi))))
               go_roundg k4
               case measure=>have:=HJ2.out;have:=HJ8.out;have:=HJ16.out;have:=HK4.out;omega
               case rel=>exact ⟨(wrap64 (x5_4+1)),(by first|rfl|(simp;done)|(simp [*];done)),H',⟨by have:=HJ2.out;have:=HJ8.out;have:=HJ16.out;have:=HK4.out;omega⟩,⟨gK BK166⟩,⟨by repeat (first|exact gB HB|refine below_set ?_ GE166.out)⟩⟩
              ·replace c29:=Bool.eq_false_iff.mpr c29
               subst c29
               have H1:(some false)=some r:=by rw [if_neg (show ¬ (false=true) by decide)] at H;exact H
               clear H
               have H:=H1
               clear H1
               obtain rfl:=Option.some.inj H
               have hcz32_0:wr.cell? ⟨gb166,0,none⟩=some (.int .i64 a0_0):=(blk_cell BK166.out 0).trans rfl
               have hcz32_1:wr.cell? ⟨gb166,1,none⟩=some (.int .i64 a0_1):=(blk_cell BK166.out 1).trans rfl
               have hcz32_2:wr.cell? ⟨gb166,2,none⟩=some (.string a0_2):=(blk_cell BK166.out 2).trans rfl
               have hcz32_3:wr.cell? ⟨gb166,3,none⟩=some (.slice A0_3 l0_3.length c0_3):=(blk_cell BK166.out 3).trans rfl
               have hfz32_0:=blk_frozen BK166.out 0
               have hfz32_1:=blk_frozen BK166.out 1
               have hfz32_2:=blk_frozen BK166.out 2
               have hfz32_3:=blk_frozen BK166.out 3
               have p169:0≤(x5_4:Int):=of_decide_eq_true (by first|(with_reducible assumption)|assumption)
               have q169:x5_4 < (l0_3.length:Int):=of_decide_eq_true (by first|(with_reducible assumption)|assumption)
               (try clear hx169_0);(try clear hx169_1);(try clear hx169_2);(try clear hx169_3)
               obtain ⟨ad169,A169_3,c169_3,e169,hx169_0,hx169_1,hx169_2,hx169_3,hl169_3,hi169_3⟩:=at_TDoc HR0_3.out x5_4 p169 q169
               cases e169
               (try (have ea_:=Option.some.inj (hx169_3.symm.trans hw169_3);injection ea_ with ea_ en_ ec_;subst ea_;subst ec_;clear en_))
               replace hx169_0:=(HB.out.cell (World.block_lt_of_cell? w _ hx169_0)).trans hx169_0
               replace hx169_1:=(HB.out.cell (World.block_lt_of_cell? w _ hx169_1)).trans hx169_1
               replace hx169_2:=(HB.out.cell (World.block_lt_of_cell? w _ hx169_2)).trans hx169_2
               replace hx169_3:=(HB.out.cell (World.block_lt_of_cell? w _ hx169_3)).trans hx169_3
               have HR169_3:=Aside0.mk hi169_3
               have HC169_3:=Aside0.mk hl169_3
               clear hi169_3 hl169_3
               replace p169:=eq_true p169
               replace q169:=eq_true q169
               go_wp2_with (first|(go_at_call 71;(with_reducible refine (ih k4 (by have:=HJ2.out;have:=HJ8.out;have:=HJ16.out;have:=HK4.out;omega) ((rd_TDoc l0_3 x5_4).f0) ((rd_TDoc l0_3 x5_4).f1) ((rd_TDoc l0_3 x5_4).f2) _ _ ((rd_TDoc l0_3 x5_4).f3) (wrap64 (a1 - 1)) false _ ?side1 ?side2 A28.out).mono ?_);(case side1=>exact gC (Kd.C_below HR169_3.out HB.out));(case side2=>exact HC169_3.out);rintro e w33 ⟨rfl,hb⟩;have n0_:=Aside0.mk (blk_below (g:=gb166) (o:=.cells #[.int .i64 a0_0,.int .i64 a0_1,.string a0_2,.slice (some ad169) l0_3.length c0_3] 39 (0,0)) (gK BK166) hb);have n1_:=Aside0.mk (below_step (by repeat (first|exact gB HB|refine below_set ?_ GE166.out)) hb);clear BK166;clear HB;have BK166:=n0_;have HB:=n1_;clear n0_ n1_;(try clear hb);(try clear hb2);(try clear hk);(try clear hi)))
               repeat (go_quiet (first|(go_at_call 71;(with_reducible refine (ih k4 (by have:=HJ2.out;have:=HJ8.out;have:=HJ16.out;have:=HK4.out;omega) ((rd_TDoc l0_3 x5_4).f0) ((rd_TDoc l0_3 x5_4).f1) ((rd_TDoc l0_3 x5_4).f2) _ _ ((rd_TDoc l0_3 x5_4).f3) (wrap64 (a1 - 1)) false _ ?side1 ?side2 A28.out).mono ?_);(case side1=>exact gC (Kd.C_below HR169_3.out HB.out));(case side2=>exact HC169_3.out);rintro e w33 ⟨rfl,hb⟩;have n0_:=Aside0.mk (blk_below (g:=gb166) (o:=.cells #[.int .i64 a0_0,.int .i64 a0_1,.string a0_2,.slice (some ad169) l0_3.length c0_3] 39 (0,0)) (gK BK166) hb);have n1_:=Aside0.mk (below_step (by repeat (first|exact gB HB|refine below_set ?_ GE166.out)) hb);clear BK166;clear HB;have BK166:=n0_;have HB:=n1_;clear n0_ n1_;(try clear hb);(try clear hb2);(try clear hk);(try clear hi)));try go_wp2_with (first|(go_at_call 71;(with_reducible refine (ih k4 (by have:=HJ2.out;have:=HJ8.out;have:=HJ16.out;have:=HK4.out;omega) ((rd_TDoc l0_3 x5_4).f0) ((rd_TDoc l0_3 x5_4).f1) ((rd_TDoc l0_3 x5_4).f2) _ _ ((rd_TDoc l0_3 x5_4).f3) (wrap64 (a1 - 1)) false _ ?side1 ?side2 A28.out).mono ?_);(case side1=>exact gC (Kd.C_below HR169_3.out HB.out));(case side2=>exact HC169_3.out);rintro e w33 ⟨rfl,hb⟩;have n0_:=Aside0.mk (blk_below (g:=gb166) (o:=.cells #[.int .i64 a0_0,.int .i64 a0_1,.string a0_2,.slice (some ad169) l0_3.length c0_3] 39 (0,0)) (gK BK166) hb);have n1_:=Aside0.mk (below_step (by repeat (first|exact gB HB|refine below_set ?_ GE166.out)) hb);clear BK166;clear HB;have BK166:=n0_;have HB:=n1_;clear n0_ n1_;(try clear hb);(try clear hb2);(try clear hk);(try clear hi))))
               go_ret
               exact ⟨by first|rfl|(simp [errW_none,errW_some] <;> rfl)|(simp [*,errW_none,errW_some] <;> rfl),by repeat (first|exact gB HB|refine below_set ?_ GE166.out)⟩
             ·rw [if_neg c27] at H
              exact absurd H (by simp)
            ·rw [if_neg c26] at H
             have c26b0:decide (x5_4 < (l0_3.length:Int))=false:=decide_eq_false c26
             clear c26
             obtain rfl:=Option.some.inj H
             have hcz34_0:wr.cell? ⟨gb166,0,none⟩=some (.int .i64 a0_0):=(blk_cell BK166.out 0).trans rfl
             have hcz34_1:wr.cell? ⟨gb166,1,none⟩=some (.int .i64 a0_1):=(blk_cell BK166.out 1).trans rfl
             have hcz34_2:wr.cell? ⟨gb166,2,none⟩=some (.string a0_2):=(blk_cell BK166.out 2).trans rfl
             have hcz34_3:wr.cell? ⟨gb166,3,none⟩=some (.slice A0_3 l0_3.length c0_3):=(blk_cell BK166.out 3).trans rfl
             have hfz34_0:=blk_frozen BK166.out 0
             have hfz34_1:=blk_frozen BK166.out 1
             have hfz34_2:=blk_frozen BK166.out 2
             have hfz34_3:=blk_frozen BK166.out 3
             go_wp2
             repeat (go_quiet (fail);try go_wp2)
             go_ret
             exact ⟨by first|rfl|(simp [errW_none,errW_some] <;> rfl)|(simp [*,errW_none,errW_some] <;> rfl),by repeat (first|exact gB HB|refine below_set ?_ GE166.out)⟩
end Go.Proofs.Ytdhdfmmefghijab.P
namespace Go.Proofs.Ytdhdfmmefghijab.P
open Go.RowKit Go.Proofs.YtdhdfmmefghijabW.PrintWords Go.Proofs.YtdhdfmmefghijabW.PrintLast Go.Proofs.YtdhdfmmefghijabW.PrintMore
attribute [local go_sem] max2_int min2_int max_two min_two max_three min_three max_four min_four
set_option linter.unusedVariables false
set_option linter.unusedSimpArgs false
def spec_DocValid.f (k:Nat) (a0_0:Int) (a0_1:Int) (a0_2:ByteArray) (l0_3:List (SDoc)):Option (Bool):=(spec_l1Is.f k a0_0 a0_1 a0_2 l0_3 40).bind fun t175=>(if t175=true then ((spec_l1Count.f k a0_0 a0_1 a0_2 l0_3).bind fun t176=>(some (decide (t176≤80)))) else (some false))
set_option maxHeartbeats 8000000 in
set_option maxRecDepth 100000 in
theorem spec_DocValid.calls (k:Nat) (a0_0:Int) (a0_1:Int) (a0_2:ByteArray) (A0_3:Option Addr) (c0_3:Nat) (l0_3:List (SDoc)) (r:Bool) (w:World) (hr0_3:Kd.C k39 w A0_3 l0_3.length l0_3) (hc0_3:l0_3.length≤c0_3) (h:spec_DocValid.f k a0_0 a0_1 a0_2 l0_3=some r) :
  Calls Try.prog 52 #[.agg #[.int .i64 a0_0,.int .i64 a0_1,.string a0_2,.slice A0_3 l0_3.length c0_3]] w fun e w'=>e=.returned (.bool r)∧Below w.heap.size w w':=by
 have hu39:=Try.underlying39
 have HR0_3:=Aside0.mk hr0_3
 have HC0_3:=Aside0.mk hc0_3
 clear hr0_3 hc0_3
 have HB:=Aside0.mk (Below.refl w.heap.size w)
 have H:((spec_l1Is.f k a0_0 a0_1 a0_2 l0_3 40).bind fun t175=>(if t175=true then ((spec_l1Count.f k a0_0 a0_1 a0_2 l0_3).bind fun t176=>(some (decide (t176≤80)))) else (some false)))=some r:=h
 clear h
 replace H:=Option.bind_eq_some_iff.mp H
 obtain ⟨t175,A20,H⟩:=H
 replace H:(if t175=true then ((spec_l1Count.f k a0_0 a0_1 a0_2 l0_3).bind fun t176=>(some (decide (t176≤80)))) else (some false))=some r:=H
 have A2:=Aside0.mk A20
 clear A20
 by_cases c3:t175=true
 ·subst c3
  have H1:((spec_l1Count.f k a0_0 a0_1 a0_2 l0_3).bind fun t176=>(some (decide (t176≤80))))=some r:=by rw [if_pos rfl] at H;exact H
  clear H
  have H:=H1
  clear H1
  replace H:=Option.bind_eq_some_iff.mp H
  obtain ⟨t176,A40,H⟩:=H
  replace H:(some (decide (t176≤80)))=some r:=H
  have A4:=Aside0.mk A40
  clear A40
  obtain rfl:=Option.some.inj H
  go_enter Try.func52,Try.ntmps52
  go_wp2_with (first|((with_reducible refine gate_dst (N:=1) rfl ?_);refine box_event ?hg (N:=1) ?hd (cs:=#[.int .i64 a0_0,.int .i64 a0_1,.string a0_2,.slice A0_3 l0_3.length c0_3]) (t:=39) ?hr ?_;(case hd=>rfl);(case hg=>rfl);(case hr=>first|(go_simp;done)|(go_simp;rfl));intro gb174 hg w5 hbox hb;have n0_:=Aside0.mk (below_step (gB HB) hb);have n1_:=Aside0.mk (hbox);have n2_:=Aside0.mk ((by rw [hg];exact (below_size (gB HB)):w.heap.size≤gb174));have n3_:=Aside0.mk ((by rw [hg];exact (below_size (gB HB)):w.heap.size≤gb174));clear HB;have HB:=n0_;have BK174:=n1_;have GW174:=n2_;have GE174:=n3_;clear n0_ n1_ n2_ n3_;clear hb hbox hg;have hcz6_0:w5.cell? ⟨gb174,0,none⟩=some (.int .i64 a0_0):=(blk_cell BK174.out 0).trans rfl;have hcz6_1:w5.cell? ⟨gb174,1,none⟩=some (.int .i64 a0_1):=(blk_cell BK174.out 1).trans rfl;have hcz6_2:w5.cell? ⟨gb174,2,none⟩=some (.string a0_2):=(blk_cell BK174.out 2).trans rfl;have hcz6_3:w5.cell? ⟨gb174,3,none⟩=some (.slice A0_3 l0_3.length c0_3):=(blk_cell BK174.out 3).trans rfl;have hfz6_0:=blk_frozen BK174.out 0;have hfz6_1:=blk_frozen BK174.out 1;have hfz6_2:=blk_frozen BK174.out 2;have hfz6_3:=blk_frozen BK174.out 3)|((with_reducible refine gate_callee (f:=71) rfl ?_);refine goesL_ (some 4) rfl rfl Try.func71 (by kernel_rfl) rfl #[.agg #[.int .i64 a0_0,.int .i64 a0_1,.string a0_2,.slice A0_3 l0_3.length c0_3],.int .i64 40] rfl (by (try simp only [List.map_toArray,List.map_cons,List.map_nil]);first|done|rfl|(simp only [List.length_drop,List.length_take];rfl)) ?_;(with_reducible refine (spec_l1Is.calls k a0_0 a0_1 a0_2 _ _ l0_3 40 true _ ?side1 ?side2 A2.out).mono ?_);(case side1=>exact gC (Kd.C_below HR0_3.out HB.out));(case side2=>exact HC0_3.out);rintro e w7 ⟨rfl,hb⟩;refine ⟨_,rfl,?_⟩;have n0_:=Aside0.mk (blk_below (g:=gb174) (o:=.cells #[.int .i64 a0_0,.int .i64 a0_1,.string a0_2,.slice A0_3 l0_3.length c0_3] 39 (0,0)) (gK BK174) hb);have n1_:=Aside0.mk (below_step (by repeat (first|exact gB HB|refine below_set ?_ GE174.out)) hb);clear BK174;clear HB;have BK174:=n0_;have HB:=n1_;clear n0_ n1_;(try clear hb);(try clear hb2);(try clear hk);(try clear hi);have hcz8_0:w7.cell? ⟨gb174,0,none⟩=some (.int .i64 a0_0):=(blk_cell BK174.out 0).trans rfl;have hcz8_1:w7.cell? ⟨gb174,1,none⟩=some (.int .i64 a0_1):=(blk_cell BK174.out 1).trans rfl;have hcz8_2:w7.cell? ⟨gb174,2,none⟩=some (.string a0_2):=(blk_cell BK174.out 2).trans rfl;have hcz8_3:w7.cell? ⟨gb174,3,none⟩=some (.slice A0_3 l0_3.length c0_3):=(blk_cell BK174.out 3).trans rfl;have hfz8_0:=blk_frozen BK174.out 0;have hfz8_1:=blk_frozen BK174.out 1;have hfz8_2:=blk_frozen BK174.out 2;have hfz8_3:=blk_frozen BK174.out 3)|(go_at_call 72;(with_reducible refine (spec_l1Count.calls k a0_0 a0_1 a0_2 _ _ l0_3 t176 _ ?side1 ?side2 A4.out).mono ?_);(case side1=>exact gC (Kd.C_below HR0_3.out HB.out));(case side2=>exact HC0_3.out);rintro e w9 ⟨rfl,hb⟩;have n0_:=Aside0.mk (blk_below (g:=gb174) (o:=.cells #[.int .i64 a0_0,.int .i64 a0_1,.string a0_2,.slice A0_3 l0_3.length c0_3] 39 (0,0)) (gK BK174) hb);have n1_:=Aside0.mk (below_step (by repeat (first|exact gB HB|refine below_set ?_ GE174.out)) hb);clear BK174;clear HB;have BK174:=n0_;have HB:=n1_;clear n0_ n1_;(try clear hb);(try clear hb2);(try clear hk);(try clear hi)))
  go_ret
  exact ⟨by first|rfl|(simp [errW_none,errW_some] <;> rfl)|(simp [*,errW_none,errW_some] <;> rfl),by repeat (first|exact gB HB|refine below_set ?_ GE174.out)⟩
 ·replace c3:=Bool.eq_false_iff.mpr c3
  subst c3
  have H1:(some false)=some r:=by rw [if_neg (show ¬ (false=true) by decide)] at H;exact H
  clear H
  have H:=H1
  clear H1
  obtain rfl:=Option.some.inj H
  go_enter Try.func52,Try.ntmps52
  go_wp2_with (first|((with_reducible refine gate_dst (N:=1) rfl ?_);refine box_event ?hg (N:=1) ?hd (cs:=#[.int .i64 a0_0,.int .i64 a0_1,.string a0_2,.slice A0_3 l0_3.length c0_3]) (t:=39) ?hr ?_;(case hd=>rfl);(case hg=>rfl);(case hr=>first|(go_simp;done)|(go_simp;rfl));intro gb174 hg w10 hbox hb;have n0_:=Aside0.mk (below_step (gB HB) hb);have n1_:=Aside0.mk (hbox);have n2_:=Aside0.mk ((by rw [hg];exact (below_size (gB HB)):w.heap.size≤gb174));have n3_:=Aside0.mk ((by rw [hg];exact (below_size (gB HB)):w.heap.size≤gb174));clear HB;have HB:=n0_;have BK174:=n1_;have GW174:=n2_;have GE174:=n3_;clear n0_ n1_ n2_ n3_;clear hb hbox hg;have hcz11_0:w10.cell? ⟨gb174,0,none⟩=some (.int .i64 a0_0):=(blk_cell BK174.out 0).trans rfl;have hcz11_1:w10.cell? ⟨gb174,1,none⟩=some (.int .i64 a0_1):=(blk_cell BK174.out 1).trans rfl;have hcz11_2:w10.cell? ⟨gb174,2,none⟩=some (.string a0_2):=(blk_cell BK174.out 2).trans rfl;have hcz11_3:w10.cell? ⟨gb174,3,none⟩=some (.slice A0_3 l0_3.length c0_3):=(blk_cell BK174.out 3).trans rfl;have hfz11_0:=blk_frozen BK174.out 0;have hfz11_1:=blk_frozen BK174.out 1;have hfz11_2:=blk_frozen BK174.out 2;have hfz11_3:=blk_frozen BK174.out 3)|((with_reducible refine gate_callee (f:=71) rfl ?_);refine goesL_ (some 4) rfl rfl Try.func71 (by kernel_rfl) rfl #[.agg #[.int .i64 a0_0,.int .i64 a0_1,.string a0_2,.slice A0_3 l0_3.length c0_3],.int .i64 40] rfl (by (try simp only [List.map_toArray,List.map_cons,List.map_nil]);first|done|rfl|(simp only [List.length_drop,List.length_take];rfl)) ?_;(with_reducible refine (spec_l1Is.calls k a0_0 a0_1 a0_2 _ _ l0_3 40 false _ ?side1 ?side2 A2.out).mono ?_);(case side1=>exact gC (Kd.C_below HR0_3.out HB.out));(case side2=>exact HC0_3.out);rintro e w12 ⟨rfl,hb⟩;refine ⟨_,rfl,?_⟩;have n0_:=Aside0.mk (blk_below (g:=gb174) (o:=.cells #[.int .i64 a0_0,.int .i64 a0_1,.string a0_2,.slice A0_3 l0_3.length c0_3] 39 (0,0)) (gK BK174) hb);have n1_:=Aside0.mk (below_step (by repeat (first|exact gB HB|refine below_set ?_ GE174.out)) hb);clear BK174;clear HB;have BK174:=n0_;have HB:=n1_;clear n0_ n1_;(try clear hb);(try clear hb2);(try clear hk);(try clear hi)))
  go_ret
  exact ⟨by first|rfl|(simp [errW_none,errW_some] <;> rfl)|(simp [*,errW_none,errW_some] <;> rfl),by repeat (first|exact gB HB|refine below_set ?_ GE174.out)⟩
end Go.Proofs.Ytdhdfmmefghijab.P
namespace Go.Proofs.Ytdhdfmmefghijab.P
open Go.RowKit Go.Proofs.YtdhdfmmefghijabW.PrintWords Go.Proofs.YtdhdfmmefghijabW.PrintLast Go.Proofs.YtdhdfmmefghijabW.PrintMore
attribute [local go_sem] max2_int min2_int max_two min_two max_three min_three max_four min_four
set_option linter.unusedVariables false
set_option linter.unusedSimpArgs false
mutual
def spec_l1Word.j1:Nat→ByteArray→Int→Int→Option (Int × Int × ByteArray × (List (SDoc)) × Int)
 | 0,_,_,_=>none
 | k+1,x0,x1,x6=>if x6 ≥ (x0.size:Int) then (some (0,0,(⟨#[]⟩:ByteArray),([]:List (SDoc)),(-1))) else (if 0≤(wrap64 (x1+1)) then (if (wrap64 (x1+1))≤x6 then (if x6≤(x0.size:Int) then (some (2,0,x0.extract ((wrap64 (x1+1)):Int).toNat (x6:Int).toNat,([]:List (SDoc)),wrap64 (x6+1))) else (none)) else (none)) else (none))
def spec_l1Word.l0:Nat→ByteArray→Int→Int→Option (Int × Int × ByteArray × (List (SDoc)) × Int)
 | 0,_,_,_=>none
 | k+1,x0,x1,x6=>if x6 < (x0.size:Int) then (if 0≤x6 then (if (bt x0 x6)=34 then (spec_l1Word.j1 k x0 x1 x6) else (spec_l1Word.l0 k x0 x1 (wrap64 (x6+1)))) else (none)) else (spec_l1Word.j1 k x0 x1 x6)
end
def spec_l1Word.f (k:Nat) (a0:ByteArray) (a1:Int):Option (Int × Int × ByteArray × (List (SDoc)) × Int):=spec_l1Word.l0 k a0 a1 (wrap64 (a1+1))
set_option maxHeartbeats 8000000 in
set_option maxRecDepth 100000 in
theorem spec_l1Word.calls (k:Nat) (a0:ByteArray) (a1:Int) (r1:Int) (r2:Int) (r3:ByteArray) (r4:List (SDoc)) (r5:Int) (w:World) (h:spec_l1Word.f k a0 a1=some (r1,r2,r3,r4,r5)) :
  Calls Try.prog 100 #[.string a0,.int .i64 a1] w fun e w'=>∃ v3_:Value,e=.returned (.tuple #[.agg #[.int .i64 r1,.int .i64 r2,.string r3,v3_],.int .i64 r5])∧Kd.R k39 39 w' w.heap.size (fun _=>True) v3_ r4∧Below w.heap.size w w':=by
 have hu39:=Try.underlying39
 have HB:=Aside0.mk (Below.refl w.heap.size w)
 have H:(spec_l1Word.l0 k a0 a1 (wrap64 (a1+1)))=some (r1,r2,r3,r4,r5):=h
 clear h
 have HC3:=Aside0.mk H
 clear H
 go_enter Try.func100,Try.ntmps100
 go_upto_block 0 with (first|((with_reducible refine gate_dst (N:=4) rfl ?_);refine box_event ?hg (N:=4) ?hd (cs:=#[.int .i64 0,.int .i64 0,.string (⟨#[]⟩:ByteArray),.slice none 0 0]) (t:=39) ?hr ?_;(case hd=>rfl);(case hg=>rfl);(case hr=>first|(go_simp;done)|(go_simp;rfl));intro gb177 hg w4 hbox hb;have n0_:=Aside0.mk (below_step (gB HB) hb);have n1_:=Aside0.mk (hbox);have n2_:=Aside0.mk ((by rw [hg];exact (below_size (gB HB)):w.heap.size≤gb177));have n3_:=Aside0.mk ((by rw [hg];exact (below_size (gB HB)):w.heap.size≤gb177));clear HB;have HB:=n0_;have BK177:=n1_;have GW177:=n2_;have GE177:=n3_;clear n0_ n1_ n2_ n3_;clear hb hbox hg))
 (try simp only [Act.put,List.setIfInBounds_toArray,List.set_cons_zero,List.set_cons_succ])
 go_cut [6] (fun v6 wc=>∃ (kq:Nat) (x6_2:Int),v6=.int .i64 x6_2∧Aside0 (spec_l1Word.j1 kq a0 a1 x6_2=some (r1,r2,r3,r4,r5))∧Aside0 (kq≤k)∧Aside0 (wc.heap[gb177]?=some (.cells #[.int .i64 0,.int .i64 0,.string (⟨#[]⟩:ByteArray),(.slice none 0 0)] 39 (0,0)))∧Aside0 (Below w.heap.size w wc))
 case first =>
  have H:=HC3.out
  clear HC3
  have H':=Aside0.mk H
  clear H
  go_wp2
  go_loopg [6] k (fun kq v6 w'=>∃ (x6_1:Int),v6=.int .i64 x6_1∧Aside0 (spec_l1Word.l0 kq a0 a1 x6_1=some (r1,r2,r3,r4,r5))∧Aside0 (kq≤k)∧Aside0 (w'.heap[gb177]?=some (.cells #[.int .i64 0,.int .i64 0,.string (⟨#[]⟩:ByteArray),(.slice none 0 0)] 39 (0,0)))∧Aside0 (Below w.heap.size w w'))
  case atStart=>exact ⟨(wrap64 (a1+1)),(by first|rfl|(simp;done)|(simp [*];done)),H',⟨Nat.le_refl _⟩,⟨gK BK177⟩,⟨by repeat (first|exact gB HB|refine below_set ?_ GE177.out)⟩⟩
  case round =>
   clear H'
   try clear c1 p2
   (try clear BK177);(try clear HB)
   obtain ⟨x6_1,rfl,HA,HK1,BK177,HB⟩:=hrel
   cases gk with
   | zero=>exact absurd HA.out (by simp [spec_l1Word.l0])
   | succ k1 =>
    have H:=HA.out
    clear HA
    simp only [spec_l1Word.l0] at H
    by_cases c5:x6_1 < (a0.size:Int)
    ·rw [if_pos c5] at H
     have c5b0:decide (x6_1 < (a0.size:Int))=true:=decide_eq_true c5
     clear c5
     (first|rw [c5b0]|(simp only [i64_w,i32_w];rw [c5b0])|skip)
     by_cases c6:0≤x6_1
     ·rw [if_pos c6] at H
      have c6b0:decide (0≤x6_1)=true:=decide_eq_true c6
      clear c6
      by_cases c8:(bt a0 x6_1)=34
      ·rw [if_pos c8] at H
       have c8b0:((bt a0 x6_1) == 34)=true:=beq_iff_eq.mpr c8
       have c8b1:((bt a0 x6_1) != 34)=false:=bne_eq_false_iff_eq.mpr c8
       clear c8
       have H':=Aside0.mk H
       clear H
       have p7:0≤(x6_1:Int):=of_decide_eq_true (by first|(with_reducible assumption)|assumption)
       have q7:x6_1 < (a0.size:Int):=of_decide_eq_true (by first|(with_reducible assumption)|assumption)
       have hx7:=bt_at a0 x6_1
       replace p7:=eq_true p7
       replace q7:=eq_true q7
       go_wp2
       go_meet
       case rel=>exact ⟨_,(x6_1),(by first|rfl|(simp;done)|(simp [*];done)),H',⟨by have:=HK1.out;first|omega|exact Nat.le_refl _⟩,⟨gK BK177⟩,⟨by repeat (first|exact gB HB|refine below_set ?_ GE177.out)⟩⟩
      ·rw [if_neg c8] at H
       have c8b0:((bt a0 x6_1) == 34)=false:=beq_eq_false_iff_ne.mpr c8
       have c8b1:((bt a0 x6_1) != 34)=true:=bne_iff_ne.mpr c8
       have H':=Aside0.mk H
       clear H
       have p7:0≤(x6_1:Int):=of_decide_eq_true (by first|(with_reducible assumption)|assumption)
       have q7:x6_1 < (a0.size:Int):=of_decide_eq_true (by first|(with_reducible assumption)|assumption)
       have hx7:=bt_at a0 x6_1
       replace p7:=eq_true p7
       replace q7:=eq_true q7
       go_wp2
       go_roundg k1
       case measure=>have:=HK1.out;omega
       case rel=>exact ⟨(wrap64 (x6_1+1)),(by first|rfl|(simp;done)|(simp [*];done)),H',⟨by have:=HK1.out;omega⟩,⟨gK BK177⟩,⟨by repeat (first|exact gB HB|refine below_set ?_ GE177.out)⟩⟩
     ·rw [if_neg c6] at H
      exact absurd H (by simp)
    ·rw [if_neg c5] at H
     have c5b0:decide (x6_1 < (a0.size:Int))=false:=decide_eq_false c5
     clear c5
     (first|rw [c5b0]|(simp only [i64_w,i32_w];rw [c5b0])|skip)
     have H':=Aside0.mk H
     clear H
     go_wp2
     go_meet
     case rel=>exact ⟨_,(x6_1),(by first|rfl|(simp;done)|(simp [*];done)),H',⟨by have:=HK1.out;first|omega|exact Nat.le_refl _⟩,⟨gK BK177⟩,⟨by repeat (first|exact gB HB|refine below_set ?_ GE177.out)⟩⟩
 case rest =>
  clear HC3
  try clear c1 p2 c5 c5b0 c6 c6b0 p6 p7 q7 hx7 c8 c8b0 c8b1 p2 p7 q7
  obtain ⟨kq,x6_2,rfl,HA,HJ2,BK177,HB⟩:=hcut
  cases kq with
  | zero=>exact absurd HA.out (by simp [spec_l1Word.j1])
  | succ kj2 =>
   have H:=HA.out
   clear HA
   simp only [spec_l1Word.j1] at H
   by_cases c9:x6_2 ≥ (a0.size:Int)
   ·rw [if_pos c9] at H
    have c9b0:decide ((a0.size:Int)≤x6_2)=true:=decide_eq_true c9
    clear c9
    simp only [Option.some.injEq,Prod.mk.injEq] at H
    obtain ⟨rfl,rfl,rfl,rfl,rfl⟩:=H
    have hcz10_0:wc.cell? ⟨gb177,0,none⟩=some (.int .i64 0):=(blk_cell BK177.out 0).trans rfl
    have hcz10_1:wc.cell? ⟨gb177,1,none⟩=some (.int .i64 0):=(blk_cell BK177.out 1).trans rfl
    have hcz10_2:wc.cell? ⟨gb177,2,none⟩=some (.string (⟨#[]⟩:ByteArray)):=(blk_cell BK177.out 2).trans rfl
    have hcz10_3:wc.cell? ⟨gb177,3,none⟩=some (.slice none 0 0):=(blk_cell BK177.out 3).trans rfl
    have hfz10_0:=blk_frozen BK177.out 0
    have hfz10_1:=blk_frozen BK177.out 1
    have hfz10_2:=blk_frozen BK177.out 2
    have hfz10_3:=blk_frozen BK177.out 3
    go_wp2
    refine bodyPost_ret (results_ct rfl _ _ gb177 39 #[.int .i64 0,.int .i64 0,.string (⟨#[]⟩:ByteArray),.slice none 0 0] (0,0) _ rfl (by (with_reducible repeat (first|refine blk_drewN ?_ _|refine blk_drew ?_|refine blk_alloc ?_ _));refine blk_put (cs:=#[.int .i64 0,.int .i64 0,.string (⟨#[]⟩:ByteArray),.slice none 0 0]) ?_ 3 _ rfl;(with_reducible repeat (first|refine blk_drewN ?_ _|refine blk_drew ?_|refine blk_alloc ?_ _));refine blk_put (cs:=#[.int .i64 0,.int .i64 0,.string (⟨#[]⟩:ByteArray),.slice none 0 0]) ?_ 2 _ rfl;(with_reducible repeat (first|refine blk_drewN ?_ _|refine blk_drew ?_|refine blk_alloc ?_ _));refine blk_put (cs:=#[.int .i64 0,.int .i64 0,.string (⟨#[]⟩:ByteArray),.slice none 0 0]) ?_ 1 _ rfl;(with_reducible repeat (first|refine blk_drewN ?_ _|refine blk_drew ?_|refine blk_alloc ?_ _));refine blk_put (cs:=#[.int .i64 0,.int .i64 0,.string (⟨#[]⟩:ByteArray),.slice none 0 0]) ?_ 0 _ rfl;(with_reducible repeat (first|refine blk_drewN ?_ _|refine blk_drew ?_|refine blk_alloc ?_ _));exact BK177.out) Try.underlying39 rfl (by kernel_rfl)) rfl ?_
    exact ⟨_,by first|rfl|(simp [errW_none,errW_some] <;> rfl)|(simp [*,errW_none,errW_some] <;> rfl),by first|exact Kd.R_nil _ _ _ _ _|exact Kd.N_nil _ _ _ _ _|exact Kd.V_nil _ _ _ _ _|exact Kd.Q_nil _ _ _ _ _|exact Kd.S_nil _ _ _ _ _,by repeat (first|exact gB HB|refine below_set ?_ GE177.out)⟩
   ·rw [if_neg c9] at H
    have c9b0:decide ((a0.size:Int)≤x6_2)=false:=decide_eq_false c9
    clear c9
    obtain ⟨ji11,hji11⟩:∃ j_:Int,(wrap64 (a1+1))=j_:=⟨_,rfl⟩
    replace H:(if 0≤(ji11) then (if (ji11)≤x6_2 then (if x6_2≤(a0.size:Int) then (some (2,0,a0.extract ((ji11):Int).toNat (x6_2:Int).toNat,([]:List (SDoc)),wrap64 (x6_2+1))) else (none)) else (none)) else (none))=some (r1,r2,r3,r4,r5):=by first|(rw [hji11] at H;exact H)|(simp only [hji11] at H ⊢;exact H)
    have hji11w:(IntKind.i64.wrap (a1+1))=ji11:=(i64_w _).trans hji11
    by_cases c12:0≤(ji11)
    ·rw [if_pos c12] at H
     have c12b0:=eq_true c12
     have c12b1:decide (0≤(ji11))=true:=decide_eq_true c12
     clear c12
     by_cases c13:(ji11)≤x6_2
     ·rw [if_pos c13] at H
      have c13b0:=eq_true c13
      have c13b1:decide ((ji11)≤x6_2)=true:=decide_eq_true c13
      clear c13
      by_cases c14:x6_2≤(a0.size:Int)
      ·rw [if_pos c14] at H
       have c14b0:=eq_true c14
       have c14b1:decide (x6_2≤(a0.size:Int))=true:=decide_eq_true c14
       clear c14
       simp only [Option.some.injEq,Prod.mk.injEq] at H
       obtain ⟨rfl,rfl,rfl,rfl,rfl⟩:=H
       have hcz15_0:wc.cell? ⟨gb177,0,none⟩=some (.int .i64 0):=(blk_cell BK177.out 0).trans rfl
       have hcz15_1:wc.cell? ⟨gb177,1,none⟩=some (.int .i64 0):=(blk_cell BK177.out 1).trans rfl
       have hcz15_2:wc.cell? ⟨gb177,2,none⟩=some (.string (⟨#[]⟩:ByteArray)):=(blk_cell BK177.out 2).trans rfl
       have hcz15_3:wc.cell? ⟨gb177,3,none⟩=some (.slice none 0 0):=(blk_cell BK177.out 3).trans rfl
       have hfz15_0:=blk_frozen BK177.out 0
       have hfz15_1:=blk_frozen BK177.out 1
       have hfz15_2:=blk_frozen BK177.out 2
       have hfz15_3:=blk_frozen BK177.out 3
       go_wp2
       refine bodyPost_ret (results_ct rfl _ _ gb177 39 #[.int .i64 2,.int .i64 0,.string (a0.extract ((ji11):Int).toNat (x6_2:Int).toNat),.slice none 0 0] (0,0) _ rfl (by (with_reducible repeat (first|refine blk_drewN ?_ _|refine blk_drew ?_|refine blk_alloc ?_ _));refine blk_put (cs:=#[.int .i64 2,.int .i64 0,.string (a0.extract ((ji11):Int).toNat (x6_2:Int).toNat),.slice none 0 0]) ?_ 3 _ rfl;(with_reducible repeat (first|refine blk_drewN ?_ _|refine blk_drew ?_|refine blk_alloc ?_ _));refine blk_put (cs:=#[.int .i64 2,.int .i64 0,.string (⟨#[]⟩:ByteArray),.slice none 0 0]) ?_ 2 _ rfl;(with_reducible repeat (first|refine blk_drewN ?_ _|refine blk_drew ?_|refine blk_alloc ?_ _));refine blk_put (cs:=#[.int .i64 2,.int .i64 0,.string (⟨#[]⟩:ByteArray),.slice none 0 0]) ?_ 1 _ rfl;(with_reducible repeat (first|refine blk_drewN ?_ _|refine blk_drew ?_|refine blk_alloc ?_ _));refine blk_put (cs:=#[.int .i64 0,.int .i64 0,.string (⟨#[]⟩:ByteArray),.slice none 0 0]) ?_ 0 _ rfl;(with_reducible repeat (first|refine blk_drewN ?_ _|refine blk_drew ?_|refine blk_alloc ?_ _));exact BK177.out) Try.underlying39 rfl (by kernel_rfl)) rfl ?_
       exact ⟨_,by first|rfl|(simp [errW_none,errW_some] <;> rfl)|(simp only [← hji11];first|rfl|(simp [errW_none,errW_some] <;> rfl))|(simp [*,errW_none,errW_some] <;> rfl),by first|exact Kd.R_nil _ _ _ _ _|exact Kd.N_nil _ _ _ _ _|exact Kd.V_nil _ _ _ _ _|exact Kd.Q_nil _ _ _ _ _|exact Kd.S_nil _ _ _ _ _,by repeat (first|exact gB HB|refine below_set ?_ GE177.out)⟩
      ·rw [if_neg c14] at H
       exact absurd H (by simp)
     ·rw [if_neg c13] at H
      exact absurd H (by simp)
    ·rw [if_neg c12] at H
     exact absurd H (by simp)
end Go.Proofs.Ytdhdfmmefghijab.P
namespace Go.Proofs.Ytdhdfmmefghijab.P
open Go.RowKit Go.Proofs.YtdhdfmmefghijabW.PrintWords Go.Proofs.YtdhdfmmefghijabW.PrintLast Go.Proofs.YtdhdfmmefghijabW.PrintMore
attribute [local go_sem] max2_int min2_int max_two min_two max_three min_three max_four min_four
set_option linter.unusedVariables false
set_option linter.unusedSimpArgs false
mutual
def spec_l1Read.j0:Nat→ByteArray→Int→Int→Bool→Option (Int × Int × ByteArray × (List (SDoc)) × Int)
 | 0,_,_,_,_=>none
 | k+1,x0,x1,x2,x21=>if x21=true then (some (0,0,(⟨#[]⟩:ByteArray),([]:List (SDoc)),(-1))) else (if 0≤x1 then (if x1 < (x0.size:Int) then (if (bt x0 x1)=126 then (some (1,0,(⟨#[]⟩:ByteArray),([]:List (SDoc)),wrap64 (x1+1))) else (if (bt x0 x1)=95 then (some (3,0,(⟨#[]⟩:ByteArray),([]:List (SDoc)),wrap64 (x1+1))) else (if (bt x0 x1)=46 then (some (4,0,(⟨#[]⟩:ByteArray),([]:List (SDoc)),wrap64 (x1+1))) else (if (bt x0 x1)=33 then (some (5,0,(⟨#[]⟩:ByteArray),([]:List (SDoc)),wrap64 (x1+1))) else (if (bt x0 x1)=34 then ((spec_l1Word.f k x0 x1).bind fun bt179=>(some (bt179.1,bt179.2.1,bt179.2.2.1,bt179.2.2.2.1,bt179.2.2.2.2))) else (if (bt x0 x1)=40 then ((spec_l1Inner.f k x0 (wrap64 (x1+1)) 2 41 x2).bind fun bt186=>(some (7,0,(⟨#[]⟩:ByteArray),bt186.1,bt186.2))) else (if (bt x0 x1)=91 then ((spec_l1Inner.f k x0 (wrap64 (x1+1)) 1 93 x2).bind fun bt190=>(some (8,0,(⟨#[]⟩:ByteArray),bt190.1,bt190.2))) else (if (bt x0 x1) ≥ 48 then (if (bt x0 x1)≤57 then (if (wrap64 (x1+1)) < (x0.size:Int) then (if 0≤(wrap64 (x1+1)) then (spec_l1Read.j1 k x0 x1 x2 ((bt x0 (wrap64 (x1+1))) == 60)) else (none)) else (spec_l1Read.j1 k x0 x1 x2 false)) else (spec_l1Read.j1 k x0 x1 x2 false)) else (spec_l1Read.j1 k x0 x1 x2 false))))))))) else (none)) else (none))
def spec_l1Read.j1:Nat→ByteArray→Int→Int→Bool→Option (Int × Int × ByteArray × (List (SDoc)) × Int)
 | 0,_,_,_,_=>none
 | k+1,x0,x1,x2,x102=>if x102=true then ((spec_l1Inner.f k x0 (wrap64 (x1+2)) 1 62 x2).bind fun bt194=>(if 0≤x1 then (if x1 < (x0.size:Int) then (some (6,((bt x0 x1) - 48) % 256,(⟨#[]⟩:ByteArray),bt194.1,bt194.2)) else (none)) else (none))) else (some (0,0,(⟨#[]⟩:ByteArray),([]:List (SDoc)),(-1)))
def spec_l1Read.f:Nat→ByteArray→Int→Int→Option (Int × Int × ByteArray × (List (SDoc)) × Int)
 | 0,_,_,_=>none
 | k+1,a0,a1,a2=>if a1 ≥ (a0.size:Int) then (spec_l1Read.j0 k a0 a1 a2 true) else (spec_l1Read.j0 k a0 a1 a2 (a2 == 0))
def spec_l1Inner.l0:Nat→ByteArray→Int→Int→Int→Int→List (SDoc)→Int→Option ((List (SDoc)) × Int)
 | 0,_,_,_,_,_,_,_=>none
 | k+1,x0,x1,x2,x3,x4,x12,x13=>if x13 < x2 then ((spec_l1Read.f k x0 x1 (wrap64 (x4 - 1))).bind fun bt201=>(if bt201.2.2.2.2 < 0 then (some (x12,(-1))) else (if x12.length < 2513169434916 then (spec_l1Inner.l0 k x0 bt201.2.2.2.2 x2 x3 x4 (x12++[(⟨bt201.1,bt201.2.1,bt201.2.2.1,bt201.2.2.2.1⟩:SDoc)]) (wrap64 (x13+1))) else (none)))) else (if x1 ≥ (x0.size:Int) then (some (x12,(-1))) else (if 0≤x1 then (if x1 < (x0.size:Int) then (if (bt x0 x1)=x3 then (some (x12,wrap64 (x1+1))) else (some (x12,(-1)))) else (none)) else (none)))
def spec_l1Inner.f:Nat→ByteArray→Int→Int→Int→Int→Option ((List (SDoc)) × Int)
 | 0,_,_,_,_,_=>none
 | k+1,a0,a1,a2,a3,a4=>spec_l1Inner.l0 k a0 a1 a2 a3 a4 (([]:List (SDoc))) 0
end
set_option maxHeartbeats 8000000 in
set_option maxRecDepth 100000 in
theorem spec_l1Read.calls_g (k:Nat):(∀ (a0:ByteArray) (a1:Int) (a2:Int) (r1:Int) (r2:Int) (r3:ByteArray) (r4:List (SDoc)) (r5:Int) (w:World) (h:spec_l1Read.f k a0 a1 a2=some (r1,r2,r3,r4,r5)),
  Calls Try.prog 91 #[.string a0,.int .i64 a1,.int .i64 a2] w fun e w'=>∃ v3_:Value,e=.returned (.tuple #[.agg #[.int .i64 r1,.int .i64 r2,.string r3,v3_],.int .i64 r5])∧Kd.R k39 39 w' w.heap.size (fun _=>True) v3_ r4∧Below w.heap.size w w') ∧
  (∀ (a0:ByteArray) (a1:Int) (a2:Int) (a3:Int) (a4:Int) (r1:List (SDoc)) (r2:Int) (w:World) (h:spec_l1Inner.f k a0 a1 a2 a3 a4=some (r1,r2)),
  Calls Try.prog 101 #[.string a0,.int .i64 a1,.int .i64 a2,.int .u8 a3,.int .i64 a4] w fun e w'=>∃ v0_:Value,e=.returned (.tuple #[v0_,.int .i64 r2])∧Kd.R k39 39 w' w.heap.size (fun _=>True) v0_ r1∧Below w.heap.size w w'):=by
 induction k using Nat.strongRecOn with
 | _ k ih0 =>
 refine ⟨?_,?_⟩
 ·have ih:=fun (m_:Nat) (hm_:m_ < k)=>(ih0 m_ hm_).1
  have ih_spec_l1Inner:=fun (m_:Nat) (hm_:m_ < k)=>(ih0 m_ hm_).2
  clear ih0
  intro a0 a1 a2 r1 r2 r3 r4 r5 w h
  cases k with
  | zero=>exact absurd h (by simp [spec_l1Read.f])
  | succ k =>
  simp only [spec_l1Read.f] at h
  have hu39:=Try.underlying39
  have HB:=Aside0.mk (Below.refl w.heap.size w)
  have H:(if a1 ≥ (a0.size:Int) then (spec_l1Read.j0 k a0 a1 a2 true) else (spec_l1Read.j0 k a0 a1 a2 (a2 == 0)))=some (r1,r2,r3,r4,r5):=h
  clear h
  have HC4:=Aside0.mk H
  clear H
  go_enter Try.func91,Try.ntmps91
  go_upto_region 1 with (first|((with_reducible refine gate_dst (N:=6) rfl ?_);(try (refine gate_guard (by rfl) ?_;dsimp only));refine box_event ?hg (N:=6) ?hd (cs:=#[.int .i64 0,.int .i64 0,.string (⟨#[]⟩:ByteArray),.slice none 0 0]) (t:=39) ?hr ?_;(case hd=>rfl);(case hg=>rfl);(case hr=>first|(go_simp;done)|(go_simp;rfl));intro gb178 hg w5 hbox hb;have n0_:=Aside0.mk (below_step (gB HB) hb);have n1_:=Aside0.mk (hbox);have n2_:=Aside0.mk ((by rw [hg];exact (below_size (gB HB)):w.heap.size≤gb178));have n3_:=Aside0.mk ((by rw [hg];exact (below_size (gB HB)):w.heap.size≤gb178));clear HB;have HB:=n0_;have BK178:=n1_;have GW178:=n2_;have GE178:=n3_;clear n0_ n1_ n2_ n3_;clear hb hbox hg))
  (try simp only [Act.put,List.setIfInBounds_toArray,List.set_cons_zero,List.set_cons_succ])
  go_cut [21] (fun v21 wc=>∃ (kq:Nat) (x21_3:Bool),v21=.bool x21_3∧Aside0 (spec_l1Read.j0 kq a0 a1 a2 x21_3=some (r1,r2,r3,r4,r5))∧Aside0 (kq≤k)∧Aside0 (wc.heap[gb178]?=some (.cells #[.int .i64 0,.int .i64 0,.string (⟨#[]⟩:ByteArray),(.slice none 0 0)] 39 (0,0)))∧Aside0 (Below w.heap.size w wc))
  case first =>
   have H:=HC4.out
   clear HC4
   by_cases c6:a1 ≥ (a0.size:Int)
   ·rw [if_pos c6] at H
    have c6b0:decide ((a0.size:Int)≤a1)=true:=decide_eq_true c6
    clear c6
    (first|rw [c6b0]|(simp only [i64_w,i32_w];rw [c6b0])|skip)
    have H':=Aside0.mk H
    clear H
    go_wp2
    go_meet
    case rel=>exact ⟨_,(true),(by first|rfl|(simp;done)|(simp [*];done)),H',⟨by first|omega|exact Nat.le_refl _⟩,⟨gK BK178⟩,⟨by repeat (first|exact gB HB|refine below_set ?_ GE178.out)⟩⟩
   ·rw [if_neg c6] at H
    have c6b0:decide ((a0.size:Int)≤a1)=false:=decide_eq_false c6
    clear c6
    (first|rw [c6b0]|(simp only [i64_w,i32_w];rw [c6b0])|skip)
    have H':=Aside0.mk H
    clear H
    go_wp2
    go_meet
    case rel=>exact ⟨_,((a2 == 0)),(by first|rfl|(simp;done)|(simp [*];done)),H',⟨by first|omega|exact Nat.le_refl _⟩,⟨gK BK178⟩,⟨by repeat (first|exact gB HB|refine below_set ?_ GE178.out)⟩⟩
  case rest =>
   clear HC4
   try clear p2 c6 c6b0
   obtain ⟨kq,x21_3,rfl,HA,HJ3,BK178,HB⟩:=hcut
   cases kq with
   | zero=>exact absurd HA.out (by simp [spec_l1Read.j0])
   | succ kj3 =>
    have H:=HA.out
    clear HA
    simp only [spec_l1Read.j0] at H
    by_cases c7:x21_3=true
    ·subst c7
     have H1:(some (0,0,(⟨#[]⟩:ByteArray),([]:List (SDoc)),(-1)))=some (r1,r2,r3,r4,r5):=by rw [if_pos rfl] at H;exact H
     clear H
     have H:=H1
     clear H1
     simp only [Option.some.injEq,Prod.mk.injEq] at H
     obtain ⟨rfl,rfl,rfl,rfl,rfl⟩:=H
     have hcz8_0:wc.cell? ⟨gb178,0,none⟩=some (.int .i64 0):=(blk_cell BK178.out 0).trans rfl
     have hcz8_1:wc.cell? ⟨gb178,1,none⟩=some (.int .i64 0):=(blk_cell BK178.out 1).trans rfl
     have hcz8_2:wc.cell? ⟨gb178,2,none⟩=some (.string (⟨#[]⟩:ByteArray)):=(blk_cell BK178.out 2).trans rfl
     have hcz8_3:wc.cell? ⟨gb178,3,none⟩=some (.slice none 0 0):=(blk_cell BK178.out 3).trans rfl
     have hfz8_0:=blk_frozen BK178.out 0
     have hfz8_1:=blk_frozen BK178.out 1
     have hfz8_2:=blk_frozen BK178.out 2
     have hfz8_3:=blk_frozen BK178.out 3
     go_wp2
     refine bodyPost_ret (results_ct rfl _ _ gb178 39 #[.int .i64 0,.int .i64 0,.string (⟨#[]⟩:ByteArray),.slice none 0 0] (0,0) _ rfl (by (with_reducible repeat (first|refine blk_drewN ?_ _|refine blk_drew ?_|refine blk_alloc ?_ _));refine blk_put (cs:=#[.int .i64 0,.int .i64 0,.string (⟨#[]⟩:ByteArray),.slice none 0 0]) ?_ 3 _ rfl;(with_reducible repeat (first|refine blk_drewN ?_ _|refine blk_drew ?_|refine blk_alloc ?_ _));refine blk_put (cs:=#[.int .i64 0,.int .i64 0,.string (⟨#[]⟩:ByteArray),.slice none 0 0]) ?_ 2 _ rfl;(with_reducible repeat (first|refine blk_drewN ?_ _|refine blk_drew ?_|refine blk_alloc ?_ _));refine blk_put (cs:=#[.int .i64 0,.int .i64 0,.string (⟨#[]⟩:ByteArray),.slice none 0 0]) ?_ 1 _ rfl;(with_reducible repeat (first|refine blk_drewN ?_ _|refine blk_drew ?_|refine blk_alloc ?_ _));refine blk_put (cs:=#[.int .i64 0,.int .i64 0,.string (⟨#[]⟩:ByteArray),.slice none 0 0]) ?_ 0 _ rfl;(with_reducible repeat (first|refine blk_drewN ?_ _|refine blk_drew ?_|refine blk_alloc ?_ _));exact BK178.out) Try.underlying39 rfl (by kernel_rfl)) rfl ?_
     exact ⟨_,by first|rfl|(simp [errW_none,errW_some] <;> rfl)|(simp [*,errW_none,errW_some] <;> rfl),by first|exact Kd.R_nil _ _ _ _ _|exact Kd.N_nil _ _ _ _ _|exact Kd.V_nil _ _ _ _ _|exact Kd.Q_nil _ _ _ _ _|exact Kd.S_nil _ _ _ _ _,by repeat (first|exact gB HB|refine below_set ?_ GE178.out)⟩
    ·replace c7:=Bool.eq_false_iff.mpr c7
     subst c7
     have H1:(if 0≤a1 then (if a1 < (a0.size:Int) then (if (bt a0 a1)=126 then (some (1,0,(⟨#[]⟩:ByteArray),([]:List (SDoc)),wrap64 (a1+1))) else (if (bt a0 a1)=95 then (some (3,0,(⟨#[]⟩:ByteArray),([]:List (SDoc)),wrap64 (a1+1))) else (if (bt a0 a1)=46 then (some (4,0,(⟨#[]⟩:ByteArray),([]:List (SDoc)),wrap64 (a1+1))) else (if (bt a0 a1)=33 then (some (5,0,(⟨#[]⟩:ByteArray),([]:List (SDoc)),wrap64 (a1+1))) else (if (bt a0 a1)=34 then ((spec_l1Word.f kj3 a0 a1).bind fun bt179=>(some (bt179.1,bt179.2.1,bt179.2.2.1,bt179.2.2.2.1,bt179.2.2.2.2))) else (if (bt a0 a1)=40 then ((spec_l1Inner.f kj3 a0 (wrap64 (a1+1)) 2 41 a2).bind fun bt186=>(some (7,0,(⟨#[]⟩:ByteArray),bt186.1,bt186.2))) else (if (bt a0 a1)=91 then ((spec_l1Inner.f kj3 a0 (wrap64 (a1+1)) 1 93 a2).bind fun bt190=>(some (8,0,(⟨#[]⟩:ByteArray),bt190.1,bt190.2))) else (if (bt a0 a1) ≥ 48 then (if (bt a0 a1)≤57 then (if (wrap64 (a1+1)) < (a0.size:Int) then (if 0≤(wrap64 (a1+1)) then (spec_l1Read.j1 kj3 a0 a1 a2 ((bt a0 (wrap64 (a1+1))) == 60)) else (none)) else (spec_l1Read.j1 kj3 a0 a1 a2 false)) else (spec_l1Read.j1 kj3 a0 a1 a2 false)) else (spec_l1Read.j1 kj3 a0 a1 a2 false))))))))) else (none)) else (none))=some (r1,r2,r3,r4,r5):=by rw [if_neg (show ¬ (false=true) by decide)] at H;exact H
     clear H
     have H:=H1
     clear H1
     by_cases c9:0≤a1
     ·rw [if_pos c9] at H
      have c9b0:decide (0≤a1)=true:=decide_eq_true c9
      clear c9
      by_cases c10:a1 < (a0.size:Int)
      ·rw [if_pos c10] at H
       have c10b0:decide (a1 < (a0.size:Int))=true:=decide_eq_true c10
       clear c10
       by_cases c12:(bt a0 a1)=126
       ·rw [if_pos c12] at H
        have c12b0:((bt a0 a1) == 126)=true:=beq_iff_eq.mpr c12
        have c12b1:((bt a0 a1) != 126)=false:=bne_eq_false_iff_eq.mpr c12
        clear c12
        simp only [Option.some.injEq,Prod.mk.injEq] at H
        obtain ⟨rfl,rfl,rfl,rfl,rfl⟩:=H
        have p11:0≤(a1:Int):=of_decide_eq_true (by first|(with_reducible assumption)|assumption)
        have q11:a1 < (a0.size:Int):=of_decide_eq_true (by first|(with_reducible assumption)|assumption)
        have hx11:=bt_at a0 a1
        replace p11:=eq_true p11
        replace q11:=eq_true q11
        have hcz13_0:wc.cell? ⟨gb178,0,none⟩=some (.int .i64 0):=(blk_cell BK178.out 0).trans rfl
        have hcz13_1:wc.cell? ⟨gb178,1,none⟩=some (.int .i64 0):=(blk_cell BK178.out 1).trans rfl
        have hcz13_2:wc.cell? ⟨gb178,2,none⟩=some (.string (⟨#[]⟩:ByteArray)):=(blk_cell BK178.out 2).trans rfl
        have hcz13_3:wc.cell? ⟨gb178,3,none⟩=some (.slice none 0 0):=(blk_cell BK178.out 3).trans rfl
        have hfz13_0:=blk_frozen BK178.out 0
        have hfz13_1:=blk_frozen BK178.out 1
        have hfz13_2:=blk_frozen BK178.out 2
        have hfz13_3:=blk_frozen BK178.out 3
        go_wp2
        refine bodyPost_ret (results_ct rfl _ _ gb178 39 #[.int .i64 1,.int .i64 0,.string (⟨#[]⟩:ByteArray),.slice none 0 0] (0,0) _ rfl (by (with_reducible repeat (first|refine blk_drewN ?_ _|refine blk_drew ?_|refine blk_alloc ?_ _));refine blk_put (cs:=#[.int .i64 1,.int .i64 0,.string (⟨#[]⟩:ByteArray),.slice none 0 0]) ?_ 3 _ rfl;(with_reducible repeat (first|refine blk_drewN ?_ _|refine blk_drew ?_|refine blk_alloc ?_ _));refine blk_put (cs:=#[.int .i64 1,.int .i64 0,.string (⟨#[]⟩:ByteArray),.slice none 0 0]) ?_ 2 _ rfl;(with_reducible repeat (first|refine blk_drewN ?_ _|refine blk_drew ?_|refine blk_alloc ?_ _));refine blk_put (cs:=#[.int .i64 1,.int .i64 0,.string (⟨#[]⟩:ByteArray),.slice none 0 0]) ?_ 1 _ rfl;(with_reducible repeat (first|refine blk_drewN ?_ _|refine blk_drew ?_|refine blk_alloc ?_ _));refine blk_put (cs:=#[.int .i64 0,.int .i64 0,.string (⟨#[]⟩:ByteArray),.slice none 0 0]) ?_ 0 _ rfl;(with_reducible repeat (first|refine blk_drewN ?_ _|refine blk_drew ?_|refine blk_alloc ?_ _));exact BK178.out) Try.underlying39 rfl (by kernel_rfl)) rfl ?_
        exact ⟨_,by first|rfl|(simp [errW_none,errW_some] <;> rfl)|(simp [*,errW_none,errW_some] <;> rfl),by first|exact Kd.R_nil _ _ _ _ _|exact Kd.N_nil _ _ _ _ _|exact Kd.V_nil _ _ _ _ _|exact Kd.Q_nil _ _ _ _ _|exact Kd.S_nil _ _ _ _ _,by repeat (first|exact gB HB|refine below_set ?_ GE178.out)⟩
       ·rw [if_neg c12] at H
        have c12b0:((bt a0 a1) == 126)=false:=beq_eq_false_iff_ne.mpr c12
        have c12b1:((bt a0 a1) != 126)=true:=bne_iff_ne.mpr c12
        by_cases c14:(bt a0 a1)=95
        ·rw [if_pos c14] at H
         have c14b0:((bt a0 a1) == 95)=true:=beq_iff_eq.mpr c14
         have c14b1:((bt a0 a1) != 95)=false:=bne_eq_false_iff_eq.mpr c14
         clear c14
         simp only [Option.some.injEq,Prod.mk.injEq] at H
         obtain ⟨rfl,rfl,rfl,rfl,rfl⟩:=H
         have p11:0≤(a1:Int):=of_decide_eq_true (by first|(with_reducible assumption)|assumption)
         have q11:a1 < (a0.size:Int):=of_decide_eq_true (by first|(with_reducible assumption)|assumption)
         have hx11:=bt_at a0 a1
         replace p11:=eq_true p11
         replace q11:=eq_true q11
         have hcz15_0:wc.cell? ⟨gb178,0,none⟩=some (.int .i64 0):=(blk_cell BK178.out 0).trans rfl
         have hcz15_1:wc.cell? ⟨gb178,1,none⟩=some (.int .i64 0):=(blk_cell BK178.out 1).trans rfl
         have hcz15_2:wc.cell? ⟨gb178,2,none⟩=some (.string (⟨#[]⟩:ByteArray)):=(blk_cell BK178.out 2).trans rfl
         have hcz15_3:wc.cell? ⟨gb178,3,none⟩=some (.slice none 0 0):=(blk_cell BK178.out 3).trans rfl
         have hfz15_0:=blk_frozen BK178.out 0
         have hfz15_1:=blk_frozen BK178.out 1
         have hfz15_2:=blk_frozen BK178.out 2
         have hfz15_3:=blk_frozen BK178.out 3
         go_wp2
         refine bodyPost_ret (results_ct rfl _ _ gb178 39 #[.int .i64 3,.int .i64 0,.string (⟨#[]⟩:ByteArray),.slice none 0 0] (0,0) _ rfl (by (with_reducible repeat (first|refine blk_drewN ?_ _|refine blk_drew ?_|refine blk_alloc ?_ _));refine blk_put (cs:=#[.int .i64 3,.int .i64 0,.string (⟨#[]⟩:ByteArray),.slice none 0 0]) ?_ 3 _ rfl;(with_reducible repeat (first|refine blk_drewN ?_ _|refine blk_drew ?_|refine blk_alloc ?_ _));refine blk_put (cs:=#[.int .i64 3,.int .i64 0,.string (⟨#[]⟩:ByteArray),.slice none 0 0]) ?_ 2 _ rfl;(with_reducible repeat (first|refine blk_drewN ?_ _|refine blk_drew ?_|refine blk_alloc ?_ _));refine blk_put (cs:=#[.int .i64 3,.int .i64 0,.string (⟨#[]⟩:ByteArray),.slice none 0 0]) ?_ 1 _ rfl;(with_reducible repeat (first|refine blk_drewN ?_ _|refine blk_drew ?_|refine blk_alloc ?_ _));refine blk_put (cs:=#[.int .i64 0,.int .i64 0,.string (⟨#[]⟩:ByteArray),.slice none 0 0]) ?_ 0 _ rfl;(with_reducible repeat (first|refine blk_drewN ?_ _|refine blk_drew ?_|refine blk_alloc ?_ _));exact BK178.out) Try.underlying39 rfl (by kernel_rfl)) rfl ?_
         exact ⟨_,by first|rfl|(simp [errW_none,errW_some] <;> rfl)|(simp [*,errW_none,errW_some] <;> rfl),by first|exact Kd.R_nil _ _ _ _ _|exact Kd.N_nil _ _ _ _ _|exact Kd.V_nil _ _ _ _ _|exact Kd.Q_nil _ _ _ _ _|exact Kd.S_nil _ _ _ _ _,by repeat (first|exact gB HB|refine below_set ?_ GE178.out)⟩
        ·rw [if_neg c14] at H
         have c14b0:((bt a0 a1) == 95)=false:=beq_eq_false_iff_ne.mpr c14
         have c14b1:((bt a0 a1) != 95)=true:=bne_iff_ne.mpr c14
         by_cases c16:(bt a0 a1)=46
         ·rw [if_pos c16] at H
          have c16b0:((bt a0 a1) == 46)=true:=beq_iff_eq.mpr c16
          have c16b1:((bt a0 a1) != 46)=false:=bne_eq_false_iff_eq.mpr c16
          clear c16
          simp only [Option.some.injEq,Prod.mk.injEq] at H
          obtain ⟨rfl,rfl,rfl,rfl,rfl⟩:=H
          have p11:0≤(a1:Int):=of_decide_eq_true (by first|(with_reducible assumption)|assumption)
          have q11:a1 < (a0.size:Int):=of_decide_eq_true (by first|(with_reducible assumption)|assumption)
          have hx11:=bt_at a0 a1
          replace p11:=eq_true p11
          replace q11:=eq_true q11
          have hcz17_0:wc.cell? ⟨gb178,0,none⟩=some (.int .i64 0):=(blk_cell BK178.out 0).trans rfl
          have hcz17_1:wc.cell? ⟨gb178,1,none⟩=some (.int .i64 0):=(blk_cell BK178.out 1).trans rfl
          have hcz17_2:wc.cell? ⟨gb178,2,none⟩=some (.string (⟨#[]⟩:ByteArray)):=(blk_cell BK178.out 2).trans rfl
          have hcz17_3:wc.cell? ⟨gb178,3,none⟩=some (.slice none 0 0):=(blk_cell BK178.out 3).trans rfl
          have hfz17_0:=blk_frozen BK178.out 0
          have hfz17_1:=blk_frozen BK178.out 1
          have hfz17_2:=blk_frozen BK178.out 2
          have hfz17_3:=blk_frozen BK178.out 3
          go_wp2
          refine bodyPost_ret (results_ct rfl _ _ gb178 39 #[.int .i64 4,.int .i64 0,.string (⟨#[]⟩:ByteArray),.slice none 0 0] (0,0) _ rfl (by (with_reducible repeat (first|refine blk_drewN ?_ _|refine blk_drew ?_|refine blk_alloc ?_ _));refine blk_put (cs:=#[.int .i64 4,.int .i64 0,.string (⟨#[]⟩:ByteArray),.slice none 0 0]) ?_ 3 _ rfl;(with_reducible repeat (first|refine blk_drewN ?_ _|refine blk_drew ?_|refine blk_alloc ?_ _));refine blk_put (cs:=#[.int .i64 4,.int .i64 0,.string (⟨#[]⟩:ByteArray),.slice none 0 0]) ?_ 2 _ rfl;(with_reducible repeat (first|refine blk_drewN ?_ _|refine blk_drew ?_|refine blk_alloc ?_ _));refine blk_put (cs:=#[.int .i64 4,.int .i64 0,.string (⟨#[]⟩:ByteArray),.slice none 0 0]) ?_ 1 _ rfl;(with_reducible repeat (first|refine blk_drewN ?_ _|refine blk_drew ?_|refine blk_alloc ?_ _));refine blk_put (cs:=#[.int .i64 0,.int .i64 0,.string (⟨#[]⟩:ByteArray),.slice none 0 0]) ?_ 0 _ rfl;(with_reducible repeat (first|refine blk_drewN ?_ _|refine blk_drew ?_|refine blk_alloc ?_ _));exact BK178.out) Try.underlying39 rfl (by kernel_rfl)) rfl ?_
          exact ⟨_,by first|rfl|(simp [errW_none,errW_some] <;> rfl)|(simp [*,errW_none,errW_some] <;> rfl),by first|exact Kd.R_nil _ _ _ _ _|exact Kd.N_nil _ _ _ _ _|exact Kd.V_nil _ _ _ _ _|exact Kd.Q_nil _ _ _ _ _|exact Kd.S_nil _ _ _ _ _,by repeat (first|exact gB HB|refine below_set ?_ GE178.out)⟩
         ·rw [if_neg c16] at H
          have c16b0:((bt a0 a1) == 46)=false:=beq_eq_false_iff_ne.mpr c16
          have c16b1:((bt a0 a1) != 46)=true:=bne_iff_ne.mpr c16
          by_cases c18:(bt a0 a1)=33
          ·rw [if_pos c18] at H
           have c18b0:((bt a0 a1) == 33)=true:=beq_iff_eq.mpr c18
           have c18b1:((bt a0 a1) != 33)=false:=bne_eq_false_iff_eq.mpr c18
           clear c18
           simp only [Option.some.injEq,Prod.mk.injEq] at H
           obtain ⟨rfl,rfl,rfl,rfl,rfl⟩:=H
           have p11:0≤(a1:Int):=of_decide_eq_true (by first|(with_reducible assumption)|assumption)
           have q11:a1 < (a0.size:Int):=of_decide_eq_true (by first|(with_reducible assumption)|assumption)
           have hx11:=bt_at a0 a1
           replace p11:=eq_true p11
           replace q11:=eq_true q11
           have hcz19_0:wc.cell? ⟨gb178,0,none⟩=some (.int .i64 0):=(blk_cell BK178.out 0).trans rfl
           have hcz19_1:wc.cell? ⟨gb178,1,none⟩=some (.int .i64 0):=(blk_cell BK178.out 1).trans rfl
           have hcz19_2:wc.cell? ⟨gb178,2,none⟩=some (.string (⟨#[]⟩:ByteArray)):=(blk_cell BK178.out 2).trans rfl
           have hcz19_3:wc.cell? ⟨gb178,3,none⟩=some (.slice none 0 0):=(blk_cell BK178.out 3).trans rfl
           have hfz19_0:=blk_frozen BK178.out 0
           have hfz19_1:=blk_frozen BK178.out 1
           have hfz19_2:=blk_frozen BK178.out 2
           have hfz19_3:=blk_frozen BK178.out 3
           go_wp2
           refine bodyPost_ret (results_ct rfl _ _ gb178 39 #[.int .i64 5,.int .i64 0,.string (⟨#[]⟩:ByteArray),.slice none 0 0] (0,0) _ rfl (by (with_reducible repeat (first|refine blk_drewN ?_ _|refine blk_drew ?_|refine blk_alloc ?_ _));refine blk_put (cs:=#[.int .i64 5,.int .i64 0,.string (⟨#[]⟩:ByteArray),.slice none 0 0]) ?_ 3 _ rfl;(with_reducible repeat (first|refine blk_drewN ?_ _|refine blk_drew ?_|refine blk_alloc ?_ _));refine blk_put (cs:=#[.int .i64 5,.int .i64 0,.string (⟨#[]⟩:ByteArray),.slice none 0 0]) ?_ 2 _ rfl;(with_reducible repeat (first|refine blk_drewN ?_ _|refine blk_drew ?_|refine blk_alloc ?_ _));refine blk_put (cs:=#[.int .i64 5,.int .i64 0,.string (⟨#[]⟩:ByteArray),.slice none 0 0]) ?_ 1 _ rfl;(with_reducible repeat (first|refine blk_drewN ?_ _|refine blk_drew ?_|refine blk_alloc ?_ _));refine blk_put (cs:=#[.int .i64 0,.int .i64 0,.string (⟨#[]⟩:ByteArray),.slice none 0 0]) ?_ 0 _ rfl;(with_reducible repeat (first|refine blk_drewN ?_ _|refine blk_drew ?_|refine blk_alloc ?_ _));exact BK178.out) Try.underlying39 rfl (by kernel_rfl)) rfl ?_
           exact ⟨_,by first|rfl|(simp [errW_none,errW_some] <;> rfl)|(simp [*,errW_none,errW_some] <;> rfl),by first|exact Kd.R_nil _ _ _ _ _|exact Kd.N_nil _ _ _ _ _|exact Kd.V_nil _ _ _ _ _|exact Kd.Q_nil _ _ _ _ _|exact Kd.S_nil _ _ _ _ _,by repeat (first|exact gB HB|refine below_set ?_ GE178.out)⟩
          ·rw [if_neg c18] at H
           have c18b0:((bt a0 a1) == 33)=false:=beq_eq_false_iff_ne.mpr c18
           have c18b1:((bt a0 a1) != 33)=true:=bne_iff_ne.mpr c18
           by_cases c20:(bt a0 a1)=34
           ·rw [if_pos c20] at H
            have c20b0:((bt a0 a1) == 34)=true:=beq_iff_eq.mpr c20
            have c20b1:((bt a0 a1) != 34)=false:=bne_eq_false_iff_eq.mpr c20
            clear c20
            replace H:=Option.bind_eq_some_iff.mp H
            obtain ⟨⟨t179,t180,t181,t182,t185⟩,A210,H⟩:=H
            replace H:(some (t179,t180,t181,t182,t185))=some (r1,r2,r3,r4,r5):=H
            have A21:=Aside0.mk A210
            clear A210
            simp only [Option.some.injEq,Prod.mk.injEq] at H
            obtain ⟨rfl,rfl,rfl,rfl,rfl⟩:=H
            have p11:0≤(a1:Int):=of_decide_eq_true (by first|(with_reducible assumption)|assumption)
            have q11:a1 < (a0.size:Int):=of_decide_eq_true (by first|(with_reducible assumption)|assumption)
            have hx11:=bt_at a0 a1
            replace p11:=eq_true p11
            replace q11:=eq_true q11
            go_wp2_with (first|((with_reducible refine gate_callee (f:=100) rfl ?_);refine goesL_ (some 50) rfl rfl Try.func100 (by kernel_rfl) rfl #[.string a0,.int .i64 a1] rfl (by (try simp only [List.map_toArray,List.map_cons,List.map_nil]);first|done|rfl|(simp only [List.length_drop,List.length_take];rfl)) ?_;(with_reducible refine (spec_l1Word.calls kj3 a0 a1 t179 t180 t181 t182 t185 _ A21.out).mono ?_);rintro e w22 ⟨v183,rfl,ho0,hb⟩;refine ⟨_,rfl,?_⟩;have n0_:=Aside0.mk (Kd.R_lower (Kd.R_newB ho0 (g:=gb178) (o:=.cells #[.int .i64 0,.int .i64 0,.string (⟨#[]⟩:ByteArray),.slice none 0 0] 39 (0,0)) (gK BK178)) (below_size (by repeat (first|exact gB HB|refine below_set ?_ GE178.out))));have n1_:=Aside0.mk (blk_below (g:=gb178) (o:=.cells #[.int .i64 0,.int .i64 0,.string (⟨#[]⟩:ByteArray),.slice none 0 0] 39 (0,0)) (gK BK178) hb);have n2_:=Aside0.mk (below_step (by repeat (first|exact gB HB|refine below_set ?_ GE178.out)) hb);clear BK178;clear HB;have HO184:=n0_;have BK178:=n1_;have HB:=n2_;clear n0_ n1_ n2_;(try clear hb);(try clear hb2);(try clear hk);(try clear hi);(try clear ho0);have hcz23_0:w22.cell? ⟨gb178,0,none⟩=some (.int .i64 0):=(blk_cell BK178.out 0).trans rfl;have hcz23_1:w22.cell? ⟨gb178,1,none⟩=some (.int .i64 0):=(blk_cell BK178.out 1).trans rfl;have hcz23_2:w22.cell? ⟨gb178,2,none⟩=some (.string (⟨#[]⟩:ByteArray)):=(blk_cell BK178.out 2).trans rfl;have hcz23_3:w22.cell? ⟨gb178,3,none⟩=some (.slice none 0 0):=(blk_cell BK178.out 3).trans rfl;have hfz23_0:=blk_frozen BK178.out 0;have hfz23_1:=blk_frozen BK178.out 1;have hfz23_2:=blk_frozen BK178.out 2;have hfz23_3:=blk_frozen BK178.out 3;obtain ⟨Ao24,co24,eo24⟩:=Kd.R_slice HO184.out;subst eo24))
            refine bodyPost_ret (results_ct rfl _ _ gb178 39 #[.int .i64 t179,.int .i64 t180,.string t181,.slice Ao24 t182.length co24] (0,0) _ rfl (by (with_reducible repeat (first|refine blk_drewN ?_ _|refine blk_drew ?_|refine blk_alloc ?_ _));refine blk_put (cs:=#[.int .i64 t179,.int .i64 t180,.string t181,.slice none 0 0]) ?_ 3 _ rfl;(with_reducible repeat (first|refine blk_drewN ?_ _|refine blk_drew ?_|refine blk_alloc ?_ _));refine blk_put (cs:=#[.int .i64 t179,.int .i64 t180,.string (⟨#[]⟩:ByteArray),.slice none 0 0]) ?_ 2 _ rfl;(with_reducible repeat (first|refine blk_drewN ?_ _|refine blk_drew ?_|refine blk_alloc ?_ _));refine blk_put (cs:=#[.int .i64 t179,.int .i64 0,.string (⟨#[]⟩:ByteArray),.slice none 0 0]) ?_ 1 _ rfl;(with_reducible repeat (first|refine blk_drewN ?_ _|refine blk_drew ?_|refine blk_alloc ?_ _));refine blk_put (cs:=#[.int .i64 0,.int .i64 0,.string (⟨#[]⟩:ByteArray),.slice none 0 0]) ?_ 0 _ rfl;(with_reducible repeat (first|refine blk_drewN ?_ _|refine blk_drew ?_|refine blk_alloc ?_ _));exact BK178.out) Try.underlying39 rfl (by kernel_rfl)) rfl ?_
            exact ⟨_,by first|rfl|(simp [errW_none,errW_some] <;> rfl)|(simp [*,errW_none,errW_some] <;> rfl),by (with_reducible repeat (first|apply Kd.R_alloc|apply Kd.R_drewN|apply Kd.R_drew));exact Kd.R_mono (Kd.R_far (p:=⟨gb178,3,none⟩) (Kd.R_far (p:=⟨gb178,2,none⟩) (Kd.R_far (p:=⟨gb178,1,none⟩) (Kd.R_far (p:=⟨gb178,0,none⟩) (Kd.R_mono HO184.out (fun k_ hk=>(⟨hk,hk.2⟩:_∧k_ ≠ gb178))) (fun _ hk=>hk.2) (.int .i64 t179)) (fun _ hk=>hk.2) (.int .i64 t180)) (fun _ hk=>hk.2) (.string t181)) (fun _ hk=>hk.2) (.slice Ao24 t182.length co24)) (fun _ hk=>trivial),by repeat (first|exact gB HB|refine below_set ?_ GE178.out)⟩
           ·rw [if_neg c20] at H
            have c20b0:((bt a0 a1) == 34)=false:=beq_eq_false_iff_ne.mpr c20
            have c20b1:((bt a0 a1) != 34)=true:=bne_iff_ne.mpr c20
            by_cases c25:(bt a0 a1)=40
            ·rw [if_pos c25] at H
             have c25b0:((bt a0 a1) == 40)=true:=beq_iff_eq.mpr c25
             have c25b1:((bt a0 a1) != 40)=false:=bne_eq_false_iff_eq.mpr c25
             clear c25
             replace H:=Option.bind_eq_some_iff.mp H
             obtain ⟨⟨t186,t187⟩,A260,H⟩:=H
             replace H:(some (7,0,(⟨#[]⟩:ByteArray),t186,t187))=some (r1,r2,r3,r4,r5):=H
             have A26:=Aside0.mk A260
             clear A260
             simp only [Option.some.injEq,Prod.mk.injEq] at H
             obtain ⟨rfl,rfl,rfl,rfl,rfl⟩:=H
             have p11:0≤(a1:Int):=of_decide_eq_true (by first|(with_reducible assumption)|assumption)
             have q11:a1 < (a0.size:Int):=of_decide_eq_true (by first|(with_reducible assumption)|assumption)
             have hx11:=bt_at a0 a1
             replace p11:=eq_true p11
             replace q11:=eq_true q11
             go_wp2_with (first|((with_reducible refine gate_callee (f:=101) rfl ?_);refine goesL_ (some 60) rfl rfl Try.func101 (by kernel_rfl) rfl #[.string a0,.int .i64 (wrap64 (a1+1)),.int .i64 2,.int .u8 41,.int .i64 a2] rfl (by (try simp only [List.map_toArray,List.map_cons,List.map_nil]);first|done|rfl|(simp only [List.length_drop,List.length_take];rfl)) ?_;(with_reducible refine (ih_spec_l1Inner kj3 (by have:=HJ3.out;omega) a0 (wrap64 (a1+1)) 2 41 a2 t186 t187 _ A26.out).mono ?_);rintro e w27 ⟨v188,rfl,ho0,hb⟩;refine ⟨_,rfl,?_⟩;have n0_:=Aside0.mk (Kd.R_lower (Kd.R_newB ho0 (g:=gb178) (o:=.cells #[.int .i64 0,.int .i64 0,.string (⟨#[]⟩:ByteArray),.slice none 0 0] 39 (0,0)) (gK BK178)) (below_size (by repeat (first|exact gB HB|refine below_set ?_ GE178.out))));have n1_:=Aside0.mk (blk_below (g:=gb178) (o:=.cells #[.int .i64 0,.int .i64 0,.string (⟨#[]⟩:ByteArray),.slice none 0 0] 39 (0,0)) (gK BK178) hb);have n2_:=Aside0.mk (below_step (by repeat (first|exact gB HB|refine below_set ?_ GE178.out)) hb);clear BK178;clear HB;have HO189:=n0_;have BK178:=n1_;have HB:=n2_;clear n0_ n1_ n2_;(try clear hb);(try clear hb2);(try clear hk);(try clear hi);(try clear ho0);obtain ⟨Ao28,co28,eo28⟩:=Kd.R_slice HO189.out;subst eo28;have hcz29_0:w27.cell? ⟨gb178,0,none⟩=some (.int .i64 0):=(blk_cell BK178.out 0).trans rfl;have hcz29_1:w27.cell? ⟨gb178,1,none⟩=some (.int .i64 0):=(blk_cell BK178.out 1).trans rfl;have hcz29_2:w27.cell? ⟨gb178,2,none⟩=some (.string (⟨#[]⟩:ByteArray)):=(blk_cell BK178.out 2).trans rfl;have hcz29_3:w27.cell? ⟨gb178,3,none⟩=some (.slice none 0 0):=(blk_cell BK178.out 3).trans rfl;have hfz29_0:=blk_frozen BK178.out 0;have hfz29_1:=blk_frozen BK178.out 1;have hfz29_2:=blk_frozen BK178.out 2;have hfz29_3:=blk_frozen BK178.out 3))
             refine bodyPost_ret (results_ct rfl _ _ gb178 39 #[.int .i64 7,.int .i64 0,.string (⟨#[]⟩:ByteArray),.slice Ao28 t186.length co28] (0,0) _ rfl (by (with_reducible repeat (first|refine blk_drewN ?_ _|refine blk_drew ?_|refine blk_alloc ?_ _));refine blk_put (cs:=#[.int .i64 7,.int .i64 0,.string (⟨#[]⟩:ByteArray),.slice none 0 0]) ?_ 3 _ rfl;(with_reducible repeat (first|refine blk_drewN ?_ _|refine blk_drew ?_|refine blk_alloc ?_ _));refine blk_put (cs:=#[.int .i64 7,.int .i64 0,.string (⟨#[]⟩:ByteArray),.slice none 0 0]) ?_ 2 _ rfl;(with_reducible repeat (first|refine blk_drewN ?_ _|refine blk_drew ?_|refine blk_alloc ?_ _));refine blk_put (cs:=#[.int .i64 7,.int .i64 0,.string (⟨#[]⟩:ByteArray),.slice none 0 0]) ?_ 1 _ rfl;(with_reducible repeat (first|refine blk_drewN ?_ _|refine blk_drew ?_|refine blk_alloc ?_ _));refine blk_put (cs:=#[.int .i64 0,.int .i64 0,.string (⟨#[]⟩:ByteArray),.slice none 0 0]) ?_ 0 _ rfl;(with_reducible repeat (first|refine blk_drewN ?_ _|refine blk_drew ?_|refine blk_alloc ?_ _));exact BK178.out) Try.underlying39 rfl (by kernel_rfl)) rfl ?_
             exact ⟨_,by first|rfl|(simp [errW_none,errW_some] <;> rfl)|(simp [*,errW_none,errW_some] <;> rfl),by (with_reducible repeat (first|apply Kd.R_alloc|apply Kd.R_drewN|apply Kd.R_drew));exact Kd.R_mono (Kd.R_far (p:=⟨gb178,3,none⟩) (Kd.R_far (p:=⟨gb178,2,none⟩) (Kd.R_far (p:=⟨gb178,1,none⟩) (Kd.R_far (p:=⟨gb178,0,none⟩) (Kd.R_mono HO189.out (fun k_ hk=>(⟨hk,hk.2⟩:_∧k_ ≠ gb178))) (fun _ hk=>hk.2) (.int .i64 7)) (fun _ hk=>hk.2) (.int .i64 0)) (fun _ hk=>hk.2) (.string (⟨#[]⟩:ByteArray))) (fun _ hk=>hk.2) (.slice Ao28 t186.length co28)) (fun _ hk=>trivial),by repeat (first|exact gB HB|refine below_set ?_ GE178.out)⟩
            ·rw [if_neg c25] at H
             have c25b0:((bt a0 a1) == 40)=false:=beq_eq_false_iff_ne.mpr c25
             have c25b1:((bt a0 a1) != 40)=true:=bne_iff_ne.mpr c25
             by_cases c30:(bt a0 a1)=91
             ·rw [if_pos c30] at H
              have c30b0:((bt a0 a1) == 91)=true:=beq_iff_eq.mpr c30
              have c30b1:((bt a0 a1) != 91)=false:=bne_eq_false_iff_eq.mpr c30
              clear c30
              replace H:=Option.bind_eq_some_iff.mp H
              obtain ⟨⟨t190,t191⟩,A310,H⟩:=H
              replace H:(some (8,0,(⟨#[]⟩:ByteArray),t190,t191))=some (r1,r2,r3,r4,r5):=H
              have A31:=Aside0.mk A310
              clear A310
              simp only [Option.some.injEq,Prod.mk.injEq] at H
              obtain ⟨rfl,rfl,rfl,rfl,rfl⟩:=H
              have p11:0≤(a1:Int):=of_decide_eq_true (by first|(with_reducible assumption)|assumption)
              have q11:a1 < (a0.size:Int):=of_decide_eq_true (by first|(with_reducible assumption)|assumption)
              have hx11:=bt_at a0 a1
              replace p11:=eq_true p11
              replace q11:=eq_true q11
              go_wp2_with (first|((with_reducible refine gate_callee (f:=101) rfl ?_);refine goesL_ (some 73) rfl rfl Try.func101 (by kernel_rfl) rfl #[.string a0,.int .i64 (wrap64 (a1+1)),.int .i64 1,.int .u8 93,.int .i64 a2] rfl (by (try simp only [List.map_toArray,List.map_cons,List.map_nil]);first|done|rfl|(simp only [List.length_drop,List.length_take];rfl)) ?_;(with_reducible refine (ih_spec_l1Inner kj3 (by have:=HJ3.out;omega) a0 (wrap64 (a1+1)) 1 93 a2 t190 t191 _ A31.out).mono ?_);rintro e w32 ⟨v192,rfl,ho0,hb⟩;refine ⟨_,rfl,?_⟩;have n0_:=Aside0.mk (Kd.R_lower (Kd.R_newB ho0 (g:=gb178) (o:=.cells #[.int .i64 0,.int .i64 0,.string (⟨#[]⟩:ByteArray),.slice none 0 0] 39 (0,0)) (gK BK178)) (below_size (by repeat (first|exact gB HB|refine below_set ?_ GE178.out))));have n1_:=Aside0.mk (blk_below (g:=gb178) (o:=.cells #[.int .i64 0,.int .i64 0,.string (⟨#[]⟩:ByteArray),.slice none 0 0] 39 (0,0)) (gK BK178) hb);have n2_:=Aside0.mk (below_step (by repeat (first|exact gB HB|refine below_set ?_ GE178.out)) hb);clear BK178;clear HB;have HO193:=n0_;have BK178:=n1_;have HB:=n2_;clear n0_ n1_ n2_;(try clear hb);(try clear hb2);(try clear hk);(try clear hi);(try clear ho0);obtain ⟨Ao33,co33,eo33⟩:=Kd.R_slice HO193.out;subst eo33;have hcz34_0:w32.cell? ⟨gb178,0,none⟩=some (.int .i64 0):=(blk_cell BK178.out 0).trans rfl;have hcz34_1:w32.cell? ⟨gb178,1,none⟩=some (.int .i64 0):=(blk_cell BK178.out 1).trans rfl;have hcz34_2:w32.cell? ⟨gb178,2,none⟩=some (.string (⟨#[]⟩:ByteArray)):=(blk_cell BK178.out 2).trans rfl;have hcz34_3:w32.cell? ⟨gb178,3,none⟩=some (.slice none 0 0):=(blk_cell BK178.out 3).trans rfl;have hfz34_0:=blk_frozen BK178.out 0;have hfz34_1:=blk_frozen BK178.out 1;have hfz34_2:=blk_frozen BK178.out 2;have hfz34_3:=blk_frozen BK178.out 3))
              refine bodyPost_ret (results_ct rfl _ _ gb178 39 #[.int .i64 8,.int .i64 0,.string (⟨#[]⟩:ByteArray),.slice Ao33 t190.length co33] (0,0) _ rfl (by (with_reducible repeat (first|refine blk_drewN ?_ _|refine blk_drew ?_|refine blk_alloc ?_ _));refine blk_put (cs:=#[.int .i64 8,.int .i64 0,.string (⟨#[]⟩:ByteArray),.slice none 0 0]) ?_ 3 _ rfl;(with_reducible repeat (first|refine blk_drewN ?_ _|refine blk_drew ?_|refine blk_alloc ?_ _));refine blk_put (cs:=#[.int .i64 8,.int .i64 0,.string (⟨#[]⟩:ByteArray),.slice none 0 0]) ?_ 2 _ rfl;(with_reducible repeat (first|refine blk_drewN ?_ _|refine blk_drew ?_|refine blk_alloc ?_ _));refine blk_put (cs:=#[.int .i64 8,.int .i64 0,.string (⟨#[]⟩:ByteArray),.slice none 0 0]) ?_ 1 _ rfl;(with_reducible repeat (first|refine blk_drewN ?_ _|refine blk_drew ?_|refine blk_alloc ?_ _));refine blk_put (cs:=#[.int .i64 0,.int .i64 0,.string (⟨#[]⟩:ByteArray),.slice none 0 0]) ?_ 0 _ rfl;(with_reducible repeat (first|refine blk_drewN ?_ _|refine blk_drew ?_|refine blk_alloc ?_ _));exact BK178.out) Try.underlying39 rfl (by kernel_rfl)) rfl ?_
              exact ⟨_,by first|rfl|(simp [errW_none,errW_some] <;> rfl)|(simp [*,errW_none,errW_some] <;> rfl),by (with_reducible repeat (first|apply Kd.R_alloc|apply Kd.R_drewN|apply Kd.R_drew));exact Kd.R_mono (Kd.R_far (p:=⟨gb178,3,none⟩) (Kd.R_far (p:=⟨gb178,2,none⟩) (Kd.R_far (p:=⟨gb178,1,none⟩) (Kd.R_far (p:=⟨gb178,0,none⟩) (Kd.R_mono HO193.out (fun k_ hk=>(⟨hk,hk.2⟩:_∧k_ ≠ gb178))) (fun _ hk=>hk.2) (.int .i64 8)) (fun _ hk=>hk.2) (.int .i64 0)) (fun _ hk=>hk.2) (.string (⟨#[]⟩:ByteArray))) (fun _ hk=>hk.2) (.slice Ao33 t190.length co33)) (fun _ hk=>trivial),by repeat (first|exact gB HB|refine below_set ?_ GE178.out)⟩
             ·rw [if_neg c30] at H
              have c30b0:((bt a0 a1) == 91)=false:=beq_eq_false_iff_ne.mpr c30
              have c30b1:((bt a0 a1) != 91)=true:=bne_iff_ne.mpr c30
              have HC35:=Aside0.mk H
              clear H
              have p11:0≤(a1:Int):=of_decide_eq_true (by first|(with_reducible assumption)|assumption)
              have q11:a1 < (a0.size:Int):=of_decide_eq_true (by first|(with_reducible assumption)|assumption)
              have hx11:=bt_at a0 a1
              replace p11:=eq_true p11
              replace q11:=eq_true q11
              go_upto_region 20 with (fail)
              go_cut [102] (fun v102 wc=>∃ (kq:Nat) (x102_34:Bool),v102=.bool x102_34∧Aside0 (spec_l1Read.j1 kq a0 a1 a2 x102_34=some (r1,r2,r3,r4,r5))∧Aside0 (kq≤kj3)∧Aside0 (wc.heap[gb178]?=some (.cells #[.int .i64 0,.int .i64 0,.string (⟨#[]⟩:ByteArray),(.slice none 0 0)] 39 (0,0)))∧Aside0 (Below w.heap.size w wc))
              case first =>
               have H:=HC35.out
               clear HC35
               by_cases c37:(bt a0 a1) ≥ 48
               ·rw [if_pos c37] at H
                have c37b0:decide (48≤(bt a0 a1))=true:=decide_eq_true c37
                clear c37
                (first|rw [c37b0]|(simp only [i64_w,i32_w];rw [c37b0])|skip)
                by_cases c39:(bt a0 a1)≤57
                ·rw [if_pos c39] at H
                 have c39b0:decide ((bt a0 a1)≤57)=true:=decide_eq_true c39
                 clear c39
                 by_cases c40:(wrap64 (a1+1)) < (a0.size:Int)
                 ·rw [if_pos c40] at H
                  have c40b0:decide ((wrap64 (a1+1)) < (a0.size:Int))=true:=decide_eq_true c40
                  clear c40
                  obtain ⟨ji41,hji41⟩:∃ j_:Int,(wrap64 (a1+1))=j_:=⟨_,rfl⟩
                  replace H:(if 0≤(ji41) then (spec_l1Read.j1 kj3 a0 a1 a2 ((bt a0 (ji41)) == 60)) else (none))=some (r1,r2,r3,r4,r5):=by first|(rw [hji41] at H;exact H)|(simp only [hji41] at H ⊢;exact H)
                  (try rw [hji41] at c40b0)
                  have hji41w:(IntKind.i64.wrap (a1+1))=ji41:=(i64_w _).trans hji41
                  by_cases c42:0≤(ji41)
                  ·rw [if_pos c42] at H
                   have c42b0:decide (0≤(ji41))=true:=decide_eq_true c42
                   clear c42
                   have H':=Aside0.mk H
                   clear H
                   have p36:0≤(a1:Int):=of_decide_eq_true (by first|(with_reducible assumption)|assumption)
                   have q36:a1 < (a0.size:Int):=of_decide_eq_true (by first|(with_reducible assumption)|assumption)
                   have hx36:=bt_at a0 a1
                   replace p36:=eq_true p36
                   replace q36:=eq_true q36
                   have p38:0≤(a1:Int):=of_decide_eq_true (by first|(with_reducible assumption)|assumption)
                   have q38:a1 < (a0.size:Int):=of_decide_eq_true (by first|(with_reducible assumption)|assumption)
                   have hx38:=bt_at a0 a1
                   replace p38:=eq_true p38
                   replace q38:=eq_true q38
                   have p43:0≤((ji41):Int):=of_decide_eq_true (by first|(with_reducible assumption)|assumption)
                   have q43:(ji41) < (a0.size:Int):=of_decide_eq_true (by first|(with_reducible assumption)|assumption)
                   have hx43:=bt_at a0 (ji41)
                   replace p43:=eq_true p43
                   replace q43:=eq_true q43
                   go_wp2
                   go_meet
                   case rel=>exact ⟨_,(((bt a0 (ji41)) == 60)),(by first|rfl|(simp;done)|(simp only [← hji41] <;> (first|rfl|simp))|(simp [*];done)),H',⟨by have:=HJ3.out;first|omega|exact Nat.le_refl _⟩,⟨gK BK178⟩,⟨by repeat (first|exact gB HB|refine below_set ?_ GE178.out)⟩⟩
                  ·rw [if_neg c42] at H
                   exact absurd H (by simp)
                 ·rw [if_neg c40] at H
                  have c40b0:decide ((wrap64 (a1+1)) < (a0.size:Int))=false:=decide_eq_false c40
                  clear c40
                  have H':=Aside0.mk H
                  clear H
                  have p36:0≤(a1:Int):=of_decide_eq_true (by first|(with_reducible assumption)|assumption)
                  have q36:a1 < (a0.size:Int):=of_decide_eq_true (by first|(with_reducible assumption)|assumption)
                  have hx36:=bt_at a0 a1
                  replace p36:=eq_true p36
                  replace q36:=eq_true q36
                  have p38:0≤(a1:Int):=of_decide_eq_true (by first|(with_reducible assumption)|assumption)
                  have q38:a1 < (a0.size:Int):=of_decide_eq_true (by first|(with_reducible assumption)|assumption)
                  have hx38:=bt_at a0 a1
                  replace p38:=eq_true p38
                  replace q38:=eq_true q38
                  go_wp2
                  go_meet
                  case rel=>exact ⟨_,(false),(by first|rfl|(simp;done)|(simp [*];done)),H',⟨by have:=HJ3.out;first|omega|exact Nat.le_refl _⟩,⟨gK BK178⟩,⟨by repeat (first|exact gB HB|refine below_set ?_ GE178.out)⟩⟩
                ·rw [if_neg c39] at H
                 have c39b0:decide ((bt a0 a1)≤57)=false:=decide_eq_false c39
                 clear c39
                 have H':=Aside0.mk H
                 clear H
                 have p36:0≤(a1:Int):=of_decide_eq_true (by first|(with_reducible assumption)|assumption)
                 have q36:a1 < (a0.size:Int):=of_decide_eq_true (by first|(with_reducible assumption)|assumption)
                 have hx36:=bt_at a0 a1
                 replace p36:=eq_true p36
                 replace q36:=eq_true q36
                 have p38:0≤(a1:Int):=of_decide_eq_true (by first|(with_reducible assumption)|assumption)
                 have q38:a1 < (a0.size:Int):=of_decide_eq_true (by first|(with_reducible assumption)|assumption)
                 have hx38:=bt_at a0 a1
                 replace p38:=eq_true p38
                 replace q38:=eq_true q38
                 go_wp2
                 go_meet
                 case rel=>exact ⟨_,(false),(by first|rfl|(simp;done)|(simp [*];done)),H',⟨by have:=HJ3.out;first|omega|exact Nat.le_refl _⟩,⟨gK BK178⟩,⟨by repeat (first|exact gB HB|refine below_set ?_ GE178.out)⟩⟩
               ·rw [if_neg c37] at H
                have c37b0:decide (48≤(bt a0 a1))=false:=decide_eq_false c37
                clear c37
                (first|rw [c37b0]|(simp only [i64_w,i32_w];rw [c37b0])|skip)
                have H':=Aside0.mk H
                clear H
                have p36:0≤(a1:Int):=of_decide_eq_true (by first|(with_reducible assumption)|assumption)
                have q36:a1 < (a0.size:Int):=of_decide_eq_true (by first|(with_reducible assumption)|assumption)
                have hx36:=bt_at a0 a1
                replace p36:=eq_true p36
                replace q36:=eq_true q36
                go_wp2
                go_meet
                case rel=>exact ⟨_,(false),(by first|rfl|(simp;done)|(simp [*];done)),H',⟨by have:=HJ3.out;first|omega|exact Nat.le_refl _⟩,⟨gK BK178⟩,⟨by repeat (first|exact gB HB|refine below_set ?_ GE178.out)⟩⟩
              case rest =>
               clear HC35
               try clear c1 p1 q1 hx1 c2 p2 c3 p3 q3 hx3 c4 p4 q4 hx4 c6 c6b0 p6 c7 c9 c9b0 c10 c10b0 p11 q11 hx11 c12 c12b0 c12b1 c14 c14b0 c14b1 c16 c16b0 c16b1 c18 c18b0 c18b1 c20 c20b0 c20b1 c25 c25b0 c25b1 c30 c30b0 c30b1 p36 q36 hx36 c37 c37b0 p38 q38 hx38 c39 c39b0 c40 c40b0 c42 c42b0 p43 q43 hx43 hcz13_0 hcz13_1 hcz13_2 hcz13_3 hcz15_0 hcz15_1 hcz15_2 hcz15_3 hcz17_0 hcz17_1 hcz17_2 hcz17_3 hcz19_0 hcz19_1 hcz19_2 hcz19_3 hcz23_0 hcz23_1 hcz23_2 hcz23_3 hcz29_0 hcz29_1 hcz29_2 hcz29_3 hcz34_0 hcz34_1 hcz34_2 hcz34_3 hcz8_0 hcz8_1 hcz8_2 hcz8_3 hfz13_0 hfz13_1 hfz13_2 hfz13_3 hfz15_0 hfz15_1 hfz15_2 hfz15_3 hfz17_0 hfz17_1 hfz17_2 hfz17_3 hfz19_0 hfz19_1 hfz19_2 hfz19_3 hfz23_0 hfz23_1 hfz23_2 hfz23_3 hfz29_0 hfz29_1 hfz29_2 hfz29_3 hfz34_0 hfz34_1 hfz34_2 hfz34_3 hfz8_0 hfz8_1 hfz8_2 hfz8_3 p11 p2 p36 p38 p43 q11 q36 q38 q43
               obtain ⟨kq,x102_34,rfl,HA,HJ34,BK178,HB⟩:=hcut
               cases kq with
               | zero=>exact absurd HA.out (by simp [spec_l1Read.j1])
               | succ kj34 =>
                have H:=HA.out
                clear HA
                simp only [spec_l1Read.j1] at H
                by_cases c44:x102_34=true
                ·subst c44
                 have H1:((spec_l1Inner.f kj34 a0 (wrap64 (a1+2)) 1 62 a2).bind fun bt194=>(if 0≤a1 then (if a1 < (a0.size:Int) then (some (6,((bt a0 a1) - 48) % 256,(⟨#[]⟩:ByteArray),bt194.1,bt194.2)) else (none)) else (none)))=some (r1,r2,r3,r4,r5):=by rw [if_pos rfl] at H;exact H
                 clear H
                 have H:=H1
                 clear H1
                 replace H:=Option.bind_eq_some_iff.mp H
                 obtain ⟨⟨t194,t195⟩,A450,H⟩:=H
                 replace H:(if 0≤a1 then (if a1 < (a0.size:Int) then (some (6,((bt a0 a1) - 48) % 256,(⟨#[]⟩:ByteArray),t194,t195)) else (none)) else (none))=some (r1,r2,r3,r4,r5):=H
                 have A45:=Aside0.mk A450
                 clear A450
                 by_cases c46:0≤a1
                 ·rw [if_pos c46] at H
                  have c46b0:decide (0≤a1)=true:=decide_eq_true c46
                  clear c46
                  by_cases c47:a1 < (a0.size:Int)
                  ·rw [if_pos c47] at H
                   have c47b0:decide (a1 < (a0.size:Int))=true:=decide_eq_true c47
                   clear c47
                   simp only [Option.some.injEq,Prod.mk.injEq] at H
                   obtain ⟨rfl,rfl,rfl,rfl,rfl⟩:=H
                   go_wp2_with (first|((with_reducible refine gate_callee (f:=101) rfl ?_);refine goesL_ (some 108) rfl rfl Try.func101 (by kernel_rfl) rfl #[.string a0,.int .i64 (wrap64 (a1+2)),.int .i64 1,.int .u8 62,.int .i64 a2] rfl (by (try simp only [List.map_toArray,List.map_cons,List.map_nil]);first|done|rfl|(simp only [List.length_drop,List.length_take];rfl)) ?_;(with_reducible refine (ih_spec_l1Inner kj34 (by have:=HJ3.out;have:=HJ34.out;omega) a0 (wrap64 (a1+2)) 1 62 a2 t194 t195 _ A45.out).mono ?_);rintro e w49 ⟨v196,rfl,ho0,hb⟩;refine ⟨_,rfl,?_⟩;have n0_:=Aside0.mk (Kd.R_lower (Kd.R_newB ho0 (g:=gb178) (o:=.cells #[.int .i64 0,.int .i64 0,.string (⟨#[]⟩:ByteArray),.slice none 0 0] 39 (0,0)) (gK BK178)) (below_size (by repeat (first|exact gB HB|refine below_set ?_ GE178.out))));have n1_:=Aside0.mk (blk_below (g:=gb178) (o:=.cells #[.int .i64 0,.int .i64 0,.string (⟨#[]⟩:ByteArray),.slice none 0 0] 39 (0,0)) (gK BK178) hb);have n2_:=Aside0.mk (below_step (by repeat (first|exact gB HB|refine below_set ?_ GE178.out)) hb);clear BK178;clear HB;have HO197:=n0_;have BK178:=n1_;have HB:=n2_;clear n0_ n1_ n2_;(try clear hb);(try clear hb2);(try clear hk);(try clear hi);(try clear ho0);have p48:0≤(a1:Int):=of_decide_eq_true (by first|(with_reducible assumption)|assumption);have q48:a1 < (a0.size:Int):=of_decide_eq_true (by first|(with_reducible assumption)|assumption);have hx48:=bt_at a0 a1;replace p48:=eq_true p48;replace q48:=eq_true q48;obtain ⟨Ao50,co50,eo50⟩:=Kd.R_slice HO197.out;subst eo50;have hcz51_0:w49.cell? ⟨gb178,0,none⟩=some (.int .i64 0):=(blk_cell BK178.out 0).trans rfl;have hcz51_1:w49.cell? ⟨gb178,1,none⟩=some (.int .i64 0):=(blk_cell BK178.out 1).trans rfl;have hcz51_2:w49.cell? ⟨gb178,2,none⟩=some (.string (⟨#[]⟩:ByteArray)):=(blk_cell BK178.out 2).trans rfl;have hcz51_3:w49.cell? ⟨gb178,3,none⟩=some (.slice none 0 0):=(blk_cell BK178.out 3).trans rfl;have hfz51_0:=blk_frozen BK178.out 0;have hfz51_1:=blk_frozen BK178.out 1;have hfz51_2:=blk_frozen BK178.out 2;have hfz51_3:=blk_frozen BK178.out 3))
                   refine bodyPost_ret (results_ct rfl _ _ gb178 39 #[.int .i64 6,.int .i64 (((bt a0 a1) - 48) % 256),.string (⟨#[]⟩:ByteArray),.slice Ao50 t194.length co50] (0,0) _ rfl (by (with_reducible repeat (first|refine blk_drewN ?_ _|refine blk_drew ?_|refine blk_alloc ?_ _));refine blk_put (cs:=#[.int .i64 6,.int .i64 (((bt a0 a1) - 48) % 256),.string (⟨#[]⟩:ByteArray),.slice none 0 0]) ?_ 3 _ rfl;(with_reducible repeat (first|refine blk_drewN ?_ _|refine blk_drew ?_|refine blk_alloc ?_ _));refine blk_put (cs:=#[.int .i64 6,.int .i64 (((bt a0 a1) - 48) % 256),.string (⟨#[]⟩:ByteArray),.slice none 0 0]) ?_ 2 _ rfl;(with_reducible repeat (first|refine blk_drewN ?_ _|refine blk_drew ?_|refine blk_alloc ?_ _));refine blk_put (cs:=#[.int .i64 6,.int .i64 0,.string (⟨#[]⟩:ByteArray),.slice none 0 0]) ?_ 1 _ rfl;(with_reducible repeat (first|refine blk_drewN ?_ _|refine blk_drew ?_|refine blk_alloc ?_ _));refine blk_put (cs:=#[.int .i64 0,.int .i64 0,.string (⟨#[]⟩:ByteArray),.slice none 0 0]) ?_ 0 _ rfl;(with_reducible repeat (first|refine blk_drewN ?_ _|refine blk_drew ?_|refine blk_alloc ?_ _));exact BK178.out) Try.underlying39 rfl (by kernel_rfl)) rfl ?_
                   exact ⟨_,by first|rfl|(simp [errW_none,errW_some] <;> rfl)|(simp [*,errW_none,errW_some] <;> rfl),by (with_reducible repeat (first|apply Kd.R_alloc|apply Kd.R_drewN|apply Kd.R_drew));exact Kd.R_mono (Kd.R_far (p:=⟨gb178,3,none⟩) (Kd.R_far (p:=⟨gb178,2,none⟩) (Kd.R_far (p:=⟨gb178,1,none⟩) (Kd.R_far (p:=⟨gb178,0,none⟩) (Kd.R_mono HO197.out (fun k_ hk=>(⟨hk,hk.2⟩:_∧k_ ≠ gb178))) (fun _ hk=>hk.2) (.int .i64 6)) (fun _ hk=>hk.2) (.int .i64 (((bt a0 a1) - 48) % 256))) (fun _ hk=>hk.2) (.string (⟨#[]⟩:ByteArray))) (fun _ hk=>hk.2) (.slice Ao50 t194.length co50)) (fun _ hk=>trivial),by repeat (first|exact gB HB|refine below_set ?_ GE178.out)⟩
                  ·rw [if_neg c47] at H
                   exact absurd H (by simp)
                 ·rw [if_neg c46] at H
                  exact absurd H (by simp)
                ·replace c44:=Bool.eq_false_iff.mpr c44
                 subst c44
                 have H1:(some (0,0,(⟨#[]⟩:ByteArray),([]:List (SDoc)),(-1)))=some (r1,r2,r3,r4,r5):=by rw [if_neg (show ¬ (false=true) by decide)] at H;exact H
                 clear H
                 have H:=H1
                 clear H1
                 simp only [Option.some.injEq,Prod.mk.injEq] at H
                 obtain ⟨rfl,rfl,rfl,rfl,rfl⟩:=H
                 have hcz52_0:wc.cell? ⟨gb178,0,none⟩=some (.int .i64 0):=(blk_cell BK178.out 0).trans rfl
                 have hcz52_1:wc.cell? ⟨gb178,1,none⟩=some (.int .i64 0):=(blk_cell BK178.out 1).trans rfl
                 have hcz52_2:wc.cell? ⟨gb178,2,none⟩=some (.string (⟨#[]⟩:ByteArray)):=(blk_cell BK178.out 2).trans rfl
                 have hcz52_3:wc.cell? ⟨gb178,3,none⟩=some (.slice none 0 0):=(blk_cell BK178.out 3).trans rfl
                 have hfz52_0:=blk_frozen BK178.out 0
                 have hfz52_1:=blk_frozen BK178.out 1
                 have hfz52_2:=blk_frozen BK178.out 2
                 have hfz52_3:=blk_frozen BK178.out 3
                 go_wp2
                 refine bodyPost_ret (results_ct rfl _ _ gb178 39 #[.int .i64 0,.int .i64 0,.string (⟨#[]⟩:ByteArray),.slice none 0 0] (0,0) _ rfl (by (with_reducible repeat (first|refine blk_drewN ?_ _|refine blk_drew ?_|refine blk_alloc ?_ _));refine blk_put (cs:=#[.int .i64 0,.int .i64 0,.string (⟨#[]⟩:ByteArray),.slice none 0 0]) ?_ 3 _ rfl;(with_reducible repeat (first|refine blk_drewN ?_ _|refine blk_drew ?_|refine blk_alloc ?_ _));refine blk_put (cs:=#[.int .i64 0,.int .i64 0,.string (⟨#[]⟩:ByteArray),.slice none 0 0]) ?_ 2 _ rfl;(with_reducible repeat (first|refine blk_drewN ?_ _|refine blk_drew ?_|refine blk_alloc ?_ _));refine blk_put (cs:=#[.int .i64 0,.int .i64 0,.string (⟨#[]⟩:ByteArray),.slice none 0 0]) ?_ 1 _ rfl;(with_reducible repeat (first|refine blk_drewN ?_ _|refine blk_drew ?_|refine blk_alloc ?_ _));refine blk_put (cs:=#[.int .i64 0,.int .i64 0,.string (⟨#[]⟩:ByteArray),.slice none 0 0]) ?_ 0 _ rfl;(with_reducible repeat (first|refine blk_drewN ?_ _|refine blk_drew ?_|refine blk_alloc ?_ _));exact BK178.out) Try.underlying39 rfl (by kernel_rfl)) rfl ?_
                 exact ⟨_,by first|rfl|(simp [errW_none,errW_some] <;> rfl)|(simp [*,errW_none,errW_some] <;> rfl),by first|exact Kd.R_nil _ _ _ _ _|exact Kd.N_nil _ _ _ _ _|exact Kd.V_nil _ _ _ _ _|exact Kd.Q_nil _ _ _ _ _|exact Kd.S_nil _ _ _ _ _,by repeat (first|exact gB HB|refine below_set ?_ GE178.out)⟩
      ·rw [if_neg c10] at H
       exact absurd H (by simp)
     ·rw [if_neg c9] at H
      exact absurd H (by simp)
 ·have ih_spec_l1Read:=fun (m_:Nat) (hm_:m_ < k)=>(ih0 m_ hm_).1
  have ih:=fun (m_:Nat) (hm_:m_ < k)=>(ih0 m_ hm_).2
  clear ih0
  intro a0 a1 a2 a3 a4 r1 r2 w h
  cases k with
  | zero=>exact absurd h (by simp [spec_l1Inner.f])
  | succ k =>
  simp only [spec_l1Inner.f] at h
  have hu39:=Try.underlying39
  have HB:=Aside0.mk (Below.refl w.heap.size w)
  have H:(spec_l1Inner.l0 k a0 a1 a2 a3 a4 (([]:List (SDoc))) 0)=some (r1,r2):=h
  clear h
  obtain ⟨y198,hy198⟩:∃ y_:List (SDoc),y_=(([]:List (SDoc))):=⟨_,rfl⟩
  replace H:(spec_l1Inner.l0 k a0 a1 a2 a3 a4 y198 0)=some (r1,r2):=by first|(rw [hy198];with_reducible exact H)|(have H2_:=(Option.bind_some _ _).symm.trans H;rw [hy198];with_reducible exact H2_)|(have H2_:=(Option.bind_some _ _).symm.trans H;with_reducible exact H2_)|with_reducible exact H|(rw [hy198];exact H)|exact H
  have Ny198:=Aside0.mk hy198
  clear hy198
  have H':=Aside0.mk H
  clear H
  go_enter Try.func101,Try.ntmps101
  go_wp2_with (first|((with_reducible refine gate_dst (N:=16) rfl ?_);refine Kd.R_lit k39 _ 39 ?hg (N:=16) ?hd (xs:=([]:List (SDoc))) (inner:=[]) (ok:=fun _=>True) (okp:=fun _=>True) ?hr ?hp (fun _ hk=>hk) trivial (Below.refl _ _) (Nat.le_refl _) (by simp) ?_;(case hd=>rfl);(case hg=>rfl);(case hr=>first|(go_simp;done)|(go_simp;rfl));(case hp=>exact (Reps.none _ _));intro v199 w6 ho7 hb hg_ hnew_;clear hg_ hnew_;(first|rw [← Ny198.out] at ho7|(simp only [Int.reduceToNat] at ho7;rw [← Ny198.out] at ho7));have n0_:=Aside0.mk (Kd.R_lower ho7 (below_size (gB HB)));have n1_:=Aside0.mk (below_step (gB HB) hb);clear HB;have HO200:=n0_;have HB:=n1_;clear n0_ n1_;clear hb ho7))
  go_loopg [1,12,13] k (fun kq v1 v12 v13 w'=>∃ (x1_1:Int) (x12_1:List (SDoc)) (x13_1:Int),v1=.int .i64 x1_1∧v13=.int .i64 x13_1∧Aside0 (spec_l1Inner.l0 kq a0 x1_1 a2 a3 a4 x12_1 x13_1=some (r1,r2))∧Aside0 (kq≤k)∧Aside0 (Kd.R k39 39 w' w.heap.size (fun _=>True) v12 x12_1)∧Aside0 (Below w.heap.size w w'))
  case atStart=>exact ⟨(a1),(y198),(0),(by first|rfl|(simp;done)|(simp [*];done)),(by first|rfl|(simp;done)|(simp [*];done)),H',⟨Nat.le_refl _⟩,⟨gR HO200⟩,⟨gB HB⟩⟩
  case round =>
   clear H'
   try clear c1 p2
   (try clear HO_12);(try clear HB)
   obtain ⟨x1_1,x12_1,x13_1,rfl,rfl,HA,HK1,HO_12,HB⟩:=hrel
   cases gk with
   | zero=>exact absurd HA.out (by simp [spec_l1Inner.l0])
   | succ k1 =>
    have H:=HA.out
    clear HA
    simp only [spec_l1Inner.l0] at H
    by_cases c8:x13_1 < a2
    ·rw [if_pos c8] at H
     have c8b0:decide (x13_1 < a2)=true:=decide_eq_true c8
     clear c8
     replace H:=Option.bind_eq_some_iff.mp H
     obtain ⟨⟨t201,t202,t203,t204,t207⟩,A90,H⟩:=H
     replace H:(if t207 < 0 then (some (x12_1,(-1))) else (if x12_1.length < 2513169434916 then (spec_l1Inner.l0 k1 a0 t207 a2 a3 a4 (x12_1++[(⟨t201,t202,t203,t204⟩:SDoc)]) (wrap64 (x13_1+1))) else (none)))=some (r1,r2):=H
     have A9:=Aside0.mk A90
     clear A90
     by_cases c10:t207 < 0
     ·rw [if_pos c10] at H
      have c10b0:decide (t207 < 0)=true:=decide_eq_true c10
      clear c10
      simp only [Option.some.injEq,Prod.mk.injEq] at H
      obtain ⟨rfl,rfl⟩:=H
      go_wp2_with (first|((with_reducible refine gate_callee (f:=91) rfl ?_);refine goesL_ (some 27) rfl rfl Try.func91 (by kernel_rfl) rfl #[.string a0,.int .i64 x1_1,.int .i64 (wrap64 (a4 - 1))] rfl (by (try simp only [List.map_toArray,List.map_cons,List.map_nil]);first|done|rfl|(simp only [List.length_drop,List.length_take];rfl)) ?_;(with_reducible refine (ih_spec_l1Read k1 (by have:=HK1.out;omega) a0 x1_1 (wrap64 (a4 - 1)) t201 t202 t203 t204 t207 _ A9.out).mono ?_);rintro e w11 ⟨v205,rfl,ho0,hb⟩;refine ⟨_,rfl,?_⟩;have n0_:=Aside0.mk (Kd.R_elder' (gR HO_12) (Kd.R_base ho0) hb);have n1_:=Aside0.mk (Kd.R_lower (Kd.R_new' ho0 (Kd.R_lt (gR HO_12))) (below_size (gB HB)));have n2_:=Aside0.mk (below_step (gB HB) hb);clear HO_12;clear HB;have HO_12:=n0_;have HO206:=n1_;have HB:=n2_;clear n0_ n1_ n2_;(try clear hb);(try clear hb2);(try clear hk);(try clear hi);(try clear ho0))|((with_reducible refine gate_dst (N:=14) rfl ?_);refine box_event ?hg (N:=14) ?hd (cs:=#[.int .i64 0,.int .i64 0,.string (⟨#[]⟩:ByteArray),.slice none 0 0]) (t:=39) ?hr ?_;(case hd=>rfl);(case hg=>rfl);(case hr=>first|(go_simp;done)|(go_simp;rfl));intro gb208 hg w12 hbox hb;have n0_:=Aside0.mk (Kd.R_below (Kd.R_elderB (gR HO_12) gb208 (Nat.le_of_eq hg.symm)) hb);have n1_:=Aside0.mk (Kd.R_below (Kd.R_elderB (gR HO206) gb208 (Nat.le_of_eq hg.symm)) hb);have n2_:=Aside0.mk (below_step (gB HB) hb);have n3_:=Aside0.mk (hbox);have n4_:=Aside0.mk ((by rw [hg];exact (below_size (gB HB)):w.heap.size≤gb208));have n5_:=Aside0.mk ((by rw [hg];exact (below_size (gB HB)):w.heap.size≤gb208));clear HO_12;clear HO206;clear HB;have HO_12:=n0_;have HO206:=n1_;have HB:=n2_;have BK208:=n3_;have GW208:=n4_;have GE208:=n5_;clear n0_ n1_ n2_ n3_ n4_ n5_;clear hb hbox hg;have hcz13_0:w12.cell? ⟨gb208,0,none⟩=some (.int .i64 0):=(blk_cell BK208.out 0).trans rfl;have hcz13_1:w12.cell? ⟨gb208,1,none⟩=some (.int .i64 0):=(blk_cell BK208.out 1).trans rfl;have hcz13_2:w12.cell? ⟨gb208,2,none⟩=some (.string (⟨#[]⟩:ByteArray)):=(blk_cell BK208.out 2).trans rfl;have hcz13_3:w12.cell? ⟨gb208,3,none⟩=some (.slice none 0 0):=(blk_cell BK208.out 3).trans rfl;have hfz13_0:=blk_frozen BK208.out 0;have hfz13_1:=blk_frozen BK208.out 1;have hfz13_2:=blk_frozen BK208.out 2;have hfz13_3:=blk_frozen BK208.out 3;obtain ⟨Ao14,co14,eo14⟩:=Kd.R_slice HO206.out;subst eo14))
      go_ret2
      exact ⟨_,by first|rfl|(simp [errW_none,errW_some] <;> rfl)|(simp [*,errW_none,errW_some] <;> rfl),by (with_reducible repeat (first|apply Kd.R_alloc|apply Kd.R_drewN|apply Kd.R_drew));exact Kd.R_mono (Kd.R_far (p:=⟨gb208,3,none⟩) (Kd.R_far (p:=⟨gb208,2,none⟩) (Kd.R_far (p:=⟨gb208,1,none⟩) (Kd.R_far (p:=⟨gb208,0,none⟩) (Kd.R_mono HO_12.out (fun k_ hk=>(⟨hk,hk.2⟩:_∧k_ ≠ gb208))) (fun _ hk=>hk.2) (.int .i64 t201)) (fun _ hk=>hk.2) (.int .i64 t202)) (fun _ hk=>hk.2) (.string t203)) (fun _ hk=>hk.2) (.slice Ao14 t204.length co14)) (fun _ hk=>trivial),by repeat (first|exact gB HB|refine below_set ?_ GE208.out)⟩
     ·rw [if_neg c10] at H
      have c10b0:decide (t207 < 0)=false:=decide_eq_false c10
      clear c10
      by_cases c15:x12_1.length < 2513169434916
      ·rw [if_pos c15] at H
       have LMc15:=Aside0.mk c15
       clear c15
       obtain ⟨y209,hy209⟩:∃ y_:List (SDoc),y_=(x12_1++[(⟨t201,t202,t203,t204⟩:SDoc)]):=⟨_,rfl⟩
       replace H:(spec_l1Inner.l0 k1 a0 t207 a2 a3 a4 y209 (wrap64 (x13_1+1)))=some (r1,r2):=by first|(rw [hy209];with_reducible exact H)|(have H2_:=(Option.bind_some _ _).symm.trans H;rw [hy209];with_reducible exact H2_)|(have H2_:=(Option.bind_some _ _).symm.trans H;with_reducible exact H2_)|with_reducible exact H|(rw [hy209];exact H)|exact H
       have Ny209:=Aside0.mk hy209
       clear hy209
       have H':=Aside0.mk H
       clear H
       go_wp2_with (first|((with_reducible refine gate_callee (f:=91) rfl ?_);refine goesL_ (some 27) rfl rfl Try.func91 (by kernel_rfl) rfl #[.string a0,.int .i64 x1_1,.int .i64 (wrap64 (a4 - 1))] rfl (by (try simp only [List.map_toArray,List.map_cons,List.map_nil]);first|done|rfl|(simp only [List.length_drop,List.length_take];rfl)) ?_;(with_reducible refine (ih_spec_l1Read k1 (by have:=HK1.out;omega) a0 x1_1 (wrap64 (a4 - 1)) t201 t202 t203 t204 t207 _ A9.out).mono ?_);rintro e w16 ⟨v205,rfl,ho0,hb⟩;refine ⟨_,rfl,?_⟩;have n0_:=Aside0.mk (Kd.R_elder' (gR HO_12) (Kd.R_base ho0) hb);have n1_:=Aside0.mk (Kd.R_lower (Kd.R_new' ho0 (Kd.R_lt (gR HO_12))) (below_size (gB HB)));have n2_:=Aside0.mk (below_step (gB HB) hb);clear HO_12;clear HB;have HO_12:=n0_;have HO206:=n1_;have HB:=n2_;clear n0_ n1_ n2_;(try clear hb);(try clear hb2);(try clear hk);(try clear hi);(try clear ho0))|((with_reducible refine gate_dst (N:=14) rfl ?_);refine box_event ?hg (N:=14) ?hd (cs:=#[.int .i64 0,.int .i64 0,.string (⟨#[]⟩:ByteArray),.slice none 0 0]) (t:=39) ?hr ?_;(case hd=>rfl);(case hg=>rfl);(case hr=>first|(go_simp;done)|(go_simp;rfl));intro gb208 hg w17 hbox hb;have n0_:=Aside0.mk (Kd.R_below (Kd.R_elderB (gR HO_12) gb208 (Nat.le_of_eq hg.symm)) hb);have n1_:=Aside0.mk (Kd.R_below (Kd.R_elderB (gR HO206) gb208 (Nat.le_of_eq hg.symm)) hb);have n2_:=Aside0.mk (below_step (gB HB) hb);have n3_:=Aside0.mk (hbox);have n4_:=Aside0.mk ((by rw [hg];exact (below_size (gB HB)):w.heap.size≤gb208));have n5_:=Aside0.mk ((by rw [hg];exact (below_size (gB HB)):w.heap.size≤gb208));clear HO_12;clear HO206;clear HB;have HO_12:=n0_;have HO206:=n1_;have HB:=n2_;have BK208:=n3_;have GW208:=n4_;have GE208:=n5_;clear n0_ n1_ n2_ n3_ n4_ n5_;clear hb hbox hg;have hcz18_0:w17.cell? ⟨gb208,0,none⟩=some (.int .i64 0):=(blk_cell BK208.out 0).trans rfl;have hcz18_1:w17.cell? ⟨gb208,1,none⟩=some (.int .i64 0):=(blk_cell BK208.out 1).trans rfl;have hcz18_2:w17.cell? ⟨gb208,2,none⟩=some (.string (⟨#[]⟩:ByteArray)):=(blk_cell BK208.out 2).trans rfl;have hcz18_3:w17.cell? ⟨gb208,3,none⟩=some (.slice none 0 0):=(blk_cell BK208.out 3).trans rfl;have hfz18_0:=blk_frozen BK208.out 0;have hfz18_1:=blk_frozen BK208.out 1;have hfz18_2:=blk_frozen BK208.out 2;have hfz18_3:=blk_frozen BK208.out 3;obtain ⟨Ao19,co19,eo19⟩:=Kd.R_slice HO206.out;subst eo19)|((with_reducible refine gate_store (t:=39) (p:=14) rfl ?_);refine store_event (t:=39) (p:=14) (v:=?vo_w20) (w1:=((((w17.setCell ⟨gb208,0,none⟩ (.int .i64 t201)).setCell ⟨gb208,1,none⟩ (.int .i64 t202)).setCell ⟨gb208,2,none⟩ (.string t203)).setCell ⟨gb208,3,none⟩ (.slice Ao19 t204.length co19))) ?hg ?ho ?hn ?hr ?_;(case ho=>rfl);(case hg=>rfl);(case hn=>rfl);(case hr=>first|(go_simp;done)|(go_simp;rfl));intro w20 hw;have n0_:Aside0 (Kd.R k39 39 w20 w.heap.size (fun k_=>some k_ ≠ (.slice Ao19 t204.length co19:Value).ownBlock∧k_ ≠ gb208) u12 x12_1):=⟨(by rw [hw];exact (by (with_reducible repeat (first|apply Kd.R_alloc|apply Kd.R_drewN|apply Kd.R_drew));exact Kd.R_mono (Kd.R_far (p:=⟨gb208,3,none⟩) (Kd.R_far (p:=⟨gb208,2,none⟩) (Kd.R_far (p:=⟨gb208,1,none⟩) (Kd.R_far (p:=⟨gb208,0,none⟩) (Kd.R_mono HO_12.out (fun k_ hk=>(⟨hk,hk.2⟩:_∧k_ ≠ gb208))) (fun _ hk=>hk.2) (.int .i64 t201)) (fun _ hk=>hk.2) (.int .i64 t202)) (fun _ hk=>hk.2) (.string t203)) (fun _ hk=>hk.2) (.slice Ao19 t204.length co19)) (fun _ hk=>⟨hk.1.1.2,hk.1.2⟩)))⟩;have n1_:Aside0 (Kd.R k39 39 w20 w.heap.size (fun k_=>some k_ ≠ (u12:Value).ownBlock∧k_ ≠ gb208) (.slice Ao19 t204.length co19) t204):=⟨(by rw [hw];exact (by (with_reducible repeat (first|apply Kd.R_alloc|apply Kd.R_drewN|apply Kd.R_drew));exact Kd.R_mono (Kd.R_far (p:=⟨gb208,3,none⟩) (Kd.R_far (p:=⟨gb208,2,none⟩) (Kd.R_far (p:=⟨gb208,1,none⟩) (Kd.R_far (p:=⟨gb208,0,none⟩) (Kd.R_mono HO206.out (fun k_ hk=>(⟨hk,hk.2⟩:_∧k_ ≠ gb208))) (fun _ hk=>hk.2) (.int .i64 t201)) (fun _ hk=>hk.2) (.int .i64 t202)) (fun _ hk=>hk.2) (.string t203)) (fun _ hk=>hk.2) (.slice Ao19 t204.length co19)) (fun _ hk=>⟨hk.1.1.2,hk.1.2⟩)))⟩;have n2_:Aside0 (w20.heap[gb208]?=some (.cells #[.int .i64 t201,.int .i64 t202,.string t203,.slice Ao19 t204.length co19] 39 (0,0))):=⟨(by rw [hw];exact (by (with_reducible repeat (first|refine blk_drewN ?_ _|refine blk_drew ?_|refine blk_alloc ?_ _));refine blk_put (cs:=#[.int .i64 t201,.int .i64 t202,.string t203,.slice none 0 0]) ?_ 3 _ rfl;(with_reducible repeat (first|refine blk_drewN ?_ _|refine blk_drew ?_|refine blk_alloc ?_ _));refine blk_put (cs:=#[.int .i64 t201,.int .i64 t202,.string (⟨#[]⟩:ByteArray),.slice none 0 0]) ?_ 2 _ rfl;(with_reducible repeat (first|refine blk_drewN ?_ _|refine blk_drew ?_|refine blk_alloc ?_ _));refine blk_put (cs:=#[.int .i64 t201,.int .i64 0,.string (⟨#[]⟩:ByteArray),.slice none 0 0]) ?_ 1 _ rfl;(with_reducible repeat (first|refine blk_drewN ?_ _|refine blk_drew ?_|refine blk_alloc ?_ _));refine blk_put (cs:=#[.int .i64 0,.int .i64 0,.string (⟨#[]⟩:ByteArray),.slice none 0 0]) ?_ 0 _ rfl;(with_reducible repeat (first|refine blk_drewN ?_ _|refine blk_drew ?_|refine blk_alloc ?_ _));exact BK208.out))⟩;have n3_:Aside0 (Below w.heap.size w w20):=⟨(by rw [hw];exact (by repeat (first|exact gB HB|refine below_set ?_ GE208.out)))⟩;clear hw;clear HO_12;clear HO206;clear BK208;clear HB;have HO_12:=n0_;have HO206:=n1_;have BK208:=n2_;have HB:=n3_;clear n0_ n1_ n2_ n3_;have hcz21_0:w20.cell? ⟨gb208,0,none⟩=some (.int .i64 t201):=(blk_cell BK208.out 0).trans rfl;have hcz21_1:w20.cell? ⟨gb208,1,none⟩=some (.int .i64 t202):=(blk_cell BK208.out 1).trans rfl;have hcz21_2:w20.cell? ⟨gb208,2,none⟩=some (.string t203):=(blk_cell BK208.out 2).trans rfl;have hcz21_3:w20.cell? ⟨gb208,3,none⟩=some (.slice Ao19 t204.length co19):=(blk_cell BK208.out 3).trans rfl;have hfz21_0:=blk_frozen BK208.out 0;have hfz21_1:=blk_frozen BK208.out 1;have hfz21_2:=blk_frozen BK208.out 2;have hfz21_3:=blk_frozen BK208.out 3)|((with_reducible refine gate_builtin (b:=.append) (xs:=#[.tmp 33,.tmp 35]) rfl ?_);at_builtin;refine Kd.R_append k39 (w0:=w) w.heap.size rfl (.tmp 33) (.tmp 35) 37 39 (.agg #[(.int .i64 0),(.int .i64 0),(.string ⟨#[]⟩),(.slice none 0 0)]) 56 rfl Try.underlying37 info39 rfl (by decide) (by omega) u12 x12_1 (⟨t201,t202,t203,t204⟩:SDoc) [.int .i64 t201,.int .i64 t202,.string t203,.slice Ao19 t204.length co19] (fun k_=>k_ ≠ gb208) (fun k_=>((fun k_=>k_ ≠ gb208)) k_∧some k_ ≠ (u12:Value).ownBlock) rfl rfl ?aP (fun _ hk=>hk) ?aF ?aO ?aB ?aS ?aL ?_;(case aP=>exact k39_mkM _ _ _ (⟨t201,t202,t203,t204⟩:SDoc) (Kd.R_mono (HO206.out) (fun k_ hk=>⟨hk.2,hk.1⟩)));(case aB=>exact (by repeat (first|exact gB HB|refine below_set ?_ GE208.out)));(case aF=>exact (fun k_ hk=>Kd.freshB (g:=gb208) (o:=.cells #[.int .i64 t201,.int .i64 t202,.string t203,.slice Ao19 t204.length co19] 39 (0,0)) (gK BK208) k_ hk));(case aO=>exact (by (with_reducible repeat (first|apply Kd.R_alloc|apply Kd.R_drewN|apply Kd.R_drew));exact Kd.R_mono HO_12.out (fun _ hk=>hk.2)));(case aS=>exact (below_size (by repeat (first|exact gB HB|refine below_set ?_ GE208.out))));(case aL=>have:=LMc15.out;omega);intro v210 w22 ho hb hg hat;rw [← Ny209.out] at ho;have n0_:=Aside0.mk (blk_grown (g:=gb208) (o:=.cells #[.int .i64 t201,.int .i64 t202,.string t203,.slice Ao19 t204.length co19] 39 (0,0)) (gK BK208) hg (Kd.R_away HO_12.out (fun _ hk=>hk.2)));have n1_:=Aside0.mk (hb);have n2_:=Aside0.mk (ho);clear BK208;clear HB;clear HO_12;clear HO206;have BK208:=n0_;have HB:=n1_;have HO211:=n2_;clear n0_ n1_ n2_;clear ho hb hg hat))
       go_roundg k1
       case measure=>have:=HK1.out;omega
       case rel=>exact ⟨(t207),(y209),(wrap64 (x13_1+1)),(by first|rfl|(simp;done)|(simp [*];done)),(by first|rfl|(simp;done)|(simp [*];done)),H',⟨by have:=HK1.out;omega⟩,⟨by (with_reducible repeat (first|apply Kd.R_alloc|apply Kd.R_drewN|apply Kd.R_drew));exact Kd.R_mono HO211.out (fun _ hk=>trivial)⟩,⟨by repeat (first|exact gB HB|refine below_set ?_ GE208.out)⟩⟩
      ·rw [if_neg c15] at H
       exact absurd H (by simp)
    ·rw [if_neg c8] at H
     have c8b0:decide (x13_1 < a2)=false:=decide_eq_false c8
     clear c8
     by_cases c23:x1_1 ≥ (a0.size:Int)
     ·rw [if_pos c23] at H
      have c23b0:decide ((a0.size:Int)≤x1_1)=true:=decide_eq_true c23
      clear c23
      simp only [Option.some.injEq,Prod.mk.injEq] at H
      obtain ⟨rfl,rfl⟩:=H
      go_wp2
      go_ret2
      exact ⟨_,by first|rfl|(simp [errW_none,errW_some] <;> rfl)|(simp [*,errW_none,errW_some] <;> rfl),gR HO_12,gB HB⟩
     ·rw [if_neg c23] at H
      have c23b0:decide ((a0.size:Int)≤x1_1)=false:=decide_eq_false c23
      clear c23
      by_cases c24:0≤x1_1
      ·rw [if_pos c24] at H
       have c24b0:decide (0≤x1_1)=true:=decide_eq_true c24
       clear c24
       by_cases c25:x1_1 < (a0.size:Int)
       ·rw [if_pos c25] at H
        have c25b0:decide (x1_1 < (a0.size:Int))=true:=decide_eq_true c25
        clear c25
        by_cases c27:(bt a0 x1_1)=a3
        ·rw [if_pos c27] at H
         have c27b0:((bt a0 x1_1) == a3)=true:=beq_iff_eq.mpr c27
         have c27b1:((bt a0 x1_1) != a3)=false:=bne_eq_false_iff_eq.mpr c27
         clear c27
         simp only [Option.some.injEq,Prod.mk.injEq] at H
         obtain ⟨rfl,rfl⟩:=H
         have p26:0≤(x1_1:Int):=of_decide_eq_true (by first|(with_reducible assumption)|assumption)
         have q26:x1_1 < (a0.size:Int):=of_decide_eq_true (by first|(with_reducible assumption)|assumption)
         have hx26:=bt_at a0 x1_1
         replace p26:=eq_true p26
         replace q26:=eq_true q26
         go_wp2
         go_ret2
         exact ⟨_,by first|rfl|(simp [errW_none,errW_some] <;> rfl)|(simp [*,errW_none,errW_some] <;> rfl),gR HO_12,gB HB⟩
        ·rw [if_neg c27] at H
         have c27b0:((bt a0 x1_1) == a3)=false:=beq_eq_false_iff_ne.mpr c27
         have c27b1:((bt a0 x1_1) != a3)=true:=bne_iff_ne.mpr c27
         simp only [Option.some.injEq,Prod.mk.injEq] at H
         obtain ⟨rfl,rfl⟩:=H
         have p26:0≤(x1_1:Int):=of_decide_eq_true (by first|(with_reducible assumption)|assumption)
         have q26:x1_1 < (a0.size:Int):=of_decide_eq_true (by first|(with_reducible assumption)|assumption)
         have hx26:=bt_at a0 x1_1
         replace p26:=eq_true p26
         replace q26:=eq_true q26
         go_wp2
         go_ret2
         exact ⟨_,by first|rfl|(simp [errW_none,errW_some] <;> rfl)|(simp [*,errW_none,errW_some] <;> rfl),gR HO_12,gB HB⟩
       ·rw [if_neg c25] at H
        exact absurd H (by simp)
      ·rw [if_neg c24] at H
       exact absurd H (by simp)
theorem spec_l1Read.calls (k:Nat):∀ (a0:ByteArray) (a1:Int) (a2:Int) (r1:Int) (r2:Int) (r3:ByteArray) (r4:List (SDoc)) (r5:Int) (w:World) (h:spec_l1Read.f k a0 a1 a2=some (r1,r2,r3,r4,r5)),
  Calls Try.prog 91 #[.string a0,.int .i64 a1,.int .i64 a2] w fun e w'=>∃ v3_:Value,e=.returned (.tuple #[.agg #[.int .i64 r1,.int .i64 r2,.string r3,v3_],.int .i64 r5])∧Kd.R k39 39 w' w.heap.size (fun _=>True) v3_ r4∧Below w.heap.size w w':=(spec_l1Read.calls_g k).1
end Go.Proofs.Ytdhdfmmefghijab.P
namespace Go.Proofs.Ytdhdfmmefghijab.P
open Go.RowKit Go.Proofs.YtdhdfmmefghijabW.PrintWords Go.Proofs.YtdhdfmmefghijabW.PrintLast Go.Proofs.YtdhdfmmefghijabW.PrintMore
attribute [local go_sem] max2_int min2_int max_two min_two max_three min_three max_four min_four
set_option linter.unusedVariables false
set_option linter.unusedSimpArgs false
def spec_ParseDoc.f (k:Nat) (a0:ByteArray):Option (Int × Int × ByteArray × (List (SDoc)) × Bool):=(spec_l1Read.f k a0 0 40).bind fun bt213=>(if bt213.2.2.2.2=(a0.size:Int) then ((spec_DocValid.f k bt213.1 bt213.2.1 bt213.2.2.1 bt213.2.2.2.1).bind fun t221=>(if t221=true then (some (bt213.1,bt213.2.1,bt213.2.2.1,bt213.2.2.2.1,true)) else (some (0,0,(⟨#[]⟩:ByteArray),([]:List (SDoc)),false)))) else (some (0,0,(⟨#[]⟩:ByteArray),([]:List (SDoc)),false)))
set_option maxHeartbeats 8000000 in
set_option maxRecDepth 100000 in
theorem spec_ParseDoc.calls (k:Nat) (a0:ByteArray) (r1:Int) (r2:Int) (r3:ByteArray) (r4:List (SDoc)) (r5:Bool) (w:World) (h:spec_ParseDoc.f k a0=some (r1,r2,r3,r4,r5)) :
  Calls Try.prog 81 #[.string a0] w fun e w'=>∃ v3_:Value,e=.returned (.tuple #[.agg #[.int .i64 r1,.int .i64 r2,.string r3,v3_],.bool r5])∧Kd.R k39 39 w' w.heap.size (fun _=>True) v3_ r4∧Below w.heap.size w w':=by
 have hu39:=Try.underlying39
 have HB:=Aside0.mk (Below.refl w.heap.size w)
 have H:((spec_l1Read.f k a0 0 40).bind fun bt213=>(if bt213.2.2.2.2=(a0.size:Int) then ((spec_DocValid.f k bt213.1 bt213.2.1 bt213.2.2.1 bt213.2.2.2.1).bind fun t221=>(if t221=true then (some (bt213.1,bt213.2.1,bt213.2.2.1,bt213.2.2.2.1,true)) else (some (0,0,(⟨#[]⟩:ByteArray),([]:List (SDoc)),false)))) else (some (0,0,(⟨#[]⟩:ByteArray),([]:List (SDoc)),false))))=some (r1,r2,r3,r4,r5):=h
 clear h
 replace H:=Option.bind_eq_some_iff.mp H
 obtain ⟨⟨t213,t214,t215,t216,t219⟩,A20,H⟩:=H
 replace H:(if t219=(a0.size:Int) then ((spec_DocValid.f k t213 t214 t215 t216).bind fun t221=>(if t221=true then (some (t213,t214,t215,t216,true)) else (some (0,0,(⟨#[]⟩:ByteArray),([]:List (SDoc)),false)))) else (some (0,0,(⟨#[]⟩:ByteArray),([]:List (SDoc)),false)))=some (r1,r2,r3,r4,r5):=H
 have A2:=Aside0.mk A20
 clear A20
 by_cases c3:t219=(a0.size:Int)
 ·rw [if_pos c3] at H
  have c3b0:(t219 == (a0.size:Int))=true:=beq_iff_eq.mpr c3
  have c3b1:(t219 != (a0.size:Int))=false:=bne_eq_false_iff_eq.mpr c3
  clear c3
  replace H:=Option.bind_eq_some_iff.mp H
  obtain ⟨t221,A40,H⟩:=H
  replace H:(if t221=true then (some (t213,t214,t215,t216,true)) else (some (0,0,(⟨#[]⟩:ByteArray),([]:List (SDoc)),false)))=some (r1,r2,r3,r4,r5):=H
  have A4:=Aside0.mk A40
  clear A40
  by_cases c5:t221=true
  ·subst c5
   have H1:(some (t213,t214,t215,t216,true))=some (r1,r2,r3,r4,r5):=by rw [if_pos rfl] at H;exact H
   clear H
   have H:=H1
   clear H1
   simp only [Option.some.injEq,Prod.mk.injEq] at H
   obtain ⟨rfl,rfl,rfl,rfl,rfl⟩:=H
   go_enter Try.func81,Try.ntmps81
   go_wp2_with (first|((with_reducible refine gate_dst (N:=2) rfl ?_);refine box_event ?hg (N:=2) ?hd (cs:=#[.int .i64 0,.int .i64 0,.string (⟨#[]⟩:ByteArray),.slice none 0 0]) (t:=39) ?hr ?_;(case hd=>rfl);(case hg=>rfl);(case hr=>first|(go_simp;done)|(go_simp;rfl));intro gb212 hg w6 hbox hb;have n0_:=Aside0.mk (below_step (gB HB) hb);have n1_:=Aside0.mk (hbox);have n2_:=Aside0.mk ((by rw [hg];exact (below_size (gB HB)):w.heap.size≤gb212));have n3_:=Aside0.mk ((by rw [hg];exact (below_size (gB HB)):w.heap.size≤gb212));clear HB;have HB:=n0_;have BK212:=n1_;have GW212:=n2_;have GE212:=n3_;clear n0_ n1_ n2_ n3_;clear hb hbox hg)|((with_reducible refine gate_callee (f:=91) rfl ?_);refine goesL_ (some 8) rfl rfl Try.func91 (by kernel_rfl) rfl #[.string a0,.int .i64 0,.int .i64 40] rfl (by (try simp only [List.map_toArray,List.map_cons,List.map_nil]);first|done|rfl|(simp only [List.length_drop,List.length_take];rfl)) ?_;(with_reducible refine (spec_l1Read.calls k a0 0 40 t213 t214 t215 t216 t219 _ A2.out).mono ?_);rintro e w7 ⟨v217,rfl,ho0,hb⟩;refine ⟨_,rfl,?_⟩;have n0_:=Aside0.mk (Kd.R_lower (Kd.R_newB ho0 (g:=gb212) (o:=.cells #[.int .i64 0,.int .i64 0,.string (⟨#[]⟩:ByteArray),.slice none 0 0] 39 (0,0)) (gK BK212)) (below_size (by repeat (first|exact gB HB|refine below_set ?_ GE212.out))));have n1_:=Aside0.mk (blk_below (g:=gb212) (o:=.cells #[.int .i64 0,.int .i64 0,.string (⟨#[]⟩:ByteArray),.slice none 0 0] 39 (0,0)) (gK BK212) hb);have n2_:=Aside0.mk (below_step (by repeat (first|exact gB HB|refine below_set ?_ GE212.out)) hb);clear BK212;clear HB;have HO218:=n0_;have BK212:=n1_;have HB:=n2_;clear n0_ n1_ n2_;(try clear hb);(try clear hb2);(try clear hk);(try clear hi);(try clear ho0))|((with_reducible refine gate_dst (N:=4) rfl ?_);refine box_event ?hg (N:=4) ?hd (cs:=#[.int .i64 0,.int .i64 0,.string (⟨#[]⟩:ByteArray),.slice none 0 0]) (t:=39) ?hr ?_;(case hd=>rfl);(case hg=>rfl);(case hr=>first|(go_simp;done)|(go_simp;rfl));intro gb220 hg w8 hbox hb;have n0_:=Aside0.mk (Kd.R_below (Kd.R_elderB (gR HO218) gb220 (Nat.le_of_eq hg.symm)) hb);have n1_:=Aside0.mk (blk_below (g:=gb212) (o:=.cells #[.int .i64 0,.int .i64 0,.string (⟨#[]⟩:ByteArray),.slice none 0 0] 39 (0,0)) (gK BK212) hb);have n2_:=Aside0.mk (below_step (by repeat (first|exact gB HB|refine below_set ?_ GE212.out)) hb);have n3_:=Aside0.mk (hbox);have n4_:=Aside0.mk ((by rw [hg];exact (below_size (by repeat (first|exact gB HB|refine below_set ?_ GE212.out))):w.heap.size≤gb220));have n5_:=Aside0.mk ((by rw [hg];exact (below_size (by repeat (first|exact gB HB|refine below_set ?_ GE212.out))):w.heap.size≤gb220));have n6_:=Aside0.mk ((by rw [hg];exact Nat.ne_of_lt (blk_lt (g:=gb212) (o:=.cells #[.int .i64 0,.int .i64 0,.string (⟨#[]⟩:ByteArray),.slice none 0 0] 39 (0,0)) (gK BK212)):gb212 ≠ gb220));have n7_:=Aside0.mk ((by rw [hg];exact Nat.ne_of_gt (blk_lt (g:=gb212) (o:=.cells #[.int .i64 0,.int .i64 0,.string (⟨#[]⟩:ByteArray),.slice none 0 0] 39 (0,0)) (gK BK212)):gb220 ≠ gb212));clear HO218;clear BK212;clear HB;have HO218:=n0_;have BK212:=n1_;have HB:=n2_;have BK220:=n3_;have GW220:=n4_;have GE220:=n5_;have NB212_220:=n6_;have NB220_212:=n7_;clear n0_ n1_ n2_ n3_ n4_ n5_ n6_ n7_;clear hb hbox hg;have hnb9:=NB220_212.out;have hnc9:=NB212_220.out;have hcz10_0:w8.cell? ⟨gb220,0,none⟩=some (.int .i64 0):=(blk_cell BK220.out 0).trans rfl;have hcz10_1:w8.cell? ⟨gb220,1,none⟩=some (.int .i64 0):=(blk_cell BK220.out 1).trans rfl;have hcz10_2:w8.cell? ⟨gb220,2,none⟩=some (.string (⟨#[]⟩:ByteArray)):=(blk_cell BK220.out 2).trans rfl;have hcz10_3:w8.cell? ⟨gb220,3,none⟩=some (.slice none 0 0):=(blk_cell BK220.out 3).trans rfl;have hfz10_0:=blk_frozen BK220.out 0;have hfz10_1:=blk_frozen BK220.out 1;have hfz10_2:=blk_frozen BK220.out 2;have hfz10_3:=blk_frozen BK220.out 3;obtain ⟨Ao11,co11,eo11⟩:=Kd.R_slice HO218.out;subst eo11)|(go_at_call 52;(with_reducible refine (spec_DocValid.calls k t213 t214 t215 _ _ t216 true _ ?side1 ?side2 A4.out).mono ?_);(case side1=>refine (Kd.R_reads' (e:=39) (base:=w.heap.size) (ok:=fun k_=>((True∧k_ ≠ gb212)∧k_ ≠ gb220)) (n:=t216.length) (c:=co11) ?_).2.2;exact (by (with_reducible repeat (first|apply Kd.R_alloc|apply Kd.R_drewN|apply Kd.R_drew));exact (Kd.R_mono (Kd.R_far (p:=⟨gb220,3,none⟩) (Kd.R_far (p:=⟨gb220,2,none⟩) (Kd.R_far (p:=⟨gb220,1,none⟩) (Kd.R_far (p:=⟨gb220,0,none⟩) (Kd.R_mono HO218.out (fun k_ hk=>(⟨hk,hk.2⟩:_∧k_ ≠ gb220))) (fun _ hk=>hk.2) (.int .i64 t213)) (fun _ hk=>hk.2) (.int .i64 t214)) (fun _ hk=>hk.2) (.string t215)) (fun _ hk=>hk.2) (.slice Ao11 t216.length co11)) (fun _ h_=>h_.1))));(case side2=>exact (Kd.R_reads' HO218.out).2.1);rintro e w12 ⟨rfl,hb⟩;have n0_:=Aside0.mk (Kd.R_below (by (with_reducible repeat (first|apply Kd.R_alloc|apply Kd.R_drewN|apply Kd.R_drew));exact (Kd.R_mono (Kd.R_far (p:=⟨gb220,3,none⟩) (Kd.R_far (p:=⟨gb220,2,none⟩) (Kd.R_far (p:=⟨gb220,1,none⟩) (Kd.R_far (p:=⟨gb220,0,none⟩) (Kd.R_mono HO218.out (fun k_ hk=>(⟨hk,hk.2⟩:_∧k_ ≠ gb220))) (fun _ hk=>hk.2) (.int .i64 t213)) (fun _ hk=>hk.2) (.int .i64 t214)) (fun _ hk=>hk.2) (.string t215)) (fun _ hk=>hk.2) (.slice Ao11 t216.length co11)) (fun _ h_=>h_.1))) hb);have n1_:=Aside0.mk (blk_below (g:=gb212) (o:=.cells #[.int .i64 0,.int .i64 0,.string (⟨#[]⟩:ByteArray),.slice none 0 0] 39 (0,0)) (by (with_reducible repeat (first|refine blk_drewN ?_ _|refine blk_drew ?_|refine blk_alloc ?_ _));refine blk_far ?_ NB212_220.out _;(with_reducible repeat (first|refine blk_drewN ?_ _|refine blk_drew ?_|refine blk_alloc ?_ _));refine blk_far ?_ NB212_220.out _;(with_reducible repeat (first|refine blk_drewN ?_ _|refine blk_drew ?_|refine blk_alloc ?_ _));refine blk_far ?_ NB212_220.out _;(with_reducible repeat (first|refine blk_drewN ?_ _|refine blk_drew ?_|refine blk_alloc ?_ _));refine blk_far ?_ NB212_220.out _;(with_reducible repeat (first|refine blk_drewN ?_ _|refine blk_drew ?_|refine blk_alloc ?_ _));exact BK212.out) hb);have n2_:=Aside0.mk (blk_below (g:=gb220) (o:=.cells #[.int .i64 t213,.int .i64 t214,.string t215,.slice Ao11 t216.length co11] 39 (0,0)) (by (with_reducible repeat (first|refine blk_drewN ?_ _|refine blk_drew ?_|refine blk_alloc ?_ _));refine blk_put (cs:=#[.int .i64 t213,.int .i64 t214,.string t215,.slice none 0 0]) ?_ 3 _ rfl;(with_reducible repeat (first|refine blk_drewN ?_ _|refine blk_drew ?_|refine blk_alloc ?_ _));refine blk_put (cs:=#[.int .i64 t213,.int .i64 t214,.string (⟨#[]⟩:ByteArray),.slice none 0 0]) ?_ 2 _ rfl;(with_reducible repeat (first|refine blk_drewN ?_ _|refine blk_drew ?_|refine blk_alloc ?_ _));refine blk_put (cs:=#[.int .i64 t213,.int .i64 0,.string (⟨#[]⟩:ByteArray),.slice none 0 0]) ?_ 1 _ rfl;(with_reducible repeat (first|refine blk_drewN ?_ _|refine blk_drew ?_|refine blk_alloc ?_ _));refine blk_put (cs:=#[.int .i64 0,.int .i64 0,.string (⟨#[]⟩:ByteArray),.slice none 0 0]) ?_ 0 _ rfl;(with_reducible repeat (first|refine blk_drewN ?_ _|refine blk_drew ?_|refine blk_alloc ?_ _));exact BK220.out) hb);have n3_:=Aside0.mk (below_step (by repeat (first|exact gB HB|refine below_set ?_ GE212.out|refine below_set ?_ GE220.out)) hb);clear HO218;clear BK212;clear BK220;clear HB;have HO218:=n0_;have BK212:=n1_;have BK220:=n2_;have HB:=n3_;clear n0_ n1_ n2_ n3_;(try clear hb);(try clear hb2);(try clear hk);(try clear hi);have hcz13_0:w12.cell? ⟨gb220,0,none⟩=some (.int .i64 t213):=(blk_cell BK220.out 0).trans rfl;have hcz13_1:w12.cell? ⟨gb220,1,none⟩=some (.int .i64 t214):=(blk_cell BK220.out 1).trans rfl;have hcz13_2:w12.cell? ⟨gb220,2,none⟩=some (.string t215):=(blk_cell BK220.out 2).trans rfl;have hcz13_3:w12.cell? ⟨gb220,3,none⟩=some (.slice Ao11 t216.length co11):=(blk_cell BK220.out 3).trans rfl;have hfz13_0:=blk_frozen BK220.out 0;have hfz13_1:=blk_frozen BK220.out 1;have hfz13_2:=blk_frozen BK220.out 2;have hfz13_3:=blk_frozen BK220.out 3;have hcz14_0:w12.cell? ⟨gb212,0,none⟩=some (.int .i64 0):=(blk_cell BK212.out 0).trans rfl;have hcz14_1:w12.cell? ⟨gb212,1,none⟩=some (.int .i64 0):=(blk_cell BK212.out 1).trans rfl;have hcz14_2:w12.cell? ⟨gb212,2,none⟩=some (.string (⟨#[]⟩:ByteArray)):=(blk_cell BK212.out 2).trans rfl;have hcz14_3:w12.cell? ⟨gb212,3,none⟩=some (.slice none 0 0):=(blk_cell BK212.out 3).trans rfl;have hfz14_0:=blk_frozen BK212.out 0;have hfz14_1:=blk_frozen BK212.out 1;have hfz14_2:=blk_frozen BK212.out 2;have hfz14_3:=blk_frozen BK212.out 3))
   refine bodyPost_ret (results_ct rfl _ _ gb212 39 #[.int .i64 t213,.int .i64 t214,.string t215,.slice Ao11 t216.length co11] (0,0) _ rfl (by (with_reducible repeat (first|refine blk_drewN ?_ _|refine blk_drew ?_|refine blk_alloc ?_ _));refine blk_put (cs:=#[.int .i64 t213,.int .i64 t214,.string t215,.slice none 0 0]) ?_ 3 _ rfl;(with_reducible repeat (first|refine blk_drewN ?_ _|refine blk_drew ?_|refine blk_alloc ?_ _));refine blk_put (cs:=#[.int .i64 t213,.int .i64 t214,.string (⟨#[]⟩:ByteArray),.slice none 0 0]) ?_ 2 _ rfl;(with_reducible repeat (first|refine blk_drewN ?_ _|refine blk_drew ?_|refine blk_alloc ?_ _));refine blk_put (cs:=#[.int .i64 t213,.int .i64 0,.string (⟨#[]⟩:ByteArray),.slice none 0 0]) ?_ 1 _ rfl;(with_reducible repeat (first|refine blk_drewN ?_ _|refine blk_drew ?_|refine blk_alloc ?_ _));refine blk_put (cs:=#[.int .i64 0,.int .i64 0,.string (⟨#[]⟩:ByteArray),.slice none 0 0]) ?_ 0 _ rfl;(with_reducible repeat (first|refine blk_drewN ?_ _|refine blk_drew ?_|refine blk_alloc ?_ _));exact BK212.out) Try.underlying39 rfl (by kernel_rfl)) rfl ?_
   exact ⟨_,by first|rfl|(simp [errW_none,errW_some] <;> rfl)|(simp [*,errW_none,errW_some] <;> rfl),by (with_reducible repeat (first|apply Kd.R_alloc|apply Kd.R_drewN|apply Kd.R_drew));exact Kd.R_mono (Kd.R_far (p:=⟨gb212,3,none⟩) (Kd.R_far (p:=⟨gb212,2,none⟩) (Kd.R_far (p:=⟨gb212,1,none⟩) (Kd.R_far (p:=⟨gb212,0,none⟩) (Kd.R_mono HO218.out (fun k_ hk=>(⟨hk,hk.1.2⟩:_∧k_ ≠ gb212))) (fun _ hk=>hk.2) (.int .i64 t213)) (fun _ hk=>hk.2) (.int .i64 t214)) (fun _ hk=>hk.2) (.string t215)) (fun _ hk=>hk.2) (.slice Ao11 t216.length co11)) (fun _ hk=>trivial),by repeat (first|exact gB HB|refine below_set ?_ GE212.out|refine below_set ?_ GE220.out)⟩
  ·replace c5:=Bool.eq_false_iff.mpr c5
   subst c5
   have H1:(some (0,0,(⟨#[]⟩:ByteArray),([]:List (SDoc)),false))=some (r1,r2,r3,r4,r5):=by rw [if_neg (show ¬ (false=true) by decide)] at H;exact H
   clear H
   have H:=H1
   clear H1
   simp only [Option.some.injEq,Prod.mk.injEq] at H
   obtain ⟨rfl,rfl,rfl,rfl,rfl⟩:=H
   go_enter Try.func81,Try.ntmps81
   go_wp2_with (first|((with_reducible refine gate_dst (N:=2) rfl ?_);refine box_event ?hg (N:=2) ?hd (cs:=#[.int .i64 0,.int .i64 0,.string (⟨#[]⟩:ByteArray),.slice none 0 0]) (t:=39) ?hr ?_;(case hd=>rfl);(case hg=>rfl);(case hr=>first|(go_simp;done)|(go_simp;rfl));intro gb212 hg w15 hbox hb;have n0_:=Aside0.mk (below_step (gB HB) hb);have n1_:=Aside0.mk (hbox);have n2_:=Aside0.mk ((by rw [hg];exact (below_size (gB HB)):w.heap.size≤gb212));have n3_:=Aside0.mk ((by rw [hg];exact (below_size (gB HB)):w.heap.size≤gb212));clear HB;have HB:=n0_;have BK212:=n1_;have GW212:=n2_;have GE212:=n3_;clear n0_ n1_ n2_ n3_;clear hb hbox hg)|((with_reducible refine gate_callee (f:=91) rfl ?_);refine goesL_ (some 8) rfl rfl Try.func91 (by kernel_rfl) rfl #[.string a0,.int .i64 0,.int .i64 40] rfl (by (try simp only [List.map_toArray,List.map_cons,List.map_nil]);first|done|rfl|(simp only [List.length_drop,List.length_take];rfl)) ?_;(with_reducible refine (spec_l1Read.calls k a0 0 40 t213 t214 t215 t216 t219 _ A2.out).mono ?_);rintro e w16 ⟨v217,rfl,ho0,hb⟩;refine ⟨_,rfl,?_⟩;have n0_:=Aside0.mk (Kd.R_lower (Kd.R_newB ho0 (g:=gb212) (o:=.cells #[.int .i64 0,.int .i64 0,.string (⟨#[]⟩:ByteArray),.slice none 0 0] 39 (0,0)) (gK BK212)) (below_size (by repeat (first|exact gB HB|refine below_set ?_ GE212.out))));have n1_:=Aside0.mk (blk_below (g:=gb212) (o:=.cells #[.int .i64 0,.int .i64 0,.string (⟨#[]⟩:ByteArray),.slice none 0 0] 39 (0,0)) (gK BK212) hb);have n2_:=Aside0.mk (below_step (by repeat (first|exact gB HB|refine below_set ?_ GE212.out)) hb);clear BK212;clear HB;have HO218:=n0_;have BK212:=n1_;have HB:=n2_;clear n0_ n1_ n2_;(try clear hb);(try clear hb2);(try clear hk);(try clear hi);(try clear ho0))|((with_reducible refine gate_dst (N:=4) rfl ?_);refine box_event ?hg (N:=4) ?hd (cs:=#[.int .i64 0,.int .i64 0,.string (⟨#[]⟩:ByteArray),.slice none 0 0]) (t:=39) ?hr ?_;(case hd=>rfl);(case hg=>rfl);(case hr=>first|(go_simp;done)|(go_simp;rfl));intro gb220 hg w17 hbox hb;have n0_:=Aside0.mk (Kd.R_below (Kd.R_elderB (gR HO218) gb220 (Nat.le_of_eq hg.symm)) hb);have n1_:=Aside0.mk (blk_below (g:=gb212) (o:=.cells #[.int .i64 0,.int .i64 0,.string (⟨#[]⟩:ByteArray),.slice none 0 0] 39 (0,0)) (gK BK212) hb);have n2_:=Aside0.mk (below_step (by repeat (first|exact gB HB|refine below_set ?_ GE212.out)) hb);have n3_:=Aside0.mk (hbox);have n4_:=Aside0.mk ((by rw [hg];exact (below_size (by repeat (first|exact gB HB|refine below_set ?_ GE212.out))):w.heap.size≤gb220));have n5_:=Aside0.mk ((by rw [hg];exact (below_size (by repeat (first|exact gB HB|refine below_set ?_ GE212.out))):w.heap.size≤gb220));have n6_:=Aside0.mk ((by rw [hg];exact Nat.ne_of_lt (blk_lt (g:=gb212) (o:=.cells #[.int .i64 0,.int .i64 0,.string (⟨#[]⟩:ByteArray),.slice none 0 0] 39 (0,0)) (gK BK212)):gb212 ≠ gb220));have n7_:=Aside0.mk ((by rw [hg];exact Nat.ne_of_gt (blk_lt (g:=gb212) (o:=.cells #[.int .i64 0,.int .i64 0,.string (⟨#[]⟩:ByteArray),.slice none 0 0] 39 (0,0)) (gK BK212)):gb220 ≠ gb212));clear HO218;clear BK212;clear HB;have HO218:=n0_;have BK212:=n1_;have HB:=n2_;have BK220:=n3_;have GW220:=n4_;have GE220:=n5_;have NB212_220:=n6_;have NB220_212:=n7_;clear n0_ n1_ n2_ n3_ n4_ n5_ n6_ n7_;clear hb hbox hg;have hnb18:=NB220_212.out;have hnc18:=NB212_220.out;have hcz19_0:w17.cell? ⟨gb220,0,none⟩=some (.int .i64 0):=(blk_cell BK220.out 0).trans rfl;have hcz19_1:w17.cell? ⟨gb220,1,none⟩=some (.int .i64 0):=(blk_cell BK220.out 1).trans rfl;have hcz19_2:w17.cell? ⟨gb220,2,none⟩=some (.string (⟨#[]⟩:ByteArray)):=(blk_cell BK220.out 2).trans rfl;have hcz19_3:w17.cell? ⟨gb220,3,none⟩=some (.slice none 0 0):=(blk_cell BK220.out 3).trans rfl;have hfz19_0:=blk_frozen BK220.out 0;have hfz19_1:=blk_frozen BK220.out 1;have hfz19_2:=blk_frozen BK220.out 2;have hfz19_3:=blk_frozen BK220.out 3;obtain ⟨Ao20,co20,eo20⟩:=Kd.R_slice HO218.out;subst eo20)|(go_at_call 52;(with_reducible refine (spec_DocValid.calls k t213 t214 t215 _ _ t216 false _ ?side1 ?side2 A4.out).mono ?_);(case side1=>refine (Kd.R_reads' (e:=39) (base:=w.heap.size) (ok:=fun k_=>((True∧k_ ≠ gb212)∧k_ ≠ gb220)) (n:=t216.length) (c:=co20) ?_).2.2;exact (by (with_reducible repeat (first|apply Kd.R_alloc|apply Kd.R_drewN|apply Kd.R_drew));exact (Kd.R_mono (Kd.R_far (p:=⟨gb220,3,none⟩) (Kd.R_far (p:=⟨gb220,2,none⟩) (Kd.R_far (p:=⟨gb220,1,none⟩) (Kd.R_far (p:=⟨gb220,0,none⟩) (Kd.R_mono HO218.out (fun k_ hk=>(⟨hk,hk.2⟩:_∧k_ ≠ gb220))) (fun _ hk=>hk.2) (.int .i64 t213)) (fun _ hk=>hk.2) (.int .i64 t214)) (fun _ hk=>hk.2) (.string t215)) (fun _ hk=>hk.2) (.slice Ao20 t216.length co20)) (fun _ h_=>h_.1))));(case side2=>exact (Kd.R_reads' HO218.out).2.1);rintro e w21 ⟨rfl,hb⟩;have n0_:=Aside0.mk (Kd.R_below (by (with_reducible repeat (first|apply Kd.R_alloc|apply Kd.R_drewN|apply Kd.R_drew));exact (Kd.R_mono (Kd.R_far (p:=⟨gb220,3,none⟩) (Kd.R_far (p:=⟨gb220,2,none⟩) (Kd.R_far (p:=⟨gb220,1,none⟩) (Kd.R_far (p:=⟨gb220,0,none⟩) (Kd.R_mono HO218.out (fun k_ hk=>(⟨hk,hk.2⟩:_∧k_ ≠ gb220))) (fun _ hk=>hk.2) (.int .i64 t213)) (fun _ hk=>hk.2) (.int .i64 t214)) (fun _ hk=>hk.2) (.string t215)) (fun _ hk=>hk.2) (.slice Ao20 t216.length co20)) (fun _ h_=>h_.1))) hb);have n1_:=Aside0.mk (blk_below (g:=gb212) (o:=.cells #[.int .i64 0,.int .i64 0,.string (⟨#[]⟩:ByteArray),.slice none 0 0] 39 (0,0)) (by (with_reducible repeat (first|refine blk_drewN ?_ _|refine blk_drew ?_|refine blk_alloc ?_ _));refine blk_far ?_ NB212_220.out _;(with_reducible repeat (first|refine blk_drewN ?_ _|refine blk_drew ?_|refine blk_alloc ?_ _));refine blk_far ?_ NB212_220.out _;(with_reducible repeat (first|refine blk_drewN ?_ _|refine blk_drew ?_|refine blk_alloc ?_ _));refine blk_far ?_ NB212_220.out _;(with_reducible repeat (first|refine blk_drewN ?_ _|refine blk_drew ?_|refine blk_alloc ?_ _));refine blk_far ?_ NB212_220.out _;(with_reducible repeat (first|refine blk_drewN ?_ _|refine blk_drew ?_|refine blk_alloc ?_ _));exact BK212.out) hb);have n2_:=Aside0.mk (blk_below (g:=gb220) (o:=.cells #[.int .i64 t213,.int .i64 t214,.string t215,.slice Ao20 t216.length co20] 39 (0,0)) (by (with_reducible repeat (first|refine blk_drewN ?_ _|refine blk_drew ?_|refine blk_alloc ?_ _));refine blk_put (cs:=#[.int .i64 t213,.int .i64 t214,.string t215,.slice none 0 0]) ?_ 3 _ rfl;(with_reducible repeat (first|refine blk_drewN ?_ _|refine blk_drew ?_|refine blk_alloc ?_ _));refine blk_put (cs:=#[.int .i64 t213,.int .i64 t214,.string (⟨#[]⟩:ByteArray),.slice none 0 0]) ?_ 2 _ rfl;(with_reducible repeat (first|refine blk_drewN ?_ _|refine blk_drew ?_|refine blk_alloc ?_ _));refine blk_put (cs:=#[.int .i64 t213,.int .i64 0,.string (⟨#[]⟩:ByteArray),.slice none 0 0]) ?_ 1 _ rfl;(with_reducible repeat (first|refine blk_drewN ?_ _|refine blk_drew ?_|refine blk_alloc ?_ _));refine blk_put (cs:=#[.int .i64 0,.int .i64 0,.string (⟨#[]⟩:ByteArray),.slice none 0 0]) ?_ 0 _ rfl;(with_reducible repeat (first|refine blk_drewN ?_ _|refine blk_drew ?_|refine blk_alloc ?_ _));exact BK220.out) hb);have n3_:=Aside0.mk (below_step (by repeat (first|exact gB HB|refine below_set ?_ GE212.out|refine below_set ?_ GE220.out)) hb);clear HO218;clear BK212;clear BK220;clear HB;have HO218:=n0_;have BK212:=n1_;have BK220:=n2_;have HB:=n3_;clear n0_ n1_ n2_ n3_;(try clear hb);(try clear hb2);(try clear hk);(try clear hi);have hcz22_0:w21.cell? ⟨gb212,0,none⟩=some (.int .i64 0):=(blk_cell BK212.out 0).trans rfl;have hcz22_1:w21.cell? ⟨gb212,1,none⟩=some (.int .i64 0):=(blk_cell BK212.out 1).trans rfl;have hcz22_2:w21.cell? ⟨gb212,2,none⟩=some (.string (⟨#[]⟩:ByteArray)):=(blk_cell BK212.out 2).trans rfl;have hcz22_3:w21.cell? ⟨gb212,3,none⟩=some (.slice none 0 0):=(blk_cell BK212.out 3).trans rfl;have hfz22_0:=blk_frozen BK212.out 0;have hfz22_1:=blk_frozen BK212.out 1;have hfz22_2:=blk_frozen BK212.out 2;have hfz22_3:=blk_frozen BK212.out 3))
   refine bodyPost_ret (results_ct rfl _ _ gb212 39 #[.int .i64 0,.int .i64 0,.string (⟨#[]⟩:ByteArray),.slice none 0 0] (0,0) _ rfl (by (with_reducible repeat (first|refine blk_drewN ?_ _|refine blk_drew ?_|refine blk_alloc ?_ _));refine blk_put (cs:=#[.int .i64 0,.int .i64 0,.string (⟨#[]⟩:ByteArray),.slice none 0 0]) ?_ 3 _ rfl;(with_reducible repeat (first|refine blk_drewN ?_ _|refine blk_drew ?_|refine blk_alloc ?_ _));refine blk_put (cs:=#[.int .i64 0,.int .i64 0,.string (⟨#[]⟩:ByteArray),.slice none 0 0]) ?_ 2 _ rfl;(with_reducible repeat (first|refine blk_drewN ?_ _|refine blk_drew ?_|refine blk_alloc ?_ _));refine blk_put (cs:=#[.int .i64 0,.int .i64 0,.string (⟨#[]⟩:ByteArray),.slice none 0 0]) ?_ 1 _ rfl;(with_reducible repeat (first|refine blk_drewN ?_ _|refine blk_drew ?_|refine blk_alloc ?_ _));refine blk_put (cs:=#[.int .i64 0,.int .i64 0,.string (⟨#[]⟩:ByteArray),.slice none 0 0]) ?_ 0 _ rfl;(with_reducible repeat (first|refine blk_drewN ?_ _|refine blk_drew ?_|refine blk_alloc ?_ _));exact BK212.out) Try.underlying39 rfl (by kernel_rfl)) rfl ?_
   exact ⟨_,by first|rfl|(simp [errW_none,errW_some] <;> rfl)|(simp [*,errW_none,errW_some] <;> rfl),by first|exact Kd.R_nil _ _ _ _ _|exact Kd.N_nil _ _ _ _ _|exact Kd.V_nil _ _ _ _ _|exact Kd.Q_nil _ _ _ _ _|exact Kd.S_nil _ _ _ _ _,by repeat (first|exact gB HB|refine below_set ?_ GE212.out|refine below_set ?_ GE220.out)⟩
 ·rw [if_neg c3] at H
  have c3b0:(t219 == (a0.size:Int))=false:=beq_eq_false_iff_ne.mpr c3
  have c3b1:(t219 != (a0.size:Int))=true:=bne_iff_ne.mpr c3
  simp only [Option.some.injEq,Prod.mk.injEq] at H
  obtain ⟨rfl,rfl,rfl,rfl,rfl⟩:=H
  go_enter Try.func81,Try.ntmps81
  go_wp2_with (first|((with_reducible refine gate_dst (N:=2) rfl ?_);refine box_event ?hg (N:=2) ?hd (cs:=#[.int .i64 0,.int .i64 0,.string (⟨#[]⟩:ByteArray),.slice none 0 0]) (t:=39) ?hr ?_;(case hd=>rfl);(case hg=>rfl);(case hr=>first|(go_simp;done)|(go_simp;rfl));intro gb212 hg w23 hbox hb;have n0_:=Aside0.mk (below_step (gB HB) hb);have n1_:=Aside0.mk (hbox);have n2_:=Aside0.mk ((by rw [hg];exact (below_size (gB HB)):w.heap.size≤gb212));have n3_:=Aside0.mk ((by rw [hg];exact (below_size (gB HB)):w.heap.size≤gb212));clear HB;have HB:=n0_;have BK212:=n1_;have GW212:=n2_;have GE212:=n3_;clear n0_ n1_ n2_ n3_;clear hb hbox hg)|((with_reducible refine gate_callee (f:=91) rfl ?_);refine goesL_ (some 8) rfl rfl Try.func91 (by kernel_rfl) rfl #[.string a0,.int .i64 0,.int .i64 40] rfl (by (try simp only [List.map_toArray,List.map_cons,List.map_nil]);first|done|rfl|(simp only [List.length_drop,List.length_take];rfl)) ?_;(with_reducible refine (spec_l1Read.calls k a0 0 40 t213 t214 t215 t216 t219 _ A2.out).mono ?_);rintro e w24 ⟨v217,rfl,ho0,hb⟩;refine ⟨_,rfl,?_⟩;have n0_:=Aside0.mk (Kd.R_lower (Kd.R_newB ho0 (g:=gb212) (o:=.cells #[.int .i64 0,.int .i64 0,.string (⟨#[]⟩:ByteArray),.slice none 0 0] 39 (0,0)) (gK BK212)) (below_size (by repeat (first|exact gB HB|refine below_set ?_ GE212.out))));have n1_:=Aside0.mk (blk_below (g:=gb212) (o:=.cells #[.int .i64 0,.int .i64 0,.string (⟨#[]⟩:ByteArray),.slice none 0 0] 39 (0,0)) (gK BK212) hb);have n2_:=Aside0.mk (below_step (by repeat (first|exact gB HB|refine below_set ?_ GE212.out)) hb);clear BK212;clear HB;have HO218:=n0_;have BK212:=n1_;have HB:=n2_;clear n0_ n1_ n2_;(try clear hb);(try clear hb2);(try clear hk);(try clear hi);(try clear ho0))|((with_reducible refine gate_dst (N:=4) rfl ?_);refine box_event ?hg (N:=4) ?hd (cs:=#[.int .i64 0,.int .i64 0,.string (⟨#[]⟩:ByteArray),.slice none 0 0]) (t:=39) ?hr ?_;(case hd=>rfl);(case hg=>rfl);(case hr=>first|(go_simp;done)|(go_simp;rfl));intro gb220 hg w25 hbox hb;have n0_:=Aside0.mk (Kd.R_below (Kd.R_elderB (gR HO218) gb220 (Nat.le_of_eq hg.symm)) hb);have n1_:=Aside0.mk (blk_below (g:=gb212) (o:=.cells #[.int .i64 0,.int .i64 0,.string (⟨#[]⟩:ByteArray),.slice none 0 0] 39 (0,0)) (gK BK212) hb);have n2_:=Aside0.mk (below_step (by repeat (first|exact gB HB|refine below_set ?_ GE212.out)) hb);have n3_:=Aside0.mk (hbox);have n4_:=Aside0.mk ((by rw [hg];exact (below_size (by repeat (first|exact gB HB|refine below_set ?_ GE212.out))):w.heap.size≤gb220));have n5_:=Aside0.mk ((by rw [hg];exact (below_size (by repeat (first|exact gB HB|refine below_set ?_ GE212.out))):w.heap.size≤gb220));have n6_:=Aside0.mk ((by rw [hg];exact Nat.ne_of_lt (blk_lt (g:=gb212) (o:=.cells #[.int .i64 0,.int .i64 0,.string (⟨#[]⟩:ByteArray),.slice none 0 0] 39 (0,0)) (gK BK212)):gb212 ≠ gb220));have n7_:=Aside0.mk ((by rw [hg];exact Nat.ne_of_gt (blk_lt (g:=gb212) (o:=.cells #[.int .i64 0,.int .i64 0,.string (⟨#[]⟩:ByteArray),.slice none 0 0] 39 (0,0)) (gK BK212)):gb220 ≠ gb212));clear HO218;clear BK212;clear HB;have HO218:=n0_;have BK212:=n1_;have HB:=n2_;have BK220:=n3_;have GW220:=n4_;have GE220:=n5_;have NB212_220:=n6_;have NB220_212:=n7_;clear n0_ n1_ n2_ n3_ n4_ n5_ n6_ n7_;clear hb hbox hg;have hnb26:=NB220_212.out;have hnc26:=NB212_220.out;have hcz27_0:w25.cell? ⟨gb220,0,none⟩=some (.int .i64 0):=(blk_cell BK220.out 0).trans rfl;have hcz27_1:w25.cell? ⟨gb220,1,none⟩=some (.int .i64 0):=(blk_cell BK220.out 1).trans rfl;have hcz27_2:w25.cell? ⟨gb220,2,none⟩=some (.string (⟨#[]⟩:ByteArray)):=(blk_cell BK220.out 2).trans rfl;have hcz27_3:w25.cell? ⟨gb220,3,none⟩=some (.slice none 0 0):=(blk_cell BK220.out 3).trans rfl;have hfz27_0:=blk_frozen BK220.out 0;have hfz27_1:=blk_frozen BK220.out 1;have hfz27_2:=blk_frozen BK220.out 2;have hfz27_3:=blk_frozen BK220.out 3;obtain ⟨Ao28,co28,eo28⟩:=Kd.R_slice HO218.out;subst eo28;have hcz29_0:w25.cell? ⟨gb212,0,none⟩=some (.int .i64 0):=(blk_cell BK212.out 0).trans rfl;have hcz29_1:w25.cell? ⟨gb212,1,none⟩=some (.int .i64 0):=(blk_cell BK212.out 1).trans rfl;have hcz29_2:w25.cell? ⟨gb212,2,none⟩=some (.string (⟨#[]⟩:ByteArray)):=(blk_cell BK212.out 2).trans rfl;have hcz29_3:w25.cell? ⟨gb212,3,none⟩=some (.slice none 0 0):=(blk_cell BK212.out 3).trans rfl;have hfz29_0:=blk_frozen BK212.out 0;have hfz29_1:=blk_frozen BK212.out 1;have hfz29_2:=blk_frozen BK212.out 2;have hfz29_3:=blk_frozen BK212.out 3))
  refine bodyPost_ret (results_ct rfl _ _ gb212 39 #[.int .i64 0,.int .i64 0,.string (⟨#[]⟩:ByteArray),.slice none 0 0] (0,0) _ rfl (by (with_reducible repeat (first|refine blk_drewN ?_ _|refine blk_drew ?_|refine blk_alloc ?_ _));refine blk_put (cs:=#[.int .i64 0,.int .i64 0,.string (⟨#[]⟩:ByteArray),.slice none 0 0]) ?_ 3 _ rfl;(with_reducible repeat (first|refine blk_drewN ?_ _|refine blk_drew ?_|refine blk_alloc ?_ _));refine blk_put (cs:=#[.int .i64 0,.int .i64 0,.string (⟨#[]⟩:ByteArray),.slice none 0 0]) ?_ 2 _ rfl;(with_reducible repeat (first|refine blk_drewN ?_ _|refine blk_drew ?_|refine blk_alloc ?_ _));refine blk_put (cs:=#[.int .i64 0,.int .i64 0,.string (⟨#[]⟩:ByteArray),.slice none 0 0]) ?_ 1 _ rfl;(with_reducible repeat (first|refine blk_drewN ?_ _|refine blk_drew ?_|refine blk_alloc ?_ _));refine blk_put (cs:=#[.int .i64 0,.int .i64 0,.string (⟨#[]⟩:ByteArray),.slice none 0 0]) ?_ 0 _ rfl;(with_reducible repeat (first|refine blk_drewN ?_ _|refine blk_drew ?_|refine blk_alloc ?_ _));refine blk_far ?_ NB212_220.out _;(with_reducible repeat (first|refine blk_drewN ?_ _|refine blk_drew ?_|refine blk_alloc ?_ _));refine blk_far ?_ NB212_220.out _;(with_reducible repeat (first|refine blk_drewN ?_ _|refine blk_drew ?_|refine blk_alloc ?_ _));refine blk_far ?_ NB212_220.out _;(with_reducible repeat (first|refine blk_drewN ?_ _|refine blk_drew ?_|refine blk_alloc ?_ _));refine blk_far ?_ NB212_220.out _;(with_reducible repeat (first|refine blk_drewN ?_ _|refine blk_drew ?_|refine blk_alloc ?_ _));exact BK212.out) Try.underlying39 rfl (by kernel_rfl)) rfl ?_
  exact ⟨_,by first|rfl|(simp [errW_none,errW_some] <;> rfl)|(simp [*,errW_none,errW_some] <;> rfl),by first|exact Kd.R_nil _ _ _ _ _|exact Kd.N_nil _ _ _ _ _|exact Kd.V_nil _ _ _ _ _|exact Kd.Q_nil _ _ _ _ _|exact Kd.S_nil _ _ _ _ _,by repeat (first|exact gB HB|refine below_set ?_ GE212.out|refine below_set ?_ GE220.out)⟩
end Go.Proofs.Ytdhdfmmefghijab.P
namespace Go.Proofs.Ytdhdfmmefghijab.P
open Go.RowKit Go.Proofs.YtdhdfmmefghijabW.PrintWords Go.Proofs.YtdhdfmmefghijabW.PrintLast Go.Proofs.YtdhdfmmefghijabW.PrintMore
attribute [local go_sem] max2_int min2_int max_two min_two max_three min_three max_four min_four
set_option linter.unusedVariables false
set_option linter.unusedSimpArgs false
def spec_l15Rd_of.f (k:Nat) (s0_0:List Int) (s0_1:Int) (l1:List ByteArray):Option (ByteArray × Int):=(spec_l15Rd_pick.f k s0_0 s0_1 (l1.length:Int)).bind fun bt222=>(if 0≤bt222.1 then (if bt222.1 < (l1.length:Int) then (some (rdOf ByteArray.empty l1 bt222.1,bt222.2)) else (none)) else (none))
set_option maxHeartbeats 8000000 in
set_option maxRecDepth 100000 in
theorem spec_l15Rd_of.calls (k:Nat) (g:Nat) (s0_0:List Int) (s0_1:Int) (A1:Option Addr) (c1:Nat) (l1:List ByteArray) (r1:ByteArray) (r2:Int) (w0 w:World) (hI:IsS67 w0 w g s0_0 s0_1) (hB:Below w0.heap.size w0 w) (hr1:Kd.C Kd.string w A1 l1.length l1) (hc1:l1.length≤c1) (hf1:∀ ad,A1=some ad→0 < l1.length→ad.block ≠ g) (h:spec_l15Rd_of.f k s0_0 s0_1 l1=some (r1,r2)) :
  Calls Try.prog 66 #[.pointer (some ⟨g,0,none⟩),.slice A1 l1.length c1] w fun e w'=>e=.returned (.string r1)∧IsS67 w0 w' g s0_0 r2∧Below w0.heap.size w0 w'∧KeepBut w w' g none:=by
 have HR1:=Aside0.mk hr1
 have HC1:=Aside0.mk hc1
 clear hr1 hc1
 have HI0:=Aside0.mk hI
 have HK:=Aside0.mk (KeepBut.refl w g none)
 have HL:=Aside0.mk hB.size
 clear hI
 have HW0:=Aside0.mk hB.size
 have HB:=Aside0.mk hB
 clear hB
 have H:((spec_l15Rd_pick.f k s0_0 s0_1 (l1.length:Int)).bind fun bt222=>(if 0≤bt222.1 then (if bt222.1 < (l1.length:Int) then (some (rdOf ByteArray.empty l1 bt222.1,bt222.2)) else (none)) else (none)))=some (r1,r2):=h
 clear h
 replace H:=Option.bind_eq_some_iff.mp H
 obtain ⟨⟨t222,t223⟩,A30,H⟩:=H
 replace H:(if 0≤t222 then (if t222 < (l1.length:Int) then (some (rdOf ByteArray.empty l1 t222,t223)) else (none)) else (none))=some (r1,r2):=H
 have A3:=Aside0.mk A30
 clear A30
 by_cases c4:0≤t222
 ·rw [if_pos c4] at H
  have c4b0:decide (0≤t222)=true:=decide_eq_true c4
  clear c4
  by_cases c5:t222 < (l1.length:Int)
  ·rw [if_pos c5] at H
   have c5b0:decide (t222 < (l1.length:Int))=true:=decide_eq_true c5
   clear c5
   simp only [Option.some.injEq,Prod.mk.injEq] at H
   obtain ⟨rfl,rfl⟩:=H
   go_enter Try.func66,Try.ntmps66
   go_wp2_with (first|((with_reducible refine gate_callee (f:=54) rfl ?_);refine goesL_ (some 9) rfl rfl Try.func54 (by kernel_rfl) rfl #[.pointer (some ⟨g,0,none⟩),.int .i64 (l1.length:Int)] rfl (by (try simp only [List.map_toArray,List.map_cons,List.map_nil]);first|done|rfl|(simp only [List.length_drop,List.length_take];rfl)) ?_;(with_reducible refine (spec_l15Rd_pick.calls k g s0_0 s0_1 (l1.length:Int) t222 t223 w0 _ ?side1 ?side2 A3.out).mono ?_);(case side1=>repeat (first|(with_reducible first|exact HI0.out|apply IsS67.alloc|apply IsS67.drewN|apply IsS67.drew|apply IsS67.set_1)|exact HI0.out));(case side2=>repeat (first|exact gB HB|refine below_set ?_ (IsS67.ge HI0.out)));rintro e w6 ⟨rfl,hi,hb,hk⟩;refine ⟨_,rfl,?_⟩;have n0_:=Aside0.mk (KeepBut.trans (by repeat (first|exact gW HK|apply KeepBut.set_)) hk (.inl rfl));have n1_:=Aside0.mk (hb);have n2_:=Aside0.mk (hi);clear HK;clear HB;clear HI0;have HK:=n0_;have HB:=n1_;have HI0:=n2_;clear n0_ n1_ n2_;(try clear hb);(try clear hb2);(try clear hk);(try clear hi);have p224:0≤(t222:Int):=of_decide_eq_true (by first|(with_reducible assumption)|assumption);have q224:t222 < (l1.length:Int):=of_decide_eq_true (by first|(with_reducible assumption)|assumption);obtain ⟨ad224,e224,hx224_0⟩:=Kd.at_string HR1.out t222 p224 q224;cases e224;replace hx224_0:=keep_cell HK.out hx224_0 (by first|(rw [add_block];exact hf1 _ rfl (by omega))|exact hf1 _ rfl (by omega)|exact hf1 ad224 rfl (by omega));replace p224:=eq_true p224;replace q224:=eq_true q224))
   go_ret
   exact ⟨by first|rfl|(simp [errW_none,errW_some] <;> rfl)|(simp [*,errW_none,errW_some] <;> rfl),by repeat (first|(with_reducible first|exact HI0.out|apply IsS67.alloc|apply IsS67.drewN|apply IsS67.drew|apply IsS67.set_1)|exact HI0.out),by repeat (first|exact gB HB|refine below_set ?_ (IsS67.ge HI0.out)),by repeat (first|exact gW HK|apply KeepBut.set_)⟩
  ·rw [if_neg c5] at H
   exact absurd H (by simp)
 ·rw [if_neg c4] at H
  exact absurd H (by simp)
end Go.Proofs.Ytdhdfmmefghijab.P
namespace Go.Proofs.Ytdhdfmmefghijab.P
open Go.RowKit Go.Proofs.YtdhdfmmefghijabW.PrintWords Go.Proofs.YtdhdfmmefghijabW.PrintLast Go.Proofs.YtdhdfmmefghijabW.PrintMore
attribute [local go_sem] max2_int min2_int max_two min_two max_three min_three max_four min_four
set_option linter.unusedVariables false
set_option linter.unusedSimpArgs false
def spec_l1Word2.f (k:Nat) (s0_0:List Int) (s0_1:Int):Option (ByteArray × Int):=(spec_l15Rd_of.f k s0_0 s0_1 (([(⟨#[97]⟩:ByteArray),(⟨#[98,98]⟩:ByteArray),(⟨#[99,99,99]⟩:ByteArray),(⟨#[100,100,100,100]⟩:ByteArray),(⟨#[102,40]⟩:ByteArray),(⟨#[41]⟩:ByteArray),(⟨#[44]⟩:ByteArray),(⟨#[120,61,49]⟩:ByteArray),(⟨#[97,98,99,100,101,102,103,104]⟩:ByteArray),(⟨#[101]⟩:ByteArray)]:List ByteArray))).bind fun bt228=>(some (bt228.1,bt228.2))
set_option maxHeartbeats 8000000 in
set_option maxRecDepth 100000 in
theorem spec_l1Word2.calls (k:Nat) (g:Nat) (s0_0:List Int) (s0_1:Int) (r1:ByteArray) (r2:Int) (w0 w:World) (hI:IsS67 w0 w g s0_0 s0_1) (hB:Below w0.heap.size w0 w) (h:spec_l1Word2.f k s0_0 s0_1=some (r1,r2)) :
  Calls Try.prog 92 #[.pointer (some ⟨g,0,none⟩)] w fun e w'=>e=.returned (.string r1)∧IsS67 w0 w' g s0_0 r2∧Below w0.heap.size w0 w'∧KeepBut w w' g none:=by
 have HI0:=Aside0.mk hI
 have HK:=Aside0.mk (KeepBut.refl w g none)
 have HL:=Aside0.mk hB.size
 clear hI
 have HW0:=Aside0.mk hB.size
 have HB:=Aside0.mk hB
 clear hB
 have H:((spec_l15Rd_of.f k s0_0 s0_1 (([(⟨#[97]⟩:ByteArray),(⟨#[98,98]⟩:ByteArray),(⟨#[99,99,99]⟩:ByteArray),(⟨#[100,100,100,100]⟩:ByteArray),(⟨#[102,40]⟩:ByteArray),(⟨#[41]⟩:ByteArray),(⟨#[44]⟩:ByteArray),(⟨#[120,61,49]⟩:ByteArray),(⟨#[97,98,99,100,101,102,103,104]⟩:ByteArray),(⟨#[101]⟩:ByteArray)]:List ByteArray))).bind fun bt228=>(some (bt228.1,bt228.2)))=some (r1,r2):=h
 clear h
 obtain ⟨y225,hy225⟩:∃ y_:List ByteArray,y_=(([(⟨#[97]⟩:ByteArray),(⟨#[98,98]⟩:ByteArray),(⟨#[99,99,99]⟩:ByteArray),(⟨#[100,100,100,100]⟩:ByteArray),(⟨#[102,40]⟩:ByteArray),(⟨#[41]⟩:ByteArray),(⟨#[44]⟩:ByteArray),(⟨#[120,61,49]⟩:ByteArray),(⟨#[97,98,99,100,101,102,103,104]⟩:ByteArray),(⟨#[101]⟩:ByteArray)]:List ByteArray)):=⟨_,rfl⟩
 replace H:((spec_l15Rd_of.f k s0_0 s0_1 y225).bind fun bt228=>(some (bt228.1,bt228.2)))=some (r1,r2):=by first|(rw [hy225];with_reducible exact H)|(have H2_:=(Option.bind_some _ _).symm.trans H;rw [hy225];with_reducible exact H2_)|(have H2_:=(Option.bind_some _ _).symm.trans H;with_reducible exact H2_)|with_reducible exact H|(rw [hy225];exact H)|exact H
 have Ny225:=Aside0.mk hy225
 clear hy225
 replace H:=Option.bind_eq_some_iff.mp H
 obtain ⟨⟨t228,t229⟩,A20,H⟩:=H
 replace H:(some (t228,t229))=some (r1,r2):=H
 have A2:=Aside0.mk A20
 clear A20
 simp only [Option.some.injEq,Prod.mk.injEq] at H
 obtain ⟨rfl,rfl⟩:=H
 go_enter Try.func92,Try.ntmps92
 go_wp2_with (first|((with_reducible refine gate_dst (N:=4) rfl ?_);refine Kd.R_lit Kd.string _ 9 ?hg (N:=4) ?hd (xs:=([(⟨#[97]⟩:ByteArray),(⟨#[98,98]⟩:ByteArray),(⟨#[99,99,99]⟩:ByteArray),(⟨#[100,100,100,100]⟩:ByteArray),(⟨#[102,40]⟩:ByteArray),(⟨#[41]⟩:ByteArray),(⟨#[44]⟩:ByteArray),(⟨#[120,61,49]⟩:ByteArray),(⟨#[97,98,99,100,101,102,103,104]⟩:ByteArray),(⟨#[101]⟩:ByteArray)]:List ByteArray)) (inner:=[.string (⟨#[97]⟩:ByteArray),.string (⟨#[98,98]⟩:ByteArray),.string (⟨#[99,99,99]⟩:ByteArray),.string (⟨#[100,100,100,100]⟩:ByteArray),.string (⟨#[102,40]⟩:ByteArray),.string (⟨#[41]⟩:ByteArray),.string (⟨#[44]⟩:ByteArray),.string (⟨#[120,61,49]⟩:ByteArray),.string (⟨#[97,98,99,100,101,102,103,104]⟩:ByteArray),.string (⟨#[101]⟩:ByteArray)]) (ok:=fun _=>True) (okp:=fun _=>True) ?hr ?hp (fun _ hk=>hk) trivial (Below.refl _ _) (Nat.le_refl _) (by simp) ?_;(case hd=>rfl);(case hg=>rfl);(case hr=>first|(go_simp;done)|(go_simp;rfl));(case hp=>exact (Reps.one (show Kd.M Kd.string _ _ _ (⟨#[97]⟩:ByteArray) [.string (⟨#[97]⟩:ByteArray)] from rfl) (Reps.one (show Kd.M Kd.string _ _ _ (⟨#[98,98]⟩:ByteArray) [.string (⟨#[98,98]⟩:ByteArray)] from rfl) (Reps.one (show Kd.M Kd.string _ _ _ (⟨#[99,99,99]⟩:ByteArray) [.string (⟨#[99,99,99]⟩:ByteArray)] from rfl) (Reps.one (show Kd.M Kd.string _ _ _ (⟨#[100,100,100,100]⟩:ByteArray) [.string (⟨#[100,100,100,100]⟩:ByteArray)] from rfl) (Reps.one (show Kd.M Kd.string _ _ _ (⟨#[102,40]⟩:ByteArray) [.string (⟨#[102,40]⟩:ByteArray)] from rfl) (Reps.one (show Kd.M Kd.string _ _ _ (⟨#[41]⟩:ByteArray) [.string (⟨#[41]⟩:ByteArray)] from rfl) (Reps.one (show Kd.M Kd.string _ _ _ (⟨#[44]⟩:ByteArray) [.string (⟨#[44]⟩:ByteArray)] from rfl) (Reps.one (show Kd.M Kd.string _ _ _ (⟨#[120,61,49]⟩:ByteArray) [.string (⟨#[120,61,49]⟩:ByteArray)] from rfl) (Reps.one (show Kd.M Kd.string _ _ _ (⟨#[97,98,99,100,101,102,103,104]⟩:ByteArray) [.string (⟨#[97,98,99,100,101,102,103,104]⟩:ByteArray)] from rfl) (Reps.one (show Kd.M Kd.string _ _ _ (⟨#[101]⟩:ByteArray) [.string (⟨#[101]⟩:ByteArray)] from rfl) (Reps.none _ _))))))))))));intro v226 w3 ho4 hb hg_ hnew_;clear hg_ hnew_;(first|rw [← Ny225.out] at ho4|(simp only [Int.reduceToNat] at ho4;rw [← Ny225.out] at ho4));have n0_:=Aside0.mk (Kd.R_lower ho4 (keep_size (w:=w) (g:=g) (row:=none) (by repeat (first|exact gW HK|apply KeepBut.set_))));have n1_:=Aside0.mk (IsS67.below (by repeat (first|(with_reducible first|exact HI0.out|apply IsS67.alloc|apply IsS67.drewN|apply IsS67.drew|apply IsS67.set_1)|exact HI0.out)) hb);have n2_:=Aside0.mk (KeepBut.trans (by repeat (first|exact gW HK|apply KeepBut.set_)) (KeepBut.of_below hb g none) (.inl rfl));have n3_:=Aside0.mk (below_step (by repeat (first|exact gB HB|refine below_set ?_ (IsS67.ge HI0.out))) hb);clear HI0;clear HK;clear HB;have HO227:=n0_;have HI0:=n1_;have HK:=n2_;have HB:=n3_;clear n0_ n1_ n2_ n3_;clear hb ho4;obtain ⟨Ao5,co5,eo5⟩:=Kd.R_slice HO227.out;subst eo5)|((with_reducible refine gate_callee (f:=66) rfl ?_);refine goesL_ (some 5) rfl rfl Try.func66 (by kernel_rfl) rfl #[.pointer (some ⟨g,0,none⟩),.slice Ao5 y225.length co5] rfl (by (try simp only [List.map_toArray,List.map_cons,List.map_nil]);first|done|rfl|(simp only [List.length_drop,List.length_take];rfl)) ?_;(with_reducible refine (spec_l15Rd_of.calls k g s0_0 s0_1 _ _ y225 t228 t229 w0 _ ?side1 ?side2 ?side3 ?side4 ?side5 A2.out).mono ?_);(case side1=>repeat (first|(with_reducible first|exact HI0.out|apply IsS67.alloc|apply IsS67.drewN|apply IsS67.drew|apply IsS67.set_1)|exact HI0.out));(case side2=>repeat (first|exact gB HB|refine below_set ?_ (IsS67.ge HI0.out)));(case side3=>exact gC ((Kd.R_reads' HO227.out).2.2));(case side4=>exact (Kd.R_reads' HO227.out).2.1);(case side5=>exact far_slice (IsS67.own_ne HI0.out HO227.out (by decide)));rintro e w6 ⟨rfl,hi,hb,hk⟩;refine ⟨_,rfl,?_⟩;have n0_:=Aside0.mk (Kd.R_mono (Kd.R_keep (IsS67.apart (show IsS67 w0 _ g s0_0 s0_1 from by repeat (first|(with_reducible first|exact HI0.out|apply IsS67.alloc|apply IsS67.drewN|apply IsS67.drew|apply IsS67.set_1)|exact HI0.out)) (gR HO227) (by decide)) hk (fun _ h=>h.2)) (fun _ h=>h.1));have n1_:=Aside0.mk (KeepBut.trans (by repeat (first|exact gW HK|apply KeepBut.set_)) hk (.inl rfl));have n2_:=Aside0.mk (hb);have n3_:=Aside0.mk (hi);clear HO227;clear HK;clear HB;clear HI0;have HO227:=n0_;have HK:=n1_;have HB:=n2_;have HI0:=n3_;clear n0_ n1_ n2_ n3_;(try clear hb);(try clear hb2);(try clear hk);(try clear hi)))
 go_ret
 exact ⟨by first|rfl|(simp [errW_none,errW_some] <;> rfl)|(simp [*,errW_none,errW_some] <;> rfl),by repeat (first|(with_reducible first|exact HI0.out|apply IsS67.alloc|apply IsS67.drewN|apply IsS67.drew|apply IsS67.set_1)|exact HI0.out),by repeat (first|exact gB HB|refine below_set ?_ (IsS67.ge HI0.out)),by repeat (first|exact gW HK|apply KeepBut.set_)⟩
end Go.Proofs.Ytdhdfmmefghijab.P
namespace Go.Proofs.Ytdhdfmmefghijab.P
open Go.RowKit Go.Proofs.YtdhdfmmefghijabW.PrintWords Go.Proofs.YtdhdfmmefghijabW.PrintLast Go.Proofs.YtdhdfmmefghijabW.PrintMore
attribute [local go_sem] max2_int min2_int max_two min_two max_three min_three max_four min_four
set_option linter.unusedVariables false
set_option linter.unusedSimpArgs false
def spec_l1Cat.f (a0_0:Int) (a0_1:Int) (a0_2:ByteArray) (l0_3:List (SDoc)) (a1_0:Int) (a1_1:Int) (a1_2:ByteArray) (l1_3:List (SDoc)):Option (Int × Int × ByteArray × (List (SDoc))):=some (7,0,(⟨#[]⟩:ByteArray),(([(⟨a0_0,a0_1,a0_2,l0_3⟩:SDoc),(⟨a1_0,a1_1,a1_2,l1_3⟩:SDoc)]:List (SDoc))))
set_option maxHeartbeats 8000000 in
set_option maxRecDepth 100000 in
theorem spec_l1Cat.calls (a0_0:Int) (a0_1:Int) (a0_2:ByteArray) (P0_3_:Nat→Prop) (A0_3:Option Addr) (c0_3:Nat) (l0_3:List (SDoc)) (a1_0:Int) (a1_1:Int) (a1_2:ByteArray) (P1_3_:Nat→Prop) (A1_3:Option Addr) (c1_3:Nat) (l1_3:List (SDoc)) (r1:Int) (r2:Int) (r3:ByteArray) (r4:List (SDoc)) (w:World) (hs0_3:Kd.V k39 39 w w.heap.size (fun k_=>P0_3_ k_) (.slice A0_3 l0_3.length c0_3) l0_3) (hs1_3:Kd.V k39 39 w w.heap.size (fun k_=>P1_3_ k_) (.slice A1_3 l1_3.length c1_3) l1_3) (h:spec_l1Cat.f a0_0 a0_1 a0_2 l0_3 a1_0 a1_1 a1_2 l1_3=some (r1,r2,r3,r4)) :
  Calls Try.prog 93 #[.agg #[.int .i64 a0_0,.int .i64 a0_1,.string a0_2,.slice A0_3 l0_3.length c0_3],.agg #[.int .i64 a1_0,.int .i64 a1_1,.string a1_2,.slice A1_3 l1_3.length c1_3]] w fun e w'=>∃ v3_:Value,e=.returned (.agg #[.int .i64 r1,.int .i64 r2,.string r3,v3_])∧Kd.N k39 39 w' w.heap.size (fun k_=>((P0_3_ k_ ∨ P1_3_ k_) ∨ w.heap.size≤k_)) v3_ r4∧Below w.heap.size w w':=by
 have hu39:=Try.underlying39
 have HO0_3:=Aside0.mk (show Kd.V k39 39 w w.heap.size (fun k_=>((P0_3_ k_ ∨ P1_3_ k_) ∨ w.heap.size≤k_)) (.slice A0_3 l0_3.length c0_3) l0_3 from Kd.V_mono hs0_3 (fun k_ hk=>.inl (.inl hk)))
 have HO1_3:=Aside0.mk (show Kd.V k39 39 w w.heap.size (fun k_=>((P0_3_ k_ ∨ P1_3_ k_) ∨ w.heap.size≤k_)) (.slice A1_3 l1_3.length c1_3) l1_3 from Kd.V_mono hs1_3 (fun k_ hk=>.inl (.inr hk)))
 have HB:=Aside0.mk (Below.refl w.heap.size w)
 have H:(some (7,0,(⟨#[]⟩:ByteArray),(([(⟨a0_0,a0_1,a0_2,l0_3⟩:SDoc),(⟨a1_0,a1_1,a1_2,l1_3⟩:SDoc)]:List (SDoc)))))=some (r1,r2,r3,r4):=h
 clear h
 obtain ⟨y233,hy233⟩:∃ y_:List (SDoc),y_=(([(⟨a0_0,a0_1,a0_2,l0_3⟩:SDoc),(⟨a1_0,a1_1,a1_2,l1_3⟩:SDoc)]:List (SDoc))):=⟨_,rfl⟩
 replace H:(some (7,0,(⟨#[]⟩:ByteArray),y233))=some (r1,r2,r3,r4):=by first|(rw [hy233];with_reducible exact H)|(have H2_:=(Option.bind_some _ _).symm.trans H;rw [hy233];with_reducible exact H2_)|(have H2_:=(Option.bind_some _ _).symm.trans H;with_reducible exact H2_)|with_reducible exact H|(rw [hy233];exact H)|exact H
 have Ny233:=Aside0.mk hy233
 clear hy233
 simp only [Option.some.injEq,Prod.mk.injEq] at H
 obtain ⟨rfl,rfl,rfl,rfl⟩:=H
 go_enter Try.func93,Try.ntmps93
 go_wp2_with (first|((with_reducible refine gate_dst (N:=2) rfl ?_);refine box_event ?hg (N:=2) ?hd (cs:=#[.int .i64 a0_0,.int .i64 a0_1,.string a0_2,.slice A0_3 l0_3.length c0_3]) (t:=39) ?hr ?_;(case hd=>rfl);(case hg=>rfl);(case hr=>first|(go_simp;done)|(go_simp;rfl));intro gb230 hg w3 hbox hb;have n0_:=Aside0.mk (Kd.V_below (Kd.V_elderB (gV HO0_3) gb230 (Nat.le_of_eq hg.symm)) hb);have n1_:=Aside0.mk (Kd.V_below (Kd.V_elderB (gV HO1_3) gb230 (Nat.le_of_eq hg.symm)) hb);have n2_:=Aside0.mk (below_step (gB HB) hb);have n3_:=Aside0.mk (hbox);have n4_:=Aside0.mk ((by rw [hg];exact (below_size (gB HB)):w.heap.size≤gb230));have n5_:=Aside0.mk ((by rw [hg];exact (below_size (gB HB)):w.heap.size≤gb230));clear HO0_3;clear HO1_3;clear HB;have HO0_3:=n0_;have HO1_3:=n1_;have HB:=n2_;have BK230:=n3_;have GW230:=n4_;have GE230:=n5_;clear n0_ n1_ n2_ n3_ n4_ n5_;clear hb hbox hg)|((with_reducible refine gate_dst (N:=3) rfl ?_);refine box_event ?hg (N:=3) ?hd (cs:=#[.int .i64 a1_0,.int .i64 a1_1,.string a1_2,.slice A1_3 l1_3.length c1_3]) (t:=39) ?hr ?_;(case hd=>rfl);(case hg=>rfl);(case hr=>first|(go_simp;done)|(go_simp;rfl));intro gb231 hg w4 hbox hb;have n0_:=Aside0.mk (Kd.V_below (Kd.V_elderB (gV HO0_3) gb231 (Nat.le_of_eq hg.symm)) hb);have n1_:=Aside0.mk (Kd.V_below (Kd.V_elderB (gV HO1_3) gb231 (Nat.le_of_eq hg.symm)) hb);have n2_:=Aside0.mk (blk_below (g:=gb230) (o:=.cells #[.int .i64 a0_0,.int .i64 a0_1,.string a0_2,.slice A0_3 l0_3.length c0_3] 39 (0,0)) (gK BK230) hb);have n3_:=Aside0.mk (below_step (by repeat (first|exact gB HB|refine below_set ?_ GE230.out)) hb);have n4_:=Aside0.mk (hbox);have n5_:=Aside0.mk ((by rw [hg];exact (below_size (by repeat (first|exact gB HB|refine below_set ?_ GE230.out))):w.heap.size≤gb231));have n6_:=Aside0.mk ((by rw [hg];exact (below_size (by repeat (first|exact gB HB|refine below_set ?_ GE230.out))):w.heap.size≤gb231));have n7_:=Aside0.mk ((by rw [hg];exact Nat.ne_of_lt (blk_lt (g:=gb230) (o:=.cells #[.int .i64 a0_0,.int .i64 a0_1,.string a0_2,.slice A0_3 l0_3.length c0_3] 39 (0,0)) (gK BK230)):gb230 ≠ gb231));have n8_:=Aside0.mk ((by rw [hg];exact Nat.ne_of_gt (blk_lt (g:=gb230) (o:=.cells #[.int .i64 a0_0,.int .i64 a0_1,.string a0_2,.slice A0_3 l0_3.length c0_3] 39 (0,0)) (gK BK230)):gb231 ≠ gb230));clear HO0_3;clear HO1_3;clear BK230;clear HB;have HO0_3:=n0_;have HO1_3:=n1_;have BK230:=n2_;have HB:=n3_;have BK231:=n4_;have GW231:=n5_;have GE231:=n6_;have NB230_231:=n7_;have NB231_230:=n8_;clear n0_ n1_ n2_ n3_ n4_ n5_ n6_ n7_ n8_;clear hb hbox hg)|((with_reducible refine gate_dst (N:=4) rfl ?_);refine box_event ?hg (N:=4) ?hd (cs:=#[.int .i64 0,.int .i64 0,.string (⟨#[]⟩:ByteArray),.slice none 0 0]) (t:=39) ?hr ?_;(case hd=>rfl);(case hg=>rfl);(case hr=>first|(go_simp;done)|(go_simp;rfl));intro gb232 hg w5 hbox hb;have n0_:=Aside0.mk (Kd.V_below (Kd.V_elderB (gV HO0_3) gb232 (Nat.le_of_eq hg.symm)) hb);have n1_:=Aside0.mk (Kd.V_below (Kd.V_elderB (gV HO1_3) gb232 (Nat.le_of_eq hg.symm)) hb);have n2_:=Aside0.mk (blk_below (g:=gb230) (o:=.cells #[.int .i64 a0_0,.int .i64 a0_1,.string a0_2,.slice A0_3 l0_3.length c0_3] 39 (0,0)) (gK BK230) hb);have n3_:=Aside0.mk (blk_below (g:=gb231) (o:=.cells #[.int .i64 a1_0,.int .i64 a1_1,.string a1_2,.slice A1_3 l1_3.length c1_3] 39 (0,0)) (gK BK231) hb);have n4_:=Aside0.mk (below_step (by repeat (first|exact gB HB|refine below_set ?_ GE230.out|refine below_set ?_ GE231.out)) hb);have n5_:=Aside0.mk (hbox);have n6_:=Aside0.mk ((by rw [hg];exact (below_size (by repeat (first|exact gB HB|refine below_set ?_ GE230.out|refine below_set ?_ GE231.out))):w.heap.size≤gb232));have n7_:=Aside0.mk ((by rw [hg];exact (below_size (by repeat (first|exact gB HB|refine below_set ?_ GE230.out|refine below_set ?_ GE231.out))):w.heap.size≤gb232));have n8_:=Aside0.mk ((by rw [hg];exact Nat.ne_of_lt (blk_lt (g:=gb230) (o:=.cells #[.int .i64 a0_0,.int .i64 a0_1,.string a0_2,.slice A0_3 l0_3.length c0_3] 39 (0,0)) (gK BK230)):gb230 ≠ gb232));have n9_:=Aside0.mk ((by rw [hg];exact Nat.ne_of_gt (blk_lt (g:=gb230) (o:=.cells #[.int .i64 a0_0,.int .i64 a0_1,.string a0_2,.slice A0_3 l0_3.length c0_3] 39 (0,0)) (gK BK230)):gb232 ≠ gb230));have n10_:=Aside0.mk ((by rw [hg];exact Nat.ne_of_lt (blk_lt (g:=gb231) (o:=.cells #[.int .i64 a1_0,.int .i64 a1_1,.string a1_2,.slice A1_3 l1_3.length c1_3] 39 (0,0)) (gK BK231)):gb231 ≠ gb232));have n11_:=Aside0.mk ((by rw [hg];exact Nat.ne_of_gt (blk_lt (g:=gb231) (o:=.cells #[.int .i64 a1_0,.int .i64 a1_1,.string a1_2,.slice A1_3 l1_3.length c1_3] 39 (0,0)) (gK BK231)):gb232 ≠ gb231));clear HO0_3;clear HO1_3;clear BK230;clear BK231;clear HB;have HO0_3:=n0_;have HO1_3:=n1_;have BK230:=n2_;have BK231:=n3_;have HB:=n4_;have BK232:=n5_;have GW232:=n6_;have GE232:=n7_;have NB230_232:=n8_;have NB232_230:=n9_;have NB231_232:=n10_;have NB232_231:=n11_;clear n0_ n1_ n2_ n3_ n4_ n5_ n6_ n7_ n8_ n9_ n10_ n11_;clear hb hbox hg;have hnb6:=NB230_231.out;have hnc6:=NB231_230.out;have hnb7:=NB230_232.out;have hnc7:=NB232_230.out;have hcz8_0:w5.cell? ⟨gb230,0,none⟩=some (.int .i64 a0_0):=(blk_cell BK230.out 0).trans rfl;have hcz8_1:w5.cell? ⟨gb230,1,none⟩=some (.int .i64 a0_1):=(blk_cell BK230.out 1).trans rfl;have hcz8_2:w5.cell? ⟨gb230,2,none⟩=some (.string a0_2):=(blk_cell BK230.out 2).trans rfl;have hcz8_3:w5.cell? ⟨gb230,3,none⟩=some (.slice A0_3 l0_3.length c0_3):=(blk_cell BK230.out 3).trans rfl;have hfz8_0:=blk_frozen BK230.out 0;have hfz8_1:=blk_frozen BK230.out 1;have hfz8_2:=blk_frozen BK230.out 2;have hfz8_3:=blk_frozen BK230.out 3;have hnb9:=NB231_232.out;have hnc9:=NB232_231.out;have hcz10_0:w5.cell? ⟨gb231,0,none⟩=some (.int .i64 a1_0):=(blk_cell BK231.out 0).trans rfl;have hcz10_1:w5.cell? ⟨gb231,1,none⟩=some (.int .i64 a1_1):=(blk_cell BK231.out 1).trans rfl;have hcz10_2:w5.cell? ⟨gb231,2,none⟩=some (.string a1_2):=(blk_cell BK231.out 2).trans rfl;have hcz10_3:w5.cell? ⟨gb231,3,none⟩=some (.slice A1_3 l1_3.length c1_3):=(blk_cell BK231.out 3).trans rfl;have hfz10_0:=blk_frozen BK231.out 0;have hfz10_1:=blk_frozen BK231.out 1;have hfz10_2:=blk_frozen BK231.out 2;have hfz10_3:=blk_frozen BK231.out 3)|((with_reducible refine gate_dst (N:=7) rfl ?_);refine Kd.N_lit k39 _ 39 ?hg (N':=7) ?hd (xs:=([(⟨a0_0,a0_1,a0_2,l0_3⟩:SDoc),(⟨a1_0,a1_1,a1_2,l1_3⟩:SDoc)]:List (SDoc))) (inner:=[.int .i64 a0_0,.int .i64 a0_1,.string a0_2,.slice A0_3 l0_3.length c0_3,.int .i64 a1_0,.int .i64 a1_1,.string a1_2,.slice A1_3 l1_3.length c1_3]) (ok:=(fun k_=>((P0_3_ k_ ∨ P1_3_ k_) ∨ w.heap.size≤k_)∧k_ ≠ gb230∧k_ ≠ gb231∧k_ ≠ gb232)) (okp:=(fun k_=>((P0_3_ k_ ∨ P1_3_ k_) ∨ w.heap.size≤k_)∧k_ ≠ gb230∧k_ ≠ gb231∧k_ ≠ gb232)) ?hr ?hp (fun _ hk=>hk) ((show ∀ k_,w5.heap.size≤k_→(fun k_=>((P0_3_ k_ ∨ P1_3_ k_) ∨ w.heap.size≤k_)∧k_ ≠ gb230∧k_ ≠ gb231∧k_ ≠ gb232) k_ from fun k_ hk=>⟨(.inr (Nat.le_trans (below_size (by repeat (first|exact gB HB|refine below_set ?_ GE230.out|refine below_set ?_ GE231.out|refine below_set ?_ GE232.out))) hk)),Kd.freshB (g:=gb230) (o:=.cells #[.int .i64 a0_0,.int .i64 a0_1,.string a0_2,.slice A0_3 l0_3.length c0_3] 39 (0,0)) (gK BK230) k_ hk,Kd.freshB (g:=gb231) (o:=.cells #[.int .i64 a1_0,.int .i64 a1_1,.string a1_2,.slice A1_3 l1_3.length c1_3] 39 (0,0)) (gK BK231) k_ hk,Kd.freshB (g:=gb232) (o:=.cells #[.int .i64 0,.int .i64 0,.string (⟨#[]⟩:ByteArray),.slice none 0 0] 39 (0,0)) (gK BK232) k_ hk⟩) _ (Nat.le_refl _)) (Below.refl _ _) (Nat.le_refl _) (by simp) ?_;(case hd=>rfl);(case hg=>rfl);(case hr=>first|(go_simp;done)|(go_simp;rfl));(case hp=>exact (Reps.c4 (show Kd.FK k39 _ _ (⟨a0_0,a0_1,a0_2,l0_3⟩:SDoc) [.int .i64 a0_0,.int .i64 a0_1,.string a0_2,.slice A0_3 l0_3.length c0_3] from (k39_mkF _ _ (⟨a0_0,a0_1,a0_2,l0_3⟩:SDoc) (Kd.V_reads' (Kd.V_mono (ok':=(fun k_=>((P0_3_ k_ ∨ P1_3_ k_) ∨ w.heap.size≤k_)∧k_ ≠ gb230∧k_ ≠ gb231∧k_ ≠ gb232)) (HO0_3.out) (fun k_ hk=>⟨hk.1.1.1,⟨hk.1.1.2,⟨hk.1.2,hk.2⟩⟩⟩))).2.1 (Kd.V_F (Kd.V_mono (ok':=(fun k_=>((P0_3_ k_ ∨ P1_3_ k_) ∨ w.heap.size≤k_)∧k_ ≠ gb230∧k_ ≠ gb231∧k_ ≠ gb232)) (HO0_3.out) (fun k_ hk=>⟨hk.1.1.1,⟨hk.1.1.2,⟨hk.1.2,hk.2⟩⟩⟩))))) (Reps.c4 (show Kd.FK k39 _ _ (⟨a1_0,a1_1,a1_2,l1_3⟩:SDoc) [.int .i64 a1_0,.int .i64 a1_1,.string a1_2,.slice A1_3 l1_3.length c1_3] from (k39_mkF _ _ (⟨a1_0,a1_1,a1_2,l1_3⟩:SDoc) (Kd.V_reads' (Kd.V_mono (ok':=(fun k_=>((P0_3_ k_ ∨ P1_3_ k_) ∨ w.heap.size≤k_)∧k_ ≠ gb230∧k_ ≠ gb231∧k_ ≠ gb232)) (HO1_3.out) (fun k_ hk=>⟨hk.1.1.1,⟨hk.1.1.2,⟨hk.1.2,hk.2⟩⟩⟩))).2.1 (Kd.V_F (Kd.V_mono (ok':=(fun k_=>((P0_3_ k_ ∨ P1_3_ k_) ∨ w.heap.size≤k_)∧k_ ≠ gb230∧k_ ≠ gb231∧k_ ≠ gb232)) (HO1_3.out) (fun k_ hk=>⟨hk.1.1.1,⟨hk.1.1.2,⟨hk.1.2,hk.2⟩⟩⟩))))) (Reps.none _ _))));intro v234 w11 ho12 hb hg_ hnew_;clear hg_ hnew_;(first|rw [← Ny233.out] at ho12|(simp only [Int.reduceToNat] at ho12;rw [← Ny233.out] at ho12));have n0_:=Aside0.mk (Kd.V_elder' (gV HO0_3) (Kd.N_base ho12) hb);have n1_:=Aside0.mk (Kd.V_elder' (gV HO1_3) (Kd.N_base ho12) hb);have n2_:=Aside0.mk (Kd.N_lower ho12 (below_size (by repeat (first|exact gB HB|refine below_set ?_ GE230.out|refine below_set ?_ GE231.out|refine below_set ?_ GE232.out))));have n3_:=Aside0.mk (blk_below (g:=gb230) (o:=.cells #[.int .i64 a0_0,.int .i64 a0_1,.string a0_2,.slice A0_3 l0_3.length c0_3] 39 (0,0)) (gK BK230) hb);have n4_:=Aside0.mk (blk_below (g:=gb231) (o:=.cells #[.int .i64 a1_0,.int .i64 a1_1,.string a1_2,.slice A1_3 l1_3.length c1_3] 39 (0,0)) (gK BK231) hb);have n5_:=Aside0.mk (blk_below (g:=gb232) (o:=.cells #[.int .i64 0,.int .i64 0,.string (⟨#[]⟩:ByteArray),.slice none 0 0] 39 (0,0)) (gK BK232) hb);have n6_:=Aside0.mk (below_step (by repeat (first|exact gB HB|refine below_set ?_ GE230.out|refine below_set ?_ GE231.out|refine below_set ?_ GE232.out)) hb);clear HO0_3;clear HO1_3;clear BK230;clear BK231;clear BK232;clear HB;have HO0_3:=n0_;have HO1_3:=n1_;have HO235:=n2_;have BK230:=n3_;have BK231:=n4_;have BK232:=n5_;have HB:=n6_;clear n0_ n1_ n2_ n3_ n4_ n5_ n6_;clear hb ho12;obtain ⟨Ao13,co13,eo13⟩:=Kd.N_slice HO235.out;subst eo13;have hcz14_0:w11.cell? ⟨gb232,0,none⟩=some (.int .i64 0):=(blk_cell BK232.out 0).trans rfl;have hcz14_1:w11.cell? ⟨gb232,1,none⟩=some (.int .i64 0):=(blk_cell BK232.out 1).trans rfl;have hcz14_2:w11.cell? ⟨gb232,2,none⟩=some (.string (⟨#[]⟩:ByteArray)):=(blk_cell BK232.out 2).trans rfl;have hcz14_3:w11.cell? ⟨gb232,3,none⟩=some (.slice none 0 0):=(blk_cell BK232.out 3).trans rfl;have hfz14_0:=blk_frozen BK232.out 0;have hfz14_1:=blk_frozen BK232.out 1;have hfz14_2:=blk_frozen BK232.out 2;have hfz14_3:=blk_frozen BK232.out 3))
 refine bodyPost_ret (results_cell_row rfl _ _ gb232 39 #[.int .i64 7,.int .i64 0,.string (⟨#[]⟩:ByteArray),.slice Ao13 y233.length co13] (0,0) _ rfl (by (with_reducible repeat (first|refine blk_drewN ?_ _|refine blk_drew ?_|refine blk_alloc ?_ _));refine blk_put (cs:=#[.int .i64 7,.int .i64 0,.string (⟨#[]⟩:ByteArray),.slice none 0 0]) ?_ 3 _ rfl;(with_reducible repeat (first|refine blk_drewN ?_ _|refine blk_drew ?_|refine blk_alloc ?_ _));refine blk_put (cs:=#[.int .i64 7,.int .i64 0,.string (⟨#[]⟩:ByteArray),.slice none 0 0]) ?_ 2 _ rfl;(with_reducible repeat (first|refine blk_drewN ?_ _|refine blk_drew ?_|refine blk_alloc ?_ _));refine blk_put (cs:=#[.int .i64 7,.int .i64 0,.string (⟨#[]⟩:ByteArray),.slice none 0 0]) ?_ 1 _ rfl;(with_reducible repeat (first|refine blk_drewN ?_ _|refine blk_drew ?_|refine blk_alloc ?_ _));refine blk_put (cs:=#[.int .i64 0,.int .i64 0,.string (⟨#[]⟩:ByteArray),.slice none 0 0]) ?_ 0 _ rfl;(with_reducible repeat (first|refine blk_drewN ?_ _|refine blk_drew ?_|refine blk_alloc ?_ _));exact BK232.out) Try.underlying39 rfl (by kernel_rfl)) rfl ?_
 exact ⟨_,by first|rfl|(simp [errW_none,errW_some] <;> rfl)|(simp [*,errW_none,errW_some] <;> rfl),by (with_reducible repeat (first|apply Kd.N_alloc|apply Kd.N_drewN|apply Kd.N_drew));exact Kd.N_mono (Kd.N_far (p:=⟨gb232,3,none⟩) (Kd.N_far (p:=⟨gb232,2,none⟩) (Kd.N_far (p:=⟨gb232,1,none⟩) (Kd.N_far (p:=⟨gb232,0,none⟩) (Kd.N_mono HO235.out (fun k_ hk=>(⟨hk,hk.2.2.2⟩:_∧k_ ≠ gb232))) (fun _ hk=>hk.2) (.int .i64 7)) (fun _ hk=>hk.2) (.int .i64 0)) (fun _ hk=>hk.2) (.string (⟨#[]⟩:ByteArray))) (fun _ hk=>hk.2) (.slice Ao13 y233.length co13)) (fun _ hk=>hk.1.1),by repeat (first|exact gB HB|refine below_set ?_ GE230.out|refine below_set ?_ GE231.out|refine below_set ?_ GE232.out)⟩
end Go.Proofs.Ytdhdfmmefghijab.P
