/- CONTRACTS and lemmas: each contract says that a Go function of the program, called over the translation under the theorem's own hypotheses, returns what the Lean function beside it computes. -/
import Derived.Test.YtdhdfmmefghijaaVFnParseSize3
import Derived.Test.YtdhdfmmefghijaaProg
import Derived.Below
import Derived.Deep.Draws
import Derived.Deep.AppendLies
import Derived.Maps.AppendAt
import Derived.OwnWalk
import Derived.Laws.BytesArg
import Derived.Laws.MakeOwn
import Derived.Laws.OwnMore
import Derived.Deep.OwnRows
import Derived.Tactics
import Derived.Lib.ConvBytes
import Derived.Laws.Slices
import Derived.WalkKit
import Derived.KernelRfl
import Derived.RowKit3
import Derived.Deep.LoopGhost
import Derived.Deep.QuietTactic
import Derived.BigQuiet
import Derived.WideLaws
import Derived.Deep.DeepCutAuto
import Derived.Deep.CutBlock
import Derived.Deep.RegionHeld3
import Derived.Laws.Rows
import Derived.Lib.AppendStr
import Derived.ArgAppend
import Derived.Laws.IdiomCopy
import Derived.OrdersHeld
import Derived.Laws.BitsLemmas
import Derived.RowKit
import Derived.WalkSpells
namespace Go.Proofs.Ytdhdfmmefghijaa.P
open Go.RowKit Go.Proofs.YtdhdfmmefghijaaW.PrintWords Go.Proofs.YtdhdfmmefghijaaW.PrintLast Go.Proofs.YtdhdfmmefghijaaW.PrintMore
attribute [local go_sem] max2_int min2_int max_two min_two max_three min_three max_four min_four
set_option linter.unusedVariables false
set_option linter.unusedSimpArgs false
def errW:Option Int→Value
 | none=>.nilIface
 | some c=>.iface 0 (.int .i64 c)
theorem errW_none:errW none=.nilIface:=rfl
theorem errW_some (c:Int):errW (some c)=.iface 0 (.int .i64 c):=rfl
theorem info5:(Try.prog.info? 5).map (fun i=>(i.zero,i.size,i.bytes))=some (some (.int .u8 0),1,1):=by kernel_rfl
theorem info27:(Try.prog.info? 27).map (fun i=>(i.zero,i.size,i.bytes))=some (some (.agg #[(.int .i64 0),(.int .i64 0),(.string ⟨#[]⟩),(.slice none 0 0)]),4,56):=by kernel_rfl
structure SDoc where
 f0:Int
 f1:Int
 f2:ByteArray
 f3:(List SDoc)
def zDoc:SDoc:=⟨(0:Int),(0:Int),(⟨#[]⟩:ByteArray),([]:List SDoc)⟩
def F27 (d:Kd SDoc):Kd SDoc:=Kd.iso (Kd.pair (Kd.int .i64) (Kd.pair (Kd.int .i64) (Kd.pair Kd.string (Kd.slice 27 d)))) (fun x:SDoc=>(x.f0,x.f1,x.f2,x.f3))
theorem mono27:Kd.Mono F27:=Kd.mono_iso _ (Kd.mono_pair (Kd.mono_const _) (Kd.mono_pair (Kd.mono_const _) (Kd.mono_pair (Kd.mono_const _) (Kd.mono_slice 27 Kd.mono_id))))
theorem sub27:Kd.Sub F27 [27]:=Kd.sub_iso _ (Kd.sub_pair (Kd.sub_const _ (by decide)) (Kd.sub_pair (Kd.sub_const _ (by decide)) (Kd.sub_pair (Kd.sub_const _ (by decide)) (Kd.sub_slice 27 (by decide) Kd.sub_id))))
theorem sz27:∀ n,(Kd.upto F27 4 [27] n).sz=4:=Kd.upto_sz (fun _=>rfl)
def k27:Kd SDoc:=Kd.fix F27 4 [27] sz27 (Kd.upto_E sub27)
theorem k27_open {w:World} {x:SDoc} {cs:List Value} (h:k27.K w x cs):∃ A3 c3,cs=[.int .i64 x.f0,.int .i64 x.f1,.string x.f2,.slice A3 x.f3.length c3]∧x.f3.length≤c3∧k27.C w A3 x.f3.length x.f3:=by
 obtain ⟨n,h⟩:=h
 cases n with
 | zero=>exact h.elim
 | succ n =>
  obtain ⟨_,_,rfl,rfl,⟨_,_,rfl,rfl,⟨_,_,rfl,rfl,⟨A3,c3,rfl,l3,g3⟩⟩⟩⟩:=h
  exact ⟨A3,c3,rfl,l3,Kd.fix_C g3⟩
theorem k27_mk (w:World) (x:SDoc) {A3:Option Addr} {c3:Nat} (l3:x.f3.length≤c3) (g3:k27.C w A3 x.f3.length x.f3):k27.K w x [.int .i64 x.f0,.int .i64 x.f1,.string x.f2,.slice A3 x.f3.length c3]:=by
 obtain ⟨n3,q3⟩:=Kd.fix_C_back mono27 g3
 have r3:=Kd.upto_C_le mono27 sz27 (show n3≤n3 by omega) q3
 exact ⟨n3+1,⟨[.int .i64 x.f0],[.int .i64 x.f1,.string x.f2,.slice A3 x.f3.length c3],rfl,rfl,⟨[.int .i64 x.f1],[.string x.f2,.slice A3 x.f3.length c3],rfl,rfl,⟨[.string x.f2],[.slice A3 x.f3.length c3],rfl,rfl,⟨A3,c3,rfl,l3,r3⟩⟩⟩⟩⟩
theorem k27_mkM (w:World) (base:Nat) (ok:Nat→Prop) (x:SDoc) {v3:Value} (g3:k27.R 27 w base ok v3 x.f3):k27.M w base ok x [.int .i64 x.f0,.int .i64 x.f1,.string x.f2,v3]:=by
 obtain ⟨n3,q3⟩:=Kd.fix_R_back mono27 g3
 have r3:=Kd.upto_R_le mono27 sz27 (show n3≤n3 by omega) q3
 exact ⟨n3+1,⟨[.int .i64 x.f0],[.int .i64 x.f1,.string x.f2,v3],rfl,rfl,⟨[.int .i64 x.f1],[.string x.f2,v3],rfl,rfl,⟨[.string x.f2],[v3],rfl,rfl,⟨v3,rfl,r3⟩⟩⟩⟩⟩
theorem k27_mkF (W:World) (ok:Nat→Prop) (x:SDoc) {A3:Option Addr} {c3:Nat} (l3:x.f3.length≤c3) (g3:Kd.F k27 W ok A3 x.f3.length x.f3):Kd.FK k27 W ok x [.int .i64 x.f0,.int .i64 x.f1,.string x.f2,.slice A3 x.f3.length c3]:=fun W2 hW=>k27_mk W2 x l3 (g3 W2 hW)
def rd_TDoc (xs:List SDoc) (i:Int):SDoc:=xs.getD i.toNat zDoc
theorem at_TDoc {w:World} {A:Option Addr} {n:Nat} {xs:List SDoc} (h:Kd.C k27 w A n xs) (i:Int) (h0:0≤i) (h1:i < n):∃ ad A3 c3,A=some ad∧w.cell? (ad.add (i.toNat * 4))=some (.int .i64 (rd_TDoc xs i).f0)∧w.cell? ⟨(ad.add (i.toNat * 4)).block,(ad.add (i.toNat * 4)).off+1,none⟩=some (.int .i64 (rd_TDoc xs i).f1)∧w.cell? ⟨(ad.add (i.toNat * 4)).block,(ad.add (i.toNat * 4)).off+2,none⟩=some (.string (rd_TDoc xs i).f2)∧w.cell? ⟨(ad.add (i.toNat * 4)).block,(ad.add (i.toNat * 4)).off+3,none⟩=some (.slice A3 (rd_TDoc xs i).f3.length c3)∧(rd_TDoc xs i).f3.length≤c3∧k27.C w A3 (rd_TDoc xs i).f3.length (rd_TDoc xs i).f3:=by
 obtain ⟨ad,c,e,_,hK,hc0⟩:=Kd.C_get h zDoc i h0 h1
 have hc:∀ j u,c[j]?=some u→w.cell? (ad.add (i.toNat * 4+j))=some u:=hc0
 obtain ⟨A3,c3,rfl,l3,g3⟩:=k27_open hK
 exact ⟨ad,A3,c3,e,hc 0 _ rfl,by rw [← add_field _ _ 1 (by omega)];exact hc 1 _ rfl,by rw [← add_field _ _ 2 (by omega)];exact hc 2 _ rfl,by rw [← add_field _ _ 3 (by omega)];exact hc 3 _ rfl,l3,g3⟩
theorem xp_isEmpty (l:List UInt8):(!l.isEmpty)=(l != []):=by cases l <;> rfl
end Go.Proofs.Ytdhdfmmefghijaa.P
namespace Go.Proofs.Ytdhdfmmefghijaa.P
open Go.RowKit Go.Proofs.YtdhdfmmefghijaaW.PrintWords Go.Proofs.YtdhdfmmefghijaaW.PrintLast Go.Proofs.YtdhdfmmefghijaaW.PrintMore
class Gr (a b : World) : Prop where
  out : Below a.heap.size a b
instance gr_refl (a : World) : Gr a a := ⟨Below.refl _ _⟩
instance gr_alloc (a b : World) (o : Obj) [h : Gr a b] : Gr a (b.alloc o) := ⟨below_alloc h.out o⟩
instance gr_drewN (a b : World) (n : Nat) [h : Gr a b] : Gr a (b.drewN n) := ⟨pw_below_drewN h.out n⟩
instance gr_drew (a b : World) [h : Gr a b] : Gr a b.drew := ⟨below_drew1 h.out⟩
theorem gB {w a b : World} (h : Aside0 (Below w.heap.size w a)) [g : Gr a b] : Below w.heap.size w b := below_step h.out g.out
theorem gR {α : Type} {d : Kd α} {e : Nat} {a b : World} {base : Nat} {ok : Nat → Prop} {v : Value} {xs : List α} (h : Aside0 (d.R e a base ok v xs)) [g : Gr a b] : d.R e b base ok v xs := Kd.R_below h.out g.out
theorem gN {α : Type} {d : Kd α} {e : Nat} {a b : World} {base : Nat} {ok : Nat → Prop} {v : Value} {xs : List α} (h : Aside0 (Kd.N d e a base ok v xs)) [g : Gr a b] : Kd.N d e b base ok v xs := Kd.N_below h.out g.out
theorem gV {α : Type} {d : Kd α} {e : Nat} {a b : World} {base : Nat} {ok : Nat → Prop} {v : Value} {xs : List α} (h : Aside0 (Kd.V d e a base ok v xs)) [g : Gr a b] : Kd.V d e b base ok v xs := Kd.V_below h.out g.out
theorem gS {α : Type} {d : Kd α} {e : Nat} {a b : World} {base : Nat} {ok : Nat → Prop} {v : Value} {xs : List α} (h : Aside0 (Kd.S d e a base ok v xs)) [g : Gr a b] : Kd.S d e b base ok v xs := Kd.S_below h.out g.out
theorem gC {α : Type} {d : Kd α} {a b : World} {A : Option Addr} {n : Nat} {xs : List α} (h : d.C a A n xs) [g : Gr a b] : d.C b A n xs := Kd.C_below h g.out
theorem gK {a b : World} {g : Nat} {o : Obj} (h : Aside0 (a.heap[g]? = some o)) [r : Gr a b] : b.heap[g]? = some o := blk_below h.out r.out
theorem gW {w a b : World} {g : Nat} (h : Aside0 (KeepBut w a g none)) [r : Gr a b] : KeepBut w b g none := KeepBut.trans h.out (KeepBut.of_below r.out g none) (.inl rfl)
theorem gT {w a b : World} {S : Nat → Prop} (h : Aside0 (Kept w a S)) [r : Gr a b] : Kept w b S := Kept.below h.out r.out
end Go.Proofs.Ytdhdfmmefghijaa.P
namespace Go.Proofs.Ytdhdfmmefghijaa.P
open Go.RowKit Go.Proofs.YtdhdfmmefghijaaW.PrintWords Go.Proofs.YtdhdfmmefghijaaW.PrintLast Go.Proofs.YtdhdfmmefghijaaW.PrintMore
attribute [local go_sem] max2_int min2_int max_two min_two max_three min_three max_four min_four
set_option linter.unusedVariables false
set_option linter.unusedSimpArgs false
def strings_IndexByte.f (a0:ByteArray) (a1:Int):Option (Int):=some (Lib.indexByte a0.data.toList a1.toNat.toUInt8)
theorem strings_IndexByte.calls (a0:ByteArray) (a1:Int) (r:Int) (w:World) (h:strings_IndexByte.f a0 a1=some r) :
  Calls Try.prog 47 #[.string a0,.int .u8 a1] w fun e w'=>e=.returned (.int .i64 r)∧Drawn0 w w':=by
 obtain rfl:=Option.some.inj h
 refine (Try.strings_IndexByte a0 a1 w).mono ?_
 rintro e w' ⟨rfl,rfl⟩
 exact ⟨rfl,Drawn0.refl _⟩
end Go.Proofs.Ytdhdfmmefghijaa.P
namespace Go.Proofs.Ytdhdfmmefghijaa.P
open Go.RowKit Go.Proofs.YtdhdfmmefghijaaW.PrintWords Go.Proofs.YtdhdfmmefghijaaW.PrintLast Go.Proofs.YtdhdfmmefghijaaW.PrintMore
attribute [local go_sem] max2_int min2_int max_two min_two max_three min_three max_four min_four
set_option linter.unusedVariables false
set_option linter.unusedSimpArgs false
mutual
def impl_TextValid.l0:Nat→ByteArray→Int→Option (Bool)
 | 0,_,_=>none
 | k+1,x0,x3=>if x3 < (x0.size:Int) then (if 0≤x3 then (if (bt x0 x3) ≥ 97 then (if (bt x0 x3)≤122 then (impl_TextValid.j1 k x0 x3 (!true)) else (if (bt x0 x3) ≥ 48 then (if (bt x0 x3)≤57 then (impl_TextValid.j1 k x0 x3 (!true)) else ((strings_IndexByte.f (⟨#[44,58,61,123,125,40,41,91,93]⟩:ByteArray) (bt x0 x3)).bind fun t133=>(impl_TextValid.j1 k x0 x3 (!(decide (t133 ≥ 0)))))) else ((strings_IndexByte.f (⟨#[44,58,61,123,125,40,41,91,93]⟩:ByteArray) (bt x0 x3)).bind fun t134=>(impl_TextValid.j1 k x0 x3 (!(decide (t134 ≥ 0))))))) else (if (bt x0 x3) ≥ 48 then (if (bt x0 x3)≤57 then (impl_TextValid.j1 k x0 x3 (!true)) else ((strings_IndexByte.f (⟨#[44,58,61,123,125,40,41,91,93]⟩:ByteArray) (bt x0 x3)).bind fun t135=>(impl_TextValid.j1 k x0 x3 (!(decide (t135 ≥ 0)))))) else ((strings_IndexByte.f (⟨#[44,58,61,123,125,40,41,91,93]⟩:ByteArray) (bt x0 x3)).bind fun t136=>(impl_TextValid.j1 k x0 x3 (!(decide (t136 ≥ 0))))))) else (none)) else (if (x0.size:Int) ≥ 1 then (some (decide ((x0.size:Int)≤12))) else (some false))
def impl_TextValid.j1:Nat→ByteArray→Int→Bool→Option (Bool)
 | 0,_,_,_=>none
 | k+1,x0,x3,x39=>if x39=true then (some false) else (impl_TextValid.l0 k x0 (wrap64 (x3+1)))
end
def impl_TextValid.f (k:Nat) (a0:ByteArray):Option (Bool):=impl_TextValid.l0 k a0 0
set_option maxHeartbeats 8000000 in
set_option maxRecDepth 100000 in
theorem impl_TextValid.calls (k:Nat) (a0:ByteArray) (r:Bool) (w:World) (h:impl_TextValid.f k a0=some r) :
  Calls Try.prog 16 #[.string a0] w fun e w'=>e=.returned (.bool r)∧Drawn0 w w':=by
 have H:(impl_TextValid.l0 k a0 0)=some r:=h
 clear h
 have H':=Aside0.mk H
 clear H
 go_enter Try.func16,Try.ntmps16
 go_wp2
 go_loopg [3] k (fun kq v3 w'=>∃ (x3_1:Int),v3=.int .i64 x3_1∧Aside0 (impl_TextValid.l0 kq a0 x3_1=some r)∧Aside0 (kq≤k)∧Drawn0 w w')
 case atStart=>exact ⟨(0),(by first|rfl|(simp;done)|(simp [*];done)),H',⟨Nat.le_refl _⟩,by repeat (first|exact Drawn0.refl _|apply Drawn0.step)⟩
 case round =>
  clear H'
  try clear c1
  obtain ⟨x3_1,rfl,HA,HK1,⟨m1,rfl⟩⟩:=hrel
  cases gk with
  | zero=>exact absurd HA.out (by simp [impl_TextValid.l0])
  | succ k1 =>
   have H:=HA.out
   clear HA
   simp only [impl_TextValid.l0] at H
   by_cases c2:x3_1 < (a0.size:Int)
   ·rw [if_pos c2] at H
    have c2b0:decide (x3_1 < (a0.size:Int))=true:=decide_eq_true c2
    clear c2
    have HC3:=Aside0.mk H
    clear H
    go_upto_region 4 with (fail)
    go_cut [39] (fun v39 wc=>∃ (kq:Nat) (x39_2:Bool),v39=.bool x39_2∧Aside0 (impl_TextValid.j1 kq a0 x3_1 x39_2=some r)∧Aside0 (kq≤k1)∧Drawn0 w wc)
    case first =>
     have H:=HC3.out
     clear HC3
     by_cases c4:0≤x3_1
     ·rw [if_pos c4] at H
      have c4b0:decide (0≤x3_1)=true:=decide_eq_true c4
      clear c4
      (first|rw [c4b0]|(simp only [i64_w,i32_w];rw [c4b0])|skip)
      by_cases c6:(bt a0 x3_1) ≥ 97
      ·rw [if_pos c6] at H
       have c6b0:decide (97≤(bt a0 x3_1))=true:=decide_eq_true c6
       clear c6
       by_cases c8:(bt a0 x3_1)≤122
       ·rw [if_pos c8] at H
        have c8b0:decide ((bt a0 x3_1)≤122)=true:=decide_eq_true c8
        clear c8
        have H':=Aside0.mk H
        clear H
        have p5:0≤(x3_1:Int):=of_decide_eq_true (by first|(with_reducible assumption)|assumption)
        have q5:x3_1 < (a0.size:Int):=of_decide_eq_true (by first|(with_reducible assumption)|assumption)
        have hx5:=bt_at a0 x3_1
        replace p5:=eq_true p5
        replace q5:=eq_true q5
        have p7:0≤(x3_1:Int):=of_decide_eq_true (by first|(with_reducible assumption)|assumption)
        have q7:x3_1 < (a0.size:Int):=of_decide_eq_true (by first|(with_reducible assumption)|assumption)
        have hx7:=bt_at a0 x3_1
        replace p7:=eq_true p7
        replace q7:=eq_true q7
        go_wp2
        go_meet
        case rel=>exact ⟨_,(!true),(by first|rfl|(simp;done)|(simp [*];done)),H',⟨by have:=HK1.out;first|omega|exact Nat.le_refl _⟩,by repeat (first|exact Drawn0.refl _|apply Drawn0.step)⟩
       ·rw [if_neg c8] at H
        have c8b0:decide ((bt a0 x3_1)≤122)=false:=decide_eq_false c8
        clear c8
        by_cases c10:(bt a0 x3_1) ≥ 48
        ·rw [if_pos c10] at H
         have c10b0:decide (48≤(bt a0 x3_1))=true:=decide_eq_true c10
         clear c10
         by_cases c12:(bt a0 x3_1)≤57
         ·rw [if_pos c12] at H
          have c12b0:decide ((bt a0 x3_1)≤57)=true:=decide_eq_true c12
          clear c12
          have H':=Aside0.mk H
          clear H
          have p5:0≤(x3_1:Int):=of_decide_eq_true (by first|(with_reducible assumption)|assumption)
          have q5:x3_1 < (a0.size:Int):=of_decide_eq_true (by first|(with_reducible assumption)|assumption)
          have hx5:=bt_at a0 x3_1
          replace p5:=eq_true p5
          replace q5:=eq_true q5
          have p7:0≤(x3_1:Int):=of_decide_eq_true (by first|(with_reducible assumption)|assumption)
          have q7:x3_1 < (a0.size:Int):=of_decide_eq_true (by first|(with_reducible assumption)|assumption)
          have hx7:=bt_at a0 x3_1
          replace p7:=eq_true p7
          replace q7:=eq_true q7
          have p9:0≤(x3_1:Int):=of_decide_eq_true (by first|(with_reducible assumption)|assumption)
          have q9:x3_1 < (a0.size:Int):=of_decide_eq_true (by first|(with_reducible assumption)|assumption)
          have hx9:=bt_at a0 x3_1
          replace p9:=eq_true p9
          replace q9:=eq_true q9
          have p11:0≤(x3_1:Int):=of_decide_eq_true (by first|(with_reducible assumption)|assumption)
          have q11:x3_1 < (a0.size:Int):=of_decide_eq_true (by first|(with_reducible assumption)|assumption)
          have hx11:=bt_at a0 x3_1
          replace p11:=eq_true p11
          replace q11:=eq_true q11
          go_wp2
          go_meet
          case rel=>exact ⟨_,(!true),(by first|rfl|(simp;done)|(simp [*];done)),H',⟨by have:=HK1.out;first|omega|exact Nat.le_refl _⟩,by repeat (first|exact Drawn0.refl _|apply Drawn0.step)⟩
         ·rw [if_neg c12] at H
          have c12b0:decide ((bt a0 x3_1)≤57)=false:=decide_eq_false c12
          clear c12
          replace H:=Option.bind_eq_some_iff.mp H
          obtain ⟨t133,A140,H⟩:=H
          replace H:(impl_TextValid.j1 k1 a0 x3_1 (!(decide (t133 ≥ 0))))=some r:=H
          have A14:=Aside0.mk A140
          clear A140
          have H':=Aside0.mk H
          clear H
          have p5:0≤(x3_1:Int):=of_decide_eq_true (by first|(with_reducible assumption)|assumption)
          have q5:x3_1 < (a0.size:Int):=of_decide_eq_true (by first|(with_reducible assumption)|assumption)
          have hx5:=bt_at a0 x3_1
          replace p5:=eq_true p5
          replace q5:=eq_true q5
          have p7:0≤(x3_1:Int):=of_decide_eq_true (by first|(with_reducible assumption)|assumption)
          have q7:x3_1 < (a0.size:Int):=of_decide_eq_true (by first|(with_reducible assumption)|assumption)
          have hx7:=bt_at a0 x3_1
          replace p7:=eq_true p7
          replace q7:=eq_true q7
          have p9:0≤(x3_1:Int):=of_decide_eq_true (by first|(with_reducible assumption)|assumption)
          have q9:x3_1 < (a0.size:Int):=of_decide_eq_true (by first|(with_reducible assumption)|assumption)
          have hx9:=bt_at a0 x3_1
          replace p9:=eq_true p9
          replace q9:=eq_true q9
          have p11:0≤(x3_1:Int):=of_decide_eq_true (by first|(with_reducible assumption)|assumption)
          have q11:x3_1 < (a0.size:Int):=of_decide_eq_true (by first|(with_reducible assumption)|assumption)
          have hx11:=bt_at a0 x3_1
          replace p11:=eq_true p11
          replace q11:=eq_true q11
          have p13:0≤(x3_1:Int):=of_decide_eq_true (by first|(with_reducible assumption)|assumption)
          have q13:x3_1 < (a0.size:Int):=of_decide_eq_true (by first|(with_reducible assumption)|assumption)
          have hx13:=bt_at a0 x3_1
          replace p13:=eq_true p13
          replace q13:=eq_true q13
          go_wp2_with (first|(go_at_call 47;(with_reducible refine (strings_IndexByte.calls (⟨#[44,58,61,123,125,40,41,91,93]⟩:ByteArray) (bt a0 x3_1) t133 _ A14.out).mono ?_);rintro e w' ⟨rfl,⟨nd,rfl⟩⟩))
          go_meet
          case rel=>exact ⟨_,(!(decide (t133 ≥ 0))),(by first|rfl|(simp;done)|(simp [*];done)),H',⟨by have:=HK1.out;first|omega|exact Nat.le_refl _⟩,by repeat (first|exact Drawn0.refl _|apply Drawn0.step)⟩
        ·rw [if_neg c10] at H
         have c10b0:decide (48≤(bt a0 x3_1))=false:=decide_eq_false c10
         clear c10
         replace H:=Option.bind_eq_some_iff.mp H
         obtain ⟨t134,A160,H⟩:=H
         replace H:(impl_TextValid.j1 k1 a0 x3_1 (!(decide (t134 ≥ 0))))=some r:=H
         have A16:=Aside0.mk A160
         clear A160
         have H':=Aside0.mk H
         clear H
         have p5:0≤(x3_1:Int):=of_decide_eq_true (by first|(with_reducible assumption)|assumption)
         have q5:x3_1 < (a0.size:Int):=of_decide_eq_true (by first|(with_reducible assumption)|assumption)
         have hx5:=bt_at a0 x3_1
         replace p5:=eq_true p5
         replace q5:=eq_true q5
         have p7:0≤(x3_1:Int):=of_decide_eq_true (by first|(with_reducible assumption)|assumption)
         have q7:x3_1 < (a0.size:Int):=of_decide_eq_true (by first|(with_reducible assumption)|assumption)
         have hx7:=bt_at a0 x3_1
         replace p7:=eq_true p7
         replace q7:=eq_true q7
         have p9:0≤(x3_1:Int):=of_decide_eq_true (by first|(with_reducible assumption)|assumption)
         have q9:x3_1 < (a0.size:Int):=of_decide_eq_true (by first|(with_reducible assumption)|assumption)
         have hx9:=bt_at a0 x3_1
         replace p9:=eq_true p9
         replace q9:=eq_true q9
         have p15:0≤(x3_1:Int):=of_decide_eq_true (by first|(with_reducible assumption)|assumption)
         have q15:x3_1 < (a0.size:Int):=of_decide_eq_true (by first|(with_reducible assumption)|assumption)
         have hx15:=bt_at a0 x3_1
         replace p15:=eq_true p15
         replace q15:=eq_true q15
         go_wp2_with (first|(go_at_call 47;(with_reducible refine (strings_IndexByte.calls (⟨#[44,58,61,123,125,40,41,91,93]⟩:ByteArray) (bt a0 x3_1) t134 _ A16.out).mono ?_);rintro e w' ⟨rfl,⟨nd,rfl⟩⟩))
         go_meet
         case rel=>exact ⟨_,(!(decide (t134 ≥ 0))),(by first|rfl|(simp;done)|(simp [*];done)),H',⟨by have:=HK1.out;first|omega|exact Nat.le_refl _⟩,by repeat (first|exact Drawn0.refl _|apply Drawn0.step)⟩
      ·rw [if_neg c6] at H
       have c6b0:decide (97≤(bt a0 x3_1))=false:=decide_eq_false c6
       clear c6
       by_cases c18:(bt a0 x3_1) ≥ 48
       ·rw [if_pos c18] at H
        have c18b0:decide (48≤(bt a0 x3_1))=true:=decide_eq_true c18
        clear c18
        by_cases c20:(bt a0 x3_1)≤57
        ·rw [if_pos c20] at H
         have c20b0:decide ((bt a0 x3_1)≤57)=true:=decide_eq_true c20
         clear c20
         have H':=Aside0.mk H
         clear H
         have p5:0≤(x3_1:Int):=of_decide_eq_true (by first|(with_reducible assumption)|assumption)
         have q5:x3_1 < (a0.size:Int):=of_decide_eq_true (by first|(with_reducible assumption)|assumption)
         have hx5:=bt_at a0 x3_1
         replace p5:=eq_true p5
         replace q5:=eq_true q5
         have p17:0≤(x3_1:Int):=of_decide_eq_true (by first|(with_reducible assumption)|assumption)
         have q17:x3_1 < (a0.size:Int):=of_decide_eq_true (by first|(with_reducible assumption)|assumption)
         have hx17:=bt_at a0 x3_1
         replace p17:=eq_true p17
         replace q17:=eq_true q17
         have p19:0≤(x3_1:Int):=of_decide_eq_true (by first|(with_reducible assumption)|assumption)
         have q19:x3_1 < (a0.size:Int):=of_decide_eq_true (by first|(with_reducible assumption)|assumption)
         have hx19:=bt_at a0 x3_1
         replace p19:=eq_true p19
         replace q19:=eq_true q19
         go_wp2
         go_meet
         case rel=>exact ⟨_,(!true),(by first|rfl|(simp;done)|(simp [*];done)),H',⟨by have:=HK1.out;first|omega|exact Nat.le_refl _⟩,by repeat (first|exact Drawn0.refl _|apply Drawn0.step)⟩
        ·rw [if_neg c20] at H
         have c20b0:decide ((bt a0 x3_1)≤57)=false:=decide_eq_false c20
         clear c20
         replace H:=Option.bind_eq_some_iff.mp H
         obtain ⟨t135,A220,H⟩:=H
         replace H:(impl_TextValid.j1 k1 a0 x3_1 (!(decide (t135 ≥ 0))))=some r:=H
         have A22:=Aside0.mk A220
         clear A220
         have H':=Aside0.mk H
         clear H
         have p5:0≤(x3_1:Int):=of_decide_eq_true (by first|(with_reducible assumption)|assumption)
         have q5:x3_1 < (a0.size:Int):=of_decide_eq_true (by first|(with_reducible assumption)|assumption)
         have hx5:=bt_at a0 x3_1
         replace p5:=eq_true p5
         replace q5:=eq_true q5
         have p17:0≤(x3_1:Int):=of_decide_eq_true (by first|(with_reducible assumption)|assumption)
         have q17:x3_1 < (a0.size:Int):=of_decide_eq_true (by first|(with_reducible assumption)|assumption)
         have hx17:=bt_at a0 x3_1
         replace p17:=eq_true p17
         replace q17:=eq_true q17
         have p19:0≤(x3_1:Int):=of_decide_eq_true (by first|(with_reducible assumption)|assumption)
         have q19:x3_1 < (a0.size:Int):=of_decide_eq_true (by first|(with_reducible assumption)|assumption)
         have hx19:=bt_at a0 x3_1
         replace p19:=eq_true p19
         replace q19:=eq_true q19
         have p21:0≤(x3_1:Int):=of_decide_eq_true (by first|(with_reducible assumption)|assumption)
         have q21:x3_1 < (a0.size:Int):=of_decide_eq_true (by first|(with_reducible assumption)|assumption)
         have hx21:=bt_at a0 x3_1
         replace p21:=eq_true p21
         replace q21:=eq_true q21
         go_wp2_with (first|(go_at_call 47;(with_reducible refine (strings_IndexByte.calls (⟨#[44,58,61,123,125,40,41,91,93]⟩:ByteArray) (bt a0 x3_1) t135 _ A22.out).mono ?_);rintro e w' ⟨rfl,⟨nd,rfl⟩⟩))
         go_meet
         case rel=>exact ⟨_,(!(decide (t135 ≥ 0))),(by first|rfl|(simp;done)|(simp [*];done)),H',⟨by have:=HK1.out;first|omega|exact Nat.le_refl _⟩,by repeat (first|exact Drawn0.refl _|apply Drawn0.step)⟩
       ·rw [if_neg c18] at H
        have c18b0:decide (48≤(bt a0 x3_1))=false:=decide_eq_false c18
        clear c18
        replace H:=Option.bind_eq_some_iff.mp H
        obtain ⟨t136,A240,H⟩:=H
        replace H:(impl_TextValid.j1 k1 a0 x3_1 (!(decide (t136 ≥ 0))))=some r:=H
        have A24:=Aside0.mk A240
        clear A240
        have H':=Aside0.mk H
        clear H
        have p5:0≤(x3_1:Int):=of_decide_eq_true (by first|(with_reducible assumption)|assumption)
        have q5:x3_1 < (a0.size:Int):=of_decide_eq_true (by first|(with_reducible assumption)|assumption)
        have hx5:=bt_at a0 x3_1
        replace p5:=eq_true p5
        replace q5:=eq_true q5
        have p17:0≤(x3_1:Int):=of_decide_eq_true (by first|(with_reducible assumption)|assumption)
        have q17:x3_1 < (a0.size:Int):=of_decide_eq_true (by first|(with_reducible assumption)|assumption)
        have hx17:=bt_at a0 x3_1
        replace p17:=eq_true p17
        replace q17:=eq_true q17
        have p23:0≤(x3_1:Int):=of_decide_eq_true (by first|(with_reducible assumption)|assumption)
        have q23:x3_1 < (a0.size:Int):=of_decide_eq_true (by first|(with_reducible assumption)|assumption)
        have hx23:=bt_at a0 x3_1
        replace p23:=eq_true p23
        replace q23:=eq_true q23
        go_wp2_with (first|(go_at_call 47;(with_reducible refine (strings_IndexByte.calls (⟨#[44,58,61,123,125,40,41,91,93]⟩:ByteArray) (bt a0 x3_1) t136 _ A24.out).mono ?_);rintro e w' ⟨rfl,⟨nd,rfl⟩⟩))
        go_meet
        case rel=>exact ⟨_,(!(decide (t136 ≥ 0))),(by first|rfl|(simp;done)|(simp [*];done)),H',⟨by have:=HK1.out;first|omega|exact Nat.le_refl _⟩,by repeat (first|exact Drawn0.refl _|apply Drawn0.step)⟩
     ·rw [if_neg c4] at H
      exact absurd H (by simp)
    case rest =>
     clear HC3
     try clear c1 p1 q1 hx1 c2 c2b0 p2 q2 hx2 c4 c4b0 p5 q5 hx5 c6 c6b0 p7 q7 hx7 c8 c8b0 p9 q9 hx9 c10 c10b0 p11 q11 hx11 c12 c12b0 p13 q13 hx13 p15 q15 hx15 c16 p17 q17 hx17 c18 c18b0 p19 q19 hx19 c20 c20b0 p21 q21 hx21 p23 q23 hx23 p11 p13 p15 p17 p19 p21 p23 p5 p7 p9 q11 q13 q15 q17 q19 q21 q23 q5 q7 q9
     obtain ⟨kq,x39_2,rfl,HA,HJ2,⟨mc2,rfl⟩⟩:=hcut
     cases kq with
     | zero=>exact absurd HA.out (by simp [impl_TextValid.j1])
     | succ kj2 =>
      have H:=HA.out
      clear HA
      simp only [impl_TextValid.j1] at H
      by_cases c25:x39_2=true
      ·subst c25
       have H1:(some false)=some r:=by rw [if_pos rfl] at H;exact H
       clear H
       have H:=H1
       clear H1
       obtain rfl:=Option.some.inj H
       go_wp2
       go_ret
       exact ⟨by first|rfl|(simp;done)|(simp [*];done),by repeat (first|exact Drawn0.refl _|apply Drawn0.step)⟩
      ·replace c25:=Bool.eq_false_iff.mpr c25
       subst c25
       have H1:(impl_TextValid.l0 kj2 a0 (wrap64 (x3_1+1)))=some r:=by rw [if_neg (show ¬ (false=true) by decide)] at H;exact H
       clear H
       have H:=H1
       clear H1
       have H':=Aside0.mk H
       clear H
       go_wp2
       go_roundg kj2
       case measure=>have:=HK1.out;have:=HJ2.out;omega
       case rel=>exact ⟨(wrap64 (x3_1+1)),(by first|rfl|(simp;done)|(simp [*];done)),H',⟨by have:=HK1.out;have:=HJ2.out;omega⟩,by repeat (first|exact Drawn0.refl _|apply Drawn0.step)⟩
   ·rw [if_neg c2] at H
    have c2b0:decide (x3_1 < (a0.size:Int))=false:=decide_eq_false c2
    clear c2
    by_cases c26:(a0.size:Int) ≥ 1
    ·rw [if_pos c26] at H
     have c26b0:decide (1≤(a0.size:Int))=true:=decide_eq_true c26
     have c26b1:decide (1≤a0.size)=true:=decide_eq_true (by omega)
     clear c26
     obtain rfl:=Option.some.inj H
     go_wp2
     go_ret
     exact ⟨by first|rfl|(simp;done)|(simp [*];done),by repeat (first|exact Drawn0.refl _|apply Drawn0.step)⟩
    ·rw [if_neg c26] at H
     have c26b0:decide (1≤(a0.size:Int))=false:=decide_eq_false c26
     have c26b1:decide (1≤a0.size)=false:=decide_eq_false (by omega)
     clear c26
     obtain rfl:=Option.some.inj H
     go_wp2
     go_ret
     exact ⟨by first|rfl|(simp;done)|(simp [*];done),by repeat (first|exact Drawn0.refl _|apply Drawn0.step)⟩
end Go.Proofs.Ytdhdfmmefghijaa.P
namespace Go.Proofs.Ytdhdfmmefghijaa.P
open Go.RowKit Go.Proofs.YtdhdfmmefghijaaW.PrintWords Go.Proofs.YtdhdfmmefghijaaW.PrintLast Go.Proofs.YtdhdfmmefghijaaW.PrintMore
attribute [local go_sem] max2_int min2_int max_two min_two max_three min_three max_four min_four
set_option linter.unusedVariables false
set_option linter.unusedSimpArgs false
def docKids (o:Int):Int:=if o=7 then 2 else if o=6 then 1 else if o=8 then 1 else 0
theorem docKids_cell {w:World} {ga:Nat} (h:w.heap[ga]?=some (.cells #[.int .i64 0,.int .i64 0,.int .i64 0,.int .i64 0,.int .i64 0,.int .i64 0,.int .i64 1,.int .i64 2,.int .i64 1] 75 (0,0))) (o:Int) (h0:0≤o) (h9:o < 9):w.cell? ⟨ga,o.toNat,none⟩=some (.int .i64 (docKids o)):=by
 rw [blk_cell h]
 have:o=0 ∨ o=1 ∨ o=2 ∨ o=3 ∨ o=4 ∨ o=5 ∨ o=6 ∨ o=7 ∨ o=8:=by omega
 rcases this with rfl|rfl|rfl|rfl|rfl|rfl|rfl|rfl|rfl <;> rfl
mutual
def impl_docOk.l0:Nat→List (SDoc)→Int→Int→Int→Option (Bool × Int)
 | 0,_,_,_,_=>none
 | k+1,ks,i,deep,left=>if i < (ks.length:Int) then (if 0≤i then ((impl_docOk.f k ((rd_TDoc ks i).f0) ((rd_TDoc ks i).f1) ((rd_TDoc ks i).f2) ((rd_TDoc ks i).f3) (wrap64 (deep - 1)) left).bind fun b=>(if b.1=true then (impl_docOk.l0 k ks (wrap64 (i+1)) deep b.2) else (some (false,b.2)))) else (none)) else (some (true,left))
def impl_docOk.f:Nat→Int→Int→ByteArray→List (SDoc)→Int→Int→Option (Bool × Int)
 | 0,_,_,_,_,_,_=>none
 | k+1,o,n,t,ks,deep,left=>if deep=0 ∨ (wrap64 (left - 1)) < 0 ∨ o < 1 ∨ 8 < o then (some (false,(wrap64 (left - 1)))) else (if ¬ ((ks.length:Int)=docKids o) ∨ n < 0 ∨ 9 < n ∨ (0 < n∧¬ (o=6)) then (some (false,(wrap64 (left - 1)))) else (if o=2 then ((impl_TextValid.f k t).bind fun b=>(if b=true then (impl_docOk.l0 k ks 0 deep (wrap64 (left - 1))) else (some (false,(wrap64 (left - 1)))))) else (if t.toList=[] then (impl_docOk.l0 k ks 0 deep (wrap64 (left - 1))) else (some (false,(wrap64 (left - 1)))))))
end
set_option maxHeartbeats 8000000 in
set_option maxRecDepth 100000 in
theorem impl_docOk.failA (o n:Int) (t:ByteArray) (A:Option Addr) (c:Nat) (ks:List (SDoc)) (deep left:Int) (w0 w:World) (g:Nat)
  (hr:Kd.C k27 w0 A ks.length ks) (hc:ks.length≤c) (hB:Below w0.heap.size w0 w) (hg:w0.heap.size≤g) (hb:w.heap[g]?=some (.cells #[.int .i64 left] 3 (0,0)))
  (hA:(deep == 0)=true ∨ ((deep == 0)=false∧decide ((wrap64 (left - 1)) < 0)=true) ∨ ((deep == 0)=false∧decide ((wrap64 (left - 1)) < 0)=false∧decide (o < 1)=true) ∨ ((deep == 0)=false∧decide ((wrap64 (left - 1)) < 0)=false∧decide (o < 1)=false∧decide (8 < o)=true)) :
  Calls Try.prog 52 #[.agg #[.int .i64 o,.int .i64 n,.string t,.slice A ks.length c],.int .i64 deep,.pointer (some ⟨g,0,none⟩)] w fun e w'=>e=.returned (.bool false)∧Below w0.heap.size w0 w'∧w'.heap[g]?=some (.cells #[.int .i64 (wrap64 (left - 1))] 3 (0,0)):=by
 rcases hA with h1 | ⟨h1,h2⟩ | ⟨h1,h2,h3⟩ | ⟨h1,h2,h3,h4⟩
 all_goals
  have hu29:=Try.underlying27
  have hu3:=Try.underlying3
  have HB:=Aside0.mk hB
  have HG:=Aside0.mk hg
  have BK:=Aside0.mk hb
  clear hB hg hb
  go_enter Try.func52,Try.ntmps52
  go_wp2_with (first|((with_reducible refine gate_dst (N:=3) rfl ?_);refine box_event ?hg (N:=3) ?hd (cs:=#[.int .i64 o,.int .i64 n,.string t,.slice A ks.length c]) (t:=27) ?hr ?_;(case hd=>rfl);(case hg=>rfl);(case hr=>first|(go_simp;done)|(go_simp;rfl));intro gb hgb w2 hbox hb2;have n0_:=Aside0.mk (below_step HB.out hb2);have n1_:=Aside0.mk (blk_below BK.out hb2);have n2_:=Aside0.mk hbox;have NE:=Aside0.mk (by rw [hgb];exact Nat.ne_of_lt (blk_lt BK.out):g ≠ gb);clear HB BK;have HB:=n0_;have BK:=n1_;have BD:=n2_;clear n0_ n1_ n2_ hb2 hbox hgb;have hcg:w2.cell? ⟨g,0,none⟩=some (.int .i64 left):=(blk_cell BK.out 0).trans rfl;have hfg:=blk_frozen BK.out 0)|((with_reducible refine gate_store (t:=3) (p:=14) rfl ?_);refine store_event (t:=3) (p:=14) (v:=?vo_w13) (w1:=w2.setCell ⟨g,0,none⟩ (.int .i64 (wrap64 (left - 1)))) ?hg ?ho ?hn ?hr ?_;(case ho=>rfl);(case hg=>rfl);(case hn=>rfl);(case hr=>first|(go_simp;done)|(go_simp;rfl));intro w3 hw;have n0_:=Aside0.mk (by rw [hw];exact below_set HB.out HG.out:Below w0.heap.size w0 w3);have n1_:Aside0 (w3.heap[g]?=some (.cells #[.int .i64 (wrap64 (left - 1))] 3 (0,0))):=Aside0.mk (by rw [hw];exact blk_set BK.out 0 _);have n2_:Aside0 (w3.heap[gb]?=some (.cells #[.int .i64 o,.int .i64 n,.string t,.slice A ks.length c] 27 (0,0))):=Aside0.mk (by rw [hw];exact blk_far BD.out NE.out.symm _);clear HB BK BD hcg hfg hw;have HB:=n0_;have BK:=n1_;have BD:=n2_;clear n0_ n1_ n2_;have hcg:w3.cell? ⟨g,0,none⟩=some (.int .i64 (wrap64 (left - 1))):=(blk_cell BK.out 0).trans rfl;have hd0:w3.cell? ⟨gb,0,none⟩=some (.int .i64 o):=(blk_cell BD.out 0).trans rfl;have hd1:w3.cell? ⟨gb,1,none⟩=some (.int .i64 n):=(blk_cell BD.out 1).trans rfl;have hd2:w3.cell? ⟨gb,2,none⟩=some (.string t):=(blk_cell BD.out 2).trans rfl;have hd3:w3.cell? ⟨gb,3,none⟩=some (.slice A ks.length c):=(blk_cell BD.out 3).trans rfl))
  go_ret
  exact ⟨rfl,gB HB,gK BK⟩
set_option maxHeartbeats 8000000 in
set_option maxRecDepth 100000 in
theorem impl_docOk.failB (o n:Int) (t:ByteArray) (A:Option Addr) (c:Nat) (ks:List (SDoc)) (deep left:Int) (w0 w:World) (g:Nat)
  (hr:Kd.C k27 w0 A ks.length ks) (hc:ks.length≤c) (hB:Below w0.heap.size w0 w) (hg:w0.heap.size≤g) (hb:w.heap[g]?=some (.cells #[.int .i64 left] 3 (0,0)))
  (h1:(deep == 0)=false) (h2:decide ((wrap64 (left - 1)) < 0)=false) (h3:decide (o < 1)=false) (h4:decide (8 < o)=false)
  (hA:((ks.length:Int) != docKids o)=true ∨ (((ks.length:Int) != docKids o)=false∧decide (n < 0)=true) ∨ (((ks.length:Int) != docKids o)=false∧decide (n < 0)=false∧decide (9 < n)=true) ∨ (((ks.length:Int) != docKids o)=false∧decide (n < 0)=false∧decide (9 < n)=false∧decide (0 < n)=true∧(o != 6)=true)) :
  Calls Try.prog 52 #[.agg #[.int .i64 o,.int .i64 n,.string t,.slice A ks.length c],.int .i64 deep,.pointer (some ⟨g,0,none⟩)] w fun e w'=>e=.returned (.bool false)∧Below w0.heap.size w0 w'∧w'.heap[g]?=some (.cells #[.int .i64 (wrap64 (left - 1))] 3 (0,0)):=by
 have O0:=Aside0.mk (show 0≤o by have:=of_decide_eq_false h3;omega)
 have O9:=Aside0.mk (show o < 9 by have:=of_decide_eq_false h4;omega)
 rcases hA with h5 | ⟨h5,h6⟩ | ⟨h5,h6,h7⟩ | ⟨h5,h6,h7,h8,h9⟩
 all_goals
  have hu29:=Try.underlying27
  have hu3:=Try.underlying3
  have HB:=Aside0.mk hB
  have HG:=Aside0.mk hg
  have BK:=Aside0.mk hb
  clear hB hg hb
  go_enter Try.func52,Try.ntmps52
  go_wp2_with (first|((with_reducible refine gate_dst (N:=3) rfl ?_);refine box_event ?hg (N:=3) ?hd (cs:=#[.int .i64 o,.int .i64 n,.string t,.slice A ks.length c]) (t:=27) ?hr ?_;(case hd=>rfl);(case hg=>rfl);(case hr=>first|(go_simp;done)|(go_simp;rfl));intro gb hgb w2 hbox hb2;have n0_:=Aside0.mk (below_step HB.out hb2);have n1_:=Aside0.mk (blk_below BK.out hb2);have n2_:=Aside0.mk hbox;have NE:=Aside0.mk (by rw [hgb];exact Nat.ne_of_lt (blk_lt BK.out):g ≠ gb);clear HB BK;have HB:=n0_;have BK:=n1_;have BD:=n2_;clear n0_ n1_ n2_ hb2 hbox hgb;have hcg:w2.cell? ⟨g,0,none⟩=some (.int .i64 left):=(blk_cell BK.out 0).trans rfl;have hfg:=blk_frozen BK.out 0)|((with_reducible refine gate_store (t:=3) (p:=14) rfl ?_);refine store_event (t:=3) (p:=14) (v:=?vo_w13) (w1:=w2.setCell ⟨g,0,none⟩ (.int .i64 (wrap64 (left - 1)))) ?hg ?ho ?hn ?hr ?_;(case ho=>rfl);(case hg=>rfl);(case hn=>rfl);(case hr=>first|(go_simp;done)|(go_simp;rfl));intro w3 hw;have n0_:=Aside0.mk (by rw [hw];exact below_set HB.out HG.out:Below w0.heap.size w0 w3);have n1_:Aside0 (w3.heap[g]?=some (.cells #[.int .i64 (wrap64 (left - 1))] 3 (0,0))):=Aside0.mk (by rw [hw];exact blk_set BK.out 0 _);have n2_:Aside0 (w3.heap[gb]?=some (.cells #[.int .i64 o,.int .i64 n,.string t,.slice A ks.length c] 27 (0,0))):=Aside0.mk (by rw [hw];exact blk_far BD.out NE.out.symm _);clear HB BK BD hcg hfg hw;have HB:=n0_;have BK:=n1_;have BD:=n2_;clear n0_ n1_ n2_;have hcg:w3.cell? ⟨g,0,none⟩=some (.int .i64 (wrap64 (left - 1))):=(blk_cell BK.out 0).trans rfl;have hd0:w3.cell? ⟨gb,0,none⟩=some (.int .i64 o):=(blk_cell BD.out 0).trans rfl;have hd1:w3.cell? ⟨gb,1,none⟩=some (.int .i64 n):=(blk_cell BD.out 1).trans rfl;have hd2:w3.cell? ⟨gb,2,none⟩=some (.string t):=(blk_cell BD.out 2).trans rfl;have hd3:w3.cell? ⟨gb,3,none⟩=some (.slice A ks.length c):=(blk_cell BD.out 3).trans rfl))
  obtain ⟨w4,hw4⟩:∃ W:World,W=w3.alloc (.cells #[.int .i64 0,.int .i64 0,.int .i64 0,.int .i64 0,.int .i64 0,.int .i64 0,.int .i64 1,.int .i64 2,.int .i64 1] 75):=⟨_,rfl⟩
  obtain ⟨ga,hga⟩:∃ ga:Nat,ga=w3.heap.size:=⟨_,rfl⟩
  rw [← hw4,← hga]
  have BA:=Aside0.mk (by rw [hw4,hga];exact blk_new _ _:w4.heap[ga]?=some (.cells #[.int .i64 0,.int .i64 0,.int .i64 0,.int .i64 0,.int .i64 0,.int .i64 0,.int .i64 1,.int .i64 2,.int .i64 1] 75 (0,0)))
  have hb4:Below w3.heap.size w3 w4:=by rw [hw4];exact below_alloc (Below.refl _ _) _
  have n0_:=Aside0.mk (below_step HB.out hb4)
  have n1_:=Aside0.mk (blk_below BK.out hb4)
  have n2_:=Aside0.mk (blk_below BD.out hb4)
  clear HB BK BD hcg hd0 hd1 hd2 hd3 hb4 hw4 hga
  have HB:=n0_
  have BK:=n1_
  have BD:=n2_
  clear n0_ n1_ n2_
  have hk:w4.cell? ⟨ga,o.toNat,none⟩=some (.int .i64 (docKids o)):=docKids_cell BA.out o O0.out O9.out
  have hd0:w4.cell? ⟨gb,0,none⟩=some (.int .i64 o):=(blk_cell BD.out 0).trans rfl;have hd1:w4.cell? ⟨gb,1,none⟩=some (.int .i64 n):=(blk_cell BD.out 1).trans rfl;have hd2:w4.cell? ⟨gb,2,none⟩=some (.string t):=(blk_cell BD.out 2).trans rfl;have hd3:w4.cell? ⟨gb,3,none⟩=some (.slice A ks.length c):=(blk_cell BD.out 3).trans rfl
  have o0:=eq_true O0.out
  have o9:=eq_true O9.out
  go_quiet (fail)
  go_wp2
  go_ret
  exact ⟨rfl,gB HB,gK BK⟩
set_option maxHeartbeats 8000000 in
set_option maxRecDepth 100000 in
theorem impl_docOk.failC (o n:Int) (t:ByteArray) (A:Option Addr) (c:Nat) (ks:List (SDoc)) (deep left:Int) (w0 w:World) (g:Nat)
  (hr:Kd.C k27 w0 A ks.length ks) (hc:ks.length≤c) (hB:Below w0.heap.size w0 w) (hg:w0.heap.size≤g) (hb:w.heap[g]?=some (.cells #[.int .i64 left] 3 (0,0)))
  (h1:(deep == 0)=false) (h2:decide ((wrap64 (left - 1)) < 0)=false) (h3:decide (o < 1)=false) (h4:decide (8 < o)=false) (h5:((ks.length:Int) != docKids o)=false) (h6:decide (n < 0)=false) (h7:decide (9 < n)=false)
  (hA:(decide (0 < n)=false∧((o == 2)=false∧(o != 2)=true)∧((t.toList == ([]:List UInt8))=false∧(t.toList != ([]:List UInt8))=true∧t.toList.isEmpty=false)) ∨ (decide (0 < n)=true∧(o != 6)=false∧((o == 2)=false∧(o != 2)=true)∧((t.toList == ([]:List UInt8))=false∧(t.toList != ([]:List UInt8))=true∧t.toList.isEmpty=false))) :
  Calls Try.prog 52 #[.agg #[.int .i64 o,.int .i64 n,.string t,.slice A ks.length c],.int .i64 deep,.pointer (some ⟨g,0,none⟩)] w fun e w'=>e=.returned (.bool false)∧Below w0.heap.size w0 w'∧w'.heap[g]?=some (.cells #[.int .i64 (wrap64 (left - 1))] 3 (0,0)):=by
 have O0:=Aside0.mk (show 0≤o by have:=of_decide_eq_false h3;omega)
 have O9:=Aside0.mk (show o < 9 by have:=of_decide_eq_false h4;omega)
 rcases hA with ⟨h8,⟨h10,h11⟩,h12,h13,h14⟩ | ⟨h8,h9,⟨h10,h11⟩,h12,h13,h14⟩
 all_goals
  have hu29:=Try.underlying27
  have hu3:=Try.underlying3
  have HB:=Aside0.mk hB
  have HG:=Aside0.mk hg
  have BK:=Aside0.mk hb
  clear hB hg hb
  go_enter Try.func52,Try.ntmps52
  go_wp2_with (first|((with_reducible refine gate_dst (N:=3) rfl ?_);refine box_event ?hg (N:=3) ?hd (cs:=#[.int .i64 o,.int .i64 n,.string t,.slice A ks.length c]) (t:=27) ?hr ?_;(case hd=>rfl);(case hg=>rfl);(case hr=>first|(go_simp;done)|(go_simp;rfl));intro gb hgb w2 hbox hb2;have n0_:=Aside0.mk (below_step HB.out hb2);have n1_:=Aside0.mk (blk_below BK.out hb2);have n2_:=Aside0.mk hbox;have NE:=Aside0.mk (by rw [hgb];exact Nat.ne_of_lt (blk_lt BK.out):g ≠ gb);clear HB BK;have HB:=n0_;have BK:=n1_;have BD:=n2_;clear n0_ n1_ n2_ hb2 hbox hgb;have hcg:w2.cell? ⟨g,0,none⟩=some (.int .i64 left):=(blk_cell BK.out 0).trans rfl;have hfg:=blk_frozen BK.out 0)|((with_reducible refine gate_store (t:=3) (p:=14) rfl ?_);refine store_event (t:=3) (p:=14) (v:=?vo_w13) (w1:=w2.setCell ⟨g,0,none⟩ (.int .i64 (wrap64 (left - 1)))) ?hg ?ho ?hn ?hr ?_;(case ho=>rfl);(case hg=>rfl);(case hn=>rfl);(case hr=>first|(go_simp;done)|(go_simp;rfl));intro w3 hw;have n0_:=Aside0.mk (by rw [hw];exact below_set HB.out HG.out:Below w0.heap.size w0 w3);have n1_:Aside0 (w3.heap[g]?=some (.cells #[.int .i64 (wrap64 (left - 1))] 3 (0,0))):=Aside0.mk (by rw [hw];exact blk_set BK.out 0 _);have n2_:Aside0 (w3.heap[gb]?=some (.cells #[.int .i64 o,.int .i64 n,.string t,.slice A ks.length c] 27 (0,0))):=Aside0.mk (by rw [hw];exact blk_far BD.out NE.out.symm _);clear HB BK BD hcg hfg hw;have HB:=n0_;have BK:=n1_;have BD:=n2_;clear n0_ n1_ n2_;have hcg:w3.cell? ⟨g,0,none⟩=some (.int .i64 (wrap64 (left - 1))):=(blk_cell BK.out 0).trans rfl;have hd0:w3.cell? ⟨gb,0,none⟩=some (.int .i64 o):=(blk_cell BD.out 0).trans rfl;have hd1:w3.cell? ⟨gb,1,none⟩=some (.int .i64 n):=(blk_cell BD.out 1).trans rfl;have hd2:w3.cell? ⟨gb,2,none⟩=some (.string t):=(blk_cell BD.out 2).trans rfl;have hd3:w3.cell? ⟨gb,3,none⟩=some (.slice A ks.length c):=(blk_cell BD.out 3).trans rfl))
  obtain ⟨w4,hw4⟩:∃ W:World,W=w3.alloc (.cells #[.int .i64 0,.int .i64 0,.int .i64 0,.int .i64 0,.int .i64 0,.int .i64 0,.int .i64 1,.int .i64 2,.int .i64 1] 75):=⟨_,rfl⟩
  obtain ⟨ga,hga⟩:∃ ga:Nat,ga=w3.heap.size:=⟨_,rfl⟩
  rw [← hw4,← hga]
  have BA:=Aside0.mk (by rw [hw4,hga];exact blk_new _ _:w4.heap[ga]?=some (.cells #[.int .i64 0,.int .i64 0,.int .i64 0,.int .i64 0,.int .i64 0,.int .i64 0,.int .i64 1,.int .i64 2,.int .i64 1] 75 (0,0)))
  have hb4:Below w3.heap.size w3 w4:=by rw [hw4];exact below_alloc (Below.refl _ _) _
  have n0_:=Aside0.mk (below_step HB.out hb4)
  have n1_:=Aside0.mk (blk_below BK.out hb4)
  have n2_:=Aside0.mk (blk_below BD.out hb4)
  clear HB BK BD hcg hd0 hd1 hd2 hd3 hb4 hw4 hga
  have HB:=n0_
  have BK:=n1_
  have BD:=n2_
  clear n0_ n1_ n2_
  have hk:w4.cell? ⟨ga,o.toNat,none⟩=some (.int .i64 (docKids o)):=docKids_cell BA.out o O0.out O9.out
  have hd0:w4.cell? ⟨gb,0,none⟩=some (.int .i64 o):=(blk_cell BD.out 0).trans rfl;have hd1:w4.cell? ⟨gb,1,none⟩=some (.int .i64 n):=(blk_cell BD.out 1).trans rfl;have hd2:w4.cell? ⟨gb,2,none⟩=some (.string t):=(blk_cell BD.out 2).trans rfl;have hd3:w4.cell? ⟨gb,3,none⟩=some (.slice A ks.length c):=(blk_cell BD.out 3).trans rfl
  have o0:=eq_true O0.out
  have o9:=eq_true O9.out
  go_quiet (fail)
  go_wp2
  go_ret
  exact ⟨rfl,gB HB,gK BK⟩
set_option maxHeartbeats 8000000 in
set_option maxRecDepth 100000 in
theorem impl_docOk.failT (o n:Int) (t:ByteArray) (A:Option Addr) (c:Nat) (ks:List (SDoc)) (deep left:Int) (w0 w:World) (g:Nat)
  (hr:Kd.C k27 w0 A ks.length ks) (hc:ks.length≤c) (hB:Below w0.heap.size w0 w) (hg:w0.heap.size≤g) (hb:w.heap[g]?=some (.cells #[.int .i64 left] 3 (0,0)))
  (h1:(deep == 0)=false) (h2:decide ((wrap64 (left - 1)) < 0)=false) (h3:decide (o < 1)=false) (h4:decide (8 < o)=false) (h5:((ks.length:Int) != docKids o)=false) (h6:decide (n < 0)=false) (h7:decide (9 < n)=false) (h8:decide (0 < n)=false) (h10:(o == 2)=true) (h11:(o != 2)=false) (kt:Nat) (hT:impl_TextValid.f kt t=some false) :
  Calls Try.prog 52 #[.agg #[.int .i64 o,.int .i64 n,.string t,.slice A ks.length c],.int .i64 deep,.pointer (some ⟨g,0,none⟩)] w fun e w'=>e=.returned (.bool false)∧Below w0.heap.size w0 w'∧w'.heap[g]?=some (.cells #[.int .i64 (wrap64 (left - 1))] 3 (0,0)):=by
 have O0:=Aside0.mk (show 0≤o by have:=of_decide_eq_false h3;omega)
 have O9:=Aside0.mk (show o < 9 by have:=of_decide_eq_false h4;omega)
 have HT:=Aside0.mk hT
 clear hT
 have hu29:=Try.underlying27
 have hu3:=Try.underlying3
 have HB:=Aside0.mk hB
 have HG:=Aside0.mk hg
 have BK:=Aside0.mk hb
 clear hB hg hb
 go_enter Try.func52,Try.ntmps52
 go_wp2_with (first|((with_reducible refine gate_dst (N:=3) rfl ?_);refine box_event ?hg (N:=3) ?hd (cs:=#[.int .i64 o,.int .i64 n,.string t,.slice A ks.length c]) (t:=27) ?hr ?_;(case hd=>rfl);(case hg=>rfl);(case hr=>first|(go_simp;done)|(go_simp;rfl));intro gb hgb w2 hbox hb2;have n0_:=Aside0.mk (below_step HB.out hb2);have n1_:=Aside0.mk (blk_below BK.out hb2);have n2_:=Aside0.mk hbox;have NE:=Aside0.mk (by rw [hgb];exact Nat.ne_of_lt (blk_lt BK.out):g ≠ gb);clear HB BK;have HB:=n0_;have BK:=n1_;have BD:=n2_;clear n0_ n1_ n2_ hb2 hbox hgb;have hcg:w2.cell? ⟨g,0,none⟩=some (.int .i64 left):=(blk_cell BK.out 0).trans rfl;have hfg:=blk_frozen BK.out 0)|((with_reducible refine gate_store (t:=3) (p:=14) rfl ?_);refine store_event (t:=3) (p:=14) (v:=?vo_w13) (w1:=w2.setCell ⟨g,0,none⟩ (.int .i64 (wrap64 (left - 1)))) ?hg ?ho ?hn ?hr ?_;(case ho=>rfl);(case hg=>rfl);(case hn=>rfl);(case hr=>first|(go_simp;done)|(go_simp;rfl));intro w3 hw;have n0_:=Aside0.mk (by rw [hw];exact below_set HB.out HG.out:Below w0.heap.size w0 w3);have n1_:Aside0 (w3.heap[g]?=some (.cells #[.int .i64 (wrap64 (left - 1))] 3 (0,0))):=Aside0.mk (by rw [hw];exact blk_set BK.out 0 _);have n2_:Aside0 (w3.heap[gb]?=some (.cells #[.int .i64 o,.int .i64 n,.string t,.slice A ks.length c] 27 (0,0))):=Aside0.mk (by rw [hw];exact blk_far BD.out NE.out.symm _);clear HB BK BD hcg hfg hw;have HB:=n0_;have BK:=n1_;have BD:=n2_;clear n0_ n1_ n2_;have hcg:w3.cell? ⟨g,0,none⟩=some (.int .i64 (wrap64 (left - 1))):=(blk_cell BK.out 0).trans rfl;have hd0:w3.cell? ⟨gb,0,none⟩=some (.int .i64 o):=(blk_cell BD.out 0).trans rfl;have hd1:w3.cell? ⟨gb,1,none⟩=some (.int .i64 n):=(blk_cell BD.out 1).trans rfl;have hd2:w3.cell? ⟨gb,2,none⟩=some (.string t):=(blk_cell BD.out 2).trans rfl;have hd3:w3.cell? ⟨gb,3,none⟩=some (.slice A ks.length c):=(blk_cell BD.out 3).trans rfl))
 obtain ⟨w4,hw4⟩:∃ W:World,W=w3.alloc (.cells #[.int .i64 0,.int .i64 0,.int .i64 0,.int .i64 0,.int .i64 0,.int .i64 0,.int .i64 1,.int .i64 2,.int .i64 1] 75):=⟨_,rfl⟩
 obtain ⟨ga,hga⟩:∃ ga:Nat,ga=w3.heap.size:=⟨_,rfl⟩
 rw [← hw4,← hga]
 have BA:=Aside0.mk (by rw [hw4,hga];exact blk_new _ _:w4.heap[ga]?=some (.cells #[.int .i64 0,.int .i64 0,.int .i64 0,.int .i64 0,.int .i64 0,.int .i64 0,.int .i64 1,.int .i64 2,.int .i64 1] 75 (0,0)))
 have hb4:Below w3.heap.size w3 w4:=by rw [hw4];exact below_alloc (Below.refl _ _) _
 have n0_:=Aside0.mk (below_step HB.out hb4)
 have n1_:=Aside0.mk (blk_below BK.out hb4)
 have n2_:=Aside0.mk (blk_below BD.out hb4)
 clear HB BK BD hcg hd0 hd1 hd2 hd3 hb4 hw4 hga
 have HB:=n0_
 have BK:=n1_
 have BD:=n2_
 clear n0_ n1_ n2_
 have hk:w4.cell? ⟨ga,o.toNat,none⟩=some (.int .i64 (docKids o)):=docKids_cell BA.out o O0.out O9.out
 have hd0:w4.cell? ⟨gb,0,none⟩=some (.int .i64 o):=(blk_cell BD.out 0).trans rfl;have hd1:w4.cell? ⟨gb,1,none⟩=some (.int .i64 n):=(blk_cell BD.out 1).trans rfl;have hd2:w4.cell? ⟨gb,2,none⟩=some (.string t):=(blk_cell BD.out 2).trans rfl;have hd3:w4.cell? ⟨gb,3,none⟩=some (.slice A ks.length c):=(blk_cell BD.out 3).trans rfl
 have o0:=eq_true O0.out
 have o9:=eq_true O9.out
 go_quiet (fail)
 go_wp2_with (first|(go_at_call 16;(with_reducible refine (impl_TextValid.calls kt t false _ HT.out).mono ?_);rintro e w5 ⟨rfl,⟨nd,rfl⟩⟩))
 go_ret
 exact ⟨rfl,gB HB,gK BK⟩
set_option maxHeartbeats 8000000 in
set_option maxRecDepth 100000 in
theorem impl_docOk.loopT (o n:Int) (t:ByteArray) (A:Option Addr) (c:Nat) (ks:List (SDoc)) (deep left:Int) (w0 w:World) (g:Nat)
  (hr:Kd.C k27 w0 A ks.length ks) (hc:ks.length≤c) (hB:Below w0.heap.size w0 w) (hg:w0.heap.size≤g) (hb:w.heap[g]?=some (.cells #[.int .i64 left] 3 (0,0)))
  (h1:(deep == 0)=false) (h2:decide ((wrap64 (left - 1)) < 0)=false) (h3:decide (o < 1)=false) (h4:decide (8 < o)=false) (h5:((ks.length:Int) != docKids o)=false) (h6:decide (n < 0)=false) (h7:decide (9 < n)=false) (h8:decide (0 < n)=false) (h10:(o == 2)=true) (h11:(o != 2)=false) (kt:Nat) (hT:impl_TextValid.f kt t=some true)
  (k:Nat) (ih:∀ m,m < k+1→∀ (o n:Int) (t:ByteArray) (A:Option Addr) (c:Nat) (ks:List (SDoc)) (deep left:Int) (r1:Bool) (r2:Int) (w0 w:World) (g:Nat),Kd.C k27 w0 A ks.length ks→ks.length≤c→Below w0.heap.size w0 w→w0.heap.size≤g→w.heap[g]?=some (.cells #[.int .i64 left] 3 (0,0))→impl_docOk.f m o n t ks deep left=some (r1,r2) →
   Calls Try.prog 52 #[.agg #[.int .i64 o,.int .i64 n,.string t,.slice A ks.length c],.int .i64 deep,.pointer (some ⟨g,0,none⟩)] w fun e w'=>e=.returned (.bool r1)∧Below w0.heap.size w0 w'∧w'.heap[g]?=some (.cells #[.int .i64 r2] 3 (0,0)))
  (r1:Bool) (r2:Int) (hL:impl_docOk.l0 k ks 0 deep (wrap64 (left - 1))=some (r1,r2)) :
  Calls Try.prog 52 #[.agg #[.int .i64 o,.int .i64 n,.string t,.slice A ks.length c],.int .i64 deep,.pointer (some ⟨g,0,none⟩)] w fun e w'=>e=.returned (.bool r1)∧Below w0.heap.size w0 w'∧w'.heap[g]?=some (.cells #[.int .i64 r2] 3 (0,0)):=by
 have O0:=Aside0.mk (show 0≤o by have:=of_decide_eq_false h3;omega)
 have O9:=Aside0.mk (show o < 9 by have:=of_decide_eq_false h4;omega)
 have HT:=Aside0.mk hT
 clear hT
 have H':=Aside0.mk hL
 clear hL
 have HR:=Aside0.mk hr
 have HC:=Aside0.mk hc
 clear hr hc
 have hu29:=Try.underlying27
 have hu3:=Try.underlying3
 have HB:=Aside0.mk hB
 have HG:=Aside0.mk hg
 have BK:=Aside0.mk hb
 clear hB hg hb
 go_enter Try.func52,Try.ntmps52
 go_wp2_with (first|((with_reducible refine gate_dst (N:=3) rfl ?_);refine box_event ?hg (N:=3) ?hd (cs:=#[.int .i64 o,.int .i64 n,.string t,.slice A ks.length c]) (t:=27) ?hr ?_;(case hd=>rfl);(case hg=>rfl);(case hr=>first|(go_simp;done)|(go_simp;rfl));intro gb hgb w2 hbox hb2;have n0_:=Aside0.mk (below_step HB.out hb2);have n1_:=Aside0.mk (blk_below BK.out hb2);have n2_:=Aside0.mk hbox;have NE:=Aside0.mk (by rw [hgb];exact Nat.ne_of_lt (blk_lt BK.out):g ≠ gb);clear HB BK;have HB:=n0_;have BK:=n1_;have BD:=n2_;clear n0_ n1_ n2_ hb2 hbox hgb;have hcg:w2.cell? ⟨g,0,none⟩=some (.int .i64 left):=(blk_cell BK.out 0).trans rfl;have hfg:=blk_frozen BK.out 0)|((with_reducible refine gate_store (t:=3) (p:=14) rfl ?_);refine store_event (t:=3) (p:=14) (v:=?vo_w13) (w1:=w2.setCell ⟨g,0,none⟩ (.int .i64 (wrap64 (left - 1)))) ?hg ?ho ?hn ?hr ?_;(case ho=>rfl);(case hg=>rfl);(case hn=>rfl);(case hr=>first|(go_simp;done)|(go_simp;rfl));intro w3 hw;have n0_:=Aside0.mk (by rw [hw];exact below_set HB.out HG.out:Below w0.heap.size w0 w3);have n1_:Aside0 (w3.heap[g]?=some (.cells #[.int .i64 (wrap64 (left - 1))] 3 (0,0))):=Aside0.mk (by rw [hw];exact blk_set BK.out 0 _);have n2_:Aside0 (w3.heap[gb]?=some (.cells #[.int .i64 o,.int .i64 n,.string t,.slice A ks.length c] 27 (0,0))):=Aside0.mk (by rw [hw];exact blk_far BD.out NE.out.symm _);clear HB BK BD hcg hfg hw;have HB:=n0_;have BK:=n1_;have BD:=n2_;clear n0_ n1_ n2_;have hcg:w3.cell? ⟨g,0,none⟩=some (.int .i64 (wrap64 (left - 1))):=(blk_cell BK.out 0).trans rfl;have hd0:w3.cell? ⟨gb,0,none⟩=some (.int .i64 o):=(blk_cell BD.out 0).trans rfl;have hd1:w3.cell? ⟨gb,1,none⟩=some (.int .i64 n):=(blk_cell BD.out 1).trans rfl;have hd2:w3.cell? ⟨gb,2,none⟩=some (.string t):=(blk_cell BD.out 2).trans rfl;have hd3:w3.cell? ⟨gb,3,none⟩=some (.slice A ks.length c):=(blk_cell BD.out 3).trans rfl))
 obtain ⟨w4,hw4⟩:∃ W:World,W=w3.alloc (.cells #[.int .i64 0,.int .i64 0,.int .i64 0,.int .i64 0,.int .i64 0,.int .i64 0,.int .i64 1,.int .i64 2,.int .i64 1] 75):=⟨_,rfl⟩
 obtain ⟨ga,hga⟩:∃ ga:Nat,ga=w3.heap.size:=⟨_,rfl⟩
 rw [← hw4,← hga]
 have BA:=Aside0.mk (by rw [hw4,hga];exact blk_new _ _:w4.heap[ga]?=some (.cells #[.int .i64 0,.int .i64 0,.int .i64 0,.int .i64 0,.int .i64 0,.int .i64 0,.int .i64 1,.int .i64 2,.int .i64 1] 75 (0,0)))
 have hb4:Below w3.heap.size w3 w4:=by rw [hw4];exact below_alloc (Below.refl _ _) _
 have n0_:=Aside0.mk (below_step HB.out hb4)
 have n1_:=Aside0.mk (blk_below BK.out hb4)
 have n2_:=Aside0.mk (blk_below BD.out hb4)
 clear HB BK BD hcg hd0 hd1 hd2 hd3 hb4 hw4 hga
 have HB:=n0_
 have BK:=n1_
 have BD:=n2_
 clear n0_ n1_ n2_
 have hk:w4.cell? ⟨ga,o.toNat,none⟩=some (.int .i64 (docKids o)):=docKids_cell BA.out o O0.out O9.out
 have hd0:w4.cell? ⟨gb,0,none⟩=some (.int .i64 o):=(blk_cell BD.out 0).trans rfl;have hd1:w4.cell? ⟨gb,1,none⟩=some (.int .i64 n):=(blk_cell BD.out 1).trans rfl;have hd2:w4.cell? ⟨gb,2,none⟩=some (.string t):=(blk_cell BD.out 2).trans rfl;have hd3:w4.cell? ⟨gb,3,none⟩=some (.slice A ks.length c):=(blk_cell BD.out 3).trans rfl
 have o0:=eq_true O0.out
 have o9:=eq_true O9.out
 go_quiet (fail)
 go_wp2_with (first|(go_at_call 16;(with_reducible refine (impl_TextValid.calls kt t true _ HT.out).mono ?_);rintro e w5 ⟨rfl,⟨nd,rfl⟩⟩))
 clear hk o0 o9 hd0 hd1 hd2 hd3
 go_loopg [84] k (fun kq v84 w'=>∃ (i lf:Int),v84=.int .i64 i∧Aside0 (impl_docOk.l0 kq ks i deep lf=some (r1,r2))∧Aside0 (kq≤k)∧Aside0 (w'.heap[g]?=some (.cells #[.int .i64 lf] 3 (0,0)))∧Aside0 (Below w0.heap.size w0 w'))
 case atStart=>exact ⟨0,(wrap64 (left - 1)),rfl,H',⟨Nat.le_refl _⟩,⟨gK BK⟩,⟨gB HB⟩⟩
 case round =>
  clear H' BK HB
  obtain ⟨i,lf,rfl,HA,HK1,BK,HB⟩:=hrel
  cases gk with
  | zero=>exact absurd HA.out (by simp [impl_docOk.l0])
  | succ k1 =>
   have H:=HA.out
   clear HA
   simp only [impl_docOk.l0] at H
   by_cases c4:i < (ks.length:Int)
   ·rw [if_pos c4] at H
    have c4b0:decide (i < (ks.length:Int))=true:=decide_eq_true c4
    by_cases c5:0≤i
    ·rw [if_pos c5] at H
     have c5b0:decide (0≤i)=true:=decide_eq_true c5
     replace H:=Option.bind_eq_some_iff.mp H
     obtain ⟨⟨b1,b2⟩,A70,H⟩:=H
     have A7:=Aside0.mk A70
     clear A70
     obtain ⟨ad,A3,c3,eA,hx0,hx1,hx2,hx3,hl3,hi3⟩:=at_TDoc HR.out i c5 c4
     cases eA
     replace hx0:=(HB.out.cell (World.block_lt_of_cell? w0 _ hx0)).trans hx0
     replace hx1:=(HB.out.cell (World.block_lt_of_cell? w0 _ hx1)).trans hx1
     replace hx2:=(HB.out.cell (World.block_lt_of_cell? w0 _ hx2)).trans hx2
     replace hx3:=(HB.out.cell (World.block_lt_of_cell? w0 _ hx3)).trans hx3
     have HR3:=Aside0.mk hi3
     have HC3:=Aside0.mk hl3
     clear hi3 hl3
     replace c4:=eq_true c4
     replace c5:=eq_true c5
     have H':=Aside0.mk H
     clear H
     have HS:Aside0 (∀ (x:Bool),b1=x→Aside0 ((if x=true then (impl_docOk.l0 k1 ks (wrap64 (i+1)) deep b2) else (some (false,b2)))=some (r1,r2))):=⟨fun x hx=>⟨by rw [← hx];exact H'.out⟩⟩
     clear H'
     cases b1
     all_goals
      go_wp2_with (first|((with_reducible refine gate_dst (N:=9) rfl ?_);refine box_event ?hg (N:=9) ?hd (cs:=#[.int .i64 0,.int .i64 0,.string (⟨#[]⟩:ByteArray),.slice none 0 0]) (t:=27) ?hr ?_;(case hd=>rfl);(case hg=>rfl);(case hr=>first|(go_simp;done)|(go_simp;rfl));intro gx hgx w8 hbox hb8;have n0_:=Aside0.mk (below_step HB.out hb8);have n1_:=Aside0.mk (blk_below BK.out hb8);have n2_:=Aside0.mk hbox;have NX:=Aside0.mk (by rw [hgx];exact Nat.ne_of_lt (blk_lt BK.out):g ≠ gx);have GX:=Aside0.mk (by rw [hgx];exact HB.out.size:w0.heap.size≤gx);clear HB BK;have HB:=n0_;have BK:=n1_;have BX:=n2_;clear n0_ n1_ n2_ hb8 hbox hgx;have hy0:w8.cell? ⟨gx,0,none⟩=some (.int .i64 0):=(blk_cell BX.out 0).trans rfl;have hy1:w8.cell? ⟨gx,1,none⟩=some (.int .i64 0):=(blk_cell BX.out 1).trans rfl;have hy2:w8.cell? ⟨gx,2,none⟩=some (.string ⟨#[]⟩):=(blk_cell BX.out 2).trans rfl;have hy3:w8.cell? ⟨gx,3,none⟩=some (.slice none 0 0):=(blk_cell BX.out 3).trans rfl;have hf0:=blk_frozen BX.out 0;have hf1:=blk_frozen BX.out 1;have hf2:=blk_frozen BX.out 2;have hf3:=blk_frozen BX.out 3)|((with_reducible refine gate_store (t:=27) (p:=9) rfl ?_);refine store_event (t:=27) (p:=9) (v:=?vo_w9) (w1:=((((w8.setCell ⟨gx,0,none⟩ (.int .i64 (rd_TDoc ks i).f0)).setCell ⟨gx,1,none⟩ (.int .i64 (rd_TDoc ks i).f1)).setCell ⟨gx,2,none⟩ (.string (rd_TDoc ks i).f2)).setCell ⟨gx,3,none⟩ (.slice A3 (rd_TDoc ks i).f3.length c3))) ?hg ?ho ?hn ?hr ?_;(case ho=>rfl);(case hg=>rfl);(case hn=>rfl);(case hr=>first|(go_simp;done)|(go_simp;rfl));intro w9 hw;have n0_:=Aside0.mk (by rw [hw];exact below_set (below_set (below_set (below_set HB.out GX.out) GX.out) GX.out) GX.out:Below w0.heap.size w0 w9);have n1_:Aside0 (w9.heap[g]?=some (.cells #[.int .i64 lf] 3 (0,0))):=Aside0.mk (by rw [hw];exact blk_far (blk_far (blk_far (blk_far BK.out NX.out _) NX.out _) NX.out _) NX.out _);have n2_:Aside0 (w9.heap[gx]?=some (.cells #[.int .i64 (rd_TDoc ks i).f0,.int .i64 (rd_TDoc ks i).f1,.string (rd_TDoc ks i).f2,.slice A3 (rd_TDoc ks i).f3.length c3] 27 (0,0))):=Aside0.mk (by rw [hw];exact (blk_set (blk_set (blk_set (blk_set BX.out 0 _) 1 _) 2 _) 3 _).trans rfl);clear HB BK BX hy0 hy1 hy2 hy3 hf0 hf1 hf2 hf3 hw;have HB:=n0_;have BK:=n1_;have BX:=n2_;clear n0_ n1_ n2_;have hy0:w9.cell? ⟨gx,0,none⟩=some (.int .i64 (rd_TDoc ks i).f0):=(blk_cell BX.out 0).trans rfl;have hy1:w9.cell? ⟨gx,1,none⟩=some (.int .i64 (rd_TDoc ks i).f1):=(blk_cell BX.out 1).trans rfl;have hy2:w9.cell? ⟨gx,2,none⟩=some (.string (rd_TDoc ks i).f2):=(blk_cell BX.out 2).trans rfl;have hy3:w9.cell? ⟨gx,3,none⟩=some (.slice A3 (rd_TDoc ks i).f3.length c3):=(blk_cell BX.out 3).trans rfl)|((with_reducible refine gate_callee (f:=52) rfl ?_);refine goesL_ (some 92) rfl rfl Try.func52 (by kernel_rfl) rfl #[.agg #[.int .i64 (rd_TDoc ks i).f0,.int .i64 (rd_TDoc ks i).f1,.string (rd_TDoc ks i).f2,.slice A3 (rd_TDoc ks i).f3.length c3],.int .i64 (wrap64 (deep - 1)),.pointer (some ⟨g,0,none⟩)] rfl (by (try simp only [List.map_toArray,List.map_cons,List.map_nil]);first|done|rfl) ?_;(with_reducible refine (ih k1 (by have:=HK1.out;omega) (rd_TDoc ks i).f0 (rd_TDoc ks i).f1 (rd_TDoc ks i).f2 A3 c3 (rd_TDoc ks i).f3 (wrap64 (deep - 1)) lf _ b2 w0 _ g HR3.out HC3.out ?side1 HG.out ?side2 A7.out).mono ?_);(case side1=>exact (gB HB));(case side2=>(with_reducible repeat (first|refine blk_drewN ?_ _|refine blk_drew ?_|refine blk_alloc ?_ _));exact BK.out);rintro e w10 ⟨rfl,hb10,hk10⟩;refine ⟨_,rfl,?_⟩;clear HB BK BX hy0 hy1 hy2 hy3;have HB:=Aside0.mk hb10;have BK:=Aside0.mk hk10;clear hb10 hk10))
     ·obtain ⟨rfl,rfl⟩:r1=false∧r2=b2:=by have h_:=(HS.out false rfl).out;simpa [eq_comm] using h_
      go_ret
      exact ⟨rfl,gB HB,gK BK⟩
     ·go_roundg k1
      case measure=>have:=HK1.out;omega
      case rel=>exact ⟨(wrap64 (i+1)),b2,(by first|rfl|(simp;done)|(simp [*];done)),⟨(HS.out true rfl).out⟩,⟨by have:=HK1.out;omega⟩,⟨gK BK⟩,⟨gB HB⟩⟩
    ·rw [if_neg c5] at H
     exact absurd H (by simp)
   ·rw [if_neg c4] at H
    have c4b0:decide (i < (ks.length:Int))=false:=decide_eq_false c4
    clear c4
    simp only [Option.some.injEq,Prod.mk.injEq] at H
    obtain ⟨rfl,rfl⟩:=H
    go_wp2
    go_ret
    exact ⟨rfl,gB HB,gK BK⟩
set_option maxHeartbeats 8000000 in
set_option maxRecDepth 100000 in
theorem impl_docOk.loopE (o n:Int) (t:ByteArray) (A:Option Addr) (c:Nat) (ks:List (SDoc)) (deep left:Int) (w0 w:World) (g:Nat)
  (hr:Kd.C k27 w0 A ks.length ks) (hc:ks.length≤c) (hB:Below w0.heap.size w0 w) (hg:w0.heap.size≤g) (hb:w.heap[g]?=some (.cells #[.int .i64 left] 3 (0,0)))
  (h1:(deep == 0)=false) (h2:decide ((wrap64 (left - 1)) < 0)=false) (h3:decide (o < 1)=false) (h4:decide (8 < o)=false) (h5:((ks.length:Int) != docKids o)=false) (h6:decide (n < 0)=false) (h7:decide (9 < n)=false)
  (hA:(decide (0 < n)=false∧((o == 2)=false∧(o != 2)=true)∧((t.toList == ([]:List UInt8))=true∧(t.toList != ([]:List UInt8))=false∧t.toList.isEmpty=true)) ∨ (decide (0 < n)=true∧(o != 6)=false∧((o == 2)=false∧(o != 2)=true)∧((t.toList == ([]:List UInt8))=true∧(t.toList != ([]:List UInt8))=false∧t.toList.isEmpty=true)))
  (k:Nat) (ih:∀ m,m < k+1→∀ (o n:Int) (t:ByteArray) (A:Option Addr) (c:Nat) (ks:List (SDoc)) (deep left:Int) (r1:Bool) (r2:Int) (w0 w:World) (g:Nat),Kd.C k27 w0 A ks.length ks→ks.length≤c→Below w0.heap.size w0 w→w0.heap.size≤g→w.heap[g]?=some (.cells #[.int .i64 left] 3 (0,0))→impl_docOk.f m o n t ks deep left=some (r1,r2) →
   Calls Try.prog 52 #[.agg #[.int .i64 o,.int .i64 n,.string t,.slice A ks.length c],.int .i64 deep,.pointer (some ⟨g,0,none⟩)] w fun e w'=>e=.returned (.bool r1)∧Below w0.heap.size w0 w'∧w'.heap[g]?=some (.cells #[.int .i64 r2] 3 (0,0)))
  (r1:Bool) (r2:Int) (hL:impl_docOk.l0 k ks 0 deep (wrap64 (left - 1))=some (r1,r2)) :
  Calls Try.prog 52 #[.agg #[.int .i64 o,.int .i64 n,.string t,.slice A ks.length c],.int .i64 deep,.pointer (some ⟨g,0,none⟩)] w fun e w'=>e=.returned (.bool r1)∧Below w0.heap.size w0 w'∧w'.heap[g]?=some (.cells #[.int .i64 r2] 3 (0,0)):=by
 have O0:=Aside0.mk (show 0≤o by have:=of_decide_eq_false h3;omega)
 have O9:=Aside0.mk (show o < 9 by have:=of_decide_eq_false h4;omega)
 rcases hA with ⟨h8,⟨h10,h11⟩,h12,h13,h14⟩ | ⟨h8,h9,⟨h10,h11⟩,h12,h13,h14⟩
 all_goals
  have H':=Aside0.mk hL
  clear hL
  have HR:=Aside0.mk hr
  have HC:=Aside0.mk hc
  clear hr hc
  have hu29:=Try.underlying27
  have hu3:=Try.underlying3
  have HB:=Aside0.mk hB
  have HG:=Aside0.mk hg
  have BK:=Aside0.mk hb
  clear hB hg hb
  go_enter Try.func52,Try.ntmps52
  go_wp2_with (first|((with_reducible refine gate_dst (N:=3) rfl ?_);refine box_event ?hg (N:=3) ?hd (cs:=#[.int .i64 o,.int .i64 n,.string t,.slice A ks.length c]) (t:=27) ?hr ?_;(case hd=>rfl);(case hg=>rfl);(case hr=>first|(go_simp;done)|(go_simp;rfl));intro gb hgb w2 hbox hb2;have n0_:=Aside0.mk (below_step HB.out hb2);have n1_:=Aside0.mk (blk_below BK.out hb2);have n2_:=Aside0.mk hbox;have NE:=Aside0.mk (by rw [hgb];exact Nat.ne_of_lt (blk_lt BK.out):g ≠ gb);clear HB BK;have HB:=n0_;have BK:=n1_;have BD:=n2_;clear n0_ n1_ n2_ hb2 hbox hgb;have hcg:w2.cell? ⟨g,0,none⟩=some (.int .i64 left):=(blk_cell BK.out 0).trans rfl;have hfg:=blk_frozen BK.out 0)|((with_reducible refine gate_store (t:=3) (p:=14) rfl ?_);refine store_event (t:=3) (p:=14) (v:=?vo_w13) (w1:=w2.setCell ⟨g,0,none⟩ (.int .i64 (wrap64 (left - 1)))) ?hg ?ho ?hn ?hr ?_;(case ho=>rfl);(case hg=>rfl);(case hn=>rfl);(case hr=>first|(go_simp;done)|(go_simp;rfl));intro w3 hw;have n0_:=Aside0.mk (by rw [hw];exact below_set HB.out HG.out:Below w0.heap.size w0 w3);have n1_:Aside0 (w3.heap[g]?=some (.cells #[.int .i64 (wrap64 (left - 1))] 3 (0,0))):=Aside0.mk (by rw [hw];exact blk_set BK.out 0 _);have n2_:Aside0 (w3.heap[gb]?=some (.cells #[.int .i64 o,.int .i64 n,.string t,.slice A ks.length c] 27 (0,0))):=Aside0.mk (by rw [hw];exact blk_far BD.out NE.out.symm _);clear HB BK BD hcg hfg hw;have HB:=n0_;have BK:=n1_;have BD:=n2_;clear n0_ n1_ n2_;have hcg:w3.cell? ⟨g,0,none⟩=some (.int .i64 (wrap64 (left - 1))):=(blk_cell BK.out 0).trans rfl;have hd0:w3.cell? ⟨gb,0,none⟩=some (.int .i64 o):=(blk_cell BD.out 0).trans rfl;have hd1:w3.cell? ⟨gb,1,none⟩=some (.int .i64 n):=(blk_cell BD.out 1).trans rfl;have hd2:w3.cell? ⟨gb,2,none⟩=some (.string t):=(blk_cell BD.out 2).trans rfl;have hd3:w3.cell? ⟨gb,3,none⟩=some (.slice A ks.length c):=(blk_cell BD.out 3).trans rfl))
  obtain ⟨w4,hw4⟩:∃ W:World,W=w3.alloc (.cells #[.int .i64 0,.int .i64 0,.int .i64 0,.int .i64 0,.int .i64 0,.int .i64 0,.int .i64 1,.int .i64 2,.int .i64 1] 75):=⟨_,rfl⟩
  obtain ⟨ga,hga⟩:∃ ga:Nat,ga=w3.heap.size:=⟨_,rfl⟩
  rw [← hw4,← hga]
  have BA:=Aside0.mk (by rw [hw4,hga];exact blk_new _ _:w4.heap[ga]?=some (.cells #[.int .i64 0,.int .i64 0,.int .i64 0,.int .i64 0,.int .i64 0,.int .i64 0,.int .i64 1,.int .i64 2,.int .i64 1] 75 (0,0)))
  have hb4:Below w3.heap.size w3 w4:=by rw [hw4];exact below_alloc (Below.refl _ _) _
  have n0_:=Aside0.mk (below_step HB.out hb4)
  have n1_:=Aside0.mk (blk_below BK.out hb4)
  have n2_:=Aside0.mk (blk_below BD.out hb4)
  clear HB BK BD hcg hd0 hd1 hd2 hd3 hb4 hw4 hga
  have HB:=n0_
  have BK:=n1_
  have BD:=n2_
  clear n0_ n1_ n2_
  have hk:w4.cell? ⟨ga,o.toNat,none⟩=some (.int .i64 (docKids o)):=docKids_cell BA.out o O0.out O9.out
  have hd0:w4.cell? ⟨gb,0,none⟩=some (.int .i64 o):=(blk_cell BD.out 0).trans rfl;have hd1:w4.cell? ⟨gb,1,none⟩=some (.int .i64 n):=(blk_cell BD.out 1).trans rfl;have hd2:w4.cell? ⟨gb,2,none⟩=some (.string t):=(blk_cell BD.out 2).trans rfl;have hd3:w4.cell? ⟨gb,3,none⟩=some (.slice A ks.length c):=(blk_cell BD.out 3).trans rfl
  have o0:=eq_true O0.out
  have o9:=eq_true O9.out
  go_quiet (fail)
  go_wp2
  clear hk o0 o9 hd0 hd1 hd2 hd3
  go_loopg [84] k (fun kq v84 w'=>∃ (i lf:Int),v84=.int .i64 i∧Aside0 (impl_docOk.l0 kq ks i deep lf=some (r1,r2))∧Aside0 (kq≤k)∧Aside0 (w'.heap[g]?=some (.cells #[.int .i64 lf] 3 (0,0)))∧Aside0 (Below w0.heap.size w0 w'))
  case atStart=>exact ⟨0,(wrap64 (left - 1)),rfl,H',⟨Nat.le_refl _⟩,⟨gK BK⟩,⟨gB HB⟩⟩
  case round =>
   clear H' BK HB
   obtain ⟨i,lf,rfl,HA,HK1,BK,HB⟩:=hrel
   cases gk with
   | zero=>exact absurd HA.out (by simp [impl_docOk.l0])
   | succ k1 =>
    have H:=HA.out
    clear HA
    simp only [impl_docOk.l0] at H
    by_cases c4:i < (ks.length:Int)
    ·rw [if_pos c4] at H
     have c4b0:decide (i < (ks.length:Int))=true:=decide_eq_true c4
     by_cases c5:0≤i
     ·rw [if_pos c5] at H
      have c5b0:decide (0≤i)=true:=decide_eq_true c5
      replace H:=Option.bind_eq_some_iff.mp H
      obtain ⟨⟨b1,b2⟩,A70,H⟩:=H
      have A7:=Aside0.mk A70
      clear A70
      obtain ⟨ad,A3,c3,eA,hx0,hx1,hx2,hx3,hl3,hi3⟩:=at_TDoc HR.out i c5 c4
      cases eA
      replace hx0:=(HB.out.cell (World.block_lt_of_cell? w0 _ hx0)).trans hx0
      replace hx1:=(HB.out.cell (World.block_lt_of_cell? w0 _ hx1)).trans hx1
      replace hx2:=(HB.out.cell (World.block_lt_of_cell? w0 _ hx2)).trans hx2
      replace hx3:=(HB.out.cell (World.block_lt_of_cell? w0 _ hx3)).trans hx3
      have HR3:=Aside0.mk hi3
      have HC3:=Aside0.mk hl3
      clear hi3 hl3
      replace c4:=eq_true c4
      replace c5:=eq_true c5
      have H':=Aside0.mk H
      clear H
      have HS:Aside0 (∀ (x:Bool),b1=x→Aside0 ((if x=true then (impl_docOk.l0 k1 ks (wrap64 (i+1)) deep b2) else (some (false,b2)))=some (r1,r2))):=⟨fun x hx=>⟨by rw [← hx];exact H'.out⟩⟩
      clear H'
      cases b1
      all_goals
       go_wp2_with (first|((with_reducible refine gate_dst (N:=9) rfl ?_);refine box_event ?hg (N:=9) ?hd (cs:=#[.int .i64 0,.int .i64 0,.string (⟨#[]⟩:ByteArray),.slice none 0 0]) (t:=27) ?hr ?_;(case hd=>rfl);(case hg=>rfl);(case hr=>first|(go_simp;done)|(go_simp;rfl));intro gx hgx w8 hbox hb8;have n0_:=Aside0.mk (below_step HB.out hb8);have n1_:=Aside0.mk (blk_below BK.out hb8);have n2_:=Aside0.mk hbox;have NX:=Aside0.mk (by rw [hgx];exact Nat.ne_of_lt (blk_lt BK.out):g ≠ gx);have GX:=Aside0.mk (by rw [hgx];exact HB.out.size:w0.heap.size≤gx);clear HB BK;have HB:=n0_;have BK:=n1_;have BX:=n2_;clear n0_ n1_ n2_ hb8 hbox hgx;have hy0:w8.cell? ⟨gx,0,none⟩=some (.int .i64 0):=(blk_cell BX.out 0).trans rfl;have hy1:w8.cell? ⟨gx,1,none⟩=some (.int .i64 0):=(blk_cell BX.out 1).trans rfl;have hy2:w8.cell? ⟨gx,2,none⟩=some (.string ⟨#[]⟩):=(blk_cell BX.out 2).trans rfl;have hy3:w8.cell? ⟨gx,3,none⟩=some (.slice none 0 0):=(blk_cell BX.out 3).trans rfl;have hf0:=blk_frozen BX.out 0;have hf1:=blk_frozen BX.out 1;have hf2:=blk_frozen BX.out 2;have hf3:=blk_frozen BX.out 3)|((with_reducible refine gate_store (t:=27) (p:=9) rfl ?_);refine store_event (t:=27) (p:=9) (v:=?vo_w9) (w1:=((((w8.setCell ⟨gx,0,none⟩ (.int .i64 (rd_TDoc ks i).f0)).setCell ⟨gx,1,none⟩ (.int .i64 (rd_TDoc ks i).f1)).setCell ⟨gx,2,none⟩ (.string (rd_TDoc ks i).f2)).setCell ⟨gx,3,none⟩ (.slice A3 (rd_TDoc ks i).f3.length c3))) ?hg ?ho ?hn ?hr ?_;(case ho=>rfl);(case hg=>rfl);(case hn=>rfl);(case hr=>first|(go_simp;done)|(go_simp;rfl));intro w9 hw;have n0_:=Aside0.mk (by rw [hw];exact below_set (below_set (below_set (below_set HB.out GX.out) GX.out) GX.out) GX.out:Below w0.heap.size w0 w9);have n1_:Aside0 (w9.heap[g]?=some (.cells #[.int .i64 lf] 3 (0,0))):=Aside0.mk (by rw [hw];exact blk_far (blk_far (blk_far (blk_far BK.out NX.out _) NX.out _) NX.out _) NX.out _);have n2_:Aside0 (w9.heap[gx]?=some (.cells #[.int .i64 (rd_TDoc ks i).f0,.int .i64 (rd_TDoc ks i).f1,.string (rd_TDoc ks i).f2,.slice A3 (rd_TDoc ks i).f3.length c3] 27 (0,0))):=Aside0.mk (by rw [hw];exact (blk_set (blk_set (blk_set (blk_set BX.out 0 _) 1 _) 2 _) 3 _).trans rfl);clear HB BK BX hy0 hy1 hy2 hy3 hf0 hf1 hf2 hf3 hw;have HB:=n0_;have BK:=n1_;have BX:=n2_;clear n0_ n1_ n2_;have hy0:w9.cell? ⟨gx,0,none⟩=some (.int .i64 (rd_TDoc ks i).f0):=(blk_cell BX.out 0).trans rfl;have hy1:w9.cell? ⟨gx,1,none⟩=some (.int .i64 (rd_TDoc ks i).f1):=(blk_cell BX.out 1).trans rfl;have hy2:w9.cell? ⟨gx,2,none⟩=some (.string (rd_TDoc ks i).f2):=(blk_cell BX.out 2).trans rfl;have hy3:w9.cell? ⟨gx,3,none⟩=some (.slice A3 (rd_TDoc ks i).f3.length c3):=(blk_cell BX.out 3).trans rfl)|((with_reducible refine gate_callee (f:=52) rfl ?_);refine goesL_ (some 92) rfl rfl Try.func52 (by kernel_rfl) rfl #[.agg #[.int .i64 (rd_TDoc ks i).f0,.int .i64 (rd_TDoc ks i).f1,.string (rd_TDoc ks i).f2,.slice A3 (rd_TDoc ks i).f3.length c3],.int .i64 (wrap64 (deep - 1)),.pointer (some ⟨g,0,none⟩)] rfl (by (try simp only [List.map_toArray,List.map_cons,List.map_nil]);first|done|rfl) ?_;(with_reducible refine (ih k1 (by have:=HK1.out;omega) (rd_TDoc ks i).f0 (rd_TDoc ks i).f1 (rd_TDoc ks i).f2 A3 c3 (rd_TDoc ks i).f3 (wrap64 (deep - 1)) lf _ b2 w0 _ g HR3.out HC3.out ?side1 HG.out ?side2 A7.out).mono ?_);(case side1=>exact (gB HB));(case side2=>(with_reducible repeat (first|refine blk_drewN ?_ _|refine blk_drew ?_|refine blk_alloc ?_ _));exact BK.out);rintro e w10 ⟨rfl,hb10,hk10⟩;refine ⟨_,rfl,?_⟩;clear HB BK BX hy0 hy1 hy2 hy3;have HB:=Aside0.mk hb10;have BK:=Aside0.mk hk10;clear hb10 hk10))
      ·obtain ⟨rfl,rfl⟩:r1=false∧r2=b2:=by have h_:=(HS.out false rfl).out;simpa [eq_comm] using h_
       go_ret
       exact ⟨rfl,gB HB,gK BK⟩
      ·go_roundg k1
       case measure=>have:=HK1.out;omega
       case rel=>exact ⟨(wrap64 (i+1)),b2,(by first|rfl|(simp;done)|(simp [*];done)),⟨(HS.out true rfl).out⟩,⟨by have:=HK1.out;omega⟩,⟨gK BK⟩,⟨gB HB⟩⟩
     ·rw [if_neg c5] at H
      exact absurd H (by simp)
    ·rw [if_neg c4] at H
     have c4b0:decide (i < (ks.length:Int))=false:=decide_eq_false c4
     clear c4
     simp only [Option.some.injEq,Prod.mk.injEq] at H
     obtain ⟨rfl,rfl⟩:=H
     go_wp2
     go_ret
     exact ⟨rfl,gB HB,gK BK⟩
theorem impl_docOk.calls (k:Nat):∀ (o n:Int) (t:ByteArray) (A:Option Addr) (c:Nat) (ks:List (SDoc)) (deep left:Int) (r1:Bool) (r2:Int) (w0 w:World) (g:Nat),Kd.C k27 w0 A ks.length ks→ks.length≤c→Below w0.heap.size w0 w→w0.heap.size≤g→w.heap[g]?=some (.cells #[.int .i64 left] 3 (0,0))→impl_docOk.f k o n t ks deep left=some (r1,r2) →
   Calls Try.prog 52 #[.agg #[.int .i64 o,.int .i64 n,.string t,.slice A ks.length c],.int .i64 deep,.pointer (some ⟨g,0,none⟩)] w fun e w'=>e=.returned (.bool r1)∧Below w0.heap.size w0 w'∧w'.heap[g]?=some (.cells #[.int .i64 r2] 3 (0,0)):=by
 induction k using Nat.strongRecOn with
 | _ k ih =>
 intro o n t A c ks deep left r1 r2 w0 w g hr hc hB hg hb h
 cases k with
 | zero=>exact absurd h (by simp [impl_docOk.f])
 | succ k =>
 simp only [impl_docOk.f] at h
 have be:∀ x y:Int,x=y→(x == y)=true∧(x != y)=false:=fun x y e=>by simp [e]
 have bn:∀ x y:Int,¬ x=y→(x == y)=false∧(x != y)=true:=fun x y e=>by simp [e]
 by_cases a1:deep=0 ∨ (wrap64 (left - 1)) < 0 ∨ o < 1 ∨ 8 < o
 ·rw [if_pos a1] at h
  simp only [Option.some.injEq,Prod.mk.injEq] at h
  obtain ⟨rfl,rfl⟩:=h
  refine impl_docOk.failA o n t A c ks deep left w0 w g hr hc hB hg hb ?_
  by_cases e1:deep=0
  ·exact .inl (be _ _ e1).1
  ·by_cases e2:(wrap64 (left - 1)) < 0
   ·exact .inr (.inl ⟨(bn _ _ e1).1,decide_eq_true e2⟩)
   ·by_cases e3:o < 1
    ·exact .inr (.inr (.inl ⟨(bn _ _ e1).1,decide_eq_false e2,decide_eq_true e3⟩))
    ·have e4:8 < o:=by rcases a1 with a|a|a|a <;> first|exact absurd a e1|exact absurd a e2|exact absurd a e3|exact a
     exact .inr (.inr (.inr ⟨(bn _ _ e1).1,decide_eq_false e2,decide_eq_false e3,decide_eq_true e4⟩))
 ·rw [if_neg a1] at h
  have e1:¬ deep=0:=fun e=>a1 (.inl e)
  have e2:¬ (wrap64 (left - 1)) < 0:=fun e=>a1 (.inr (.inl e))
  have e3:¬ o < 1:=fun e=>a1 (.inr (.inr (.inl e)))
  have e4:¬ 8 < o:=fun e=>a1 (.inr (.inr (.inr e)))
  have h1:=(bn _ _ e1).1
  have h2:=decide_eq_false e2
  have h3:=decide_eq_false e3
  have h4:=decide_eq_false e4
  by_cases a2:¬ ((ks.length:Int)=docKids o) ∨ n < 0 ∨ 9 < n ∨ (0 < n∧¬ (o=6))
  ·rw [if_pos a2] at h
   simp only [Option.some.injEq,Prod.mk.injEq] at h
   obtain ⟨rfl,rfl⟩:=h
   refine impl_docOk.failB o n t A c ks deep left w0 w g hr hc hB hg hb h1 h2 h3 h4 ?_
   by_cases e5:(ks.length:Int)=docKids o
   ·by_cases e6:n < 0
    ·exact .inr (.inl ⟨(be _ _ e5).2,decide_eq_true e6⟩)
    ·by_cases e7:9 < n
     ·exact .inr (.inr (.inl ⟨(be _ _ e5).2,decide_eq_false e6,decide_eq_true e7⟩))
     ·have e8:0 < n∧¬ (o=6):=by rcases a2 with a|a|a|a <;> first|exact absurd e5 a|exact absurd a e6|exact absurd a e7|exact a
      exact .inr (.inr (.inr ⟨(be _ _ e5).2,decide_eq_false e6,decide_eq_false e7,decide_eq_true e8.1,(bn _ _ e8.2).2⟩))
   ·exact .inl (bn _ _ e5).2
  ·rw [if_neg a2] at h
   have h5:=(be _ _ (Decidable.not_not.1 (fun e=>a2 (.inl e)):(ks.length:Int)=docKids o)).2
   have h6:=decide_eq_false (fun e=>a2 (.inr (.inl e)):¬ n < 0)
   have h7:=decide_eq_false (fun e=>a2 (.inr (.inr (.inl e))):¬ 9 < n)
   have e8:0 < n→o=6:=fun e=>Decidable.not_not.1 (fun e'=>a2 (.inr (.inr (.inr ⟨e,e'⟩))))
   by_cases e9:o=2
   ·rw [if_pos e9] at h
    obtain ⟨b,hT,h⟩:=Option.bind_eq_some_iff.mp h
    have h8:decide (0 < n)=false:=decide_eq_false (fun e=>by have:=e8 e;omega)
    cases b with
    | false =>
     simp only [Bool.false_eq_true,if_false,Option.some.injEq,Prod.mk.injEq] at h
     obtain ⟨rfl,rfl⟩:=h
     exact impl_docOk.failT o n t A c ks deep left w0 w g hr hc hB hg hb h1 h2 h3 h4 h5 h6 h7 h8 (be _ _ e9).1 (be _ _ e9).2 k hT
    | true =>
     simp only [if_true] at h
     exact impl_docOk.loopT o n t A c ks deep left w0 w g hr hc hB hg hb h1 h2 h3 h4 h5 h6 h7 h8 (be _ _ e9).1 (be _ _ e9).2 k hT k ih r1 r2 h
   ·rw [if_neg e9] at h
    have h10:=bn _ _ e9
    by_cases e10:t.toList=[]
    ·rw [if_pos e10] at h
     refine impl_docOk.loopE o n t A c ks deep left w0 w g hr hc hB hg hb h1 h2 h3 h4 h5 h6 h7 ?_ k ih r1 r2 h
     have hte:(t.toList == ([]:List UInt8))=true∧(t.toList != ([]:List UInt8))=false∧t.toList.isEmpty=true:=by simp [e10]
     by_cases e11:0 < n
     ·exact .inr ⟨decide_eq_true e11,(be _ _ (e8 e11)).2,h10,hte⟩
     ·exact .inl ⟨decide_eq_false e11,h10,hte⟩
    ·rw [if_neg e10] at h
     simp only [Option.some.injEq,Prod.mk.injEq] at h
     obtain ⟨rfl,rfl⟩:=h
     refine impl_docOk.failC o n t A c ks deep left w0 w g hr hc hB hg hb h1 h2 h3 h4 h5 h6 h7 ?_
     have hte:(t.toList == ([]:List UInt8))=false∧(t.toList != ([]:List UInt8))=true∧t.toList.isEmpty=false:=by simp [e10]
     by_cases e11:0 < n
     ·exact .inr ⟨decide_eq_true e11,(be _ _ (e8 e11)).2,h10,hte⟩
     ·exact .inl ⟨decide_eq_false e11,h10,hte⟩
def impl_DocValid.f (k:Nat) (a0_0:Int) (a0_1:Int) (a0_2:ByteArray) (l0_3:List (SDoc)):Option (Bool):=(impl_docOk.f k a0_0 a0_1 a0_2 l0_3 40 80).bind fun b=>(some b.1)
set_option maxHeartbeats 8000000 in
set_option maxRecDepth 100000 in
theorem impl_DocValid.calls (k:Nat) (a0_0:Int) (a0_1:Int) (a0_2:ByteArray) (A0_3:Option Addr) (c0_3:Nat) (l0_3:List (SDoc)) (r:Bool) (w:World) (hr0_3:Kd.C k27 w A0_3 l0_3.length l0_3) (hc0_3:l0_3.length≤c0_3) (h:impl_DocValid.f k a0_0 a0_1 a0_2 l0_3=some r) :
  Calls Try.prog 24 #[.agg #[.int .i64 a0_0,.int .i64 a0_1,.string a0_2,.slice A0_3 l0_3.length c0_3]] w fun e w'=>e=.returned (.bool r)∧Below w.heap.size w w':=by
 unfold impl_DocValid.f at h
 obtain ⟨⟨b1,b2⟩,hq,hr⟩:=Option.bind_eq_some_iff.mp h
 clear h
 obtain rfl:b1=r:=by simpa using hr
 clear hr
 have hu29:=Try.underlying27
 have hu3:=Try.underlying3
 have HR:=Aside0.mk hr0_3
 have HC:=Aside0.mk hc0_3
 have HF:=Aside0.mk hq
 clear hr0_3 hc0_3 hq
 go_enter Try.func24,Try.ntmps24
 go_wp2_with (first|((with_reducible refine gate_dst (N:=1) rfl ?_);refine box_event ?hg (N:=1) ?hd (cs:=#[.int .i64 a0_0,.int .i64 a0_1,.string a0_2,.slice A0_3 l0_3.length c0_3]) (t:=27) ?hr ?_;(case hd=>rfl);(case hg=>rfl);(case hr=>first|(go_simp;done)|(go_simp;rfl));intro gb hgb w2 hbox hb2;have HB:=Aside0.mk (below_step (Below.refl _ _) hb2);have BD:=Aside0.mk hbox;clear hb2 hbox hgb;have hd0:w2.cell? ⟨gb,0,none⟩=some (.int .i64 a0_0):=(blk_cell BD.out 0).trans rfl;have hd1:w2.cell? ⟨gb,1,none⟩=some (.int .i64 a0_1):=(blk_cell BD.out 1).trans rfl;have hd2:w2.cell? ⟨gb,2,none⟩=some (.string a0_2):=(blk_cell BD.out 2).trans rfl;have hd3:w2.cell? ⟨gb,3,none⟩=some (.slice A0_3 l0_3.length c0_3):=(blk_cell BD.out 3).trans rfl)|((with_reducible refine gate_dst (N:=3) rfl ?_);refine box_event ?hg (N:=3) ?hd (cs:=#[.int .i64 0]) (t:=3) ?hr ?_;(case hd=>rfl);(case hg=>rfl);(case hr=>first|(go_simp;done)|(go_simp;rfl));intro g hg w3 hbox hb2;have n0_:=Aside0.mk (below_step HB.out hb2);have n1_:=Aside0.mk (blk_below BD.out hb2);have BK:=Aside0.mk hbox;have NE:=Aside0.mk (by rw [hg];exact Nat.ne_of_lt (blk_lt BD.out):gb ≠ g);have GE:=Aside0.mk (by rw [hg];exact HB.out.size:w.heap.size≤g);clear HB BD hd0 hd1 hd2 hd3;have HB:=n0_;have BD:=n1_;clear n0_ n1_ hb2 hbox hg;have hcg:w3.cell? ⟨g,0,none⟩=some (.int .i64 0):=(blk_cell BK.out 0).trans rfl;have hfg:=blk_frozen BK.out 0)|((with_reducible refine gate_store (t:=3) (p:=3) rfl ?_);refine store_event (t:=3) (p:=3) (v:=?vo_w13) (w1:=w3.setCell ⟨g,0,none⟩ (.int .i64 80)) ?hg ?ho ?hn ?hr ?_;(case ho=>rfl);(case hg=>rfl);(case hn=>rfl);(case hr=>first|(go_simp;done)|(go_simp;rfl));intro w4 hw;have n0_:=Aside0.mk (by rw [hw];exact below_set HB.out GE.out:Below w.heap.size w w4);have n1_:Aside0 (w4.heap[g]?=some (.cells #[.int .i64 80] 3 (0,0))):=Aside0.mk (by rw [hw];exact blk_set BK.out 0 _);have n2_:Aside0 (w4.heap[gb]?=some (.cells #[.int .i64 a0_0,.int .i64 a0_1,.string a0_2,.slice A0_3 l0_3.length c0_3] 27 (0,0))):=Aside0.mk (by rw [hw];exact blk_far BD.out NE.out _);clear HB BK BD hcg hfg hw;have HB:=n0_;have BK:=n1_;have BD:=n2_;clear n0_ n1_ n2_;have hd0:w4.cell? ⟨gb,0,none⟩=some (.int .i64 a0_0):=(blk_cell BD.out 0).trans rfl;have hd1:w4.cell? ⟨gb,1,none⟩=some (.int .i64 a0_1):=(blk_cell BD.out 1).trans rfl;have hd2:w4.cell? ⟨gb,2,none⟩=some (.string a0_2):=(blk_cell BD.out 2).trans rfl;have hd3:w4.cell? ⟨gb,3,none⟩=some (.slice A0_3 l0_3.length c0_3):=(blk_cell BD.out 3).trans rfl)|((with_reducible refine gate_callee (f:=52) rfl ?_);refine goesL_ (some 5) rfl rfl Try.func52 (by kernel_rfl) rfl #[.agg #[.int .i64 a0_0,.int .i64 a0_1,.string a0_2,.slice A0_3 l0_3.length c0_3],.int .i64 40,.pointer (some ⟨g,0,none⟩)] rfl (by (try simp only [List.map_toArray,List.map_cons,List.map_nil]);first|done|rfl) ?_;(with_reducible refine (impl_docOk.calls k a0_0 a0_1 a0_2 A0_3 c0_3 l0_3 40 80 _ b2 w _ g HR.out HC.out ?side1 GE.out ?side2 HF.out).mono ?_);(case side1=>exact (gB HB));(case side2=>(with_reducible repeat (first|refine blk_drewN ?_ _|refine blk_drew ?_|refine blk_alloc ?_ _));exact BK.out);rintro e w10 ⟨rfl,hb10,hk10⟩;refine ⟨_,rfl,?_⟩;clear HB BK BD hd0 hd1 hd2 hd3;have HB:=Aside0.mk hb10;clear hb10 hk10))
 go_ret
 exact ⟨rfl,gB HB⟩
end Go.Proofs.Ytdhdfmmefghijaa.P
namespace Go.Proofs.Ytdhdfmmefghijaa.P
open Go.RowKit Go.Proofs.YtdhdfmmefghijaaW.PrintWords Go.Proofs.YtdhdfmmefghijaaW.PrintLast Go.Proofs.YtdhdfmmefghijaaW.PrintMore
attribute [local go_sem] max2_int min2_int max_two min_two max_three min_three max_four min_four
set_option linter.unusedVariables false
set_option linter.unusedSimpArgs false
def impl_leaf.f (a0:Int):Option (Int × Int × ByteArray × (List (SDoc))):=some (a0,0,(⟨#[]⟩:ByteArray),([]:List (SDoc)))
set_option maxHeartbeats 8000000 in
set_option maxRecDepth 100000 in
theorem impl_leaf.calls (a0:Int) (r1:Int) (r2:Int) (r3:ByteArray) (r4:List (SDoc)) (w:World) (h:impl_leaf.f a0=some (r1,r2,r3,r4)) :
  Calls Try.prog 67 #[.int .i64 a0] w fun e w'=>∃ v3_:Value,e=.returned (.agg #[.int .i64 r1,.int .i64 r2,.string r3,v3_])∧Kd.R k27 27 w' w.heap.size (fun _=>True) v3_ r4∧Below w.heap.size w w':=by
 have hu27:=Try.underlying27
 have HB:=Aside0.mk (Below.refl w.heap.size w)
 have H:(some (a0,0,(⟨#[]⟩:ByteArray),([]:List (SDoc))))=some (r1,r2,r3,r4):=h
 clear h
 simp only [Option.some.injEq,Prod.mk.injEq] at H
 obtain ⟨rfl,rfl,rfl,rfl⟩:=H
 go_enter Try.func67,Try.ntmps67
 go_wp2_with (first|((with_reducible refine gate_dst (N:=2) rfl ?_);refine box_event ?hg (N:=2) ?hd (cs:=#[.int .i64 0,.int .i64 0,.string (⟨#[]⟩:ByteArray),.slice none 0 0]) (t:=27) ?hr ?_;(case hd=>rfl);(case hg=>rfl);(case hr=>first|(go_simp;done)|(go_simp;rfl));intro gb137 hg w2 hbox hb;have n0_:=Aside0.mk (below_step (by repeat (first|(with_reducible first|exact HB.out|apply below_alloc|apply pw_below_drewN|apply below_drew1)|exact HB.out)) hb);have n1_:=Aside0.mk (hbox);have n2_:=Aside0.mk ((by rw [hg];exact (below_size (by repeat (first|(with_reducible first|exact HB.out|apply below_alloc|apply pw_below_drewN|apply below_drew1)|exact HB.out))):w.heap.size≤gb137));have n3_:=Aside0.mk ((by rw [hg];exact (below_size (by repeat (first|(with_reducible first|exact HB.out|apply below_alloc|apply pw_below_drewN|apply below_drew1)|exact HB.out))):w.heap.size≤gb137));clear HB;have HB:=n0_;have BK137:=n1_;have GW137:=n2_;have GE137:=n3_;clear n0_ n1_ n2_ n3_;clear hb hbox hg;have hcz3_0:w2.cell? ⟨gb137,0,none⟩=some (.int .i64 0):=(blk_cell BK137.out 0).trans rfl;have hcz3_1:w2.cell? ⟨gb137,1,none⟩=some (.int .i64 0):=(blk_cell BK137.out 1).trans rfl;have hcz3_2:w2.cell? ⟨gb137,2,none⟩=some (.string (⟨#[]⟩:ByteArray)):=(blk_cell BK137.out 2).trans rfl;have hcz3_3:w2.cell? ⟨gb137,3,none⟩=some (.slice none 0 0):=(blk_cell BK137.out 3).trans rfl;have hfz3_0:=blk_frozen BK137.out 0;have hfz3_1:=blk_frozen BK137.out 1;have hfz3_2:=blk_frozen BK137.out 2;have hfz3_3:=blk_frozen BK137.out 3))
 refine bodyPost_ret (results_cell_row rfl _ _ gb137 27 #[.int .i64 a0,.int .i64 0,.string (⟨#[]⟩:ByteArray),.slice none 0 0] (0,0) _ rfl (by (with_reducible repeat (first|refine blk_drewN ?_ _|refine blk_drew ?_|refine blk_alloc ?_ _));refine blk_put (cs:=#[.int .i64 a0,.int .i64 0,.string (⟨#[]⟩:ByteArray),.slice none 0 0]) ?_ 3 _ rfl;(with_reducible repeat (first|refine blk_drewN ?_ _|refine blk_drew ?_|refine blk_alloc ?_ _));refine blk_put (cs:=#[.int .i64 a0,.int .i64 0,.string (⟨#[]⟩:ByteArray),.slice none 0 0]) ?_ 2 _ rfl;(with_reducible repeat (first|refine blk_drewN ?_ _|refine blk_drew ?_|refine blk_alloc ?_ _));refine blk_put (cs:=#[.int .i64 a0,.int .i64 0,.string (⟨#[]⟩:ByteArray),.slice none 0 0]) ?_ 1 _ rfl;(with_reducible repeat (first|refine blk_drewN ?_ _|refine blk_drew ?_|refine blk_alloc ?_ _));refine blk_put (cs:=#[.int .i64 0,.int .i64 0,.string (⟨#[]⟩:ByteArray),.slice none 0 0]) ?_ 0 _ rfl;(with_reducible repeat (first|refine blk_drewN ?_ _|refine blk_drew ?_|refine blk_alloc ?_ _));exact BK137.out) Try.underlying27 rfl (by kernel_rfl)) rfl ?_
 exact ⟨_,by first|rfl|(simp [errW_none,errW_some] <;> rfl)|(simp [*,errW_none,errW_some] <;> rfl),by first|exact Kd.R_nil _ _ _ _ _|exact Kd.N_nil _ _ _ _ _|exact Kd.V_nil _ _ _ _ _|exact Kd.Q_nil _ _ _ _ _|exact Kd.S_nil _ _ _ _ _,by repeat (first|(with_reducible first|exact HB.out|apply below_alloc|apply pw_below_drewN|apply below_drew1|refine below_set ?_ GE137.out)|exact HB.out)⟩
end Go.Proofs.Ytdhdfmmefghijaa.P
namespace Go.Proofs.Ytdhdfmmefghijaa.P
open Go.RowKit Go.Proofs.YtdhdfmmefghijaaW.PrintWords Go.Proofs.YtdhdfmmefghijaaW.PrintLast Go.Proofs.YtdhdfmmefghijaaW.PrintMore
attribute [local go_sem] max2_int min2_int max_two min_two max_three min_three max_four min_four
set_option linter.unusedVariables false
set_option linter.unusedSimpArgs false
def stringslite_Index.f (a0:ByteArray) (a1:ByteArray):Option (Int):=match a1.data.toList with
 | [c]=>some (Lib.indexByte a0.data.toList c)
 | _=>none
theorem stringslite_Index.calls (a0:ByteArray) (a1:ByteArray) (r:Int) (w:World) (h:stringslite_Index.f a0 a1=some r) :
  Calls Try.prog 82 #[.string a0,.string a1] w fun e w'=>e=.returned (.int .i64 r)∧Drawn0 w w':=by
 unfold stringslite_Index.f at h
 split at h
 ·rename_i c hc
  obtain rfl:=Option.some.inj h
  obtain rfl:a1=⟨#[c]⟩:=by
   obtain ⟨⟨l⟩⟩:=a1
   simp at hc
   subst hc
   rfl
  refine (Try.stringslite_Index_one a0 c w).mono ?_
  rintro e w' ⟨rfl,rfl⟩
  exact ⟨rfl,Drawn0.refl _⟩
 ·cases h
end Go.Proofs.Ytdhdfmmefghijaa.P
namespace Go.Proofs.Ytdhdfmmefghijaa.P
open Go.RowKit Go.Proofs.YtdhdfmmefghijaaW.PrintWords Go.Proofs.YtdhdfmmefghijaaW.PrintLast Go.Proofs.YtdhdfmmefghijaaW.PrintMore
attribute [local go_sem] max2_int min2_int max_two min_two max_three min_three max_four min_four
set_option linter.unusedVariables false
set_option linter.unusedSimpArgs false
def stringslite_Cut.f (a0:ByteArray) (a1:ByteArray):Option (ByteArray × ByteArray × Bool):=(stringslite_Index.f a0 a1).bind fun t140=>(if t140 ≥ 0 then (if 0≤t140 then (if t140≤(a0.size:Int) then (if 0≤(wrap64 (t140+(a1.size:Int))) then (if (wrap64 (t140+(a1.size:Int)))≤(a0.size:Int) then (some (a0.extract 0 (t140:Int).toNat,a0.extract ((wrap64 (t140+(a1.size:Int))):Int).toNat a0.size,true)) else (none)) else (none)) else (none)) else (none)) else (some (a0,(⟨#[]⟩:ByteArray),false)))
set_option maxHeartbeats 8000000 in
set_option maxRecDepth 100000 in
theorem stringslite_Cut.calls (a0:ByteArray) (a1:ByteArray) (r1:ByteArray) (r2:ByteArray) (r3:Bool) (w:World) (h:stringslite_Cut.f a0 a1=some (r1,r2,r3)) :
  Calls Try.prog 79 #[.string a0,.string a1] w fun e w'=>e=.returned (.tuple #[.string r1,.string r2,.bool r3])∧Drawn0 w w':=by
 have H:((stringslite_Index.f a0 a1).bind fun t140=>(if t140 ≥ 0 then (if 0≤t140 then (if t140≤(a0.size:Int) then (if 0≤(wrap64 (t140+(a1.size:Int))) then (if (wrap64 (t140+(a1.size:Int)))≤(a0.size:Int) then (some (a0.extract 0 (t140:Int).toNat,a0.extract ((wrap64 (t140+(a1.size:Int))):Int).toNat a0.size,true)) else (none)) else (none)) else (none)) else (none)) else (some (a0,(⟨#[]⟩:ByteArray),false))))=some (r1,r2,r3):=h
 clear h
 replace H:=Option.bind_eq_some_iff.mp H
 obtain ⟨t140,A30,H⟩:=H
 replace H:(if t140 ≥ 0 then (if 0≤t140 then (if t140≤(a0.size:Int) then (if 0≤(wrap64 (t140+(a1.size:Int))) then (if (wrap64 (t140+(a1.size:Int)))≤(a0.size:Int) then (some (a0.extract 0 (t140:Int).toNat,a0.extract ((wrap64 (t140+(a1.size:Int))):Int).toNat a0.size,true)) else (none)) else (none)) else (none)) else (none)) else (some (a0,(⟨#[]⟩:ByteArray),false)))=some (r1,r2,r3):=H
 have A3:=Aside0.mk A30
 clear A30
 by_cases c4:t140 ≥ 0
 ·rw [if_pos c4] at H
  have c4b0:decide (0≤t140)=true:=decide_eq_true c4
  clear c4
  by_cases c5:0≤t140
  ·rw [if_pos c5] at H
   have c5b0:=eq_true c5
   have c5b1:decide (0≤t140)=true:=decide_eq_true c5
   clear c5
   by_cases c6:t140≤(a0.size:Int)
   ·rw [if_pos c6] at H
    have c6b0:=eq_true c6
    have c6b1:decide (t140≤(a0.size:Int))=true:=decide_eq_true c6
    clear c6
    obtain ⟨ji7,hji7⟩:∃ j_:Int,(wrap64 (t140+(a1.size:Int)))=j_:=⟨_,rfl⟩
    replace H:(if 0≤(ji7) then (if (ji7)≤(a0.size:Int) then (some (a0.extract 0 (t140:Int).toNat,a0.extract ((ji7):Int).toNat a0.size,true)) else (none)) else (none))=some (r1,r2,r3):=by first|(rw [hji7] at H;exact H)|(simp only [hji7] at H ⊢;exact H)
    (try rw [hji7] at A3)
    have hji7w:(IntKind.i64.wrap (t140+(a1.size:Int)))=ji7:=(i64_w _).trans hji7
    by_cases c8:0≤(ji7)
    ·rw [if_pos c8] at H
     have c8b0:=eq_true c8
     have c8b1:decide (0≤(ji7))=true:=decide_eq_true c8
     clear c8
     by_cases c9:(ji7)≤(a0.size:Int)
     ·rw [if_pos c9] at H
      have c9b0:=eq_true c9
      have c9b1:decide ((ji7)≤(a0.size:Int))=true:=decide_eq_true c9
      clear c9
      simp only [Option.some.injEq,Prod.mk.injEq] at H
      obtain ⟨rfl,rfl,rfl⟩:=H
      go_enter Try.func79,Try.ntmps79
      go_wp2_with (first|(go_at_call 82;(with_reducible refine (stringslite_Index.calls a0 a1 t140 _ A3.out).mono ?_);rintro e w' ⟨rfl,⟨nd,rfl⟩⟩;(try first|exact ⟨rfl,_,World.drewN_drewN _ _ _⟩ | exact ⟨rfl,_,Eq.trans (World.drewN_drewN _ _ _) (congrArg (World.drewN _) (Nat.add_assoc _ _ _))⟩)))
      repeat (go_quiet (first|(go_at_call 82;(with_reducible refine (stringslite_Index.calls a0 a1 t140 _ A3.out).mono ?_);rintro e w' ⟨rfl,⟨nd,rfl⟩⟩;(try first|exact ⟨rfl,_,World.drewN_drewN _ _ _⟩ | exact ⟨rfl,_,Eq.trans (World.drewN_drewN _ _ _) (congrArg (World.drewN _) (Nat.add_assoc _ _ _))⟩)));try go_wp2_with (first|(go_at_call 82;(with_reducible refine (stringslite_Index.calls a0 a1 t140 _ A3.out).mono ?_);rintro e w' ⟨rfl,⟨nd,rfl⟩⟩;(try first|exact ⟨rfl,_,World.drewN_drewN _ _ _⟩ | exact ⟨rfl,_,Eq.trans (World.drewN_drewN _ _ _) (congrArg (World.drewN _) (Nat.add_assoc _ _ _))⟩))))
      go_ret3
      exact ⟨by first|rfl|(simp;done)|(simp only [← hji7] <;> (first|rfl|simp))|(simp [*];done),by repeat (first|exact Drawn0.refl _|apply Drawn0.step)⟩
     ·rw [if_neg c9] at H
      exact absurd H (by simp)
    ·rw [if_neg c8] at H
     exact absurd H (by simp)
   ·rw [if_neg c6] at H
    exact absurd H (by simp)
  ·rw [if_neg c5] at H
   exact absurd H (by simp)
 ·rw [if_neg c4] at H
  have c4b0:decide (0≤t140)=false:=decide_eq_false c4
  clear c4
  simp only [Option.some.injEq,Prod.mk.injEq] at H
  obtain ⟨rfl,rfl,rfl⟩:=H
  go_enter Try.func79,Try.ntmps79
  go_wp2_with (first|(go_at_call 82;(with_reducible refine (stringslite_Index.calls a0 a1 t140 _ A3.out).mono ?_);rintro e w' ⟨rfl,⟨nd,rfl⟩⟩;(try first|exact ⟨rfl,_,World.drewN_drewN _ _ _⟩ | exact ⟨rfl,_,Eq.trans (World.drewN_drewN _ _ _) (congrArg (World.drewN _) (Nat.add_assoc _ _ _))⟩)))
  repeat (go_quiet (first|(go_at_call 82;(with_reducible refine (stringslite_Index.calls a0 a1 t140 _ A3.out).mono ?_);rintro e w' ⟨rfl,⟨nd,rfl⟩⟩;(try first|exact ⟨rfl,_,World.drewN_drewN _ _ _⟩ | exact ⟨rfl,_,Eq.trans (World.drewN_drewN _ _ _) (congrArg (World.drewN _) (Nat.add_assoc _ _ _))⟩)));try go_wp2_with (first|(go_at_call 82;(with_reducible refine (stringslite_Index.calls a0 a1 t140 _ A3.out).mono ?_);rintro e w' ⟨rfl,⟨nd,rfl⟩⟩;(try first|exact ⟨rfl,_,World.drewN_drewN _ _ _⟩ | exact ⟨rfl,_,Eq.trans (World.drewN_drewN _ _ _) (congrArg (World.drewN _) (Nat.add_assoc _ _ _))⟩))))
  go_ret3
  exact ⟨by first|rfl|(simp;done)|(simp [*];done),by repeat (first|exact Drawn0.refl _|apply Drawn0.step)⟩
end Go.Proofs.Ytdhdfmmefghijaa.P
namespace Go.Proofs.Ytdhdfmmefghijaa.P
open Go.RowKit Go.Proofs.YtdhdfmmefghijaaW.PrintWords Go.Proofs.YtdhdfmmefghijaaW.PrintLast Go.Proofs.YtdhdfmmefghijaaW.PrintMore
attribute [local go_sem] max2_int min2_int max_two min_two max_three min_three max_four min_four
set_option linter.unusedVariables false
set_option linter.unusedSimpArgs false
def strings_Cut.f (a0:ByteArray) (a1:ByteArray):Option (ByteArray × ByteArray × Bool):=(stringslite_Cut.f a0 a1).bind fun bt141=>(some (bt141.1,bt141.2.1,bt141.2.2))
set_option maxHeartbeats 8000000 in
set_option maxRecDepth 100000 in
theorem strings_Cut.calls (a0:ByteArray) (a1:ByteArray) (r1:ByteArray) (r2:ByteArray) (r3:Bool) (w:World) (h:strings_Cut.f a0 a1=some (r1,r2,r3)) :
  Calls Try.prog 68 #[.string a0,.string a1] w fun e w'=>e=.returned (.tuple #[.string r1,.string r2,.bool r3])∧Drawn0 w w':=by
 have H:((stringslite_Cut.f a0 a1).bind fun bt141=>(some (bt141.1,bt141.2.1,bt141.2.2)))=some (r1,r2,r3):=h
 clear h
 replace H:=Option.bind_eq_some_iff.mp H
 obtain ⟨⟨t141,t142,t143⟩,A30,H⟩:=H
 replace H:(some (t141,t142,t143))=some (r1,r2,r3):=H
 have A3:=Aside0.mk A30
 clear A30
 simp only [Option.some.injEq,Prod.mk.injEq] at H
 obtain ⟨rfl,rfl,rfl⟩:=H
 go_enter Try.func68,Try.ntmps68
 go_wp2_with (first|((with_reducible refine gate_callee (f:=79) rfl ?_);refine goesL_ (some 9) rfl rfl Try.func79 (by kernel_rfl) rfl #[.string a0,.string a1] rfl (by (try simp only [List.map_toArray,List.map_cons,List.map_nil]);first|done|rfl|(simp only [List.length_drop,List.length_take];rfl)) ?_;(with_reducible refine (stringslite_Cut.calls a0 a1 t141 t142 t143 _ A3.out).mono ?_);rintro e w' ⟨rfl,⟨nd,rfl⟩⟩;refine ⟨_,rfl,?_⟩))
 go_ret3
 exact ⟨by first|rfl|(simp;done)|(simp [*];done),by repeat (first|exact Drawn0.refl _|apply Drawn0.step)⟩
end Go.Proofs.Ytdhdfmmefghijaa.P
namespace Go.Proofs.Ytdhdfmmefghijaa.P
open Go.RowKit Go.Proofs.YtdhdfmmefghijaaW.PrintWords Go.Proofs.YtdhdfmmefghijaaW.PrintLast Go.Proofs.YtdhdfmmefghijaaW.PrintMore
attribute [local go_sem] max2_int min2_int max_two min_two max_three min_three max_four min_four
set_option linter.unusedVariables false
set_option linter.unusedSimpArgs false
def impl_word.f (a0:ByteArray):Option (Int × Int × ByteArray × (List (SDoc))):=some (2,0,a0,([]:List (SDoc)))
set_option maxHeartbeats 8000000 in
set_option maxRecDepth 100000 in
theorem impl_word.calls (a0:ByteArray) (r1:Int) (r2:Int) (r3:ByteArray) (r4:List (SDoc)) (w:World) (h:impl_word.f a0=some (r1,r2,r3,r4)) :
  Calls Try.prog 69 #[.string a0] w fun e w'=>∃ v3_:Value,e=.returned (.agg #[.int .i64 r1,.int .i64 r2,.string r3,v3_])∧Kd.R k27 27 w' w.heap.size (fun _=>True) v3_ r4∧Below w.heap.size w w':=by
 have hu27:=Try.underlying27
 have HB:=Aside0.mk (Below.refl w.heap.size w)
 have H:(some (2,0,a0,([]:List (SDoc))))=some (r1,r2,r3,r4):=h
 clear h
 simp only [Option.some.injEq,Prod.mk.injEq] at H
 obtain ⟨rfl,rfl,rfl,rfl⟩:=H
 go_enter Try.func69,Try.ntmps69
 go_wp2_with (first|((with_reducible refine gate_dst (N:=2) rfl ?_);refine box_event ?hg (N:=2) ?hd (cs:=#[.int .i64 0,.int .i64 0,.string (⟨#[]⟩:ByteArray),.slice none 0 0]) (t:=27) ?hr ?_;(case hd=>rfl);(case hg=>rfl);(case hr=>first|(go_simp;done)|(go_simp;rfl));intro gb144 hg w2 hbox hb;have n0_:=Aside0.mk (below_step (by repeat (first|(with_reducible first|exact HB.out|apply below_alloc|apply pw_below_drewN|apply below_drew1)|exact HB.out)) hb);have n1_:=Aside0.mk (hbox);have n2_:=Aside0.mk ((by rw [hg];exact (below_size (by repeat (first|(with_reducible first|exact HB.out|apply below_alloc|apply pw_below_drewN|apply below_drew1)|exact HB.out))):w.heap.size≤gb144));have n3_:=Aside0.mk ((by rw [hg];exact (below_size (by repeat (first|(with_reducible first|exact HB.out|apply below_alloc|apply pw_below_drewN|apply below_drew1)|exact HB.out))):w.heap.size≤gb144));clear HB;have HB:=n0_;have BK144:=n1_;have GW144:=n2_;have GE144:=n3_;clear n0_ n1_ n2_ n3_;clear hb hbox hg;have hcz3_0:w2.cell? ⟨gb144,0,none⟩=some (.int .i64 0):=(blk_cell BK144.out 0).trans rfl;have hcz3_1:w2.cell? ⟨gb144,1,none⟩=some (.int .i64 0):=(blk_cell BK144.out 1).trans rfl;have hcz3_2:w2.cell? ⟨gb144,2,none⟩=some (.string (⟨#[]⟩:ByteArray)):=(blk_cell BK144.out 2).trans rfl;have hcz3_3:w2.cell? ⟨gb144,3,none⟩=some (.slice none 0 0):=(blk_cell BK144.out 3).trans rfl;have hfz3_0:=blk_frozen BK144.out 0;have hfz3_1:=blk_frozen BK144.out 1;have hfz3_2:=blk_frozen BK144.out 2;have hfz3_3:=blk_frozen BK144.out 3))
 refine bodyPost_ret (results_cell_row rfl _ _ gb144 27 #[.int .i64 2,.int .i64 0,.string a0,.slice none 0 0] (0,0) _ rfl (by (with_reducible repeat (first|refine blk_drewN ?_ _|refine blk_drew ?_|refine blk_alloc ?_ _));refine blk_put (cs:=#[.int .i64 2,.int .i64 0,.string a0,.slice none 0 0]) ?_ 3 _ rfl;(with_reducible repeat (first|refine blk_drewN ?_ _|refine blk_drew ?_|refine blk_alloc ?_ _));refine blk_put (cs:=#[.int .i64 2,.int .i64 0,.string (⟨#[]⟩:ByteArray),.slice none 0 0]) ?_ 2 _ rfl;(with_reducible repeat (first|refine blk_drewN ?_ _|refine blk_drew ?_|refine blk_alloc ?_ _));refine blk_put (cs:=#[.int .i64 2,.int .i64 0,.string (⟨#[]⟩:ByteArray),.slice none 0 0]) ?_ 1 _ rfl;(with_reducible repeat (first|refine blk_drewN ?_ _|refine blk_drew ?_|refine blk_alloc ?_ _));refine blk_put (cs:=#[.int .i64 0,.int .i64 0,.string (⟨#[]⟩:ByteArray),.slice none 0 0]) ?_ 0 _ rfl;(with_reducible repeat (first|refine blk_drewN ?_ _|refine blk_drew ?_|refine blk_alloc ?_ _));exact BK144.out) Try.underlying27 rfl (by kernel_rfl)) rfl ?_
 exact ⟨_,by first|rfl|(simp [errW_none,errW_some] <;> rfl)|(simp [*,errW_none,errW_some] <;> rfl),by first|exact Kd.R_nil _ _ _ _ _|exact Kd.N_nil _ _ _ _ _|exact Kd.V_nil _ _ _ _ _|exact Kd.Q_nil _ _ _ _ _|exact Kd.S_nil _ _ _ _ _,by repeat (first|(with_reducible first|exact HB.out|apply below_alloc|apply pw_below_drewN|apply below_drew1|refine below_set ?_ GE144.out)|exact HB.out)⟩
end Go.Proofs.Ytdhdfmmefghijaa.P
namespace Go.Proofs.Ytdhdfmmefghijaa.P
open Go.RowKit Go.Proofs.YtdhdfmmefghijaaW.PrintWords Go.Proofs.YtdhdfmmefghijaaW.PrintLast Go.Proofs.YtdhdfmmefghijaaW.PrintMore
attribute [local go_sem] max2_int min2_int max_two min_two max_three min_three max_four min_four
set_option linter.unusedVariables false
set_option linter.unusedSimpArgs false
def stringslite_HasPrefix.f (a0:ByteArray) (a1:ByteArray):Option (Bool):=if (a0.size:Int) ≥ (a1.size:Int) then (if 0≤(a1.size:Int) then (if (a1.size:Int)≤(a0.size:Int) then (some ((a0.extract 0 ((a1.size:Int):Int).toNat).toList == a1.toList)) else (none)) else (none)) else (some false)
set_option maxHeartbeats 8000000 in
set_option maxRecDepth 100000 in
theorem stringslite_HasPrefix.calls (a0:ByteArray) (a1:ByteArray) (r:Bool) (w:World) (h:stringslite_HasPrefix.f a0 a1=some r) :
  Calls Try.prog 80 #[.string a0,.string a1] w fun e w'=>e=.returned (.bool r)∧Drawn0 w w':=by
 have H:(if (a0.size:Int) ≥ (a1.size:Int) then (if 0≤(a1.size:Int) then (if (a1.size:Int)≤(a0.size:Int) then (some ((a0.extract 0 ((a1.size:Int):Int).toNat).toList == a1.toList)) else (none)) else (none)) else (some false))=some r:=h
 clear h
 by_cases c3:(a0.size:Int) ≥ (a1.size:Int)
 ·rw [if_pos c3] at H
  have c3b0:decide ((a1.size:Int)≤(a0.size:Int))=true:=decide_eq_true c3
  have c3b1:decide (a1.size≤a0.size)=true:=decide_eq_true (Int.ofNat_le.mp c3)
  clear c3
  by_cases c4:0≤(a1.size:Int)
  ·rw [if_pos c4] at H
   have c4b0:=eq_true c4
   have c4b1:decide (0≤(a1.size:Int))=true:=decide_eq_true c4
   clear c4
   by_cases c5:(a1.size:Int)≤(a0.size:Int)
   ·rw [if_pos c5] at H
    have c5b0:=eq_true c5
    have c5b1:decide ((a1.size:Int)≤(a0.size:Int))=true:=decide_eq_true c5
    clear c5
    obtain rfl:=Option.some.inj H
    go_enter Try.func80,Try.ntmps80
    go_wp2
    go_ret
    exact ⟨by first|rfl|(simp;done)|(simp [*];done),by repeat (first|exact Drawn0.refl _|apply Drawn0.step)⟩
   ·rw [if_neg c5] at H
    exact absurd H (by simp)
  ·rw [if_neg c4] at H
   exact absurd H (by simp)
 ·rw [if_neg c3] at H
  have c3b0:decide ((a1.size:Int)≤(a0.size:Int))=false:=decide_eq_false c3
  have c3b1:decide (a1.size≤a0.size)=false:=decide_eq_false (fun h=>c3 (Int.ofNat_le.mpr h))
  clear c3
  obtain rfl:=Option.some.inj H
  go_enter Try.func80,Try.ntmps80
  go_wp2
  go_ret
  exact ⟨by first|rfl|(simp;done)|(simp [*];done),by repeat (first|exact Drawn0.refl _|apply Drawn0.step)⟩
end Go.Proofs.Ytdhdfmmefghijaa.P
namespace Go.Proofs.Ytdhdfmmefghijaa.P
open Go.RowKit Go.Proofs.YtdhdfmmefghijaaW.PrintWords Go.Proofs.YtdhdfmmefghijaaW.PrintLast Go.Proofs.YtdhdfmmefghijaaW.PrintMore
attribute [local go_sem] max2_int min2_int max_two min_two max_three min_three max_four min_four
set_option linter.unusedVariables false
set_option linter.unusedSimpArgs false
def strings_HasPrefix.f (a0:ByteArray) (a1:ByteArray):Option (Bool):=(stringslite_HasPrefix.f a0 a1).bind fun t145=>(some t145)
set_option maxHeartbeats 8000000 in
set_option maxRecDepth 100000 in
theorem strings_HasPrefix.calls (a0:ByteArray) (a1:ByteArray) (r:Bool) (w:World) (h:strings_HasPrefix.f a0 a1=some r) :
  Calls Try.prog 70 #[.string a0,.string a1] w fun e w'=>e=.returned (.bool r)∧Drawn0 w w':=by
 have H:((stringslite_HasPrefix.f a0 a1).bind fun t145=>(some t145))=some r:=h
 clear h
 replace H:=Option.bind_eq_some_iff.mp H
 obtain ⟨t145,A30,H⟩:=H
 replace H:(some t145)=some r:=H
 have A3:=Aside0.mk A30
 clear A30
 obtain rfl:=Option.some.inj H
 go_enter Try.func70,Try.ntmps70
 go_wp2_with (first|((with_reducible refine gate_callee (f:=80) rfl ?_);refine goesL_ (some 7) rfl rfl Try.func80 (by kernel_rfl) rfl #[.string a0,.string a1] rfl (by (try simp only [List.map_toArray,List.map_cons,List.map_nil]);first|done|rfl|(simp only [List.length_drop,List.length_take];rfl)) ?_;(with_reducible refine (stringslite_HasPrefix.calls a0 a1 t145 _ A3.out).mono ?_);rintro e w' ⟨rfl,⟨nd,rfl⟩⟩;refine ⟨_,rfl,?_⟩))
 go_ret
 exact ⟨by first|rfl|(simp;done)|(simp [*];done),by repeat (first|exact Drawn0.refl _|apply Drawn0.step)⟩
end Go.Proofs.Ytdhdfmmefghijaa.P
namespace Go.Proofs.Ytdhdfmmefghijaa.P
open Go.RowKit Go.Proofs.YtdhdfmmefghijaaW.PrintWords Go.Proofs.YtdhdfmmefghijaaW.PrintLast Go.Proofs.YtdhdfmmefghijaaW.PrintMore
attribute [local go_sem] max2_int min2_int max_two min_two max_three min_three max_four min_four
set_option linter.unusedVariables false
set_option linter.unusedSimpArgs false
def stringslite_CutPrefix.f (a0:ByteArray) (a1:ByteArray):Option (ByteArray × Bool):=(stringslite_HasPrefix.f a0 a1).bind fun t146=>(if t146=true then (if 0≤(a1.size:Int) then (if (a1.size:Int)≤(a0.size:Int) then (some (a0.extract ((a1.size:Int):Int).toNat a0.size,true)) else (none)) else (none)) else (some (a0,false)))
set_option maxHeartbeats 8000000 in
set_option maxRecDepth 100000 in
theorem stringslite_CutPrefix.calls (a0:ByteArray) (a1:ByteArray) (r1:ByteArray) (r2:Bool) (w:World) (h:stringslite_CutPrefix.f a0 a1=some (r1,r2)) :
  Calls Try.prog 81 #[.string a0,.string a1] w fun e w'=>e=.returned (.tuple #[.string r1,.bool r2])∧Drawn0 w w':=by
 have H:((stringslite_HasPrefix.f a0 a1).bind fun t146=>(if t146=true then (if 0≤(a1.size:Int) then (if (a1.size:Int)≤(a0.size:Int) then (some (a0.extract ((a1.size:Int):Int).toNat a0.size,true)) else (none)) else (none)) else (some (a0,false))))=some (r1,r2):=h
 clear h
 replace H:=Option.bind_eq_some_iff.mp H
 obtain ⟨t146,A30,H⟩:=H
 replace H:(if t146=true then (if 0≤(a1.size:Int) then (if (a1.size:Int)≤(a0.size:Int) then (some (a0.extract ((a1.size:Int):Int).toNat a0.size,true)) else (none)) else (none)) else (some (a0,false)))=some (r1,r2):=H
 have A3:=Aside0.mk A30
 clear A30
 by_cases c4:t146=true
 ·subst c4
  have H1:(if 0≤(a1.size:Int) then (if (a1.size:Int)≤(a0.size:Int) then (some (a0.extract ((a1.size:Int):Int).toNat a0.size,true)) else (none)) else (none))=some (r1,r2):=by rw [if_pos rfl] at H;exact H
  clear H
  have H:=H1
  clear H1
  by_cases c5:0≤(a1.size:Int)
  ·rw [if_pos c5] at H
   have c5b0:=eq_true c5
   have c5b1:decide (0≤(a1.size:Int))=true:=decide_eq_true c5
   clear c5
   by_cases c6:(a1.size:Int)≤(a0.size:Int)
   ·rw [if_pos c6] at H
    have c6b0:=eq_true c6
    have c6b1:decide ((a1.size:Int)≤(a0.size:Int))=true:=decide_eq_true c6
    clear c6
    simp only [Option.some.injEq,Prod.mk.injEq] at H
    obtain ⟨rfl,rfl⟩:=H
    go_enter Try.func81,Try.ntmps81
    go_wp2_with (first|((with_reducible refine gate_callee (f:=80) rfl ?_);refine goesL_ (some 8) rfl rfl Try.func80 (by kernel_rfl) rfl #[.string a0,.string a1] rfl (by (try simp only [List.map_toArray,List.map_cons,List.map_nil]);first|done|rfl|(simp only [List.length_drop,List.length_take];rfl)) ?_;(with_reducible refine (stringslite_HasPrefix.calls a0 a1 true _ A3.out).mono ?_);rintro e w' ⟨rfl,⟨nd,rfl⟩⟩;refine ⟨_,rfl,?_⟩))
    go_ret2
    exact ⟨by first|rfl|(simp;done)|(simp [*];done),by repeat (first|exact Drawn0.refl _|apply Drawn0.step)⟩
   ·rw [if_neg c6] at H
    exact absurd H (by simp)
  ·rw [if_neg c5] at H
   exact absurd H (by simp)
 ·replace c4:=Bool.eq_false_iff.mpr c4
  subst c4
  have H1:(some (a0,false))=some (r1,r2):=by rw [if_neg (show ¬ (false=true) by decide)] at H;exact H
  clear H
  have H:=H1
  clear H1
  simp only [Option.some.injEq,Prod.mk.injEq] at H
  obtain ⟨rfl,rfl⟩:=H
  go_enter Try.func81,Try.ntmps81
  go_wp2_with (first|((with_reducible refine gate_callee (f:=80) rfl ?_);refine goesL_ (some 8) rfl rfl Try.func80 (by kernel_rfl) rfl #[.string a0,.string a1] rfl (by (try simp only [List.map_toArray,List.map_cons,List.map_nil]);first|done|rfl|(simp only [List.length_drop,List.length_take];rfl)) ?_;(with_reducible refine (stringslite_HasPrefix.calls a0 a1 false _ A3.out).mono ?_);rintro e w' ⟨rfl,⟨nd,rfl⟩⟩;refine ⟨_,rfl,?_⟩))
  go_ret2
  exact ⟨by first|rfl|(simp;done)|(simp [*];done),by repeat (first|exact Drawn0.refl _|apply Drawn0.step)⟩
end Go.Proofs.Ytdhdfmmefghijaa.P
namespace Go.Proofs.Ytdhdfmmefghijaa.P
open Go.RowKit Go.Proofs.YtdhdfmmefghijaaW.PrintWords Go.Proofs.YtdhdfmmefghijaaW.PrintLast Go.Proofs.YtdhdfmmefghijaaW.PrintMore
attribute [local go_sem] max2_int min2_int max_two min_two max_three min_three max_four min_four
set_option linter.unusedVariables false
set_option linter.unusedSimpArgs false
def strings_CutPrefix.f (a0:ByteArray) (a1:ByteArray):Option (ByteArray × Bool):=(stringslite_CutPrefix.f a0 a1).bind fun bt147=>(some (bt147.1,bt147.2))
set_option maxHeartbeats 8000000 in
set_option maxRecDepth 100000 in
theorem strings_CutPrefix.calls (a0:ByteArray) (a1:ByteArray) (r1:ByteArray) (r2:Bool) (w:World) (h:strings_CutPrefix.f a0 a1=some (r1,r2)) :
  Calls Try.prog 71 #[.string a0,.string a1] w fun e w'=>e=.returned (.tuple #[.string r1,.bool r2])∧Drawn0 w w':=by
 have H:((stringslite_CutPrefix.f a0 a1).bind fun bt147=>(some (bt147.1,bt147.2)))=some (r1,r2):=h
 clear h
 replace H:=Option.bind_eq_some_iff.mp H
 obtain ⟨⟨t147,t148⟩,A30,H⟩:=H
 replace H:(some (t147,t148))=some (r1,r2):=H
 have A3:=Aside0.mk A30
 clear A30
 simp only [Option.some.injEq,Prod.mk.injEq] at H
 obtain ⟨rfl,rfl⟩:=H
 go_enter Try.func71,Try.ntmps71
 go_wp2_with (first|((with_reducible refine gate_callee (f:=81) rfl ?_);refine goesL_ (some 8) rfl rfl Try.func81 (by kernel_rfl) rfl #[.string a0,.string a1] rfl (by (try simp only [List.map_toArray,List.map_cons,List.map_nil]);first|done|rfl|(simp only [List.length_drop,List.length_take];rfl)) ?_;(with_reducible refine (stringslite_CutPrefix.calls a0 a1 t147 t148 _ A3.out).mono ?_);rintro e w' ⟨rfl,⟨nd,rfl⟩⟩;refine ⟨_,rfl,?_⟩))
 go_ret2
 exact ⟨by first|rfl|(simp;done)|(simp [*];done),by repeat (first|exact Drawn0.refl _|apply Drawn0.step)⟩
end Go.Proofs.Ytdhdfmmefghijaa.P
namespace Go.Proofs.Ytdhdfmmefghijaa.P
open Go.RowKit Go.Proofs.YtdhdfmmefghijaaW.PrintWords Go.Proofs.YtdhdfmmefghijaaW.PrintLast Go.Proofs.YtdhdfmmefghijaaW.PrintMore
attribute [local go_sem] max2_int min2_int max_two min_two max_three min_three max_four min_four
set_option linter.unusedVariables false
set_option linter.unusedSimpArgs false
mutual
def impl_parseDoc.j0:Nat→ByteArray→Int→Bool→Option (Int × Int × ByteArray × (List (SDoc)) × ByteArray × Bool)
 | 0,_,_,_=>none
 | k+1,x0,x1,x25=>if x25=true then (some (0,0,(⟨#[]⟩:ByteArray),([]:List (SDoc)),x0,false)) else (if 0 < (x0.size:Int) then ((strings_IndexByte.f (⟨#[126,95,46,33]⟩:ByteArray) (bt x0 0)).bind fun t150=>(if t150 ≥ 0 then ((some (([1,3,4,5]:List Int):List Int)).bind fun y151=>(if 0≤t150 then (if t150 < (y151.length:Int) then ((impl_leaf.f (rd y151 t150)).bind fun bt155=>(if 1≤(x0.size:Int) then (some (bt155.1,bt155.2.1,bt155.2.2.1,bt155.2.2.2,x0.extract 1 x0.size,true)) else (none))) else (none)) else (none))) else (if 1≤(x0.size:Int) then (if (bt x0 0)=34 then ((strings_Cut.f (x0.extract 1 x0.size) (⟨#[34]⟩:ByteArray)).bind fun bt162=>((impl_word.f bt162.1).bind fun bt165=>(some (bt165.1,bt165.2.1,bt165.2.2.1,bt165.2.2.2,bt162.2.1,bt162.2.2)))) else (if (bt x0 0) ≥ 48 then (if (bt x0 0)≤57 then ((strings_HasPrefix.f (x0.extract 1 x0.size) (⟨#[60]⟩:ByteArray)).bind fun t171=>(impl_parseDoc.j1 k (x0.extract 1 x0.size) x1 (bt x0 0) 1 t171 0 0 (⟨#[]⟩:ByteArray))) else (impl_parseDoc.j1 k (x0.extract 1 x0.size) x1 (bt x0 0) 1 false 0 0 (⟨#[]⟩:ByteArray))) else (impl_parseDoc.j1 k (x0.extract 1 x0.size) x1 (bt x0 0) 1 false 0 0 (⟨#[]⟩:ByteArray)))) else (none)))) else (none))
def impl_parseDoc.j2:Nat→ByteArray→Int→Int→ByteArray→Int→Int→ByteArray→Option (Int × Int × ByteArray × (List (SDoc)) × ByteArray × Bool)
 | 0,_,_,_,_,_,_,_=>none
 | k+1,x0,x1,x10,x11,x162000,x162001,x162002=>impl_parseDoc.l0 k x0 x1 x11 x10 0 x162000 x162001 x162002 ([]:List (SDoc))
def impl_parseDoc.l0:Nat→ByteArray→Int→ByteArray→Int→Int→Int→Int→ByteArray→List (SDoc)→Option (Int × Int × ByteArray × (List (SDoc)) × ByteArray × Bool)
 | 0,_,_,_,_,_,_,_,_,_=>none
 | k+1,x0,x1,x11,x86,x87,x162000,x162001,x162002,x162003=>if x87 < x86 then ((impl_parseDoc.f k x0 (wrap64 (x1 - 1))).bind fun bt172=>(if bt172.2.2.2.2.2=true then (if x162003.length < 2513169434916 then (impl_parseDoc.l0 k bt172.2.2.2.2.1 x1 x11 x86 (wrap64 (x87+1)) x162000 x162001 x162002 (x162003++[(⟨bt172.1,bt172.2.1,bt172.2.2.1,bt172.2.2.2.1⟩:SDoc)])) else (none)) else (some (0,0,(⟨#[]⟩:ByteArray),([]:List (SDoc)),x0,false)))) else ((strings_CutPrefix.f x0 x11).bind fun bt184=>(some (x162000,x162001,x162002,x162003,bt184.1,bt184.2)))
def impl_parseDoc.j1:Nat→ByteArray→Int→Int→Int→Bool→Int→Int→ByteArray→Option (Int × Int × ByteArray × (List (SDoc)) × ByteArray × Bool)
 | 0,_,_,_,_,_,_,_,_=>none
 | k+1,x0,x1,x8,x10,x60,x162000,x162001,x162002=>if x60=true then (if 1≤(x0.size:Int) then (impl_parseDoc.j2 k (x0.extract 1 x0.size) x1 x10 (⟨#[62]⟩:ByteArray) 6 ((x8 - 48) % 256) x162002) else (none)) else (if x8=40 then (impl_parseDoc.j2 k x0 x1 2 (⟨#[41]⟩:ByteArray) 7 x162001 x162002) else (if x8=91 then (impl_parseDoc.j2 k x0 x1 x10 (⟨#[93]⟩:ByteArray) 8 x162001 x162002) else (some (0,0,(⟨#[]⟩:ByteArray),([]:List (SDoc)),x0,false))))
def impl_parseDoc.f:Nat→ByteArray→Int→Option (Int × Int × ByteArray × (List (SDoc)) × ByteArray × Bool)
 | 0,_,_=>none
 | k+1,a0,a1=>if a0.toList=([]:List UInt8) then (impl_parseDoc.j0 k a0 a1 true) else (impl_parseDoc.j0 k a0 a1 (a1 == 0))
end
def impl_parseDoc.T5:Bool × List (List Nat × List Nat):=(true,[([],[]),([],[]),([0,1],[0,1]),([2],[2]),([3],[3]),([],[]),([5],[5]),([4,4,0,1,2,3,4],[4]),([6,7,0,1,2,3,4,5,6,7],[6]),([8,0,1,2,3,4,5,6,7,8],[])])
def impl_parseDoc.B5:List Nat:=[0,0,3,7,15,0,32,31,255,511]
theorem impl_parseDoc.tab5:rtab .any (opsOf Try.f48 5)=impl_parseDoc.T5:=by kernel_rfl
theorem impl_parseDoc.bits5:waitsOk impl_parseDoc.T5.2 impl_parseDoc.B5=true:=by kernel_rfl
set_option maxHeartbeats 8000000 in
set_option maxRecDepth 100000 in
theorem impl_parseDoc.calls (k:Nat):∀ (a0:ByteArray) (a1:Int) (r1:Int) (r2:Int) (r3:ByteArray) (r4:List (SDoc)) (r5:ByteArray) (r6:Bool) (w:World) (h:impl_parseDoc.f k a0 a1=some (r1,r2,r3,r4,r5,r6)),
  Calls Try.prog 48 #[.string a0,.int .i64 a1] w fun e w'=>∃ v3_:Value,e=.returned (.tuple #[.agg #[.int .i64 r1,.int .i64 r2,.string r3,v3_],.string r5,.bool r6])∧Kd.R k27 27 w' w.heap.size (fun _=>True) v3_ r4∧Below w.heap.size w w':=by
 induction k using Nat.strongRecOn with
 | _ k ih =>
 intro a0 a1 r1 r2 r3 r4 r5 r6 w h
 cases k with
 | zero=>exact absurd h (by simp [impl_parseDoc.f])
 | succ k =>
 simp only [impl_parseDoc.f] at h
 have hu27:=Try.underlying27
 have HB:=Aside0.mk (Below.refl w.heap.size w)
 have H:(if a0.toList=([]:List UInt8) then (impl_parseDoc.j0 k a0 a1 true) else (impl_parseDoc.j0 k a0 a1 (a1 == 0)))=some (r1,r2,r3,r4,r5,r6):=h
 clear h
 have HC3:=Aside0.mk H
 clear H
 go_enter Try.func48,Try.ntmps48
 go_upto_region 1 with (first|((with_reducible refine gate_dst (N:=4) rfl ?_);refine box_event ?hg (N:=4) ?hd (cs:=#[.int .i64 0,.int .i64 0,.string (⟨#[]⟩:ByteArray),.slice none 0 0]) (t:=27) ?hr ?_;(case hd=>rfl);(case hg=>rfl);(case hr=>first|(go_simp;done)|(go_simp;rfl));intro gb149 hg w4 hbox hb;have n0_:=Aside0.mk (below_step (gB HB) hb);have n1_:=Aside0.mk (hbox);have n2_:=Aside0.mk ((by rw [hg];exact (below_size (gB HB)):w.heap.size≤gb149));have n3_:=Aside0.mk ((by rw [hg];exact (below_size (gB HB)):w.heap.size≤gb149));clear HB;have HB:=n0_;have BK149:=n1_;have GW149:=n2_;have GE149:=n3_;clear n0_ n1_ n2_ n3_;clear hb hbox hg))
 (try simp only [Act.put,List.setIfInBounds_toArray,List.set_cons_zero,List.set_cons_succ])
 go_cut [25] (fun v25 wc=>∃ (kq:Nat) (x25_2:Bool),v25=.bool x25_2∧Aside0 (impl_parseDoc.j0 kq a0 a1 x25_2=some (r1,r2,r3,r4,r5,r6))∧Aside0 (kq≤k)∧Aside0 (wc.heap[gb149]?=some (.cells #[.int .i64 0,.int .i64 0,.string (⟨#[]⟩:ByteArray),(.slice none 0 0)] 27 (0,0)))∧Aside0 (Below w.heap.size w wc))
 case first =>
  have H:=HC3.out
  clear HC3
  by_cases c5:a0.toList=([]:List UInt8)
  ·rw [if_pos c5] at H
   have c5b0:(a0.toList == ([]:List UInt8))=true:=beq_iff_eq.mpr c5
   have c5b1:(a0.toList != ([]:List UInt8))=false:=bne_eq_false_iff_eq.mpr c5
   clear c5
   (first|rw [c5b0]|(simp only [i64_w,i32_w];rw [c5b0])|skip)
   have H':=Aside0.mk H
   clear H
   go_wp2
   go_meet
   case rel=>exact ⟨_,(true),(by first|rfl|(simp;done)|(simp [*];done)),H',⟨by first|omega|exact Nat.le_refl _⟩,⟨gK BK149⟩,⟨by repeat (first|(with_reducible first|exact HB.out|apply below_alloc|apply pw_below_drewN|apply below_drew1|refine below_set ?_ GE149.out)|exact HB.out)⟩⟩
  ·rw [if_neg c5] at H
   have c5b0:(a0.toList == ([]:List UInt8))=false:=beq_eq_false_iff_ne.mpr c5
   have c5b1:(a0.toList != ([]:List UInt8))=true:=bne_iff_ne.mpr c5
   (first|rw [c5b0]|(simp only [i64_w,i32_w];rw [c5b0])|skip)
   have H':=Aside0.mk H
   clear H
   go_wp2
   go_meet
   case rel=>exact ⟨_,((a1 == 0)),(by first|rfl|(simp;done)|(simp [*];done)),H',⟨by first|omega|exact Nat.le_refl _⟩,⟨gK BK149⟩,⟨by repeat (first|(with_reducible first|exact HB.out|apply below_alloc|apply pw_below_drewN|apply below_drew1|refine below_set ?_ GE149.out)|exact HB.out)⟩⟩
 case rest =>
  clear HC3
  try clear p2 c4 c5 c5b0 c5b1
  obtain ⟨kq,x25_2,rfl,HA,HJ2,BK149,HB⟩:=hcut
  cases kq with
  | zero=>exact absurd HA.out (by simp [impl_parseDoc.j0])
  | succ kj2 =>
   have H:=HA.out
   clear HA
   simp only [impl_parseDoc.j0] at H
   by_cases c6:x25_2=true
   ·subst c6
    have H1:(some (0,0,(⟨#[]⟩:ByteArray),([]:List (SDoc)),a0,false))=some (r1,r2,r3,r4,r5,r6):=by rw [if_pos rfl] at H;exact H
    clear H
    have H:=H1
    clear H1
    simp only [Option.some.injEq,Prod.mk.injEq] at H
    obtain ⟨rfl,rfl,rfl,rfl,rfl,rfl⟩:=H
    have hcz7_0:wc.cell? ⟨gb149,0,none⟩=some (.int .i64 0):=(blk_cell BK149.out 0).trans rfl
    have hcz7_1:wc.cell? ⟨gb149,1,none⟩=some (.int .i64 0):=(blk_cell BK149.out 1).trans rfl
    have hcz7_2:wc.cell? ⟨gb149,2,none⟩=some (.string (⟨#[]⟩:ByteArray)):=(blk_cell BK149.out 2).trans rfl
    have hcz7_3:wc.cell? ⟨gb149,3,none⟩=some (.slice none 0 0):=(blk_cell BK149.out 3).trans rfl
    have hfz7_0:=blk_frozen BK149.out 0
    have hfz7_1:=blk_frozen BK149.out 1
    have hfz7_2:=blk_frozen BK149.out 2
    have hfz7_3:=blk_frozen BK149.out 3
    go_wp2
    refine bodyPost_ret (results_ctt rfl _ _ gb149 27 #[.int .i64 0,.int .i64 0,.string (⟨#[]⟩:ByteArray),.slice none 0 0] (0,0) _ rfl (by (with_reducible repeat (first|refine blk_drewN ?_ _|refine blk_drew ?_|refine blk_alloc ?_ _));refine blk_put (cs:=#[.int .i64 0,.int .i64 0,.string (⟨#[]⟩:ByteArray),.slice none 0 0]) ?_ 3 _ rfl;(with_reducible repeat (first|refine blk_drewN ?_ _|refine blk_drew ?_|refine blk_alloc ?_ _));refine blk_put (cs:=#[.int .i64 0,.int .i64 0,.string (⟨#[]⟩:ByteArray),.slice none 0 0]) ?_ 2 _ rfl;(with_reducible repeat (first|refine blk_drewN ?_ _|refine blk_drew ?_|refine blk_alloc ?_ _));refine blk_put (cs:=#[.int .i64 0,.int .i64 0,.string (⟨#[]⟩:ByteArray),.slice none 0 0]) ?_ 1 _ rfl;(with_reducible repeat (first|refine blk_drewN ?_ _|refine blk_drew ?_|refine blk_alloc ?_ _));refine blk_put (cs:=#[.int .i64 0,.int .i64 0,.string (⟨#[]⟩:ByteArray),.slice none 0 0]) ?_ 0 _ rfl;(with_reducible repeat (first|refine blk_drewN ?_ _|refine blk_drew ?_|refine blk_alloc ?_ _));exact BK149.out) Try.underlying27 rfl (by kernel_rfl)) rfl ?_
    exact ⟨_,by first|rfl|(simp [errW_none,errW_some] <;> rfl)|(simp [*,errW_none,errW_some] <;> rfl),by first|exact Kd.R_nil _ _ _ _ _|exact Kd.N_nil _ _ _ _ _|exact Kd.V_nil _ _ _ _ _|exact Kd.Q_nil _ _ _ _ _|exact Kd.S_nil _ _ _ _ _,by repeat (first|(with_reducible first|exact HB.out|apply below_alloc|apply pw_below_drewN|apply below_drew1|refine below_set ?_ GE149.out)|exact HB.out)⟩
   ·replace c6:=Bool.eq_false_iff.mpr c6
    subst c6
    have H1:(if 0 < (a0.size:Int) then ((strings_IndexByte.f (⟨#[126,95,46,33]⟩:ByteArray) (bt a0 0)).bind fun t150=>(if t150 ≥ 0 then ((some (([1,3,4,5]:List Int):List Int)).bind fun y151=>(if 0≤t150 then (if t150 < (y151.length:Int) then ((impl_leaf.f (rd y151 t150)).bind fun bt155=>(if 1≤(a0.size:Int) then (some (bt155.1,bt155.2.1,bt155.2.2.1,bt155.2.2.2,a0.extract 1 a0.size,true)) else (none))) else (none)) else (none))) else (if 1≤(a0.size:Int) then (if (bt a0 0)=34 then ((strings_Cut.f (a0.extract 1 a0.size) (⟨#[34]⟩:ByteArray)).bind fun bt162=>((impl_word.f bt162.1).bind fun bt165=>(some (bt165.1,bt165.2.1,bt165.2.2.1,bt165.2.2.2,bt162.2.1,bt162.2.2)))) else (if (bt a0 0) ≥ 48 then (if (bt a0 0)≤57 then ((strings_HasPrefix.f (a0.extract 1 a0.size) (⟨#[60]⟩:ByteArray)).bind fun t171=>(impl_parseDoc.j1 kj2 (a0.extract 1 a0.size) a1 (bt a0 0) 1 t171 0 0 (⟨#[]⟩:ByteArray))) else (impl_parseDoc.j1 kj2 (a0.extract 1 a0.size) a1 (bt a0 0) 1 false 0 0 (⟨#[]⟩:ByteArray))) else (impl_parseDoc.j1 kj2 (a0.extract 1 a0.size) a1 (bt a0 0) 1 false 0 0 (⟨#[]⟩:ByteArray)))) else (none)))) else (none))=some (r1,r2,r3,r4,r5,r6):=by rw [if_neg (show ¬ (false=true) by decide)] at H;exact H
    clear H
    have H:=H1
    clear H1
    by_cases c8:0 < (a0.size:Int)
    ·rw [if_pos c8] at H
     have c8b0:decide (0 < (a0.size:Int))=true:=decide_eq_true c8
     have c8b1:decide (0 < a0.size)=true:=decide_eq_true (by omega)
     clear c8
     replace H:=Option.bind_eq_some_iff.mp H
     obtain ⟨t150,A100,H⟩:=H
     replace H:(if t150 ≥ 0 then ((some (([1,3,4,5]:List Int):List Int)).bind fun y151=>(if 0≤t150 then (if t150 < (y151.length:Int) then ((impl_leaf.f (rd y151 t150)).bind fun bt155=>(if 1≤(a0.size:Int) then (some (bt155.1,bt155.2.1,bt155.2.2.1,bt155.2.2.2,a0.extract 1 a0.size,true)) else (none))) else (none)) else (none))) else (if 1≤(a0.size:Int) then (if (bt a0 0)=34 then ((strings_Cut.f (a0.extract 1 a0.size) (⟨#[34]⟩:ByteArray)).bind fun bt162=>((impl_word.f bt162.1).bind fun bt165=>(some (bt165.1,bt165.2.1,bt165.2.2.1,bt165.2.2.2,bt162.2.1,bt162.2.2)))) else (if (bt a0 0) ≥ 48 then (if (bt a0 0)≤57 then ((strings_HasPrefix.f (a0.extract 1 a0.size) (⟨#[60]⟩:ByteArray)).bind fun t171=>(impl_parseDoc.j1 kj2 (a0.extract 1 a0.size) a1 (bt a0 0) 1 t171 0 0 (⟨#[]⟩:ByteArray))) else (impl_parseDoc.j1 kj2 (a0.extract 1 a0.size) a1 (bt a0 0) 1 false 0 0 (⟨#[]⟩:ByteArray))) else (impl_parseDoc.j1 kj2 (a0.extract 1 a0.size) a1 (bt a0 0) 1 false 0 0 (⟨#[]⟩:ByteArray)))) else (none)))=some (r1,r2,r3,r4,r5,r6):=H
     have A10:=Aside0.mk A100
     clear A100
     by_cases c11:t150 ≥ 0
     ·rw [if_pos c11] at H
      have c11b0:decide (0≤t150)=true:=decide_eq_true c11
      clear c11
      obtain ⟨y151,hy151⟩:∃ y_:List Int,y_=(([1,3,4,5]:List Int)):=⟨_,rfl⟩
      replace H:(if 0≤t150 then (if t150 < (y151.length:Int) then ((impl_leaf.f (rd y151 t150)).bind fun bt155=>(if 1≤(a0.size:Int) then (some (bt155.1,bt155.2.1,bt155.2.2.1,bt155.2.2.2,a0.extract 1 a0.size,true)) else (none))) else (none)) else (none))=some (r1,r2,r3,r4,r5,r6):=by first|(rw [hy151];with_reducible exact H)|(have H2_:=(Option.bind_some _ _).symm.trans H;rw [hy151];with_reducible exact H2_)|(have H2_:=(Option.bind_some _ _).symm.trans H;with_reducible exact H2_)|with_reducible exact H|(rw [hy151];exact H)|exact H
      have Ny151:=Aside0.mk hy151
      clear hy151
      by_cases c12:0≤t150
      ·rw [if_pos c12] at H
       have c12b0:decide (0≤t150)=true:=decide_eq_true c12
       clear c12
       by_cases c13:t150 < (y151.length:Int)
       ·rw [if_pos c13] at H
        have c13b0:decide (t150 < (y151.length:Int))=true:=decide_eq_true c13
        clear c13
        replace H:=Option.bind_eq_some_iff.mp H
        obtain ⟨⟨t155,t156,t157,t158⟩,A140,H⟩:=H
        replace H:(if 1≤(a0.size:Int) then (some (t155,t156,t157,t158,a0.extract 1 a0.size,true)) else (none))=some (r1,r2,r3,r4,r5,r6):=H
        have A14:=Aside0.mk A140
        clear A140
        by_cases c15:1≤(a0.size:Int)
        ·rw [if_pos c15] at H
         have c15b0:=eq_true c15
         have c15b1:decide (1≤(a0.size:Int))=true:=decide_eq_true c15
         clear c15
         simp only [Option.some.injEq,Prod.mk.injEq] at H
         obtain ⟨rfl,rfl,rfl,rfl,rfl,rfl⟩:=H
         have p9:0≤(0:Int):=(by omega)
         have q9:0 < a0.size:=(by have:(0:Int) < (a0.size:Int):=of_decide_eq_true (by first|(with_reducible assumption)|assumption);omega)
         have hx9:∀ h:0 < a0.size,((a0[0]'h).toNat:Int)=bt a0 0:=bt_at a0 0
         clear p9
         have qi9:(0 < (a0.size:Int))=True:=eq_true (of_decide_eq_true (by first|(with_reducible assumption)|assumption))
         replace q9:=eq_true q9
         try go_wp2_with (first|((with_reducible refine gate_callee (f:=47) rfl ?_);refine goesL_ (some 30) rfl rfl Try.func47 (by kernel_rfl) rfl #[.string (⟨#[126,95,46,33]⟩:ByteArray),.int .u8 (bt a0 0)] rfl (by (try simp only [List.map_toArray,List.map_cons,List.map_nil]);first|done|rfl|(simp only [List.length_drop,List.length_take];rfl)) ?_;(with_reducible refine (strings_IndexByte.calls (⟨#[126,95,46,33]⟩:ByteArray) (bt a0 0) t150 _ A10.out).mono ?_);rintro e w' ⟨rfl,⟨nd,rfl⟩⟩;refine ⟨_,rfl,?_⟩;(try (rw [drewN_self wc];generalize hq_:World.drewN wc _=wc;have n0_:Aside0 (wc.heap[gb149]?=some (.cells #[.int .i64 0,.int .i64 0,.string (⟨#[]⟩:ByteArray),.slice none 0 0] 27 (0,0))):=⟨by rw [← hq_];exact (gK BK149)⟩;have n1_:Aside0 (Below w.heap.size w wc):=⟨by rw [← hq_];exact (by repeat (first|(with_reducible first|exact HB.out|apply below_alloc|apply pw_below_drewN|apply below_drew1|refine below_set ?_ GE149.out)|exact HB.out))⟩;clear BK149 HB hq_;have BK149:=n0_;have HB:=n1_;clear n0_ n1_))))
         have pi154:(0≤(t150:Int))=True:=eq_true (of_decide_eq_true (by first|(with_reducible assumption)|assumption))
         have qi154:(t150 < (y151.length:Int))=True:=eq_true (of_decide_eq_true (by first|(with_reducible assumption)|assumption))
         have n0_:=Aside0.mk (blk_drew BK149.out)
         have n1_:=Aside0.mk (below_drew1 HB.out)
         clear BK149
         clear HB
         have BK149:=n0_
         have HB:=n1_
         clear n0_ n1_
         refine start_ (n:=10) (S:=fun w'=>True) (ds:=[]) #[false,false,false,false,false,false,false,false,false,false] (by kernel_rfl) rfl rfl trivial (fun hHeld=>?_);refine with_tabW impl_parseDoc.tab5 impl_parseDoc.bits5 (fun HT_ HW_=>?_)
         generalize wc.drew=w16 at BK149 HB hHeld ⊢
         refine pure_ (i:=1) (N:=some 34) (v:=?_) (a':=?_) #[false,true,false,false,false,false,false,false,false,false] rfl rfl (any_of HT_.out (by kernel_rfl)) (fun _ _ _ h=>h) (Or.inl ⟨by rfl,?_⟩) ?_ ?_
         rotate_left
         ·intro w'
          go_simp
          with_reducible rfl
         rotate_left
         ·simp only [Act.put,List.setIfInBounds_toArray,List.set_cons_zero,List.set_cons_succ,i64_w,i32_w]
          rfl
         refine pure_ (i:=5) (N:=some 38) (v:=?_) (a':=?_) #[false,true,false,false,false,true,false,false,false,false] rfl rfl (any_of HT_.out (by kernel_rfl)) (fun _ _ _ h=>h) (Or.inl ⟨by rfl,?_⟩) ?_ ?_
         rotate_left
         ·intro w'
          go_simp
          with_reducible rfl
         rotate_left
         ·simp only [Act.put,List.setIfInBounds_toArray,List.set_cons_zero,List.set_cons_succ,i64_w,i32_w]
          rfl
         refine pure_ (i:=6) (N:=some 39) (v:=?_) (a':=?_) #[false,true,false,false,false,true,true,false,false,false] rfl rfl (any_of HT_.out (by kernel_rfl)) (fun _ _ _ h=>h) (Or.inl ⟨by rfl,?_⟩) ?_ ?_
         rotate_left
         ·intro w'
          go_simp
          with_reducible rfl
         rotate_left
         ·simp only [Act.put,List.setIfInBounds_toArray,List.set_cons_zero,List.set_cons_succ,i64_w,i32_w]
          rfl
         refine one_ (i:=0) (N:=some 33) #[true,true,false,false,false,true,true,false,false,false] rfl rfl (one_of HT_.out (by kernel_rfl)) (by decide) (fun K hK=>?_)
         refine Kd.R_lit_step (Kd.int .i64) _ 3 ?hg (N:=33) ?hd (xs:=([1,3,4,5]:List Int)) (inner:=[.int .i64 1,.int .i64 3,.int .i64 4,.int .i64 5]) (ok:=fun _=>True) (okp:=fun _=>True) ?hr ?hp (fun _ hk=>hk) trivial (Below.refl _ _) (Nat.le_refl _) (by simp) ?_;(case hd=>rfl);(case hg=>rfl);(case hr=>first|(go_simp;done)|(go_simp;rfl));(case hp=>exact (Reps.one (show Kd.M (Kd.int .i64) _ _ _ 1 [.int .i64 1] from rfl) (Reps.one (show Kd.M (Kd.int .i64) _ _ _ 3 [.int .i64 3] from rfl) (Reps.one (show Kd.M (Kd.int .i64) _ _ _ 4 [.int .i64 4] from rfl) (Reps.one (show Kd.M (Kd.int .i64) _ _ _ 5 [.int .i64 5] from rfl) (Reps.none _ _))))))
         intro v152 w17 ho18 hb hg_ hnew_
         clear hg_ hnew_
         (first|rw [← Ny151.out] at ho18|(simp only [Int.reduceToNat] at ho18;rw [← Ny151.out] at ho18))
         have n0_:=Aside0.mk (Kd.R_lower ho18 (below_size (by repeat (first|(with_reducible first|exact HB.out|apply below_alloc|apply pw_below_drewN|apply below_drew1|refine below_set ?_ GE149.out)|exact HB.out))))
         have n1_:=Aside0.mk (blk_below (g:=gb149) (o:=.cells #[.int .i64 0,.int .i64 0,.string (⟨#[]⟩:ByteArray),.slice none 0 0] 27 (0,0)) (gK BK149) hb)
         have n2_:=Aside0.mk (below_step (by repeat (first|(with_reducible first|exact HB.out|apply below_alloc|apply pw_below_drewN|apply below_drew1|refine below_set ?_ GE149.out)|exact HB.out)) hb)
         clear BK149
         clear HB
         have HO153:=n0_
         have BK149:=n1_
         have HB:=n2_
         clear n0_ n1_ n2_
         clear hb ho18
         obtain ⟨Ao19,co19,eo19⟩:=Kd.R_slice HO153.out
         subst eo19
         obtain ⟨ado19,fo19,_⟩:=Kd.at_int (Kd.R_reads' HO153.out).2.2 0 (by decide) (by rw [Ny151.out];simp)
         cases fo19
         refine hK.out _ _ trivial (fun hHeld=>?_)
         clear hK K
         refine norm_ (a':=?_) ?_ ?_
         rotate_left
         ·show Act.put _ (some 33) _=_
          simp only [Act.put,List.setIfInBounds_toArray,List.set_cons_zero,List.set_cons_succ,i64_w,i32_w]
          rfl
         refine pure_ (i:=2) (N:=some 35) (v:=?_) (a':=?_) #[true,true,true,false,false,true,true,false,false,false] rfl rfl (any_of HT_.out (by kernel_rfl)) (fun _ _ _ h=>h) (Or.inl ⟨by rfl,?_⟩) ?_ ?_
         rotate_left
         ·intro w'
          go_simp
          with_reducible rfl
         rotate_left
         ·simp only [Act.put,List.setIfInBounds_toArray,List.set_cons_zero,List.set_cons_succ,i64_w,i32_w]
          rfl
         refine one_ (i:=3) (N:=some 36) #[true,true,true,true,false,true,true,false,false,false] rfl rfl (one_of HT_.out (by kernel_rfl)) (by decide) (fun K hK=>?_)
         (have p154:0≤(t150:Int):=of_decide_eq_true (by first|(with_reducible assumption)|assumption);have q154:t150 < (y151.length:Int):=of_decide_eq_true (by first|(with_reducible assumption)|assumption);obtain ⟨ad154,e154,hx154_0⟩:=Kd.at_int (Kd.R_reads' HO153.out).2.2 t150 p154 q154;obtain rfl:ado19=ad154:=(by injection e154))
         refine value_ (w1:=?_) (v:=?_) (by rfl) rfl ?_ ?_
         rotate_left 2
         ·go_simp
          constructor
          ·rfl
          ·rfl
         clear hx154_0
         refine hK.out _ _ trivial (fun hHeld=>?_)
         clear hK K
         refine norm_ (a':=?_) ?_ ?_
         rotate_left
         ·show Act.put _ (some 36) _=_
          simp only [Act.put,List.setIfInBounds_toArray,List.set_cons_zero,List.set_cons_succ,i64_w,i32_w]
          rfl
         refine one_ (i:=4) (N:=some 37) #[true,true,true,true,true,true,true,false,false,false] rfl rfl (one_of HT_.out (by kernel_rfl)) (by decide) (fun K hK=>?_)
         refine goes_ Try.func67 (by kernel_rfl) rfl #[.int .i64 (rd y151 t150)] (by rfl) rfl rfl (by (try simp only [List.map_toArray,List.map_cons,List.map_nil]);first|done|rfl|(simp only [List.length_drop,List.length_take];rfl)) ?_
         with_reducible refine (impl_leaf.calls (rd y151 t150) t155 t156 t157 t158 _ A14.out).mono ?_
         rintro e w20 ⟨v159,rfl,ho0,hb⟩
         refine ⟨_,rfl,?_⟩
         have n0_:=Aside0.mk (Kd.R_below (gR HO153) hb)
         have n1_:=Aside0.mk (Kd.R_lower (Kd.R_newB ho0 (g:=gb149) (o:=.cells #[.int .i64 0,.int .i64 0,.string (⟨#[]⟩:ByteArray),.slice none 0 0] 27 (0,0)) (gK BK149)) (below_size (by repeat (first|(with_reducible first|exact HB.out|apply below_alloc|apply pw_below_drewN|apply below_drew1|refine below_set ?_ GE149.out)|exact HB.out))))
         have n2_:=Aside0.mk (blk_below (g:=gb149) (o:=.cells #[.int .i64 0,.int .i64 0,.string (⟨#[]⟩:ByteArray),.slice none 0 0] 27 (0,0)) (gK BK149) hb)
         have n3_:=Aside0.mk (below_step (by repeat (first|(with_reducible first|exact HB.out|apply below_alloc|apply pw_below_drewN|apply below_drew1|refine below_set ?_ GE149.out)|exact HB.out)) hb)
         clear HO153
         clear BK149
         clear HB
         have HO153:=n0_
         have HO160:=n1_
         have BK149:=n2_
         have HB:=n3_
         clear n0_ n1_ n2_ n3_
         (try clear hb)
         (try clear hb2)
         (try clear hk)
         (try clear hi)
         (try clear ho0)
         obtain ⟨Ao24,co24,eo24⟩:=Kd.R_slice HO160.out
         (first|subst eo24|(injection eo24 with f1_ f2_ f3_;have f4_:=f1_.symm;have f5_:=f3_.symm;clear f1_ f2_ f3_;subst f4_;subst f5_))
         refine hK.out _ _ trivial (fun hHeld=>?_)
         clear hK K
         refine norm_ (a':=?_) ?_ ?_
         rotate_left
         ·show Act.put _ (some 37) _=_
          simp only [Act.put,List.setIfInBounds_toArray,List.set_cons_zero,List.set_cons_succ,i64_w,i32_w]
          rfl
         refine one_ (i:=7) (N:=none) #[true,true,true,true,true,true,true,true,false,false] rfl rfl (one_of HT_.out (by kernel_rfl)) (by decide) (fun K hK=>?_)
         have hs21:w20.cell? ⟨gb149,0,none⟩=some (.int .i64 0):=(blk_cell BK149.out 0).trans rfl
         have hfs21:=blk_frozen BK149.out 0
         have hs22:w20.cell? ⟨gb149,1,none⟩=some (.int .i64 0):=(blk_cell BK149.out 1).trans rfl
         have hfs22:=blk_frozen BK149.out 1
         have hs23:w20.cell? ⟨gb149,2,none⟩=some (.string (⟨#[]⟩:ByteArray)):=(blk_cell BK149.out 2).trans rfl
         have hfs23:=blk_frozen BK149.out 2
         have hs25:w20.cell? ⟨gb149,3,none⟩=some (.slice none 0 0):=(blk_cell BK149.out 3).trans rfl
         have hfs25:=blk_frozen BK149.out 3
         refine skip_ (w1:=?_) (by rfl) rfl ?_ ?_
         rotate_left
         ·go_simp
          rfl
         refine hK.out _ _ trivial (fun hHeld=>?_)
         clear hK K
         refine pure_ (i:=8) (N:=some 5) (v:=?_) (a':=?_) #[true,true,true,true,true,true,true,true,true,false] rfl rfl (any_of HT_.out (by kernel_rfl)) (fun _ _ _ h=>h) (Or.inl ⟨by rfl,?_⟩) ?_ ?_
         rotate_left
         ·intro w'
          go_simp
          with_reducible rfl
         rotate_left
         ·simp only [Act.put,List.setIfInBounds_toArray,List.set_cons_zero,List.set_cons_succ,i64_w,i32_w]
          rfl
         refine pure_ (i:=9) (N:=some 6) (v:=?_) (a':=?_) #[true,true,true,true,true,true,true,true,true,true] rfl rfl (any_of HT_.out (by kernel_rfl)) (fun _ _ _ h=>h) (Or.inl ⟨by rfl,?_⟩) ?_ ?_
         rotate_left
         ·intro w'
          go_simp
          with_reducible rfl
         rotate_left
         ·simp only [Act.put,List.setIfInBounds_toArray,List.set_cons_zero,List.set_cons_succ,i64_w,i32_w]
          rfl
         refine done_ (done_of HT_.out (by kernel_rfl)) ?_
         try go_wp2
         refine bodyPost_ret (results_ctt rfl _ _ gb149 27 #[.int .i64 t155,.int .i64 t156,.string t157,.slice Ao24 t158.length co24] (0,0) _ rfl (by (with_reducible repeat (first|refine blk_drewN ?_ _|refine blk_drew ?_|refine blk_alloc ?_ _));refine blk_put (cs:=#[.int .i64 t155,.int .i64 t156,.string t157,.slice none 0 0]) ?_ 3 _ rfl;(with_reducible repeat (first|refine blk_drewN ?_ _|refine blk_drew ?_|refine blk_alloc ?_ _));refine blk_put (cs:=#[.int .i64 t155,.int .i64 t156,.string (⟨#[]⟩:ByteArray),.slice none 0 0]) ?_ 2 _ rfl;(with_reducible repeat (first|refine blk_drewN ?_ _|refine blk_drew ?_|refine blk_alloc ?_ _));refine blk_put (cs:=#[.int .i64 t155,.int .i64 0,.string (⟨#[]⟩:ByteArray),.slice none 0 0]) ?_ 1 _ rfl;(with_reducible repeat (first|refine blk_drewN ?_ _|refine blk_drew ?_|refine blk_alloc ?_ _));refine blk_put (cs:=#[.int .i64 0,.int .i64 0,.string (⟨#[]⟩:ByteArray),.slice none 0 0]) ?_ 0 _ rfl;(with_reducible repeat (first|refine blk_drewN ?_ _|refine blk_drew ?_|refine blk_alloc ?_ _));exact BK149.out) Try.underlying27 rfl (by kernel_rfl)) rfl ?_
         exact ⟨_,by first|rfl|(simp [errW_none,errW_some] <;> rfl)|(simp [*,errW_none,errW_some] <;> rfl),by (with_reducible repeat (first|apply Kd.R_alloc|apply Kd.R_drewN|apply Kd.R_drew));exact Kd.R_mono (Kd.R_far (p:=⟨gb149,3,none⟩) (Kd.R_far (p:=⟨gb149,2,none⟩) (Kd.R_far (p:=⟨gb149,1,none⟩) (Kd.R_far (p:=⟨gb149,0,none⟩) (Kd.R_mono HO160.out (fun k_ hk=>(⟨hk,hk.2⟩:_∧k_ ≠ gb149))) (fun _ hk=>hk.2) (.int .i64 t155)) (fun _ hk=>hk.2) (.int .i64 t156)) (fun _ hk=>hk.2) (.string t157)) (fun _ hk=>hk.2) (.slice Ao24 t158.length co24)) (fun _ hk=>trivial),by repeat (first|(with_reducible first|exact HB.out|apply below_alloc|apply pw_below_drewN|apply below_drew1|refine below_set ?_ GE149.out)|exact HB.out)⟩
        ·rw [if_neg c15] at H
         exact absurd H (by simp)
       ·rw [if_neg c13] at H
        exact absurd H (by simp)
      ·rw [if_neg c12] at H
       exact absurd H (by simp)
     ·rw [if_neg c11] at H
      have c11b0:decide (0≤t150)=false:=decide_eq_false c11
      clear c11
      by_cases c27:1≤(a0.size:Int)
      ·rw [if_pos c27] at H
       have c27b0:=eq_true c27
       have c27b1:decide (1≤(a0.size:Int))=true:=decide_eq_true c27
       clear c27
       have HC28:=Aside0.mk H
       clear H
       have p9:0≤(0:Int):=(by omega)
       have q9:0 < a0.size:=(by have:(0:Int) < (a0.size:Int):=of_decide_eq_true (by first|(with_reducible assumption)|assumption);omega)
       have hx9:∀ h:0 < a0.size,((a0[0]'h).toNat:Int)=bt a0 0:=bt_at a0 0
       clear p9
       have qi9:(0 < (a0.size:Int))=True:=eq_true (of_decide_eq_true (by first|(with_reducible assumption)|assumption))
       replace q9:=eq_true q9
       try go_wp2_with (first|((with_reducible refine gate_callee (f:=47) rfl ?_);refine goesL_ (some 30) rfl rfl Try.func47 (by kernel_rfl) rfl #[.string (⟨#[126,95,46,33]⟩:ByteArray),.int .u8 (bt a0 0)] rfl (by (try simp only [List.map_toArray,List.map_cons,List.map_nil]);first|done|rfl|(simp only [List.length_drop,List.length_take];rfl)) ?_;(with_reducible refine (strings_IndexByte.calls (⟨#[126,95,46,33]⟩:ByteArray) (bt a0 0) t150 _ A10.out).mono ?_);rintro e w' ⟨rfl,⟨nd,rfl⟩⟩;refine ⟨_,rfl,?_⟩;(try (rw [drewN_self wc];generalize hq_:World.drewN wc _=wc;have n0_:Aside0 (wc.heap[gb149]?=some (.cells #[.int .i64 0,.int .i64 0,.string (⟨#[]⟩:ByteArray),.slice none 0 0] 27 (0,0))):=⟨by rw [← hq_];exact (gK BK149)⟩;have n1_:Aside0 (Below w.heap.size w wc):=⟨by rw [← hq_];exact (by repeat (first|(with_reducible first|exact HB.out|apply below_alloc|apply pw_below_drewN|apply below_drew1|refine below_set ?_ GE149.out)|exact HB.out))⟩;clear BK149 HB hq_;have BK149:=n0_;have HB:=n1_;clear n0_ n1_))))
       have n0_:=Aside0.mk (blk_drew BK149.out)
       have n1_:=Aside0.mk (below_drew1 HB.out)
       clear BK149
       clear HB
       have BK149:=n0_
       have HB:=n1_
       clear n0_ n1_
       have p26:0≤(0:Int):=(by omega)
       have q26:0 < a0.size:=(by have:(0:Int) < (a0.size:Int):=of_decide_eq_true (by first|(with_reducible assumption)|assumption);omega)
       have hx26:∀ h:0 < a0.size,((a0[0]'h).toNat:Int)=bt a0 0:=bt_at a0 0
       clear p26
       have qi26:(0 < (a0.size:Int))=True:=eq_true (of_decide_eq_true (by first|(with_reducible assumption)|assumption))
       replace q26:=eq_true q26
       refine start_ (n:=6) (S:=fun w'=>True) (ds:=[]) #[false,false,false,false,false,false] (by kernel_rfl) rfl rfl trivial (fun hHeld=>?_)
       generalize wc.drew=w29 at BK149 HB hHeld ⊢
       refine pure_ (i:=0) (N:=some 40) (v:=?_) (a':=?_) #[true,false,false,false,false,false] rfl rfl (by kernel_rfl) (fun _ _ _ h=>h) (Or.inl ⟨by rfl,?_⟩) ?_ ?_
       rotate_left
       ·intro w'
        go_simp
        with_reducible rfl
       rotate_left
       ·simp only [Act.put,List.setIfInBounds_toArray,List.set_cons_zero,List.set_cons_succ,i64_w,i32_w]
        rfl
       refine pure_ (i:=2) (N:=some 42) (v:=?_) (a':=?_) #[true,false,true,false,false,false] rfl rfl (by kernel_rfl) (fun _ _ _ h=>h) (Or.inl ⟨by rfl,?_⟩) ?_ ?_
       rotate_left
       ·intro w'
        go_simp
        with_reducible rfl
       rotate_left
       ·simp only [Act.put,List.setIfInBounds_toArray,List.set_cons_zero,List.set_cons_succ,i64_w,i32_w]
        rfl
       refine pure_ (i:=3) (N:=some 43) (v:=?_) (a':=?_) #[true,false,true,true,false,false] rfl rfl (by kernel_rfl) (fun _ _ _ h=>h) (Or.inl ⟨by rfl,?_⟩) ?_ ?_
       rotate_left
       ·intro w'
        go_simp
        with_reducible rfl
       rotate_left
       ·simp only [Act.put,List.setIfInBounds_toArray,List.set_cons_zero,List.set_cons_succ,i64_w,i32_w]
        rfl
       refine take_ (i:=1) (N:=some 41) (v:=?_) (a':=?_) #[true,true,true,true,false,false] rfl rfl (by kernel_rfl) (fun _ _ _ h=>h) (Or.inl ⟨by rfl,?_⟩) hHeld ?_ ?_
       rotate_left
       ·intro w' _
        go_simp
        with_reducible rfl
       rotate_left
       ·simp only [Act.put,List.setIfInBounds_toArray,List.set_cons_zero,List.set_cons_succ,i64_w,i32_w]
        rfl
       refine pure_ (i:=4) (N:=some 8) (v:=?_) (a':=?_) #[true,true,true,true,true,false] rfl rfl (by kernel_rfl) (fun _ _ _ h=>h) (Or.inl ⟨by rfl,?_⟩) ?_ ?_
       rotate_left
       ·intro w'
        go_simp
        with_reducible rfl
       rotate_left
       ·simp only [Act.put,List.setIfInBounds_toArray,List.set_cons_zero,List.set_cons_succ,i64_w,i32_w]
        rfl
       refine pure_ (i:=5) (N:=some 0) (v:=?_) (a':=?_) #[true,true,true,true,true,true] rfl rfl (by kernel_rfl) (fun _ _ _ h=>h) (Or.inl ⟨by rfl,?_⟩) ?_ ?_
       rotate_left
       ·intro w'
        go_simp
        with_reducible rfl
       rotate_left
       ·simp only [Act.put,List.setIfInBounds_toArray,List.set_cons_zero,List.set_cons_succ,i64_w,i32_w]
        rfl
       refine done_ (by kernel_rfl) ?_
       go_upto_block 0 with (first|((with_reducible refine gate_dst (N:=9) rfl ?_);refine box_event ?hg (N:=9) ?hd (cs:=#[.int .i64 0,.int .i64 0,.string (⟨#[]⟩:ByteArray),.slice none 0 0]) (t:=27) ?hr ?_;(case hd=>rfl);(case hg=>rfl);(case hr=>first|(go_simp;done)|(go_simp;rfl));intro gb161 hg w30 hbox hb;have n0_:=Aside0.mk (blk_below (g:=gb149) (o:=.cells #[.int .i64 0,.int .i64 0,.string (⟨#[]⟩:ByteArray),.slice none 0 0] 27 (0,0)) (gK BK149) hb);have n1_:=Aside0.mk (below_step (by repeat (first|(with_reducible first|exact HB.out|apply below_alloc|apply pw_below_drewN|apply below_drew1|refine below_set ?_ GE149.out)|exact HB.out)) hb);have n2_:=Aside0.mk (hbox);have n3_:=Aside0.mk ((by rw [hg];exact (below_size (by repeat (first|(with_reducible first|exact HB.out|apply below_alloc|apply pw_below_drewN|apply below_drew1|refine below_set ?_ GE149.out)|exact HB.out))):w.heap.size≤gb161));have n4_:=Aside0.mk ((by rw [hg];exact (below_size (by repeat (first|(with_reducible first|exact HB.out|apply below_alloc|apply pw_below_drewN|apply below_drew1|refine below_set ?_ GE149.out)|exact HB.out))):w.heap.size≤gb161));have n5_:=Aside0.mk ((by rw [hg];exact Nat.ne_of_lt (blk_lt (g:=gb149) (o:=.cells #[.int .i64 0,.int .i64 0,.string (⟨#[]⟩:ByteArray),.slice none 0 0] 27 (0,0)) (gK BK149)):gb149 ≠ gb161));have n6_:=Aside0.mk ((by rw [hg];exact Nat.ne_of_gt (blk_lt (g:=gb149) (o:=.cells #[.int .i64 0,.int .i64 0,.string (⟨#[]⟩:ByteArray),.slice none 0 0] 27 (0,0)) (gK BK149)):gb161 ≠ gb149));clear BK149;clear HB;have BK149:=n0_;have HB:=n1_;have BK161:=n2_;have GW161:=n3_;have GE161:=n4_;have NB149_161:=n5_;have NB161_149:=n6_;clear n0_ n1_ n2_ n3_ n4_ n5_ n6_;clear hb hbox hg;have hnb31:=NB161_149.out;have hnc31:=NB149_161.out;have hcz32_0:w30.cell? ⟨gb161,0,none⟩=some (.int .i64 0):=(blk_cell BK161.out 0).trans rfl;have hcz32_1:w30.cell? ⟨gb161,1,none⟩=some (.int .i64 0):=(blk_cell BK161.out 1).trans rfl;have hcz32_2:w30.cell? ⟨gb161,2,none⟩=some (.string (⟨#[]⟩:ByteArray)):=(blk_cell BK161.out 2).trans rfl;have hcz32_3:w30.cell? ⟨gb161,3,none⟩=some (.slice none 0 0):=(blk_cell BK161.out 3).trans rfl;have hfz32_0:=blk_frozen BK161.out 0;have hfz32_1:=blk_frozen BK161.out 1;have hfz32_2:=blk_frozen BK161.out 2;have hfz32_3:=blk_frozen BK161.out 3))
       (try simp only [Act.put,List.setIfInBounds_toArray,List.set_cons_zero,List.set_cons_succ])
       go_cut [0,10,11] (fun v0 v10 v11 wc=>∃ (kq:Nat) (x0_27:ByteArray) (x10_27:Int) (x11_27:ByteArray) (x150000_27:Int) (x150001_27:Int) (x150002_27:ByteArray) (x162000_27:Int) (x162001_27:Int),v0=.string x0_27∧v10=.int .i64 x10_27∧v11=.string x11_27∧Aside0 (impl_parseDoc.j2 kq x0_27 a1 x10_27 x11_27 x162000_27 x162001_27 (⟨#[]⟩:ByteArray)=some (r1,r2,r3,r4,r5,r6))∧Aside0 (kq≤kj2)∧Aside0 (wc.heap[gb149]?=some (.cells #[.int .i64 x150000_27,.int .i64 x150001_27,.string x150002_27,(.slice none 0 0)] 27 (0,0)))∧Aside0 (wc.heap[gb161]?=some (.cells #[.int .i64 x162000_27,.int .i64 x162001_27,.string (⟨#[]⟩:ByteArray),(.slice none 0 0)] 27 (0,0)))∧Aside0 (Below w.heap.size w wc))
       case first =>
        have H:=HC28.out
        clear HC28
        by_cases c33:(bt a0 0)=34
        ·rw [if_pos c33] at H
         have c33b0:((bt a0 0) == 34)=true:=beq_iff_eq.mpr c33
         have c33b1:((bt a0 0) != 34)=false:=bne_eq_false_iff_eq.mpr c33
         clear c33
         (first|rw [c33b0]|(simp only [i64_w,i32_w];rw [c33b0])|skip)
         replace H:=Option.bind_eq_some_iff.mp H
         obtain ⟨⟨t162,t163,t164⟩,A340,H⟩:=H
         replace H:((impl_word.f t162).bind fun bt165=>(some (bt165.1,bt165.2.1,bt165.2.2.1,bt165.2.2.2,t163,t164)))=some (r1,r2,r3,r4,r5,r6):=H
         have A34:=Aside0.mk A340
         clear A340
         replace H:=Option.bind_eq_some_iff.mp H
         obtain ⟨⟨t165,t166,t167,t168⟩,A350,H⟩:=H
         replace H:(some (t165,t166,t167,t168,t163,t164))=some (r1,r2,r3,r4,r5,r6):=H
         have A35:=Aside0.mk A350
         clear A350
         simp only [Option.some.injEq,Prod.mk.injEq] at H
         obtain ⟨rfl,rfl,rfl,rfl,rfl,rfl⟩:=H
         go_wp2_with (first|((with_reducible refine gate_callee (f:=68) rfl ?_);refine goesL_ (some 52) rfl rfl Try.func68 (by kernel_rfl) rfl #[.string (a0.extract 1 a0.size),.string (⟨#[34]⟩:ByteArray)] rfl (by (try simp only [List.map_toArray,List.map_cons,List.map_nil]);first|done|rfl|(simp only [List.length_drop,List.length_take];rfl)) ?_;(with_reducible refine (strings_Cut.calls (a0.extract 1 a0.size) (⟨#[34]⟩:ByteArray) t162 t163 t164 _ A34.out).mono ?_);rintro e w' ⟨rfl,⟨nd,rfl⟩⟩;refine ⟨_,rfl,?_⟩)|((with_reducible refine gate_callee (f:=69) rfl ?_);refine goesL_ (some 57) rfl rfl Try.func69 (by kernel_rfl) rfl #[.string t162] rfl (by (try simp only [List.map_toArray,List.map_cons,List.map_nil]);first|done|rfl|(simp only [List.length_drop,List.length_take];rfl)) ?_;(with_reducible refine (impl_word.calls t162 t165 t166 t167 t168 _ A35.out).mono ?_);rintro e w36 ⟨v169,rfl,ho0,hb⟩;refine ⟨_,rfl,?_⟩;have n0_:=Aside0.mk (Kd.R_lower (Kd.R_newB (Kd.R_newB ho0 (g:=gb149) (o:=.cells #[.int .i64 0,.int .i64 0,.string (⟨#[]⟩:ByteArray),.slice none 0 0] 27 (0,0)) (by (with_reducible repeat (first|refine blk_drewN ?_ _|refine blk_drew ?_|refine blk_alloc ?_ _));refine blk_far ?_ NB149_161.out _;(with_reducible repeat (first|refine blk_drewN ?_ _|refine blk_drew ?_|refine blk_alloc ?_ _));refine blk_far ?_ NB149_161.out _;(with_reducible repeat (first|refine blk_drewN ?_ _|refine blk_drew ?_|refine blk_alloc ?_ _));refine blk_far ?_ NB149_161.out _;(with_reducible repeat (first|refine blk_drewN ?_ _|refine blk_drew ?_|refine blk_alloc ?_ _));refine blk_far ?_ NB149_161.out _;(with_reducible repeat (first|refine blk_drewN ?_ _|refine blk_drew ?_|refine blk_alloc ?_ _));exact BK149.out)) (g:=gb161) (o:=.cells #[.int .i64 0,.int .i64 0,.string (⟨#[]⟩:ByteArray),.slice none 0 0] 27 (0,0)) (by (with_reducible repeat (first|refine blk_drewN ?_ _|refine blk_drew ?_|refine blk_alloc ?_ _));refine blk_put (cs:=#[.int .i64 0,.int .i64 0,.string (⟨#[]⟩:ByteArray),.slice none 0 0]) ?_ 3 _ rfl;(with_reducible repeat (first|refine blk_drewN ?_ _|refine blk_drew ?_|refine blk_alloc ?_ _));refine blk_put (cs:=#[.int .i64 0,.int .i64 0,.string (⟨#[]⟩:ByteArray),.slice none 0 0]) ?_ 2 _ rfl;(with_reducible repeat (first|refine blk_drewN ?_ _|refine blk_drew ?_|refine blk_alloc ?_ _));refine blk_put (cs:=#[.int .i64 0,.int .i64 0,.string (⟨#[]⟩:ByteArray),.slice none 0 0]) ?_ 1 _ rfl;(with_reducible repeat (first|refine blk_drewN ?_ _|refine blk_drew ?_|refine blk_alloc ?_ _));refine blk_put (cs:=#[.int .i64 0,.int .i64 0,.string (⟨#[]⟩:ByteArray),.slice none 0 0]) ?_ 0 _ rfl;(with_reducible repeat (first|refine blk_drewN ?_ _|refine blk_drew ?_|refine blk_alloc ?_ _));exact BK161.out)) (below_size (by repeat (first|(with_reducible first|exact HB.out|apply below_alloc|apply pw_below_drewN|apply below_drew1|refine below_set ?_ GE149.out|refine below_set ?_ GE161.out)|exact HB.out))));have n1_:=Aside0.mk (blk_below (g:=gb149) (o:=.cells #[.int .i64 0,.int .i64 0,.string (⟨#[]⟩:ByteArray),.slice none 0 0] 27 (0,0)) (by (with_reducible repeat (first|refine blk_drewN ?_ _|refine blk_drew ?_|refine blk_alloc ?_ _));refine blk_far ?_ NB149_161.out _;(with_reducible repeat (first|refine blk_drewN ?_ _|refine blk_drew ?_|refine blk_alloc ?_ _));refine blk_far ?_ NB149_161.out _;(with_reducible repeat (first|refine blk_drewN ?_ _|refine blk_drew ?_|refine blk_alloc ?_ _));refine blk_far ?_ NB149_161.out _;(with_reducible repeat (first|refine blk_drewN ?_ _|refine blk_drew ?_|refine blk_alloc ?_ _));refine blk_far ?_ NB149_161.out _;(with_reducible repeat (first|refine blk_drewN ?_ _|refine blk_drew ?_|refine blk_alloc ?_ _));exact BK149.out) hb);have n2_:=Aside0.mk (blk_below (g:=gb161) (o:=.cells #[.int .i64 0,.int .i64 0,.string (⟨#[]⟩:ByteArray),.slice none 0 0] 27 (0,0)) (by (with_reducible repeat (first|refine blk_drewN ?_ _|refine blk_drew ?_|refine blk_alloc ?_ _));refine blk_put (cs:=#[.int .i64 0,.int .i64 0,.string (⟨#[]⟩:ByteArray),.slice none 0 0]) ?_ 3 _ rfl;(with_reducible repeat (first|refine blk_drewN ?_ _|refine blk_drew ?_|refine blk_alloc ?_ _));refine blk_put (cs:=#[.int .i64 0,.int .i64 0,.string (⟨#[]⟩:ByteArray),.slice none 0 0]) ?_ 2 _ rfl;(with_reducible repeat (first|refine blk_drewN ?_ _|refine blk_drew ?_|refine blk_alloc ?_ _));refine blk_put (cs:=#[.int .i64 0,.int .i64 0,.string (⟨#[]⟩:ByteArray),.slice none 0 0]) ?_ 1 _ rfl;(with_reducible repeat (first|refine blk_drewN ?_ _|refine blk_drew ?_|refine blk_alloc ?_ _));refine blk_put (cs:=#[.int .i64 0,.int .i64 0,.string (⟨#[]⟩:ByteArray),.slice none 0 0]) ?_ 0 _ rfl;(with_reducible repeat (first|refine blk_drewN ?_ _|refine blk_drew ?_|refine blk_alloc ?_ _));exact BK161.out) hb);have n3_:=Aside0.mk (below_step (by repeat (first|(with_reducible first|exact HB.out|apply below_alloc|apply pw_below_drewN|apply below_drew1|refine below_set ?_ GE149.out|refine below_set ?_ GE161.out)|exact HB.out)) hb);clear BK149;clear BK161;clear HB;have HO170:=n0_;have BK149:=n1_;have BK161:=n2_;have HB:=n3_;clear n0_ n1_ n2_ n3_;(try clear hb);(try clear hb2);(try clear hk);(try clear hi);(try clear ho0);have hnb37:=NB149_161.out;have hnc37:=NB161_149.out;have hcz38_0:w36.cell? ⟨gb149,0,none⟩=some (.int .i64 0):=(blk_cell BK149.out 0).trans rfl;have hcz38_1:w36.cell? ⟨gb149,1,none⟩=some (.int .i64 0):=(blk_cell BK149.out 1).trans rfl;have hcz38_2:w36.cell? ⟨gb149,2,none⟩=some (.string (⟨#[]⟩:ByteArray)):=(blk_cell BK149.out 2).trans rfl;have hcz38_3:w36.cell? ⟨gb149,3,none⟩=some (.slice none 0 0):=(blk_cell BK149.out 3).trans rfl;have hfz38_0:=blk_frozen BK149.out 0;have hfz38_1:=blk_frozen BK149.out 1;have hfz38_2:=blk_frozen BK149.out 2;have hfz38_3:=blk_frozen BK149.out 3;obtain ⟨Ao39,co39,eo39⟩:=Kd.R_slice HO170.out;subst eo39))
         refine bodyPost_ret (results_ctt rfl _ _ gb149 27 #[.int .i64 t165,.int .i64 t166,.string t167,.slice Ao39 t168.length co39] (0,0) _ rfl (by (with_reducible repeat (first|refine blk_drewN ?_ _|refine blk_drew ?_|refine blk_alloc ?_ _));refine blk_put (cs:=#[.int .i64 t165,.int .i64 t166,.string t167,.slice none 0 0]) ?_ 3 _ rfl;(with_reducible repeat (first|refine blk_drewN ?_ _|refine blk_drew ?_|refine blk_alloc ?_ _));refine blk_put (cs:=#[.int .i64 t165,.int .i64 t166,.string (⟨#[]⟩:ByteArray),.slice none 0 0]) ?_ 2 _ rfl;(with_reducible repeat (first|refine blk_drewN ?_ _|refine blk_drew ?_|refine blk_alloc ?_ _));refine blk_put (cs:=#[.int .i64 t165,.int .i64 0,.string (⟨#[]⟩:ByteArray),.slice none 0 0]) ?_ 1 _ rfl;(with_reducible repeat (first|refine blk_drewN ?_ _|refine blk_drew ?_|refine blk_alloc ?_ _));refine blk_put (cs:=#[.int .i64 0,.int .i64 0,.string (⟨#[]⟩:ByteArray),.slice none 0 0]) ?_ 0 _ rfl;(with_reducible repeat (first|refine blk_drewN ?_ _|refine blk_drew ?_|refine blk_alloc ?_ _));exact BK149.out) Try.underlying27 rfl (by kernel_rfl)) rfl ?_
         exact ⟨_,by first|rfl|(simp [errW_none,errW_some] <;> rfl)|(simp [*,errW_none,errW_some] <;> rfl),by (with_reducible repeat (first|apply Kd.R_alloc|apply Kd.R_drewN|apply Kd.R_drew));exact Kd.R_mono (Kd.R_far (p:=⟨gb149,3,none⟩) (Kd.R_far (p:=⟨gb149,2,none⟩) (Kd.R_far (p:=⟨gb149,1,none⟩) (Kd.R_far (p:=⟨gb149,0,none⟩) (Kd.R_mono HO170.out (fun k_ hk=>(⟨hk,hk.1.2⟩:_∧k_ ≠ gb149))) (fun _ hk=>hk.2) (.int .i64 t165)) (fun _ hk=>hk.2) (.int .i64 t166)) (fun _ hk=>hk.2) (.string t167)) (fun _ hk=>hk.2) (.slice Ao39 t168.length co39)) (fun _ hk=>trivial),by repeat (first|(with_reducible first|exact HB.out|apply below_alloc|apply pw_below_drewN|apply below_drew1|refine below_set ?_ GE149.out|refine below_set ?_ GE161.out)|exact HB.out)⟩
        ·rw [if_neg c33] at H
         have c33b0:((bt a0 0) == 34)=false:=beq_eq_false_iff_ne.mpr c33
         have c33b1:((bt a0 0) != 34)=true:=bne_iff_ne.mpr c33
         (first|rw [c33b0]|(simp only [i64_w,i32_w];rw [c33b0])|skip)
         have HC40:=Aside0.mk H
         clear H
         go_upto_region 13 with (fail)
         go_cut [60] (fun v60 wc=>∃ (kq:Nat) (x60_39:Bool),v60=.bool x60_39∧Aside0 (impl_parseDoc.j1 kq (a0.extract 1 a0.size) a1 (bt a0 0) 1 x60_39 0 0 (⟨#[]⟩:ByteArray)=some (r1,r2,r3,r4,r5,r6))∧Aside0 (kq≤kj2)∧Aside0 (wc.heap[gb149]?=some (.cells #[.int .i64 0,.int .i64 0,.string (⟨#[]⟩:ByteArray),(.slice none 0 0)] 27 (0,0)))∧Aside0 (wc.heap[gb161]?=some (.cells #[.int .i64 0,.int .i64 0,.string (⟨#[]⟩:ByteArray),(.slice none 0 0)] 27 (0,0)))∧Aside0 (Below w.heap.size w wc))
         case first =>
          have H:=HC40.out
          clear HC40
          by_cases c41:(bt a0 0) ≥ 48
          ·rw [if_pos c41] at H
           have c41b0:decide (48≤(bt a0 0))=true:=decide_eq_true c41
           clear c41
           (first|rw [c41b0]|(simp only [i64_w,i32_w];rw [c41b0])|skip)
           by_cases c42:(bt a0 0)≤57
           ·rw [if_pos c42] at H
            have c42b0:decide ((bt a0 0)≤57)=true:=decide_eq_true c42
            clear c42
            replace H:=Option.bind_eq_some_iff.mp H
            obtain ⟨t171,A430,H⟩:=H
            replace H:(impl_parseDoc.j1 kj2 (a0.extract 1 a0.size) a1 (bt a0 0) 1 t171 0 0 (⟨#[]⟩:ByteArray))=some (r1,r2,r3,r4,r5,r6):=H
            have A43:=Aside0.mk A430
            clear A430
            have H':=Aside0.mk H
            clear H
            go_wp2_with (first|(go_at_call 70;(with_reducible refine (strings_HasPrefix.calls (a0.extract 1 a0.size) (⟨#[60]⟩:ByteArray) t171 _ A43.out).mono ?_);rintro e w' ⟨rfl,⟨nd,rfl⟩⟩))
            go_meet
            case rel=>exact ⟨_,(t171),(by first|rfl|(simp;done)|(simp [*];done)),H',⟨by have:=HJ2.out;first|omega|exact Nat.le_refl _⟩,⟨by (with_reducible repeat (first|refine blk_drewN ?_ _|refine blk_drew ?_|refine blk_alloc ?_ _));refine blk_far ?_ NB149_161.out _;(with_reducible repeat (first|refine blk_drewN ?_ _|refine blk_drew ?_|refine blk_alloc ?_ _));refine blk_far ?_ NB149_161.out _;(with_reducible repeat (first|refine blk_drewN ?_ _|refine blk_drew ?_|refine blk_alloc ?_ _));refine blk_far ?_ NB149_161.out _;(with_reducible repeat (first|refine blk_drewN ?_ _|refine blk_drew ?_|refine blk_alloc ?_ _));refine blk_far ?_ NB149_161.out _;(with_reducible repeat (first|refine blk_drewN ?_ _|refine blk_drew ?_|refine blk_alloc ?_ _));exact BK149.out⟩,⟨by (with_reducible repeat (first|refine blk_drewN ?_ _|refine blk_drew ?_|refine blk_alloc ?_ _));refine blk_put (cs:=#[.int .i64 0,.int .i64 0,.string (⟨#[]⟩:ByteArray),.slice none 0 0]) ?_ 3 _ rfl;(with_reducible repeat (first|refine blk_drewN ?_ _|refine blk_drew ?_|refine blk_alloc ?_ _));refine blk_put (cs:=#[.int .i64 0,.int .i64 0,.string (⟨#[]⟩:ByteArray),.slice none 0 0]) ?_ 2 _ rfl;(with_reducible repeat (first|refine blk_drewN ?_ _|refine blk_drew ?_|refine blk_alloc ?_ _));refine blk_put (cs:=#[.int .i64 0,.int .i64 0,.string (⟨#[]⟩:ByteArray),.slice none 0 0]) ?_ 1 _ rfl;(with_reducible repeat (first|refine blk_drewN ?_ _|refine blk_drew ?_|refine blk_alloc ?_ _));refine blk_put (cs:=#[.int .i64 0,.int .i64 0,.string (⟨#[]⟩:ByteArray),.slice none 0 0]) ?_ 0 _ rfl;(with_reducible repeat (first|refine blk_drewN ?_ _|refine blk_drew ?_|refine blk_alloc ?_ _));exact BK161.out⟩,⟨by repeat (first|(with_reducible first|exact HB.out|apply below_alloc|apply pw_below_drewN|apply below_drew1|refine below_set ?_ GE149.out|refine below_set ?_ GE161.out)|exact HB.out)⟩⟩
           ·rw [if_neg c42] at H
            have c42b0:decide ((bt a0 0)≤57)=false:=decide_eq_false c42
            clear c42
            have H':=Aside0.mk H
            clear H
            go_wp2
            go_meet
            case rel=>exact ⟨_,(false),(by first|rfl|(simp;done)|(simp [*];done)),H',⟨by have:=HJ2.out;first|omega|exact Nat.le_refl _⟩,⟨by (with_reducible repeat (first|refine blk_drewN ?_ _|refine blk_drew ?_|refine blk_alloc ?_ _));refine blk_far ?_ NB149_161.out _;(with_reducible repeat (first|refine blk_drewN ?_ _|refine blk_drew ?_|refine blk_alloc ?_ _));refine blk_far ?_ NB149_161.out _;(with_reducible repeat (first|refine blk_drewN ?_ _|refine blk_drew ?_|refine blk_alloc ?_ _));refine blk_far ?_ NB149_161.out _;(with_reducible repeat (first|refine blk_drewN ?_ _|refine blk_drew ?_|refine blk_alloc ?_ _));refine blk_far ?_ NB149_161.out _;(with_reducible repeat (first|refine blk_drewN ?_ _|refine blk_drew ?_|refine blk_alloc ?_ _));exact BK149.out⟩,⟨by (with_reducible repeat (first|refine blk_drewN ?_ _|refine blk_drew ?_|refine blk_alloc ?_ _));refine blk_put (cs:=#[.int .i64 0,.int .i64 0,.string (⟨#[]⟩:ByteArray),.slice none 0 0]) ?_ 3 _ rfl;(with_reducible repeat (first|refine blk_drewN ?_ _|refine blk_drew ?_|refine blk_alloc ?_ _));refine blk_put (cs:=#[.int .i64 0,.int .i64 0,.string (⟨#[]⟩:ByteArray),.slice none 0 0]) ?_ 2 _ rfl;(with_reducible repeat (first|refine blk_drewN ?_ _|refine blk_drew ?_|refine blk_alloc ?_ _));refine blk_put (cs:=#[.int .i64 0,.int .i64 0,.string (⟨#[]⟩:ByteArray),.slice none 0 0]) ?_ 1 _ rfl;(with_reducible repeat (first|refine blk_drewN ?_ _|refine blk_drew ?_|refine blk_alloc ?_ _));refine blk_put (cs:=#[.int .i64 0,.int .i64 0,.string (⟨#[]⟩:ByteArray),.slice none 0 0]) ?_ 0 _ rfl;(with_reducible repeat (first|refine blk_drewN ?_ _|refine blk_drew ?_|refine blk_alloc ?_ _));exact BK161.out⟩,⟨by repeat (first|(with_reducible first|exact HB.out|apply below_alloc|apply pw_below_drewN|apply below_drew1|refine below_set ?_ GE149.out|refine below_set ?_ GE161.out)|exact HB.out)⟩⟩
          ·rw [if_neg c41] at H
           have c41b0:decide (48≤(bt a0 0))=false:=decide_eq_false c41
           clear c41
           (first|rw [c41b0]|(simp only [i64_w,i32_w];rw [c41b0])|skip)
           have H':=Aside0.mk H
           clear H
           go_wp2
           go_meet
           case rel=>exact ⟨_,(false),(by first|rfl|(simp;done)|(simp [*];done)),H',⟨by have:=HJ2.out;first|omega|exact Nat.le_refl _⟩,⟨by (with_reducible repeat (first|refine blk_drewN ?_ _|refine blk_drew ?_|refine blk_alloc ?_ _));refine blk_far ?_ NB149_161.out _;(with_reducible repeat (first|refine blk_drewN ?_ _|refine blk_drew ?_|refine blk_alloc ?_ _));refine blk_far ?_ NB149_161.out _;(with_reducible repeat (first|refine blk_drewN ?_ _|refine blk_drew ?_|refine blk_alloc ?_ _));refine blk_far ?_ NB149_161.out _;(with_reducible repeat (first|refine blk_drewN ?_ _|refine blk_drew ?_|refine blk_alloc ?_ _));refine blk_far ?_ NB149_161.out _;(with_reducible repeat (first|refine blk_drewN ?_ _|refine blk_drew ?_|refine blk_alloc ?_ _));exact BK149.out⟩,⟨by (with_reducible repeat (first|refine blk_drewN ?_ _|refine blk_drew ?_|refine blk_alloc ?_ _));refine blk_put (cs:=#[.int .i64 0,.int .i64 0,.string (⟨#[]⟩:ByteArray),.slice none 0 0]) ?_ 3 _ rfl;(with_reducible repeat (first|refine blk_drewN ?_ _|refine blk_drew ?_|refine blk_alloc ?_ _));refine blk_put (cs:=#[.int .i64 0,.int .i64 0,.string (⟨#[]⟩:ByteArray),.slice none 0 0]) ?_ 2 _ rfl;(with_reducible repeat (first|refine blk_drewN ?_ _|refine blk_drew ?_|refine blk_alloc ?_ _));refine blk_put (cs:=#[.int .i64 0,.int .i64 0,.string (⟨#[]⟩:ByteArray),.slice none 0 0]) ?_ 1 _ rfl;(with_reducible repeat (first|refine blk_drewN ?_ _|refine blk_drew ?_|refine blk_alloc ?_ _));refine blk_put (cs:=#[.int .i64 0,.int .i64 0,.string (⟨#[]⟩:ByteArray),.slice none 0 0]) ?_ 0 _ rfl;(with_reducible repeat (first|refine blk_drewN ?_ _|refine blk_drew ?_|refine blk_alloc ?_ _));exact BK161.out⟩,⟨by repeat (first|(with_reducible first|exact HB.out|apply below_alloc|apply pw_below_drewN|apply below_drew1|refine below_set ?_ GE149.out|refine below_set ?_ GE161.out)|exact HB.out)⟩⟩
         case rest =>
          clear HC40
          try clear c1 p1 q1 hx1 qi1 c2 p2 q2 hx2 qi2 c3 c4 c5 c5b0 c5b1 c6 c8 c8b0 c8b1 p9 q9 hx9 qi9 c11 c11b0 c12 c12b0 c13 c13b0 c15 c15b0 c15b1 p15 q15 hx15 qi15 p26 q26 hx26 qi26 c27 c27b0 c27b1 c31 c33 c33b0 c33b1 c37 c41 c41b0 c42 c42b0 hcz32_0 hcz32_1 hcz32_2 hcz32_3 hcz38_0 hcz38_1 hcz38_2 hcz38_3 hcz7_0 hcz7_1 hcz7_2 hcz7_3 hfz32_0 hfz32_1 hfz32_2 hfz32_3 hfz38_0 hfz38_1 hfz38_2 hfz38_3 hfz7_0 hfz7_1 hfz7_2 hfz7_3 hx154_0 p154 p2 p26 p9 q154 q26 q9
          obtain ⟨kq,x60_39,rfl,HA,HJ39,BK149,BK161,HB⟩:=hcut
          cases kq with
          | zero=>exact absurd HA.out (by simp [impl_parseDoc.j1])
          | succ kj39 =>
           have H:=HA.out
           clear HA
           simp only [impl_parseDoc.j1] at H
           by_cases c44:x60_39=true
           ·subst c44
            have H1:(if 1≤((a0.extract 1 a0.size).size:Int) then (impl_parseDoc.j2 kj39 ((a0.extract 1 a0.size).extract 1 (a0.extract 1 a0.size).size) a1 1 (⟨#[62]⟩:ByteArray) 6 (((bt a0 0) - 48) % 256) (⟨#[]⟩:ByteArray)) else (none))=some (r1,r2,r3,r4,r5,r6):=by rw [if_pos rfl] at H;exact H
            clear H
            have H:=H1
            clear H1
            by_cases c45:1≤((a0.extract 1 a0.size).size:Int)
            ·rw [if_pos c45] at H
             have c45b0:=eq_true c45
             have c45b1:decide (1≤((a0.extract 1 a0.size).size:Int))=true:=decide_eq_true c45
             try (have c45b4:=c45;(conv at c45b4=>(rhs;simp));have c45b5:=eq_false (Int.not_lt.2 c45b4))
             try (have c45b6:=c45;(conv at c45b6=>(rhs;simp [go_sem]));have c45b7:=eq_false (Int.not_lt.2 c45b6))
             clear c45
             have H':=Aside0.mk H
             clear H
             have hnb46:=NB161_149.out
             have hnc46:=NB149_161.out
             have hcz47_0:wc.cell? ⟨gb161,0,none⟩=some (.int .i64 0):=(blk_cell BK161.out 0).trans rfl
             have hcz47_1:wc.cell? ⟨gb161,1,none⟩=some (.int .i64 0):=(blk_cell BK161.out 1).trans rfl
             have hcz47_2:wc.cell? ⟨gb161,2,none⟩=some (.string (⟨#[]⟩:ByteArray)):=(blk_cell BK161.out 2).trans rfl
             have hcz47_3:wc.cell? ⟨gb161,3,none⟩=some (.slice none 0 0):=(blk_cell BK161.out 3).trans rfl
             have hfz47_0:=blk_frozen BK161.out 0
             have hfz47_1:=blk_frozen BK161.out 1
             have hfz47_2:=blk_frozen BK161.out 2
             have hfz47_3:=blk_frozen BK161.out 3
             go_wp2
             go_meet
             case rel=>exact ⟨_,((a0.extract 1 a0.size).extract 1 (a0.extract 1 a0.size).size),(1),((⟨#[62]⟩:ByteArray)),(0),(0),((⟨#[]⟩:ByteArray)),(6),(((bt a0 0) - 48) % 256),(by first|rfl|(simp;done)|(simp [*];done)),(by first|rfl|(simp;done)|(simp [*];done)),(by first|rfl|(simp;done)|(simp [*];done)),H',⟨by have:=HJ2.out;have:=HJ39.out;first|omega|exact Nat.le_refl _⟩,⟨by (with_reducible repeat (first|refine blk_drewN ?_ _|refine blk_drew ?_|refine blk_alloc ?_ _));refine blk_far ?_ NB149_161.out _;(with_reducible repeat (first|refine blk_drewN ?_ _|refine blk_drew ?_|refine blk_alloc ?_ _));refine blk_far ?_ NB149_161.out _;(with_reducible repeat (first|refine blk_drewN ?_ _|refine blk_drew ?_|refine blk_alloc ?_ _));exact BK149.out⟩,⟨by (with_reducible repeat (first|refine blk_drewN ?_ _|refine blk_drew ?_|refine blk_alloc ?_ _));refine blk_put (cs:=#[.int .i64 6,.int .i64 0,.string (⟨#[]⟩:ByteArray),.slice none 0 0]) ?_ 1 _ rfl;(with_reducible repeat (first|refine blk_drewN ?_ _|refine blk_drew ?_|refine blk_alloc ?_ _));refine blk_put (cs:=#[.int .i64 0,.int .i64 0,.string (⟨#[]⟩:ByteArray),.slice none 0 0]) ?_ 0 _ rfl;(with_reducible repeat (first|refine blk_drewN ?_ _|refine blk_drew ?_|refine blk_alloc ?_ _));exact BK161.out⟩,⟨by repeat (first|(with_reducible first|exact HB.out|apply below_alloc|apply pw_below_drewN|apply below_drew1|refine below_set ?_ GE149.out|refine below_set ?_ GE161.out)|exact HB.out)⟩⟩
            ·rw [if_neg c45] at H
             exact absurd H (by simp)
           ·replace c44:=Bool.eq_false_iff.mpr c44
            subst c44
            have H1:(if (bt a0 0)=40 then (impl_parseDoc.j2 kj39 (a0.extract 1 a0.size) a1 2 (⟨#[41]⟩:ByteArray) 7 0 (⟨#[]⟩:ByteArray)) else (if (bt a0 0)=91 then (impl_parseDoc.j2 kj39 (a0.extract 1 a0.size) a1 1 (⟨#[93]⟩:ByteArray) 8 0 (⟨#[]⟩:ByteArray)) else (some (0,0,(⟨#[]⟩:ByteArray),([]:List (SDoc)),(a0.extract 1 a0.size),false))))=some (r1,r2,r3,r4,r5,r6):=by rw [if_neg (show ¬ (false=true) by decide)] at H;exact H
            clear H
            have H:=H1
            clear H1
            by_cases c48:(bt a0 0)=40
            ·rw [if_pos c48] at H
             have c48b0:((bt a0 0) == 40)=true:=beq_iff_eq.mpr c48
             have c48b1:((bt a0 0) != 40)=false:=bne_eq_false_iff_eq.mpr c48
             clear c48
             have H':=Aside0.mk H
             clear H
             have hnb49:=NB161_149.out
             have hnc49:=NB149_161.out
             have hcz50_0:wc.cell? ⟨gb161,0,none⟩=some (.int .i64 0):=(blk_cell BK161.out 0).trans rfl
             have hcz50_1:wc.cell? ⟨gb161,1,none⟩=some (.int .i64 0):=(blk_cell BK161.out 1).trans rfl
             have hcz50_2:wc.cell? ⟨gb161,2,none⟩=some (.string (⟨#[]⟩:ByteArray)):=(blk_cell BK161.out 2).trans rfl
             have hcz50_3:wc.cell? ⟨gb161,3,none⟩=some (.slice none 0 0):=(blk_cell BK161.out 3).trans rfl
             have hfz50_0:=blk_frozen BK161.out 0
             have hfz50_1:=blk_frozen BK161.out 1
             have hfz50_2:=blk_frozen BK161.out 2
             have hfz50_3:=blk_frozen BK161.out 3
             go_wp2
             go_meet
             case rel=>exact ⟨_,((a0.extract 1 a0.size)),(2),((⟨#[41]⟩:ByteArray)),(0),(0),((⟨#[]⟩:ByteArray)),(7),(0),(by first|rfl|(simp;done)|(simp [*];done)),(by first|rfl|(simp;done)|(simp [*];done)),(by first|rfl|(simp;done)|(simp [*];done)),H',⟨by have:=HJ2.out;have:=HJ39.out;first|omega|exact Nat.le_refl _⟩,⟨by (with_reducible repeat (first|refine blk_drewN ?_ _|refine blk_drew ?_|refine blk_alloc ?_ _));refine blk_far ?_ NB149_161.out _;(with_reducible repeat (first|refine blk_drewN ?_ _|refine blk_drew ?_|refine blk_alloc ?_ _));exact BK149.out⟩,⟨by (with_reducible repeat (first|refine blk_drewN ?_ _|refine blk_drew ?_|refine blk_alloc ?_ _));refine blk_put (cs:=#[.int .i64 0,.int .i64 0,.string (⟨#[]⟩:ByteArray),.slice none 0 0]) ?_ 0 _ rfl;(with_reducible repeat (first|refine blk_drewN ?_ _|refine blk_drew ?_|refine blk_alloc ?_ _));exact BK161.out⟩,⟨by repeat (first|(with_reducible first|exact HB.out|apply below_alloc|apply pw_below_drewN|apply below_drew1|refine below_set ?_ GE149.out|refine below_set ?_ GE161.out)|exact HB.out)⟩⟩
            ·rw [if_neg c48] at H
             have c48b0:((bt a0 0) == 40)=false:=beq_eq_false_iff_ne.mpr c48
             have c48b1:((bt a0 0) != 40)=true:=bne_iff_ne.mpr c48
             by_cases c51:(bt a0 0)=91
             ·rw [if_pos c51] at H
              have c51b0:((bt a0 0) == 91)=true:=beq_iff_eq.mpr c51
              have c51b1:((bt a0 0) != 91)=false:=bne_eq_false_iff_eq.mpr c51
              clear c51
              have H':=Aside0.mk H
              clear H
              have hnb52:=NB161_149.out
              have hnc52:=NB149_161.out
              have hcz53_0:wc.cell? ⟨gb161,0,none⟩=some (.int .i64 0):=(blk_cell BK161.out 0).trans rfl
              have hcz53_1:wc.cell? ⟨gb161,1,none⟩=some (.int .i64 0):=(blk_cell BK161.out 1).trans rfl
              have hcz53_2:wc.cell? ⟨gb161,2,none⟩=some (.string (⟨#[]⟩:ByteArray)):=(blk_cell BK161.out 2).trans rfl
              have hcz53_3:wc.cell? ⟨gb161,3,none⟩=some (.slice none 0 0):=(blk_cell BK161.out 3).trans rfl
              have hfz53_0:=blk_frozen BK161.out 0
              have hfz53_1:=blk_frozen BK161.out 1
              have hfz53_2:=blk_frozen BK161.out 2
              have hfz53_3:=blk_frozen BK161.out 3
              go_wp2
              go_meet
              case rel=>exact ⟨_,((a0.extract 1 a0.size)),(1),((⟨#[93]⟩:ByteArray)),(0),(0),((⟨#[]⟩:ByteArray)),(8),(0),(by first|rfl|(simp;done)|(simp [*];done)),(by first|rfl|(simp;done)|(simp [*];done)),(by first|rfl|(simp;done)|(simp [*];done)),H',⟨by have:=HJ2.out;have:=HJ39.out;first|omega|exact Nat.le_refl _⟩,⟨by (with_reducible repeat (first|refine blk_drewN ?_ _|refine blk_drew ?_|refine blk_alloc ?_ _));refine blk_far ?_ NB149_161.out _;(with_reducible repeat (first|refine blk_drewN ?_ _|refine blk_drew ?_|refine blk_alloc ?_ _));exact BK149.out⟩,⟨by (with_reducible repeat (first|refine blk_drewN ?_ _|refine blk_drew ?_|refine blk_alloc ?_ _));refine blk_put (cs:=#[.int .i64 0,.int .i64 0,.string (⟨#[]⟩:ByteArray),.slice none 0 0]) ?_ 0 _ rfl;(with_reducible repeat (first|refine blk_drewN ?_ _|refine blk_drew ?_|refine blk_alloc ?_ _));exact BK161.out⟩,⟨by repeat (first|(with_reducible first|exact HB.out|apply below_alloc|apply pw_below_drewN|apply below_drew1|refine below_set ?_ GE149.out|refine below_set ?_ GE161.out)|exact HB.out)⟩⟩
             ·rw [if_neg c51] at H
              have c51b0:((bt a0 0) == 91)=false:=beq_eq_false_iff_ne.mpr c51
              have c51b1:((bt a0 0) != 91)=true:=bne_iff_ne.mpr c51
              simp only [Option.some.injEq,Prod.mk.injEq] at H
              obtain ⟨rfl,rfl,rfl,rfl,rfl,rfl⟩:=H
              have hnb54:=NB149_161.out
              have hnc54:=NB161_149.out
              have hcz55_0:wc.cell? ⟨gb149,0,none⟩=some (.int .i64 0):=(blk_cell BK149.out 0).trans rfl
              have hcz55_1:wc.cell? ⟨gb149,1,none⟩=some (.int .i64 0):=(blk_cell BK149.out 1).trans rfl
              have hcz55_2:wc.cell? ⟨gb149,2,none⟩=some (.string (⟨#[]⟩:ByteArray)):=(blk_cell BK149.out 2).trans rfl
              have hcz55_3:wc.cell? ⟨gb149,3,none⟩=some (.slice none 0 0):=(blk_cell BK149.out 3).trans rfl
              have hfz55_0:=blk_frozen BK149.out 0
              have hfz55_1:=blk_frozen BK149.out 1
              have hfz55_2:=blk_frozen BK149.out 2
              have hfz55_3:=blk_frozen BK149.out 3
              go_wp2
              refine bodyPost_ret (results_ctt rfl _ _ gb149 27 #[.int .i64 0,.int .i64 0,.string (⟨#[]⟩:ByteArray),.slice none 0 0] (0,0) _ rfl (by (with_reducible repeat (first|refine blk_drewN ?_ _|refine blk_drew ?_|refine blk_alloc ?_ _));refine blk_put (cs:=#[.int .i64 0,.int .i64 0,.string (⟨#[]⟩:ByteArray),.slice none 0 0]) ?_ 3 _ rfl;(with_reducible repeat (first|refine blk_drewN ?_ _|refine blk_drew ?_|refine blk_alloc ?_ _));refine blk_put (cs:=#[.int .i64 0,.int .i64 0,.string (⟨#[]⟩:ByteArray),.slice none 0 0]) ?_ 2 _ rfl;(with_reducible repeat (first|refine blk_drewN ?_ _|refine blk_drew ?_|refine blk_alloc ?_ _));refine blk_put (cs:=#[.int .i64 0,.int .i64 0,.string (⟨#[]⟩:ByteArray),.slice none 0 0]) ?_ 1 _ rfl;(with_reducible repeat (first|refine blk_drewN ?_ _|refine blk_drew ?_|refine blk_alloc ?_ _));refine blk_put (cs:=#[.int .i64 0,.int .i64 0,.string (⟨#[]⟩:ByteArray),.slice none 0 0]) ?_ 0 _ rfl;(with_reducible repeat (first|refine blk_drewN ?_ _|refine blk_drew ?_|refine blk_alloc ?_ _));exact BK149.out) Try.underlying27 rfl (by kernel_rfl)) rfl ?_
              exact ⟨_,by first|rfl|(simp [errW_none,errW_some] <;> rfl)|(simp [*,errW_none,errW_some] <;> rfl),by first|exact Kd.R_nil _ _ _ _ _|exact Kd.N_nil _ _ _ _ _|exact Kd.V_nil _ _ _ _ _|exact Kd.Q_nil _ _ _ _ _|exact Kd.S_nil _ _ _ _ _,by repeat (first|(with_reducible first|exact HB.out|apply below_alloc|apply pw_below_drewN|apply below_drew1|refine below_set ?_ GE149.out|refine below_set ?_ GE161.out)|exact HB.out)⟩
       case rest =>
        clear HC28
        try clear c1 p1 q1 hx1 qi1 c2 p2 q2 hx2 qi2 c3 c4 c5 c5b0 c5b1 c6 c8 c8b0 c8b1 p9 q9 hx9 qi9 c11 c11b0 c12 c12b0 c13 c13b0 c15 c15b0 c15b1 p15 q15 hx15 qi15 p26 q26 hx26 qi26 c27 c27b0 c27b1 c31 c33 c33b0 c33b1 c37 c41 c41b0 c42 c42b0 c44 c45 c45b0 c45b1 c46 c47 c48 c48b0 c48b1 c49 c51 c51b0 c51b1 c52 c54 hcz32_0 hcz32_1 hcz32_2 hcz32_3 hcz38_0 hcz38_1 hcz38_2 hcz38_3 hcz47_0 hcz47_1 hcz47_2 hcz47_3 hcz50_0 hcz50_1 hcz50_2 hcz50_3 hcz53_0 hcz53_1 hcz53_2 hcz53_3 hcz55_0 hcz55_1 hcz55_2 hcz55_3 hcz7_0 hcz7_1 hcz7_2 hcz7_3 hfz32_0 hfz32_1 hfz32_2 hfz32_3 hfz38_0 hfz38_1 hfz38_2 hfz38_3 hfz47_0 hfz47_1 hfz47_2 hfz47_3 hfz50_0 hfz50_1 hfz50_2 hfz50_3 hfz53_0 hfz53_1 hfz53_2 hfz53_3 hfz55_0 hfz55_1 hfz55_2 hfz55_3 hfz7_0 hfz7_1 hfz7_2 hfz7_3 hx154_0 p1 p15 p154 p2 p26 p9 q1 q15 q154 q2 q26 q9
        obtain ⟨kq,x0_27,x10_27,x11_27,x150000_27,x150001_27,x150002_27,x162000_27,x162001_27,rfl,rfl,rfl,HA,HJ27,BK149,BK161,HB⟩:=hcut
        cases kq with
        | zero=>exact absurd HA.out (by simp [impl_parseDoc.j2])
        | succ kj27 =>
         have H:=HA.out
         clear HA
         simp only [impl_parseDoc.j2] at H
         have H':=Aside0.mk H
         clear H
         go_wp2
         go_loopg [0,87] kj27 (fun kq v0 v87 w'=>∃ (x0_3:ByteArray) (x87_3:Int) (x150000_3:Int) (x150001_3:Int) (x150002_3:ByteArray) (x162003_3:List (SDoc)) (u162003:Value),v0=.string x0_3∧v87=.int .i64 x87_3∧Aside0 (impl_parseDoc.l0 kq x0_3 a1 x11_27 x10_27 x87_3 x162000_27 x162001_27 (⟨#[]⟩:ByteArray) x162003_3=some (r1,r2,r3,r4,r5,r6))∧Aside0 (kq≤kj27)∧Aside0 (Kd.R k27 27 w' w.heap.size (fun k_=>k_ ≠ gb149∧k_ ≠ gb161) u162003 x162003_3)∧Aside0 (w'.heap[gb149]?=some (.cells #[.int .i64 x150000_3,.int .i64 x150001_3,.string x150002_3,(.slice none 0 0)] 27 (0,0)))∧Aside0 (w'.heap[gb161]?=some (.cells #[.int .i64 x162000_27,.int .i64 x162001_27,.string (⟨#[]⟩:ByteArray),u162003] 27 (0,0)))∧Aside0 (Below w.heap.size w w'))
         case atStart=>exact ⟨(x0_27),(0),(x150000_27),(x150001_27),(x150002_27),(([]:List (SDoc))),(.slice none 0 0),(by first|rfl|(simp;done)|(simp [*];done)),(by first|rfl|(simp;done)|(simp [*];done)),H',⟨Nat.le_refl _⟩,⟨by first|exact Kd.R_nil _ _ _ _ _|exact Kd.N_nil _ _ _ _ _|exact Kd.V_nil _ _ _ _ _|exact Kd.Q_nil _ _ _ _ _|exact Kd.S_nil _ _ _ _ _⟩,⟨gK BK149⟩,⟨gK BK161⟩,⟨by repeat (first|(with_reducible first|exact HB.out|apply below_alloc|apply pw_below_drewN|apply below_drew1|refine below_set ?_ GE149.out|refine below_set ?_ GE161.out)|exact HB.out)⟩⟩
         case round =>
          clear H'
          try clear c1 p1 q1 hx1 qi1 c2 p2 q2 hx2 qi2 c3 c4 c5 c5b0 c5b1 c6 c8 c8b0 c8b1 p9 q9 hx9 qi9 c11 c11b0 c12 c12b0 c13 c13b0 c15 c15b0 c15b1 p15 q15 hx15 qi15 p26 q26 hx26 qi26 c27 c27b0 c27b1 c31 c33 c33b0 c33b1 c37 c41 c41b0 c42 c42b0 c44 c45 c45b0 c45b1 c46 c47 c48 c48b0 c48b1 c49 c51 c51b0 c51b1 c52 c54 hcz32_0 hcz32_1 hcz32_2 hcz32_3 hcz38_0 hcz38_1 hcz38_2 hcz38_3 hcz47_0 hcz47_1 hcz47_2 hcz47_3 hcz50_0 hcz50_1 hcz50_2 hcz50_3 hcz53_0 hcz53_1 hcz53_2 hcz53_3 hcz55_0 hcz55_1 hcz55_2 hcz55_3 hcz7_0 hcz7_1 hcz7_2 hcz7_3 hfz32_0 hfz32_1 hfz32_2 hfz32_3 hfz38_0 hfz38_1 hfz38_2 hfz38_3 hfz47_0 hfz47_1 hfz47_2 hfz47_3 hfz50_0 hfz50_1 hfz50_2 hfz50_3 hfz53_0 hfz53_1 hfz53_2 hfz53_3 hfz55_0 hfz55_1 hfz55_2 hfz55_3 hfz7_0 hfz7_1 hfz7_2 hfz7_3 hx154_0 p1 p15 p154 p2 p26 p9 q1 q15 q154 q2 q26 q9
          (try clear HO_162003);(try clear BK149);(try clear BK161);(try clear HB)
          obtain ⟨x0_3,x87_3,x150000_3,x150001_3,x150002_3,x162003_3,u162003,rfl,rfl,HA,HK3,HO_162003,BK149,BK161,HB⟩:=hrel
          cases gk with
          | zero=>exact absurd HA.out (by simp [impl_parseDoc.l0])
          | succ k3 =>
           have H:=HA.out
           clear HA
           simp only [impl_parseDoc.l0] at H
           by_cases c56:x87_3 < x10_27
           ·rw [if_pos c56] at H
            have c56b0:decide (x87_3 < x10_27)=true:=decide_eq_true c56
            clear c56
            replace H:=Option.bind_eq_some_iff.mp H
            obtain ⟨⟨t172,t173,t174,t175,t178,t179⟩,A570,H⟩:=H
            replace H:(if t179=true then (if x162003_3.length < 2513169434916 then (impl_parseDoc.l0 k3 t178 a1 x11_27 x10_27 (wrap64 (x87_3+1)) x162000_27 x162001_27 (⟨#[]⟩:ByteArray) (x162003_3++[(⟨t172,t173,t174,t175⟩:SDoc)])) else (none)) else (some (0,0,(⟨#[]⟩:ByteArray),([]:List (SDoc)),x0_3,false)))=some (r1,r2,r3,r4,r5,r6):=H
            have A57:=Aside0.mk A570
            clear A570
            by_cases c58:t179=true
            ·subst c58
             have H1:(if x162003_3.length < 2513169434916 then (impl_parseDoc.l0 k3 t178 a1 x11_27 x10_27 (wrap64 (x87_3+1)) x162000_27 x162001_27 (⟨#[]⟩:ByteArray) (x162003_3++[(⟨t172,t173,t174,t175⟩:SDoc)])) else (none))=some (r1,r2,r3,r4,r5,r6):=by rw [if_pos rfl] at H;exact H
             clear H
             have H:=H1
             clear H1
             by_cases c59:x162003_3.length < 2513169434916
             ·rw [if_pos c59] at H
              have LMc59:=Aside0.mk c59
              clear c59
              obtain ⟨y181,hy181⟩:∃ y_:List (SDoc),y_=(x162003_3++[(⟨t172,t173,t174,t175⟩:SDoc)]):=⟨_,rfl⟩
              replace H:(impl_parseDoc.l0 k3 t178 a1 x11_27 x10_27 (wrap64 (x87_3+1)) x162000_27 x162001_27 (⟨#[]⟩:ByteArray) y181)=some (r1,r2,r3,r4,r5,r6):=by first|(rw [hy181];with_reducible exact H)|(have H2_:=(Option.bind_some _ _).symm.trans H;rw [hy181];with_reducible exact H2_)|(have H2_:=(Option.bind_some _ _).symm.trans H;with_reducible exact H2_)|with_reducible exact H|(rw [hy181];exact H)|exact H
              have Ny181:=Aside0.mk hy181
              clear hy181
              have H':=Aside0.mk H
              clear H
              go_wp2_with (first|((with_reducible refine gate_callee (f:=48) rfl ?_);refine goesL_ (some 93) rfl rfl Try.func48 (by kernel_rfl) rfl #[.string x0_3,.int .i64 (wrap64 (a1 - 1))] rfl (by (try simp only [List.map_toArray,List.map_cons,List.map_nil]);first|done|rfl|(simp only [List.length_drop,List.length_take];rfl)) ?_;(with_reducible refine (ih k3 (by have:=HJ2.out;have:=HJ27.out;have:=HK3.out;omega) x0_3 (wrap64 (a1 - 1)) t172 t173 t174 t175 t178 true _ A57.out).mono ?_);rintro e w60 ⟨v176,rfl,ho0,hb⟩;refine ⟨_,rfl,?_⟩;have n0_:=Aside0.mk (Kd.R_elder' (gR HO_162003) (Kd.R_base ho0) hb);have n1_:=Aside0.mk (Kd.R_lower (Kd.R_newB (Kd.R_newB (Kd.R_new' ho0 (Kd.R_lt (gR HO_162003))) (g:=gb149) (o:=.cells #[.int .i64 x150000_3,.int .i64 x150001_3,.string x150002_3,.slice none 0 0] 27 (0,0)) (gK BK149)) (g:=gb161) (o:=.cells #[.int .i64 x162000_27,.int .i64 x162001_27,.string (⟨#[]⟩:ByteArray),u162003] 27 (0,0)) (gK BK161)) (below_size (by repeat (first|(with_reducible first|exact HB.out|apply below_alloc|apply pw_below_drewN|apply below_drew1|refine below_set ?_ GE149.out|refine below_set ?_ GE161.out)|exact HB.out))));have n2_:=Aside0.mk (blk_below (g:=gb149) (o:=.cells #[.int .i64 x150000_3,.int .i64 x150001_3,.string x150002_3,.slice none 0 0] 27 (0,0)) (gK BK149) hb);have n3_:=Aside0.mk (blk_below (g:=gb161) (o:=.cells #[.int .i64 x162000_27,.int .i64 x162001_27,.string (⟨#[]⟩:ByteArray),u162003] 27 (0,0)) (gK BK161) hb);have n4_:=Aside0.mk (below_step (by repeat (first|(with_reducible first|exact HB.out|apply below_alloc|apply pw_below_drewN|apply below_drew1|refine below_set ?_ GE149.out|refine below_set ?_ GE161.out)|exact HB.out)) hb);clear HO_162003;clear BK149;clear BK161;clear HB;have HO_162003:=n0_;have HO177:=n1_;have BK149:=n2_;have BK161:=n3_;have HB:=n4_;clear n0_ n1_ n2_ n3_ n4_;(try clear hb);(try clear hb2);(try clear hk);(try clear hi);(try clear ho0))|((with_reducible refine gate_dst (N:=15) rfl ?_);refine box_event ?hg (N:=15) ?hd (cs:=#[.int .i64 0,.int .i64 0,.string (⟨#[]⟩:ByteArray),.slice none 0 0]) (t:=27) ?hr ?_;(case hd=>rfl);(case hg=>rfl);(case hr=>first|(go_simp;done)|(go_simp;rfl));intro gb180 hg w61 hbox hb;have n0_:=Aside0.mk (Kd.R_below (Kd.R_elderB (gR HO_162003) gb180 (Nat.le_of_eq hg.symm)) hb);have n1_:=Aside0.mk (Kd.R_below (Kd.R_elderB (gR HO177) gb180 (Nat.le_of_eq hg.symm)) hb);have n2_:=Aside0.mk (blk_below (g:=gb149) (o:=.cells #[.int .i64 x150000_3,.int .i64 x150001_3,.string x150002_3,.slice none 0 0] 27 (0,0)) (gK BK149) hb);have n3_:=Aside0.mk (blk_below (g:=gb161) (o:=.cells #[.int .i64 x162000_27,.int .i64 x162001_27,.string (⟨#[]⟩:ByteArray),u162003] 27 (0,0)) (gK BK161) hb);have n4_:=Aside0.mk (below_step (by repeat (first|(with_reducible first|exact HB.out|apply below_alloc|apply pw_below_drewN|apply below_drew1|refine below_set ?_ GE149.out|refine below_set ?_ GE161.out)|exact HB.out)) hb);have n5_:=Aside0.mk (hbox);have n6_:=Aside0.mk ((by rw [hg];exact (below_size (by repeat (first|(with_reducible first|exact HB.out|apply below_alloc|apply pw_below_drewN|apply below_drew1|refine below_set ?_ GE149.out|refine below_set ?_ GE161.out)|exact HB.out))):w.heap.size≤gb180));have n7_:=Aside0.mk ((by rw [hg];exact (below_size (by repeat (first|(with_reducible first|exact HB.out|apply below_alloc|apply pw_below_drewN|apply below_drew1|refine below_set ?_ GE149.out|refine below_set ?_ GE161.out)|exact HB.out))):w.heap.size≤gb180));have n8_:=Aside0.mk ((by rw [hg];exact Nat.ne_of_lt (blk_lt (g:=gb149) (o:=.cells #[.int .i64 x150000_3,.int .i64 x150001_3,.string x150002_3,.slice none 0 0] 27 (0,0)) (gK BK149)):gb149 ≠ gb180));have n9_:=Aside0.mk ((by rw [hg];exact Nat.ne_of_gt (blk_lt (g:=gb149) (o:=.cells #[.int .i64 x150000_3,.int .i64 x150001_3,.string x150002_3,.slice none 0 0] 27 (0,0)) (gK BK149)):gb180 ≠ gb149));have n10_:=Aside0.mk ((by rw [hg];exact Nat.ne_of_lt (blk_lt (g:=gb161) (o:=.cells #[.int .i64 x162000_27,.int .i64 x162001_27,.string (⟨#[]⟩:ByteArray),u162003] 27 (0,0)) (gK BK161)):gb161 ≠ gb180));have n11_:=Aside0.mk ((by rw [hg];exact Nat.ne_of_gt (blk_lt (g:=gb161) (o:=.cells #[.int .i64 x162000_27,.int .i64 x162001_27,.string (⟨#[]⟩:ByteArray),u162003] 27 (0,0)) (gK BK161)):gb180 ≠ gb161));clear HO_162003;clear HO177;clear BK149;clear BK161;clear HB;have HO_162003:=n0_;have HO177:=n1_;have BK149:=n2_;have BK161:=n3_;have HB:=n4_;have BK180:=n5_;have GW180:=n6_;have GE180:=n7_;have NB149_180:=n8_;have NB180_149:=n9_;have NB161_180:=n10_;have NB180_161:=n11_;clear n0_ n1_ n2_ n3_ n4_ n5_ n6_ n7_ n8_ n9_ n10_ n11_;clear hb hbox hg;have hnb62:=NB180_149.out;have hnc62:=NB149_180.out;have hnb63:=NB180_161.out;have hnc63:=NB161_180.out;have hcz64_0:w61.cell? ⟨gb180,0,none⟩=some (.int .i64 0):=(blk_cell BK180.out 0).trans rfl;have hcz64_1:w61.cell? ⟨gb180,1,none⟩=some (.int .i64 0):=(blk_cell BK180.out 1).trans rfl;have hcz64_2:w61.cell? ⟨gb180,2,none⟩=some (.string (⟨#[]⟩:ByteArray)):=(blk_cell BK180.out 2).trans rfl;have hcz64_3:w61.cell? ⟨gb180,3,none⟩=some (.slice none 0 0):=(blk_cell BK180.out 3).trans rfl;have hfz64_0:=blk_frozen BK180.out 0;have hfz64_1:=blk_frozen BK180.out 1;have hfz64_2:=blk_frozen BK180.out 2;have hfz64_3:=blk_frozen BK180.out 3;obtain ⟨Ao65,co65,eo65⟩:=Kd.R_slice HO177.out;subst eo65)|((with_reducible refine gate_store (t:=27) (p:=15) rfl ?_);refine store_event (t:=27) (p:=15) (v:=?vo_w66) (w1:=((((w61.setCell ⟨gb180,0,none⟩ (.int .i64 t172)).setCell ⟨gb180,1,none⟩ (.int .i64 t173)).setCell ⟨gb180,2,none⟩ (.string t174)).setCell ⟨gb180,3,none⟩ (.slice Ao65 t175.length co65))) ?hg ?ho ?hn ?hr ?_;(case ho=>rfl);(case hg=>rfl);(case hn=>rfl);(case hr=>first|(go_simp;done)|(go_simp;rfl));intro w66 hw;have n0_:Aside0 (Kd.R k27 27 w66 w.heap.size (fun k_=>some k_ ≠ (.slice Ao65 t175.length co65:Value).ownBlock∧k_ ≠ gb149∧k_ ≠ gb161∧k_ ≠ gb180) u162003 x162003_3):=⟨(by rw [hw];exact (by (with_reducible repeat (first|apply Kd.R_alloc|apply Kd.R_drewN|apply Kd.R_drew));exact Kd.R_mono (Kd.R_far (p:=⟨gb180,3,none⟩) (Kd.R_far (p:=⟨gb180,2,none⟩) (Kd.R_far (p:=⟨gb180,1,none⟩) (Kd.R_far (p:=⟨gb180,0,none⟩) (Kd.R_mono HO_162003.out (fun k_ hk=>(⟨hk,hk.2⟩:_∧k_ ≠ gb180))) (fun _ hk=>hk.2) (.int .i64 t172)) (fun _ hk=>hk.2) (.int .i64 t173)) (fun _ hk=>hk.2) (.string t174)) (fun _ hk=>hk.2) (.slice Ao65 t175.length co65)) (fun _ hk=>⟨hk.1.1.2,⟨hk.1.1.1.1,⟨hk.1.1.1.2,hk.1.2⟩⟩⟩)))⟩;have n1_:Aside0 (Kd.R k27 27 w66 w.heap.size (fun k_=>some k_ ≠ (u162003:Value).ownBlock∧k_ ≠ gb149∧k_ ≠ gb161∧k_ ≠ gb180) (.slice Ao65 t175.length co65) t175):=⟨(by rw [hw];exact (by (with_reducible repeat (first|apply Kd.R_alloc|apply Kd.R_drewN|apply Kd.R_drew));exact Kd.R_mono (Kd.R_far (p:=⟨gb180,3,none⟩) (Kd.R_far (p:=⟨gb180,2,none⟩) (Kd.R_far (p:=⟨gb180,1,none⟩) (Kd.R_far (p:=⟨gb180,0,none⟩) (Kd.R_mono HO177.out (fun k_ hk=>(⟨hk,hk.2⟩:_∧k_ ≠ gb180))) (fun _ hk=>hk.2) (.int .i64 t172)) (fun _ hk=>hk.2) (.int .i64 t173)) (fun _ hk=>hk.2) (.string t174)) (fun _ hk=>hk.2) (.slice Ao65 t175.length co65)) (fun _ hk=>⟨hk.1.1.1.1.2,⟨hk.1.1.1.2,⟨hk.1.1.2,hk.1.2⟩⟩⟩)))⟩;have n2_:Aside0 (w66.heap[gb149]?=some (.cells #[.int .i64 x150000_3,.int .i64 x150001_3,.string x150002_3,.slice none 0 0] 27 (0,0))):=⟨(by rw [hw];exact (by (with_reducible repeat (first|refine blk_drewN ?_ _|refine blk_drew ?_|refine blk_alloc ?_ _));refine blk_far ?_ NB149_180.out _;(with_reducible repeat (first|refine blk_drewN ?_ _|refine blk_drew ?_|refine blk_alloc ?_ _));refine blk_far ?_ NB149_180.out _;(with_reducible repeat (first|refine blk_drewN ?_ _|refine blk_drew ?_|refine blk_alloc ?_ _));refine blk_far ?_ NB149_180.out _;(with_reducible repeat (first|refine blk_drewN ?_ _|refine blk_drew ?_|refine blk_alloc ?_ _));refine blk_far ?_ NB149_180.out _;(with_reducible repeat (first|refine blk_drewN ?_ _|refine blk_drew ?_|refine blk_alloc ?_ _));exact BK149.out))⟩;have n3_:Aside0 (w66.heap[gb161]?=some (.cells #[.int .i64 x162000_27,.int .i64 x162001_27,.string (⟨#[]⟩:ByteArray),u162003] 27 (0,0))):=⟨(by rw [hw];exact (by (with_reducible repeat (first|refine blk_drewN ?_ _|refine blk_drew ?_|refine blk_alloc ?_ _));refine blk_far ?_ NB161_180.out _;(with_reducible repeat (first|refine blk_drewN ?_ _|refine blk_drew ?_|refine blk_alloc ?_ _));refine blk_far ?_ NB161_180.out _;(with_reducible repeat (first|refine blk_drewN ?_ _|refine blk_drew ?_|refine blk_alloc ?_ _));refine blk_far ?_ NB161_180.out _;(with_reducible repeat (first|refine blk_drewN ?_ _|refine blk_drew ?_|refine blk_alloc ?_ _));refine blk_far ?_ NB161_180.out _;(with_reducible repeat (first|refine blk_drewN ?_ _|refine blk_drew ?_|refine blk_alloc ?_ _));exact BK161.out))⟩;have n4_:Aside0 (w66.heap[gb180]?=some (.cells #[.int .i64 t172,.int .i64 t173,.string t174,.slice Ao65 t175.length co65] 27 (0,0))):=⟨(by rw [hw];exact (by (with_reducible repeat (first|refine blk_drewN ?_ _|refine blk_drew ?_|refine blk_alloc ?_ _));refine blk_put (cs:=#[.int .i64 t172,.int .i64 t173,.string t174,.slice none 0 0]) ?_ 3 _ rfl;(with_reducible repeat (first|refine blk_drewN ?_ _|refine blk_drew ?_|refine blk_alloc ?_ _));refine blk_put (cs:=#[.int .i64 t172,.int .i64 t173,.string (⟨#[]⟩:ByteArray),.slice none 0 0]) ?_ 2 _ rfl;(with_reducible repeat (first|refine blk_drewN ?_ _|refine blk_drew ?_|refine blk_alloc ?_ _));refine blk_put (cs:=#[.int .i64 t172,.int .i64 0,.string (⟨#[]⟩:ByteArray),.slice none 0 0]) ?_ 1 _ rfl;(with_reducible repeat (first|refine blk_drewN ?_ _|refine blk_drew ?_|refine blk_alloc ?_ _));refine blk_put (cs:=#[.int .i64 0,.int .i64 0,.string (⟨#[]⟩:ByteArray),.slice none 0 0]) ?_ 0 _ rfl;(with_reducible repeat (first|refine blk_drewN ?_ _|refine blk_drew ?_|refine blk_alloc ?_ _));exact BK180.out))⟩;have n5_:Aside0 (Below w.heap.size w w66):=⟨(by rw [hw];exact (by repeat (first|(with_reducible first|exact HB.out|apply below_alloc|apply pw_below_drewN|apply below_drew1|refine below_set ?_ GE149.out|refine below_set ?_ GE161.out|refine below_set ?_ GE180.out)|exact HB.out)))⟩;clear hw;clear HO_162003;clear HO177;clear BK149;clear BK161;clear BK180;clear HB;have HO_162003:=n0_;have HO177:=n1_;have BK149:=n2_;have BK161:=n3_;have BK180:=n4_;have HB:=n5_;clear n0_ n1_ n2_ n3_ n4_ n5_;have hnb67:=NB161_149.out;have hnc67:=NB149_161.out;have hcz68_0:w66.cell? ⟨gb161,0,none⟩=some (.int .i64 x162000_27):=(blk_cell BK161.out 0).trans rfl;have hcz68_1:w66.cell? ⟨gb161,1,none⟩=some (.int .i64 x162001_27):=(blk_cell BK161.out 1).trans rfl;have hcz68_2:w66.cell? ⟨gb161,2,none⟩=some (.string (⟨#[]⟩:ByteArray)):=(blk_cell BK161.out 2).trans rfl;have hcz68_3:w66.cell? ⟨gb161,3,none⟩=some (u162003):=(blk_cell BK161.out 3).trans rfl;have hfz68_0:=blk_frozen BK161.out 0;have hfz68_1:=blk_frozen BK161.out 1;have hfz68_2:=blk_frozen BK161.out 2;have hfz68_3:=blk_frozen BK161.out 3;have hcz69_0:w66.cell? ⟨gb180,0,none⟩=some (.int .i64 t172):=(blk_cell BK180.out 0).trans rfl;have hcz69_1:w66.cell? ⟨gb180,1,none⟩=some (.int .i64 t173):=(blk_cell BK180.out 1).trans rfl;have hcz69_2:w66.cell? ⟨gb180,2,none⟩=some (.string t174):=(blk_cell BK180.out 2).trans rfl;have hcz69_3:w66.cell? ⟨gb180,3,none⟩=some (.slice Ao65 t175.length co65):=(blk_cell BK180.out 3).trans rfl;have hfz69_0:=blk_frozen BK180.out 0;have hfz69_1:=blk_frozen BK180.out 1;have hfz69_2:=blk_frozen BK180.out 2;have hfz69_3:=blk_frozen BK180.out 3)|((with_reducible refine gate_builtin (b:=.append) (xs:=#[.tmp 102,.tmp 104]) rfl ?_);at_builtin;refine Kd.R_append k27 (w0:=w) w.heap.size rfl (.tmp 102) (.tmp 104) 25 27 (.agg #[(.int .i64 0),(.int .i64 0),(.string ⟨#[]⟩),(.slice none 0 0)]) 56 rfl Try.underlying25 info27 rfl (by decide) (by omega) u162003 x162003_3 (⟨t172,t173,t174,t175⟩:SDoc) [.int .i64 t172,.int .i64 t173,.string t174,.slice Ao65 t175.length co65] (fun k_=>k_ ≠ gb149∧k_ ≠ gb161∧k_ ≠ gb180) (fun k_=>((fun k_=>k_ ≠ gb149∧k_ ≠ gb161∧k_ ≠ gb180)) k_∧some k_ ≠ (u162003:Value).ownBlock) rfl rfl ?aP (fun _ hk=>hk) ?aF ?aO ?aB ?aS ?aL ?_;(case aP=>exact k27_mkM _ _ _ (⟨t172,t173,t174,t175⟩:SDoc) (Kd.R_mono (HO177.out) (fun k_ hk=>⟨⟨hk.2.1,⟨hk.2.2.1,hk.2.2.2⟩⟩,hk.1⟩)));(case aB=>exact (by repeat (first|(with_reducible first|exact HB.out|apply below_alloc|apply pw_below_drewN|apply below_drew1|refine below_set ?_ GE149.out|refine below_set ?_ GE161.out|refine below_set ?_ GE180.out)|exact HB.out)));(case aF=>exact (fun k_ hk=>⟨Kd.freshB (g:=gb149) (o:=.cells #[.int .i64 x150000_3,.int .i64 x150001_3,.string x150002_3,.slice none 0 0] 27 (0,0)) (gK BK149) k_ hk,Kd.freshB (g:=gb161) (o:=.cells #[.int .i64 x162000_27,.int .i64 x162001_27,.string (⟨#[]⟩:ByteArray),u162003] 27 (0,0)) (gK BK161) k_ hk,Kd.freshB (g:=gb180) (o:=.cells #[.int .i64 t172,.int .i64 t173,.string t174,.slice Ao65 t175.length co65] 27 (0,0)) (gK BK180) k_ hk⟩));(case aO=>exact (by (with_reducible repeat (first|apply Kd.R_alloc|apply Kd.R_drewN|apply Kd.R_drew));exact Kd.R_mono HO_162003.out (fun _ hk=>⟨hk.2.1,⟨hk.2.2.1,hk.2.2.2⟩⟩)));(case aS=>exact (below_size (by repeat (first|(with_reducible first|exact HB.out|apply below_alloc|apply pw_below_drewN|apply below_drew1|refine below_set ?_ GE149.out|refine below_set ?_ GE161.out|refine below_set ?_ GE180.out)|exact HB.out))));(case aL=>have:=LMc59.out;omega);intro v182 w70 ho hb hg hat;rw [← Ny181.out] at ho;have n0_:=Aside0.mk (blk_grown (g:=gb149) (o:=.cells #[.int .i64 x150000_3,.int .i64 x150001_3,.string x150002_3,.slice none 0 0] 27 (0,0)) (gK BK149) hg (Kd.R_away HO_162003.out (fun _ hk=>hk.2.1)));have n1_:=Aside0.mk (blk_grown (g:=gb161) (o:=.cells #[.int .i64 x162000_27,.int .i64 x162001_27,.string (⟨#[]⟩:ByteArray),u162003] 27 (0,0)) (gK BK161) hg (Kd.R_away HO_162003.out (fun _ hk=>hk.2.2.1)));have n2_:=Aside0.mk (blk_grown (g:=gb180) (o:=.cells #[.int .i64 t172,.int .i64 t173,.string t174,.slice Ao65 t175.length co65] 27 (0,0)) (gK BK180) hg (Kd.R_away HO_162003.out (fun _ hk=>hk.2.2.2)));have n3_:=Aside0.mk (hb);have n4_:=Aside0.mk (ho);clear BK149;clear BK161;clear BK180;clear HB;clear HO_162003;clear HO177;have BK149:=n0_;have BK161:=n1_;have BK180:=n2_;have HB:=n3_;have HO183:=n4_;clear n0_ n1_ n2_ n3_ n4_;clear ho hb hg hat;obtain ⟨Ao71,co71,eo71⟩:=Kd.R_slice HO183.out;subst eo71;have hcz72_0:w70.cell? ⟨gb161,0,none⟩=some (.int .i64 x162000_27):=(blk_cell BK161.out 0).trans rfl;have hcz72_1:w70.cell? ⟨gb161,1,none⟩=some (.int .i64 x162001_27):=(blk_cell BK161.out 1).trans rfl;have hcz72_2:w70.cell? ⟨gb161,2,none⟩=some (.string (⟨#[]⟩:ByteArray)):=(blk_cell BK161.out 2).trans rfl;have hcz72_3:w70.cell? ⟨gb161,3,none⟩=some (u162003):=(blk_cell BK161.out 3).trans rfl;have hfz72_0:=blk_frozen BK161.out 0;have hfz72_1:=blk_frozen BK161.out 1;have hfz72_2:=blk_frozen BK161.out 2;have hfz72_3:=blk_frozen BK161.out 3))
              go_roundg k3
              case measure=>have:=HJ2.out;have:=HJ27.out;have:=HK3.out;omega
              case rel=>exact ⟨(t178),(wrap64 (x87_3+1)),(x150000_3),(x150001_3),(x150002_3),(y181),(.slice Ao71 y181.length co71),(by first|rfl|(simp;done)|(simp [*];done)),(by first|rfl|(simp;done)|(simp [*];done)),H',⟨by have:=HJ2.out;have:=HJ27.out;have:=HK3.out;omega⟩,⟨by (with_reducible repeat (first|apply Kd.R_alloc|apply Kd.R_drewN|apply Kd.R_drew));exact Kd.R_mono (Kd.R_far (p:=⟨gb161,3,none⟩) (Kd.R_mono HO183.out (fun k_ hk=>(⟨hk,hk.2.1⟩:_∧k_ ≠ gb161))) (fun _ hk=>hk.2) (.slice Ao71 y181.length co71)) (fun _ hk=>⟨hk.1.1,hk.1.2.1⟩)⟩,⟨by (with_reducible repeat (first|refine blk_drewN ?_ _|refine blk_drew ?_|refine blk_alloc ?_ _));refine blk_far ?_ NB149_161.out _;(with_reducible repeat (first|refine blk_drewN ?_ _|refine blk_drew ?_|refine blk_alloc ?_ _));exact BK149.out⟩,⟨by (with_reducible repeat (first|refine blk_drewN ?_ _|refine blk_drew ?_|refine blk_alloc ?_ _));refine blk_put (cs:=#[.int .i64 x162000_27,.int .i64 x162001_27,.string (⟨#[]⟩:ByteArray),u162003]) ?_ 3 _ rfl;(with_reducible repeat (first|refine blk_drewN ?_ _|refine blk_drew ?_|refine blk_alloc ?_ _));exact BK161.out⟩,⟨by repeat (first|(with_reducible first|exact HB.out|apply below_alloc|apply pw_below_drewN|apply below_drew1|refine below_set ?_ GE149.out|refine below_set ?_ GE161.out|refine below_set ?_ GE180.out)|exact HB.out)⟩⟩
             ·rw [if_neg c59] at H
              exact absurd H (by simp)
            ·replace c58:=Bool.eq_false_iff.mpr c58
             subst c58
             have H1:(some (0,0,(⟨#[]⟩:ByteArray),([]:List (SDoc)),x0_3,false))=some (r1,r2,r3,r4,r5,r6):=by rw [if_neg (show ¬ (false=true) by decide)] at H;exact H
             clear H
             have H:=H1
             clear H1
             simp only [Option.some.injEq,Prod.mk.injEq] at H
             obtain ⟨rfl,rfl,rfl,rfl,rfl,rfl⟩:=H
             go_wp2_with (first|((with_reducible refine gate_callee (f:=48) rfl ?_);refine goesL_ (some 93) rfl rfl Try.func48 (by kernel_rfl) rfl #[.string x0_3,.int .i64 (wrap64 (a1 - 1))] rfl (by (try simp only [List.map_toArray,List.map_cons,List.map_nil]);first|done|rfl|(simp only [List.length_drop,List.length_take];rfl)) ?_;(with_reducible refine (ih k3 (by have:=HJ2.out;have:=HJ27.out;have:=HK3.out;omega) x0_3 (wrap64 (a1 - 1)) t172 t173 t174 t175 t178 false _ A57.out).mono ?_);rintro e w73 ⟨v176,rfl,ho0,hb⟩;refine ⟨_,rfl,?_⟩;have n0_:=Aside0.mk (Kd.R_elder' (gR HO_162003) (Kd.R_base ho0) hb);have n1_:=Aside0.mk (Kd.R_lower (Kd.R_newB (Kd.R_newB (Kd.R_new' ho0 (Kd.R_lt (gR HO_162003))) (g:=gb149) (o:=.cells #[.int .i64 x150000_3,.int .i64 x150001_3,.string x150002_3,.slice none 0 0] 27 (0,0)) (gK BK149)) (g:=gb161) (o:=.cells #[.int .i64 x162000_27,.int .i64 x162001_27,.string (⟨#[]⟩:ByteArray),u162003] 27 (0,0)) (gK BK161)) (below_size (by repeat (first|(with_reducible first|exact HB.out|apply below_alloc|apply pw_below_drewN|apply below_drew1|refine below_set ?_ GE149.out|refine below_set ?_ GE161.out)|exact HB.out))));have n2_:=Aside0.mk (blk_below (g:=gb149) (o:=.cells #[.int .i64 x150000_3,.int .i64 x150001_3,.string x150002_3,.slice none 0 0] 27 (0,0)) (gK BK149) hb);have n3_:=Aside0.mk (blk_below (g:=gb161) (o:=.cells #[.int .i64 x162000_27,.int .i64 x162001_27,.string (⟨#[]⟩:ByteArray),u162003] 27 (0,0)) (gK BK161) hb);have n4_:=Aside0.mk (below_step (by repeat (first|(with_reducible first|exact HB.out|apply below_alloc|apply pw_below_drewN|apply below_drew1|refine below_set ?_ GE149.out|refine below_set ?_ GE161.out)|exact HB.out)) hb);clear HO_162003;clear BK149;clear BK161;clear HB;have HO_162003:=n0_;have HO177:=n1_;have BK149:=n2_;have BK161:=n3_;have HB:=n4_;clear n0_ n1_ n2_ n3_ n4_;(try clear hb);(try clear hb2);(try clear hk);(try clear hi);(try clear ho0))|((with_reducible refine gate_dst (N:=15) rfl ?_);refine box_event ?hg (N:=15) ?hd (cs:=#[.int .i64 0,.int .i64 0,.string (⟨#[]⟩:ByteArray),.slice none 0 0]) (t:=27) ?hr ?_;(case hd=>rfl);(case hg=>rfl);(case hr=>first|(go_simp;done)|(go_simp;rfl));intro gb180 hg w74 hbox hb;have n0_:=Aside0.mk (Kd.R_below (Kd.R_elderB (gR HO_162003) gb180 (Nat.le_of_eq hg.symm)) hb);have n1_:=Aside0.mk (Kd.R_below (Kd.R_elderB (gR HO177) gb180 (Nat.le_of_eq hg.symm)) hb);have n2_:=Aside0.mk (blk_below (g:=gb149) (o:=.cells #[.int .i64 x150000_3,.int .i64 x150001_3,.string x150002_3,.slice none 0 0] 27 (0,0)) (gK BK149) hb);have n3_:=Aside0.mk (blk_below (g:=gb161) (o:=.cells #[.int .i64 x162000_27,.int .i64 x162001_27,.string (⟨#[]⟩:ByteArray),u162003] 27 (0,0)) (gK BK161) hb);have n4_:=Aside0.mk (below_step (by repeat (first|(with_reducible first|exact HB.out|apply below_alloc|apply pw_below_drewN|apply below_drew1|refine below_set ?_ GE149.out|refine below_set ?_ GE161.out)|exact HB.out)) hb);have n5_:=Aside0.mk (hbox);have n6_:=Aside0.mk ((by rw [hg];exact (below_size (by repeat (first|(with_reducible first|exact HB.out|apply below_alloc|apply pw_below_drewN|apply below_drew1|refine below_set ?_ GE149.out|refine below_set ?_ GE161.out)|exact HB.out))):w.heap.size≤gb180));have n7_:=Aside0.mk ((by rw [hg];exact (below_size (by repeat (first|(with_reducible first|exact HB.out|apply below_alloc|apply pw_below_drewN|apply below_drew1|refine below_set ?_ GE149.out|refine below_set ?_ GE161.out)|exact HB.out))):w.heap.size≤gb180));have n8_:=Aside0.mk ((by rw [hg];exact Nat.ne_of_lt (blk_lt (g:=gb149) (o:=.cells #[.int .i64 x150000_3,.int .i64 x150001_3,.string x150002_3,.slice none 0 0] 27 (0,0)) (gK BK149)):gb149 ≠ gb180));have n9_:=Aside0.mk ((by rw [hg];exact Nat.ne_of_gt (blk_lt (g:=gb149) (o:=.cells #[.int .i64 x150000_3,.int .i64 x150001_3,.string x150002_3,.slice none 0 0] 27 (0,0)) (gK BK149)):gb180 ≠ gb149));have n10_:=Aside0.mk ((by rw [hg];exact Nat.ne_of_lt (blk_lt (g:=gb161) (o:=.cells #[.int .i64 x162000_27,.int .i64 x162001_27,.string (⟨#[]⟩:ByteArray),u162003] 27 (0,0)) (gK BK161)):gb161 ≠ gb180));have n11_:=Aside0.mk ((by rw [hg];exact Nat.ne_of_gt (blk_lt (g:=gb161) (o:=.cells #[.int .i64 x162000_27,.int .i64 x162001_27,.string (⟨#[]⟩:ByteArray),u162003] 27 (0,0)) (gK BK161)):gb180 ≠ gb161));clear HO_162003;clear HO177;clear BK149;clear BK161;clear HB;have HO_162003:=n0_;have HO177:=n1_;have BK149:=n2_;have BK161:=n3_;have HB:=n4_;have BK180:=n5_;have GW180:=n6_;have GE180:=n7_;have NB149_180:=n8_;have NB180_149:=n9_;have NB161_180:=n10_;have NB180_161:=n11_;clear n0_ n1_ n2_ n3_ n4_ n5_ n6_ n7_ n8_ n9_ n10_ n11_;clear hb hbox hg;have hnb75:=NB180_149.out;have hnc75:=NB149_180.out;have hnb76:=NB180_161.out;have hnc76:=NB161_180.out;have hcz77_0:w74.cell? ⟨gb180,0,none⟩=some (.int .i64 0):=(blk_cell BK180.out 0).trans rfl;have hcz77_1:w74.cell? ⟨gb180,1,none⟩=some (.int .i64 0):=(blk_cell BK180.out 1).trans rfl;have hcz77_2:w74.cell? ⟨gb180,2,none⟩=some (.string (⟨#[]⟩:ByteArray)):=(blk_cell BK180.out 2).trans rfl;have hcz77_3:w74.cell? ⟨gb180,3,none⟩=some (.slice none 0 0):=(blk_cell BK180.out 3).trans rfl;have hfz77_0:=blk_frozen BK180.out 0;have hfz77_1:=blk_frozen BK180.out 1;have hfz77_2:=blk_frozen BK180.out 2;have hfz77_3:=blk_frozen BK180.out 3;obtain ⟨Ao78,co78,eo78⟩:=Kd.R_slice HO177.out;subst eo78;have hnb79:=NB149_161.out;have hnc79:=NB161_149.out;have hcz80_0:w74.cell? ⟨gb149,0,none⟩=some (.int .i64 x150000_3):=(blk_cell BK149.out 0).trans rfl;have hcz80_1:w74.cell? ⟨gb149,1,none⟩=some (.int .i64 x150001_3):=(blk_cell BK149.out 1).trans rfl;have hcz80_2:w74.cell? ⟨gb149,2,none⟩=some (.string x150002_3):=(blk_cell BK149.out 2).trans rfl;have hcz80_3:w74.cell? ⟨gb149,3,none⟩=some (.slice none 0 0):=(blk_cell BK149.out 3).trans rfl;have hfz80_0:=blk_frozen BK149.out 0;have hfz80_1:=blk_frozen BK149.out 1;have hfz80_2:=blk_frozen BK149.out 2;have hfz80_3:=blk_frozen BK149.out 3))
             refine bodyPost_ret (results_ctt rfl _ _ gb149 27 #[.int .i64 0,.int .i64 0,.string (⟨#[]⟩:ByteArray),.slice none 0 0] (0,0) _ rfl (by (with_reducible repeat (first|refine blk_drewN ?_ _|refine blk_drew ?_|refine blk_alloc ?_ _));refine blk_put (cs:=#[.int .i64 0,.int .i64 0,.string (⟨#[]⟩:ByteArray),.slice none 0 0]) ?_ 3 _ rfl;(with_reducible repeat (first|refine blk_drewN ?_ _|refine blk_drew ?_|refine blk_alloc ?_ _));refine blk_put (cs:=#[.int .i64 0,.int .i64 0,.string x150002_3,.slice none 0 0]) ?_ 2 _ rfl;(with_reducible repeat (first|refine blk_drewN ?_ _|refine blk_drew ?_|refine blk_alloc ?_ _));refine blk_put (cs:=#[.int .i64 0,.int .i64 x150001_3,.string x150002_3,.slice none 0 0]) ?_ 1 _ rfl;(with_reducible repeat (first|refine blk_drewN ?_ _|refine blk_drew ?_|refine blk_alloc ?_ _));refine blk_put (cs:=#[.int .i64 x150000_3,.int .i64 x150001_3,.string x150002_3,.slice none 0 0]) ?_ 0 _ rfl;(with_reducible repeat (first|refine blk_drewN ?_ _|refine blk_drew ?_|refine blk_alloc ?_ _));refine blk_far ?_ NB149_180.out _;(with_reducible repeat (first|refine blk_drewN ?_ _|refine blk_drew ?_|refine blk_alloc ?_ _));refine blk_far ?_ NB149_180.out _;(with_reducible repeat (first|refine blk_drewN ?_ _|refine blk_drew ?_|refine blk_alloc ?_ _));refine blk_far ?_ NB149_180.out _;(with_reducible repeat (first|refine blk_drewN ?_ _|refine blk_drew ?_|refine blk_alloc ?_ _));refine blk_far ?_ NB149_180.out _;(with_reducible repeat (first|refine blk_drewN ?_ _|refine blk_drew ?_|refine blk_alloc ?_ _));exact BK149.out) Try.underlying27 rfl (by kernel_rfl)) rfl ?_
             exact ⟨_,by first|rfl|(simp [errW_none,errW_some] <;> rfl)|(simp [*,errW_none,errW_some] <;> rfl),by first|exact Kd.R_nil _ _ _ _ _|exact Kd.N_nil _ _ _ _ _|exact Kd.V_nil _ _ _ _ _|exact Kd.Q_nil _ _ _ _ _|exact Kd.S_nil _ _ _ _ _,by repeat (first|(with_reducible first|exact HB.out|apply below_alloc|apply pw_below_drewN|apply below_drew1|refine below_set ?_ GE149.out|refine below_set ?_ GE161.out|refine below_set ?_ GE180.out)|exact HB.out)⟩
           ·rw [if_neg c56] at H
            have c56b0:decide (x87_3 < x10_27)=false:=decide_eq_false c56
            clear c56
            replace H:=Option.bind_eq_some_iff.mp H
            obtain ⟨⟨t184,t185⟩,A810,H⟩:=H
            replace H:(some (x162000_27,x162001_27,(⟨#[]⟩:ByteArray),x162003_3,t184,t185))=some (r1,r2,r3,r4,r5,r6):=H
            have A81:=Aside0.mk A810
            clear A810
            simp only [Option.some.injEq,Prod.mk.injEq] at H
            obtain ⟨rfl,rfl,rfl,rfl,rfl,rfl⟩:=H
            go_wp2_with (first|((with_reducible refine gate_callee (f:=71) rfl ?_);refine goesL_ (some 112) rfl rfl Try.func71 (by kernel_rfl) rfl #[.string x0_3,.string x11_27] rfl (by (try simp only [List.map_toArray,List.map_cons,List.map_nil]);first|done|rfl|(simp only [List.length_drop,List.length_take];rfl)) ?_;(with_reducible refine (strings_CutPrefix.calls x0_3 x11_27 t184 t185 _ A81.out).mono ?_);rintro e w' ⟨rfl,⟨nd,rfl⟩⟩;refine ⟨_,rfl,?_⟩;(try (rw [drewN_self wr];generalize hq_:World.drewN wr _=wr;have n0_:Aside0 (Kd.R k27 27 wr w.heap.size (fun k_=>k_ ≠ gb149∧k_ ≠ gb161) u162003 x162003_3):=⟨by rw [← hq_];exact (gR HO_162003)⟩;have n1_:Aside0 (wr.heap[gb149]?=some (.cells #[.int .i64 x150000_3,.int .i64 x150001_3,.string x150002_3,.slice none 0 0] 27 (0,0))):=⟨by rw [← hq_];exact (gK BK149)⟩;have n2_:Aside0 (wr.heap[gb161]?=some (.cells #[.int .i64 x162000_27,.int .i64 x162001_27,.string (⟨#[]⟩:ByteArray),u162003] 27 (0,0))):=⟨by rw [← hq_];exact (gK BK161)⟩;have n3_:Aside0 (Below w.heap.size w wr):=⟨by rw [← hq_];exact (by repeat (first|(with_reducible first|exact HB.out|apply below_alloc|apply pw_below_drewN|apply below_drew1|refine below_set ?_ GE149.out|refine below_set ?_ GE161.out)|exact HB.out))⟩;clear HO_162003 BK149 BK161 HB hq_;have HO_162003:=n0_;have BK149:=n1_;have BK161:=n2_;have HB:=n3_;clear n0_ n1_ n2_ n3_));have hnb82:=NB161_149.out;have hnc82:=NB149_161.out;have hcz83_0:wr.cell? ⟨gb161,0,none⟩=some (.int .i64 x162000_27):=(blk_cell BK161.out 0).trans rfl;have hcz83_1:wr.cell? ⟨gb161,1,none⟩=some (.int .i64 x162001_27):=(blk_cell BK161.out 1).trans rfl;have hcz83_2:wr.cell? ⟨gb161,2,none⟩=some (.string (⟨#[]⟩:ByteArray)):=(blk_cell BK161.out 2).trans rfl;have hcz83_3:wr.cell? ⟨gb161,3,none⟩=some (u162003):=(blk_cell BK161.out 3).trans rfl;have hfz83_0:=blk_frozen BK161.out 0;have hfz83_1:=blk_frozen BK161.out 1;have hfz83_2:=blk_frozen BK161.out 2;have hfz83_3:=blk_frozen BK161.out 3;have hcz84_0:wr.cell? ⟨gb149,0,none⟩=some (.int .i64 x150000_3):=(blk_cell BK149.out 0).trans rfl;have hcz84_1:wr.cell? ⟨gb149,1,none⟩=some (.int .i64 x150001_3):=(blk_cell BK149.out 1).trans rfl;have hcz84_2:wr.cell? ⟨gb149,2,none⟩=some (.string x150002_3):=(blk_cell BK149.out 2).trans rfl;have hcz84_3:wr.cell? ⟨gb149,3,none⟩=some (.slice none 0 0):=(blk_cell BK149.out 3).trans rfl;have hfz84_0:=blk_frozen BK149.out 0;have hfz84_1:=blk_frozen BK149.out 1;have hfz84_2:=blk_frozen BK149.out 2;have hfz84_3:=blk_frozen BK149.out 3;obtain ⟨Ao85,co85,eo85⟩:=Kd.R_slice HO_162003.out;subst eo85))
            refine bodyPost_ret (results_ctt rfl _ _ gb149 27 #[.int .i64 x162000_27,.int .i64 x162001_27,.string (⟨#[]⟩:ByteArray),.slice Ao85 x162003_3.length co85] (0,0) _ rfl (by (with_reducible repeat (first|refine blk_drewN ?_ _|refine blk_drew ?_|refine blk_alloc ?_ _));refine blk_put (cs:=#[.int .i64 x162000_27,.int .i64 x162001_27,.string (⟨#[]⟩:ByteArray),.slice none 0 0]) ?_ 3 _ rfl;(with_reducible repeat (first|refine blk_drewN ?_ _|refine blk_drew ?_|refine blk_alloc ?_ _));refine blk_put (cs:=#[.int .i64 x162000_27,.int .i64 x162001_27,.string x150002_3,.slice none 0 0]) ?_ 2 _ rfl;(with_reducible repeat (first|refine blk_drewN ?_ _|refine blk_drew ?_|refine blk_alloc ?_ _));refine blk_put (cs:=#[.int .i64 x162000_27,.int .i64 x150001_3,.string x150002_3,.slice none 0 0]) ?_ 1 _ rfl;(with_reducible repeat (first|refine blk_drewN ?_ _|refine blk_drew ?_|refine blk_alloc ?_ _));refine blk_put (cs:=#[.int .i64 x150000_3,.int .i64 x150001_3,.string x150002_3,.slice none 0 0]) ?_ 0 _ rfl;(with_reducible repeat (first|refine blk_drewN ?_ _|refine blk_drew ?_|refine blk_alloc ?_ _));exact BK149.out) Try.underlying27 rfl (by kernel_rfl)) rfl ?_
            exact ⟨_,by first|rfl|(simp [errW_none,errW_some] <;> rfl)|(simp [*,errW_none,errW_some] <;> rfl),by (with_reducible repeat (first|apply Kd.R_alloc|apply Kd.R_drewN|apply Kd.R_drew));exact Kd.R_mono (Kd.R_far (p:=⟨gb149,3,none⟩) (Kd.R_far (p:=⟨gb149,2,none⟩) (Kd.R_far (p:=⟨gb149,1,none⟩) (Kd.R_far (p:=⟨gb149,0,none⟩) (Kd.R_mono HO_162003.out (fun k_ hk=>(⟨hk,hk.1⟩:_∧k_ ≠ gb149))) (fun _ hk=>hk.2) (.int .i64 x162000_27)) (fun _ hk=>hk.2) (.int .i64 x162001_27)) (fun _ hk=>hk.2) (.string (⟨#[]⟩:ByteArray))) (fun _ hk=>hk.2) (.slice Ao85 x162003_3.length co85)) (fun _ hk=>trivial),by repeat (first|(with_reducible first|exact HB.out|apply below_alloc|apply pw_below_drewN|apply below_drew1|refine below_set ?_ GE149.out|refine below_set ?_ GE161.out)|exact HB.out)⟩
      ·rw [if_neg c27] at H
       exact absurd H (by simp)
    ·rw [if_neg c8] at H
     exact absurd H (by simp)
end Go.Proofs.Ytdhdfmmefghijaa.P
namespace Go.Proofs.Ytdhdfmmefghijaa.P
open Go.RowKit Go.Proofs.YtdhdfmmefghijaaW.PrintWords Go.Proofs.YtdhdfmmefghijaaW.PrintLast Go.Proofs.YtdhdfmmefghijaaW.PrintMore
attribute [local go_sem] max2_int min2_int max_two min_two max_three min_three max_four min_four
set_option linter.unusedVariables false
set_option linter.unusedSimpArgs false
def impl_ParseDoc.j0:Nat→Bool→Int→Int→ByteArray→List (SDoc)→Option (Int × Int × ByteArray × (List (SDoc)) × Bool)
 | 0,_,_,_,_,_=>none
 | k+1,x23,x196000,x196001,x196002,x196003=>if x23=true then (some (0,0,(⟨#[]⟩:ByteArray),([]:List (SDoc)),false)) else (some (x196000,x196001,x196002,x196003,true))
def impl_ParseDoc.f (k:Nat) (a0:ByteArray):Option (Int × Int × ByteArray × (List (SDoc)) × Bool):=(impl_parseDoc.f k a0 40).bind fun bt187=>(if bt187.2.2.2.2.2=true then (if bt187.2.2.2.2.1.toList=([]:List UInt8) then ((impl_DocValid.f k bt187.1 bt187.2.1 bt187.2.2.1 bt187.2.2.2.1).bind fun t196=>(impl_ParseDoc.j0 k (!t196) bt187.1 bt187.2.1 bt187.2.2.1 bt187.2.2.2.1)) else (impl_ParseDoc.j0 k true bt187.1 bt187.2.1 bt187.2.2.1 bt187.2.2.2.1)) else (impl_ParseDoc.j0 k true bt187.1 bt187.2.1 bt187.2.2.1 bt187.2.2.2.1))
set_option maxHeartbeats 8000000 in
set_option maxRecDepth 100000 in
theorem impl_ParseDoc.calls (k:Nat) (a0:ByteArray) (r1:Int) (r2:Int) (r3:ByteArray) (r4:List (SDoc)) (r5:Bool) (w:World) (h:impl_ParseDoc.f k a0=some (r1,r2,r3,r4,r5)) :
  Calls Try.prog 17 #[.string a0] w fun e w'=>∃ v3_:Value,e=.returned (.tuple #[.agg #[.int .i64 r1,.int .i64 r2,.string r3,v3_],.bool r5])∧Kd.R k27 27 w' w.heap.size (fun _=>True) v3_ r4∧Below w.heap.size w w':=by
 have hu27:=Try.underlying27
 have HB:=Aside0.mk (Below.refl w.heap.size w)
 have H:((impl_parseDoc.f k a0 40).bind fun bt187=>(if bt187.2.2.2.2.2=true then (if bt187.2.2.2.2.1.toList=([]:List UInt8) then ((impl_DocValid.f k bt187.1 bt187.2.1 bt187.2.2.1 bt187.2.2.2.1).bind fun t196=>(impl_ParseDoc.j0 k (!t196) bt187.1 bt187.2.1 bt187.2.2.1 bt187.2.2.2.1)) else (impl_ParseDoc.j0 k true bt187.1 bt187.2.1 bt187.2.2.1 bt187.2.2.2.1)) else (impl_ParseDoc.j0 k true bt187.1 bt187.2.1 bt187.2.2.1 bt187.2.2.2.1)))=some (r1,r2,r3,r4,r5):=h
 clear h
 replace H:=Option.bind_eq_some_iff.mp H
 obtain ⟨⟨t187,t188,t189,t190,t193,t194⟩,A20,H⟩:=H
 replace H:(if t194=true then (if t193.toList=([]:List UInt8) then ((impl_DocValid.f k t187 t188 t189 t190).bind fun t196=>(impl_ParseDoc.j0 k (!t196) t187 t188 t189 t190)) else (impl_ParseDoc.j0 k true t187 t188 t189 t190)) else (impl_ParseDoc.j0 k true t187 t188 t189 t190))=some (r1,r2,r3,r4,r5):=H
 have A2:=Aside0.mk A20
 clear A20
 have HC3:=Aside0.mk H
 clear H
 go_enter Try.func17,Try.ntmps17
 go_upto_region 2 with (first|((with_reducible refine gate_dst (N:=2) rfl ?_);refine box_event ?hg (N:=2) ?hd (cs:=#[.int .i64 0,.int .i64 0,.string (⟨#[]⟩:ByteArray),.slice none 0 0]) (t:=27) ?hr ?_;(case hd=>rfl);(case hg=>rfl);(case hr=>first|(go_simp;done)|(go_simp;rfl));intro gb186 hg w4 hbox hb;have n0_:=Aside0.mk (below_step (gB HB) hb);have n1_:=Aside0.mk (hbox);have n2_:=Aside0.mk ((by rw [hg];exact (below_size (gB HB)):w.heap.size≤gb186));have n3_:=Aside0.mk ((by rw [hg];exact (below_size (gB HB)):w.heap.size≤gb186));clear HB;have HB:=n0_;have BK186:=n1_;have GW186:=n2_;have GE186:=n3_;clear n0_ n1_ n2_ n3_;clear hb hbox hg)|((with_reducible refine gate_callee (f:=48) rfl ?_);refine goesL_ (some 9) rfl rfl Try.func48 (by kernel_rfl) rfl #[.string a0,.int .i64 40] rfl (by (try simp only [List.map_toArray,List.map_cons,List.map_nil]);first|done|rfl|(simp only [List.length_drop,List.length_take];rfl)) ?_;(with_reducible refine (impl_parseDoc.calls k a0 40 t187 t188 t189 t190 t193 t194 _ A2.out).mono ?_);rintro e w5 ⟨v191,rfl,ho0,hb⟩;refine ⟨_,rfl,?_⟩;have n0_:=Aside0.mk (Kd.R_lower (Kd.R_newB ho0 (g:=gb186) (o:=.cells #[.int .i64 0,.int .i64 0,.string (⟨#[]⟩:ByteArray),.slice none 0 0] 27 (0,0)) (gK BK186)) (below_size (by repeat (first|exact gB HB|refine below_set ?_ GE186.out))));have n1_:=Aside0.mk (blk_below (g:=gb186) (o:=.cells #[.int .i64 0,.int .i64 0,.string (⟨#[]⟩:ByteArray),.slice none 0 0] 27 (0,0)) (gK BK186) hb);have n2_:=Aside0.mk (below_step (by repeat (first|exact gB HB|refine below_set ?_ GE186.out)) hb);clear BK186;clear HB;have HO192:=n0_;have BK186:=n1_;have HB:=n2_;clear n0_ n1_ n2_;(try clear hb);(try clear hb2);(try clear hk);(try clear hi);(try clear ho0))|((with_reducible refine gate_dst (N:=4) rfl ?_);refine box_event ?hg (N:=4) ?hd (cs:=#[.int .i64 0,.int .i64 0,.string (⟨#[]⟩:ByteArray),.slice none 0 0]) (t:=27) ?hr ?_;(case hd=>rfl);(case hg=>rfl);(case hr=>first|(go_simp;done)|(go_simp;rfl));intro gb195 hg w6 hbox hb;have n0_:=Aside0.mk (Kd.R_below (Kd.R_elderB (gR HO192) gb195 (Nat.le_of_eq hg.symm)) hb);have n1_:=Aside0.mk (blk_below (g:=gb186) (o:=.cells #[.int .i64 0,.int .i64 0,.string (⟨#[]⟩:ByteArray),.slice none 0 0] 27 (0,0)) (gK BK186) hb);have n2_:=Aside0.mk (below_step (by repeat (first|exact gB HB|refine below_set ?_ GE186.out)) hb);have n3_:=Aside0.mk (hbox);have n4_:=Aside0.mk ((by rw [hg];exact (below_size (by repeat (first|exact gB HB|refine below_set ?_ GE186.out))):w.heap.size≤gb195));have n5_:=Aside0.mk ((by rw [hg];exact (below_size (by repeat (first|exact gB HB|refine below_set ?_ GE186.out))):w.heap.size≤gb195));have n6_:=Aside0.mk ((by rw [hg];exact Nat.ne_of_lt (blk_lt (g:=gb186) (o:=.cells #[.int .i64 0,.int .i64 0,.string (⟨#[]⟩:ByteArray),.slice none 0 0] 27 (0,0)) (gK BK186)):gb186 ≠ gb195));have n7_:=Aside0.mk ((by rw [hg];exact Nat.ne_of_gt (blk_lt (g:=gb186) (o:=.cells #[.int .i64 0,.int .i64 0,.string (⟨#[]⟩:ByteArray),.slice none 0 0] 27 (0,0)) (gK BK186)):gb195 ≠ gb186));clear HO192;clear BK186;clear HB;have HO192:=n0_;have BK186:=n1_;have HB:=n2_;have BK195:=n3_;have GW195:=n4_;have GE195:=n5_;have NB186_195:=n6_;have NB195_186:=n7_;clear n0_ n1_ n2_ n3_ n4_ n5_ n6_ n7_;clear hb hbox hg;have hnb7:=NB195_186.out;have hnc7:=NB186_195.out;have hcz8_0:w6.cell? ⟨gb195,0,none⟩=some (.int .i64 0):=(blk_cell BK195.out 0).trans rfl;have hcz8_1:w6.cell? ⟨gb195,1,none⟩=some (.int .i64 0):=(blk_cell BK195.out 1).trans rfl;have hcz8_2:w6.cell? ⟨gb195,2,none⟩=some (.string (⟨#[]⟩:ByteArray)):=(blk_cell BK195.out 2).trans rfl;have hcz8_3:w6.cell? ⟨gb195,3,none⟩=some (.slice none 0 0):=(blk_cell BK195.out 3).trans rfl;have hfz8_0:=blk_frozen BK195.out 0;have hfz8_1:=blk_frozen BK195.out 1;have hfz8_2:=blk_frozen BK195.out 2;have hfz8_3:=blk_frozen BK195.out 3;obtain ⟨Ao9,co9,eo9⟩:=Kd.R_slice HO192.out;subst eo9))
 (try simp only [Act.put,List.setIfInBounds_toArray,List.set_cons_zero,List.set_cons_succ])
 go_cut [23] (fun v23 wc=>∃ (kq:Nat) (x23_2:Bool),v23=.bool x23_2∧Aside0 (impl_ParseDoc.j0 kq x23_2 t187 t188 t189 t190=some (r1,r2,r3,r4,r5))∧Aside0 (kq≤k)∧Aside0 (Kd.R k27 27 wc w.heap.size (fun k_=>k_ ≠ gb186∧k_ ≠ gb195) (.slice Ao9 t190.length co9) t190)∧Aside0 (wc.heap[gb186]?=some (.cells #[.int .i64 0,.int .i64 0,.string (⟨#[]⟩:ByteArray),(.slice none 0 0)] 27 (0,0)))∧Aside0 (wc.heap[gb195]?=some (.cells #[.int .i64 t187,.int .i64 t188,.string t189,(.slice Ao9 t190.length co9)] 27 (0,0)))∧Aside0 (Below w.heap.size w wc))
 case first =>
  have H:=HC3.out
  clear HC3
  by_cases c10:t194=true
  ·subst c10
   have H1:(if t193.toList=([]:List UInt8) then ((impl_DocValid.f k t187 t188 t189 t190).bind fun t196=>(impl_ParseDoc.j0 k (!t196) t187 t188 t189 t190)) else (impl_ParseDoc.j0 k true t187 t188 t189 t190))=some (r1,r2,r3,r4,r5):=by rw [if_pos rfl] at H;exact H
   clear H
   have H:=H1
   clear H1
   by_cases c11:t193.toList=([]:List UInt8)
   ·rw [if_pos c11] at H
    have c11b0:(t193.toList == ([]:List UInt8))=true:=beq_iff_eq.mpr c11
    have c11b1:(t193.toList != ([]:List UInt8))=false:=bne_eq_false_iff_eq.mpr c11
    clear c11
    (first|rw [c11b0]|(simp only [i64_w,i32_w];rw [c11b0])|skip)
    replace H:=Option.bind_eq_some_iff.mp H
    obtain ⟨t196,A120,H⟩:=H
    replace H:(impl_ParseDoc.j0 k (!t196) t187 t188 t189 t190)=some (r1,r2,r3,r4,r5):=H
    have A12:=Aside0.mk A120
    clear A120
    have H':=Aside0.mk H
    clear H
    have hnb13:=NB195_186.out
    have hnc13:=NB186_195.out
    have hcz14_0:w6.cell? ⟨gb195,0,none⟩=some (.int .i64 0):=(blk_cell BK195.out 0).trans rfl
    have hcz14_1:w6.cell? ⟨gb195,1,none⟩=some (.int .i64 0):=(blk_cell BK195.out 1).trans rfl
    have hcz14_2:w6.cell? ⟨gb195,2,none⟩=some (.string (⟨#[]⟩:ByteArray)):=(blk_cell BK195.out 2).trans rfl
    have hcz14_3:w6.cell? ⟨gb195,3,none⟩=some (.slice none 0 0):=(blk_cell BK195.out 3).trans rfl
    have hfz14_0:=blk_frozen BK195.out 0
    have hfz14_1:=blk_frozen BK195.out 1
    have hfz14_2:=blk_frozen BK195.out 2
    have hfz14_3:=blk_frozen BK195.out 3
    go_wp2_with (first|(go_at_call 24;(with_reducible refine (impl_DocValid.calls k t187 t188 t189 _ _ t190 t196 _ ?side1 ?side2 A12.out).mono ?_);(case side1=>exact (Kd.R_reads' (e:=27) (base:=w.heap.size) (n:=t190.length) (c:=co9) (by (with_reducible repeat (first|apply Kd.R_alloc|apply Kd.R_drewN|apply Kd.R_drew));exact (Kd.R_mono (Kd.R_far (p:=⟨gb195,3,none⟩) (Kd.R_far (p:=⟨gb195,2,none⟩) (Kd.R_far (p:=⟨gb195,1,none⟩) (Kd.R_far (p:=⟨gb195,0,none⟩) (Kd.R_mono HO192.out (fun k_ hk=>(⟨hk,hk.2⟩:_∧k_ ≠ gb195))) (fun _ hk=>hk.2) (.int .i64 t187)) (fun _ hk=>hk.2) (.int .i64 t188)) (fun _ hk=>hk.2) (.string t189)) (fun _ hk=>hk.2) (.slice Ao9 t190.length co9)) (fun _ h_=>h_.1)))).2.2);(case side2=>exact (Kd.R_reads' HO192.out).2.1);rintro e w15 ⟨rfl,hb⟩;have n0_:=Aside0.mk (Kd.R_below (by (with_reducible repeat (first|apply Kd.R_alloc|apply Kd.R_drewN|apply Kd.R_drew));exact (Kd.R_mono (Kd.R_far (p:=⟨gb195,3,none⟩) (Kd.R_far (p:=⟨gb195,2,none⟩) (Kd.R_far (p:=⟨gb195,1,none⟩) (Kd.R_far (p:=⟨gb195,0,none⟩) (Kd.R_mono HO192.out (fun k_ hk=>(⟨hk,hk.2⟩:_∧k_ ≠ gb195))) (fun _ hk=>hk.2) (.int .i64 t187)) (fun _ hk=>hk.2) (.int .i64 t188)) (fun _ hk=>hk.2) (.string t189)) (fun _ hk=>hk.2) (.slice Ao9 t190.length co9)) (fun _ h_=>h_.1))) hb);have n1_:=Aside0.mk (blk_below (g:=gb186) (o:=.cells #[.int .i64 0,.int .i64 0,.string (⟨#[]⟩:ByteArray),.slice none 0 0] 27 (0,0)) (by (with_reducible repeat (first|refine blk_drewN ?_ _|refine blk_drew ?_|refine blk_alloc ?_ _));refine blk_far ?_ NB186_195.out _;(with_reducible repeat (first|refine blk_drewN ?_ _|refine blk_drew ?_|refine blk_alloc ?_ _));refine blk_far ?_ NB186_195.out _;(with_reducible repeat (first|refine blk_drewN ?_ _|refine blk_drew ?_|refine blk_alloc ?_ _));refine blk_far ?_ NB186_195.out _;(with_reducible repeat (first|refine blk_drewN ?_ _|refine blk_drew ?_|refine blk_alloc ?_ _));refine blk_far ?_ NB186_195.out _;(with_reducible repeat (first|refine blk_drewN ?_ _|refine blk_drew ?_|refine blk_alloc ?_ _));exact BK186.out) hb);have n2_:=Aside0.mk (blk_below (g:=gb195) (o:=.cells #[.int .i64 t187,.int .i64 t188,.string t189,.slice Ao9 t190.length co9] 27 (0,0)) (by (with_reducible repeat (first|refine blk_drewN ?_ _|refine blk_drew ?_|refine blk_alloc ?_ _));refine blk_put (cs:=#[.int .i64 t187,.int .i64 t188,.string t189,.slice none 0 0]) ?_ 3 _ rfl;(with_reducible repeat (first|refine blk_drewN ?_ _|refine blk_drew ?_|refine blk_alloc ?_ _));refine blk_put (cs:=#[.int .i64 t187,.int .i64 t188,.string (⟨#[]⟩:ByteArray),.slice none 0 0]) ?_ 2 _ rfl;(with_reducible repeat (first|refine blk_drewN ?_ _|refine blk_drew ?_|refine blk_alloc ?_ _));refine blk_put (cs:=#[.int .i64 t187,.int .i64 0,.string (⟨#[]⟩:ByteArray),.slice none 0 0]) ?_ 1 _ rfl;(with_reducible repeat (first|refine blk_drewN ?_ _|refine blk_drew ?_|refine blk_alloc ?_ _));refine blk_put (cs:=#[.int .i64 0,.int .i64 0,.string (⟨#[]⟩:ByteArray),.slice none 0 0]) ?_ 0 _ rfl;(with_reducible repeat (first|refine blk_drewN ?_ _|refine blk_drew ?_|refine blk_alloc ?_ _));exact BK195.out) hb);have n3_:=Aside0.mk (below_step (by repeat (first|exact gB HB|refine below_set ?_ GE186.out|refine below_set ?_ GE195.out)) hb);clear HO192;clear BK186;clear BK195;clear HB;have HO192:=n0_;have BK186:=n1_;have BK195:=n2_;have HB:=n3_;clear n0_ n1_ n2_ n3_;(try clear hb);(try clear hb2);(try clear hk);(try clear hi)))
    go_meet
    case rel=>exact ⟨_,(!t196),(by first|rfl|(simp;done)|(simp [*];done)),H',⟨by first|omega|exact Nat.le_refl _⟩,⟨by (with_reducible repeat (first|apply Kd.R_alloc|apply Kd.R_drewN|apply Kd.R_drew));exact Kd.R_mono HO192.out (fun _ hk=>⟨hk.1.2,hk.2⟩)⟩,⟨gK BK186⟩,⟨gK BK195⟩,⟨by repeat (first|exact gB HB|refine below_set ?_ GE186.out|refine below_set ?_ GE195.out)⟩⟩
   ·rw [if_neg c11] at H
    have c11b0:(t193.toList == ([]:List UInt8))=false:=beq_eq_false_iff_ne.mpr c11
    have c11b1:(t193.toList != ([]:List UInt8))=true:=bne_iff_ne.mpr c11
    (first|rw [c11b0]|(simp only [i64_w,i32_w];rw [c11b0])|skip)
    have H':=Aside0.mk H
    clear H
    go_wp2
    go_meet
    case rel=>exact ⟨_,(true),(by first|rfl|(simp;done)|(simp [*];done)),H',⟨by first|omega|exact Nat.le_refl _⟩,⟨by (with_reducible repeat (first|apply Kd.R_alloc|apply Kd.R_drewN|apply Kd.R_drew));exact Kd.R_mono (Kd.R_far (p:=⟨gb195,3,none⟩) (Kd.R_far (p:=⟨gb195,2,none⟩) (Kd.R_far (p:=⟨gb195,1,none⟩) (Kd.R_far (p:=⟨gb195,0,none⟩) (Kd.R_mono HO192.out (fun k_ hk=>(⟨hk,hk.2⟩:_∧k_ ≠ gb195))) (fun _ hk=>hk.2) (.int .i64 t187)) (fun _ hk=>hk.2) (.int .i64 t188)) (fun _ hk=>hk.2) (.string t189)) (fun _ hk=>hk.2) (.slice Ao9 t190.length co9)) (fun _ hk=>⟨hk.1.1.2,hk.1.2⟩)⟩,⟨by (with_reducible repeat (first|refine blk_drewN ?_ _|refine blk_drew ?_|refine blk_alloc ?_ _));refine blk_far ?_ NB186_195.out _;(with_reducible repeat (first|refine blk_drewN ?_ _|refine blk_drew ?_|refine blk_alloc ?_ _));refine blk_far ?_ NB186_195.out _;(with_reducible repeat (first|refine blk_drewN ?_ _|refine blk_drew ?_|refine blk_alloc ?_ _));refine blk_far ?_ NB186_195.out _;(with_reducible repeat (first|refine blk_drewN ?_ _|refine blk_drew ?_|refine blk_alloc ?_ _));refine blk_far ?_ NB186_195.out _;(with_reducible repeat (first|refine blk_drewN ?_ _|refine blk_drew ?_|refine blk_alloc ?_ _));exact BK186.out⟩,⟨by (with_reducible repeat (first|refine blk_drewN ?_ _|refine blk_drew ?_|refine blk_alloc ?_ _));refine blk_put (cs:=#[.int .i64 t187,.int .i64 t188,.string t189,.slice none 0 0]) ?_ 3 _ rfl;(with_reducible repeat (first|refine blk_drewN ?_ _|refine blk_drew ?_|refine blk_alloc ?_ _));refine blk_put (cs:=#[.int .i64 t187,.int .i64 t188,.string (⟨#[]⟩:ByteArray),.slice none 0 0]) ?_ 2 _ rfl;(with_reducible repeat (first|refine blk_drewN ?_ _|refine blk_drew ?_|refine blk_alloc ?_ _));refine blk_put (cs:=#[.int .i64 t187,.int .i64 0,.string (⟨#[]⟩:ByteArray),.slice none 0 0]) ?_ 1 _ rfl;(with_reducible repeat (first|refine blk_drewN ?_ _|refine blk_drew ?_|refine blk_alloc ?_ _));refine blk_put (cs:=#[.int .i64 0,.int .i64 0,.string (⟨#[]⟩:ByteArray),.slice none 0 0]) ?_ 0 _ rfl;(with_reducible repeat (first|refine blk_drewN ?_ _|refine blk_drew ?_|refine blk_alloc ?_ _));exact BK195.out⟩,⟨by repeat (first|exact gB HB|refine below_set ?_ GE186.out|refine below_set ?_ GE195.out)⟩⟩
  ·replace c10:=Bool.eq_false_iff.mpr c10
   subst c10
   have H1:(impl_ParseDoc.j0 k true t187 t188 t189 t190)=some (r1,r2,r3,r4,r5):=by rw [if_neg (show ¬ (false=true) by decide)] at H;exact H
   clear H
   have H:=H1
   clear H1
   have H':=Aside0.mk H
   clear H
   go_wp2
   go_meet
   case rel=>exact ⟨_,(true),(by first|rfl|(simp;done)|(simp [*];done)),H',⟨by first|omega|exact Nat.le_refl _⟩,⟨by (with_reducible repeat (first|apply Kd.R_alloc|apply Kd.R_drewN|apply Kd.R_drew));exact Kd.R_mono (Kd.R_far (p:=⟨gb195,3,none⟩) (Kd.R_far (p:=⟨gb195,2,none⟩) (Kd.R_far (p:=⟨gb195,1,none⟩) (Kd.R_far (p:=⟨gb195,0,none⟩) (Kd.R_mono HO192.out (fun k_ hk=>(⟨hk,hk.2⟩:_∧k_ ≠ gb195))) (fun _ hk=>hk.2) (.int .i64 t187)) (fun _ hk=>hk.2) (.int .i64 t188)) (fun _ hk=>hk.2) (.string t189)) (fun _ hk=>hk.2) (.slice Ao9 t190.length co9)) (fun _ hk=>⟨hk.1.1.2,hk.1.2⟩)⟩,⟨by (with_reducible repeat (first|refine blk_drewN ?_ _|refine blk_drew ?_|refine blk_alloc ?_ _));refine blk_far ?_ NB186_195.out _;(with_reducible repeat (first|refine blk_drewN ?_ _|refine blk_drew ?_|refine blk_alloc ?_ _));refine blk_far ?_ NB186_195.out _;(with_reducible repeat (first|refine blk_drewN ?_ _|refine blk_drew ?_|refine blk_alloc ?_ _));refine blk_far ?_ NB186_195.out _;(with_reducible repeat (first|refine blk_drewN ?_ _|refine blk_drew ?_|refine blk_alloc ?_ _));refine blk_far ?_ NB186_195.out _;(with_reducible repeat (first|refine blk_drewN ?_ _|refine blk_drew ?_|refine blk_alloc ?_ _));exact BK186.out⟩,⟨by (with_reducible repeat (first|refine blk_drewN ?_ _|refine blk_drew ?_|refine blk_alloc ?_ _));refine blk_put (cs:=#[.int .i64 t187,.int .i64 t188,.string t189,.slice none 0 0]) ?_ 3 _ rfl;(with_reducible repeat (first|refine blk_drewN ?_ _|refine blk_drew ?_|refine blk_alloc ?_ _));refine blk_put (cs:=#[.int .i64 t187,.int .i64 t188,.string (⟨#[]⟩:ByteArray),.slice none 0 0]) ?_ 2 _ rfl;(with_reducible repeat (first|refine blk_drewN ?_ _|refine blk_drew ?_|refine blk_alloc ?_ _));refine blk_put (cs:=#[.int .i64 t187,.int .i64 0,.string (⟨#[]⟩:ByteArray),.slice none 0 0]) ?_ 1 _ rfl;(with_reducible repeat (first|refine blk_drewN ?_ _|refine blk_drew ?_|refine blk_alloc ?_ _));refine blk_put (cs:=#[.int .i64 0,.int .i64 0,.string (⟨#[]⟩:ByteArray),.slice none 0 0]) ?_ 0 _ rfl;(with_reducible repeat (first|refine blk_drewN ?_ _|refine blk_drew ?_|refine blk_alloc ?_ _));exact BK195.out⟩,⟨by repeat (first|exact gB HB|refine below_set ?_ GE186.out|refine below_set ?_ GE195.out)⟩⟩
 case rest =>
  clear HC3
  try clear c1 p2 c4 c7 c10 c11 c11b0 c11b1 c13 hcz14_0 hcz14_1 hcz14_2 hcz14_3 hcz8_0 hcz8_1 hcz8_2 hcz8_3 hfz14_0 hfz14_1 hfz14_2 hfz14_3 hfz8_0 hfz8_1 hfz8_2 hfz8_3
  obtain ⟨kq,x23_2,rfl,HA,HJ2,HO_196003,BK186,BK195,HB⟩:=hcut
  cases kq with
  | zero=>exact absurd HA.out (by simp [impl_ParseDoc.j0])
  | succ kj2 =>
   have H:=HA.out
   clear HA
   simp only [impl_ParseDoc.j0] at H
   by_cases c16:x23_2=true
   ·subst c16
    have H1:(some (0,0,(⟨#[]⟩:ByteArray),([]:List (SDoc)),false))=some (r1,r2,r3,r4,r5):=by rw [if_pos rfl] at H;exact H
    clear H
    have H:=H1
    clear H1
    simp only [Option.some.injEq,Prod.mk.injEq] at H
    obtain ⟨rfl,rfl,rfl,rfl,rfl⟩:=H
    have hnb17:=NB186_195.out
    have hnc17:=NB195_186.out
    have hcz18_0:wc.cell? ⟨gb186,0,none⟩=some (.int .i64 0):=(blk_cell BK186.out 0).trans rfl
    have hcz18_1:wc.cell? ⟨gb186,1,none⟩=some (.int .i64 0):=(blk_cell BK186.out 1).trans rfl
    have hcz18_2:wc.cell? ⟨gb186,2,none⟩=some (.string (⟨#[]⟩:ByteArray)):=(blk_cell BK186.out 2).trans rfl
    have hcz18_3:wc.cell? ⟨gb186,3,none⟩=some (.slice none 0 0):=(blk_cell BK186.out 3).trans rfl
    have hfz18_0:=blk_frozen BK186.out 0
    have hfz18_1:=blk_frozen BK186.out 1
    have hfz18_2:=blk_frozen BK186.out 2
    have hfz18_3:=blk_frozen BK186.out 3
    go_wp2
    refine bodyPost_ret (results_ct rfl _ _ gb186 27 #[.int .i64 0,.int .i64 0,.string (⟨#[]⟩:ByteArray),.slice none 0 0] (0,0) _ rfl (by (with_reducible repeat (first|refine blk_drewN ?_ _|refine blk_drew ?_|refine blk_alloc ?_ _));refine blk_put (cs:=#[.int .i64 0,.int .i64 0,.string (⟨#[]⟩:ByteArray),.slice none 0 0]) ?_ 3 _ rfl;(with_reducible repeat (first|refine blk_drewN ?_ _|refine blk_drew ?_|refine blk_alloc ?_ _));refine blk_put (cs:=#[.int .i64 0,.int .i64 0,.string (⟨#[]⟩:ByteArray),.slice none 0 0]) ?_ 2 _ rfl;(with_reducible repeat (first|refine blk_drewN ?_ _|refine blk_drew ?_|refine blk_alloc ?_ _));refine blk_put (cs:=#[.int .i64 0,.int .i64 0,.string (⟨#[]⟩:ByteArray),.slice none 0 0]) ?_ 1 _ rfl;(with_reducible repeat (first|refine blk_drewN ?_ _|refine blk_drew ?_|refine blk_alloc ?_ _));refine blk_put (cs:=#[.int .i64 0,.int .i64 0,.string (⟨#[]⟩:ByteArray),.slice none 0 0]) ?_ 0 _ rfl;(with_reducible repeat (first|refine blk_drewN ?_ _|refine blk_drew ?_|refine blk_alloc ?_ _));exact BK186.out) Try.underlying27 rfl (by kernel_rfl)) rfl ?_
    exact ⟨_,by first|rfl|(simp [errW_none,errW_some] <;> rfl)|(simp [*,errW_none,errW_some] <;> rfl),by first|exact Kd.R_nil _ _ _ _ _|exact Kd.N_nil _ _ _ _ _|exact Kd.V_nil _ _ _ _ _|exact Kd.Q_nil _ _ _ _ _|exact Kd.S_nil _ _ _ _ _,by repeat (first|exact gB HB|refine below_set ?_ GE186.out|refine below_set ?_ GE195.out)⟩
   ·replace c16:=Bool.eq_false_iff.mpr c16
    subst c16
    have H1:(some (t187,t188,t189,t190,true))=some (r1,r2,r3,r4,r5):=by rw [if_neg (show ¬ (false=true) by decide)] at H;exact H
    clear H
    have H:=H1
    clear H1
    simp only [Option.some.injEq,Prod.mk.injEq] at H
    obtain ⟨rfl,rfl,rfl,rfl,rfl⟩:=H
    have hnb19:=NB195_186.out
    have hnc19:=NB186_195.out
    have hcz20_0:wc.cell? ⟨gb195,0,none⟩=some (.int .i64 t187):=(blk_cell BK195.out 0).trans rfl
    have hcz20_1:wc.cell? ⟨gb195,1,none⟩=some (.int .i64 t188):=(blk_cell BK195.out 1).trans rfl
    have hcz20_2:wc.cell? ⟨gb195,2,none⟩=some (.string t189):=(blk_cell BK195.out 2).trans rfl
    have hcz20_3:wc.cell? ⟨gb195,3,none⟩=some (.slice Ao9 t190.length co9):=(blk_cell BK195.out 3).trans rfl
    have hfz20_0:=blk_frozen BK195.out 0
    have hfz20_1:=blk_frozen BK195.out 1
    have hfz20_2:=blk_frozen BK195.out 2
    have hfz20_3:=blk_frozen BK195.out 3
    have hcz21_0:wc.cell? ⟨gb186,0,none⟩=some (.int .i64 0):=(blk_cell BK186.out 0).trans rfl
    have hcz21_1:wc.cell? ⟨gb186,1,none⟩=some (.int .i64 0):=(blk_cell BK186.out 1).trans rfl
    have hcz21_2:wc.cell? ⟨gb186,2,none⟩=some (.string (⟨#[]⟩:ByteArray)):=(blk_cell BK186.out 2).trans rfl
    have hcz21_3:wc.cell? ⟨gb186,3,none⟩=some (.slice none 0 0):=(blk_cell BK186.out 3).trans rfl
    have hfz21_0:=blk_frozen BK186.out 0
    have hfz21_1:=blk_frozen BK186.out 1
    have hfz21_2:=blk_frozen BK186.out 2
    have hfz21_3:=blk_frozen BK186.out 3
    go_wp2
    refine bodyPost_ret (results_ct rfl _ _ gb186 27 #[.int .i64 t187,.int .i64 t188,.string t189,.slice Ao9 t190.length co9] (0,0) _ rfl (by (with_reducible repeat (first|refine blk_drewN ?_ _|refine blk_drew ?_|refine blk_alloc ?_ _));refine blk_put (cs:=#[.int .i64 t187,.int .i64 t188,.string t189,.slice none 0 0]) ?_ 3 _ rfl;(with_reducible repeat (first|refine blk_drewN ?_ _|refine blk_drew ?_|refine blk_alloc ?_ _));refine blk_put (cs:=#[.int .i64 t187,.int .i64 t188,.string (⟨#[]⟩:ByteArray),.slice none 0 0]) ?_ 2 _ rfl;(with_reducible repeat (first|refine blk_drewN ?_ _|refine blk_drew ?_|refine blk_alloc ?_ _));refine blk_put (cs:=#[.int .i64 t187,.int .i64 0,.string (⟨#[]⟩:ByteArray),.slice none 0 0]) ?_ 1 _ rfl;(with_reducible repeat (first|refine blk_drewN ?_ _|refine blk_drew ?_|refine blk_alloc ?_ _));refine blk_put (cs:=#[.int .i64 0,.int .i64 0,.string (⟨#[]⟩:ByteArray),.slice none 0 0]) ?_ 0 _ rfl;(with_reducible repeat (first|refine blk_drewN ?_ _|refine blk_drew ?_|refine blk_alloc ?_ _));exact BK186.out) Try.underlying27 rfl (by kernel_rfl)) rfl ?_
    exact ⟨_,by first|rfl|(simp [errW_none,errW_some] <;> rfl)|(simp [*,errW_none,errW_some] <;> rfl),by (with_reducible repeat (first|apply Kd.R_alloc|apply Kd.R_drewN|apply Kd.R_drew));exact Kd.R_mono (Kd.R_far (p:=⟨gb186,3,none⟩) (Kd.R_far (p:=⟨gb186,2,none⟩) (Kd.R_far (p:=⟨gb186,1,none⟩) (Kd.R_far (p:=⟨gb186,0,none⟩) (Kd.R_mono HO_196003.out (fun k_ hk=>(⟨hk,hk.1⟩:_∧k_ ≠ gb186))) (fun _ hk=>hk.2) (.int .i64 t187)) (fun _ hk=>hk.2) (.int .i64 t188)) (fun _ hk=>hk.2) (.string t189)) (fun _ hk=>hk.2) (.slice Ao9 t190.length co9)) (fun _ hk=>trivial),by repeat (first|exact gB HB|refine below_set ?_ GE186.out|refine below_set ?_ GE195.out)⟩
end Go.Proofs.Ytdhdfmmefghijaa.P
namespace Go.Proofs.Ytdhdfmmefghijaa.P
open Go.RowKit Go.Proofs.YtdhdfmmefghijaaW.PrintWords Go.Proofs.YtdhdfmmefghijaaW.PrintLast Go.Proofs.YtdhdfmmefghijaaW.PrintMore
attribute [local go_sem] max2_int min2_int max_two min_two max_three min_three max_four min_four
set_option linter.unusedVariables false
set_option linter.unusedSimpArgs false
mutual
def spec_TextValid.j0:Nat→ByteArray→Bool→Option (Bool)
 | 0,_,_=>none
 | k+1,x0,x14=>if x14=true then (some false) else (spec_TextValid.l0 k x0 0)
def spec_TextValid.l0:Nat→ByteArray→Int→Option (Bool)
 | 0,_,_=>none
 | k+1,x0,x3=>if x3 < (x0.size:Int) then (if 0≤x3 then (if (bt x0 x3) ≥ 97 then (if (bt x0 x3)≤122 then (spec_TextValid.j2 k x0 x3 (bt x0 x3) true) else (if (bt x0 x3) ≥ 48 then (spec_TextValid.j2 k x0 x3 (bt x0 x3) (decide ((bt x0 x3)≤57))) else (spec_TextValid.j2 k x0 x3 (bt x0 x3) false))) else (if (bt x0 x3) ≥ 48 then (spec_TextValid.j2 k x0 x3 (bt x0 x3) (decide ((bt x0 x3)≤57))) else (spec_TextValid.j2 k x0 x3 (bt x0 x3) false))) else (none)) else (some true)
def spec_TextValid.j2:Nat→ByteArray→Int→Int→Bool→Option (Bool)
 | 0,_,_,_,_=>none
 | k+1,x0,x3,x4,x5=>if x4=44 then (spec_TextValid.j3 k x0 x3 x5 true) else (if x4=58 then (spec_TextValid.j3 k x0 x3 x5 true) else (if x4=61 then (spec_TextValid.j3 k x0 x3 x5 true) else (if x4=123 then (spec_TextValid.j3 k x0 x3 x5 true) else (if x4=125 then (spec_TextValid.j3 k x0 x3 x5 true) else (if x4=40 then (spec_TextValid.j3 k x0 x3 x5 true) else (if x4=41 then (spec_TextValid.j3 k x0 x3 x5 true) else (if x4=91 then (spec_TextValid.j3 k x0 x3 x5 true) else (spec_TextValid.j3 k x0 x3 x5 (x4 == 93)))))))))
def spec_TextValid.j3:Nat→ByteArray→Int→Bool→Bool→Option (Bool)
 | 0,_,_,_,_=>none
 | k+1,x0,x3,x5,x6=>if x5=true then (spec_TextValid.l0 k x0 (wrap64 (x3+1))) else (if x6=true then (spec_TextValid.l0 k x0 (wrap64 (x3+1))) else (some false))
end
def spec_TextValid.f (k:Nat) (a0:ByteArray):Option (Bool):=if (a0.size:Int) < 1 then (spec_TextValid.j0 k a0 true) else (spec_TextValid.j0 k a0 (decide ((a0.size:Int) > 12)))
set_option maxHeartbeats 8000000 in
set_option maxRecDepth 100000 in
theorem spec_TextValid.calls (k:Nat) (a0:ByteArray) (r:Bool) (w:World) (h:spec_TextValid.f k a0=some r) :
  Calls Try.prog 18 #[.string a0] w fun e w'=>e=.returned (.bool r)∧Drawn0 w w':=by
 have H:(if (a0.size:Int) < 1 then (spec_TextValid.j0 k a0 true) else (spec_TextValid.j0 k a0 (decide ((a0.size:Int) > 12))))=some r:=h
 clear h
 have HC2:=Aside0.mk H
 clear H
 go_enter Try.func18,Try.ntmps18
 go_upto_region 1 with (fail)
 go_cut [14] (fun v14 wc=>∃ (kq:Nat) (x14_1:Bool),v14=.bool x14_1∧Aside0 (spec_TextValid.j0 kq a0 x14_1=some r)∧Aside0 (kq≤k)∧Drawn0 w wc)
 case first =>
  have H:=HC2.out
  clear HC2
  by_cases c3:(a0.size:Int) < 1
  ·rw [if_pos c3] at H
   have c3b0:decide ((a0.size:Int) < 1)=true:=decide_eq_true c3
   have c3b1:decide (a0.size < 1)=true:=decide_eq_true (by omega)
   clear c3
   (first|rw [c3b0]|(simp only [i64_w,i32_w];rw [c3b0])|skip)
   have H':=Aside0.mk H
   clear H
   go_wp2
   go_meet
   case rel=>exact ⟨_,(true),(by first|rfl|(simp;done)|(simp [*];done)),H',⟨by first|omega|exact Nat.le_refl _⟩,by repeat (first|exact Drawn0.refl _|apply Drawn0.step)⟩
  ·rw [if_neg c3] at H
   have c3b0:decide ((a0.size:Int) < 1)=false:=decide_eq_false c3
   have c3b1:decide (a0.size < 1)=false:=decide_eq_false (by omega)
   clear c3
   (first|rw [c3b0]|(simp only [i64_w,i32_w];rw [c3b0])|skip)
   have H':=Aside0.mk H
   clear H
   go_wp2
   go_meet
   case rel=>exact ⟨_,(decide ((a0.size:Int) > 12)),(by first|rfl|(simp;done)|(simp [*];done)),H',⟨by first|omega|exact Nat.le_refl _⟩,by repeat (first|exact Drawn0.refl _|apply Drawn0.step)⟩
 case rest =>
  clear HC2
  try clear c1 p2 c3 c3b0 c3b1
  obtain ⟨kq,x14_1,rfl,HA,HJ1,⟨mc1,rfl⟩⟩:=hcut
  cases kq with
  | zero=>exact absurd HA.out (by simp [spec_TextValid.j0])
  | succ kj1 =>
   have H:=HA.out
   clear HA
   simp only [spec_TextValid.j0] at H
   by_cases c4:x14_1=true
   ·subst c4
    have H1:(some false)=some r:=by rw [if_pos rfl] at H;exact H
    clear H
    have H:=H1
    clear H1
    obtain rfl:=Option.some.inj H
    go_wp2
    go_ret
    exact ⟨by first|rfl|(simp;done)|(simp [*];done),by repeat (first|exact Drawn0.refl _|apply Drawn0.step)⟩
   ·replace c4:=Bool.eq_false_iff.mpr c4
    subst c4
    have H1:(spec_TextValid.l0 kj1 a0 0)=some r:=by rw [if_neg (show ¬ (false=true) by decide)] at H;exact H
    clear H
    have H:=H1
    clear H1
    have H':=Aside0.mk H
    clear H
    go_wp2
    go_loopg [3] kj1 (fun kq v3 w'=>∃ (x3_2:Int),v3=.int .i64 x3_2∧Aside0 (spec_TextValid.l0 kq a0 x3_2=some r)∧Aside0 (kq≤kj1)∧Drawn0 w w')
    case atStart=>exact ⟨(0),(by first|rfl|(simp;done)|(simp [*];done)),H',⟨Nat.le_refl _⟩,by repeat (first|exact Drawn0.refl _|apply Drawn0.step)⟩
    case round =>
     clear H'
     try clear c1 p2 c3 c3b0 c3b1 c4 p2
     obtain ⟨x3_2,rfl,HA,HK2,⟨m2,rfl⟩⟩:=hrel
     cases gk with
     | zero=>exact absurd HA.out (by simp [spec_TextValid.l0])
     | succ k2 =>
      have H:=HA.out
      clear HA
      simp only [spec_TextValid.l0] at H
      by_cases c5:x3_2 < (a0.size:Int)
      ·rw [if_pos c5] at H
       have c5b0:decide (x3_2 < (a0.size:Int))=true:=decide_eq_true c5
       clear c5
       by_cases c6:0≤x3_2
       ·rw [if_pos c6] at H
        have c6b0:decide (0≤x3_2)=true:=decide_eq_true c6
        clear c6
        have HC8:=Aside0.mk H
        clear H
        have p7:0≤(x3_2:Int):=of_decide_eq_true (by first|(with_reducible assumption)|assumption)
        have q7:x3_2 < (a0.size:Int):=of_decide_eq_true (by first|(with_reducible assumption)|assumption)
        have hx7:=bt_at a0 x3_2
        replace p7:=eq_true p7
        replace q7:=eq_true q7
        go_upto_region 7 with (fail)
        go_cut [5] (fun v5 wc=>∃ (kq:Nat) (x5_7:Bool),v5=.bool x5_7∧Aside0 (spec_TextValid.j2 kq a0 x3_2 (bt a0 x3_2) x5_7=some r)∧Aside0 (kq≤k2)∧Drawn0 w wc)
        case first =>
         have H:=HC8.out
         clear HC8
         by_cases c9:(bt a0 x3_2) ≥ 97
         ·rw [if_pos c9] at H
          have c9b0:decide (97≤(bt a0 x3_2))=true:=decide_eq_true c9
          clear c9
          (first|rw [c9b0]|(simp only [i64_w,i32_w];rw [c9b0])|skip)
          by_cases c10:(bt a0 x3_2)≤122
          ·rw [if_pos c10] at H
           have c10b0:decide ((bt a0 x3_2)≤122)=true:=decide_eq_true c10
           clear c10
           have H':=Aside0.mk H
           clear H
           go_wp2
           go_meet
           case rel=>exact ⟨_,(true),(by first|rfl|(simp;done)|(simp [*];done)),H',⟨by have:=HJ1.out;have:=HK2.out;first|omega|exact Nat.le_refl _⟩,by repeat (first|exact Drawn0.refl _|apply Drawn0.step)⟩
          ·rw [if_neg c10] at H
           have c10b0:decide ((bt a0 x3_2)≤122)=false:=decide_eq_false c10
           clear c10
           by_cases c11:(bt a0 x3_2) ≥ 48
           ·rw [if_pos c11] at H
            have c11b0:decide (48≤(bt a0 x3_2))=true:=decide_eq_true c11
            clear c11
            have H':=Aside0.mk H
            clear H
            go_wp2
            go_meet
            case rel=>exact ⟨_,(decide ((bt a0 x3_2)≤57)),(by first|rfl|(simp;done)|(simp [*];done)),H',⟨by have:=HJ1.out;have:=HK2.out;first|omega|exact Nat.le_refl _⟩,by repeat (first|exact Drawn0.refl _|apply Drawn0.step)⟩
           ·rw [if_neg c11] at H
            have c11b0:decide (48≤(bt a0 x3_2))=false:=decide_eq_false c11
            clear c11
            have H':=Aside0.mk H
            clear H
            go_wp2
            go_meet
            case rel=>exact ⟨_,(false),(by first|rfl|(simp;done)|(simp [*];done)),H',⟨by have:=HJ1.out;have:=HK2.out;first|omega|exact Nat.le_refl _⟩,by repeat (first|exact Drawn0.refl _|apply Drawn0.step)⟩
         ·rw [if_neg c9] at H
          have c9b0:decide (97≤(bt a0 x3_2))=false:=decide_eq_false c9
          clear c9
          (first|rw [c9b0]|(simp only [i64_w,i32_w];rw [c9b0])|skip)
          by_cases c12:(bt a0 x3_2) ≥ 48
          ·rw [if_pos c12] at H
           have c12b0:decide (48≤(bt a0 x3_2))=true:=decide_eq_true c12
           clear c12
           have H':=Aside0.mk H
           clear H
           go_wp2
           go_meet
           case rel=>exact ⟨_,(decide ((bt a0 x3_2)≤57)),(by first|rfl|(simp;done)|(simp [*];done)),H',⟨by have:=HJ1.out;have:=HK2.out;first|omega|exact Nat.le_refl _⟩,by repeat (first|exact Drawn0.refl _|apply Drawn0.step)⟩
          ·rw [if_neg c12] at H
           have c12b0:decide (48≤(bt a0 x3_2))=false:=decide_eq_false c12
           clear c12
           have H':=Aside0.mk H
           clear H
           go_wp2
           go_meet
           case rel=>exact ⟨_,(false),(by first|rfl|(simp;done)|(simp [*];done)),H',⟨by have:=HJ1.out;have:=HK2.out;first|omega|exact Nat.le_refl _⟩,by repeat (first|exact Drawn0.refl _|apply Drawn0.step)⟩
        case rest =>
         clear HC8
         try clear c1 p2 c3 c3b0 c3b1 c4 c5 c5b0 c6 c6b0 p7 q7 hx7 c9 c9b0 c10 c10b0 c11 c11b0 c12 c12b0 p2 p7 q7
         obtain ⟨kq,x5_7,rfl,HA,HJ7,⟨mc7,rfl⟩⟩:=hcut
         cases kq with
         | zero=>exact absurd HA.out (by simp [spec_TextValid.j2])
         | succ kj7 =>
          have H:=HA.out
          clear HA
          simp only [spec_TextValid.j2] at H
          have HC13:=Aside0.mk H
          clear H
          go_upto_region 8 with (fail)
          go_cut [6] (fun v6 wc=>∃ (kq:Nat) (x6_12:Bool),v6=.bool x6_12∧Aside0 (spec_TextValid.j3 kq a0 x3_2 x5_7 x6_12=some r)∧Aside0 (kq≤kj7)∧Drawn0 w wc)
          case first =>
           have H:=HC13.out
           clear HC13
           by_cases c14:(bt a0 x3_2)=44
           ·rw [if_pos c14] at H
            have c14b0:((bt a0 x3_2) == 44)=true:=beq_iff_eq.mpr c14
            have c14b1:((bt a0 x3_2) != 44)=false:=bne_eq_false_iff_eq.mpr c14
            clear c14
            (first|rw [c14b0]|(simp only [i64_w,i32_w];rw [c14b0])|skip)
            have H':=Aside0.mk H
            clear H
            go_wp2
            go_meet
            case rel=>exact ⟨_,(true),(by first|rfl|(simp;done)|(simp [*];done)),H',⟨by have:=HJ1.out;have:=HK2.out;have:=HJ7.out;first|omega|exact Nat.le_refl _⟩,by repeat (first|exact Drawn0.refl _|apply Drawn0.step)⟩
           ·rw [if_neg c14] at H
            have c14b0:((bt a0 x3_2) == 44)=false:=beq_eq_false_iff_ne.mpr c14
            have c14b1:((bt a0 x3_2) != 44)=true:=bne_iff_ne.mpr c14
            (first|rw [c14b0]|(simp only [i64_w,i32_w];rw [c14b0])|skip)
            by_cases c15:(bt a0 x3_2)=58
            ·rw [if_pos c15] at H
             have c15b0:((bt a0 x3_2) == 58)=true:=beq_iff_eq.mpr c15
             have c15b1:((bt a0 x3_2) != 58)=false:=bne_eq_false_iff_eq.mpr c15
             clear c15
             have H':=Aside0.mk H
             clear H
             go_wp2
             go_meet
             case rel=>exact ⟨_,(true),(by first|rfl|(simp;done)|(simp [*];done)),H',⟨by have:=HJ1.out;have:=HK2.out;have:=HJ7.out;first|omega|exact Nat.le_refl _⟩,by repeat (first|exact Drawn0.refl _|apply Drawn0.step)⟩
            ·rw [if_neg c15] at H
             have c15b0:((bt a0 x3_2) == 58)=false:=beq_eq_false_iff_ne.mpr c15
             have c15b1:((bt a0 x3_2) != 58)=true:=bne_iff_ne.mpr c15
             by_cases c16:(bt a0 x3_2)=61
             ·rw [if_pos c16] at H
              have c16b0:((bt a0 x3_2) == 61)=true:=beq_iff_eq.mpr c16
              have c16b1:((bt a0 x3_2) != 61)=false:=bne_eq_false_iff_eq.mpr c16
              clear c16
              have H':=Aside0.mk H
              clear H
              go_wp2
              go_meet
              case rel=>exact ⟨_,(true),(by first|rfl|(simp;done)|(simp [*];done)),H',⟨by have:=HJ1.out;have:=HK2.out;have:=HJ7.out;first|omega|exact Nat.le_refl _⟩,by repeat (first|exact Drawn0.refl _|apply Drawn0.step)⟩
             ·rw [if_neg c16] at H
              have c16b0:((bt a0 x3_2) == 61)=false:=beq_eq_false_iff_ne.mpr c16
              have c16b1:((bt a0 x3_2) != 61)=true:=bne_iff_ne.mpr c16
              by_cases c17:(bt a0 x3_2)=123
              ·rw [if_pos c17] at H
               have c17b0:((bt a0 x3_2) == 123)=true:=beq_iff_eq.mpr c17
               have c17b1:((bt a0 x3_2) != 123)=false:=bne_eq_false_iff_eq.mpr c17
               clear c17
               have H':=Aside0.mk H
               clear H
               go_wp2
               go_meet
               case rel=>exact ⟨_,(true),(by first|rfl|(simp;done)|(simp [*];done)),H',⟨by have:=HJ1.out;have:=HK2.out;have:=HJ7.out;first|omega|exact Nat.le_refl _⟩,by repeat (first|exact Drawn0.refl _|apply Drawn0.step)⟩
              ·rw [if_neg c17] at H
               have c17b0:((bt a0 x3_2) == 123)=false:=beq_eq_false_iff_ne.mpr c17
               have c17b1:((bt a0 x3_2) != 123)=true:=bne_iff_ne.mpr c17
               by_cases c18:(bt a0 x3_2)=125
               ·rw [if_pos c18] at H
                have c18b0:((bt a0 x3_2) == 125)=true:=beq_iff_eq.mpr c18
                have c18b1:((bt a0 x3_2) != 125)=false:=bne_eq_false_iff_eq.mpr c18
                clear c18
                have H':=Aside0.mk H
                clear H
                go_wp2
                go_meet
                case rel=>exact ⟨_,(true),(by first|rfl|(simp;done)|(simp [*];done)),H',⟨by have:=HJ1.out;have:=HK2.out;have:=HJ7.out;first|omega|exact Nat.le_refl _⟩,by repeat (first|exact Drawn0.refl _|apply Drawn0.step)⟩
               ·rw [if_neg c18] at H
                have c18b0:((bt a0 x3_2) == 125)=false:=beq_eq_false_iff_ne.mpr c18
                have c18b1:((bt a0 x3_2) != 125)=true:=bne_iff_ne.mpr c18
                by_cases c19:(bt a0 x3_2)=40
                ·rw [if_pos c19] at H
                 have c19b0:((bt a0 x3_2) == 40)=true:=beq_iff_eq.mpr c19
                 have c19b1:((bt a0 x3_2) != 40)=false:=bne_eq_false_iff_eq.mpr c19
                 clear c19
                 have H':=Aside0.mk H
                 clear H
                 go_wp2
                 go_meet
                 case rel=>exact ⟨_,(true),(by first|rfl|(simp;done)|(simp [*];done)),H',⟨by have:=HJ1.out;have:=HK2.out;have:=HJ7.out;first|omega|exact Nat.le_refl _⟩,by repeat (first|exact Drawn0.refl _|apply Drawn0.step)⟩
                ·rw [if_neg c19] at H
                 have c19b0:((bt a0 x3_2) == 40)=false:=beq_eq_false_iff_ne.mpr c19
                 have c19b1:((bt a0 x3_2) != 40)=true:=bne_iff_ne.mpr c19
                 by_cases c20:(bt a0 x3_2)=41
                 ·rw [if_pos c20] at H
                  have c20b0:((bt a0 x3_2) == 41)=true:=beq_iff_eq.mpr c20
                  have c20b1:((bt a0 x3_2) != 41)=false:=bne_eq_false_iff_eq.mpr c20
                  clear c20
                  have H':=Aside0.mk H
                  clear H
                  go_wp2
                  go_meet
                  case rel=>exact ⟨_,(true),(by first|rfl|(simp;done)|(simp [*];done)),H',⟨by have:=HJ1.out;have:=HK2.out;have:=HJ7.out;first|omega|exact Nat.le_refl _⟩,by repeat (first|exact Drawn0.refl _|apply Drawn0.step)⟩
                 ·rw [if_neg c20] at H
                  have c20b0:((bt a0 x3_2) == 41)=false:=beq_eq_false_iff_ne.mpr c20
                  have c20b1:((bt a0 x3_2) != 41)=true:=bne_iff_ne.mpr c20
                  by_cases c21:(bt a0 x3_2)=91
                  ·rw [if_pos c21] at H
                   have c21b0:((bt a0 x3_2) == 91)=true:=beq_iff_eq.mpr c21
                   have c21b1:((bt a0 x3_2) != 91)=false:=bne_eq_false_iff_eq.mpr c21
                   clear c21
                   have H':=Aside0.mk H
                   clear H
                   go_wp2
                   go_meet
                   case rel=>exact ⟨_,(true),(by first|rfl|(simp;done)|(simp [*];done)),H',⟨by have:=HJ1.out;have:=HK2.out;have:=HJ7.out;first|omega|exact Nat.le_refl _⟩,by repeat (first|exact Drawn0.refl _|apply Drawn0.step)⟩
                  ·rw [if_neg c21] at H
                   have c21b0:((bt a0 x3_2) == 91)=false:=beq_eq_false_iff_ne.mpr c21
                   have c21b1:((bt a0 x3_2) != 91)=true:=bne_iff_ne.mpr c21
                   have H':=Aside0.mk H
                   clear H
                   go_wp2
                   go_meet
                   case rel=>exact ⟨_,(((bt a0 x3_2) == 93)),(by first|rfl|(simp;done)|(simp [*];done)),H',⟨by have:=HJ1.out;have:=HK2.out;have:=HJ7.out;first|omega|exact Nat.le_refl _⟩,by repeat (first|exact Drawn0.refl _|apply Drawn0.step)⟩
          case rest =>
           clear HC13
           try clear c1 c2 p2 c3 c3b0 c3b1 c4 c5 c5b0 c6 c6b0 c7 p7 q7 hx7 c9 c9b0 c10 c10b0 c11 c11b0 c12 c12b0 c14 c14b0 c14b1 c15 c15b0 c15b1 c16 c16b0 c16b1 c17 c17b0 c17b1 c18 c18b0 c18b1 c19 c19b0 c19b1 c20 c20b0 c20b1 c21 c21b0 c21b1 p2 p7 q7
           obtain ⟨kq,x6_12,rfl,HA,HJ12,⟨mc12,rfl⟩⟩:=hcut
           cases kq with
           | zero=>exact absurd HA.out (by simp [spec_TextValid.j3])
           | succ kj12 =>
            have H:=HA.out
            clear HA
            simp only [spec_TextValid.j3] at H
            by_cases c22:x5_7=true
            ·subst c22
             have H1:(spec_TextValid.l0 kj12 a0 (wrap64 (x3_2+1)))=some r:=by rw [if_pos rfl] at H;exact H
             clear H
             have H:=H1
             clear H1
             have H':=Aside0.mk H
             clear H
             go_wp2
             go_roundg kj12
             case measure=>have:=HJ1.out;have:=HK2.out;have:=HJ7.out;have:=HJ12.out;omega
             case rel=>exact ⟨(wrap64 (x3_2+1)),(by first|rfl|(simp;done)|(simp [*];done)),H',⟨by have:=HJ1.out;have:=HK2.out;have:=HJ7.out;have:=HJ12.out;omega⟩,by repeat (first|exact Drawn0.refl _|apply Drawn0.step)⟩
            ·replace c22:=Bool.eq_false_iff.mpr c22
             subst c22
             have H1:(if x6_12=true then (spec_TextValid.l0 kj12 a0 (wrap64 (x3_2+1))) else (some false))=some r:=by rw [if_neg (show ¬ (false=true) by decide)] at H;exact H
             clear H
             have H:=H1
             clear H1
             by_cases c23:x6_12=true
             ·subst c23
              have H1:(spec_TextValid.l0 kj12 a0 (wrap64 (x3_2+1)))=some r:=by rw [if_pos rfl] at H;exact H
              clear H
              have H:=H1
              clear H1
              have H':=Aside0.mk H
              clear H
              go_wp2
              go_roundg kj12
              case measure=>have:=HJ1.out;have:=HK2.out;have:=HJ7.out;have:=HJ12.out;omega
              case rel=>exact ⟨(wrap64 (x3_2+1)),(by first|rfl|(simp;done)|(simp [*];done)),H',⟨by have:=HJ1.out;have:=HK2.out;have:=HJ7.out;have:=HJ12.out;omega⟩,by repeat (first|exact Drawn0.refl _|apply Drawn0.step)⟩
             ·replace c23:=Bool.eq_false_iff.mpr c23
              subst c23
              have H1:(some false)=some r:=by rw [if_neg (show ¬ (false=true) by decide)] at H;exact H
              clear H
              have H:=H1
              clear H1
              obtain rfl:=Option.some.inj H
              go_wp2
              go_ret
              exact ⟨by first|rfl|(simp;done)|(simp [*];done),by repeat (first|exact Drawn0.refl _|apply Drawn0.step)⟩
       ·rw [if_neg c6] at H
        exact absurd H (by simp)
      ·rw [if_neg c5] at H
       have c5b0:decide (x3_2 < (a0.size:Int))=false:=decide_eq_false c5
       clear c5
       obtain rfl:=Option.some.inj H
       go_wp2
       go_ret
       exact ⟨by first|rfl|(simp;done)|(simp [*];done),by repeat (first|exact Drawn0.refl _|apply Drawn0.step)⟩
end Go.Proofs.Ytdhdfmmefghijaa.P
namespace Go.Proofs.Ytdhdfmmefghijaa.P
open Go.RowKit Go.Proofs.YtdhdfmmefghijaaW.PrintWords Go.Proofs.YtdhdfmmefghijaaW.PrintLast Go.Proofs.YtdhdfmmefghijaaW.PrintMore
attribute [local go_sem] max2_int min2_int max_two min_two max_three min_three max_four min_four
set_option linter.unusedVariables false
set_option linter.unusedSimpArgs false
mutual
def spec_l1Kids.j0:Nat→Int→Bool→Option (Int)
 | 0,_,_=>none
 | k+1,x3,x4=>if x4=true then (some 0) else (if x3=6 then (spec_l1Kids.j1 k x3 (x3 == 6)) else (spec_l1Kids.j1 k x3 (x3 == 8)))
def spec_l1Kids.j1:Nat→Int→Bool→Option (Int)
 | 0,_,_=>none
 | k+1,x3,x10=>if x10=true then (some 1) else (if x3=7 then (some 2) else (some (-1)))
end
def spec_l1Kids.f (k:Nat) (a0:Int):Option (Int):=if a0=1 then (spec_l1Kids.j0 k a0 (a0 == 1)) else (if a0=2 then (spec_l1Kids.j0 k a0 (a0 == 2)) else (if a0=3 then (spec_l1Kids.j0 k a0 (a0 == 3)) else (if a0=4 then (spec_l1Kids.j0 k a0 (a0 == 4)) else (spec_l1Kids.j0 k a0 (a0 == 5)))))
set_option maxHeartbeats 8000000 in
set_option maxRecDepth 100000 in
theorem spec_l1Kids.calls (k:Nat) (a0:Int) (r:Int) (w:World) (h:spec_l1Kids.f k a0=some r) :
  Calls Try.prog 73 #[.int .i64 a0] w fun e w'=>e=.returned (.int .i64 r)∧Drawn0 w w':=by
 have H:(if a0=1 then (spec_l1Kids.j0 k a0 (a0 == 1)) else (if a0=2 then (spec_l1Kids.j0 k a0 (a0 == 2)) else (if a0=3 then (spec_l1Kids.j0 k a0 (a0 == 3)) else (if a0=4 then (spec_l1Kids.j0 k a0 (a0 == 4)) else (spec_l1Kids.j0 k a0 (a0 == 5))))))=some r:=h
 clear h
 have HC2:=Aside0.mk H
 clear H
 go_enter Try.func73,Try.ntmps73
 go_upto_if 4 with (fail)
 go_cut [4] (fun v4 wc=>∃ (kq:Nat) (x4_1:Bool),v4=.bool x4_1∧Aside0 (spec_l1Kids.j0 kq a0 x4_1=some r)∧Aside0 (kq≤k)∧Drawn0 w wc)
 case first =>
  have H:=HC2.out
  clear HC2
  by_cases c3:a0=1
  ·rw [if_pos c3] at H
   have c3b0:(a0 == 1)=true:=beq_iff_eq.mpr c3
   have c3b1:(a0 != 1)=false:=bne_eq_false_iff_eq.mpr c3
   clear c3
   (first|rw [c3b0]|(simp only [i64_w,i32_w];rw [c3b0])|skip)
   have H':=Aside0.mk H
   clear H
   go_wp2
   go_meet
   case rel=>exact ⟨_,((a0 == 1)),(by first|rfl|(simp;done)|(simp [*];done)),H',⟨by first|omega|exact Nat.le_refl _⟩,by repeat (first|exact Drawn0.refl _|apply Drawn0.step)⟩
  ·rw [if_neg c3] at H
   have c3b0:(a0 == 1)=false:=beq_eq_false_iff_ne.mpr c3
   have c3b1:(a0 != 1)=true:=bne_iff_ne.mpr c3
   (first|rw [c3b0]|(simp only [i64_w,i32_w];rw [c3b0])|skip)
   by_cases c4:a0=2
   ·rw [if_pos c4] at H
    have c4b0:(a0 == 2)=true:=beq_iff_eq.mpr c4
    have c4b1:(a0 != 2)=false:=bne_eq_false_iff_eq.mpr c4
    clear c4
    have H':=Aside0.mk H
    clear H
    go_wp2
    go_meet
    case rel=>exact ⟨_,((a0 == 2)),(by first|rfl|(simp;done)|(simp [*];done)),H',⟨by first|omega|exact Nat.le_refl _⟩,by repeat (first|exact Drawn0.refl _|apply Drawn0.step)⟩
   ·rw [if_neg c4] at H
    have c4b0:(a0 == 2)=false:=beq_eq_false_iff_ne.mpr c4
    have c4b1:(a0 != 2)=true:=bne_iff_ne.mpr c4
    by_cases c5:a0=3
    ·rw [if_pos c5] at H
     have c5b0:(a0 == 3)=true:=beq_iff_eq.mpr c5
     have c5b1:(a0 != 3)=false:=bne_eq_false_iff_eq.mpr c5
     clear c5
     have H':=Aside0.mk H
     clear H
     go_wp2
     go_meet
     case rel=>exact ⟨_,((a0 == 3)),(by first|rfl|(simp;done)|(simp [*];done)),H',⟨by first|omega|exact Nat.le_refl _⟩,by repeat (first|exact Drawn0.refl _|apply Drawn0.step)⟩
    ·rw [if_neg c5] at H
     have c5b0:(a0 == 3)=false:=beq_eq_false_iff_ne.mpr c5
     have c5b1:(a0 != 3)=true:=bne_iff_ne.mpr c5
     by_cases c6:a0=4
     ·rw [if_pos c6] at H
      have c6b0:(a0 == 4)=true:=beq_iff_eq.mpr c6
      have c6b1:(a0 != 4)=false:=bne_eq_false_iff_eq.mpr c6
      clear c6
      have H':=Aside0.mk H
      clear H
      go_wp2
      go_meet
      case rel=>exact ⟨_,((a0 == 4)),(by first|rfl|(simp;done)|(simp [*];done)),H',⟨by first|omega|exact Nat.le_refl _⟩,by repeat (first|exact Drawn0.refl _|apply Drawn0.step)⟩
     ·rw [if_neg c6] at H
      have c6b0:(a0 == 4)=false:=beq_eq_false_iff_ne.mpr c6
      have c6b1:(a0 != 4)=true:=bne_iff_ne.mpr c6
      have H':=Aside0.mk H
      clear H
      go_wp2
      go_meet
      case rel=>exact ⟨_,((a0 == 5)),(by first|rfl|(simp;done)|(simp [*];done)),H',⟨by first|omega|exact Nat.le_refl _⟩,by repeat (first|exact Drawn0.refl _|apply Drawn0.step)⟩
 case rest =>
  clear HC2
  try clear p2 c3 c3b0 c3b1 c4 c4b0 c4b1 c5 c5b0 c5b1 c6 c6b0 c6b1
  obtain ⟨kq,x4_1,rfl,HA,HJ1,⟨mc1,rfl⟩⟩:=hcut
  cases kq with
  | zero=>exact absurd HA.out (by simp [spec_l1Kids.j0])
  | succ kj1 =>
   have H:=HA.out
   clear HA
   simp only [spec_l1Kids.j0] at H
   by_cases c7:x4_1=true
   ·subst c7
    have H1:(some 0)=some r:=by rw [if_pos rfl] at H;exact H
    clear H
    have H:=H1
    clear H1
    obtain rfl:=Option.some.inj H
    go_wp2
    go_ret
    exact ⟨by first|rfl|(simp;done)|(simp [*];done),by repeat (first|exact Drawn0.refl _|apply Drawn0.step)⟩
   ·replace c7:=Bool.eq_false_iff.mpr c7
    subst c7
    have H1:(if a0=6 then (spec_l1Kids.j1 kj1 a0 (a0 == 6)) else (spec_l1Kids.j1 kj1 a0 (a0 == 8)))=some r:=by rw [if_neg (show ¬ (false=true) by decide)] at H;exact H
    clear H
    have H:=H1
    clear H1
    have HC8:=Aside0.mk H
    clear H
    go_upto_if 10 with (fail)
    go_cut [10] (fun v10 wc=>∃ (kq:Nat) (x10_7:Bool),v10=.bool x10_7∧Aside0 (spec_l1Kids.j1 kq a0 x10_7=some r)∧Aside0 (kq≤kj1)∧Drawn0 w wc)
    case first =>
     have H:=HC8.out
     clear HC8
     by_cases c9:a0=6
     ·rw [if_pos c9] at H
      have c9b0:(a0 == 6)=true:=beq_iff_eq.mpr c9
      have c9b1:(a0 != 6)=false:=bne_eq_false_iff_eq.mpr c9
      clear c9
      (first|rw [c9b0]|(simp only [i64_w,i32_w];rw [c9b0])|skip)
      have H':=Aside0.mk H
      clear H
      go_wp2
      go_meet
      case rel=>exact ⟨_,((a0 == 6)),(by first|rfl|(simp;done)|(simp [*];done)),H',⟨by have:=HJ1.out;first|omega|exact Nat.le_refl _⟩,by repeat (first|exact Drawn0.refl _|apply Drawn0.step)⟩
     ·rw [if_neg c9] at H
      have c9b0:(a0 == 6)=false:=beq_eq_false_iff_ne.mpr c9
      have c9b1:(a0 != 6)=true:=bne_iff_ne.mpr c9
      (first|rw [c9b0]|(simp only [i64_w,i32_w];rw [c9b0])|skip)
      have H':=Aside0.mk H
      clear H
      go_wp2
      go_meet
      case rel=>exact ⟨_,((a0 == 8)),(by first|rfl|(simp;done)|(simp [*];done)),H',⟨by have:=HJ1.out;first|omega|exact Nat.le_refl _⟩,by repeat (first|exact Drawn0.refl _|apply Drawn0.step)⟩
    case rest =>
     clear HC8
     try clear c1 p2 c3 c3b0 c3b1 c4 c4b0 c4b1 c5 c5b0 c5b1 c6 c6b0 c6b1 c7 c9 c9b0 c9b1 p2
     obtain ⟨kq,x10_7,rfl,HA,HJ7,⟨mc7,rfl⟩⟩:=hcut
     cases kq with
     | zero=>exact absurd HA.out (by simp [spec_l1Kids.j1])
     | succ kj7 =>
      have H:=HA.out
      clear HA
      simp only [spec_l1Kids.j1] at H
      by_cases c10:x10_7=true
      ·subst c10
       have H1:(some 1)=some r:=by rw [if_pos rfl] at H;exact H
       clear H
       have H:=H1
       clear H1
       obtain rfl:=Option.some.inj H
       go_wp2
       go_ret
       exact ⟨by first|rfl|(simp;done)|(simp [*];done),by repeat (first|exact Drawn0.refl _|apply Drawn0.step)⟩
      ·replace c10:=Bool.eq_false_iff.mpr c10
       subst c10
       have H1:(if a0=7 then (some 2) else (some (-1)))=some r:=by rw [if_neg (show ¬ (false=true) by decide)] at H;exact H
       clear H
       have H:=H1
       clear H1
       by_cases c11:a0=7
       ·rw [if_pos c11] at H
        have c11b0:(a0 == 7)=true:=beq_iff_eq.mpr c11
        have c11b1:(a0 != 7)=false:=bne_eq_false_iff_eq.mpr c11
        clear c11
        obtain rfl:=Option.some.inj H
        go_wp2
        go_ret
        exact ⟨by first|rfl|(simp;done)|(simp [*];done),by repeat (first|exact Drawn0.refl _|apply Drawn0.step)⟩
       ·rw [if_neg c11] at H
        have c11b0:(a0 == 7)=false:=beq_eq_false_iff_ne.mpr c11
        have c11b1:(a0 != 7)=true:=bne_iff_ne.mpr c11
        obtain rfl:=Option.some.inj H
        go_wp2
        go_ret
        exact ⟨by first|rfl|(simp;done)|(simp [*];done),by repeat (first|exact Drawn0.refl _|apply Drawn0.step)⟩
end Go.Proofs.Ytdhdfmmefghijaa.P
