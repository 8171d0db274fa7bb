/- CONTRACTS and lemmas: each contract says that a Go function of the program, called over the translation under the theorem's own hypotheses, returns what the Lean function beside it computes. -/
import Derived.Test.YtdhdfmmefghijaaVLa3
import Derived.Test.YtdhdfmmefghijaaProg
import Derived.Below
import Derived.Deep.Draws
import Derived.Deep.AppendLies
import Derived.Maps.AppendAt
import Derived.OwnWalk
import Derived.Laws.BytesArg
import Derived.Laws.MakeOwn
import Derived.Laws.OwnMore
import Derived.Deep.OwnRows
import Derived.Tactics
import Derived.Lib.ConvBytes
import Derived.Laws.Slices
import Derived.WalkKit
import Derived.KernelRfl
import Derived.RowKit3
import Derived.Deep.LoopGhost
import Derived.Deep.QuietTactic
import Derived.BigQuiet
import Derived.WideLaws
import Derived.Deep.DeepCutAuto
import Derived.Deep.CutBlock
import Derived.Deep.RegionHeld3
import Derived.Laws.Rows
import Derived.Lib.AppendStr
import Derived.ArgAppend
import Derived.Laws.IdiomCopy
import Derived.OrdersHeld
import Derived.Laws.BitsLemmas
import Derived.RowKit
import Derived.WalkSpells
namespace Go.Proofs.Ytdhdfmmefghijaa.P
open Go.RowKit Go.Proofs.YtdhdfmmefghijaaW.PrintWords Go.Proofs.YtdhdfmmefghijaaW.PrintLast Go.Proofs.YtdhdfmmefghijaaW.PrintMore
attribute [local go_sem] max2_int min2_int max_two min_two max_three min_three max_four min_four
set_option linter.unusedVariables false
set_option linter.unusedSimpArgs false
def errW:Option Int→Value
 | none=>.nilIface
 | some c=>.iface 0 (.int .i64 c)
theorem errW_none:errW none=.nilIface:=rfl
theorem errW_some (c:Int):errW (some c)=.iface 0 (.int .i64 c):=rfl
theorem info5:(Try.prog.info? 5).map (fun i=>(i.zero,i.size,i.bytes))=some (some (.int .u8 0),1,1):=by kernel_rfl
theorem info27:(Try.prog.info? 27).map (fun i=>(i.zero,i.size,i.bytes))=some (some (.agg #[(.int .i64 0),(.int .i64 0),(.string ⟨#[]⟩),(.slice none 0 0)]),4,56):=by kernel_rfl
structure SDoc where
 f0:Int
 f1:Int
 f2:ByteArray
 f3:(List SDoc)
def zDoc:SDoc:=⟨(0:Int),(0:Int),(⟨#[]⟩:ByteArray),([]:List SDoc)⟩
def F27 (d:Kd SDoc):Kd SDoc:=Kd.iso (Kd.pair (Kd.int .i64) (Kd.pair (Kd.int .i64) (Kd.pair Kd.string (Kd.slice 27 d)))) (fun x:SDoc=>(x.f0,x.f1,x.f2,x.f3))
theorem mono27:Kd.Mono F27:=Kd.mono_iso _ (Kd.mono_pair (Kd.mono_const _) (Kd.mono_pair (Kd.mono_const _) (Kd.mono_pair (Kd.mono_const _) (Kd.mono_slice 27 Kd.mono_id))))
theorem sub27:Kd.Sub F27 [27]:=Kd.sub_iso _ (Kd.sub_pair (Kd.sub_const _ (by decide)) (Kd.sub_pair (Kd.sub_const _ (by decide)) (Kd.sub_pair (Kd.sub_const _ (by decide)) (Kd.sub_slice 27 (by decide) Kd.sub_id))))
theorem sz27:∀ n,(Kd.upto F27 4 [27] n).sz=4:=Kd.upto_sz (fun _=>rfl)
def k27:Kd SDoc:=Kd.fix F27 4 [27] sz27 (Kd.upto_E sub27)
theorem k27_open {w:World} {x:SDoc} {cs:List Value} (h:k27.K w x cs):∃ A3 c3,cs=[.int .i64 x.f0,.int .i64 x.f1,.string x.f2,.slice A3 x.f3.length c3]∧x.f3.length≤c3∧k27.C w A3 x.f3.length x.f3:=by
 obtain ⟨n,h⟩:=h
 cases n with
 | zero=>exact h.elim
 | succ n =>
  obtain ⟨_,_,rfl,rfl,⟨_,_,rfl,rfl,⟨_,_,rfl,rfl,⟨A3,c3,rfl,l3,g3⟩⟩⟩⟩:=h
  exact ⟨A3,c3,rfl,l3,Kd.fix_C g3⟩
theorem k27_mk (w:World) (x:SDoc) {A3:Option Addr} {c3:Nat} (l3:x.f3.length≤c3) (g3:k27.C w A3 x.f3.length x.f3):k27.K w x [.int .i64 x.f0,.int .i64 x.f1,.string x.f2,.slice A3 x.f3.length c3]:=by
 obtain ⟨n3,q3⟩:=Kd.fix_C_back mono27 g3
 have r3:=Kd.upto_C_le mono27 sz27 (show n3≤n3 by omega) q3
 exact ⟨n3+1,⟨[.int .i64 x.f0],[.int .i64 x.f1,.string x.f2,.slice A3 x.f3.length c3],rfl,rfl,⟨[.int .i64 x.f1],[.string x.f2,.slice A3 x.f3.length c3],rfl,rfl,⟨[.string x.f2],[.slice A3 x.f3.length c3],rfl,rfl,⟨A3,c3,rfl,l3,r3⟩⟩⟩⟩⟩
theorem k27_mkM (w:World) (base:Nat) (ok:Nat→Prop) (x:SDoc) {v3:Value} (g3:k27.R 27 w base ok v3 x.f3):k27.M w base ok x [.int .i64 x.f0,.int .i64 x.f1,.string x.f2,v3]:=by
 obtain ⟨n3,q3⟩:=Kd.fix_R_back mono27 g3
 have r3:=Kd.upto_R_le mono27 sz27 (show n3≤n3 by omega) q3
 exact ⟨n3+1,⟨[.int .i64 x.f0],[.int .i64 x.f1,.string x.f2,v3],rfl,rfl,⟨[.int .i64 x.f1],[.string x.f2,v3],rfl,rfl,⟨[.string x.f2],[v3],rfl,rfl,⟨v3,rfl,r3⟩⟩⟩⟩⟩
theorem k27_openF {W:World} {ok:Nat→Prop} {x:SDoc} {cs:List Value} (h:Kd.FK k27 W ok x cs):∃ A3 c3,cs=[.int .i64 x.f0,.int .i64 x.f1,.string x.f2,.slice A3 x.f3.length c3]∧x.f3.length≤c3∧Kd.F k27 W ok A3 x.f3.length x.f3:=by
 obtain ⟨A3,c3,rfl,l3,_⟩:=k27_open (Kd.FK_now h)
 exact ⟨A3,c3,rfl,l3,(fun W' hW=>by obtain ⟨A3_,c3_,he,l3_,g3_⟩:=k27_open (h W' hW);injection (Option.some.inj (show some (Value.slice A3 x.f3.length c3)=some (Value.slice A3_ x.f3.length c3_) from congrArg (fun l=>l[3]?) he)) with ha_ _ _;rw [ha_];exact g3_)⟩
theorem k27_mkF (W:World) (ok:Nat→Prop) (x:SDoc) {A3:Option Addr} {c3:Nat} (l3:x.f3.length≤c3) (g3:Kd.F k27 W ok A3 x.f3.length x.f3):Kd.FK k27 W ok x [.int .i64 x.f0,.int .i64 x.f1,.string x.f2,.slice A3 x.f3.length c3]:=fun W2 hW=>k27_mk W2 x l3 (g3 W2 hW)
def rd_TDoc (xs:List SDoc) (i:Int):SDoc:=xs.getD i.toNat zDoc
theorem at_TDoc {w:World} {A:Option Addr} {n:Nat} {xs:List SDoc} (h:Kd.C k27 w A n xs) (i:Int) (h0:0≤i) (h1:i < n):∃ ad A3 c3,A=some ad∧w.cell? (ad.add (i.toNat * 4))=some (.int .i64 (rd_TDoc xs i).f0)∧w.cell? ⟨(ad.add (i.toNat * 4)).block,(ad.add (i.toNat * 4)).off+1,none⟩=some (.int .i64 (rd_TDoc xs i).f1)∧w.cell? ⟨(ad.add (i.toNat * 4)).block,(ad.add (i.toNat * 4)).off+2,none⟩=some (.string (rd_TDoc xs i).f2)∧w.cell? ⟨(ad.add (i.toNat * 4)).block,(ad.add (i.toNat * 4)).off+3,none⟩=some (.slice A3 (rd_TDoc xs i).f3.length c3)∧(rd_TDoc xs i).f3.length≤c3∧k27.C w A3 (rd_TDoc xs i).f3.length (rd_TDoc xs i).f3:=by
 obtain ⟨ad,c,e,_,hK,hc0⟩:=Kd.C_get h zDoc i h0 h1
 have hc:∀ j u,c[j]?=some u→w.cell? (ad.add (i.toNat * 4+j))=some u:=hc0
 obtain ⟨A3,c3,rfl,l3,g3⟩:=k27_open hK
 exact ⟨ad,A3,c3,e,hc 0 _ rfl,by rw [← add_field _ _ 1 (by omega)];exact hc 1 _ rfl,by rw [← add_field _ _ 2 (by omega)];exact hc 2 _ rfl,by rw [← add_field _ _ 3 (by omega)];exact hc 3 _ rfl,l3,g3⟩
theorem xp_isEmpty (l:List UInt8):(!l.isEmpty)=(l != []):=by cases l <;> rfl
end Go.Proofs.Ytdhdfmmefghijaa.P
namespace Go.Proofs.Ytdhdfmmefghijaa.P
open Go.RowKit Go.Proofs.YtdhdfmmefghijaaW.PrintWords Go.Proofs.YtdhdfmmefghijaaW.PrintLast Go.Proofs.YtdhdfmmefghijaaW.PrintMore
class Gr (a b : World) : Prop where
  out : Below a.heap.size a b
instance gr_refl (a : World) : Gr a a := ⟨Below.refl _ _⟩
instance gr_alloc (a b : World) (o : Obj) [h : Gr a b] : Gr a (b.alloc o) := ⟨below_alloc h.out o⟩
instance gr_drewN (a b : World) (n : Nat) [h : Gr a b] : Gr a (b.drewN n) := ⟨pw_below_drewN h.out n⟩
instance gr_drew (a b : World) [h : Gr a b] : Gr a b.drew := ⟨below_drew1 h.out⟩
theorem gB {w a b : World} (h : Aside0 (Below w.heap.size w a)) [g : Gr a b] : Below w.heap.size w b := below_step h.out g.out
theorem gR {α : Type} {d : Kd α} {e : Nat} {a b : World} {base : Nat} {ok : Nat → Prop} {v : Value} {xs : List α} (h : Aside0 (d.R e a base ok v xs)) [g : Gr a b] : d.R e b base ok v xs := Kd.R_below h.out g.out
theorem gN {α : Type} {d : Kd α} {e : Nat} {a b : World} {base : Nat} {ok : Nat → Prop} {v : Value} {xs : List α} (h : Aside0 (Kd.N d e a base ok v xs)) [g : Gr a b] : Kd.N d e b base ok v xs := Kd.N_below h.out g.out
theorem gV {α : Type} {d : Kd α} {e : Nat} {a b : World} {base : Nat} {ok : Nat → Prop} {v : Value} {xs : List α} (h : Aside0 (Kd.V d e a base ok v xs)) [g : Gr a b] : Kd.V d e b base ok v xs := Kd.V_below h.out g.out
theorem gS {α : Type} {d : Kd α} {e : Nat} {a b : World} {base : Nat} {ok : Nat → Prop} {v : Value} {xs : List α} (h : Aside0 (Kd.S d e a base ok v xs)) [g : Gr a b] : Kd.S d e b base ok v xs := Kd.S_below h.out g.out
theorem gC {α : Type} {d : Kd α} {a b : World} {A : Option Addr} {n : Nat} {xs : List α} (h : d.C a A n xs) [g : Gr a b] : d.C b A n xs := Kd.C_below h g.out
theorem gK {a b : World} {g : Nat} {o : Obj} (h : Aside0 (a.heap[g]? = some o)) [r : Gr a b] : b.heap[g]? = some o := blk_below h.out r.out
theorem gW {w a b : World} {g : Nat} (h : Aside0 (KeepBut w a g none)) [r : Gr a b] : KeepBut w b g none := KeepBut.trans h.out (KeepBut.of_below r.out g none) (.inl rfl)
theorem gT {w a b : World} {S : Nat → Prop} (h : Aside0 (Kept w a S)) [r : Gr a b] : Kept w b S := Kept.below h.out r.out
end Go.Proofs.Ytdhdfmmefghijaa.P
namespace Go.Proofs.Ytdhdfmmefghijaa.P
open Go.RowKit Go.Proofs.YtdhdfmmefghijaaW.PrintWords Go.Proofs.YtdhdfmmefghijaaW.PrintLast Go.Proofs.YtdhdfmmefghijaaW.PrintMore
attribute [local go_sem] max2_int min2_int max_two min_two max_three min_three max_four min_four
set_option linter.unusedVariables false
set_option linter.unusedSimpArgs false
def strings_IndexByte.f (a0:ByteArray) (a1:Int):Option (Int):=some (Lib.indexByte a0.data.toList a1.toNat.toUInt8)
theorem strings_IndexByte.calls (a0:ByteArray) (a1:Int) (r:Int) (w:World) (h:strings_IndexByte.f a0 a1=some r) :
  Calls Try.prog 47 #[.string a0,.int .u8 a1] w fun e w'=>e=.returned (.int .i64 r)∧Drawn0 w w':=by
 obtain rfl:=Option.some.inj h
 refine (Try.strings_IndexByte a0 a1 w).mono ?_
 rintro e w' ⟨rfl,rfl⟩
 exact ⟨rfl,Drawn0.refl _⟩
end Go.Proofs.Ytdhdfmmefghijaa.P
namespace Go.Proofs.Ytdhdfmmefghijaa.P
open Go.RowKit Go.Proofs.YtdhdfmmefghijaaW.PrintWords Go.Proofs.YtdhdfmmefghijaaW.PrintLast Go.Proofs.YtdhdfmmefghijaaW.PrintMore
attribute [local go_sem] max2_int min2_int max_two min_two max_three min_three max_four min_four
set_option linter.unusedVariables false
set_option linter.unusedSimpArgs false
mutual
def impl_TextValid.l0:Nat→ByteArray→Int→Option (Bool)
 | 0,_,_=>none
 | k+1,x0,x3=>if x3 < (x0.size:Int) then (if 0≤x3 then (if (bt x0 x3) ≥ 97 then (if (bt x0 x3)≤122 then (impl_TextValid.j1 k x0 x3 (!true)) else (if (bt x0 x3) ≥ 48 then (if (bt x0 x3)≤57 then (impl_TextValid.j1 k x0 x3 (!true)) else ((strings_IndexByte.f (⟨#[44,58,61,123,125,40,41,91,93]⟩:ByteArray) (bt x0 x3)).bind fun t133=>(impl_TextValid.j1 k x0 x3 (!(decide (t133 ≥ 0)))))) else ((strings_IndexByte.f (⟨#[44,58,61,123,125,40,41,91,93]⟩:ByteArray) (bt x0 x3)).bind fun t134=>(impl_TextValid.j1 k x0 x3 (!(decide (t134 ≥ 0))))))) else (if (bt x0 x3) ≥ 48 then (if (bt x0 x3)≤57 then (impl_TextValid.j1 k x0 x3 (!true)) else ((strings_IndexByte.f (⟨#[44,58,61,123,125,40,41,91,93]⟩:ByteArray) (bt x0 x3)).bind fun t135=>(impl_TextValid.j1 k x0 x3 (!(decide (t135 ≥ 0)))))) else ((strings_IndexByte.f (⟨#[44,58,61,123,125,40,41,91,93]⟩:ByteArray) (bt x0 x3)).bind fun t136=>(impl_TextValid.j1 k x0 x3 (!(decide (t136 ≥ 0))))))) else (none)) else (if (x0.size:Int) ≥ 1 then (some (decide ((x0.size:Int)≤12))) else (some false))
def impl_TextValid.j1:Nat→ByteArray→Int→Bool→Option (Bool)
 | 0,_,_,_=>none
 | k+1,x0,x3,x39=>if x39=true then (some false) else (impl_TextValid.l0 k x0 (wrap64 (x3+1)))
end
def impl_TextValid.f (k:Nat) (a0:ByteArray):Option (Bool):=impl_TextValid.l0 k a0 0
set_option maxHeartbeats 8000000 in
set_option maxRecDepth 100000 in
theorem impl_TextValid.calls (k:Nat) (a0:ByteArray) (r:Bool) (w:World) (h:impl_TextValid.f k a0=some r) :
  Calls Try.prog 16 #[.string a0] w fun e w'=>e=.returned (.bool r)∧Drawn0 w w':=by
 have H:(impl_TextValid.l0 k a0 0)=some r:=h
 clear h
 have H':=Aside0.mk H
 clear H
 go_enter Try.func16,Try.ntmps16
 go_wp2
 go_loopg [3] k (fun kq v3 w'=>∃ (x3_1:Int),v3=.int .i64 x3_1∧Aside0 (impl_TextValid.l0 kq a0 x3_1=some r)∧Aside0 (kq≤k)∧Drawn0 w w')
 case atStart=>exact ⟨(0),(by first|rfl|(simp;done)|(simp [*];done)),H',⟨Nat.le_refl _⟩,by repeat (first|exact Drawn0.refl _|apply Drawn0.step)⟩
 case round =>
  clear H'
  try clear c1
  obtain ⟨x3_1,rfl,HA,HK1,⟨m1,rfl⟩⟩:=hrel
  cases gk with
  | zero=>exact absurd HA.out (by simp [impl_TextValid.l0])
  | succ k1 =>
   have H:=HA.out
   clear HA
   simp only [impl_TextValid.l0] at H
   by_cases c2:x3_1 < (a0.size:Int)
   ·rw [if_pos c2] at H
    have c2b0:decide (x3_1 < (a0.size:Int))=true:=decide_eq_true c2
    clear c2
    have HC3:=Aside0.mk H
    clear H
    go_upto_region 4 with (fail)
    go_cut [39] (fun v39 wc=>∃ (kq:Nat) (x39_2:Bool),v39=.bool x39_2∧Aside0 (impl_TextValid.j1 kq a0 x3_1 x39_2=some r)∧Aside0 (kq≤k1)∧Drawn0 w wc)
    case first =>
     have H:=HC3.out
     clear HC3
     by_cases c4:0≤x3_1
     ·rw [if_pos c4] at H
      have c4b0:decide (0≤x3_1)=true:=decide_eq_true c4
      clear c4
      (first|rw [c4b0]|(simp only [i64_w,i32_w];rw [c4b0])|skip)
      by_cases c6:(bt a0 x3_1) ≥ 97
      ·rw [if_pos c6] at H
       have c6b0:decide (97≤(bt a0 x3_1))=true:=decide_eq_true c6
       clear c6
       by_cases c8:(bt a0 x3_1)≤122
       ·rw [if_pos c8] at H
        have c8b0:decide ((bt a0 x3_1)≤122)=true:=decide_eq_true c8
        clear c8
        have H':=Aside0.mk H
        clear H
        have p5:0≤(x3_1:Int):=of_decide_eq_true (by first|(with_reducible assumption)|assumption)
        have q5:x3_1 < (a0.size:Int):=of_decide_eq_true (by first|(with_reducible assumption)|assumption)
        have hx5:=bt_at a0 x3_1
        replace p5:=eq_true p5
        replace q5:=eq_true q5
        have p7:0≤(x3_1:Int):=of_decide_eq_true (by first|(with_reducible assumption)|assumption)
        have q7:x3_1 < (a0.size:Int):=of_decide_eq_true (by first|(with_reducible assumption)|assumption)
        have hx7:=bt_at a0 x3_1
        replace p7:=eq_true p7
        replace q7:=eq_true q7
        go_wp2
        go_meet
        case rel=>exact ⟨_,(!true),(by first|rfl|(simp;done)|(simp [*];done)),H',⟨by have:=HK1.out;first|omega|exact Nat.le_refl _⟩,by repeat (first|exact Drawn0.refl _|apply Drawn0.step)⟩
       ·rw [if_neg c8] at H
        have c8b0:decide ((bt a0 x3_1)≤122)=false:=decide_eq_false c8
        clear c8
        by_cases c10:(bt a0 x3_1) ≥ 48
        ·rw [if_pos c10] at H
         have c10b0:decide (48≤(bt a0 x3_1))=true:=decide_eq_true c10
         clear c10
         by_cases c12:(bt a0 x3_1)≤57
         ·rw [if_pos c12] at H
          have c12b0:decide ((bt a0 x3_1)≤57)=true:=decide_eq_true c12
          clear c12
          have H':=Aside0.mk H
          clear H
          have p5:0≤(x3_1:Int):=of_decide_eq_true (by first|(with_reducible assumption)|assumption)
          have q5:x3_1 < (a0.size:Int):=of_decide_eq_true (by first|(with_reducible assumption)|assumption)
          have hx5:=bt_at a0 x3_1
          replace p5:=eq_true p5
          replace q5:=eq_true q5
          have p7:0≤(x3_1:Int):=of_decide_eq_true (by first|(with_reducible assumption)|assumption)
          have q7:x3_1 < (a0.size:Int):=of_decide_eq_true (by first|(with_reducible assumption)|assumption)
          have hx7:=bt_at a0 x3_1
          replace p7:=eq_true p7
          replace q7:=eq_true q7
          have p9:0≤(x3_1:Int):=of_decide_eq_true (by first|(with_reducible assumption)|assumption)
          have q9:x3_1 < (a0.size:Int):=of_decide_eq_true (by first|(with_reducible assumption)|assumption)
          have hx9:=bt_at a0 x3_1
          replace p9:=eq_true p9
          replace q9:=eq_true q9
          have p11:0≤(x3_1:Int):=of_decide_eq_true (by first|(with_reducible assumption)|assumption)
          have q11:x3_1 < (a0.size:Int):=of_decide_eq_true (by first|(with_reducible assumption)|assumption)
          have hx11:=bt_at a0 x3_1
          replace p11:=eq_true p11
          replace q11:=eq_true q11
          go_wp2
          go_meet
          case rel=>exact ⟨_,(!true),(by first|rfl|(simp;done)|(simp [*];done)),H',⟨by have:=HK1.out;first|omega|exact Nat.le_refl _⟩,by repeat (first|exact Drawn0.refl _|apply Drawn0.step)⟩
         ·rw [if_neg c12] at H
          have c12b0:decide ((bt a0 x3_1)≤57)=false:=decide_eq_false c12
          clear c12
          replace H:=Option.bind_eq_some_iff.mp H
          obtain ⟨t133,A140,H⟩:=H
          replace H:(impl_TextValid.j1 k1 a0 x3_1 (!(decide (t133 ≥ 0))))=some r:=H
          have A14:=Aside0.mk A140
          clear A140
          have H':=Aside0.mk H
          clear H
          have p5:0≤(x3_1:Int):=of_decide_eq_true (by first|(with_reducible assumption)|assumption)
          have q5:x3_1 < (a0.size:Int):=of_decide_eq_true (by first|(with_reducible assumption)|assumption)
          have hx5:=bt_at a0 x3_1
          replace p5:=eq_true p5
          replace q5:=eq_true q5
          have p7:0≤(x3_1:Int):=of_decide_eq_true (by first|(with_reducible assumption)|assumption)
          have q7:x3_1 < (a0.size:Int):=of_decide_eq_true (by first|(with_reducible assumption)|assumption)
          have hx7:=bt_at a0 x3_1
          replace p7:=eq_true p7
          replace q7:=eq_true q7
          have p9:0≤(x3_1:Int):=of_decide_eq_true (by first|(with_reducible assumption)|assumption)
          have q9:x3_1 < (a0.size:Int):=of_decide_eq_true (by first|(with_reducible assumption)|assumption)
          have hx9:=bt_at a0 x3_1
          replace p9:=eq_true p9
          replace q9:=eq_true q9
          have p11:0≤(x3_1:Int):=of_decide_eq_true (by first|(with_reducible assumption)|assumption)
          have q11:x3_1 < (a0.size:Int):=of_decide_eq_true (by first|(with_reducible assumption)|assumption)
          have hx11:=bt_at a0 x3_1
          replace p11:=eq_true p11
          replace q11:=eq_true q11
          have p13:0≤(x3_1:Int):=of_decide_eq_true (by first|(with_reducible assumption)|assumption)
          have q13:x3_1 < (a0.size:Int):=of_decide_eq_true (by first|(with_reducible assumption)|assumption)
          have hx13:=bt_at a0 x3_1
          replace p13:=eq_true p13
          replace q13:=eq_true q13
          go_wp2_with (first|(go_at_call 47;(with_reducible refine (strings_IndexByte.calls (⟨#[44,58,61,123,125,40,41,91,93]⟩:ByteArray) (bt a0 x3_1) t133 _ A14.out).mono ?_);rintro e w' ⟨rfl,⟨nd,rfl⟩⟩))
          go_meet
          case rel=>exact ⟨_,(!(decide (t133 ≥ 0))),(by first|rfl|(simp;done)|(simp [*];done)),H',⟨by have:=HK1.out;first|omega|exact Nat.le_refl _⟩,by repeat (first|exact Drawn0.refl _|apply Drawn0.step)⟩
        ·rw [if_neg c10] at H
         have c10b0:decide (48≤(bt a0 x3_1))=false:=decide_eq_false c10
         clear c10
         replace H:=Option.bind_eq_some_iff.mp H
         obtain ⟨t134,A160,H⟩:=H
         replace H:(impl_TextValid.j1 k1 a0 x3_1 (!(decide (t134 ≥ 0))))=some r:=H
         have A16:=Aside0.mk A160
         clear A160
         have H':=Aside0.mk H
         clear H
         have p5:0≤(x3_1:Int):=of_decide_eq_true (by first|(with_reducible assumption)|assumption)
         have q5:x3_1 < (a0.size:Int):=of_decide_eq_true (by first|(with_reducible assumption)|assumption)
         have hx5:=bt_at a0 x3_1
         replace p5:=eq_true p5
         replace q5:=eq_true q5
         have p7:0≤(x3_1:Int):=of_decide_eq_true (by first|(with_reducible assumption)|assumption)
         have q7:x3_1 < (a0.size:Int):=of_decide_eq_true (by first|(with_reducible assumption)|assumption)
         have hx7:=bt_at a0 x3_1
         replace p7:=eq_true p7
         replace q7:=eq_true q7
         have p9:0≤(x3_1:Int):=of_decide_eq_true (by first|(with_reducible assumption)|assumption)
         have q9:x3_1 < (a0.size:Int):=of_decide_eq_true (by first|(with_reducible assumption)|assumption)
         have hx9:=bt_at a0 x3_1
         replace p9:=eq_true p9
         replace q9:=eq_true q9
         have p15:0≤(x3_1:Int):=of_decide_eq_true (by first|(with_reducible assumption)|assumption)
         have q15:x3_1 < (a0.size:Int):=of_decide_eq_true (by first|(with_reducible assumption)|assumption)
         have hx15:=bt_at a0 x3_1
         replace p15:=eq_true p15
         replace q15:=eq_true q15
         go_wp2_with (first|(go_at_call 47;(with_reducible refine (strings_IndexByte.calls (⟨#[44,58,61,123,125,40,41,91,93]⟩:ByteArray) (bt a0 x3_1) t134 _ A16.out).mono ?_);rintro e w' ⟨rfl,⟨nd,rfl⟩⟩))
         go_meet
         case rel=>exact ⟨_,(!(decide (t134 ≥ 0))),(by first|rfl|(simp;done)|(simp [*];done)),H',⟨by have:=HK1.out;first|omega|exact Nat.le_refl _⟩,by repeat (first|exact Drawn0.refl _|apply Drawn0.step)⟩
      ·rw [if_neg c6] at H
       have c6b0:decide (97≤(bt a0 x3_1))=false:=decide_eq_false c6
       clear c6
       by_cases c18:(bt a0 x3_1) ≥ 48
       ·rw [if_pos c18] at H
        have c18b0:decide (48≤(bt a0 x3_1))=true:=decide_eq_true c18
        clear c18
        by_cases c20:(bt a0 x3_1)≤57
        ·rw [if_pos c20] at H
         have c20b0:decide ((bt a0 x3_1)≤57)=true:=decide_eq_true c20
         clear c20
         have H':=Aside0.mk H
         clear H
         have p5:0≤(x3_1:Int):=of_decide_eq_true (by first|(with_reducible assumption)|assumption)
         have q5:x3_1 < (a0.size:Int):=of_decide_eq_true (by first|(with_reducible assumption)|assumption)
         have hx5:=bt_at a0 x3_1
         replace p5:=eq_true p5
         replace q5:=eq_true q5
         have p17:0≤(x3_1:Int):=of_decide_eq_true (by first|(with_reducible assumption)|assumption)
         have q17:x3_1 < (a0.size:Int):=of_decide_eq_true (by first|(with_reducible assumption)|assumption)
         have hx17:=bt_at a0 x3_1
         replace p17:=eq_true p17
         replace q17:=eq_true q17
         have p19:0≤(x3_1:Int):=of_decide_eq_true (by first|(with_reducible assumption)|assumption)
         have q19:x3_1 < (a0.size:Int):=of_decide_eq_true (by first|(with_reducible assumption)|assumption)
         have hx19:=bt_at a0 x3_1
         replace p19:=eq_true p19
         replace q19:=eq_true q19
         go_wp2
         go_meet
         case rel=>exact ⟨_,(!true),(by first|rfl|(simp;done)|(simp [*];done)),H',⟨by have:=HK1.out;first|omega|exact Nat.le_refl _⟩,by repeat (first|exact Drawn0.refl _|apply Drawn0.step)⟩
        ·rw [if_neg c20] at H
         have c20b0:decide ((bt a0 x3_1)≤57)=false:=decide_eq_false c20
         clear c20
         replace H:=Option.bind_eq_some_iff.mp H
         obtain ⟨t135,A220,H⟩:=H
         replace H:(impl_TextValid.j1 k1 a0 x3_1 (!(decide (t135 ≥ 0))))=some r:=H
         have A22:=Aside0.mk A220
         clear A220
         have H':=Aside0.mk H
         clear H
         have p5:0≤(x3_1:Int):=of_decide_eq_true (by first|(with_reducible assumption)|assumption)
         have q5:x3_1 < (a0.size:Int):=of_decide_eq_true (by first|(with_reducible assumption)|assumption)
         have hx5:=bt_at a0 x3_1
         replace p5:=eq_true p5
         replace q5:=eq_true q5
         have p17:0≤(x3_1:Int):=of_decide_eq_true (by first|(with_reducible assumption)|assumption)
         have q17:x3_1 < (a0.size:Int):=of_decide_eq_true (by first|(with_reducible assumption)|assumption)
         have hx17:=bt_at a0 x3_1
         replace p17:=eq_true p17
         replace q17:=eq_true q17
         have p19:0≤(x3_1:Int):=of_decide_eq_true (by first|(with_reducible assumption)|assumption)
         have q19:x3_1 < (a0.size:Int):=of_decide_eq_true (by first|(with_reducible assumption)|assumption)
         have hx19:=bt_at a0 x3_1
         replace p19:=eq_true p19
         replace q19:=eq_true q19
         have p21:0≤(x3_1:Int):=of_decide_eq_true (by first|(with_reducible assumption)|assumption)
         have q21:x3_1 < (a0.size:Int):=of_decide_eq_true (by first|(with_reducible assumption)|assumption)
         have hx21:=bt_at a0 x3_1
         replace p21:=eq_true p21
         replace q21:=eq_true q21
         go_wp2_with (first|(go_at_call 47;(with_reducible refine (strings_IndexByte.calls (⟨#[44,58,61,123,125,40,41,91,93]⟩:ByteArray) (bt a0 x3_1) t135 _ A22.out).mono ?_);rintro e w' ⟨rfl,⟨nd,rfl⟩⟩))
         go_meet
         case rel=>exact ⟨_,(!(decide (t135 ≥ 0))),(by first|rfl|(simp;done)|(simp [*];done)),H',⟨by have:=HK1.out;first|omega|exact Nat.le_refl _⟩,by repeat (first|exact Drawn0.refl _|apply Drawn0.step)⟩
       ·rw [if_neg c18] at H
        have c18b0:decide (48≤(bt a0 x3_1))=false:=decide_eq_false c18
        clear c18
        replace H:=Option.bind_eq_some_iff.mp H
        obtain ⟨t136,A240,H⟩:=H
        replace H:(impl_TextValid.j1 k1 a0 x3_1 (!(decide (t136 ≥ 0))))=some r:=H
        have A24:=Aside0.mk A240
        clear A240
        have H':=Aside0.mk H
        clear H
        have p5:0≤(x3_1:Int):=of_decide_eq_true (by first|(with_reducible assumption)|assumption)
        have q5:x3_1 < (a0.size:Int):=of_decide_eq_true (by first|(with_reducible assumption)|assumption)
        have hx5:=bt_at a0 x3_1
        replace p5:=eq_true p5
        replace q5:=eq_true q5
        have p17:0≤(x3_1:Int):=of_decide_eq_true (by first|(with_reducible assumption)|assumption)
        have q17:x3_1 < (a0.size:Int):=of_decide_eq_true (by first|(with_reducible assumption)|assumption)
        have hx17:=bt_at a0 x3_1
        replace p17:=eq_true p17
        replace q17:=eq_true q17
        have p23:0≤(x3_1:Int):=of_decide_eq_true (by first|(with_reducible assumption)|assumption)
        have q23:x3_1 < (a0.size:Int):=of_decide_eq_true (by first|(with_reducible assumption)|assumption)
        have hx23:=bt_at a0 x3_1
        replace p23:=eq_true p23
        replace q23:=eq_true q23
        go_wp2_with (first|(go_at_call 47;(with_reducible refine (strings_IndexByte.calls (⟨#[44,58,61,123,125,40,41,91,93]⟩:ByteArray) (bt a0 x3_1) t136 _ A24.out).mono ?_);rintro e w' ⟨rfl,⟨nd,rfl⟩⟩))
        go_meet
        case rel=>exact ⟨_,(!(decide (t136 ≥ 0))),(by first|rfl|(simp;done)|(simp [*];done)),H',⟨by have:=HK1.out;first|omega|exact Nat.le_refl _⟩,by repeat (first|exact Drawn0.refl _|apply Drawn0.step)⟩
     ·rw [if_neg c4] at H
      exact absurd H (by simp)
    case rest =>
     clear HC3
     try clear c1 p1 q1 hx1 c2 c2b0 p2 q2 hx2 c4 c4b0 p5 q5 hx5 c6 c6b0 p7 q7 hx7 c8 c8b0 p9 q9 hx9 c10 c10b0 p11 q11 hx11 c12 c12b0 p13 q13 hx13 p15 q15 hx15 c16 p17 q17 hx17 c18 c18b0 p19 q19 hx19 c20 c20b0 p21 q21 hx21 p23 q23 hx23 p11 p13 p15 p17 p19 p21 p23 p5 p7 p9 q11 q13 q15 q17 q19 q21 q23 q5 q7 q9
     obtain ⟨kq,x39_2,rfl,HA,HJ2,⟨mc2,rfl⟩⟩:=hcut
     cases kq with
     | zero=>exact absurd HA.out (by simp [impl_TextValid.j1])
     | succ kj2 =>
      have H:=HA.out
      clear HA
      simp only [impl_TextValid.j1] at H
      by_cases c25:x39_2=true
      ·subst c25
       have H1:(some false)=some r:=by rw [if_pos rfl] at H;exact H
       clear H
       have H:=H1
       clear H1
       obtain rfl:=Option.some.inj H
       go_wp2
       go_ret
       exact ⟨by first|rfl|(simp;done)|(simp [*];done),by repeat (first|exact Drawn0.refl _|apply Drawn0.step)⟩
      ·replace c25:=Bool.eq_false_iff.mpr c25
       subst c25
       have H1:(impl_TextValid.l0 kj2 a0 (wrap64 (x3_1+1)))=some r:=by rw [if_neg (show ¬ (false=true) by decide)] at H;exact H
       clear H
       have H:=H1
       clear H1
       have H':=Aside0.mk H
       clear H
       go_wp2
       go_roundg kj2
       case measure=>have:=HK1.out;have:=HJ2.out;omega
       case rel=>exact ⟨(wrap64 (x3_1+1)),(by first|rfl|(simp;done)|(simp [*];done)),H',⟨by have:=HK1.out;have:=HJ2.out;omega⟩,by repeat (first|exact Drawn0.refl _|apply Drawn0.step)⟩
   ·rw [if_neg c2] at H
    have c2b0:decide (x3_1 < (a0.size:Int))=false:=decide_eq_false c2
    clear c2
    by_cases c26:(a0.size:Int) ≥ 1
    ·rw [if_pos c26] at H
     have c26b0:decide (1≤(a0.size:Int))=true:=decide_eq_true c26
     have c26b1:decide (1≤a0.size)=true:=decide_eq_true (by omega)
     clear c26
     obtain rfl:=Option.some.inj H
     go_wp2
     go_ret
     exact ⟨by first|rfl|(simp;done)|(simp [*];done),by repeat (first|exact Drawn0.refl _|apply Drawn0.step)⟩
    ·rw [if_neg c26] at H
     have c26b0:decide (1≤(a0.size:Int))=false:=decide_eq_false c26
     have c26b1:decide (1≤a0.size)=false:=decide_eq_false (by omega)
     clear c26
     obtain rfl:=Option.some.inj H
     go_wp2
     go_ret
     exact ⟨by first|rfl|(simp;done)|(simp [*];done),by repeat (first|exact Drawn0.refl _|apply Drawn0.step)⟩
end Go.Proofs.Ytdhdfmmefghijaa.P
namespace Go.Proofs.Ytdhdfmmefghijaa.P
open Go.RowKit Go.Proofs.YtdhdfmmefghijaaW.PrintWords Go.Proofs.YtdhdfmmefghijaaW.PrintLast Go.Proofs.YtdhdfmmefghijaaW.PrintMore
attribute [local go_sem] max2_int min2_int max_two min_two max_three min_three max_four min_four
set_option linter.unusedVariables false
set_option linter.unusedSimpArgs false
def docKids (o:Int):Int:=if o=7 then 2 else if o=6 then 1 else if o=8 then 1 else 0
theorem docKids_cell {w:World} {ga:Nat} (h:w.heap[ga]?=some (.cells #[.int .i64 0,.int .i64 0,.int .i64 0,.int .i64 0,.int .i64 0,.int .i64 0,.int .i64 1,.int .i64 2,.int .i64 1] 75 (0,0))) (o:Int) (h0:0≤o) (h9:o < 9):w.cell? ⟨ga,o.toNat,none⟩=some (.int .i64 (docKids o)):=by
 rw [blk_cell h]
 have:o=0 ∨ o=1 ∨ o=2 ∨ o=3 ∨ o=4 ∨ o=5 ∨ o=6 ∨ o=7 ∨ o=8:=by omega
 rcases this with rfl|rfl|rfl|rfl|rfl|rfl|rfl|rfl|rfl <;> rfl
mutual
def impl_docOk.l0:Nat→List (SDoc)→Int→Int→Int→Option (Bool × Int)
 | 0,_,_,_,_=>none
 | k+1,ks,i,deep,left=>if i < (ks.length:Int) then (if 0≤i then ((impl_docOk.f k ((rd_TDoc ks i).f0) ((rd_TDoc ks i).f1) ((rd_TDoc ks i).f2) ((rd_TDoc ks i).f3) (wrap64 (deep - 1)) left).bind fun b=>(if b.1=true then (impl_docOk.l0 k ks (wrap64 (i+1)) deep b.2) else (some (false,b.2)))) else (none)) else (some (true,left))
def impl_docOk.f:Nat→Int→Int→ByteArray→List (SDoc)→Int→Int→Option (Bool × Int)
 | 0,_,_,_,_,_,_=>none
 | k+1,o,n,t,ks,deep,left=>if deep=0 ∨ (wrap64 (left - 1)) < 0 ∨ o < 1 ∨ 8 < o then (some (false,(wrap64 (left - 1)))) else (if ¬ ((ks.length:Int)=docKids o) ∨ n < 0 ∨ 9 < n ∨ (0 < n∧¬ (o=6)) then (some (false,(wrap64 (left - 1)))) else (if o=2 then ((impl_TextValid.f k t).bind fun b=>(if b=true then (impl_docOk.l0 k ks 0 deep (wrap64 (left - 1))) else (some (false,(wrap64 (left - 1)))))) else (if t.toList=[] then (impl_docOk.l0 k ks 0 deep (wrap64 (left - 1))) else (some (false,(wrap64 (left - 1)))))))
end
set_option maxHeartbeats 8000000 in
set_option maxRecDepth 100000 in
theorem impl_docOk.failA (o n:Int) (t:ByteArray) (A:Option Addr) (c:Nat) (ks:List (SDoc)) (deep left:Int) (w0 w:World) (g:Nat)
  (hr:Kd.C k27 w0 A ks.length ks) (hc:ks.length≤c) (hB:Below w0.heap.size w0 w) (hg:w0.heap.size≤g) (hb:w.heap[g]?=some (.cells #[.int .i64 left] 3 (0,0)))
  (hA:(deep == 0)=true ∨ ((deep == 0)=false∧decide ((wrap64 (left - 1)) < 0)=true) ∨ ((deep == 0)=false∧decide ((wrap64 (left - 1)) < 0)=false∧decide (o < 1)=true) ∨ ((deep == 0)=false∧decide ((wrap64 (left - 1)) < 0)=false∧decide (o < 1)=false∧decide (8 < o)=true)) :
  Calls Try.prog 52 #[.agg #[.int .i64 o,.int .i64 n,.string t,.slice A ks.length c],.int .i64 deep,.pointer (some ⟨g,0,none⟩)] w fun e w'=>e=.returned (.bool false)∧Below w0.heap.size w0 w'∧w'.heap[g]?=some (.cells #[.int .i64 (wrap64 (left - 1))] 3 (0,0)):=by
 rcases hA with h1 | ⟨h1,h2⟩ | ⟨h1,h2,h3⟩ | ⟨h1,h2,h3,h4⟩
 all_goals
  have hu29:=Try.underlying27
  have hu3:=Try.underlying3
  have HB:=Aside0.mk hB
  have HG:=Aside0.mk hg
  have BK:=Aside0.mk hb
  clear hB hg hb
  go_enter Try.func52,Try.ntmps52
  go_wp2_with (first|((with_reducible refine gate_dst (N:=3) rfl ?_);refine box_event ?hg (N:=3) ?hd (cs:=#[.int .i64 o,.int .i64 n,.string t,.slice A ks.length c]) (t:=27) ?hr ?_;(case hd=>rfl);(case hg=>rfl);(case hr=>first|(go_simp;done)|(go_simp;rfl));intro gb hgb w2 hbox hb2;have n0_:=Aside0.mk (below_step HB.out hb2);have n1_:=Aside0.mk (blk_below BK.out hb2);have n2_:=Aside0.mk hbox;have NE:=Aside0.mk (by rw [hgb];exact Nat.ne_of_lt (blk_lt BK.out):g ≠ gb);clear HB BK;have HB:=n0_;have BK:=n1_;have BD:=n2_;clear n0_ n1_ n2_ hb2 hbox hgb;have hcg:w2.cell? ⟨g,0,none⟩=some (.int .i64 left):=(blk_cell BK.out 0).trans rfl;have hfg:=blk_frozen BK.out 0)|((with_reducible refine gate_store (t:=3) (p:=14) rfl ?_);refine store_event (t:=3) (p:=14) (v:=?vo_w13) (w1:=w2.setCell ⟨g,0,none⟩ (.int .i64 (wrap64 (left - 1)))) ?hg ?ho ?hn ?hr ?_;(case ho=>rfl);(case hg=>rfl);(case hn=>rfl);(case hr=>first|(go_simp;done)|(go_simp;rfl));intro w3 hw;have n0_:=Aside0.mk (by rw [hw];exact below_set HB.out HG.out:Below w0.heap.size w0 w3);have n1_:Aside0 (w3.heap[g]?=some (.cells #[.int .i64 (wrap64 (left - 1))] 3 (0,0))):=Aside0.mk (by rw [hw];exact blk_set BK.out 0 _);have n2_:Aside0 (w3.heap[gb]?=some (.cells #[.int .i64 o,.int .i64 n,.string t,.slice A ks.length c] 27 (0,0))):=Aside0.mk (by rw [hw];exact blk_far BD.out NE.out.symm _);clear HB BK BD hcg hfg hw;have HB:=n0_;have BK:=n1_;have BD:=n2_;clear n0_ n1_ n2_;have hcg:w3.cell? ⟨g,0,none⟩=some (.int .i64 (wrap64 (left - 1))):=(blk_cell BK.out 0).trans rfl;have hd0:w3.cell? ⟨gb,0,none⟩=some (.int .i64 o):=(blk_cell BD.out 0).trans rfl;have hd1:w3.cell? ⟨gb,1,none⟩=some (.int .i64 n):=(blk_cell BD.out 1).trans rfl;have hd2:w3.cell? ⟨gb,2,none⟩=some (.string t):=(blk_cell BD.out 2).trans rfl;have hd3:w3.cell? ⟨gb,3,none⟩=some (.slice A ks.length c):=(blk_cell BD.out 3).trans rfl))
  go_ret
  exact ⟨rfl,gB HB,gK BK⟩
set_option maxHeartbeats 8000000 in
set_option maxRecDepth 100000 in
theorem impl_docOk.failB (o n:Int) (t:ByteArray) (A:Option Addr) (c:Nat) (ks:List (SDoc)) (deep left:Int) (w0 w:World) (g:Nat)
  (hr:Kd.C k27 w0 A ks.length ks) (hc:ks.length≤c) (hB:Below w0.heap.size w0 w) (hg:w0.heap.size≤g) (hb:w.heap[g]?=some (.cells #[.int .i64 left] 3 (0,0)))
  (h1:(deep == 0)=false) (h2:decide ((wrap64 (left - 1)) < 0)=false) (h3:decide (o < 1)=false) (h4:decide (8 < o)=false)
  (hA:((ks.length:Int) != docKids o)=true ∨ (((ks.length:Int) != docKids o)=false∧decide (n < 0)=true) ∨ (((ks.length:Int) != docKids o)=false∧decide (n < 0)=false∧decide (9 < n)=true) ∨ (((ks.length:Int) != docKids o)=false∧decide (n < 0)=false∧decide (9 < n)=false∧decide (0 < n)=true∧(o != 6)=true)) :
  Calls Try.prog 52 #[.agg #[.int .i64 o,.int .i64 n,.string t,.slice A ks.length c],.int .i64 deep,.pointer (some ⟨g,0,none⟩)] w fun e w'=>e=.returned (.bool false)∧Below w0.heap.size w0 w'∧w'.heap[g]?=some (.cells #[.int .i64 (wrap64 (left - 1))] 3 (0,0)):=by
 have O0:=Aside0.mk (show 0≤o by have:=of_decide_eq_false h3;omega)
 have O9:=Aside0.mk (show o < 9 by have:=of_decide_eq_false h4;omega)
 rcases hA with h5 | ⟨h5,h6⟩ | ⟨h5,h6,h7⟩ | ⟨h5,h6,h7,h8,h9⟩
 all_goals
  have hu29:=Try.underlying27
  have hu3:=Try.underlying3
  have HB:=Aside0.mk hB
  have HG:=Aside0.mk hg
  have BK:=Aside0.mk hb
  clear hB hg hb
  go_enter Try.func52,Try.ntmps52
  go_wp2_with (first|((with_reducible refine gate_dst (N:=3) rfl ?_);refine box_event ?hg (N:=3) ?hd (cs:=#[.int .i64 o,.int .i64 n,.string t,.slice A ks.length c]) (t:=27) ?hr ?_;(case hd=>rfl);(case hg=>rfl);(case hr=>first|(go_simp;done)|(go_simp;rfl));intro gb hgb w2 hbox hb2;have n0_:=Aside0.mk (below_step HB.out hb2);have n1_:=Aside0.mk (blk_below BK.out hb2);have n2_:=Aside0.mk hbox;have NE:=Aside0.mk (by rw [hgb];exact Nat.ne_of_lt (blk_lt BK.out):g ≠ gb);clear HB BK;have HB:=n0_;have BK:=n1_;have BD:=n2_;clear n0_ n1_ n2_ hb2 hbox hgb;have hcg:w2.cell? ⟨g,0,none⟩=some (.int .i64 left):=(blk_cell BK.out 0).trans rfl;have hfg:=blk_frozen BK.out 0)|((with_reducible refine gate_store (t:=3) (p:=14) rfl ?_);refine store_event (t:=3) (p:=14) (v:=?vo_w13) (w1:=w2.setCell ⟨g,0,none⟩ (.int .i64 (wrap64 (left - 1)))) ?hg ?ho ?hn ?hr ?_;(case ho=>rfl);(case hg=>rfl);(case hn=>rfl);(case hr=>first|(go_simp;done)|(go_simp;rfl));intro w3 hw;have n0_:=Aside0.mk (by rw [hw];exact below_set HB.out HG.out:Below w0.heap.size w0 w3);have n1_:Aside0 (w3.heap[g]?=some (.cells #[.int .i64 (wrap64 (left - 1))] 3 (0,0))):=Aside0.mk (by rw [hw];exact blk_set BK.out 0 _);have n2_:Aside0 (w3.heap[gb]?=some (.cells #[.int .i64 o,.int .i64 n,.string t,.slice A ks.length c] 27 (0,0))):=Aside0.mk (by rw [hw];exact blk_far BD.out NE.out.symm _);clear HB BK BD hcg hfg hw;have HB:=n0_;have BK:=n1_;have BD:=n2_;clear n0_ n1_ n2_;have hcg:w3.cell? ⟨g,0,none⟩=some (.int .i64 (wrap64 (left - 1))):=(blk_cell BK.out 0).trans rfl;have hd0:w3.cell? ⟨gb,0,none⟩=some (.int .i64 o):=(blk_cell BD.out 0).trans rfl;have hd1:w3.cell? ⟨gb,1,none⟩=some (.int .i64 n):=(blk_cell BD.out 1).trans rfl;have hd2:w3.cell? ⟨gb,2,none⟩=some (.string t):=(blk_cell BD.out 2).trans rfl;have hd3:w3.cell? ⟨gb,3,none⟩=some (.slice A ks.length c):=(blk_cell BD.out 3).trans rfl))
  obtain ⟨w4,hw4⟩:∃ W:World,W=w3.alloc (.cells #[.int .i64 0,.int .i64 0,.int .i64 0,.int .i64 0,.int .i64 0,.int .i64 0,.int .i64 1,.int .i64 2,.int .i64 1] 75):=⟨_,rfl⟩
  obtain ⟨ga,hga⟩:∃ ga:Nat,ga=w3.heap.size:=⟨_,rfl⟩
  rw [← hw4,← hga]
  have BA:=Aside0.mk (by rw [hw4,hga];exact blk_new _ _:w4.heap[ga]?=some (.cells #[.int .i64 0,.int .i64 0,.int .i64 0,.int .i64 0,.int .i64 0,.int .i64 0,.int .i64 1,.int .i64 2,.int .i64 1] 75 (0,0)))
  have hb4:Below w3.heap.size w3 w4:=by rw [hw4];exact below_alloc (Below.refl _ _) _
  have n0_:=Aside0.mk (below_step HB.out hb4)
  have n1_:=Aside0.mk (blk_below BK.out hb4)
  have n2_:=Aside0.mk (blk_below BD.out hb4)
  clear HB BK BD hcg hd0 hd1 hd2 hd3 hb4 hw4 hga
  have HB:=n0_
  have BK:=n1_
  have BD:=n2_
  clear n0_ n1_ n2_
  have hk:w4.cell? ⟨ga,o.toNat,none⟩=some (.int .i64 (docKids o)):=docKids_cell BA.out o O0.out O9.out
  have hd0:w4.cell? ⟨gb,0,none⟩=some (.int .i64 o):=(blk_cell BD.out 0).trans rfl;have hd1:w4.cell? ⟨gb,1,none⟩=some (.int .i64 n):=(blk_cell BD.out 1).trans rfl;have hd2:w4.cell? ⟨gb,2,none⟩=some (.string t):=(blk_cell BD.out 2).trans rfl;have hd3:w4.cell? ⟨gb,3,none⟩=some (.slice A ks.length c):=(blk_cell BD.out 3).trans rfl
  have o0:=eq_true O0.out
  have o9:=eq_true O9.out
  go_quiet (fail)
  go_wp2
  go_ret
  exact ⟨rfl,gB HB,gK BK⟩
set_option maxHeartbeats 8000000 in
set_option maxRecDepth 100000 in
theorem impl_docOk.failC (o n:Int) (t:ByteArray) (A:Option Addr) (c:Nat) (ks:List (SDoc)) (deep left:Int) (w0 w:World) (g:Nat)
  (hr:Kd.C k27 w0 A ks.length ks) (hc:ks.length≤c) (hB:Below w0.heap.size w0 w) (hg:w0.heap.size≤g) (hb:w.heap[g]?=some (.cells #[.int .i64 left] 3 (0,0)))
  (h1:(deep == 0)=false) (h2:decide ((wrap64 (left - 1)) < 0)=false) (h3:decide (o < 1)=false) (h4:decide (8 < o)=false) (h5:((ks.length:Int) != docKids o)=false) (h6:decide (n < 0)=false) (h7:decide (9 < n)=false)
  (hA:(decide (0 < n)=false∧((o == 2)=false∧(o != 2)=true)∧((t.toList == ([]:List UInt8))=false∧(t.toList != ([]:List UInt8))=true∧t.toList.isEmpty=false)) ∨ (decide (0 < n)=true∧(o != 6)=false∧((o == 2)=false∧(o != 2)=true)∧((t.toList == ([]:List UInt8))=false∧(t.toList != ([]:List UInt8))=true∧t.toList.isEmpty=false))) :
  Calls Try.prog 52 #[.agg #[.int .i64 o,.int .i64 n,.string t,.slice A ks.length c],.int .i64 deep,.pointer (some ⟨g,0,none⟩)] w fun e w'=>e=.returned (.bool false)∧Below w0.heap.size w0 w'∧w'.heap[g]?=some (.cells #[.int .i64 (wrap64 (left - 1))] 3 (0,0)):=by
 have O0:=Aside0.mk (show 0≤o by have:=of_decide_eq_false h3;omega)
 have O9:=Aside0.mk (show o < 9 by have:=of_decide_eq_false h4;omega)
 rcases hA with ⟨h8,⟨h10,h11⟩,h12,h13,h14⟩ | ⟨h8,h9,⟨h10,h11⟩,h12,h13,h14⟩
 all_goals
  have hu29:=Try.underlying27
  have hu3:=Try.underlying3
  have HB:=Aside0.mk hB
  have HG:=Aside0.mk hg
  have BK:=Aside0.mk hb
  clear hB hg hb
  go_enter Try.func52,Try.ntmps52
  go_wp2_with (first|((with_reducible refine gate_dst (N:=3) rfl ?_);refine box_event ?hg (N:=3) ?hd (cs:=#[.int .i64 o,.int .i64 n,.string t,.slice A ks.length c]) (t:=27) ?hr ?_;(case hd=>rfl);(case hg=>rfl);(case hr=>first|(go_simp;done)|(go_simp;rfl));intro gb hgb w2 hbox hb2;have n0_:=Aside0.mk (below_step HB.out hb2);have n1_:=Aside0.mk (blk_below BK.out hb2);have n2_:=Aside0.mk hbox;have NE:=Aside0.mk (by rw [hgb];exact Nat.ne_of_lt (blk_lt BK.out):g ≠ gb);clear HB BK;have HB:=n0_;have BK:=n1_;have BD:=n2_;clear n0_ n1_ n2_ hb2 hbox hgb;have hcg:w2.cell? ⟨g,0,none⟩=some (.int .i64 left):=(blk_cell BK.out 0).trans rfl;have hfg:=blk_frozen BK.out 0)|((with_reducible refine gate_store (t:=3) (p:=14) rfl ?_);refine store_event (t:=3) (p:=14) (v:=?vo_w13) (w1:=w2.setCell ⟨g,0,none⟩ (.int .i64 (wrap64 (left - 1)))) ?hg ?ho ?hn ?hr ?_;(case ho=>rfl);(case hg=>rfl);(case hn=>rfl);(case hr=>first|(go_simp;done)|(go_simp;rfl));intro w3 hw;have n0_:=Aside0.mk (by rw [hw];exact below_set HB.out HG.out:Below w0.heap.size w0 w3);have n1_:Aside0 (w3.heap[g]?=some (.cells #[.int .i64 (wrap64 (left - 1))] 3 (0,0))):=Aside0.mk (by rw [hw];exact blk_set BK.out 0 _);have n2_:Aside0 (w3.heap[gb]?=some (.cells #[.int .i64 o,.int .i64 n,.string t,.slice A ks.length c] 27 (0,0))):=Aside0.mk (by rw [hw];exact blk_far BD.out NE.out.symm _);clear HB BK BD hcg hfg hw;have HB:=n0_;have BK:=n1_;have BD:=n2_;clear n0_ n1_ n2_;have hcg:w3.cell? ⟨g,0,none⟩=some (.int .i64 (wrap64 (left - 1))):=(blk_cell BK.out 0).trans rfl;have hd0:w3.cell? ⟨gb,0,none⟩=some (.int .i64 o):=(blk_cell BD.out 0).trans rfl;have hd1:w3.cell? ⟨gb,1,none⟩=some (.int .i64 n):=(blk_cell BD.out 1).trans rfl;have hd2:w3.cell? ⟨gb,2,none⟩=some (.string t):=(blk_cell BD.out 2).trans rfl;have hd3:w3.cell? ⟨gb,3,none⟩=some (.slice A ks.length c):=(blk_cell BD.out 3).trans rfl))
  obtain ⟨w4,hw4⟩:∃ W:World,W=w3.alloc (.cells #[.int .i64 0,.int .i64 0,.int .i64 0,.int .i64 0,.int .i64 0,.int .i64 0,.int .i64 1,.int .i64 2,.int .i64 1] 75):=⟨_,rfl⟩
  obtain ⟨ga,hga⟩:∃ ga:Nat,ga=w3.heap.size:=⟨_,rfl⟩
  rw [← hw4,← hga]
  have BA:=Aside0.mk (by rw [hw4,hga];exact blk_new _ _:w4.heap[ga]?=some (.cells #[.int .i64 0,.int .i64 0,.int .i64 0,.int .i64 0,.int .i64 0,.int .i64 0,.int .i64 1,.int .i64 2,.int .i64 1] 75 (0,0)))
  have hb4:Below w3.heap.size w3 w4:=by rw [hw4];exact below_alloc (Below.refl _ _) _
  have n0_:=Aside0.mk (below_step HB.out hb4)
  have n1_:=Aside0.mk (blk_below BK.out hb4)
  have n2_:=Aside0.mk (blk_below BD.out hb4)
  clear HB BK BD hcg hd0 hd1 hd2 hd3 hb4 hw4 hga
  have HB:=n0_
  have BK:=n1_
  have BD:=n2_
  clear n0_ n1_ n2_
  have hk:w4.cell? ⟨ga,o.toNat,none⟩=some (.int .i64 (docKids o)):=docKids_cell BA.out o O0.out O9.out
  have hd0:w4.cell? ⟨gb,0,none⟩=some (.int .i64 o):=(blk_cell BD.out 0).trans rfl;have hd1:w4.cell? ⟨gb,1,none⟩=some (.int .i64 n):=(blk_cell BD.out 1).trans rfl;have hd2:w4.cell? ⟨gb,2,none⟩=some (.string t):=(blk_cell BD.out 2).trans rfl;have hd3:w4.cell? ⟨gb,3,none⟩=some (.slice A ks.length c):=(blk_cell BD.out 3).trans rfl
  have o0:=eq_true O0.out
  have o9:=eq_true O9.out
  go_quiet (fail)
  go_wp2
  go_ret
  exact ⟨rfl,gB HB,gK BK⟩
set_option maxHeartbeats 8000000 in
set_option maxRecDepth 100000 in
theorem impl_docOk.failT (o n:Int) (t:ByteArray) (A:Option Addr) (c:Nat) (ks:List (SDoc)) (deep left:Int) (w0 w:World) (g:Nat)
  (hr:Kd.C k27 w0 A ks.length ks) (hc:ks.length≤c) (hB:Below w0.heap.size w0 w) (hg:w0.heap.size≤g) (hb:w.heap[g]?=some (.cells #[.int .i64 left] 3 (0,0)))
  (h1:(deep == 0)=false) (h2:decide ((wrap64 (left - 1)) < 0)=false) (h3:decide (o < 1)=false) (h4:decide (8 < o)=false) (h5:((ks.length:Int) != docKids o)=false) (h6:decide (n < 0)=false) (h7:decide (9 < n)=false) (h8:decide (0 < n)=false) (h10:(o == 2)=true) (h11:(o != 2)=false) (kt:Nat) (hT:impl_TextValid.f kt t=some false) :
  Calls Try.prog 52 #[.agg #[.int .i64 o,.int .i64 n,.string t,.slice A ks.length c],.int .i64 deep,.pointer (some ⟨g,0,none⟩)] w fun e w'=>e=.returned (.bool false)∧Below w0.heap.size w0 w'∧w'.heap[g]?=some (.cells #[.int .i64 (wrap64 (left - 1))] 3 (0,0)):=by
 have O0:=Aside0.mk (show 0≤o by have:=of_decide_eq_false h3;omega)
 have O9:=Aside0.mk (show o < 9 by have:=of_decide_eq_false h4;omega)
 have HT:=Aside0.mk hT
 clear hT
 have hu29:=Try.underlying27
 have hu3:=Try.underlying3
 have HB:=Aside0.mk hB
 have HG:=Aside0.mk hg
 have BK:=Aside0.mk hb
 clear hB hg hb
 go_enter Try.func52,Try.ntmps52
 go_wp2_with (first|((with_reducible refine gate_dst (N:=3) rfl ?_);refine box_event ?hg (N:=3) ?hd (cs:=#[.int .i64 o,.int .i64 n,.string t,.slice A ks.length c]) (t:=27) ?hr ?_;(case hd=>rfl);(case hg=>rfl);(case hr=>first|(go_simp;done)|(go_simp;rfl));intro gb hgb w2 hbox hb2;have n0_:=Aside0.mk (below_step HB.out hb2);have n1_:=Aside0.mk (blk_below BK.out hb2);have n2_:=Aside0.mk hbox;have NE:=Aside0.mk (by rw [hgb];exact Nat.ne_of_lt (blk_lt BK.out):g ≠ gb);clear HB BK;have HB:=n0_;have BK:=n1_;have BD:=n2_;clear n0_ n1_ n2_ hb2 hbox hgb;have hcg:w2.cell? ⟨g,0,none⟩=some (.int .i64 left):=(blk_cell BK.out 0).trans rfl;have hfg:=blk_frozen BK.out 0)|((with_reducible refine gate_store (t:=3) (p:=14) rfl ?_);refine store_event (t:=3) (p:=14) (v:=?vo_w13) (w1:=w2.setCell ⟨g,0,none⟩ (.int .i64 (wrap64 (left - 1)))) ?hg ?ho ?hn ?hr ?_;(case ho=>rfl);(case hg=>rfl);(case hn=>rfl);(case hr=>first|(go_simp;done)|(go_simp;rfl));intro w3 hw;have n0_:=Aside0.mk (by rw [hw];exact below_set HB.out HG.out:Below w0.heap.size w0 w3);have n1_:Aside0 (w3.heap[g]?=some (.cells #[.int .i64 (wrap64 (left - 1))] 3 (0,0))):=Aside0.mk (by rw [hw];exact blk_set BK.out 0 _);have n2_:Aside0 (w3.heap[gb]?=some (.cells #[.int .i64 o,.int .i64 n,.string t,.slice A ks.length c] 27 (0,0))):=Aside0.mk (by rw [hw];exact blk_far BD.out NE.out.symm _);clear HB BK BD hcg hfg hw;have HB:=n0_;have BK:=n1_;have BD:=n2_;clear n0_ n1_ n2_;have hcg:w3.cell? ⟨g,0,none⟩=some (.int .i64 (wrap64 (left - 1))):=(blk_cell BK.out 0).trans rfl;have hd0:w3.cell? ⟨gb,0,none⟩=some (.int .i64 o):=(blk_cell BD.out 0).trans rfl;have hd1:w3.cell? ⟨gb,1,none⟩=some (.int .i64 n):=(blk_cell BD.out 1).trans rfl;have hd2:w3.cell? ⟨gb,2,none⟩=some (.string t):=(blk_cell BD.out 2).trans rfl;have hd3:w3.cell? ⟨gb,3,none⟩=some (.slice A ks.length c):=(blk_cell BD.out 3).trans rfl))
 obtain ⟨w4,hw4⟩:∃ W:World,W=w3.alloc (.cells #[.int .i64 0,.int .i64 0,.int .i64 0,.int .i64 0,.int .i64 0,.int .i64 0,.int .i64 1,.int .i64 2,.int .i64 1] 75):=⟨_,rfl⟩
 obtain ⟨ga,hga⟩:∃ ga:Nat,ga=w3.heap.size:=⟨_,rfl⟩
 rw [← hw4,← hga]
 have BA:=Aside0.mk (by rw [hw4,hga];exact blk_new _ _:w4.heap[ga]?=some (.cells #[.int .i64 0,.int .i64 0,.int .i64 0,.int .i64 0,.int .i64 0,.int .i64 0,.int .i64 1,.int .i64 2,.int .i64 1] 75 (0,0)))
 have hb4:Below w3.heap.size w3 w4:=by rw [hw4];exact below_alloc (Below.refl _ _) _
 have n0_:=Aside0.mk (below_step HB.out hb4)
 have n1_:=Aside0.mk (blk_below BK.out hb4)
 have n2_:=Aside0.mk (blk_below BD.out hb4)
 clear HB BK BD hcg hd0 hd1 hd2 hd3 hb4 hw4 hga
 have HB:=n0_
 have BK:=n1_
 have BD:=n2_
 clear n0_ n1_ n2_
 have hk:w4.cell? ⟨ga,o.toNat,none⟩=some (.int .i64 (docKids o)):=docKids_cell BA.out o O0.out O9.out
 have hd0:w4.cell? ⟨gb,0,none⟩=some (.int .i64 o):=(blk_cell BD.out 0).trans rfl;have hd1:w4.cell? ⟨gb,1,none⟩=some (.int .i64 n):=(blk_cell BD.out 1).trans rfl;have hd2:w4.cell? ⟨gb,2,none⟩=some (.string t):=(blk_cell BD.out 2).trans rfl;have hd3:w4.cell? ⟨gb,3,none⟩=some (.slice A ks.length c):=(blk_cell BD.out 3).trans rfl
 have o0:=eq_true O0.out
 have o9:=eq_true O9.out
 go_quiet (fail)
 go_wp2_with (first|(go_at_call 16;(with_reducible refine (impl_TextValid.calls kt t false _ HT.out).mono ?_);rintro e w5 ⟨rfl,⟨nd,rfl⟩⟩))
 go_ret
 exact ⟨rfl,gB HB,gK BK⟩
set_option maxHeartbeats 8000000 in
set_option maxRecDepth 100000 in
theorem impl_docOk.loopT (o n:Int) (t:ByteArray) (A:Option Addr) (c:Nat) (ks:List (SDoc)) (deep left:Int) (w0 w:World) (g:Nat)
  (hr:Kd.C k27 w0 A ks.length ks) (hc:ks.length≤c) (hB:Below w0.heap.size w0 w) (hg:w0.heap.size≤g) (hb:w.heap[g]?=some (.cells #[.int .i64 left] 3 (0,0)))
  (h1:(deep == 0)=false) (h2:decide ((wrap64 (left - 1)) < 0)=false) (h3:decide (o < 1)=false) (h4:decide (8 < o)=false) (h5:((ks.length:Int) != docKids o)=false) (h6:decide (n < 0)=false) (h7:decide (9 < n)=false) (h8:decide (0 < n)=false) (h10:(o == 2)=true) (h11:(o != 2)=false) (kt:Nat) (hT:impl_TextValid.f kt t=some true)
  (k:Nat) (ih:∀ m,m < k+1→∀ (o n:Int) (t:ByteArray) (A:Option Addr) (c:Nat) (ks:List (SDoc)) (deep left:Int) (r1:Bool) (r2:Int) (w0 w:World) (g:Nat),Kd.C k27 w0 A ks.length ks→ks.length≤c→Below w0.heap.size w0 w→w0.heap.size≤g→w.heap[g]?=some (.cells #[.int .i64 left] 3 (0,0))→impl_docOk.f m o n t ks deep left=some (r1,r2) →
   Calls Try.prog 52 #[.agg #[.int .i64 o,.int .i64 n,.string t,.slice A ks.length c],.int .i64 deep,.pointer (some ⟨g,0,none⟩)] w fun e w'=>e=.returned (.bool r1)∧Below w0.heap.size w0 w'∧w'.heap[g]?=some (.cells #[.int .i64 r2] 3 (0,0)))
  (r1:Bool) (r2:Int) (hL:impl_docOk.l0 k ks 0 deep (wrap64 (left - 1))=some (r1,r2)) :
  Calls Try.prog 52 #[.agg #[.int .i64 o,.int .i64 n,.string t,.slice A ks.length c],.int .i64 deep,.pointer (some ⟨g,0,none⟩)] w fun e w'=>e=.returned (.bool r1)∧Below w0.heap.size w0 w'∧w'.heap[g]?=some (.cells #[.int .i64 r2] 3 (0,0)):=by
 have O0:=Aside0.mk (show 0≤o by have:=of_decide_eq_false h3;omega)
 have O9:=Aside0.mk (show o < 9 by have:=of_decide_eq_false h4;omega)
 have HT:=Aside0.mk hT
 clear hT
 have H':=Aside0.mk hL
 clear hL
 have HR:=Aside0.mk hr
 have HC:=Aside0.mk hc
 clear hr hc
 have hu29:=Try.underlying27
 have hu3:=Try.underlying3
 have HB:=Aside0.mk hB
 have HG:=Aside0.mk hg
 have BK:=Aside0.mk hb
 clear hB hg hb
 go_enter Try.func52,Try.ntmps52
 go_wp2_with (first|((with_reducible refine gate_dst (N:=3) rfl ?_);refine box_event ?hg (N:=3) ?hd (cs:=#[.int .i64 o,.int .i64 n,.string t,.slice A ks.length c]) (t:=27) ?hr ?_;(case hd=>rfl);(case hg=>rfl);(case hr=>first|(go_simp;done)|(go_simp;rfl));intro gb hgb w2 hbox hb2;have n0_:=Aside0.mk (below_step HB.out hb2);have n1_:=Aside0.mk (blk_below BK.out hb2);have n2_:=Aside0.mk hbox;have NE:=Aside0.mk (by rw [hgb];exact Nat.ne_of_lt (blk_lt BK.out):g ≠ gb);clear HB BK;have HB:=n0_;have BK:=n1_;have BD:=n2_;clear n0_ n1_ n2_ hb2 hbox hgb;have hcg:w2.cell? ⟨g,0,none⟩=some (.int .i64 left):=(blk_cell BK.out 0).trans rfl;have hfg:=blk_frozen BK.out 0)|((with_reducible refine gate_store (t:=3) (p:=14) rfl ?_);refine store_event (t:=3) (p:=14) (v:=?vo_w13) (w1:=w2.setCell ⟨g,0,none⟩ (.int .i64 (wrap64 (left - 1)))) ?hg ?ho ?hn ?hr ?_;(case ho=>rfl);(case hg=>rfl);(case hn=>rfl);(case hr=>first|(go_simp;done)|(go_simp;rfl));intro w3 hw;have n0_:=Aside0.mk (by rw [hw];exact below_set HB.out HG.out:Below w0.heap.size w0 w3);have n1_:Aside0 (w3.heap[g]?=some (.cells #[.int .i64 (wrap64 (left - 1))] 3 (0,0))):=Aside0.mk (by rw [hw];exact blk_set BK.out 0 _);have n2_:Aside0 (w3.heap[gb]?=some (.cells #[.int .i64 o,.int .i64 n,.string t,.slice A ks.length c] 27 (0,0))):=Aside0.mk (by rw [hw];exact blk_far BD.out NE.out.symm _);clear HB BK BD hcg hfg hw;have HB:=n0_;have BK:=n1_;have BD:=n2_;clear n0_ n1_ n2_;have hcg:w3.cell? ⟨g,0,none⟩=some (.int .i64 (wrap64 (left - 1))):=(blk_cell BK.out 0).trans rfl;have hd0:w3.cell? ⟨gb,0,none⟩=some (.int .i64 o):=(blk_cell BD.out 0).trans rfl;have hd1:w3.cell? ⟨gb,1,none⟩=some (.int .i64 n):=(blk_cell BD.out 1).trans rfl;have hd2:w3.cell? ⟨gb,2,none⟩=some (.string t):=(blk_cell BD.out 2).trans rfl;have hd3:w3.cell? ⟨gb,3,none⟩=some (.slice A ks.length c):=(blk_cell BD.out 3).trans rfl))
 obtain ⟨w4,hw4⟩:∃ W:World,W=w3.alloc (.cells #[.int .i64 0,.int .i64 0,.int .i64 0,.int .i64 0,.int .i64 0,.int .i64 0,.int .i64 1,.int .i64 2,.int .i64 1] 75):=⟨_,rfl⟩
 obtain ⟨ga,hga⟩:∃ ga:Nat,ga=w3.heap.size:=⟨_,rfl⟩
 rw [← hw4,← hga]
 have BA:=Aside0.mk (by rw [hw4,hga];exact blk_new _ _:w4.heap[ga]?=some (.cells #[.int .i64 0,.int .i64 0,.int .i64 0,.int .i64 0,.int .i64 0,.int .i64 0,.int .i64 1,.int .i64 2,.int .i64 1] 75 (0,0)))
 have hb4:Below w3.heap.size w3 w4:=by rw [hw4];exact below_alloc (Below.refl _ _) _
 have n0_:=Aside0.mk (below_step HB.out hb4)
 have n1_:=Aside0.mk (blk_below BK.out hb4)
 have n2_:=Aside0.mk (blk_below BD.out hb4)
 clear HB BK BD hcg hd0 hd1 hd2 hd3 hb4 hw4 hga
 have HB:=n0_
 have BK:=n1_
 have BD:=n2_
 clear n0_ n1_ n2_
 have hk:w4.cell? ⟨ga,o.toNat,none⟩=some (.int .i64 (docKids o)):=docKids_cell BA.out o O0.out O9.out
 have hd0:w4.cell? ⟨gb,0,none⟩=some (.int .i64 o):=(blk_cell BD.out 0).trans rfl;have hd1:w4.cell? ⟨gb,1,none⟩=some (.int .i64 n):=(blk_cell BD.out 1).trans rfl;have hd2:w4.cell? ⟨gb,2,none⟩=some (.string t):=(blk_cell BD.out 2).trans rfl;have hd3:w4.cell? ⟨gb,3,none⟩=some (.slice A ks.length c):=(blk_cell BD.out 3).trans rfl
 have o0:=eq_true O0.out
 have o9:=eq_true O9.out
 go_quiet (fail)
 go_wp2_with (first|(go_at_call 16;(with_reducible refine (impl_TextValid.calls kt t true _ HT.out).mono ?_);rintro e w5 ⟨rfl,⟨nd,rfl⟩⟩))
 clear hk o0 o9 hd0 hd1 hd2 hd3
 go_loopg [84] k (fun kq v84 w'=>∃ (i lf:Int),v84=.int .i64 i∧Aside0 (impl_docOk.l0 kq ks i deep lf=some (r1,r2))∧Aside0 (kq≤k)∧Aside0 (w'.heap[g]?=some (.cells #[.int .i64 lf] 3 (0,0)))∧Aside0 (Below w0.heap.size w0 w'))
 case atStart=>exact ⟨0,(wrap64 (left - 1)),rfl,H',⟨Nat.le_refl _⟩,⟨gK BK⟩,⟨gB HB⟩⟩
 case round =>
  clear H' BK HB
  obtain ⟨i,lf,rfl,HA,HK1,BK,HB⟩:=hrel
  cases gk with
  | zero=>exact absurd HA.out (by simp [impl_docOk.l0])
  | succ k1 =>
   have H:=HA.out
   clear HA
   simp only [impl_docOk.l0] at H
   by_cases c4:i < (ks.length:Int)
   ·rw [if_pos c4] at H
    have c4b0:decide (i < (ks.length:Int))=true:=decide_eq_true c4
    by_cases c5:0≤i
    ·rw [if_pos c5] at H
     have c5b0:decide (0≤i)=true:=decide_eq_true c5
     replace H:=Option.bind_eq_some_iff.mp H
     obtain ⟨⟨b1,b2⟩,A70,H⟩:=H
     have A7:=Aside0.mk A70
     clear A70
     obtain ⟨ad,A3,c3,eA,hx0,hx1,hx2,hx3,hl3,hi3⟩:=at_TDoc HR.out i c5 c4
     cases eA
     replace hx0:=(HB.out.cell (World.block_lt_of_cell? w0 _ hx0)).trans hx0
     replace hx1:=(HB.out.cell (World.block_lt_of_cell? w0 _ hx1)).trans hx1
     replace hx2:=(HB.out.cell (World.block_lt_of_cell? w0 _ hx2)).trans hx2
     replace hx3:=(HB.out.cell (World.block_lt_of_cell? w0 _ hx3)).trans hx3
     have HR3:=Aside0.mk hi3
     have HC3:=Aside0.mk hl3
     clear hi3 hl3
     replace c4:=eq_true c4
     replace c5:=eq_true c5
     have H':=Aside0.mk H
     clear H
     have HS:Aside0 (∀ (x:Bool),b1=x→Aside0 ((if x=true then (impl_docOk.l0 k1 ks (wrap64 (i+1)) deep b2) else (some (false,b2)))=some (r1,r2))):=⟨fun x hx=>⟨by rw [← hx];exact H'.out⟩⟩
     clear H'
     cases b1
     all_goals
      go_wp2_with (first|((with_reducible refine gate_dst (N:=9) rfl ?_);refine box_event ?hg (N:=9) ?hd (cs:=#[.int .i64 0,.int .i64 0,.string (⟨#[]⟩:ByteArray),.slice none 0 0]) (t:=27) ?hr ?_;(case hd=>rfl);(case hg=>rfl);(case hr=>first|(go_simp;done)|(go_simp;rfl));intro gx hgx w8 hbox hb8;have n0_:=Aside0.mk (below_step HB.out hb8);have n1_:=Aside0.mk (blk_below BK.out hb8);have n2_:=Aside0.mk hbox;have NX:=Aside0.mk (by rw [hgx];exact Nat.ne_of_lt (blk_lt BK.out):g ≠ gx);have GX:=Aside0.mk (by rw [hgx];exact HB.out.size:w0.heap.size≤gx);clear HB BK;have HB:=n0_;have BK:=n1_;have BX:=n2_;clear n0_ n1_ n2_ hb8 hbox hgx;have hy0:w8.cell? ⟨gx,0,none⟩=some (.int .i64 0):=(blk_cell BX.out 0).trans rfl;have hy1:w8.cell? ⟨gx,1,none⟩=some (.int .i64 0):=(blk_cell BX.out 1).trans rfl;have hy2:w8.cell? ⟨gx,2,none⟩=some (.string ⟨#[]⟩):=(blk_cell BX.out 2).trans rfl;have hy3:w8.cell? ⟨gx,3,none⟩=some (.slice none 0 0):=(blk_cell BX.out 3).trans rfl;have hf0:=blk_frozen BX.out 0;have hf1:=blk_frozen BX.out 1;have hf2:=blk_frozen BX.out 2;have hf3:=blk_frozen BX.out 3)|((with_reducible refine gate_store (t:=27) (p:=9) rfl ?_);refine store_event (t:=27) (p:=9) (v:=?vo_w9) (w1:=((((w8.setCell ⟨gx,0,none⟩ (.int .i64 (rd_TDoc ks i).f0)).setCell ⟨gx,1,none⟩ (.int .i64 (rd_TDoc ks i).f1)).setCell ⟨gx,2,none⟩ (.string (rd_TDoc ks i).f2)).setCell ⟨gx,3,none⟩ (.slice A3 (rd_TDoc ks i).f3.length c3))) ?hg ?ho ?hn ?hr ?_;(case ho=>rfl);(case hg=>rfl);(case hn=>rfl);(case hr=>first|(go_simp;done)|(go_simp;rfl));intro w9 hw;have n0_:=Aside0.mk (by rw [hw];exact below_set (below_set (below_set (below_set HB.out GX.out) GX.out) GX.out) GX.out:Below w0.heap.size w0 w9);have n1_:Aside0 (w9.heap[g]?=some (.cells #[.int .i64 lf] 3 (0,0))):=Aside0.mk (by rw [hw];exact blk_far (blk_far (blk_far (blk_far BK.out NX.out _) NX.out _) NX.out _) NX.out _);have n2_:Aside0 (w9.heap[gx]?=some (.cells #[.int .i64 (rd_TDoc ks i).f0,.int .i64 (rd_TDoc ks i).f1,.string (rd_TDoc ks i).f2,.slice A3 (rd_TDoc ks i).f3.length c3] 27 (0,0))):=Aside0.mk (by rw [hw];exact (blk_set (blk_set (blk_set (blk_set BX.out 0 _) 1 _) 2 _) 3 _).trans rfl);clear HB BK BX hy0 hy1 hy2 hy3 hf0 hf1 hf2 hf3 hw;have HB:=n0_;have BK:=n1_;have BX:=n2_;clear n0_ n1_ n2_;have hy0:w9.cell? ⟨gx,0,none⟩=some (.int .i64 (rd_TDoc ks i).f0):=(blk_cell BX.out 0).trans rfl;have hy1:w9.cell? ⟨gx,1,none⟩=some (.int .i64 (rd_TDoc ks i).f1):=(blk_cell BX.out 1).trans rfl;have hy2:w9.cell? ⟨gx,2,none⟩=some (.string (rd_TDoc ks i).f2):=(blk_cell BX.out 2).trans rfl;have hy3:w9.cell? ⟨gx,3,none⟩=some (.slice A3 (rd_TDoc ks i).f3.length c3):=(blk_cell BX.out 3).trans rfl)|((with_reducible refine gate_callee (f:=52) rfl ?_);refine goesL_ (some 92) rfl rfl Try.func52 (by kernel_rfl) rfl #[.agg #[.int .i64 (rd_TDoc ks i).f0,.int .i64 (rd_TDoc ks i).f1,.string (rd_TDoc ks i).f2,.slice A3 (rd_TDoc ks i).f3.length c3],.int .i64 (wrap64 (deep - 1)),.pointer (some ⟨g,0,none⟩)] rfl (by (try simp only [List.map_toArray,List.map_cons,List.map_nil]);first|done|rfl) ?_;(with_reducible refine (ih k1 (by have:=HK1.out;omega) (rd_TDoc ks i).f0 (rd_TDoc ks i).f1 (rd_TDoc ks i).f2 A3 c3 (rd_TDoc ks i).f3 (wrap64 (deep - 1)) lf _ b2 w0 _ g HR3.out HC3.out ?side1 HG.out ?side2 A7.out).mono ?_);(case side1=>exact (gB HB));(case side2=>(with_reducible repeat (first|refine blk_drewN ?_ _|refine blk_drew ?_|refine blk_alloc ?_ _));exact BK.out);rintro e w10 ⟨rfl,hb10,hk10⟩;refine ⟨_,rfl,?_⟩;clear HB BK BX hy0 hy1 hy2 hy3;have HB:=Aside0.mk hb10;have BK:=Aside0.mk hk10;clear hb10 hk10))
     ·obtain ⟨rfl,rfl⟩:r1=false∧r2=b2:=by have h_:=(HS.out false rfl).out;simpa [eq_comm] using h_
      go_ret
      exact ⟨rfl,gB HB,gK BK⟩
     ·go_roundg k1
      case measure=>have:=HK1.out;omega
      case rel=>exact ⟨(wrap64 (i+1)),b2,(by first|rfl|(simp;done)|(simp [*];done)),⟨(HS.out true rfl).out⟩,⟨by have:=HK1.out;omega⟩,⟨gK BK⟩,⟨gB HB⟩⟩
    ·rw [if_neg c5] at H
     exact absurd H (by simp)
   ·rw [if_neg c4] at H
    have c4b0:decide (i < (ks.length:Int))=false:=decide_eq_false c4
    clear c4
    simp only [Option.some.injEq,Prod.mk.injEq] at H
    obtain ⟨rfl,rfl⟩:=H
    go_wp2
    go_ret
    exact ⟨rfl,gB HB,gK BK⟩
set_option maxHeartbeats 8000000 in
set_option maxRecDepth 100000 in
theorem impl_docOk.loopE (o n:Int) (t:ByteArray) (A:Option Addr) (c:Nat) (ks:List (SDoc)) (deep left:Int) (w0 w:World) (g:Nat)
  (hr:Kd.C k27 w0 A ks.length ks) (hc:ks.length≤c) (hB:Below w0.heap.size w0 w) (hg:w0.heap.size≤g) (hb:w.heap[g]?=some (.cells #[.int .i64 left] 3 (0,0)))
  (h1:(deep == 0)=false) (h2:decide ((wrap64 (left - 1)) < 0)=false) (h3:decide (o < 1)=false) (h4:decide (8 < o)=false) (h5:((ks.length:Int) != docKids o)=false) (h6:decide (n < 0)=false) (h7:decide (9 < n)=false)
  (hA:(decide (0 < n)=false∧((o == 2)=false∧(o != 2)=true)∧((t.toList == ([]:List UInt8))=true∧(t.toList != ([]:List UInt8))=false∧t.toList.isEmpty=true)) ∨ (decide (0 < n)=true∧(o != 6)=false∧((o == 2)=false∧(o != 2)=true)∧((t.toList == ([]:List UInt8))=true∧(t.toList != ([]:List UInt8))=false∧t.toList.isEmpty=true)))
  (k:Nat) (ih:∀ m,m < k+1→∀ (o n:Int) (t:ByteArray) (A:Option Addr) (c:Nat) (ks:List (SDoc)) (deep left:Int) (r1:Bool) (r2:Int) (w0 w:World) (g:Nat),Kd.C k27 w0 A ks.length ks→ks.length≤c→Below w0.heap.size w0 w→w0.heap.size≤g→w.heap[g]?=some (.cells #[.int .i64 left] 3 (0,0))→impl_docOk.f m o n t ks deep left=some (r1,r2) →
   Calls Try.prog 52 #[.agg #[.int .i64 o,.int .i64 n,.string t,.slice A ks.length c],.int .i64 deep,.pointer (some ⟨g,0,none⟩)] w fun e w'=>e=.returned (.bool r1)∧Below w0.heap.size w0 w'∧w'.heap[g]?=some (.cells #[.int .i64 r2] 3 (0,0)))
  (r1:Bool) (r2:Int) (hL:impl_docOk.l0 k ks 0 deep (wrap64 (left - 1))=some (r1,r2)) :
  Calls Try.prog 52 #[.agg #[.int .i64 o,.int .i64 n,.string t,.slice A ks.length c],.int .i64 deep,.pointer (some ⟨g,0,none⟩)] w fun e w'=>e=.returned (.bool r1)∧Below w0.heap.size w0 w'∧w'.heap[g]?=some (.cells #[.int .i64 r2] 3 (0,0)):=by
 have O0:=Aside0.mk (show 0≤o by have:=of_decide_eq_false h3;omega)
 have O9:=Aside0.mk (show o < 9 by have:=of_decide_eq_false h4;omega)
 rcases hA with ⟨h8,⟨h10,h11⟩,h12,h13,h14⟩ | ⟨h8,h9,⟨h10,h11⟩,h12,h13,h14⟩
 all_goals
  have H':=Aside0.mk hL
  clear hL
  have HR:=Aside0.mk hr
  have HC:=Aside0.mk hc
  clear hr hc
  have hu29:=Try.underlying27
  have hu3:=Try.underlying3
  have HB:=Aside0.mk hB
  have HG:=Aside0.mk hg
  have BK:=Aside0.mk hb
  clear hB hg hb
  go_enter Try.func52,Try.ntmps52
  go_wp2_with (first|((with_reducible refine gate_dst (N:=3) rfl ?_);refine box_event ?hg (N:=3) ?hd (cs:=#[.int .i64 o,.int .i64 n,.string t,.slice A ks.length c]) (t:=27) ?hr ?_;(case hd=>rfl);(case hg=>rfl);(case hr=>first|(go_simp;done)|(go_simp;rfl));intro gb hgb w2 hbox hb2;have n0_:=Aside0.mk (below_step HB.out hb2);have n1_:=Aside0.mk (blk_below BK.out hb2);have n2_:=Aside0.mk hbox;have NE:=Aside0.mk (by rw [hgb];exact Nat.ne_of_lt (blk_lt BK.out):g ≠ gb);clear HB BK;have HB:=n0_;have BK:=n1_;have BD:=n2_;clear n0_ n1_ n2_ hb2 hbox hgb;have hcg:w2.cell? ⟨g,0,none⟩=some (.int .i64 left):=(blk_cell BK.out 0).trans rfl;have hfg:=blk_frozen BK.out 0)|((with_reducible refine gate_store (t:=3) (p:=14) rfl ?_);refine store_event (t:=3) (p:=14) (v:=?vo_w13) (w1:=w2.setCell ⟨g,0,none⟩ (.int .i64 (wrap64 (left - 1)))) ?hg ?ho ?hn ?hr ?_;(case ho=>rfl);(case hg=>rfl);(case hn=>rfl);(case hr=>first|(go_simp;done)|(go_simp;rfl));intro w3 hw;have n0_:=Aside0.mk (by rw [hw];exact below_set HB.out HG.out:Below w0.heap.size w0 w3);have n1_:Aside0 (w3.heap[g]?=some (.cells #[.int .i64 (wrap64 (left - 1))] 3 (0,0))):=Aside0.mk (by rw [hw];exact blk_set BK.out 0 _);have n2_:Aside0 (w3.heap[gb]?=some (.cells #[.int .i64 o,.int .i64 n,.string t,.slice A ks.length c] 27 (0,0))):=Aside0.mk (by rw [hw];exact blk_far BD.out NE.out.symm _);clear HB BK BD hcg hfg hw;have HB:=n0_;have BK:=n1_;have BD:=n2_;clear n0_ n1_ n2_;have hcg:w3.cell? ⟨g,0,none⟩=some (.int .i64 (wrap64 (left - 1))):=(blk_cell BK.out 0).trans rfl;have hd0:w3.cell? ⟨gb,0,none⟩=some (.int .i64 o):=(blk_cell BD.out 0).trans rfl;have hd1:w3.cell? ⟨gb,1,none⟩=some (.int .i64 n):=(blk_cell BD.out 1).trans rfl;have hd2:w3.cell? ⟨gb,2,none⟩=some (.string t):=(blk_cell BD.out 2).trans rfl;have hd3:w3.cell? ⟨gb,3,none⟩=some (.slice A ks.length c):=(blk_cell BD.out 3).trans rfl))
  obtain ⟨w4,hw4⟩:∃ W:World,W=w3.alloc (.cells #[.int .i64 0,.int .i64 0,.int .i64 0,.int .i64 0,.int .i64 0,.int .i64 0,.int .i64 1,.int .i64 2,.int .i64 1] 75):=⟨_,rfl⟩
  obtain ⟨ga,hga⟩:∃ ga:Nat,ga=w3.heap.size:=⟨_,rfl⟩
  rw [← hw4,← hga]
  have BA:=Aside0.mk (by rw [hw4,hga];exact blk_new _ _:w4.heap[ga]?=some (.cells #[.int .i64 0,.int .i64 0,.int .i64 0,.int .i64 0,.int .i64 0,.int .i64 0,.int .i64 1,.int .i64 2,.int .i64 1] 75 (0,0)))
  have hb4:Below w3.heap.size w3 w4:=by rw [hw4];exact below_alloc (Below.refl _ _) _
  have n0_:=Aside0.mk (below_step HB.out hb4)
  have n1_:=Aside0.mk (blk_below BK.out hb4)
  have n2_:=Aside0.mk (blk_below BD.out hb4)
  clear HB BK BD hcg hd0 hd1 hd2 hd3 hb4 hw4 hga
  have HB:=n0_
  have BK:=n1_
  have BD:=n2_
  clear n0_ n1_ n2_
  have hk:w4.cell? ⟨ga,o.toNat,none⟩=some (.int .i64 (docKids o)):=docKids_cell BA.out o O0.out O9.out
  have hd0:w4.cell? ⟨gb,0,none⟩=some (.int .i64 o):=(blk_cell BD.out 0).trans rfl;have hd1:w4.cell? ⟨gb,1,none⟩=some (.int .i64 n):=(blk_cell BD.out 1).trans rfl;have hd2:w4.cell? ⟨gb,2,none⟩=some (.string t):=(blk_cell BD.out 2).trans rfl;have hd3:w4.cell? ⟨gb,3,none⟩=some (.slice A ks.length c):=(blk_cell BD.out 3).trans rfl
  have o0:=eq_true O0.out
  have o9:=eq_true O9.out
  go_quiet (fail)
  go_wp2
  clear hk o0 o9 hd0 hd1 hd2 hd3
  go_loopg [84] k (fun kq v84 w'=>∃ (i lf:Int),v84=.int .i64 i∧Aside0 (impl_docOk.l0 kq ks i deep lf=some (r1,r2))∧Aside0 (kq≤k)∧Aside0 (w'.heap[g]?=some (.cells #[.int .i64 lf] 3 (0,0)))∧Aside0 (Below w0.heap.size w0 w'))
  case atStart=>exact ⟨0,(wrap64 (left - 1)),rfl,H',⟨Nat.le_refl _⟩,⟨gK BK⟩,⟨gB HB⟩⟩
  case round =>
   clear H' BK HB
   obtain ⟨i,lf,rfl,HA,HK1,BK,HB⟩:=hrel
   cases gk with
   | zero=>exact absurd HA.out (by simp [impl_docOk.l0])
   | succ k1 =>
    have H:=HA.out
    clear HA
    simp only [impl_docOk.l0] at H
    by_cases c4:i < (ks.length:Int)
    ·rw [if_pos c4] at H
     have c4b0:decide (i < (ks.length:Int))=true:=decide_eq_true c4
     by_cases c5:0≤i
     ·rw [if_pos c5] at H
      have c5b0:decide (0≤i)=true:=decide_eq_true c5
      replace H:=Option.bind_eq_some_iff.mp H
      obtain ⟨⟨b1,b2⟩,A70,H⟩:=H
      have A7:=Aside0.mk A70
      clear A70
      obtain ⟨ad,A3,c3,eA,hx0,hx1,hx2,hx3,hl3,hi3⟩:=at_TDoc HR.out i c5 c4
      cases eA
      replace hx0:=(HB.out.cell (World.block_lt_of_cell? w0 _ hx0)).trans hx0
      replace hx1:=(HB.out.cell (World.block_lt_of_cell? w0 _ hx1)).trans hx1
      replace hx2:=(HB.out.cell (World.block_lt_of_cell? w0 _ hx2)).trans hx2
      replace hx3:=(HB.out.cell (World.block_lt_of_cell? w0 _ hx3)).trans hx3
      have HR3:=Aside0.mk hi3
      have HC3:=Aside0.mk hl3
      clear hi3 hl3
      replace c4:=eq_true c4
      replace c5:=eq_true c5
      have H':=Aside0.mk H
      clear H
      have HS:Aside0 (∀ (x:Bool),b1=x→Aside0 ((if x=true then (impl_docOk.l0 k1 ks (wrap64 (i+1)) deep b2) else (some (false,b2)))=some (r1,r2))):=⟨fun x hx=>⟨by rw [← hx];exact H'.out⟩⟩
      clear H'
      cases b1
      all_goals
       go_wp2_with (first|((with_reducible refine gate_dst (N:=9) rfl ?_);refine box_event ?hg (N:=9) ?hd (cs:=#[.int .i64 0,.int .i64 0,.string (⟨#[]⟩:ByteArray),.slice none 0 0]) (t:=27) ?hr ?_;(case hd=>rfl);(case hg=>rfl);(case hr=>first|(go_simp;done)|(go_simp;rfl));intro gx hgx w8 hbox hb8;have n0_:=Aside0.mk (below_step HB.out hb8);have n1_:=Aside0.mk (blk_below BK.out hb8);have n2_:=Aside0.mk hbox;have NX:=Aside0.mk (by rw [hgx];exact Nat.ne_of_lt (blk_lt BK.out):g ≠ gx);have GX:=Aside0.mk (by rw [hgx];exact HB.out.size:w0.heap.size≤gx);clear HB BK;have HB:=n0_;have BK:=n1_;have BX:=n2_;clear n0_ n1_ n2_ hb8 hbox hgx;have hy0:w8.cell? ⟨gx,0,none⟩=some (.int .i64 0):=(blk_cell BX.out 0).trans rfl;have hy1:w8.cell? ⟨gx,1,none⟩=some (.int .i64 0):=(blk_cell BX.out 1).trans rfl;have hy2:w8.cell? ⟨gx,2,none⟩=some (.string ⟨#[]⟩):=(blk_cell BX.out 2).trans rfl;have hy3:w8.cell? ⟨gx,3,none⟩=some (.slice none 0 0):=(blk_cell BX.out 3).trans rfl;have hf0:=blk_frozen BX.out 0;have hf1:=blk_frozen BX.out 1;have hf2:=blk_frozen BX.out 2;have hf3:=blk_frozen BX.out 3)|((with_reducible refine gate_store (t:=27) (p:=9) rfl ?_);refine store_event (t:=27) (p:=9) (v:=?vo_w9) (w1:=((((w8.setCell ⟨gx,0,none⟩ (.int .i64 (rd_TDoc ks i).f0)).setCell ⟨gx,1,none⟩ (.int .i64 (rd_TDoc ks i).f1)).setCell ⟨gx,2,none⟩ (.string (rd_TDoc ks i).f2)).setCell ⟨gx,3,none⟩ (.slice A3 (rd_TDoc ks i).f3.length c3))) ?hg ?ho ?hn ?hr ?_;(case ho=>rfl);(case hg=>rfl);(case hn=>rfl);(case hr=>first|(go_simp;done)|(go_simp;rfl));intro w9 hw;have n0_:=Aside0.mk (by rw [hw];exact below_set (below_set (below_set (below_set HB.out GX.out) GX.out) GX.out) GX.out:Below w0.heap.size w0 w9);have n1_:Aside0 (w9.heap[g]?=some (.cells #[.int .i64 lf] 3 (0,0))):=Aside0.mk (by rw [hw];exact blk_far (blk_far (blk_far (blk_far BK.out NX.out _) NX.out _) NX.out _) NX.out _);have n2_:Aside0 (w9.heap[gx]?=some (.cells #[.int .i64 (rd_TDoc ks i).f0,.int .i64 (rd_TDoc ks i).f1,.string (rd_TDoc ks i).f2,.slice A3 (rd_TDoc ks i).f3.length c3] 27 (0,0))):=Aside0.mk (by rw [hw];exact (blk_set (blk_set (blk_set (blk_set BX.out 0 _) 1 _) 2 _) 3 _).trans rfl);clear HB BK BX hy0 hy1 hy2 hy3 hf0 hf1 hf2 hf3 hw;have HB:=n0_;have BK:=n1_;have BX:=n2_;clear n0_ n1_ n2_;have hy0:w9.cell? ⟨gx,0,none⟩=some (.int .i64 (rd_TDoc ks i).f0):=(blk_cell BX.out 0).trans rfl;have hy1:w9.cell? ⟨gx,1,none⟩=some (.int .i64 (rd_TDoc ks i).f1):=(blk_cell BX.out 1).trans rfl;have hy2:w9.cell? ⟨gx,2,none⟩=some (.string (rd_TDoc ks i).f2):=(blk_cell BX.out 2).trans rfl;have hy3:w9.cell? ⟨gx,3,none⟩=some (.slice A3 (rd_TDoc ks i).f3.length c3):=(blk_cell BX.out 3).trans rfl)|((with_reducible refine gate_callee (f:=52) rfl ?_);refine goesL_ (some 92) rfl rfl Try.func52 (by kernel_rfl) rfl #[.agg #[.int .i64 (rd_TDoc ks i).f0,.int .i64 (rd_TDoc ks i).f1,.string (rd_TDoc ks i).f2,.slice A3 (rd_TDoc ks i).f3.length c3],.int .i64 (wrap64 (deep - 1)),.pointer (some ⟨g,0,none⟩)] rfl (by (try simp only [List.map_toArray,List.map_cons,List.map_nil]);first|done|rfl) ?_;(with_reducible refine (ih k1 (by have:=HK1.out;omega) (rd_TDoc ks i).f0 (rd_TDoc ks i).f1 (rd_TDoc ks i).f2 A3 c3 (rd_TDoc ks i).f3 (wrap64 (deep - 1)) lf _ b2 w0 _ g HR3.out HC3.out ?side1 HG.out ?side2 A7.out).mono ?_);(case side1=>exact (gB HB));(case side2=>(with_reducible repeat (first|refine blk_drewN ?_ _|refine blk_drew ?_|refine blk_alloc ?_ _));exact BK.out);rintro e w10 ⟨rfl,hb10,hk10⟩;refine ⟨_,rfl,?_⟩;clear HB BK BX hy0 hy1 hy2 hy3;have HB:=Aside0.mk hb10;have BK:=Aside0.mk hk10;clear hb10 hk10))
      ·obtain ⟨rfl,rfl⟩:r1=false∧r2=b2:=by have h_:=(HS.out false rfl).out;simpa [eq_comm] using h_
       go_ret
       exact ⟨rfl,gB HB,gK BK⟩
      ·go_roundg k1
       case measure=>have:=HK1.out;omega
       case rel=>exact ⟨(wrap64 (i+1)),b2,(by first|rfl|(simp;done)|(simp [*];done)),⟨(HS.out true rfl).out⟩,⟨by have:=HK1.out;omega⟩,⟨gK BK⟩,⟨gB HB⟩⟩
     ·rw [if_neg c5] at H
      exact absurd H (by simp)
    ·rw [if_neg c4] at H
     have c4b0:decide (i < (ks.length:Int))=false:=decide_eq_false c4
     clear c4
     simp only [Option.some.injEq,Prod.mk.injEq] at H
     obtain ⟨rfl,rfl⟩:=H
     go_wp2
     go_ret
     exact ⟨rfl,gB HB,gK BK⟩
theorem impl_docOk.calls (k:Nat):∀ (o n:Int) (t:ByteArray) (A:Option Addr) (c:Nat) (ks:List (SDoc)) (deep left:Int) (r1:Bool) (r2:Int) (w0 w:World) (g:Nat),Kd.C k27 w0 A ks.length ks→ks.length≤c→Below w0.heap.size w0 w→w0.heap.size≤g→w.heap[g]?=some (.cells #[.int .i64 left] 3 (0,0))→impl_docOk.f k o n t ks deep left=some (r1,r2) →
   Calls Try.prog 52 #[.agg #[.int .i64 o,.int .i64 n,.string t,.slice A ks.length c],.int .i64 deep,.pointer (some ⟨g,0,none⟩)] w fun e w'=>e=.returned (.bool r1)∧Below w0.heap.size w0 w'∧w'.heap[g]?=some (.cells #[.int .i64 r2] 3 (0,0)):=by
 induction k using Nat.strongRecOn with
 | _ k ih =>
 intro o n t A c ks deep left r1 r2 w0 w g hr hc hB hg hb h
 cases k with
 | zero=>exact absurd h (by simp [impl_docOk.f])
 | succ k =>
 simp only [impl_docOk.f] at h
 have be:∀ x y:Int,x=y→(x == y)=true∧(x != y)=false:=fun x y e=>by simp [e]
 have bn:∀ x y:Int,¬ x=y→(x == y)=false∧(x != y)=true:=fun x y e=>by simp [e]
 by_cases a1:deep=0 ∨ (wrap64 (left - 1)) < 0 ∨ o < 1 ∨ 8 < o
 ·rw [if_pos a1] at h
  simp only [Option.some.injEq,Prod.mk.injEq] at h
  obtain ⟨rfl,rfl⟩:=h
  refine impl_docOk.failA o n t A c ks deep left w0 w g hr hc hB hg hb ?_
  by_cases e1:deep=0
  ·exact .inl (be _ _ e1).1
  ·by_cases e2:(wrap64 (left - 1)) < 0
   ·exact .inr (.inl ⟨(bn _ _ e1).1,decide_eq_true e2⟩)
   ·by_cases e3:o < 1
    ·exact .inr (.inr (.inl ⟨(bn _ _ e1).1,decide_eq_false e2,decide_eq_true e3⟩))
    ·have e4:8 < o:=by rcases a1 with a|a|a|a <;> first|exact absurd a e1|exact absurd a e2|exact absurd a e3|exact a
     exact .inr (.inr (.inr ⟨(bn _ _ e1).1,decide_eq_false e2,decide_eq_false e3,decide_eq_true e4⟩))
 ·rw [if_neg a1] at h
  have e1:¬ deep=0:=fun e=>a1 (.inl e)
  have e2:¬ (wrap64 (left - 1)) < 0:=fun e=>a1 (.inr (.inl e))
  have e3:¬ o < 1:=fun e=>a1 (.inr (.inr (.inl e)))
  have e4:¬ 8 < o:=fun e=>a1 (.inr (.inr (.inr e)))
  have h1:=(bn _ _ e1).1
  have h2:=decide_eq_false e2
  have h3:=decide_eq_false e3
  have h4:=decide_eq_false e4
  by_cases a2:¬ ((ks.length:Int)=docKids o) ∨ n < 0 ∨ 9 < n ∨ (0 < n∧¬ (o=6))
  ·rw [if_pos a2] at h
   simp only [Option.some.injEq,Prod.mk.injEq] at h
   obtain ⟨rfl,rfl⟩:=h
   refine impl_docOk.failB o n t A c ks deep left w0 w g hr hc hB hg hb h1 h2 h3 h4 ?_
   by_cases e5:(ks.length:Int)=docKids o
   ·by_cases e6:n < 0
    ·exact .inr (.inl ⟨(be _ _ e5).2,decide_eq_true e6⟩)
    ·by_cases e7:9 < n
     ·exact .inr (.inr (.inl ⟨(be _ _ e5).2,decide_eq_false e6,decide_eq_true e7⟩))
     ·have e8:0 < n∧¬ (o=6):=by rcases a2 with a|a|a|a <;> first|exact absurd e5 a|exact absurd a e6|exact absurd a e7|exact a
      exact .inr (.inr (.inr ⟨(be _ _ e5).2,decide_eq_false e6,decide_eq_false e7,decide_eq_true e8.1,(bn _ _ e8.2).2⟩))
   ·exact .inl (bn _ _ e5).2
  ·rw [if_neg a2] at h
   have h5:=(be _ _ (Decidable.not_not.1 (fun e=>a2 (.inl e)):(ks.length:Int)=docKids o)).2
   have h6:=decide_eq_false (fun e=>a2 (.inr (.inl e)):¬ n < 0)
   have h7:=decide_eq_false (fun e=>a2 (.inr (.inr (.inl e))):¬ 9 < n)
   have e8:0 < n→o=6:=fun e=>Decidable.not_not.1 (fun e'=>a2 (.inr (.inr (.inr ⟨e,e'⟩))))
   by_cases e9:o=2
   ·rw [if_pos e9] at h
    obtain ⟨b,hT,h⟩:=Option.bind_eq_some_iff.mp h
    have h8:decide (0 < n)=false:=decide_eq_false (fun e=>by have:=e8 e;omega)
    cases b with
    | false =>
     simp only [Bool.false_eq_true,if_false,Option.some.injEq,Prod.mk.injEq] at h
     obtain ⟨rfl,rfl⟩:=h
     exact impl_docOk.failT o n t A c ks deep left w0 w g hr hc hB hg hb h1 h2 h3 h4 h5 h6 h7 h8 (be _ _ e9).1 (be _ _ e9).2 k hT
    | true =>
     simp only [if_true] at h
     exact impl_docOk.loopT o n t A c ks deep left w0 w g hr hc hB hg hb h1 h2 h3 h4 h5 h6 h7 h8 (be _ _ e9).1 (be _ _ e9).2 k hT k ih r1 r2 h
   ·rw [if_neg e9] at h
    have h10:=bn _ _ e9
    by_cases e10:t.toList=[]
    ·rw [if_pos e10] at h
     refine impl_docOk.loopE o n t A c ks deep left w0 w g hr hc hB hg hb h1 h2 h3 h4 h5 h6 h7 ?_ k ih r1 r2 h
     have hte:(t.toList == ([]:List UInt8))=true∧(t.toList != ([]:List UInt8))=false∧t.toList.isEmpty=true:=by simp [e10]
     by_cases e11:0 < n
     ·exact .inr ⟨decide_eq_true e11,(be _ _ (e8 e11)).2,h10,hte⟩
     ·exact .inl ⟨decide_eq_false e11,h10,hte⟩
    ·rw [if_neg e10] at h
     simp only [Option.some.injEq,Prod.mk.injEq] at h
     obtain ⟨rfl,rfl⟩:=h
     refine impl_docOk.failC o n t A c ks deep left w0 w g hr hc hB hg hb h1 h2 h3 h4 h5 h6 h7 ?_
     have hte:(t.toList == ([]:List UInt8))=false∧(t.toList != ([]:List UInt8))=true∧t.toList.isEmpty=false:=by simp [e10]
     by_cases e11:0 < n
     ·exact .inr ⟨decide_eq_true e11,(be _ _ (e8 e11)).2,h10,hte⟩
     ·exact .inl ⟨decide_eq_false e11,h10,hte⟩
def impl_DocValid.f (k:Nat) (a0_0:Int) (a0_1:Int) (a0_2:ByteArray) (l0_3:List (SDoc)):Option (Bool):=(impl_docOk.f k a0_0 a0_1 a0_2 l0_3 40 80).bind fun b=>(some b.1)
set_option maxHeartbeats 8000000 in
set_option maxRecDepth 100000 in
theorem impl_DocValid.calls (k:Nat) (a0_0:Int) (a0_1:Int) (a0_2:ByteArray) (A0_3:Option Addr) (c0_3:Nat) (l0_3:List (SDoc)) (r:Bool) (w:World) (hr0_3:Kd.C k27 w A0_3 l0_3.length l0_3) (hc0_3:l0_3.length≤c0_3) (h:impl_DocValid.f k a0_0 a0_1 a0_2 l0_3=some r) :
  Calls Try.prog 24 #[.agg #[.int .i64 a0_0,.int .i64 a0_1,.string a0_2,.slice A0_3 l0_3.length c0_3]] w fun e w'=>e=.returned (.bool r)∧Below w.heap.size w w':=by
 unfold impl_DocValid.f at h
 obtain ⟨⟨b1,b2⟩,hq,hr⟩:=Option.bind_eq_some_iff.mp h
 clear h
 obtain rfl:b1=r:=by simpa using hr
 clear hr
 have hu29:=Try.underlying27
 have hu3:=Try.underlying3
 have HR:=Aside0.mk hr0_3
 have HC:=Aside0.mk hc0_3
 have HF:=Aside0.mk hq
 clear hr0_3 hc0_3 hq
 go_enter Try.func24,Try.ntmps24
 go_wp2_with (first|((with_reducible refine gate_dst (N:=1) rfl ?_);refine box_event ?hg (N:=1) ?hd (cs:=#[.int .i64 a0_0,.int .i64 a0_1,.string a0_2,.slice A0_3 l0_3.length c0_3]) (t:=27) ?hr ?_;(case hd=>rfl);(case hg=>rfl);(case hr=>first|(go_simp;done)|(go_simp;rfl));intro gb hgb w2 hbox hb2;have HB:=Aside0.mk (below_step (Below.refl _ _) hb2);have BD:=Aside0.mk hbox;clear hb2 hbox hgb;have hd0:w2.cell? ⟨gb,0,none⟩=some (.int .i64 a0_0):=(blk_cell BD.out 0).trans rfl;have hd1:w2.cell? ⟨gb,1,none⟩=some (.int .i64 a0_1):=(blk_cell BD.out 1).trans rfl;have hd2:w2.cell? ⟨gb,2,none⟩=some (.string a0_2):=(blk_cell BD.out 2).trans rfl;have hd3:w2.cell? ⟨gb,3,none⟩=some (.slice A0_3 l0_3.length c0_3):=(blk_cell BD.out 3).trans rfl)|((with_reducible refine gate_dst (N:=3) rfl ?_);refine box_event ?hg (N:=3) ?hd (cs:=#[.int .i64 0]) (t:=3) ?hr ?_;(case hd=>rfl);(case hg=>rfl);(case hr=>first|(go_simp;done)|(go_simp;rfl));intro g hg w3 hbox hb2;have n0_:=Aside0.mk (below_step HB.out hb2);have n1_:=Aside0.mk (blk_below BD.out hb2);have BK:=Aside0.mk hbox;have NE:=Aside0.mk (by rw [hg];exact Nat.ne_of_lt (blk_lt BD.out):gb ≠ g);have GE:=Aside0.mk (by rw [hg];exact HB.out.size:w.heap.size≤g);clear HB BD hd0 hd1 hd2 hd3;have HB:=n0_;have BD:=n1_;clear n0_ n1_ hb2 hbox hg;have hcg:w3.cell? ⟨g,0,none⟩=some (.int .i64 0):=(blk_cell BK.out 0).trans rfl;have hfg:=blk_frozen BK.out 0)|((with_reducible refine gate_store (t:=3) (p:=3) rfl ?_);refine store_event (t:=3) (p:=3) (v:=?vo_w13) (w1:=w3.setCell ⟨g,0,none⟩ (.int .i64 80)) ?hg ?ho ?hn ?hr ?_;(case ho=>rfl);(case hg=>rfl);(case hn=>rfl);(case hr=>first|(go_simp;done)|(go_simp;rfl));intro w4 hw;have n0_:=Aside0.mk (by rw [hw];exact below_set HB.out GE.out:Below w.heap.size w w4);have n1_:Aside0 (w4.heap[g]?=some (.cells #[.int .i64 80] 3 (0,0))):=Aside0.mk (by rw [hw];exact blk_set BK.out 0 _);have n2_:Aside0 (w4.heap[gb]?=some (.cells #[.int .i64 a0_0,.int .i64 a0_1,.string a0_2,.slice A0_3 l0_3.length c0_3] 27 (0,0))):=Aside0.mk (by rw [hw];exact blk_far BD.out NE.out _);clear HB BK BD hcg hfg hw;have HB:=n0_;have BK:=n1_;have BD:=n2_;clear n0_ n1_ n2_;have hd0:w4.cell? ⟨gb,0,none⟩=some (.int .i64 a0_0):=(blk_cell BD.out 0).trans rfl;have hd1:w4.cell? ⟨gb,1,none⟩=some (.int .i64 a0_1):=(blk_cell BD.out 1).trans rfl;have hd2:w4.cell? ⟨gb,2,none⟩=some (.string a0_2):=(blk_cell BD.out 2).trans rfl;have hd3:w4.cell? ⟨gb,3,none⟩=some (.slice A0_3 l0_3.length c0_3):=(blk_cell BD.out 3).trans rfl)|((with_reducible refine gate_callee (f:=52) rfl ?_);refine goesL_ (some 5) rfl rfl Try.func52 (by kernel_rfl) rfl #[.agg #[.int .i64 a0_0,.int .i64 a0_1,.string a0_2,.slice A0_3 l0_3.length c0_3],.int .i64 40,.pointer (some ⟨g,0,none⟩)] rfl (by (try simp only [List.map_toArray,List.map_cons,List.map_nil]);first|done|rfl) ?_;(with_reducible refine (impl_docOk.calls k a0_0 a0_1 a0_2 A0_3 c0_3 l0_3 40 80 _ b2 w _ g HR.out HC.out ?side1 GE.out ?side2 HF.out).mono ?_);(case side1=>exact (gB HB));(case side2=>(with_reducible repeat (first|refine blk_drewN ?_ _|refine blk_drew ?_|refine blk_alloc ?_ _));exact BK.out);rintro e w10 ⟨rfl,hb10,hk10⟩;refine ⟨_,rfl,?_⟩;clear HB BK BD hd0 hd1 hd2 hd3;have HB:=Aside0.mk hb10;clear hb10 hk10))
 go_ret
 exact ⟨rfl,gB HB⟩
end Go.Proofs.Ytdhdfmmefghijaa.P
namespace Go.Proofs.Ytdhdfmmefghijaa.P
open Go.RowKit Go.Proofs.YtdhdfmmefghijaaW.PrintWords Go.Proofs.YtdhdfmmefghijaaW.PrintLast Go.Proofs.YtdhdfmmefghijaaW.PrintMore
attribute [local go_sem] max2_int min2_int max_two min_two max_three min_three max_four min_four
set_option linter.unusedVariables false
set_option linter.unusedSimpArgs false
mutual
def impl_CountOps.j0:Nat→Int→Int→Int→Int→ByteArray→List (SDoc)→Option (Int)
 | 0,_,_,_,_,_,_=>none
 | k+1,x1,x5,x510000,x510001,x510002,x510003=>impl_CountOps.l0 k x1 x5 x510003 (x510003.length:Int) 0
def impl_CountOps.l0:Nat→Int→Int→List (SDoc)→Int→Int→Option (Int)
 | 0,_,_,_,_,_=>none
 | k+1,x1,x5,x13,x14,x15=>if x15 < x14 then (if 0≤x15 then (if x15 < (x13.length:Int) then ((impl_CountOps.f k ((rd_TDoc x13 x15).f0) ((rd_TDoc x13 x15).f1) ((rd_TDoc x13 x15).f2) ((rd_TDoc x13 x15).f3) x1).bind fun t512=>(impl_CountOps.l0 k x1 (wrap64 (x5+t512)) x13 x14 (wrap64 (x15+1)))) else (none)) else (none)) else (some x5)
def impl_CountOps.f:Nat→Int→Int→ByteArray→List (SDoc)→Int→Option (Int)
 | 0,_,_,_,_,_=>none
 | k+1,a0_0,a0_1,a0_2,l0_3,a1=>if a0_0=a1 then (impl_CountOps.j0 k a1 1 a0_0 a0_1 a0_2 l0_3) else (impl_CountOps.j0 k a1 0 a0_0 a0_1 a0_2 l0_3)
end
set_option maxHeartbeats 8000000 in
set_option maxRecDepth 100000 in
theorem impl_CountOps.calls (k:Nat):∀ (a0_0:Int) (a0_1:Int) (a0_2:ByteArray) (A0_3:Option Addr) (c0_3:Nat) (l0_3:List (SDoc)) (a1:Int) (r:Int) (w:World) (hr0_3:Kd.C k27 w A0_3 l0_3.length l0_3) (hc0_3:l0_3.length≤c0_3) (h:impl_CountOps.f k a0_0 a0_1 a0_2 l0_3 a1=some r),
  Calls Try.prog 20 #[.agg #[.int .i64 a0_0,.int .i64 a0_1,.string a0_2,.slice A0_3 l0_3.length c0_3],.int .i64 a1] w fun e w'=>e=.returned (.int .i64 r)∧Below w.heap.size w w':=by
 induction k using Nat.strongRecOn with
 | _ k ih =>
 intro a0_0 a0_1 a0_2 A0_3 c0_3 l0_3 a1 r w hr0_3 hc0_3 h
 cases k with
 | zero=>exact absurd h (by simp [impl_CountOps.f])
 | succ k =>
 simp only [impl_CountOps.f] at h
 have hu27:=Try.underlying27
 have HR0_3:=Aside0.mk hr0_3
 have HC0_3:=Aside0.mk hc0_3
 clear hr0_3 hc0_3
 have HB:=Aside0.mk (Below.refl w.heap.size w)
 have H:(if a0_0=a1 then (impl_CountOps.j0 k a1 1 a0_0 a0_1 a0_2 l0_3) else (impl_CountOps.j0 k a1 0 a0_0 a0_1 a0_2 l0_3))=some r:=h
 clear h
 have HC3:=Aside0.mk H
 clear H
 go_enter Try.func20,Try.ntmps20
 go_upto_if 11 with (first|((with_reducible refine gate_dst (N:=2) rfl ?_);refine box_event ?hg (N:=2) ?hd (cs:=#[.int .i64 a0_0,.int .i64 a0_1,.string a0_2,.slice A0_3 l0_3.length c0_3]) (t:=27) ?hr ?_;(case hd=>rfl);(case hg=>rfl);(case hr=>first|(go_simp;done)|(go_simp;rfl));intro gb509 hg w4 hbox hb;have n0_:=Aside0.mk (below_step (gB HB) hb);have n1_:=Aside0.mk (hbox);have n2_:=Aside0.mk ((by rw [hg];exact (below_size (gB HB)):w.heap.size≤gb509));have n3_:=Aside0.mk ((by rw [hg];exact (below_size (gB HB)):w.heap.size≤gb509));clear HB;have HB:=n0_;have BK509:=n1_;have GW509:=n2_;have GE509:=n3_;clear n0_ n1_ n2_ n3_;clear hb hbox hg;have hcz5_0:w4.cell? ⟨gb509,0,none⟩=some (.int .i64 a0_0):=(blk_cell BK509.out 0).trans rfl;have hcz5_1:w4.cell? ⟨gb509,1,none⟩=some (.int .i64 a0_1):=(blk_cell BK509.out 1).trans rfl;have hcz5_2:w4.cell? ⟨gb509,2,none⟩=some (.string a0_2):=(blk_cell BK509.out 2).trans rfl;have hcz5_3:w4.cell? ⟨gb509,3,none⟩=some (.slice A0_3 l0_3.length c0_3):=(blk_cell BK509.out 3).trans rfl;have hfz5_0:=blk_frozen BK509.out 0;have hfz5_1:=blk_frozen BK509.out 1;have hfz5_2:=blk_frozen BK509.out 2;have hfz5_3:=blk_frozen BK509.out 3))
 (try simp only [Act.put,List.setIfInBounds_toArray,List.set_cons_zero,List.set_cons_succ])
 go_cut [5] (fun v5 wc=>∃ (kq:Nat) (x5_2:Int),v5=.int .i64 x5_2∧Aside0 (impl_CountOps.j0 kq a1 x5_2 a0_0 a0_1 a0_2 l0_3=some r)∧Aside0 (kq≤k)∧Aside0 (wc.heap[gb509]?=some (.cells #[.int .i64 a0_0,.int .i64 a0_1,.string a0_2,(.slice A0_3 l0_3.length c0_3)] 27 (0,0)))∧Aside0 (Below w.heap.size w wc))
 case first =>
  have H:=HC3.out
  clear HC3
  by_cases c6:a0_0=a1
  ·rw [if_pos c6] at H
   have c6b0:(a0_0 == a1)=true:=beq_iff_eq.mpr c6
   have c6b1:(a0_0 != a1)=false:=bne_eq_false_iff_eq.mpr c6
   clear c6
   (first|rw [c6b0]|(simp only [i64_w,i32_w];rw [c6b0])|skip)
   have H':=Aside0.mk H
   clear H
   go_wp2
   go_meet
   case rel=>exact ⟨_,(1),(by first|rfl|(simp;done)|(simp [*];done)),H',⟨by first|omega|exact Nat.le_refl _⟩,⟨gK BK509⟩,⟨by repeat (first|exact gB HB|refine below_set ?_ GE509.out)⟩⟩
  ·rw [if_neg c6] at H
   have c6b0:(a0_0 == a1)=false:=beq_eq_false_iff_ne.mpr c6
   have c6b1:(a0_0 != a1)=true:=bne_iff_ne.mpr c6
   (first|rw [c6b0]|(simp only [i64_w,i32_w];rw [c6b0])|skip)
   have H':=Aside0.mk H
   clear H
   go_wp2
   go_meet
   case rel=>exact ⟨_,(0),(by first|rfl|(simp;done)|(simp [*];done)),H',⟨by first|omega|exact Nat.le_refl _⟩,⟨gK BK509⟩,⟨by repeat (first|exact gB HB|refine below_set ?_ GE509.out)⟩⟩
 case rest =>
  clear HC3
  try clear c2 p2 c6 c6b0 c6b1 hcz5_0 hcz5_1 hcz5_2 hcz5_3 hfz5_0 hfz5_1 hfz5_2 hfz5_3
  obtain ⟨kq,x5_2,rfl,HA,HJ2,BK509,HB⟩:=hcut
  cases kq with
  | zero=>exact absurd HA.out (by simp [impl_CountOps.j0])
  | succ kj2 =>
   have H:=HA.out
   clear HA
   simp only [impl_CountOps.j0] at H
   have H':=Aside0.mk H
   clear H
   have hcz7_0:wc.cell? ⟨gb509,0,none⟩=some (.int .i64 a0_0):=(blk_cell BK509.out 0).trans rfl
   have hcz7_1:wc.cell? ⟨gb509,1,none⟩=some (.int .i64 a0_1):=(blk_cell BK509.out 1).trans rfl
   have hcz7_2:wc.cell? ⟨gb509,2,none⟩=some (.string a0_2):=(blk_cell BK509.out 2).trans rfl
   have hcz7_3:wc.cell? ⟨gb509,3,none⟩=some (.slice A0_3 l0_3.length c0_3):=(blk_cell BK509.out 3).trans rfl
   have hfz7_0:=blk_frozen BK509.out 0
   have hfz7_1:=blk_frozen BK509.out 1
   have hfz7_2:=blk_frozen BK509.out 2
   have hfz7_3:=blk_frozen BK509.out 3
   go_wp2
   go_loopg [5,15] kj2 (fun kq v5 v15 w'=>∃ (x5_2:Int) (x15_2:Int),v5=.int .i64 x5_2∧v15=.int .i64 x15_2∧Aside0 (impl_CountOps.l0 kq a1 x5_2 l0_3 (l0_3.length:Int) x15_2=some r)∧Aside0 (kq≤kj2)∧Aside0 (w'.heap[gb509]?=some (.cells #[.int .i64 a0_0,.int .i64 a0_1,.string a0_2,(.slice A0_3 l0_3.length c0_3)] 27 (0,0)))∧Aside0 (Below w.heap.size w w'))
   case atStart=>exact ⟨(x5_2),(0),(by first|rfl|(simp;done)|(simp [*];done)),(by first|rfl|(simp;done)|(simp [*];done)),H',⟨Nat.le_refl _⟩,⟨gK BK509⟩,⟨by repeat (first|exact gB HB|refine below_set ?_ GE509.out)⟩⟩
   case round =>
    clear H'
    try clear c2 p2 c6 c6b0 c6b1 hcz5_0 hcz5_1 hcz5_2 hcz5_3 hcz7_0 hcz7_1 hcz7_2 hcz7_3 hfz5_0 hfz5_1 hfz5_2 hfz5_3 hfz7_0 hfz7_1 hfz7_2 hfz7_3 p2
    (try clear BK509);(try clear HB)
    obtain ⟨x5_2,x15_2,rfl,rfl,HA,HK2,BK509,HB⟩:=hrel
    cases gk with
    | zero=>exact absurd HA.out (by simp [impl_CountOps.l0])
    | succ k2 =>
     have H:=HA.out
     clear HA
     simp only [impl_CountOps.l0] at H
     by_cases c8:x15_2 < (l0_3.length:Int)
     ·rw [if_pos c8] at H
      have c8b0:decide (x15_2 < (l0_3.length:Int))=true:=decide_eq_true c8
      clear c8
      by_cases c9:0≤x15_2
      ·rw [if_pos c9] at H
       have c9b0:decide (0≤x15_2)=true:=decide_eq_true c9
       clear c9
       by_cases c10:x15_2 < (l0_3.length:Int)
       ·rw [if_pos c10] at H
        have c10b0:decide (x15_2 < (l0_3.length:Int))=true:=decide_eq_true c10
        clear c10
        replace H:=Option.bind_eq_some_iff.mp H
        obtain ⟨t512,A110,H⟩:=H
        replace H:(impl_CountOps.l0 k2 a1 (wrap64 (x5_2+t512)) l0_3 (l0_3.length:Int) (wrap64 (x15_2+1)))=some r:=H
        have A11:=Aside0.mk A110
        clear A110
        have H':=Aside0.mk H
        clear H
        have p510:0≤(x15_2:Int):=of_decide_eq_true (by first|(with_reducible assumption)|assumption)
        have q510:x15_2 < (l0_3.length:Int):=of_decide_eq_true (by first|(with_reducible assumption)|assumption)
        obtain ⟨ad510,A510_3,c510_3,e510,hx510_0,hx510_1,hx510_2,hx510_3,hl510_3,hi510_3⟩:=at_TDoc HR0_3.out x15_2 p510 q510
        cases e510
        replace hx510_0:=(HB.out.cell (World.block_lt_of_cell? w _ hx510_0)).trans hx510_0
        replace hx510_1:=(HB.out.cell (World.block_lt_of_cell? w _ hx510_1)).trans hx510_1
        replace hx510_2:=(HB.out.cell (World.block_lt_of_cell? w _ hx510_2)).trans hx510_2
        replace hx510_3:=(HB.out.cell (World.block_lt_of_cell? w _ hx510_3)).trans hx510_3
        have HR510_3:=Aside0.mk hi510_3
        have HC510_3:=Aside0.mk hl510_3
        clear hi510_3 hl510_3
        replace p510:=eq_true p510
        replace q510:=eq_true q510
        go_wp2_with (first|((with_reducible refine gate_dst (N:=7) rfl ?_);refine box_event ?hg (N:=7) ?hd (cs:=#[.int .i64 0,.int .i64 0,.string (⟨#[]⟩:ByteArray),.slice none 0 0]) (t:=27) ?hr ?_;(case hd=>rfl);(case hg=>rfl);(case hr=>first|(go_simp;done)|(go_simp;rfl));intro gb511 hg w12 hbox hb;have n0_:=Aside0.mk (blk_below (g:=gb509) (o:=.cells #[.int .i64 a0_0,.int .i64 a0_1,.string a0_2,.slice (some ad510) l0_3.length c0_3] 27 (0,0)) (gK BK509) hb);have n1_:=Aside0.mk (below_step (by repeat (first|exact gB HB|refine below_set ?_ GE509.out)) hb);have n2_:=Aside0.mk (hbox);have n3_:=Aside0.mk ((by rw [hg];exact (below_size (by repeat (first|exact gB HB|refine below_set ?_ GE509.out))):w.heap.size≤gb511));have n4_:=Aside0.mk ((by rw [hg];exact (below_size (by repeat (first|exact gB HB|refine below_set ?_ GE509.out))):w.heap.size≤gb511));have n5_:=Aside0.mk ((by rw [hg];exact Nat.ne_of_lt (blk_lt (g:=gb509) (o:=.cells #[.int .i64 a0_0,.int .i64 a0_1,.string a0_2,.slice (some ad510) l0_3.length c0_3] 27 (0,0)) (gK BK509)):gb509 ≠ gb511));have n6_:=Aside0.mk ((by rw [hg];exact Nat.ne_of_gt (blk_lt (g:=gb509) (o:=.cells #[.int .i64 a0_0,.int .i64 a0_1,.string a0_2,.slice (some ad510) l0_3.length c0_3] 27 (0,0)) (gK BK509)):gb511 ≠ gb509));clear BK509;clear HB;have BK509:=n0_;have HB:=n1_;have BK511:=n2_;have GW511:=n3_;have GE511:=n4_;have NB509_511:=n5_;have NB511_509:=n6_;clear n0_ n1_ n2_ n3_ n4_ n5_ n6_;clear hb hbox hg;have hnb13:=NB511_509.out;have hnc13:=NB509_511.out;have hcz14_0:w12.cell? ⟨gb511,0,none⟩=some (.int .i64 0):=(blk_cell BK511.out 0).trans rfl;have hcz14_1:w12.cell? ⟨gb511,1,none⟩=some (.int .i64 0):=(blk_cell BK511.out 1).trans rfl;have hcz14_2:w12.cell? ⟨gb511,2,none⟩=some (.string (⟨#[]⟩:ByteArray)):=(blk_cell BK511.out 2).trans rfl;have hcz14_3:w12.cell? ⟨gb511,3,none⟩=some (.slice none 0 0):=(blk_cell BK511.out 3).trans rfl;have hfz14_0:=blk_frozen BK511.out 0;have hfz14_1:=blk_frozen BK511.out 1;have hfz14_2:=blk_frozen BK511.out 2;have hfz14_3:=blk_frozen BK511.out 3)|((with_reducible refine gate_callee (f:=20) rfl ?_);refine goesL_ (some 22) rfl rfl Try.func20 (by kernel_rfl) rfl #[.agg #[.int .i64 ((rd_TDoc l0_3 x15_2).f0),.int .i64 ((rd_TDoc l0_3 x15_2).f1),.string ((rd_TDoc l0_3 x15_2).f2),.slice A510_3 ((rd_TDoc l0_3 x15_2).f3).length c510_3],.int .i64 a1] rfl (by (try simp only [List.map_toArray,List.map_cons,List.map_nil]);first|done|rfl|(simp only [List.length_drop,List.length_take];rfl)) ?_;(with_reducible refine (ih k2 (by have:=HJ2.out;have:=HK2.out;omega) ((rd_TDoc l0_3 x15_2).f0) ((rd_TDoc l0_3 x15_2).f1) ((rd_TDoc l0_3 x15_2).f2) _ _ ((rd_TDoc l0_3 x15_2).f3) a1 t512 _ ?side1 ?side2 A11.out).mono ?_);(case side1=>exact Kd.C_below HR510_3.out (by repeat (first|exact gB HB|refine below_set ?_ GE509.out|refine below_set ?_ GE511.out)));(case side2=>exact HC510_3.out);rintro e w15 ⟨rfl,hb⟩;refine ⟨_,rfl,?_⟩;have n0_:=Aside0.mk (blk_below (g:=gb509) (o:=.cells #[.int .i64 a0_0,.int .i64 a0_1,.string a0_2,.slice (some ad510) l0_3.length c0_3] 27 (0,0)) (by (with_reducible repeat (first|refine blk_drewN ?_ _|refine blk_drew ?_|refine blk_alloc ?_ _));refine blk_far ?_ NB509_511.out _;(with_reducible repeat (first|refine blk_drewN ?_ _|refine blk_drew ?_|refine blk_alloc ?_ _));refine blk_far ?_ NB509_511.out _;(with_reducible repeat (first|refine blk_drewN ?_ _|refine blk_drew ?_|refine blk_alloc ?_ _));refine blk_far ?_ NB509_511.out _;(with_reducible repeat (first|refine blk_drewN ?_ _|refine blk_drew ?_|refine blk_alloc ?_ _));refine blk_far ?_ NB509_511.out _;(with_reducible repeat (first|refine blk_drewN ?_ _|refine blk_drew ?_|refine blk_alloc ?_ _));exact BK509.out) hb);have n1_:=Aside0.mk (blk_below (g:=gb511) (o:=.cells #[.int .i64 ((rd_TDoc l0_3 x15_2).f0),.int .i64 ((rd_TDoc l0_3 x15_2).f1),.string ((rd_TDoc l0_3 x15_2).f2),.slice A510_3 ((rd_TDoc l0_3 x15_2).f3).length c510_3] 27 (0,0)) (by (with_reducible repeat (first|refine blk_drewN ?_ _|refine blk_drew ?_|refine blk_alloc ?_ _));refine blk_put (cs:=#[.int .i64 ((rd_TDoc l0_3 x15_2).f0),.int .i64 ((rd_TDoc l0_3 x15_2).f1),.string ((rd_TDoc l0_3 x15_2).f2),.slice none 0 0]) ?_ 3 _ rfl;(with_reducible repeat (first|refine blk_drewN ?_ _|refine blk_drew ?_|refine blk_alloc ?_ _));refine blk_put (cs:=#[.int .i64 ((rd_TDoc l0_3 x15_2).f0),.int .i64 ((rd_TDoc l0_3 x15_2).f1),.string (⟨#[]⟩:ByteArray),.slice none 0 0]) ?_ 2 _ rfl;(with_reducible repeat (first|refine blk_drewN ?_ _|refine blk_drew ?_|refine blk_alloc ?_ _));refine blk_put (cs:=#[.int .i64 ((rd_TDoc l0_3 x15_2).f0),.int .i64 0,.string (⟨#[]⟩:ByteArray),.slice none 0 0]) ?_ 1 _ rfl;(with_reducible repeat (first|refine blk_drewN ?_ _|refine blk_drew ?_|refine blk_alloc ?_ _));refine blk_put (cs:=#[.int .i64 0,.int .i64 0,.string (⟨#[]⟩:ByteArray),.slice none 0 0]) ?_ 0 _ rfl;(with_reducible repeat (first|refine blk_drewN ?_ _|refine blk_drew ?_|refine blk_alloc ?_ _));exact BK511.out) hb);have n2_:=Aside0.mk (below_step (by repeat (first|exact gB HB|refine below_set ?_ GE509.out|refine below_set ?_ GE511.out)) hb);clear BK509;clear BK511;clear HB;have BK509:=n0_;have BK511:=n1_;have HB:=n2_;clear n0_ n1_ n2_;(try clear hb);(try clear hb2);(try clear hk);(try clear hi)))
        go_roundg k2
        case measure=>have:=HJ2.out;have:=HK2.out;omega
        case rel=>exact ⟨(wrap64 (x5_2+t512)),(wrap64 (x15_2+1)),(by first|rfl|(simp;done)|(simp [*];done)),(by first|rfl|(simp;done)|(simp [*];done)),H',⟨by have:=HJ2.out;have:=HK2.out;omega⟩,⟨gK BK509⟩,⟨by repeat (first|exact gB HB|refine below_set ?_ GE509.out|refine below_set ?_ GE511.out)⟩⟩
       ·rw [if_neg c10] at H
        exact absurd H (by simp)
      ·rw [if_neg c9] at H
       exact absurd H (by simp)
     ·rw [if_neg c8] at H
      have c8b0:decide (x15_2 < (l0_3.length:Int))=false:=decide_eq_false c8
      clear c8
      obtain rfl:=Option.some.inj H
      go_wp2
      go_ret
      exact ⟨by first|rfl|(simp [errW_none,errW_some] <;> rfl)|(simp [*,errW_none,errW_some] <;> rfl),by repeat (first|exact gB HB|refine below_set ?_ GE509.out)⟩
end Go.Proofs.Ytdhdfmmefghijaa.P
namespace Go.Proofs.Ytdhdfmmefghijaa.P
open Go.RowKit Go.Proofs.YtdhdfmmefghijaaW.PrintWords Go.Proofs.YtdhdfmmefghijaaW.PrintLast Go.Proofs.YtdhdfmmefghijaaW.PrintMore
attribute [local go_sem] max2_int min2_int max_two min_two max_three min_three max_four min_four
set_option linter.unusedVariables false
set_option linter.unusedSimpArgs false
def impl_CanFlatten.f (k:Nat) (a0_0:Int) (a0_1:Int) (a0_2:ByteArray) (l0_3:List (SDoc)):Option (Bool):=(impl_DocValid.f k a0_0 a0_1 a0_2 l0_3).bind fun t514=>(if t514=true then ((impl_CountOps.f k a0_0 a0_1 a0_2 l0_3 5).bind fun t515=>(some (t515 == 0))) else (some false))
set_option maxHeartbeats 8000000 in
set_option maxRecDepth 100000 in
theorem impl_CanFlatten.calls (k:Nat) (a0_0:Int) (a0_1:Int) (a0_2:ByteArray) (A0_3:Option Addr) (c0_3:Nat) (l0_3:List (SDoc)) (r:Bool) (w:World) (hr0_3:Kd.C k27 w A0_3 l0_3.length l0_3) (hc0_3:l0_3.length≤c0_3) (h:impl_CanFlatten.f k a0_0 a0_1 a0_2 l0_3=some r) :
  Calls Try.prog 26 #[.agg #[.int .i64 a0_0,.int .i64 a0_1,.string a0_2,.slice A0_3 l0_3.length c0_3]] w fun e w'=>e=.returned (.bool r)∧Below w.heap.size w w':=by
 have hu27:=Try.underlying27
 have HR0_3:=Aside0.mk hr0_3
 have HC0_3:=Aside0.mk hc0_3
 clear hr0_3 hc0_3
 have HB:=Aside0.mk (Below.refl w.heap.size w)
 have H:((impl_DocValid.f k a0_0 a0_1 a0_2 l0_3).bind fun t514=>(if t514=true then ((impl_CountOps.f k a0_0 a0_1 a0_2 l0_3 5).bind fun t515=>(some (t515 == 0))) else (some false)))=some r:=h
 clear h
 replace H:=Option.bind_eq_some_iff.mp H
 obtain ⟨t514,A20,H⟩:=H
 replace H:(if t514=true then ((impl_CountOps.f k a0_0 a0_1 a0_2 l0_3 5).bind fun t515=>(some (t515 == 0))) else (some false))=some r:=H
 have A2:=Aside0.mk A20
 clear A20
 by_cases c3:t514=true
 ·subst c3
  have H1:((impl_CountOps.f k a0_0 a0_1 a0_2 l0_3 5).bind fun t515=>(some (t515 == 0)))=some r:=by rw [if_pos rfl] at H;exact H
  clear H
  have H:=H1
  clear H1
  replace H:=Option.bind_eq_some_iff.mp H
  obtain ⟨t515,A40,H⟩:=H
  replace H:(some (t515 == 0))=some r:=H
  have A4:=Aside0.mk A40
  clear A40
  obtain rfl:=Option.some.inj H
  go_enter Try.func26,Try.ntmps26
  go_wp2_with (first|((with_reducible refine gate_dst (N:=1) rfl ?_);refine box_event ?hg (N:=1) ?hd (cs:=#[.int .i64 a0_0,.int .i64 a0_1,.string a0_2,.slice A0_3 l0_3.length c0_3]) (t:=27) ?hr ?_;(case hd=>rfl);(case hg=>rfl);(case hr=>first|(go_simp;done)|(go_simp;rfl));intro gb513 hg w5 hbox hb;have n0_:=Aside0.mk (below_step (by repeat (first|(with_reducible first|exact HB.out|apply below_alloc|apply pw_below_drewN|apply below_drew1)|exact HB.out)) hb);have n1_:=Aside0.mk (hbox);have n2_:=Aside0.mk ((by rw [hg];exact (below_size (by repeat (first|(with_reducible first|exact HB.out|apply below_alloc|apply pw_below_drewN|apply below_drew1)|exact HB.out))):w.heap.size≤gb513));have n3_:=Aside0.mk ((by rw [hg];exact (below_size (by repeat (first|(with_reducible first|exact HB.out|apply below_alloc|apply pw_below_drewN|apply below_drew1)|exact HB.out))):w.heap.size≤gb513));clear HB;have HB:=n0_;have BK513:=n1_;have GW513:=n2_;have GE513:=n3_;clear n0_ n1_ n2_ n3_;clear hb hbox hg;have hcz6_0:w5.cell? ⟨gb513,0,none⟩=some (.int .i64 a0_0):=(blk_cell BK513.out 0).trans rfl;have hcz6_1:w5.cell? ⟨gb513,1,none⟩=some (.int .i64 a0_1):=(blk_cell BK513.out 1).trans rfl;have hcz6_2:w5.cell? ⟨gb513,2,none⟩=some (.string a0_2):=(blk_cell BK513.out 2).trans rfl;have hcz6_3:w5.cell? ⟨gb513,3,none⟩=some (.slice A0_3 l0_3.length c0_3):=(blk_cell BK513.out 3).trans rfl;have hfz6_0:=blk_frozen BK513.out 0;have hfz6_1:=blk_frozen BK513.out 1;have hfz6_2:=blk_frozen BK513.out 2;have hfz6_3:=blk_frozen BK513.out 3)|((with_reducible refine gate_callee (f:=24) rfl ?_);refine goesL_ (some 4) rfl rfl Try.func24 (by kernel_rfl) rfl #[.agg #[.int .i64 a0_0,.int .i64 a0_1,.string a0_2,.slice A0_3 l0_3.length c0_3]] rfl (by (try simp only [List.map_toArray,List.map_cons,List.map_nil]);first|done|rfl|(simp only [List.length_drop,List.length_take];rfl)) ?_;(with_reducible refine (impl_DocValid.calls k a0_0 a0_1 a0_2 _ _ l0_3 true _ ?side1 ?side2 A2.out).mono ?_);(case side1=>repeat (first|exact (Kd.C_below HR0_3.out HB.out)|(with_reducible refine Kd.C_alloc ?_ _)|(with_reducible refine Kd.C_drewN ?_ _)|(with_reducible refine Kd.C_drew ?_)));(case side2=>exact HC0_3.out);rintro e w7 ⟨rfl,hb⟩;refine ⟨_,rfl,?_⟩;have n0_:=Aside0.mk (blk_below (g:=gb513) (o:=.cells #[.int .i64 a0_0,.int .i64 a0_1,.string a0_2,.slice A0_3 l0_3.length c0_3] 27 (0,0)) (by (with_reducible repeat (first|refine blk_drewN ?_ _|refine blk_drew ?_|refine blk_alloc ?_ _));exact BK513.out) hb);have n1_:=Aside0.mk (below_step (by repeat (first|(with_reducible first|exact HB.out|apply below_alloc|apply pw_below_drewN|apply below_drew1|refine below_set ?_ GE513.out)|exact HB.out)) hb);clear BK513;clear HB;have BK513:=n0_;have HB:=n1_;clear n0_ n1_;(try clear hb);(try clear hb2);(try clear hk);(try clear hi);have hcz8_0:w7.cell? ⟨gb513,0,none⟩=some (.int .i64 a0_0):=(blk_cell BK513.out 0).trans rfl;have hcz8_1:w7.cell? ⟨gb513,1,none⟩=some (.int .i64 a0_1):=(blk_cell BK513.out 1).trans rfl;have hcz8_2:w7.cell? ⟨gb513,2,none⟩=some (.string a0_2):=(blk_cell BK513.out 2).trans rfl;have hcz8_3:w7.cell? ⟨gb513,3,none⟩=some (.slice A0_3 l0_3.length c0_3):=(blk_cell BK513.out 3).trans rfl;have hfz8_0:=blk_frozen BK513.out 0;have hfz8_1:=blk_frozen BK513.out 1;have hfz8_2:=blk_frozen BK513.out 2;have hfz8_3:=blk_frozen BK513.out 3)|(go_at_call 20;(with_reducible refine (impl_CountOps.calls k a0_0 a0_1 a0_2 _ _ l0_3 5 t515 _ ?side1 ?side2 A4.out).mono ?_);(case side1=>repeat (first|exact (Kd.C_below HR0_3.out HB.out)|(with_reducible refine Kd.C_alloc ?_ _)|(with_reducible refine Kd.C_drewN ?_ _)|(with_reducible refine Kd.C_drew ?_)));(case side2=>exact HC0_3.out);rintro e w9 ⟨rfl,hb⟩;have n0_:=Aside0.mk (blk_below (g:=gb513) (o:=.cells #[.int .i64 a0_0,.int .i64 a0_1,.string a0_2,.slice A0_3 l0_3.length c0_3] 27 (0,0)) (by (with_reducible repeat (first|refine blk_drewN ?_ _|refine blk_drew ?_|refine blk_alloc ?_ _));exact BK513.out) hb);have n1_:=Aside0.mk (below_step (by repeat (first|(with_reducible first|exact HB.out|apply below_alloc|apply pw_below_drewN|apply below_drew1|refine below_set ?_ GE513.out)|exact HB.out)) hb);clear BK513;clear HB;have BK513:=n0_;have HB:=n1_;clear n0_ n1_;(try clear hb);(try clear hb2);(try clear hk);(try clear hi)))
  go_ret
  exact ⟨by first|rfl|(simp [errW_none,errW_some] <;> rfl)|(simp [*,errW_none,errW_some] <;> rfl),by repeat (first|(with_reducible first|exact HB.out|apply below_alloc|apply pw_below_drewN|apply below_drew1|refine below_set ?_ GE513.out)|exact HB.out)⟩
 ·replace c3:=Bool.eq_false_iff.mpr c3
  subst c3
  have H1:(some false)=some r:=by rw [if_neg (show ¬ (false=true) by decide)] at H;exact H
  clear H
  have H:=H1
  clear H1
  obtain rfl:=Option.some.inj H
  go_enter Try.func26,Try.ntmps26
  go_wp2_with (first|((with_reducible refine gate_dst (N:=1) rfl ?_);refine box_event ?hg (N:=1) ?hd (cs:=#[.int .i64 a0_0,.int .i64 a0_1,.string a0_2,.slice A0_3 l0_3.length c0_3]) (t:=27) ?hr ?_;(case hd=>rfl);(case hg=>rfl);(case hr=>first|(go_simp;done)|(go_simp;rfl));intro gb513 hg w10 hbox hb;have n0_:=Aside0.mk (below_step (by repeat (first|(with_reducible first|exact HB.out|apply below_alloc|apply pw_below_drewN|apply below_drew1)|exact HB.out)) hb);have n1_:=Aside0.mk (hbox);have n2_:=Aside0.mk ((by rw [hg];exact (below_size (by repeat (first|(with_reducible first|exact HB.out|apply below_alloc|apply pw_below_drewN|apply below_drew1)|exact HB.out))):w.heap.size≤gb513));have n3_:=Aside0.mk ((by rw [hg];exact (below_size (by repeat (first|(with_reducible first|exact HB.out|apply below_alloc|apply pw_below_drewN|apply below_drew1)|exact HB.out))):w.heap.size≤gb513));clear HB;have HB:=n0_;have BK513:=n1_;have GW513:=n2_;have GE513:=n3_;clear n0_ n1_ n2_ n3_;clear hb hbox hg;have hcz11_0:w10.cell? ⟨gb513,0,none⟩=some (.int .i64 a0_0):=(blk_cell BK513.out 0).trans rfl;have hcz11_1:w10.cell? ⟨gb513,1,none⟩=some (.int .i64 a0_1):=(blk_cell BK513.out 1).trans rfl;have hcz11_2:w10.cell? ⟨gb513,2,none⟩=some (.string a0_2):=(blk_cell BK513.out 2).trans rfl;have hcz11_3:w10.cell? ⟨gb513,3,none⟩=some (.slice A0_3 l0_3.length c0_3):=(blk_cell BK513.out 3).trans rfl;have hfz11_0:=blk_frozen BK513.out 0;have hfz11_1:=blk_frozen BK513.out 1;have hfz11_2:=blk_frozen BK513.out 2;have hfz11_3:=blk_frozen BK513.out 3)|((with_reducible refine gate_callee (f:=24) rfl ?_);refine goesL_ (some 4) rfl rfl Try.func24 (by kernel_rfl) rfl #[.agg #[.int .i64 a0_0,.int .i64 a0_1,.string a0_2,.slice A0_3 l0_3.length c0_3]] rfl (by (try simp only [List.map_toArray,List.map_cons,List.map_nil]);first|done|rfl|(simp only [List.length_drop,List.length_take];rfl)) ?_;(with_reducible refine (impl_DocValid.calls k a0_0 a0_1 a0_2 _ _ l0_3 false _ ?side1 ?side2 A2.out).mono ?_);(case side1=>repeat (first|exact (Kd.C_below HR0_3.out HB.out)|(with_reducible refine Kd.C_alloc ?_ _)|(with_reducible refine Kd.C_drewN ?_ _)|(with_reducible refine Kd.C_drew ?_)));(case side2=>exact HC0_3.out);rintro e w12 ⟨rfl,hb⟩;refine ⟨_,rfl,?_⟩;have n0_:=Aside0.mk (blk_below (g:=gb513) (o:=.cells #[.int .i64 a0_0,.int .i64 a0_1,.string a0_2,.slice A0_3 l0_3.length c0_3] 27 (0,0)) (by (with_reducible repeat (first|refine blk_drewN ?_ _|refine blk_drew ?_|refine blk_alloc ?_ _));exact BK513.out) hb);have n1_:=Aside0.mk (below_step (by repeat (first|(with_reducible first|exact HB.out|apply below_alloc|apply pw_below_drewN|apply below_drew1|refine below_set ?_ GE513.out)|exact HB.out)) hb);clear BK513;clear HB;have BK513:=n0_;have HB:=n1_;clear n0_ n1_;(try clear hb);(try clear hb2);(try clear hk);(try clear hi)))
  go_ret
  exact ⟨by first|rfl|(simp [errW_none,errW_some] <;> rfl)|(simp [*,errW_none,errW_some] <;> rfl),by repeat (first|(with_reducible first|exact HB.out|apply below_alloc|apply pw_below_drewN|apply below_drew1|refine below_set ?_ GE513.out)|exact HB.out)⟩
end Go.Proofs.Ytdhdfmmefghijaa.P
namespace Go.Proofs.Ytdhdfmmefghijaa.P
open Go.RowKit Go.Proofs.YtdhdfmmefghijaaW.PrintWords Go.Proofs.YtdhdfmmefghijaaW.PrintLast Go.Proofs.YtdhdfmmefghijaaW.PrintMore
attribute [local go_sem] max2_int min2_int max_two min_two max_three min_three max_four min_four
set_option linter.unusedVariables false
set_option linter.unusedSimpArgs false
def IsS66 (w0 W:World) (g:Nat) (f0:List Int) (f1:Int):Prop:=∃ A0 c0,W.heap[g]?=some (.cells #[.slice A0 f0.length c0,.int .i64 f1] 66 (0,0))∧w0.heap.size≤g∧Kd.C (Kd.int .u8) w0 A0 f0.length f0
theorem IsS66.grown {w0 W:World} {g:Nat} {f0:List Int} {f1:Int} {W1:World} {row:Option Nat} (h:IsS66 w0 W g f0 f1) (hw:W.grownBy W1 row) (hne:some g ≠ row):IsS66 w0 W1 g f0 f1:=by
 obtain ⟨A0,c0,hb,hg,hr0⟩:=h
 exact ⟨A0,c0,blk_grown hb hw hne,hg,hr0⟩
theorem IsS66.own_neN {w0 W:World} {g:Nat} {f0:List Int} {f1:Int} {α:Type} {d:Kd α} {e:Nat} {base:Nat} {ok:Nat→Prop} {v:Value} {xs:List α} (h:IsS66 w0 W g f0 f1) (ho:Kd.N d e W base ok v xs) (ht:e ≠ 66):some g ≠ v.ownBlock:=by
 obtain ⟨A0,c0,hb,hg,hr0⟩:=h
 exact Kd.N_ne ho hb ht
theorem IsS66.fresh {w0 W:World} {g:Nat} {f0:List Int} {f1:Int} (h:IsS66 w0 W g f0 f1):∀ k,W.heap.size≤k→k ≠ g:=by
 obtain ⟨A0,c0,hb,hg,hr0⟩:=h
 exact Kd.freshB hb
theorem IsS66.kept {w0 W:World} {g:Nat} {f0:List Int} {f1:Int} {W1:World} {S:Nat→Prop} (h:IsS66 w0 W g f0 f1) (hk:Kept W W1 S) (hne:¬ S g):IsS66 w0 W1 g f0 f1:=by
 obtain ⟨A0,c0,hb,hg,hr0⟩:=h
 exact ⟨A0,c0,blk_kept hb hk hne,hg,hr0⟩
theorem IsS66.below {w0 W:World} {g:Nat} {f0:List Int} {f1:Int} {W1:World} (h:IsS66 w0 W g f0 f1) (hw:Below W.heap.size W W1):IsS66 w0 W1 g f0 f1:=h.grown (grown_of_below hw none) (by simp)
theorem IsS66.alloc {w0 W:World} {g:Nat} {f0:List Int} {f1:Int} (h:IsS66 w0 W g f0 f1) (o:Obj):IsS66 w0 (W.alloc o) g f0 f1:=h.below (below_alloc (Below.refl _ _) o)
theorem IsS66.drewN {w0 W:World} {g:Nat} {f0:List Int} {f1:Int} (h:IsS66 w0 W g f0 f1) (m:Nat):IsS66 w0 (W.drewN m) g f0 f1:=h
theorem IsS66.drew {w0 W:World} {g:Nat} {f0:List Int} {f1:Int} (h:IsS66 w0 W g f0 f1):IsS66 w0 W.drew g f0 f1:=h
theorem IsS66.at_ {w0 W:World} {g:Nat} {f0:List Int} {f1:Int} {w':World} {m:Nat} (hq:W.drewN m=w') (h:IsS66 w0 W g f0 f1):IsS66 w0 w' g f0 f1:=by subst hq;exact IsS66.drewN h m
theorem IsS66.apart {w0 W:World} {g:Nat} {f0:List Int} {f1:Int} {α:Type} {d:Kd α} {e:Nat} {base:Nat} {ok:Nat→Prop} {v:Value} {xs:List α} (h:IsS66 w0 W g f0 f1) (ho:d.R e W base ok v xs) (ht:∀ q,q ∈ e :: d.E→q ≠ 66):d.R e W base (fun k=>ok k∧k ≠ g) v xs:=by
 obtain ⟨A0,c0,hb,hg,hr0⟩:=h
 exact Kd.R_types ho hb ht
theorem IsS66.own_ne {w0 W:World} {g:Nat} {f0:List Int} {f1:Int} {α:Type} {d:Kd α} {e:Nat} {base:Nat} {ok:Nat→Prop} {v:Value} {xs:List α} (h:IsS66 w0 W g f0 f1) (ho:d.R e W base ok v xs) (ht:e ≠ 66):some g ≠ v.ownBlock:=by
 obtain ⟨A0,c0,hb,hg,hr0⟩:=h
 exact Kd.R_ne ho hb ht
theorem IsS66.lt {w0 W:World} {g:Nat} {f0:List Int} {f1:Int} (h:IsS66 w0 W g f0 f1):g < W.heap.size:=by
 obtain ⟨A0,c0,hb,hg,hr0⟩:=h
 exact blk_lt hb
theorem IsS66.ge {w0 W:World} {g:Nat} {f0:List Int} {f1:Int} (h:IsS66 w0 W g f0 f1):w0.heap.size≤g:=by
 obtain ⟨A0,c0,hb,hg,hr0⟩:=h
 exact hg
theorem IsS66.ne_blk {w0 W:World} {g:Nat} {f0:List Int} {f1:Int} {a:Nat} {cs:Array Value} {t:TypeId} {fr:Nat × Nat} (h:IsS66 w0 W g f0 f1) (hb2:W.heap[a]?=some (.cells cs t fr)) (ht:t ≠ 66):g ≠ a:=by
 obtain ⟨A0,c0,hb,hg,hr0⟩:=h
 rintro rfl
 rw [hb] at hb2
 injection hb2 with hb2
 injection hb2 with _ ht2
 exact ht ht2.symm
theorem IsS66.far {w0 W:World} {g:Nat} {f0:List Int} {f1:Int} {p:Addr} (h:IsS66 w0 W g f0 f1) (hne:g ≠ p.block) (u:Value):IsS66 w0 (W.setCell p u) g f0 f1:=by
 obtain ⟨A0,c0,hb,hg,hr0⟩:=h
 exact ⟨A0,c0,blk_far hb hne u,hg,hr0⟩
theorem cellS66_0 {W:World} {g:Nat} {A0:Option Addr} {c0:Nat} {f0:List Int} {f1:Int} (h:W.heap[g]?=some (.cells #[.slice A0 f0.length c0,.int .i64 f1] 66 (0,0))):W.cell? ⟨g,0,none⟩=some (.slice A0 f0.length c0):=(blk_cell h 0).trans rfl
theorem cellS66_1 {W:World} {g:Nat} {A0:Option Addr} {c0:Nat} {f0:List Int} {f1:Int} (h:W.heap[g]?=some (.cells #[.slice A0 f0.length c0,.int .i64 f1] 66 (0,0))):W.cell? ⟨g,1,none⟩=some (.int .i64 f1):=(blk_cell h 1).trans rfl
theorem IsS66.set_1 {w0 W:World} {g:Nat} {f0:List Int} {f1:Int} (h:IsS66 w0 W g f0 f1) (x:Int):IsS66 w0 (W.setCell ⟨g,1,none⟩ (.int .i64 x)) g f0 x:=by
 obtain ⟨A0,c0,hb,hg,hr0⟩:=h
 exact ⟨A0,c0,by simpa using blk_set hb 1 (.int .i64 x),hg,hr0⟩
def spec_l15Open.f (l0:List Int):Option (List Int × Int):=if (l0.length:Int) > 2000 then (if 2000≤(l0.length:Int) then (some (l0.take 2000,0)) else (none)) else (some (l0,0))
set_option maxHeartbeats 8000000 in
set_option maxRecDepth 100000 in
theorem spec_l15Open.calls (A0:Option Addr) (c0:Nat) (l0:List Int) (r1:List Int) (r2:Int) (w0 w:World) (hB:Below w0.heap.size w0 w) (hr0:Kd.C (Kd.int .u8) w0 A0 l0.length l0) (hc0:l0.length≤c0) (h:spec_l15Open.f l0=some (r1,r2)) :
  Calls Try.prog 44 #[.slice A0 l0.length c0] w fun e w'=>∃ g_:Nat,e=.returned (.pointer (some ⟨g_,0,none⟩))∧IsS66 w0 w' g_ r1 r2∧Below w0.heap.size w0 w'∧Below w.heap.size w w':=by
 have hu66:=Try.underlying66
 have HR0:=Aside0.mk hr0
 have HC0:=Aside0.mk hc0
 clear hr0 hc0
 have HBW:=Aside0.mk (Below.refl w.heap.size w)
 have HW0:=Aside0.mk hB.size
 have HB:=Aside0.mk hB
 clear hB
 have H:(if (l0.length:Int) > 2000 then (if 2000≤(l0.length:Int) then (some (l0.take 2000,0)) else (none)) else (some (l0,0)))=some (r1,r2):=h
 clear h
 by_cases c2:(l0.length:Int) > 2000
 ·rw [if_pos c2] at H
  have c2b0:decide (2000 < (l0.length:Int))=true:=decide_eq_true c2
  have c2b1:decide (2000 < l0.length)=true:=decide_eq_true (by omega)
  clear c2
  by_cases c3:2000≤(l0.length:Int)
  ·rw [if_pos c3] at H
   have c3b0:=eq_true c3
   have c3b1:decide (2000≤(l0.length:Int))=true:=decide_eq_true c3
   clear c3
   simp only [Option.some.injEq,Prod.mk.injEq] at H
   obtain ⟨rfl,rfl⟩:=H
   obtain ⟨i04,hi04,_,hsz4,_⟩:=info_parts info5
   obtain ⟨hcut4,hA4,hC4⟩:=print_take_of (P:=Try.prog) (Value.int .u8) 0 22 5 .i64 Try.underlying22 hi04 hsz4 A0 c0 l0 2000 (by omega) (of_decide_eq_true (by first|(with_reducible assumption)|assumption)) HC0.out
   have HR101:=Aside0.mk (Kd.C_of_reads (h1:=fun _=>rfl) (hA4 _ (Kd.reads_of_C HR0.out)))
   have HC101:=Aside0.mk hC4
   clear hA4 hC4 hi04 hsz4
   go_enter Try.func44,Try.ntmps44
   go_wp2_with (first|((with_reducible refine gate_dst (N:=10) rfl ?_);refine box_event ?hg (N:=10) ?hd (cs:=#[.slice A0 (l0.take 2000).length c0,.int .i64 0]) (t:=66) ?hr ?_;(case hd=>rfl);(case hg=>rfl);(case hr=>first|(go_simp;done)|(go_simp;rfl));intro gb102 hg w5 hbox hb;have n0_:=Aside0.mk (below_step HBW.out hb);have n1_:=Aside0.mk (below_step (gB HB) hb);have n2_:=Aside0.mk (hbox);have n3_:=Aside0.mk ((by rw [hg];exact (below_size (gB HBW)):w.heap.size≤gb102));have n4_:=Aside0.mk ((Nat.le_trans HW0.out (by rw [hg];exact (below_size (gB HBW)):w.heap.size≤gb102):w0.heap.size≤gb102));clear HBW;clear HB;have HBW:=n0_;have HB:=n1_;have BK102:=n2_;have GW102:=n3_;have GE102:=n4_;clear n0_ n1_ n2_ n3_ n4_;clear hb hbox hg))
   go_ret
   exact ⟨_,rfl,(show IsS66 w0 _ gb102 (l0.take 2000) 0 from ⟨_,_,gK BK102,GE102.out,HR101.out⟩),by repeat (first|exact gB HB|refine below_set ?_ GE102.out),by repeat (first|exact gB HBW|refine below_set ?_ GW102.out)⟩
  ·rw [if_neg c3] at H
   exact absurd H (by simp)
 ·rw [if_neg c2] at H
  have c2b0:decide (2000 < (l0.length:Int))=false:=decide_eq_false c2
  have c2b1:decide (2000 < l0.length)=false:=decide_eq_false (by omega)
  clear c2
  simp only [Option.some.injEq,Prod.mk.injEq] at H
  obtain ⟨rfl,rfl⟩:=H
  go_enter Try.func44,Try.ntmps44
  go_wp2_with (first|((with_reducible refine gate_dst (N:=10) rfl ?_);refine box_event ?hg (N:=10) ?hd (cs:=#[.slice A0 l0.length c0,.int .i64 0]) (t:=66) ?hr ?_;(case hd=>rfl);(case hg=>rfl);(case hr=>first|(go_simp;done)|(go_simp;rfl));intro gb103 hg w6 hbox hb;have n0_:=Aside0.mk (below_step HBW.out hb);have n1_:=Aside0.mk (below_step (gB HB) hb);have n2_:=Aside0.mk (hbox);have n3_:=Aside0.mk ((by rw [hg];exact (below_size (gB HBW)):w.heap.size≤gb103));have n4_:=Aside0.mk ((Nat.le_trans HW0.out (by rw [hg];exact (below_size (gB HBW)):w.heap.size≤gb103):w0.heap.size≤gb103));clear HBW;clear HB;have HBW:=n0_;have HB:=n1_;have BK103:=n2_;have GW103:=n3_;have GE103:=n4_;clear n0_ n1_ n2_ n3_ n4_;clear hb hbox hg))
  go_ret
  exact ⟨_,rfl,(show IsS66 w0 _ gb103 l0 0 from ⟨_,_,gK BK103,GE103.out,HR0.out⟩),by repeat (first|exact gB HB|refine below_set ?_ GE103.out),by repeat (first|exact gB HBW|refine below_set ?_ GW103.out)⟩
end Go.Proofs.Ytdhdfmmefghijaa.P
namespace Go.Proofs.Ytdhdfmmefghijaa.P
open Go.RowKit Go.Proofs.YtdhdfmmefghijaaW.PrintWords Go.Proofs.YtdhdfmmefghijaaW.PrintLast Go.Proofs.YtdhdfmmefghijaaW.PrintMore
attribute [local go_sem] max2_int min2_int max_two min_two max_three min_three max_four min_four
set_option linter.unusedVariables false
set_option linter.unusedSimpArgs false
def spec_l15Rd_pick.j0:Nat→Int→Bool→List Int→Int→Option (Int × Int)
 | 0,_,_,_,_=>none
 | k+1,x1,x24,x1000,x1001=>if x24=true then (some (0,x1001)) else (if (wrap64 (x1001 - 1)) < (x1000.length:Int) then (if 0≤(wrap64 (x1001 - 1)) then (if x1=0 then (none) else (some (Int.tmod (wrap64 (rd x1000 (wrap64 (x1001 - 1)))) x1,x1001))) else (none)) else (if (x1000.length:Int)=0 then (none) else (if 0≤(Int.tmod (wrap64 (x1001 - 1)) (x1000.length:Int)) then (if (Int.tmod (wrap64 (x1001 - 1)) (x1000.length:Int)) < (x1000.length:Int) then (if 0≤(Int.tmod (wrap64 ((wrap64 ((wrap64 (x1001 - 1)) * 7))+3)) (x1000.length:Int)) then (if (Int.tmod (wrap64 ((wrap64 ((wrap64 (x1001 - 1)) * 7))+3)) (x1000.length:Int)) < (x1000.length:Int) then (if x1=0 then (none) else (some (Int.tmod (Go.bits .xor .i64 (wrap64 ((wrap64 ((wrap64 ((wrap64 ((wrap64 (rd x1000 (Int.tmod (wrap64 (x1001 - 1)) (x1000.length:Int)))) * 131))+(wrap64 ((wrap64 (rd x1000 (Int.tmod (wrap64 ((wrap64 ((wrap64 (x1001 - 1)) * 7))+3)) (x1000.length:Int)))) * 1117))))+(wrap64 ((wrap64 (x1001 - 1)) * 29))))+(wrap64 ((wrap64 (Int.tdiv (wrap64 (x1001 - 1)) (x1000.length:Int))) * 53)))) (wrap64 (Int.tdiv (wrap64 ((wrap64 ((wrap64 ((wrap64 ((wrap64 (rd x1000 (Int.tmod (wrap64 (x1001 - 1)) (x1000.length:Int)))) * 131))+(wrap64 ((wrap64 (rd x1000 (Int.tmod (wrap64 ((wrap64 ((wrap64 (x1001 - 1)) * 7))+3)) (x1000.length:Int)))) * 1117))))+(wrap64 ((wrap64 (x1001 - 1)) * 29))))+(wrap64 ((wrap64 (Int.tdiv (wrap64 (x1001 - 1)) (x1000.length:Int))) * 53)))) 64))) x1,x1001))) else (none)) else (none)) else (none)) else (none))))
def spec_l15Rd_pick.f (k:Nat) (s0_0:List Int) (s0_1:Int) (a1:Int):Option (Int × Int):=if a1 < 1 then (spec_l15Rd_pick.j0 k a1 true s0_0 (wrap64 (s0_1+1))) else (spec_l15Rd_pick.j0 k a1 ((s0_0.length:Int) == 0) s0_0 (wrap64 (s0_1+1)))
set_option maxHeartbeats 8000000 in
set_option maxRecDepth 100000 in
theorem spec_l15Rd_pick.calls (k:Nat) (g:Nat) (s0_0:List Int) (s0_1:Int) (a1:Int) (r1:Int) (r2:Int) (w0 w:World) (hI:IsS66 w0 w g s0_0 s0_1) (hB:Below w0.heap.size w0 w) (h:spec_l15Rd_pick.f k s0_0 s0_1 a1=some (r1,r2)) :
  Calls Try.prog 55 #[.pointer (some ⟨g,0,none⟩),.int .i64 a1] w fun e w'=>e=.returned (.int .i64 r1)∧IsS66 w0 w' g s0_0 r2∧Below w0.heap.size w0 w'∧KeepBut w w' g none:=by
 have HI0:=Aside0.mk hI
 have HK:=Aside0.mk (KeepBut.refl w g none)
 have HL:=Aside0.mk hB.size
 clear hI
 have HW0:=Aside0.mk hB.size
 have HB:=Aside0.mk hB
 clear hB
 have H:(if a1 < 1 then (spec_l15Rd_pick.j0 k a1 true s0_0 (wrap64 (s0_1+1))) else (spec_l15Rd_pick.j0 k a1 ((s0_0.length:Int) == 0) s0_0 (wrap64 (s0_1+1))))=some (r1,r2):=h
 clear h
 have HC3:=Aside0.mk H
 clear H
 obtain ⟨ASz4_0,cSz4_0,HGz4,hgz4,HSz4_0⟩:=HI0.out
 have hcz4_0:=cellS66_0 HGz4
 have hcz4_1:=cellS66_1 HGz4
 have hfz4_1:=blk_frozen HGz4 1
 clear HGz4 hgz4
 go_enter Try.func55,Try.ntmps55
 go_upto_region 2 with (fail)
 repeat (go_quiet (fail);go_upto_region 2 with (fail))
 go_cut [24] (fun v24 wc=>∃ (kq:Nat) (x24_2:Bool),v24=.bool x24_2∧Aside0 (spec_l15Rd_pick.j0 kq a1 x24_2 s0_0 (wrap64 (s0_1+1))=some (r1,r2))∧Aside0 (kq≤k)∧Aside0 (IsS66 w0 wc g s0_0 (wrap64 (s0_1+1)))∧Aside0 (KeepBut w wc g none)∧Aside0 (Below w0.heap.size w0 wc))
 case first =>
  have H:=HC3.out
  clear HC3
  by_cases c5:a1 < 1
  ·rw [if_pos c5] at H
   have c5b0:decide (a1 < 1)=true:=decide_eq_true c5
   clear c5
   (first|rw [c5b0]|(simp only [i64_w,i32_w];rw [c5b0])|skip)
   have H':=Aside0.mk H
   clear H
   go_wp2
   repeat (go_quiet (fail);try go_wp2)
   go_meet
   case rel=>exact ⟨_,(true),(by first|rfl|(simp;done)|(simp [*];done)),H',⟨by first|omega|exact Nat.le_refl _⟩,⟨by repeat (first|(with_reducible first|exact HI0.out|apply IsS66.alloc|apply IsS66.drewN|apply IsS66.drew|apply IsS66.set_1)|exact HI0.out)⟩,⟨by repeat (first|exact gW HK|apply KeepBut.set_)⟩,⟨by repeat (first|exact gB HB|refine below_set ?_ (IsS66.ge HI0.out))⟩⟩
  ·rw [if_neg c5] at H
   have c5b0:decide (a1 < 1)=false:=decide_eq_false c5
   clear c5
   (first|rw [c5b0]|(simp only [i64_w,i32_w];rw [c5b0])|skip)
   have H':=Aside0.mk H
   clear H
   obtain ⟨ASz6_0,cSz6_0,HGz6,hgz6,HSz6_0⟩:=HI0.out
   have hcz6_0:=cellS66_0 HGz6
   have hcz6_1:=cellS66_1 HGz6
   have hfz6_1:=blk_frozen HGz6 1
   clear HGz6 hgz6
   go_wp2
   repeat (go_quiet (fail);try go_wp2)
   go_meet
   case rel=>exact ⟨_,(((s0_0.length:Int) == 0)),(by first|rfl|(simp;done)|(simp [*];done)),H',⟨by first|omega|exact Nat.le_refl _⟩,⟨by repeat (first|(with_reducible first|exact HI0.out|apply IsS66.alloc|apply IsS66.drewN|apply IsS66.drew|apply IsS66.set_1)|exact HI0.out)⟩,⟨by repeat (first|exact gW HK|apply KeepBut.set_)⟩,⟨by repeat (first|exact gB HB|refine below_set ?_ (IsS66.ge HI0.out))⟩⟩
 case rest =>
  clear HC3
  try clear p2 c5 c5b0 p6 hcz4_0 hcz4_1 hcz6_0 hcz6_1 hfz4_1 hfz6_1
  obtain ⟨kq,x24_2,rfl,HA,HJ2,HI0,HK,HB⟩:=hcut
  cases kq with
  | zero=>exact absurd HA.out (by simp [spec_l15Rd_pick.j0])
  | succ kj2 =>
   have H:=HA.out
   clear HA
   simp only [spec_l15Rd_pick.j0] at H
   by_cases c7:x24_2=true
   ·subst c7
    have H1:(some (0,(wrap64 (s0_1+1))))=some (r1,r2):=by rw [if_pos rfl] at H;exact H
    clear H
    have H:=H1
    clear H1
    simp only [Option.some.injEq,Prod.mk.injEq] at H
    obtain ⟨rfl,rfl⟩:=H
    go_wp2
    repeat (go_quiet (fail);try go_wp2)
    go_ret
    exact ⟨by first|rfl|(simp [errW_none,errW_some] <;> rfl)|(simp [*,errW_none,errW_some] <;> rfl),by repeat (first|(with_reducible first|exact HI0.out|apply IsS66.alloc|apply IsS66.drewN|apply IsS66.drew|apply IsS66.set_1)|exact HI0.out),by repeat (first|exact gB HB|refine below_set ?_ (IsS66.ge HI0.out)),by repeat (first|exact gW HK|apply KeepBut.set_)⟩
   ·replace c7:=Bool.eq_false_iff.mpr c7
    subst c7
    have H1:(if (wrap64 ((wrap64 (s0_1+1)) - 1)) < (s0_0.length:Int) then (if 0≤(wrap64 ((wrap64 (s0_1+1)) - 1)) then (if a1=0 then (none) else (some (Int.tmod (wrap64 (rd s0_0 (wrap64 ((wrap64 (s0_1+1)) - 1)))) a1,(wrap64 (s0_1+1))))) else (none)) else (if (s0_0.length:Int)=0 then (none) else (if 0≤(Int.tmod (wrap64 ((wrap64 (s0_1+1)) - 1)) (s0_0.length:Int)) then (if (Int.tmod (wrap64 ((wrap64 (s0_1+1)) - 1)) (s0_0.length:Int)) < (s0_0.length:Int) then (if 0≤(Int.tmod (wrap64 ((wrap64 ((wrap64 ((wrap64 (s0_1+1)) - 1)) * 7))+3)) (s0_0.length:Int)) then (if (Int.tmod (wrap64 ((wrap64 ((wrap64 ((wrap64 (s0_1+1)) - 1)) * 7))+3)) (s0_0.length:Int)) < (s0_0.length:Int) then (if a1=0 then (none) else (some (Int.tmod (Go.bits .xor .i64 (wrap64 ((wrap64 ((wrap64 ((wrap64 ((wrap64 (rd s0_0 (Int.tmod (wrap64 ((wrap64 (s0_1+1)) - 1)) (s0_0.length:Int)))) * 131))+(wrap64 ((wrap64 (rd s0_0 (Int.tmod (wrap64 ((wrap64 ((wrap64 ((wrap64 (s0_1+1)) - 1)) * 7))+3)) (s0_0.length:Int)))) * 1117))))+(wrap64 ((wrap64 ((wrap64 (s0_1+1)) - 1)) * 29))))+(wrap64 ((wrap64 (Int.tdiv (wrap64 ((wrap64 (s0_1+1)) - 1)) (s0_0.length:Int))) * 53)))) (wrap64 (Int.tdiv (wrap64 ((wrap64 ((wrap64 ((wrap64 ((wrap64 (rd s0_0 (Int.tmod (wrap64 ((wrap64 (s0_1+1)) - 1)) (s0_0.length:Int)))) * 131))+(wrap64 ((wrap64 (rd s0_0 (Int.tmod (wrap64 ((wrap64 ((wrap64 ((wrap64 (s0_1+1)) - 1)) * 7))+3)) (s0_0.length:Int)))) * 1117))))+(wrap64 ((wrap64 ((wrap64 (s0_1+1)) - 1)) * 29))))+(wrap64 ((wrap64 (Int.tdiv (wrap64 ((wrap64 (s0_1+1)) - 1)) (s0_0.length:Int))) * 53)))) 64))) a1,(wrap64 (s0_1+1))))) else (none)) else (none)) else (none)) else (none))))=some (r1,r2):=by rw [if_neg (show ¬ (false=true) by decide)] at H;exact H
    clear H
    have H:=H1
    clear H1
    by_cases c8:(wrap64 ((wrap64 (s0_1+1)) - 1)) < (s0_0.length:Int)
    ·rw [if_pos c8] at H
     have c8b0:decide ((wrap64 ((wrap64 (s0_1+1)) - 1)) < (s0_0.length:Int))=true:=decide_eq_true c8
     clear c8
     obtain ⟨ji9,hji9⟩:∃ j_:Int,(wrap64 ((wrap64 (s0_1+1)) - 1))=j_:=⟨_,rfl⟩
     replace H:(if 0≤(ji9) then (if a1=0 then (none) else (some (Int.tmod (wrap64 (rd s0_0 (ji9))) a1,(wrap64 (s0_1+1))))) else (none))=some (r1,r2):=by first|(rw [hji9] at H;exact H)|(simp only [hji9] at H ⊢;exact H)
     (try rw [hji9] at c8b0)
     have hji9w:(IntKind.i64.wrap ((wrap64 (s0_1+1)) - 1))=ji9:=(i64_w _).trans hji9
     by_cases c10:0≤(ji9)
     ·rw [if_pos c10] at H
      have c10b0:decide (0≤(ji9))=true:=decide_eq_true c10
      clear c10
      by_cases c11:a1=0
      ·rw [if_pos c11] at H
       exact absurd H (by simp)
      ·rw [if_neg c11] at H
       have c11b0:(a1 == 0)=false:=beq_eq_false_iff_ne.mpr c11
       have c11b1:(a1 != 0)=true:=bne_iff_ne.mpr c11
       simp only [Option.some.injEq,Prod.mk.injEq] at H
       obtain ⟨rfl,rfl⟩:=H
       obtain ⟨ASz12_0,cSz12_0,HGz12,hgz12,HSz12_0⟩:=HI0.out
       have hcz12_0:=cellS66_0 HGz12
       have hcz12_1:=cellS66_1 HGz12
       have hfz12_1:=blk_frozen HGz12 1
       clear HGz12 hgz12
       have p104:0≤((ji9):Int):=of_decide_eq_true (by first|(with_reducible assumption)|assumption)
       have q104:(ji9) < (s0_0.length:Int):=of_decide_eq_true (by first|(with_reducible assumption)|assumption)
       obtain ⟨ad104,e104,hx104_0⟩:=Kd.at_int HSz12_0 (ji9) p104 q104
       cases e104
       replace hx104_0:=pw_cell_below HB.out hx104_0
       replace p104:=eq_true p104
       replace q104:=eq_true q104
       go_wp2
       repeat (go_quiet (fail);try go_wp2)
       go_ret
       exact ⟨by first|rfl|(simp [errW_none,errW_some] <;> rfl)|(simp only [← hji9];first|rfl|(simp [errW_none,errW_some] <;> rfl))|(simp [*,errW_none,errW_some] <;> rfl),by repeat (first|(with_reducible first|exact HI0.out|apply IsS66.alloc|apply IsS66.drewN|apply IsS66.drew|apply IsS66.set_1)|exact HI0.out),by repeat (first|exact gB HB|refine below_set ?_ (IsS66.ge HI0.out)),by repeat (first|exact gW HK|apply KeepBut.set_)⟩
     ·rw [if_neg c10] at H
      exact absurd H (by simp)
    ·rw [if_neg c8] at H
     have c8b0:decide ((wrap64 ((wrap64 (s0_1+1)) - 1)) < (s0_0.length:Int))=false:=decide_eq_false c8
     clear c8
     by_cases c13:(s0_0.length:Int)=0
     ·rw [if_pos c13] at H
      exact absurd H (by simp)
     ·rw [if_neg c13] at H
      have c13b0:((s0_0.length:Int) == 0)=false:=beq_eq_false_iff_ne.mpr c13
      have c13b1:((s0_0.length:Int) != 0)=true:=bne_iff_ne.mpr c13
      have c13b2:¬ (s0_0=[]):=fun h_=>c13 (by rw [h_];rfl)
      obtain ⟨ji14,hji14⟩:∃ j_:Int,(Int.tmod (wrap64 ((wrap64 (s0_1+1)) - 1)) (s0_0.length:Int))=j_:=⟨_,rfl⟩
      replace H:(if 0≤(ji14) then (if (ji14) < (s0_0.length:Int) then (if 0≤(Int.tmod (wrap64 ((wrap64 ((wrap64 ((wrap64 (s0_1+1)) - 1)) * 7))+3)) (s0_0.length:Int)) then (if (Int.tmod (wrap64 ((wrap64 ((wrap64 ((wrap64 (s0_1+1)) - 1)) * 7))+3)) (s0_0.length:Int)) < (s0_0.length:Int) then (if a1=0 then (none) else (some (Int.tmod (Go.bits .xor .i64 (wrap64 ((wrap64 ((wrap64 ((wrap64 ((wrap64 (rd s0_0 (ji14))) * 131))+(wrap64 ((wrap64 (rd s0_0 (Int.tmod (wrap64 ((wrap64 ((wrap64 ((wrap64 (s0_1+1)) - 1)) * 7))+3)) (s0_0.length:Int)))) * 1117))))+(wrap64 ((wrap64 ((wrap64 (s0_1+1)) - 1)) * 29))))+(wrap64 ((wrap64 (Int.tdiv (wrap64 ((wrap64 (s0_1+1)) - 1)) (s0_0.length:Int))) * 53)))) (wrap64 (Int.tdiv (wrap64 ((wrap64 ((wrap64 ((wrap64 ((wrap64 (rd s0_0 (ji14))) * 131))+(wrap64 ((wrap64 (rd s0_0 (Int.tmod (wrap64 ((wrap64 ((wrap64 ((wrap64 (s0_1+1)) - 1)) * 7))+3)) (s0_0.length:Int)))) * 1117))))+(wrap64 ((wrap64 ((wrap64 (s0_1+1)) - 1)) * 29))))+(wrap64 ((wrap64 (Int.tdiv (wrap64 ((wrap64 (s0_1+1)) - 1)) (s0_0.length:Int))) * 53)))) 64))) a1,(wrap64 (s0_1+1))))) else (none)) else (none)) else (none)) else (none))=some (r1,r2):=by first|(rw [hji14] at H;exact H)|(simp only [hji14] at H ⊢;exact H)
      by_cases c15:0≤(ji14)
      ·rw [if_pos c15] at H
       have c15b0:decide (0≤(ji14))=true:=decide_eq_true c15
       clear c15
       by_cases c16:(ji14) < (s0_0.length:Int)
       ·rw [if_pos c16] at H
        have c16b0:decide ((ji14) < (s0_0.length:Int))=true:=decide_eq_true c16
        clear c16
        obtain ⟨ji17,hji17⟩:∃ j_:Int,(Int.tmod (wrap64 ((wrap64 ((wrap64 ((wrap64 (s0_1+1)) - 1)) * 7))+3)) (s0_0.length:Int))=j_:=⟨_,rfl⟩
        replace H:(if 0≤(ji17) then (if (ji17) < (s0_0.length:Int) then (if a1=0 then (none) else (some (Int.tmod (Go.bits .xor .i64 (wrap64 ((wrap64 ((wrap64 ((wrap64 ((wrap64 (rd s0_0 (ji14))) * 131))+(wrap64 ((wrap64 (rd s0_0 (ji17))) * 1117))))+(wrap64 ((wrap64 ((wrap64 (s0_1+1)) - 1)) * 29))))+(wrap64 ((wrap64 (Int.tdiv (wrap64 ((wrap64 (s0_1+1)) - 1)) (s0_0.length:Int))) * 53)))) (wrap64 (Int.tdiv (wrap64 ((wrap64 ((wrap64 ((wrap64 ((wrap64 (rd s0_0 (ji14))) * 131))+(wrap64 ((wrap64 (rd s0_0 (ji17))) * 1117))))+(wrap64 ((wrap64 ((wrap64 (s0_1+1)) - 1)) * 29))))+(wrap64 ((wrap64 (Int.tdiv (wrap64 ((wrap64 (s0_1+1)) - 1)) (s0_0.length:Int))) * 53)))) 64))) a1,(wrap64 (s0_1+1))))) else (none)) else (none))=some (r1,r2):=by first|(rw [hji17] at H;exact H)|(simp only [hji17] at H ⊢;exact H)
        by_cases c18:0≤(ji17)
        ·rw [if_pos c18] at H
         have c18b0:decide (0≤(ji17))=true:=decide_eq_true c18
         clear c18
         by_cases c19:(ji17) < (s0_0.length:Int)
         ·rw [if_pos c19] at H
          have c19b0:decide ((ji17) < (s0_0.length:Int))=true:=decide_eq_true c19
          clear c19
          by_cases c20:a1=0
          ·rw [if_pos c20] at H
           exact absurd H (by simp)
          ·rw [if_neg c20] at H
           have c20b0:(a1 == 0)=false:=beq_eq_false_iff_ne.mpr c20
           have c20b1:(a1 != 0)=true:=bne_iff_ne.mpr c20
           simp only [Option.some.injEq,Prod.mk.injEq] at H
           obtain ⟨rfl,rfl⟩:=H
           obtain ⟨ASz21_0,cSz21_0,HGz21,hgz21,HSz21_0⟩:=HI0.out
           have hcz21_0:=cellS66_0 HGz21
           have hcz21_1:=cellS66_1 HGz21
           have hfz21_1:=blk_frozen HGz21 1
           clear HGz21 hgz21
           have p105:0≤((ji14):Int):=of_decide_eq_true (by first|(with_reducible assumption)|assumption)
           have q105:(ji14) < (s0_0.length:Int):=of_decide_eq_true (by first|(with_reducible assumption)|assumption)
           obtain ⟨ad105,e105,hx105_0⟩:=Kd.at_int HSz21_0 (ji14) p105 q105
           cases e105
           replace hx105_0:=pw_cell_below HB.out hx105_0
           replace p105:=eq_true p105
           replace q105:=eq_true q105
           have p106:0≤((ji17):Int):=of_decide_eq_true (by first|(with_reducible assumption)|assumption)
           have q106:(ji17) < (s0_0.length:Int):=of_decide_eq_true (by first|(with_reducible assumption)|assumption)
           obtain ⟨ad106,e106,hx106_0⟩:=Kd.at_int HSz21_0 (ji17) p106 q106
           obtain rfl:ad105=ad106:=(by injection e106)
           replace hx106_0:=pw_cell_below HB.out hx106_0
           replace p106:=eq_true p106
           replace q106:=eq_true q106
           go_wp2
           repeat (go_quiet (fail);try go_wp2)
           go_ret
           exact ⟨by first|rfl|(simp [errW_none,errW_some] <;> rfl)|(simp only [← hji14,← hji17];first|rfl|(simp [errW_none,errW_some] <;> rfl))|(simp [*,errW_none,errW_some] <;> rfl),by repeat (first|(with_reducible first|exact HI0.out|apply IsS66.alloc|apply IsS66.drewN|apply IsS66.drew|apply IsS66.set_1)|exact HI0.out),by repeat (first|exact gB HB|refine below_set ?_ (IsS66.ge HI0.out)),by repeat (first|exact gW HK|apply KeepBut.set_)⟩
         ·rw [if_neg c19] at H
          exact absurd H (by simp)
        ·rw [if_neg c18] at H
         exact absurd H (by simp)
       ·rw [if_neg c16] at H
        exact absurd H (by simp)
      ·rw [if_neg c15] at H
       exact absurd H (by simp)
end Go.Proofs.Ytdhdfmmefghijaa.P
namespace Go.Proofs.Ytdhdfmmefghijaa.P
open Go.RowKit Go.Proofs.YtdhdfmmefghijaaW.PrintWords Go.Proofs.YtdhdfmmefghijaaW.PrintLast Go.Proofs.YtdhdfmmefghijaaW.PrintMore
attribute [local go_sem] max2_int min2_int max_two min_two max_three min_three max_four min_four
set_option linter.unusedVariables false
set_option linter.unusedSimpArgs false
def spec_l15Rd_of.f (k:Nat) (s0_0:List Int) (s0_1:Int) (l1:List ByteArray):Option (ByteArray × Int):=(spec_l15Rd_pick.f k s0_0 s0_1 (l1.length:Int)).bind fun bt107=>(if 0≤bt107.1 then (if bt107.1 < (l1.length:Int) then (some (rdOf ByteArray.empty l1 bt107.1,bt107.2)) else (none)) else (none))
set_option maxHeartbeats 8000000 in
set_option maxRecDepth 100000 in
theorem spec_l15Rd_of.calls (k:Nat) (g:Nat) (s0_0:List Int) (s0_1:Int) (A1:Option Addr) (c1:Nat) (l1:List ByteArray) (r1:ByteArray) (r2:Int) (w0 w:World) (hI:IsS66 w0 w g s0_0 s0_1) (hB:Below w0.heap.size w0 w) (hr1:Kd.C Kd.string w A1 l1.length l1) (hc1:l1.length≤c1) (hf1:∀ ad,A1=some ad→0 < l1.length→ad.block ≠ g) (h:spec_l15Rd_of.f k s0_0 s0_1 l1=some (r1,r2)) :
  Calls Try.prog 65 #[.pointer (some ⟨g,0,none⟩),.slice A1 l1.length c1] w fun e w'=>e=.returned (.string r1)∧IsS66 w0 w' g s0_0 r2∧Below w0.heap.size w0 w'∧KeepBut w w' g none:=by
 have HR1:=Aside0.mk hr1
 have HC1:=Aside0.mk hc1
 clear hr1 hc1
 have HI0:=Aside0.mk hI
 have HK:=Aside0.mk (KeepBut.refl w g none)
 have HL:=Aside0.mk hB.size
 clear hI
 have HW0:=Aside0.mk hB.size
 have HB:=Aside0.mk hB
 clear hB
 have H:((spec_l15Rd_pick.f k s0_0 s0_1 (l1.length:Int)).bind fun bt107=>(if 0≤bt107.1 then (if bt107.1 < (l1.length:Int) then (some (rdOf ByteArray.empty l1 bt107.1,bt107.2)) else (none)) else (none)))=some (r1,r2):=h
 clear h
 replace H:=Option.bind_eq_some_iff.mp H
 obtain ⟨⟨t107,t108⟩,A30,H⟩:=H
 replace H:(if 0≤t107 then (if t107 < (l1.length:Int) then (some (rdOf ByteArray.empty l1 t107,t108)) else (none)) else (none))=some (r1,r2):=H
 have A3:=Aside0.mk A30
 clear A30
 by_cases c4:0≤t107
 ·rw [if_pos c4] at H
  have c4b0:decide (0≤t107)=true:=decide_eq_true c4
  clear c4
  by_cases c5:t107 < (l1.length:Int)
  ·rw [if_pos c5] at H
   have c5b0:decide (t107 < (l1.length:Int))=true:=decide_eq_true c5
   clear c5
   simp only [Option.some.injEq,Prod.mk.injEq] at H
   obtain ⟨rfl,rfl⟩:=H
   go_enter Try.func65,Try.ntmps65
   go_wp2_with (first|((with_reducible refine gate_callee (f:=55) rfl ?_);refine goesL_ (some 9) rfl rfl Try.func55 (by kernel_rfl) rfl #[.pointer (some ⟨g,0,none⟩),.int .i64 (l1.length:Int)] rfl (by (try simp only [List.map_toArray,List.map_cons,List.map_nil]);first|done|rfl|(simp only [List.length_drop,List.length_take];rfl)) ?_;(with_reducible refine (spec_l15Rd_pick.calls k g s0_0 s0_1 (l1.length:Int) t107 t108 w0 _ ?side1 ?side2 A3.out).mono ?_);(case side1=>repeat (first|(with_reducible first|exact HI0.out|apply IsS66.alloc|apply IsS66.drewN|apply IsS66.drew|apply IsS66.set_1)|exact HI0.out));(case side2=>repeat (first|(with_reducible first|exact HB.out|apply below_alloc|apply pw_below_drewN|apply below_drew1|refine below_set ?_ (IsS66.ge HI0.out))|exact HB.out));rintro e w6 ⟨rfl,hi,hb,hk⟩;refine ⟨_,rfl,?_⟩;have n0_:=Aside0.mk (KeepBut.trans (by repeat (first|(with_reducible first|exact HK.out|apply KeepBut.set_|apply keep_drewN|apply keep_drew|apply keep_alloc)|exact HK.out)) hk (.inl rfl));have n1_:=Aside0.mk (hb);have n2_:=Aside0.mk (hi);clear HK;clear HB;clear HI0;have HK:=n0_;have HB:=n1_;have HI0:=n2_;clear n0_ n1_ n2_;(try clear hb);(try clear hb2);(try clear hk);(try clear hi);have p109:0≤(t107:Int):=of_decide_eq_true (by first|(with_reducible assumption)|assumption);have q109:t107 < (l1.length:Int):=of_decide_eq_true (by first|(with_reducible assumption)|assumption);obtain ⟨ad109,e109,hx109_0⟩:=Kd.at_string HR1.out t107 p109 q109;cases e109;replace hx109_0:=keep_cell HK.out hx109_0 (by first|(rw [add_block];exact hf1 _ rfl (by omega))|exact hf1 _ rfl (by omega)|exact hf1 ad109 rfl (by omega));replace p109:=eq_true p109;replace q109:=eq_true q109))
   go_ret
   exact ⟨by first|rfl|(simp [errW_none,errW_some] <;> rfl)|(simp [*,errW_none,errW_some] <;> rfl),by repeat (first|(with_reducible first|exact HI0.out|apply IsS66.alloc|apply IsS66.drewN|apply IsS66.drew|apply IsS66.set_1)|exact HI0.out),by repeat (first|(with_reducible first|exact HB.out|apply below_alloc|apply pw_below_drewN|apply below_drew1|refine below_set ?_ (IsS66.ge HI0.out))|exact HB.out),by repeat (first|(with_reducible first|exact HK.out|apply KeepBut.set_|apply keep_drewN|apply keep_drew|apply keep_alloc)|exact HK.out)⟩
  ·rw [if_neg c5] at H
   exact absurd H (by simp)
 ·rw [if_neg c4] at H
  exact absurd H (by simp)
end Go.Proofs.Ytdhdfmmefghijaa.P
namespace Go.Proofs.Ytdhdfmmefghijaa.P
open Go.RowKit Go.Proofs.YtdhdfmmefghijaaW.PrintWords Go.Proofs.YtdhdfmmefghijaaW.PrintLast Go.Proofs.YtdhdfmmefghijaaW.PrintMore
attribute [local go_sem] max2_int min2_int max_two min_two max_three min_three max_four min_four
set_option linter.unusedVariables false
set_option linter.unusedSimpArgs false
def spec_l15Rd_num.f (k:Nat) (s0_0:List Int) (s0_1:Int) (l1:List Int):Option (Int × Int):=(spec_l15Rd_pick.f k s0_0 s0_1 (l1.length:Int)).bind fun bt212=>(if 0≤bt212.1 then (if bt212.1 < (l1.length:Int) then (some (rd l1 bt212.1,bt212.2)) else (none)) else (none))
set_option maxHeartbeats 8000000 in
set_option maxRecDepth 100000 in
theorem spec_l15Rd_num.calls (k:Nat) (g:Nat) (s0_0:List Int) (s0_1:Int) (A1:Option Addr) (c1:Nat) (l1:List Int) (r1:Int) (r2:Int) (w0 w:World) (hI:IsS66 w0 w g s0_0 s0_1) (hB:Below w0.heap.size w0 w) (hr1:Kd.C (Kd.int .i64) w A1 l1.length l1) (hc1:l1.length≤c1) (hf1:∀ ad,A1=some ad→0 < l1.length→ad.block ≠ g) (h:spec_l15Rd_num.f k s0_0 s0_1 l1=some (r1,r2)) :
  Calls Try.prog 49 #[.pointer (some ⟨g,0,none⟩),.slice A1 l1.length c1] w fun e w'=>e=.returned (.int .i64 r1)∧IsS66 w0 w' g s0_0 r2∧Below w0.heap.size w0 w'∧KeepBut w w' g none:=by
 have HR1:=Aside0.mk hr1
 have HC1:=Aside0.mk hc1
 clear hr1 hc1
 have HI0:=Aside0.mk hI
 have HK:=Aside0.mk (KeepBut.refl w g none)
 have HL:=Aside0.mk hB.size
 clear hI
 have HW0:=Aside0.mk hB.size
 have HB:=Aside0.mk hB
 clear hB
 have H:((spec_l15Rd_pick.f k s0_0 s0_1 (l1.length:Int)).bind fun bt212=>(if 0≤bt212.1 then (if bt212.1 < (l1.length:Int) then (some (rd l1 bt212.1,bt212.2)) else (none)) else (none)))=some (r1,r2):=h
 clear h
 replace H:=Option.bind_eq_some_iff.mp H
 obtain ⟨⟨t212,t213⟩,A30,H⟩:=H
 replace H:(if 0≤t212 then (if t212 < (l1.length:Int) then (some (rd l1 t212,t213)) else (none)) else (none))=some (r1,r2):=H
 have A3:=Aside0.mk A30
 clear A30
 by_cases c4:0≤t212
 ·rw [if_pos c4] at H
  have c4b0:decide (0≤t212)=true:=decide_eq_true c4
  clear c4
  by_cases c5:t212 < (l1.length:Int)
  ·rw [if_pos c5] at H
   have c5b0:decide (t212 < (l1.length:Int))=true:=decide_eq_true c5
   clear c5
   simp only [Option.some.injEq,Prod.mk.injEq] at H
   obtain ⟨rfl,rfl⟩:=H
   go_enter Try.func49,Try.ntmps49
   go_wp2_with (first|((with_reducible refine gate_callee (f:=55) rfl ?_);refine goesL_ (some 9) rfl rfl Try.func55 (by kernel_rfl) rfl #[.pointer (some ⟨g,0,none⟩),.int .i64 (l1.length:Int)] rfl (by (try simp only [List.map_toArray,List.map_cons,List.map_nil]);first|done|rfl|(simp only [List.length_drop,List.length_take];rfl)) ?_;(with_reducible refine (spec_l15Rd_pick.calls k g s0_0 s0_1 (l1.length:Int) t212 t213 w0 _ ?side1 ?side2 A3.out).mono ?_);(case side1=>repeat (first|(with_reducible first|exact HI0.out|apply IsS66.alloc|apply IsS66.drewN|apply IsS66.drew|apply IsS66.set_1)|exact HI0.out));(case side2=>repeat (first|(with_reducible first|exact HB.out|apply below_alloc|apply pw_below_drewN|apply below_drew1|refine below_set ?_ (IsS66.ge HI0.out))|exact HB.out));rintro e w6 ⟨rfl,hi,hb,hk⟩;refine ⟨_,rfl,?_⟩;have n0_:=Aside0.mk (KeepBut.trans (by repeat (first|(with_reducible first|exact HK.out|apply KeepBut.set_|apply keep_drewN|apply keep_drew|apply keep_alloc)|exact HK.out)) hk (.inl rfl));have n1_:=Aside0.mk (hb);have n2_:=Aside0.mk (hi);clear HK;clear HB;clear HI0;have HK:=n0_;have HB:=n1_;have HI0:=n2_;clear n0_ n1_ n2_;(try clear hb);(try clear hb2);(try clear hk);(try clear hi);have p214:0≤(t212:Int):=of_decide_eq_true (by first|(with_reducible assumption)|assumption);have q214:t212 < (l1.length:Int):=of_decide_eq_true (by first|(with_reducible assumption)|assumption);obtain ⟨ad214,e214,hx214_0⟩:=Kd.at_int HR1.out t212 p214 q214;cases e214;replace hx214_0:=keep_cell HK.out hx214_0 (by first|(rw [add_block];exact hf1 _ rfl (by omega))|exact hf1 _ rfl (by omega)|exact hf1 ad214 rfl (by omega));replace p214:=eq_true p214;replace q214:=eq_true q214))
   go_ret
   exact ⟨by first|rfl|(simp [errW_none,errW_some] <;> rfl)|(simp [*,errW_none,errW_some] <;> rfl),by repeat (first|(with_reducible first|exact HI0.out|apply IsS66.alloc|apply IsS66.drewN|apply IsS66.drew|apply IsS66.set_1)|exact HI0.out),by repeat (first|(with_reducible first|exact HB.out|apply below_alloc|apply pw_below_drewN|apply below_drew1|refine below_set ?_ (IsS66.ge HI0.out))|exact HB.out),by repeat (first|(with_reducible first|exact HK.out|apply KeepBut.set_|apply keep_drewN|apply keep_drew|apply keep_alloc)|exact HK.out)⟩
  ·rw [if_neg c5] at H
   exact absurd H (by simp)
 ·rw [if_neg c4] at H
  exact absurd H (by simp)
end Go.Proofs.Ytdhdfmmefghijaa.P
namespace Go.Proofs.Ytdhdfmmefghijaa.P
open Go.RowKit Go.Proofs.YtdhdfmmefghijaaW.PrintWords Go.Proofs.YtdhdfmmefghijaaW.PrintLast Go.Proofs.YtdhdfmmefghijaaW.PrintMore
attribute [local go_sem] max2_int min2_int max_two min_two max_three min_three max_four min_four
set_option linter.unusedVariables false
set_option linter.unusedSimpArgs false
mutual
def spec_l1Copy.l0:Nat→Int→Int→Int→ByteArray→List (SDoc)→Int→Int→ByteArray→List (SDoc)→Option (Int × Int × ByteArray × (List (SDoc)))
 | 0,_,_,_,_,_,_,_,_,_=>none
 | k+1,x4,x216000,x216001,x216002,x216003,x218000,x218001,x218002,x218003=>if x4 < (x216003.length:Int) then (if 0≤x4 then ((spec_l1Copy.f k ((rd_TDoc x216003 x4).f0) ((rd_TDoc x216003 x4).f1) ((rd_TDoc x216003 x4).f2) ((rd_TDoc x216003 x4).f3)).bind fun bt219=>(if x218003.length < 2513169434916 then (spec_l1Copy.l0 k (wrap64 (x4+1)) x216000 x216001 x216002 x216003 x218000 x218001 x218002 (x218003++[(⟨bt219.1,bt219.2.1,bt219.2.2.1,bt219.2.2.2⟩:SDoc)])) else (none))) else (none)) else (some (x218000,x218001,x218002,x218003))
def spec_l1Copy.f:Nat→Int→Int→ByteArray→List (SDoc)→Option (Int × Int × ByteArray × (List (SDoc)))
 | 0,_,_,_,_=>none
 | k+1,a0_0,a0_1,a0_2,l0_3=>spec_l1Copy.l0 k 0 a0_0 a0_1 a0_2 l0_3 a0_0 a0_1 a0_2 ([]:List (SDoc))
end
def spec_l1Copy.T5:Bool × List (List Nat × List Nat):=(true,[([],[]),([0],[0]),([],[]),([2],[2]),([],[]),([3,4],[3,4]),([5],[5]),([6],[6]),([7],[7]),([1,8,7],[1,8]),([0,1,2,3,4,5,6,7,8,9],[]),([10,9,9,0,1,2,3,4,5,6,7,8,9],[9,10])])
def spec_l1Copy.B5:List Nat:=[0,1,0,4,0,28,60,124,252,511,1023,2047]
theorem spec_l1Copy.tab5:rtab .any (opsOf Try.f59 5)=spec_l1Copy.T5:=by kernel_rfl
theorem spec_l1Copy.bits5:waitsOk spec_l1Copy.T5.2 spec_l1Copy.B5=true:=by kernel_rfl
set_option maxHeartbeats 8000000 in
set_option maxRecDepth 100000 in
theorem spec_l1Copy.calls (k:Nat):∀ (a0_0:Int) (a0_1:Int) (a0_2:ByteArray) (A0_3:Option Addr) (c0_3:Nat) (l0_3:List (SDoc)) (r1:Int) (r2:Int) (r3:ByteArray) (r4:List (SDoc)) (w:World) (hr0_3:Kd.C k27 w A0_3 l0_3.length l0_3) (hc0_3:l0_3.length≤c0_3) (h:spec_l1Copy.f k a0_0 a0_1 a0_2 l0_3=some (r1,r2,r3,r4)),
  Calls Try.prog 59 #[.agg #[.int .i64 a0_0,.int .i64 a0_1,.string a0_2,.slice A0_3 l0_3.length c0_3]] w fun e w'=>∃ v3_:Value,e=.returned (.agg #[.int .i64 r1,.int .i64 r2,.string r3,v3_])∧Kd.R k27 27 w' w.heap.size (fun _=>True) v3_ r4∧Below w.heap.size w w':=by
 induction k using Nat.strongRecOn with
 | _ k ih =>
 intro a0_0 a0_1 a0_2 A0_3 c0_3 l0_3 r1 r2 r3 r4 w hr0_3 hc0_3 h
 cases k with
 | zero=>exact absurd h (by simp [spec_l1Copy.f])
 | succ k =>
 simp only [spec_l1Copy.f] at h
 have hu27:=Try.underlying27
 have HR0_3:=Aside0.mk hr0_3
 have HC0_3:=Aside0.mk hc0_3
 clear hr0_3 hc0_3
 have HB:=Aside0.mk (Below.refl w.heap.size w)
 have H:(spec_l1Copy.l0 k 0 a0_0 a0_1 a0_2 l0_3 a0_0 a0_1 a0_2 ([]:List (SDoc)))=some (r1,r2,r3,r4):=h
 clear h
 have H':=Aside0.mk H
 clear H
 go_enter Try.func59,Try.ntmps59
 go_wp2_with (first|((with_reducible refine gate_dst (N:=1) rfl ?_);refine box_event ?hg (N:=1) ?hd (cs:=#[.int .i64 a0_0,.int .i64 a0_1,.string a0_2,.slice A0_3 l0_3.length c0_3]) (t:=27) ?hr ?_;(case hd=>rfl);(case hg=>rfl);(case hr=>first|(go_simp;done)|(go_simp;rfl));intro gb215 hg w2 hbox hb;have n0_:=Aside0.mk (below_step (gB HB) hb);have n1_:=Aside0.mk (hbox);have n2_:=Aside0.mk ((by rw [hg];exact (below_size (gB HB)):w.heap.size≤gb215));have n3_:=Aside0.mk ((by rw [hg];exact (below_size (gB HB)):w.heap.size≤gb215));clear HB;have HB:=n0_;have BK215:=n1_;have GW215:=n2_;have GE215:=n3_;clear n0_ n1_ n2_ n3_;clear hb hbox hg)|((with_reducible refine gate_dst (N:=2) rfl ?_);refine box_event ?hg (N:=2) ?hd (cs:=#[.int .i64 0,.int .i64 0,.string (⟨#[]⟩:ByteArray),.slice none 0 0]) (t:=27) ?hr ?_;(case hd=>rfl);(case hg=>rfl);(case hr=>first|(go_simp;done)|(go_simp;rfl));intro gb216 hg w3 hbox hb;have n0_:=Aside0.mk (blk_below (g:=gb215) (o:=.cells #[.int .i64 a0_0,.int .i64 a0_1,.string a0_2,.slice A0_3 l0_3.length c0_3] 27 (0,0)) (gK BK215) hb);have n1_:=Aside0.mk (below_step (by repeat (first|exact gB HB|refine below_set ?_ GE215.out)) hb);have n2_:=Aside0.mk (hbox);have n3_:=Aside0.mk ((by rw [hg];exact (below_size (by repeat (first|exact gB HB|refine below_set ?_ GE215.out))):w.heap.size≤gb216));have n4_:=Aside0.mk ((by rw [hg];exact (below_size (by repeat (first|exact gB HB|refine below_set ?_ GE215.out))):w.heap.size≤gb216));have n5_:=Aside0.mk ((by rw [hg];exact Nat.ne_of_lt (blk_lt (g:=gb215) (o:=.cells #[.int .i64 a0_0,.int .i64 a0_1,.string a0_2,.slice A0_3 l0_3.length c0_3] 27 (0,0)) (gK BK215)):gb215 ≠ gb216));have n6_:=Aside0.mk ((by rw [hg];exact Nat.ne_of_gt (blk_lt (g:=gb215) (o:=.cells #[.int .i64 a0_0,.int .i64 a0_1,.string a0_2,.slice A0_3 l0_3.length c0_3] 27 (0,0)) (gK BK215)):gb216 ≠ gb215));clear BK215;clear HB;have BK215:=n0_;have HB:=n1_;have BK216:=n2_;have GW216:=n3_;have GE216:=n4_;have NB215_216:=n5_;have NB216_215:=n6_;clear n0_ n1_ n2_ n3_ n4_ n5_ n6_;clear hb hbox hg;have hnb4:=NB215_216.out;have hnc4:=NB216_215.out;have hcz5_0:w3.cell? ⟨gb215,0,none⟩=some (.int .i64 a0_0):=(blk_cell BK215.out 0).trans rfl;have hcz5_1:w3.cell? ⟨gb215,1,none⟩=some (.int .i64 a0_1):=(blk_cell BK215.out 1).trans rfl;have hcz5_2:w3.cell? ⟨gb215,2,none⟩=some (.string a0_2):=(blk_cell BK215.out 2).trans rfl;have hcz5_3:w3.cell? ⟨gb215,3,none⟩=some (.slice A0_3 l0_3.length c0_3):=(blk_cell BK215.out 3).trans rfl;have hfz5_0:=blk_frozen BK215.out 0;have hfz5_1:=blk_frozen BK215.out 1;have hfz5_2:=blk_frozen BK215.out 2;have hfz5_3:=blk_frozen BK215.out 3)|((with_reducible refine gate_dst (N:=3) rfl ?_);refine box_event ?hg (N:=3) ?hd (cs:=#[.int .i64 0,.int .i64 0,.string (⟨#[]⟩:ByteArray),.slice none 0 0]) (t:=27) ?hr ?_;(case hd=>rfl);(case hg=>rfl);(case hr=>first|(go_simp;done)|(go_simp;rfl));intro gb217 hg w6 hbox hb;have n0_:=Aside0.mk (blk_below (g:=gb215) (o:=.cells #[.int .i64 a0_0,.int .i64 a0_1,.string a0_2,.slice A0_3 l0_3.length c0_3] 27 (0,0)) (gK BK215) hb);have n1_:=Aside0.mk (blk_below (g:=gb216) (o:=.cells #[.int .i64 0,.int .i64 0,.string (⟨#[]⟩:ByteArray),.slice none 0 0] 27 (0,0)) (gK BK216) hb);have n2_:=Aside0.mk (below_step (by repeat (first|exact gB HB|refine below_set ?_ GE215.out|refine below_set ?_ GE216.out)) hb);have n3_:=Aside0.mk (hbox);have n4_:=Aside0.mk ((by rw [hg];exact (below_size (by repeat (first|exact gB HB|refine below_set ?_ GE215.out|refine below_set ?_ GE216.out))):w.heap.size≤gb217));have n5_:=Aside0.mk ((by rw [hg];exact (below_size (by repeat (first|exact gB HB|refine below_set ?_ GE215.out|refine below_set ?_ GE216.out))):w.heap.size≤gb217));have n6_:=Aside0.mk ((by rw [hg];exact Nat.ne_of_lt (blk_lt (g:=gb215) (o:=.cells #[.int .i64 a0_0,.int .i64 a0_1,.string a0_2,.slice A0_3 l0_3.length c0_3] 27 (0,0)) (gK BK215)):gb215 ≠ gb217));have n7_:=Aside0.mk ((by rw [hg];exact Nat.ne_of_gt (blk_lt (g:=gb215) (o:=.cells #[.int .i64 a0_0,.int .i64 a0_1,.string a0_2,.slice A0_3 l0_3.length c0_3] 27 (0,0)) (gK BK215)):gb217 ≠ gb215));have n8_:=Aside0.mk ((by rw [hg];exact Nat.ne_of_lt (blk_lt (g:=gb216) (o:=.cells #[.int .i64 0,.int .i64 0,.string (⟨#[]⟩:ByteArray),.slice none 0 0] 27 (0,0)) (gK BK216)):gb216 ≠ gb217));have n9_:=Aside0.mk ((by rw [hg];exact Nat.ne_of_gt (blk_lt (g:=gb216) (o:=.cells #[.int .i64 0,.int .i64 0,.string (⟨#[]⟩:ByteArray),.slice none 0 0] 27 (0,0)) (gK BK216)):gb217 ≠ gb216));clear BK215;clear BK216;clear HB;have BK215:=n0_;have BK216:=n1_;have HB:=n2_;have BK217:=n3_;have GW217:=n4_;have GE217:=n5_;have NB215_217:=n6_;have NB217_215:=n7_;have NB216_217:=n8_;have NB217_216:=n9_;clear n0_ n1_ n2_ n3_ n4_ n5_ n6_ n7_ n8_ n9_;clear hb hbox hg;have hnb7:=NB217_215.out;have hnc7:=NB215_217.out;have hnb8:=NB217_216.out;have hnc8:=NB216_217.out;have hcz9_0:w6.cell? ⟨gb217,0,none⟩=some (.int .i64 0):=(blk_cell BK217.out 0).trans rfl;have hcz9_1:w6.cell? ⟨gb217,1,none⟩=some (.int .i64 0):=(blk_cell BK217.out 1).trans rfl;have hcz9_2:w6.cell? ⟨gb217,2,none⟩=some (.string (⟨#[]⟩:ByteArray)):=(blk_cell BK217.out 2).trans rfl;have hcz9_3:w6.cell? ⟨gb217,3,none⟩=some (.slice none 0 0):=(blk_cell BK217.out 3).trans rfl;have hfz9_0:=blk_frozen BK217.out 0;have hfz9_1:=blk_frozen BK217.out 1;have hfz9_2:=blk_frozen BK217.out 2;have hfz9_3:=blk_frozen BK217.out 3))
 go_loopg [4] k (fun kq v4 w'=>∃ (x4_1:Int) (x218003_1:List (SDoc)) (u218003:Value),v4=.int .i64 x4_1∧Aside0 (spec_l1Copy.l0 kq x4_1 a0_0 a0_1 a0_2 l0_3 a0_0 a0_1 a0_2 x218003_1=some (r1,r2,r3,r4))∧Aside0 (kq≤k)∧Aside0 (Kd.R k27 27 w' w.heap.size (fun k_=>k_ ≠ gb215∧k_ ≠ gb216∧k_ ≠ gb217) u218003 x218003_1)∧Aside0 (w'.heap[gb215]?=some (.cells #[.int .i64 a0_0,.int .i64 a0_1,.string a0_2,(.slice A0_3 l0_3.length c0_3)] 27 (0,0)))∧Aside0 (w'.heap[gb216]?=some (.cells #[.int .i64 0,.int .i64 0,.string (⟨#[]⟩:ByteArray),(.slice none 0 0)] 27 (0,0)))∧Aside0 (w'.heap[gb217]?=some (.cells #[.int .i64 a0_0,.int .i64 a0_1,.string a0_2,u218003] 27 (0,0)))∧Aside0 (Below w.heap.size w w'))
 case atStart=>exact ⟨(0),(([]:List (SDoc))),(.slice none 0 0),(by first|rfl|(simp;done)|(simp [*];done)),H',⟨Nat.le_refl _⟩,⟨by first|exact Kd.R_nil _ _ _ _ _|exact Kd.N_nil _ _ _ _ _|exact Kd.V_nil _ _ _ _ _|exact Kd.Q_nil _ _ _ _ _|exact Kd.S_nil _ _ _ _ _⟩,⟨by (with_reducible repeat (first|refine blk_drewN ?_ _|refine blk_drew ?_|refine blk_alloc ?_ _));refine blk_far ?_ NB215_217.out _;(with_reducible repeat (first|refine blk_drewN ?_ _|refine blk_drew ?_|refine blk_alloc ?_ _));refine blk_far ?_ NB215_217.out _;(with_reducible repeat (first|refine blk_drewN ?_ _|refine blk_drew ?_|refine blk_alloc ?_ _));refine blk_far ?_ NB215_217.out _;(with_reducible repeat (first|refine blk_drewN ?_ _|refine blk_drew ?_|refine blk_alloc ?_ _));refine blk_far ?_ NB215_217.out _;(with_reducible repeat (first|refine blk_drewN ?_ _|refine blk_drew ?_|refine blk_alloc ?_ _));exact BK215.out⟩,⟨by (with_reducible repeat (first|refine blk_drewN ?_ _|refine blk_drew ?_|refine blk_alloc ?_ _));refine blk_far ?_ NB216_217.out _;(with_reducible repeat (first|refine blk_drewN ?_ _|refine blk_drew ?_|refine blk_alloc ?_ _));refine blk_far ?_ NB216_217.out _;(with_reducible repeat (first|refine blk_drewN ?_ _|refine blk_drew ?_|refine blk_alloc ?_ _));refine blk_far ?_ NB216_217.out _;(with_reducible repeat (first|refine blk_drewN ?_ _|refine blk_drew ?_|refine blk_alloc ?_ _));refine blk_far ?_ NB216_217.out _;(with_reducible repeat (first|refine blk_drewN ?_ _|refine blk_drew ?_|refine blk_alloc ?_ _));exact BK216.out⟩,⟨by (with_reducible repeat (first|refine blk_drewN ?_ _|refine blk_drew ?_|refine blk_alloc ?_ _));refine blk_put (cs:=#[.int .i64 a0_0,.int .i64 a0_1,.string a0_2,.slice none 0 0]) ?_ 3 _ rfl;(with_reducible repeat (first|refine blk_drewN ?_ _|refine blk_drew ?_|refine blk_alloc ?_ _));refine blk_put (cs:=#[.int .i64 a0_0,.int .i64 a0_1,.string (⟨#[]⟩:ByteArray),.slice none 0 0]) ?_ 2 _ rfl;(with_reducible repeat (first|refine blk_drewN ?_ _|refine blk_drew ?_|refine blk_alloc ?_ _));refine blk_put (cs:=#[.int .i64 a0_0,.int .i64 0,.string (⟨#[]⟩:ByteArray),.slice none 0 0]) ?_ 1 _ rfl;(with_reducible repeat (first|refine blk_drewN ?_ _|refine blk_drew ?_|refine blk_alloc ?_ _));refine blk_put (cs:=#[.int .i64 0,.int .i64 0,.string (⟨#[]⟩:ByteArray),.slice none 0 0]) ?_ 0 _ rfl;(with_reducible repeat (first|refine blk_drewN ?_ _|refine blk_drew ?_|refine blk_alloc ?_ _));exact BK217.out⟩,⟨by repeat (first|exact gB HB|refine below_set ?_ GE215.out|refine below_set ?_ GE216.out|refine below_set ?_ GE217.out)⟩⟩
 case round =>
  clear H'
  try clear p2 c4 c5 c7 c8 hcz5_0 hcz5_1 hcz5_2 hcz5_3 hcz9_0 hcz9_1 hcz9_2 hcz9_3 hfz5_0 hfz5_1 hfz5_2 hfz5_3 hfz9_0 hfz9_1 hfz9_2 hfz9_3
  (try clear HO_218003);(try clear BK215);(try clear BK216);(try clear BK217);(try clear HB)
  obtain ⟨x4_1,x218003_1,u218003,rfl,HA,HK1,HO_218003,BK215,BK216,BK217,HB⟩:=hrel
  cases gk with
  | zero=>exact absurd HA.out (by simp [spec_l1Copy.l0])
  | succ k1 =>
   have H:=HA.out
   clear HA
   simp only [spec_l1Copy.l0] at H
   by_cases c10:x4_1 < (l0_3.length:Int)
   ·rw [if_pos c10] at H
    have c10b0:decide (x4_1 < (l0_3.length:Int))=true:=decide_eq_true c10
    clear c10
    by_cases c11:0≤x4_1
    ·rw [if_pos c11] at H
     have c11b0:decide (0≤x4_1)=true:=decide_eq_true c11
     clear c11
     replace H:=Option.bind_eq_some_iff.mp H
     obtain ⟨⟨t219,t220,t221,t222⟩,A120,H⟩:=H
     replace H:(if x218003_1.length < 2513169434916 then (spec_l1Copy.l0 k1 (wrap64 (x4_1+1)) a0_0 a0_1 a0_2 l0_3 a0_0 a0_1 a0_2 (x218003_1++[(⟨t219,t220,t221,t222⟩:SDoc)])) else (none))=some (r1,r2,r3,r4):=H
     have A12:=Aside0.mk A120
     clear A120
     by_cases c13:x218003_1.length < 2513169434916
     ·rw [if_pos c13] at H
      have LMc13:=Aside0.mk c13
      clear c13
      obtain ⟨y225,hy225⟩:∃ y_:List (SDoc),y_=(x218003_1++[(⟨t219,t220,t221,t222⟩:SDoc)]):=⟨_,rfl⟩
      replace H:(spec_l1Copy.l0 k1 (wrap64 (x4_1+1)) a0_0 a0_1 a0_2 l0_3 a0_0 a0_1 a0_2 y225)=some (r1,r2,r3,r4):=by first|(rw [hy225];with_reducible exact H)|(have H2_:=(Option.bind_some _ _).symm.trans H;rw [hy225];with_reducible exact H2_)|(have H2_:=(Option.bind_some _ _).symm.trans H;with_reducible exact H2_)|with_reducible exact H|(rw [hy225];exact H)|exact H
      have Ny225:=Aside0.mk hy225
      clear hy225
      have H':=Aside0.mk H
      clear H
      have hnb14:=NB215_216.out
      have hnc14:=NB216_215.out
      have hnb15:=NB215_217.out
      have hnc15:=NB217_215.out
      have hcz16_0:wr.cell? ⟨gb215,0,none⟩=some (.int .i64 a0_0):=(blk_cell BK215.out 0).trans rfl
      have hcz16_1:wr.cell? ⟨gb215,1,none⟩=some (.int .i64 a0_1):=(blk_cell BK215.out 1).trans rfl
      have hcz16_2:wr.cell? ⟨gb215,2,none⟩=some (.string a0_2):=(blk_cell BK215.out 2).trans rfl
      have hcz16_3:wr.cell? ⟨gb215,3,none⟩=some (.slice A0_3 l0_3.length c0_3):=(blk_cell BK215.out 3).trans rfl
      have hfz16_0:=blk_frozen BK215.out 0
      have hfz16_1:=blk_frozen BK215.out 1
      have hfz16_2:=blk_frozen BK215.out 2
      have hfz16_3:=blk_frozen BK215.out 3
      try go_wp2
      have n0_:=Aside0.mk (Kd.R_drew HO_218003.out)
      have n1_:=Aside0.mk (blk_drew BK215.out)
      have n2_:=Aside0.mk (blk_drew BK216.out)
      have n3_:=Aside0.mk (blk_drew BK217.out)
      have n4_:=Aside0.mk (below_drew1 HB.out)
      clear HO_218003
      clear BK215
      clear BK216
      clear BK217
      clear HB
      have HO_218003:=n0_
      have BK215:=n1_
      have BK216:=n2_
      have BK217:=n3_
      have HB:=n4_
      clear n0_ n1_ n2_ n3_ n4_
      have p218:0≤(x4_1:Int):=of_decide_eq_true (by first|(with_reducible assumption)|assumption)
      have q218:x4_1 < (l0_3.length:Int):=of_decide_eq_true (by first|(with_reducible assumption)|assumption)
      obtain ⟨ad218,A218_3,c218_3,e218,hx218_0,hx218_1,hx218_2,hx218_3,hl218_3,hi218_3⟩:=at_TDoc HR0_3.out x4_1 p218 q218
      have hw218_3:=hx218_3
      have hw218_2:=hx218_2
      have hw218_1:=hx218_1
      have hw218_0:=hx218_0
      cases e218
      replace hx218_0:=(HB.out.cell (World.block_lt_of_cell? w _ hx218_0)).trans hx218_0
      replace hx218_1:=(HB.out.cell (World.block_lt_of_cell? w _ hx218_1)).trans hx218_1
      replace hx218_2:=(HB.out.cell (World.block_lt_of_cell? w _ hx218_2)).trans hx218_2
      replace hx218_3:=(HB.out.cell (World.block_lt_of_cell? w _ hx218_3)).trans hx218_3
      have HR218_3:=Aside0.mk hi218_3
      have HC218_3:=Aside0.mk hl218_3
      clear hi218_3 hl218_3
      replace p218:=eq_true p218
      replace q218:=eq_true q218
      refine start_ (n:=12) (S:=fun w'=>w'.cell? ⟨gb217,0,none⟩=some (.int .i64 a0_0)∧w'.cell? ⟨gb217,1,none⟩=some (.int .i64 a0_1)∧w'.cell? ⟨gb217,2,none⟩=some (.string a0_2)∧w'.cell? ⟨gb217,3,none⟩=some (u218003)∧w'.cell? ⟨gb215,0,none⟩=some (.int .i64 a0_0)∧w'.cell? ⟨gb215,1,none⟩=some (.int .i64 a0_1)∧w'.cell? ⟨gb215,2,none⟩=some (.string a0_2)∧w'.cell? ⟨gb215,3,none⟩=some (.slice (some ad218) l0_3.length c0_3)∧w'.cell? (ad218.add ((x4_1).toNat * 4))=some (.int .i64 ((rd_TDoc l0_3 x4_1).f0))∧w'.cell? ⟨(ad218.add ((x4_1).toNat * 4)).block,(ad218.add ((x4_1).toNat * 4)).off+1,none⟩=some (.int .i64 ((rd_TDoc l0_3 x4_1).f1))∧w'.cell? ⟨(ad218.add ((x4_1).toNat * 4)).block,(ad218.add ((x4_1).toNat * 4)).off+2,none⟩=some (.string ((rd_TDoc l0_3 x4_1).f2))∧w'.cell? ⟨(ad218.add ((x4_1).toNat * 4)).block,(ad218.add ((x4_1).toNat * 4)).off+3,none⟩=some (.slice A218_3 ((rd_TDoc l0_3 x4_1).f3).length c218_3)) (ds:=[11]) #[false,false,false,false,false,false,false,false,false,false,false,false] (by kernel_rfl) rfl rfl ⟨(blk_cell BK217.out 0).trans rfl,(blk_cell BK217.out 1).trans rfl,(blk_cell BK217.out 2).trans rfl,(blk_cell BK217.out 3).trans rfl,(blk_cell BK215.out 0).trans rfl,(blk_cell BK215.out 1).trans rfl,(blk_cell BK215.out 2).trans rfl,(blk_cell BK215.out 3).trans rfl,((HB.out.cell (World.block_lt_of_cell? w _ hw218_0)).trans hw218_0),((HB.out.cell (World.block_lt_of_cell? w _ hw218_1)).trans hw218_1),((HB.out.cell (World.block_lt_of_cell? w _ hw218_2)).trans hw218_2),((HB.out.cell (World.block_lt_of_cell? w _ hw218_3)).trans hw218_3)⟩ (fun hHeld=>?_);refine with_tabW spec_l1Copy.tab5 spec_l1Copy.bits5 (fun HT_ HW_=>?_)
      generalize wr.drew=w17 at HO_218003 BK215 BK216 BK217 HB HR218_3 hx218_0 hx218_1 hx218_2 hx218_3 hHeld ⊢
      refine pure_ (i:=0) (N:=some 19) (v:=?_) (a':=?_) #[true,false,false,false,false,false,false,false,false,false,false,false] rfl rfl (any_of HT_.out (by kernel_rfl)) (fun _ _ _ h=>h) (Or.inl ⟨by rfl,?_⟩) ?_ ?_
      rotate_left
      ·intro w'
       go_simp
       with_reducible rfl
      rotate_left
      ·simp only [Act.put,List.setIfInBounds_toArray,List.set_cons_zero,List.set_cons_succ,i64_w,i32_w]
       rfl
      refine pure_ (i:=2) (N:=some 21) (v:=?_) (a':=?_) #[true,false,true,false,false,false,false,false,false,false,false,false] rfl rfl (any_of HT_.out (by kernel_rfl)) (fun _ _ _ h=>h) (Or.inl ⟨by rfl,?_⟩) ?_ ?_
      rotate_left
      ·intro w'
       go_simp
       with_reducible rfl
      rotate_left
      ·simp only [Act.put,List.setIfInBounds_toArray,List.set_cons_zero,List.set_cons_succ,i64_w,i32_w]
       rfl
      refine pure_ (i:=4) (N:=some 23) (v:=?_) (a':=?_) #[true,false,true,false,true,false,false,false,false,false,false,false] rfl rfl (any_of HT_.out (by kernel_rfl)) (fun _ _ _ h=>h) (Or.inl ⟨by rfl,?_⟩) ?_ ?_
      rotate_left
      ·intro w'
       go_simp
       with_reducible rfl
      rotate_left
      ·simp only [Act.put,List.setIfInBounds_toArray,List.set_cons_zero,List.set_cons_succ,i64_w,i32_w]
       rfl
      refine take_ (i:=1) (N:=some 20) (v:=?_) (a':=?_) #[true,true,true,false,true,false,false,false,false,false,false,false] rfl rfl (take_ofW HT_.out HW_.out (by kernel_rfl)) (fun _ _ _ h=>h) (Or.inl ⟨by rfl,?_⟩) hHeld ?_ ?_
      rotate_left
      ·rintro w' ⟨s0,s1,s2,s3,s4,s5,s6,s7,s8,s9,s10,s11⟩
       go_simp
       with_reducible rfl
      rotate_left
      ·simp only [Act.put,List.setIfInBounds_toArray,List.set_cons_zero,List.set_cons_succ,i64_w,i32_w]
       rfl
      refine take_ (i:=3) (N:=some 22) (v:=?_) (a':=?_) #[true,true,true,true,true,false,false,false,false,false,false,false] rfl rfl (take_ofW HT_.out HW_.out (by kernel_rfl)) (fun _ _ _ h=>h) (Or.inl ⟨by rfl,?_⟩) hHeld ?_ ?_
      rotate_left
      ·rintro w' ⟨s0,s1,s2,s3,s4,s5,s6,s7,s8,s9,s10,s11⟩
       go_simp
       with_reducible rfl
      rotate_left
      ·simp only [Act.put,List.setIfInBounds_toArray,List.set_cons_zero,List.set_cons_succ,i64_w,i32_w]
       rfl
      refine pure_ (i:=5) (N:=some 24) (v:=?_) (a':=?_) #[true,true,true,true,true,true,false,false,false,false,false,false] rfl rfl (any_of HT_.out (by kernel_rfl)) (fun _ _ _ h=>h) (Or.inl ⟨by rfl,?_⟩) ?_ ?_
      rotate_left
      ·intro w'
       go_simp
       with_reducible rfl
      rotate_left
      ·simp only [Act.put,List.setIfInBounds_toArray,List.set_cons_zero,List.set_cons_succ,i64_w,i32_w]
       rfl
      refine take_ (i:=6) (N:=some 25) (v:=?_) (a':=?_) #[true,true,true,true,true,true,true,false,false,false,false,false] rfl rfl (take_ofW HT_.out HW_.out (by kernel_rfl)) (fun _ _ _ h=>h) (Or.inl ⟨by rfl,?_⟩) hHeld ?_ ?_
      rotate_left
      ·rintro w' ⟨s0,s1,s2,s3,s4,s5,s6,s7,s8,s9,s10,s11⟩
       go_simp
       with_reducible rfl
      rotate_left
      ·simp only [Act.put,List.setIfInBounds_toArray,List.set_cons_zero,List.set_cons_succ,i64_w,i32_w]
       rfl
      refine one_ (i:=7) (N:=some 26) #[true,true,true,true,true,true,true,true,false,false,false,false] rfl rfl (one_of HT_.out (by kernel_rfl)) (by decide) (fun K hK=>?_)
      refine goes_ Try.func59 (by kernel_rfl) rfl #[.agg #[.int .i64 ((rd_TDoc l0_3 x4_1).f0),.int .i64 ((rd_TDoc l0_3 x4_1).f1),.string ((rd_TDoc l0_3 x4_1).f2),.slice A218_3 ((rd_TDoc l0_3 x4_1).f3).length c218_3]] (by rfl) rfl rfl (by (try simp only [List.map_toArray,List.map_cons,List.map_nil]);first|done|rfl|(simp only [List.length_drop,List.length_take];rfl)) ?_
      with_reducible refine (ih k1 (by have:=HK1.out;omega) ((rd_TDoc l0_3 x4_1).f0) ((rd_TDoc l0_3 x4_1).f1) ((rd_TDoc l0_3 x4_1).f2) _ _ ((rd_TDoc l0_3 x4_1).f3) t219 t220 t221 t222 _ ?side1 ?side2 A12.out).mono ?_
      (case side1=>exact gC (Kd.C_below HR218_3.out HB.out))
      (case side2=>exact HC218_3.out)
      rintro e w18 ⟨v223,rfl,ho0,hb⟩
      refine ⟨_,rfl,?_⟩
      have n0_:=Aside0.mk (Kd.R_elder' (gR HO_218003) (Kd.R_base ho0) hb)
      have n1_:=Aside0.mk (Kd.R_lower (Kd.R_newB (Kd.R_newB (Kd.R_newB (Kd.R_new' ho0 (Kd.R_lt (gR HO_218003))) (g:=gb215) (o:=.cells #[.int .i64 a0_0,.int .i64 a0_1,.string a0_2,.slice (some ad218) l0_3.length c0_3] 27 (0,0)) (gK BK215)) (g:=gb216) (o:=.cells #[.int .i64 0,.int .i64 0,.string (⟨#[]⟩:ByteArray),.slice none 0 0] 27 (0,0)) (gK BK216)) (g:=gb217) (o:=.cells #[.int .i64 a0_0,.int .i64 a0_1,.string a0_2,u218003] 27 (0,0)) (gK BK217)) (below_size (by repeat (first|exact gB HB|refine below_set ?_ GE215.out|refine below_set ?_ GE216.out|refine below_set ?_ GE217.out))))
      have n2_:=Aside0.mk (blk_below (g:=gb215) (o:=.cells #[.int .i64 a0_0,.int .i64 a0_1,.string a0_2,.slice (some ad218) l0_3.length c0_3] 27 (0,0)) (gK BK215) hb)
      have n3_:=Aside0.mk (blk_below (g:=gb216) (o:=.cells #[.int .i64 0,.int .i64 0,.string (⟨#[]⟩:ByteArray),.slice none 0 0] 27 (0,0)) (gK BK216) hb)
      have n4_:=Aside0.mk (blk_below (g:=gb217) (o:=.cells #[.int .i64 a0_0,.int .i64 a0_1,.string a0_2,u218003] 27 (0,0)) (gK BK217) hb)
      have n5_:=Aside0.mk (below_step (by repeat (first|exact gB HB|refine below_set ?_ GE215.out|refine below_set ?_ GE216.out|refine below_set ?_ GE217.out)) hb)
      clear HO_218003
      clear BK215
      clear BK216
      clear BK217
      clear HB
      have HO_218003:=n0_
      have HO224:=n1_
      have BK215:=n2_
      have BK216:=n3_
      have BK217:=n4_
      have HB:=n5_
      clear n0_ n1_ n2_ n3_ n4_ n5_
      (try clear hb)
      (try clear hb2)
      (try clear hk)
      (try clear hi)
      (try clear ho0)
      obtain ⟨Ao20,co20,eo20⟩:=Kd.R_slice HO224.out
      (first|subst eo20|(injection eo20 with f1_ f2_ f3_;have f4_:=f1_.symm;have f5_:=f3_.symm;clear f1_ f2_ f3_;subst f4_;subst f5_))
      refine hK.out _ _ ⟨(blk_cell BK217.out 0).trans rfl,(blk_cell BK217.out 1).trans rfl,(blk_cell BK217.out 2).trans rfl,(blk_cell BK217.out 3).trans rfl,(blk_cell BK215.out 0).trans rfl,(blk_cell BK215.out 1).trans rfl,(blk_cell BK215.out 2).trans rfl,(blk_cell BK215.out 3).trans rfl,((HB.out.cell (World.block_lt_of_cell? w _ hw218_0)).trans hw218_0),((HB.out.cell (World.block_lt_of_cell? w _ hw218_1)).trans hw218_1),((HB.out.cell (World.block_lt_of_cell? w _ hw218_2)).trans hw218_2),((HB.out.cell (World.block_lt_of_cell? w _ hw218_3)).trans hw218_3)⟩ (fun hHeld=>?_)
      clear hK K
      refine norm_ (a':=?_) ?_ ?_
      rotate_left
      ·show Act.put _ (some 26) _=_
       simp only [Act.put,List.setIfInBounds_toArray,List.set_cons_zero,List.set_cons_succ,i64_w,i32_w]
       rfl
      refine one_ (i:=8) (N:=some 27) #[true,true,true,true,true,true,true,true,true,false,false,false] rfl rfl (one_of HT_.out (by kernel_rfl)) (by decide) (fun K hK=>?_)
      refine value_ (w1:=?_) (v:=?_) (by rfl) rfl ?_ ?_
      rotate_left 2
      ·go_simp
       constructor
       ·rfl
       ·rfl
      refine hK.out _ _ ⟨(blk_cell (blk_alloc BK217.out _) 0).trans rfl,(blk_cell (blk_alloc BK217.out _) 1).trans rfl,(blk_cell (blk_alloc BK217.out _) 2).trans rfl,(blk_cell (blk_alloc BK217.out _) 3).trans rfl,(blk_cell (blk_alloc BK215.out _) 0).trans rfl,(blk_cell (blk_alloc BK215.out _) 1).trans rfl,(blk_cell (blk_alloc BK215.out _) 2).trans rfl,(blk_cell (blk_alloc BK215.out _) 3).trans rfl,(World.cell?_alloc_lt _ _ _ (World.block_lt_of_cell? _ _ (((HB.out.cell (World.block_lt_of_cell? w _ hw218_0)).trans hw218_0)))).trans (((HB.out.cell (World.block_lt_of_cell? w _ hw218_0)).trans hw218_0)),(World.cell?_alloc_lt _ _ _ (World.block_lt_of_cell? _ _ (((HB.out.cell (World.block_lt_of_cell? w _ hw218_1)).trans hw218_1)))).trans (((HB.out.cell (World.block_lt_of_cell? w _ hw218_1)).trans hw218_1)),(World.cell?_alloc_lt _ _ _ (World.block_lt_of_cell? _ _ (((HB.out.cell (World.block_lt_of_cell? w _ hw218_2)).trans hw218_2)))).trans (((HB.out.cell (World.block_lt_of_cell? w _ hw218_2)).trans hw218_2)),(World.cell?_alloc_lt _ _ _ (World.block_lt_of_cell? _ _ (((HB.out.cell (World.block_lt_of_cell? w _ hw218_3)).trans hw218_3)))).trans (((HB.out.cell (World.block_lt_of_cell? w _ hw218_3)).trans hw218_3))⟩ (fun hHeld=>?_)
      clear hK K
      refine norm_ (a':=?_) ?_ ?_
      rotate_left
      ·show Act.put _ (some 27) _=_
       simp only [Act.put,List.setIfInBounds_toArray,List.set_cons_zero,List.set_cons_succ,i64_w,i32_w]
       rfl
      refine one_ (i:=9) (N:=some 28) #[true,true,true,true,true,true,true,true,true,true,false,false] rfl rfl (one_of HT_.out (by kernel_rfl)) (by decide) (fun K hK=>?_)
      refine Kd.R_append_step k27 (w0:=w) w.heap.size (by rfl) (.tmp 20) (.tmp 27) 25 27 (.agg #[(.int .i64 0),(.int .i64 0),(.string ⟨#[]⟩),(.slice none 0 0)]) 56 rfl Try.underlying25 info27 rfl (by decide) (by omega) u218003 x218003_1 (⟨t219,t220,t221,t222⟩:SDoc) [.int .i64 t219,.int .i64 t220,.string t221,.slice Ao20 t222.length co20] (fun k_=>k_ ≠ gb215∧k_ ≠ gb216∧k_ ≠ gb217) (fun k_=>((fun k_=>k_ ≠ gb215∧k_ ≠ gb216∧k_ ≠ gb217)) k_∧some k_ ≠ (u218003:Value).ownBlock) rfl rfl ?aP (fun _ hk=>hk) ?aF ?aO ?aB ?aS ?aL ?_
      (case aP=>exact k27_mkM _ _ _ (⟨t219,t220,t221,t222⟩:SDoc) (Kd.R_mono (HO224.out) (fun k_ hk=>⟨⟨hk.1.1.2,⟨hk.1.2,hk.2⟩⟩,hk.1.1.1.2⟩)))
      (case aB=>exact (by repeat (first|exact gB HB|refine below_set ?_ GE215.out|refine below_set ?_ GE216.out|refine below_set ?_ GE217.out)))
      (case aF=>exact (fun k_ hk=>⟨Kd.freshB (g:=gb215) (o:=.cells #[.int .i64 a0_0,.int .i64 a0_1,.string a0_2,.slice (some ad218) l0_3.length c0_3] 27 (0,0)) (gK BK215) k_ hk,Kd.freshB (g:=gb216) (o:=.cells #[.int .i64 0,.int .i64 0,.string (⟨#[]⟩:ByteArray),.slice none 0 0] 27 (0,0)) (gK BK216) k_ hk,Kd.freshB (g:=gb217) (o:=.cells #[.int .i64 a0_0,.int .i64 a0_1,.string a0_2,u218003] 27 (0,0)) (gK BK217) k_ hk⟩))
      (case aO=>exact (by (with_reducible repeat (first|apply Kd.R_alloc|apply Kd.R_drewN|apply Kd.R_drew));exact Kd.R_mono HO_218003.out (fun _ hk=>⟨hk.1.1,⟨hk.1.2.1,hk.1.2.2⟩⟩)))
      (case aS=>exact (below_size (by repeat (first|exact gB HB|refine below_set ?_ GE215.out|refine below_set ?_ GE216.out|refine below_set ?_ GE217.out))))
      (case aL=>have:=LMc13.out;omega)
      intro v226 w19 ho hb hg hat
      rw [← Ny225.out] at ho
      have n0_:=Aside0.mk (blk_grown (g:=gb215) (o:=.cells #[.int .i64 a0_0,.int .i64 a0_1,.string a0_2,.slice (some ad218) l0_3.length c0_3] 27 (0,0)) (gK BK215) hg (Kd.R_away HO_218003.out (fun _ hk=>hk.1.1)))
      have n1_:=Aside0.mk (blk_grown (g:=gb216) (o:=.cells #[.int .i64 0,.int .i64 0,.string (⟨#[]⟩:ByteArray),.slice none 0 0] 27 (0,0)) (gK BK216) hg (Kd.R_away HO_218003.out (fun _ hk=>hk.1.2.1)))
      have n2_:=Aside0.mk (blk_grown (g:=gb217) (o:=.cells #[.int .i64 a0_0,.int .i64 a0_1,.string a0_2,u218003] 27 (0,0)) (gK BK217) hg (Kd.R_away HO_218003.out (fun _ hk=>hk.1.2.2)))
      have n3_:=Aside0.mk (hb)
      have n4_:=Aside0.mk (ho)
      clear BK215
      clear BK216
      clear BK217
      clear HB
      clear HO_218003
      clear HO224
      have BK215:=n0_
      have BK216:=n1_
      have BK217:=n2_
      have HB:=n3_
      have HO227:=n4_
      clear n0_ n1_ n2_ n3_ n4_
      clear ho hb hg hat
      obtain ⟨Ao21,co21,eo21⟩:=Kd.R_slice HO227.out
      (first|subst eo21|(injection eo21 with f1_ f2_ f3_;have f4_:=f1_.symm;have f5_:=f3_.symm;clear f1_ f2_ f3_;subst f4_;subst f5_))
      refine hK.out _ _ ⟨(blk_cell BK217.out 0).trans rfl,(blk_cell BK217.out 1).trans rfl,(blk_cell BK217.out 2).trans rfl,(blk_cell BK217.out 3).trans rfl,(blk_cell BK215.out 0).trans rfl,(blk_cell BK215.out 1).trans rfl,(blk_cell BK215.out 2).trans rfl,(blk_cell BK215.out 3).trans rfl,((HB.out.cell (World.block_lt_of_cell? w _ hw218_0)).trans hw218_0),((HB.out.cell (World.block_lt_of_cell? w _ hw218_1)).trans hw218_1),((HB.out.cell (World.block_lt_of_cell? w _ hw218_2)).trans hw218_2),((HB.out.cell (World.block_lt_of_cell? w _ hw218_3)).trans hw218_3)⟩ (fun hHeld=>?_)
      clear hK K
      refine norm_ (a':=?_) ?_ ?_
      rotate_left
      ·show Act.put _ (some 28) _=_
       simp only [Act.put,List.setIfInBounds_toArray,List.set_cons_zero,List.set_cons_succ,i64_w,i32_w]
       rfl
      refine pure_ (i:=10) (N:=some 29) (v:=?_) (a':=?_) #[true,true,true,true,true,true,true,true,true,true,true,false] rfl rfl (any_of HT_.out (by kernel_rfl)) (fun _ _ _ h=>h) (Or.inl ⟨by rfl,?_⟩) ?_ ?_
      rotate_left
      ·intro w'
       go_simp
       with_reducible rfl
      rotate_left
      ·simp only [Act.put,List.setIfInBounds_toArray,List.set_cons_zero,List.set_cons_succ,i64_w,i32_w]
       rfl
      refine last_ (i:=11) (N:=none) #[true,true,true,true,true,true,true,true,true,true,true,true] rfl rfl (one_of HT_.out (by kernel_rfl)) (by decide) (fun K hK=>?_)
      have hs22:w19.cell? ⟨gb217,3,none⟩=some (u218003):=(blk_cell BK217.out 3).trans rfl
      have hfs22:=blk_frozen BK217.out 3
      have hns22_0:=NB215_217.out
      have hns22_1:=NB216_217.out
      have hms22_0:=NB217_215.out
      have hms22_1:=NB217_216.out
      refine skip_ (w1:=?_) (by rfl) rfl ?_ ?_
      rotate_left
      ·go_simp
       rfl
      refine hK.out _ _ ?_
      clear hK K
      refine done_ (done_of HT_.out (by kernel_rfl)) ?_
      try go_wp2
      go_roundg k1
      case measure=>have:=HK1.out;omega
      case rel=>exact ⟨(wrap64 (x4_1+1)),(y225),(.slice Ao21 y225.length co21),(by first|rfl|(simp;done)|(simp [*];done)),H',⟨by have:=HK1.out;omega⟩,⟨by (with_reducible repeat (first|apply Kd.R_alloc|apply Kd.R_drewN|apply Kd.R_drew));exact Kd.R_mono (Kd.R_far (p:=⟨gb217,3,none⟩) (Kd.R_mono HO227.out (fun k_ hk=>(⟨hk,hk.2.2⟩:_∧k_ ≠ gb217))) (fun _ hk=>hk.2) (.slice Ao21 y225.length co21)) (fun _ hk=>⟨hk.1.1,⟨hk.1.2.1,hk.1.2.2⟩⟩)⟩,⟨by (with_reducible repeat (first|refine blk_drewN ?_ _|refine blk_drew ?_|refine blk_alloc ?_ _));refine blk_far ?_ NB215_217.out _;(with_reducible repeat (first|refine blk_drewN ?_ _|refine blk_drew ?_|refine blk_alloc ?_ _));exact BK215.out⟩,⟨by (with_reducible repeat (first|refine blk_drewN ?_ _|refine blk_drew ?_|refine blk_alloc ?_ _));refine blk_far ?_ NB216_217.out _;(with_reducible repeat (first|refine blk_drewN ?_ _|refine blk_drew ?_|refine blk_alloc ?_ _));exact BK216.out⟩,⟨by (with_reducible repeat (first|refine blk_drewN ?_ _|refine blk_drew ?_|refine blk_alloc ?_ _));refine blk_put (cs:=#[.int .i64 a0_0,.int .i64 a0_1,.string a0_2,u218003]) ?_ 3 _ rfl;(with_reducible repeat (first|refine blk_drewN ?_ _|refine blk_drew ?_|refine blk_alloc ?_ _));exact BK217.out⟩,⟨by repeat (first|exact gB HB|refine below_set ?_ GE215.out|refine below_set ?_ GE216.out|refine below_set ?_ GE217.out)⟩⟩
     ·rw [if_neg c13] at H
      exact absurd H (by simp)
    ·rw [if_neg c11] at H
     exact absurd H (by simp)
   ·rw [if_neg c10] at H
    have c10b0:decide (x4_1 < (l0_3.length:Int))=false:=decide_eq_false c10
    clear c10
    simp only [Option.some.injEq,Prod.mk.injEq] at H
    obtain ⟨rfl,rfl,rfl,rfl⟩:=H
    have hnb23:=NB215_216.out
    have hnc23:=NB216_215.out
    have hnb24:=NB215_217.out
    have hnc24:=NB217_215.out
    have hcz25_0:wr.cell? ⟨gb215,0,none⟩=some (.int .i64 a0_0):=(blk_cell BK215.out 0).trans rfl
    have hcz25_1:wr.cell? ⟨gb215,1,none⟩=some (.int .i64 a0_1):=(blk_cell BK215.out 1).trans rfl
    have hcz25_2:wr.cell? ⟨gb215,2,none⟩=some (.string a0_2):=(blk_cell BK215.out 2).trans rfl
    have hcz25_3:wr.cell? ⟨gb215,3,none⟩=some (.slice A0_3 l0_3.length c0_3):=(blk_cell BK215.out 3).trans rfl
    have hfz25_0:=blk_frozen BK215.out 0
    have hfz25_1:=blk_frozen BK215.out 1
    have hfz25_2:=blk_frozen BK215.out 2
    have hfz25_3:=blk_frozen BK215.out 3
    have hnb26:=NB217_216.out
    have hnc26:=NB216_217.out
    have hcz27_0:wr.cell? ⟨gb217,0,none⟩=some (.int .i64 a0_0):=(blk_cell BK217.out 0).trans rfl
    have hcz27_1:wr.cell? ⟨gb217,1,none⟩=some (.int .i64 a0_1):=(blk_cell BK217.out 1).trans rfl
    have hcz27_2:wr.cell? ⟨gb217,2,none⟩=some (.string a0_2):=(blk_cell BK217.out 2).trans rfl
    have hcz27_3:wr.cell? ⟨gb217,3,none⟩=some (u218003):=(blk_cell BK217.out 3).trans rfl
    have hfz27_0:=blk_frozen BK217.out 0
    have hfz27_1:=blk_frozen BK217.out 1
    have hfz27_2:=blk_frozen BK217.out 2
    have hfz27_3:=blk_frozen BK217.out 3
    have hcz28_0:wr.cell? ⟨gb216,0,none⟩=some (.int .i64 0):=(blk_cell BK216.out 0).trans rfl
    have hcz28_1:wr.cell? ⟨gb216,1,none⟩=some (.int .i64 0):=(blk_cell BK216.out 1).trans rfl
    have hcz28_2:wr.cell? ⟨gb216,2,none⟩=some (.string (⟨#[]⟩:ByteArray)):=(blk_cell BK216.out 2).trans rfl
    have hcz28_3:wr.cell? ⟨gb216,3,none⟩=some (.slice none 0 0):=(blk_cell BK216.out 3).trans rfl
    have hfz28_0:=blk_frozen BK216.out 0
    have hfz28_1:=blk_frozen BK216.out 1
    have hfz28_2:=blk_frozen BK216.out 2
    have hfz28_3:=blk_frozen BK216.out 3
    obtain ⟨Ao29,co29,eo29⟩:=Kd.R_slice HO_218003.out
    subst eo29
    go_wp2
    refine bodyPost_ret (results_cell_row rfl _ _ gb216 27 #[.int .i64 a0_0,.int .i64 a0_1,.string a0_2,.slice Ao29 x218003_1.length co29] (0,0) _ rfl (by (with_reducible repeat (first|refine blk_drewN ?_ _|refine blk_drew ?_|refine blk_alloc ?_ _));refine blk_put (cs:=#[.int .i64 a0_0,.int .i64 a0_1,.string a0_2,.slice none 0 0]) ?_ 3 _ rfl;(with_reducible repeat (first|refine blk_drewN ?_ _|refine blk_drew ?_|refine blk_alloc ?_ _));refine blk_put (cs:=#[.int .i64 a0_0,.int .i64 a0_1,.string (⟨#[]⟩:ByteArray),.slice none 0 0]) ?_ 2 _ rfl;(with_reducible repeat (first|refine blk_drewN ?_ _|refine blk_drew ?_|refine blk_alloc ?_ _));refine blk_put (cs:=#[.int .i64 a0_0,.int .i64 0,.string (⟨#[]⟩:ByteArray),.slice none 0 0]) ?_ 1 _ rfl;(with_reducible repeat (first|refine blk_drewN ?_ _|refine blk_drew ?_|refine blk_alloc ?_ _));refine blk_put (cs:=#[.int .i64 0,.int .i64 0,.string (⟨#[]⟩:ByteArray),.slice none 0 0]) ?_ 0 _ rfl;(with_reducible repeat (first|refine blk_drewN ?_ _|refine blk_drew ?_|refine blk_alloc ?_ _));exact BK216.out) Try.underlying27 rfl (by kernel_rfl)) rfl ?_
    exact ⟨_,by first|rfl|(simp [errW_none,errW_some] <;> rfl)|(simp [*,errW_none,errW_some] <;> rfl),by (with_reducible repeat (first|apply Kd.R_alloc|apply Kd.R_drewN|apply Kd.R_drew));exact Kd.R_mono (Kd.R_far (p:=⟨gb216,3,none⟩) (Kd.R_far (p:=⟨gb216,2,none⟩) (Kd.R_far (p:=⟨gb216,1,none⟩) (Kd.R_far (p:=⟨gb216,0,none⟩) (Kd.R_mono HO_218003.out (fun k_ hk=>(⟨hk,hk.2.1⟩:_∧k_ ≠ gb216))) (fun _ hk=>hk.2) (.int .i64 a0_0)) (fun _ hk=>hk.2) (.int .i64 a0_1)) (fun _ hk=>hk.2) (.string a0_2)) (fun _ hk=>hk.2) (.slice Ao29 x218003_1.length co29)) (fun _ hk=>trivial),by repeat (first|exact gB HB|refine below_set ?_ GE215.out|refine below_set ?_ GE216.out|refine below_set ?_ GE217.out)⟩
end Go.Proofs.Ytdhdfmmefghijaa.P
