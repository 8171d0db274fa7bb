/- CONTRACTS and lemmas: each contract says that a Go function of the program, called over the translation under the theorem's own hypotheses, returns what the Lean function beside it computes. -/
import Derived.Test.YtdhdfmmefghijabVFnOpenLayout3
import Derived.Test.YtdhdfmmefghijabProg
import Derived.Below
import Derived.Deep.Draws
import Derived.Deep.AppendLies
import Derived.Maps.AppendAt
import Derived.OwnWalk
import Derived.Laws.BytesArg
import Derived.Laws.MakeOwn
import Derived.Laws.OwnMore
import Derived.Deep.OwnRows
import Derived.Tactics
import Derived.Lib.ConvBytes
import Derived.Laws.Slices
import Derived.WalkKit
import Derived.KernelRfl
import Derived.RowKit3
import Derived.Deep.LoopGhost
import Derived.Deep.QuietTactic
import Derived.BigQuiet
import Derived.WideLaws
import Derived.Deep.DeepCutAuto
import Derived.Deep.CutBlock
import Derived.Deep.RegionHeld3
import Derived.Laws.Rows
import Derived.Lib.AppendStr
import Derived.ArgAppend
import Derived.Laws.IdiomCopy
import Derived.OrdersHeld
import Derived.Laws.BitsLemmas
import Derived.RowKit
import Derived.WalkSpells
namespace Go.Proofs.Ytdhdfmmefghijab.P
open Go.RowKit Go.Proofs.YtdhdfmmefghijabW.PrintWords Go.Proofs.YtdhdfmmefghijabW.PrintLast Go.Proofs.YtdhdfmmefghijabW.PrintMore
attribute [local go_sem] max2_int min2_int max_two min_two max_three min_three max_four min_four
set_option linter.unusedVariables false
set_option linter.unusedSimpArgs false
def errW:Option Int→Value
 | none=>.nilIface
 | some c=>.iface 0 (.int .i64 c)
theorem errW_none:errW none=.nilIface:=rfl
theorem errW_some (c:Int):errW (some c)=.iface 0 (.int .i64 c):=rfl
theorem info5:(Try.prog.info? 5).map (fun i=>(i.zero,i.size,i.bytes))=some (some (.int .u8 0),1,1):=by kernel_rfl
theorem info30:(Try.prog.info? 30).map (fun i=>(i.zero,i.size,i.bytes))=some (some (.agg #[(.int .i64 0),(.string ⟨#[]⟩)]),2,24):=by kernel_rfl
theorem info39:(Try.prog.info? 39).map (fun i=>(i.zero,i.size,i.bytes))=some (some (.agg #[(.int .i64 0),(.int .i64 0),(.string ⟨#[]⟩),(.slice none 0 0)]),4,56):=by kernel_rfl
structure SRow where
 f0:Int
 f1:ByteArray
def zRow:SRow:=⟨(0:Int),(⟨#[]⟩:ByteArray)⟩
def k30:Kd SRow:=Kd.iso (Kd.pair (Kd.int .i64) Kd.string) (fun x:SRow=>(x.f0,x.f1))
theorem k30_open {w:World} {x:SRow} {cs:List Value} (h:k30.K w x cs):cs=[.int .i64 x.f0,.string x.f1]:=by
 obtain ⟨_,_,rfl,rfl,rfl⟩:=h
 exact rfl
theorem k30_openM {w:World} {base:Nat} {ok:Nat→Prop} {x:SRow} {cs:List Value} (h:k30.M w base ok x cs):cs=[.int .i64 x.f0,.string x.f1]:=by
 obtain ⟨_,_,rfl,rfl,rfl⟩:=h
 exact rfl
theorem k30_mkM (w:World) (base:Nat) (ok:Nat→Prop) (x:SRow) :k30.M w base ok x [.int .i64 x.f0,.string x.f1]:=⟨[.int .i64 x.f0],[.string x.f1],rfl,rfl,rfl⟩
def rd_TRow (xs:List SRow) (i:Int):SRow:=xs.getD i.toNat zRow
theorem at_TRow {w:World} {A:Option Addr} {n:Nat} {xs:List SRow} (h:Kd.C k30 w A n xs) (i:Int) (h0:0≤i) (h1:i<n):∃ ad ,A=some ad∧w.cell? (ad.add (i.toNat * 2))=some (.int .i64 (rd_TRow xs i).f0)∧w.cell? ⟨(ad.add (i.toNat * 2)).block,(ad.add (i.toNat * 2)).off+1,none⟩=some (.string (rd_TRow xs i).f1):=by
 obtain ⟨ad,c,e,_,hK,hc0⟩:=Kd.C_get h zRow i h0 h1
 have hc:∀ j u,c[j]?=some u→w.cell? (ad.add (i.toNat * 2+j))=some u:=hc0
 obtain rfl:=k30_open hK
 exact ⟨ad,e,hc 0 _ rfl,by rw [← add_field _ _ 1 (by omega)];exact hc 1 _ rfl⟩
structure SDoc where
 f0:Int
 f1:Int
 f2:ByteArray
 f3:(List SDoc)
def zDoc:SDoc:=⟨(0:Int),(0:Int),(⟨#[]⟩:ByteArray),([]:List SDoc)⟩
def F39 (d:Kd SDoc):Kd SDoc:=Kd.iso (Kd.pair (Kd.int .i64) (Kd.pair (Kd.int .i64) (Kd.pair Kd.string (Kd.slice 39 d)))) (fun x:SDoc=>(x.f0,x.f1,x.f2,x.f3))
theorem mono39:Kd.Mono F39:=Kd.mono_iso _ (Kd.mono_pair (Kd.mono_const _) (Kd.mono_pair (Kd.mono_const _) (Kd.mono_pair (Kd.mono_const _) (Kd.mono_slice 39 Kd.mono_id))))
theorem sub39:Kd.Sub F39 [39]:=Kd.sub_iso _ (Kd.sub_pair (Kd.sub_const _ (by decide)) (Kd.sub_pair (Kd.sub_const _ (by decide)) (Kd.sub_pair (Kd.sub_const _ (by decide)) (Kd.sub_slice 39 (by decide) Kd.sub_id))))
theorem sz39:∀ n,(Kd.upto F39 4 [39] n).sz=4:=Kd.upto_sz (fun _=>rfl)
def k39:Kd SDoc:=Kd.fix F39 4 [39] sz39 (Kd.upto_E sub39)
theorem k39_open {w:World} {x:SDoc} {cs:List Value} (h:k39.K w x cs):∃ A3 c3,cs=[.int .i64 x.f0,.int .i64 x.f1,.string x.f2,.slice A3 x.f3.length c3]∧x.f3.length≤c3∧k39.C w A3 x.f3.length x.f3:=by
 obtain ⟨n,h⟩:=h
 cases n with
 | zero=>exact h.elim
 | succ n =>
  obtain ⟨_,_,rfl,rfl,⟨_,_,rfl,rfl,⟨_,_,rfl,rfl,⟨A3,c3,rfl,l3,g3⟩⟩⟩⟩:=h
  exact ⟨A3,c3,rfl,l3,Kd.fix_C g3⟩
theorem k39_mk (w:World) (x:SDoc) {A3:Option Addr} {c3:Nat} (l3:x.f3.length≤c3) (g3:k39.C w A3 x.f3.length x.f3):k39.K w x [.int .i64 x.f0,.int .i64 x.f1,.string x.f2,.slice A3 x.f3.length c3]:=by
 obtain ⟨n3,q3⟩:=Kd.fix_C_back mono39 g3
 have r3:=Kd.upto_C_le mono39 sz39 (show n3≤n3 by omega) q3
 exact ⟨n3+1,⟨[.int .i64 x.f0],[.int .i64 x.f1,.string x.f2,.slice A3 x.f3.length c3],rfl,rfl,⟨[.int .i64 x.f1],[.string x.f2,.slice A3 x.f3.length c3],rfl,rfl,⟨[.string x.f2],[.slice A3 x.f3.length c3],rfl,rfl,⟨A3,c3,rfl,l3,r3⟩⟩⟩⟩⟩
theorem k39_mkM (w:World) (base:Nat) (ok:Nat→Prop) (x:SDoc) {v3:Value} (g3:k39.R 39 w base ok v3 x.f3):k39.M w base ok x [.int .i64 x.f0,.int .i64 x.f1,.string x.f2,v3]:=by
 obtain ⟨n3,q3⟩:=Kd.fix_R_back mono39 g3
 have r3:=Kd.upto_R_le mono39 sz39 (show n3≤n3 by omega) q3
 exact ⟨n3+1,⟨[.int .i64 x.f0],[.int .i64 x.f1,.string x.f2,v3],rfl,rfl,⟨[.int .i64 x.f1],[.string x.f2,v3],rfl,rfl,⟨[.string x.f2],[v3],rfl,rfl,⟨v3,rfl,r3⟩⟩⟩⟩⟩
theorem k39_openF {W:World} {ok:Nat→Prop} {x:SDoc} {cs:List Value} (h:Kd.FK k39 W ok x cs):∃ A3 c3,cs=[.int .i64 x.f0,.int .i64 x.f1,.string x.f2,.slice A3 x.f3.length c3]∧x.f3.length≤c3∧Kd.F k39 W ok A3 x.f3.length x.f3:=by
 obtain ⟨A3,c3,rfl,l3,_⟩:=k39_open (Kd.FK_now h)
 exact ⟨A3,c3,rfl,l3,(fun W' hW=>by obtain ⟨A3_,c3_,he,l3_,g3_⟩:=k39_open (h W' hW);injection (Option.some.inj (show some (Value.slice A3 x.f3.length c3)=some (Value.slice A3_ x.f3.length c3_) from congrArg (fun l=>l[3]?) he)) with ha_ _ _;rw [ha_];exact g3_)⟩
theorem k39_mkF (W:World) (ok:Nat→Prop) (x:SDoc) {A3:Option Addr} {c3:Nat} (l3:x.f3.length≤c3) (g3:Kd.F k39 W ok A3 x.f3.length x.f3):Kd.FK k39 W ok x [.int .i64 x.f0,.int .i64 x.f1,.string x.f2,.slice A3 x.f3.length c3]:=fun W2 hW=>k39_mk W2 x l3 (g3 W2 hW)
def rd_TDoc (xs:List SDoc) (i:Int):SDoc:=xs.getD i.toNat zDoc
theorem at_TDoc {w:World} {A:Option Addr} {n:Nat} {xs:List SDoc} (h:Kd.C k39 w A n xs) (i:Int) (h0:0≤i) (h1:i<n):∃ ad A3 c3,A=some ad∧w.cell? (ad.add (i.toNat * 4))=some (.int .i64 (rd_TDoc xs i).f0)∧w.cell? ⟨(ad.add (i.toNat * 4)).block,(ad.add (i.toNat * 4)).off+1,none⟩=some (.int .i64 (rd_TDoc xs i).f1)∧w.cell? ⟨(ad.add (i.toNat * 4)).block,(ad.add (i.toNat * 4)).off+2,none⟩=some (.string (rd_TDoc xs i).f2)∧w.cell? ⟨(ad.add (i.toNat * 4)).block,(ad.add (i.toNat * 4)).off+3,none⟩=some (.slice A3 (rd_TDoc xs i).f3.length c3)∧(rd_TDoc xs i).f3.length≤c3∧k39.C w A3 (rd_TDoc xs i).f3.length (rd_TDoc xs i).f3:=by
 obtain ⟨ad,c,e,_,hK,hc0⟩:=Kd.C_get h zDoc i h0 h1
 have hc:∀ j u,c[j]?=some u→w.cell? (ad.add (i.toNat * 4+j))=some u:=hc0
 obtain ⟨A3,c3,rfl,l3,g3⟩:=k39_open hK
 exact ⟨ad,A3,c3,e,hc 0 _ rfl,by rw [← add_field _ _ 1 (by omega)];exact hc 1 _ rfl,by rw [← add_field _ _ 2 (by omega)];exact hc 2 _ rfl,by rw [← add_field _ _ 3 (by omega)];exact hc 3 _ rfl,l3,g3⟩
theorem xp_isEmpty (l:List UInt8):(!l.isEmpty)=(l != []):=by cases l <;> rfl
end Go.Proofs.Ytdhdfmmefghijab.P
namespace Go.Proofs.Ytdhdfmmefghijab.P
open Go.RowKit Go.Proofs.YtdhdfmmefghijabW.PrintWords Go.Proofs.YtdhdfmmefghijabW.PrintLast Go.Proofs.YtdhdfmmefghijabW.PrintMore
class Gr (a b : World) : Prop where
  out : Below a.heap.size a b
instance gr_refl (a : World) : Gr a a := ⟨Below.refl _ _⟩
instance gr_alloc (a b : World) (o : Obj) [h : Gr a b] : Gr a (b.alloc o) := ⟨below_alloc h.out o⟩
instance gr_drewN (a b : World) (n : Nat) [h : Gr a b] : Gr a (b.drewN n) := ⟨pw_below_drewN h.out n⟩
instance gr_drew (a b : World) [h : Gr a b] : Gr a b.drew := ⟨below_drew1 h.out⟩
theorem gB {w a b : World} (h : Aside0 (Below w.heap.size w a)) [g : Gr a b] : Below w.heap.size w b := below_step h.out g.out
theorem gR {α : Type} {d : Kd α} {e : Nat} {a b : World} {base : Nat} {ok : Nat → Prop} {v : Value} {xs : List α} (h : Aside0 (d.R e a base ok v xs)) [g : Gr a b] : d.R e b base ok v xs := Kd.R_below h.out g.out
theorem gN {α : Type} {d : Kd α} {e : Nat} {a b : World} {base : Nat} {ok : Nat → Prop} {v : Value} {xs : List α} (h : Aside0 (Kd.N d e a base ok v xs)) [g : Gr a b] : Kd.N d e b base ok v xs := Kd.N_below h.out g.out
theorem gV {α : Type} {d : Kd α} {e : Nat} {a b : World} {base : Nat} {ok : Nat → Prop} {v : Value} {xs : List α} (h : Aside0 (Kd.V d e a base ok v xs)) [g : Gr a b] : Kd.V d e b base ok v xs := Kd.V_below h.out g.out
theorem gS {α : Type} {d : Kd α} {e : Nat} {a b : World} {base : Nat} {ok : Nat → Prop} {v : Value} {xs : List α} (h : Aside0 (Kd.S d e a base ok v xs)) [g : Gr a b] : Kd.S d e b base ok v xs := Kd.S_below h.out g.out
theorem gC {α : Type} {d : Kd α} {a b : World} {A : Option Addr} {n : Nat} {xs : List α} (h : d.C a A n xs) [g : Gr a b] : d.C b A n xs := Kd.C_below h g.out
theorem gK {a b : World} {g : Nat} {o : Obj} (h : Aside0 (a.heap[g]? = some o)) [r : Gr a b] : b.heap[g]? = some o := blk_below h.out r.out
theorem gW {w a b : World} {g : Nat} (h : Aside0 (KeepBut w a g none)) [r : Gr a b] : KeepBut w b g none := KeepBut.trans h.out (KeepBut.of_below r.out g none) (.inl rfl)
theorem gT {w a b : World} {S : Nat → Prop} (h : Aside0 (Kept w a S)) [r : Gr a b] : Kept w b S := Kept.below h.out r.out
end Go.Proofs.Ytdhdfmmefghijab.P
namespace Go.Proofs.Ytdhdfmmefghijab.P
open Go.RowKit Go.Proofs.YtdhdfmmefghijabW.PrintWords Go.Proofs.YtdhdfmmefghijabW.PrintLast Go.Proofs.YtdhdfmmefghijabW.PrintMore
attribute [local go_sem] max2_int min2_int max_two min_two max_three min_three max_four min_four
set_option linter.unusedVariables false
set_option linter.unusedSimpArgs false
def strings_IndexByte.f (a0:ByteArray) (a1:Int):Option (Int):=some (Lib.indexByte a0.data.toList a1.toNat.toUInt8)
theorem strings_IndexByte.calls (a0:ByteArray) (a1:Int) (r:Int) (w:World) (h:strings_IndexByte.f a0 a1=some r) :
  Calls Try.prog 83 #[.string a0,.int .u8 a1] w fun e w'=>e=.returned (.int .i64 r)∧Drawn0 w w':=by
 obtain rfl:=Option.some.inj h
 refine (Try.strings_IndexByte a0 a1 w).mono ?_
 rintro e w' ⟨rfl,rfl⟩
 exact ⟨rfl,Drawn0.refl _⟩
end Go.Proofs.Ytdhdfmmefghijab.P
namespace Go.Proofs.Ytdhdfmmefghijab.P
open Go.RowKit Go.Proofs.YtdhdfmmefghijabW.PrintWords Go.Proofs.YtdhdfmmefghijabW.PrintLast Go.Proofs.YtdhdfmmefghijabW.PrintMore
attribute [local go_sem] max2_int min2_int max_two min_two max_three min_three max_four min_four
set_option linter.unusedVariables false
set_option linter.unusedSimpArgs false
mutual
def impl_TextValid.l0:Nat→ByteArray→Int→Option (Bool)
 | 0,_,_=>none
 | k+1,x0,x3=>if x3<(x0.size:Int) then (if 0≤x3 then (if (bt x0 x3)≥97 then (if (bt x0 x3)≤122 then (impl_TextValid.j1 k x0 x3 (!true)) else (if (bt x0 x3)≥48 then (if (bt x0 x3)≤57 then (impl_TextValid.j1 k x0 x3 (!true)) else ((strings_IndexByte.f (⟨#[44,58,61,123,125,40,41,91,93]⟩:ByteArray) (bt x0 x3)).bind fun t428=>(impl_TextValid.j1 k x0 x3 (!(decide (t428≥0)))))) else ((strings_IndexByte.f (⟨#[44,58,61,123,125,40,41,91,93]⟩:ByteArray) (bt x0 x3)).bind fun t429=>(impl_TextValid.j1 k x0 x3 (!(decide (t429≥0))))))) else (if (bt x0 x3)≥48 then (if (bt x0 x3)≤57 then (impl_TextValid.j1 k x0 x3 (!true)) else ((strings_IndexByte.f (⟨#[44,58,61,123,125,40,41,91,93]⟩:ByteArray) (bt x0 x3)).bind fun t430=>(impl_TextValid.j1 k x0 x3 (!(decide (t430≥0)))))) else ((strings_IndexByte.f (⟨#[44,58,61,123,125,40,41,91,93]⟩:ByteArray) (bt x0 x3)).bind fun t431=>(impl_TextValid.j1 k x0 x3 (!(decide (t431≥0))))))) else (none)) else (if (x0.size:Int)≥1 then (some (decide ((x0.size:Int)≤12))) else (some false))
def impl_TextValid.j1:Nat→ByteArray→Int→Bool→Option (Bool)
 | 0,_,_,_=>none
 | k+1,x0,x3,x39=>if x39=true then (some false) else (impl_TextValid.l0 k x0 (wrap64 (x3+1)))
end
def impl_TextValid.f (k:Nat) (a0:ByteArray):Option (Bool):=impl_TextValid.l0 k a0 0
set_option maxHeartbeats 8000000 in
set_option maxRecDepth 100000 in
theorem impl_TextValid.calls (k:Nat) (a0:ByteArray) (r:Bool) (w:World) (h:impl_TextValid.f k a0=some r) :
  Calls Try.prog 68 #[.string a0] w fun e w'=>e=.returned (.bool r)∧Drawn0 w w':=by
 have H:(impl_TextValid.l0 k a0 0)=some r:=h
 clear h
 have H':=Aside0.mk H
 clear H
 go_enter Try.func68,Try.ntmps68
 go_wp2
 go_loopg [3] k (fun kq v3 w'=>∃ (x3_1:Int),v3=.int .i64 x3_1∧Aside0 (impl_TextValid.l0 kq a0 x3_1=some r)∧Aside0 (kq≤k)∧Drawn0 w w')
 case atStart=>exact ⟨(0),(by first|rfl|(simp;done)|(simp [*];done)),H',⟨Nat.le_refl _⟩,by repeat (first|exact Drawn0.refl _|apply Drawn0.step)⟩
 case round =>
  clear H'
  obtain ⟨x3_1,rfl,HA,HK1,⟨m1,rfl⟩⟩:=hrel
  cases gk with
  | zero=>exact absurd HA.out (by simp [impl_TextValid.l0])
  | succ k1 =>
   have H:=HA.out
   clear HA
   simp only [impl_TextValid.l0] at H
   by_cases c2:x3_1<(a0.size:Int)
   ·rw [if_pos c2] at H
    have c2b0:decide (x3_1<(a0.size:Int))=true:=decide_eq_true c2
    clear c2
    have HC3:=Aside0.mk H
    clear H
    go_upto_region 4 with (fail)
    go_cut [39] (fun v39 wc=>∃ (kq:Nat) (x39_2:Bool),v39=.bool x39_2∧Aside0 (impl_TextValid.j1 kq a0 x3_1 x39_2=some r)∧Aside0 (kq≤k1)∧Drawn0 w wc)
    case first =>
     have H:=HC3.out
     clear HC3
     by_cases c4:0≤x3_1
     ·rw [if_pos c4] at H
      have c4b0:decide (0≤x3_1)=true:=decide_eq_true c4
      clear c4
      (first|rw [c4b0]|(simp only [i64_w,i32_w];rw [c4b0])|skip)
      by_cases c6:(bt a0 x3_1)≥97
      ·rw [if_pos c6] at H
       have c6b0:decide (97≤(bt a0 x3_1))=true:=decide_eq_true c6
       clear c6
       by_cases c8:(bt a0 x3_1)≤122
       ·rw [if_pos c8] at H
        have c8b0:decide ((bt a0 x3_1)≤122)=true:=decide_eq_true c8
        clear c8
        have H':=Aside0.mk H
        clear H
        have p5:0≤(x3_1:Int):=of_decide_eq_true (by first|(with_reducible assumption)|assumption)
        have q5:x3_1<(a0.size:Int):=of_decide_eq_true (by first|(with_reducible assumption)|assumption)
        have hx5:=bt_at a0 x3_1
        replace p5:=eq_true p5
        replace q5:=eq_true q5
        have p7:0≤(x3_1:Int):=of_decide_eq_true (by first|(with_reducible assumption)|assumption)
        have q7:x3_1<(a0.size:Int):=of_decide_eq_true (by first|(with_reducible assumption)|assumption)
        have hx7:=bt_at a0 x3_1
        replace p7:=eq_true p7
        replace q7:=eq_true q7
        go_wp2
        go_meet
        case rel=>exact ⟨_,(!true),(by first|rfl|(simp;done)|(simp [*];done)),H',⟨by have:=HK1.out;first|omega|exact Nat.le_refl _⟩,by repeat (first|exact Drawn0.refl _|apply Drawn0.step)⟩
       ·rw [if_neg c8] at H
        have c8b0:decide ((bt a0 x3_1)≤122)=false:=decide_eq_false c8
        clear c8
        by_cases c10:(bt a0 x3_1)≥48
        ·rw [if_pos c10] at H
         have c10b0:decide (48≤(bt a0 x3_1))=true:=decide_eq_true c10
         clear c10
         by_cases c12:(bt a0 x3_1)≤57
         ·rw [if_pos c12] at H
          have c12b0:decide ((bt a0 x3_1)≤57)=true:=decide_eq_true c12
          clear c12
          have H':=Aside0.mk H
          clear H
          have p5:0≤(x3_1:Int):=of_decide_eq_true (by first|(with_reducible assumption)|assumption)
          have q5:x3_1<(a0.size:Int):=of_decide_eq_true (by first|(with_reducible assumption)|assumption)
          have hx5:=bt_at a0 x3_1
          replace p5:=eq_true p5
          replace q5:=eq_true q5
          have p7:0≤(x3_1:Int):=of_decide_eq_true (by first|(with_reducible assumption)|assumption)
          have q7:x3_1<(a0.size:Int):=of_decide_eq_true (by first|(with_reducible assumption)|assumption)
          have hx7:=bt_at a0 x3_1
          replace p7:=eq_true p7
          replace q7:=eq_true q7
          have p9:0≤(x3_1:Int):=of_decide_eq_true (by first|(with_reducible assumption)|assumption)
          have q9:x3_1<(a0.size:Int):=of_decide_eq_true (by first|(with_reducible assumption)|assumption)
          have hx9:=bt_at a0 x3_1
          replace p9:=eq_true p9
          replace q9:=eq_true q9
          have p11:0≤(x3_1:Int):=of_decide_eq_true (by first|(with_reducible assumption)|assumption)
          have q11:x3_1<(a0.size:Int):=of_decide_eq_true (by first|(with_reducible assumption)|assumption)
          have hx11:=bt_at a0 x3_1
          replace p11:=eq_true p11
          replace q11:=eq_true q11
          go_wp2
          go_meet
          case rel=>exact ⟨_,(!true),(by first|rfl|(simp;done)|(simp [*];done)),H',⟨by have:=HK1.out;first|omega|exact Nat.le_refl _⟩,by repeat (first|exact Drawn0.refl _|apply Drawn0.step)⟩
         ·rw [if_neg c12] at H
          have c12b0:decide ((bt a0 x3_1)≤57)=false:=decide_eq_false c12
          clear c12
          replace H:=Option.bind_eq_some_iff.mp H
          obtain ⟨t428,A140,H⟩:=H
          replace H:(impl_TextValid.j1 k1 a0 x3_1 (!(decide (t428≥0))))=some r:=H
          have A14:=Aside0.mk A140
          clear A140
          have H':=Aside0.mk H
          clear H
          have p5:0≤(x3_1:Int):=of_decide_eq_true (by first|(with_reducible assumption)|assumption)
          have q5:x3_1<(a0.size:Int):=of_decide_eq_true (by first|(with_reducible assumption)|assumption)
          have hx5:=bt_at a0 x3_1
          replace p5:=eq_true p5
          replace q5:=eq_true q5
          have p7:0≤(x3_1:Int):=of_decide_eq_true (by first|(with_reducible assumption)|assumption)
          have q7:x3_1<(a0.size:Int):=of_decide_eq_true (by first|(with_reducible assumption)|assumption)
          have hx7:=bt_at a0 x3_1
          replace p7:=eq_true p7
          replace q7:=eq_true q7
          have p9:0≤(x3_1:Int):=of_decide_eq_true (by first|(with_reducible assumption)|assumption)
          have q9:x3_1<(a0.size:Int):=of_decide_eq_true (by first|(with_reducible assumption)|assumption)
          have hx9:=bt_at a0 x3_1
          replace p9:=eq_true p9
          replace q9:=eq_true q9
          have p11:0≤(x3_1:Int):=of_decide_eq_true (by first|(with_reducible assumption)|assumption)
          have q11:x3_1<(a0.size:Int):=of_decide_eq_true (by first|(with_reducible assumption)|assumption)
          have hx11:=bt_at a0 x3_1
          replace p11:=eq_true p11
          replace q11:=eq_true q11
          have p13:0≤(x3_1:Int):=of_decide_eq_true (by first|(with_reducible assumption)|assumption)
          have q13:x3_1<(a0.size:Int):=of_decide_eq_true (by first|(with_reducible assumption)|assumption)
          have hx13:=bt_at a0 x3_1
          replace p13:=eq_true p13
          replace q13:=eq_true q13
          go_wp2_with (first|(go_at_call 83;(with_reducible refine (strings_IndexByte.calls (⟨#[44,58,61,123,125,40,41,91,93]⟩:ByteArray) (bt a0 x3_1) t428 _ A14.out).mono ?_);rintro e w' ⟨rfl,⟨nd,rfl⟩⟩))
          go_meet
          case rel=>exact ⟨_,(!(decide (t428≥0))),(by first|rfl|(simp;done)|(simp [*];done)),H',⟨by have:=HK1.out;first|omega|exact Nat.le_refl _⟩,by repeat (first|exact Drawn0.refl _|apply Drawn0.step)⟩
        ·rw [if_neg c10] at H
         have c10b0:decide (48≤(bt a0 x3_1))=false:=decide_eq_false c10
         clear c10
         replace H:=Option.bind_eq_some_iff.mp H
         obtain ⟨t429,A160,H⟩:=H
         replace H:(impl_TextValid.j1 k1 a0 x3_1 (!(decide (t429≥0))))=some r:=H
         have A16:=Aside0.mk A160
         clear A160
         have H':=Aside0.mk H
         clear H
         have p5:0≤(x3_1:Int):=of_decide_eq_true (by first|(with_reducible assumption)|assumption)
         have q5:x3_1<(a0.size:Int):=of_decide_eq_true (by first|(with_reducible assumption)|assumption)
         have hx5:=bt_at a0 x3_1
         replace p5:=eq_true p5
         replace q5:=eq_true q5
         have p7:0≤(x3_1:Int):=of_decide_eq_true (by first|(with_reducible assumption)|assumption)
         have q7:x3_1<(a0.size:Int):=of_decide_eq_true (by first|(with_reducible assumption)|assumption)
         have hx7:=bt_at a0 x3_1
         replace p7:=eq_true p7
         replace q7:=eq_true q7
         have p9:0≤(x3_1:Int):=of_decide_eq_true (by first|(with_reducible assumption)|assumption)
         have q9:x3_1<(a0.size:Int):=of_decide_eq_true (by first|(with_reducible assumption)|assumption)
         have hx9:=bt_at a0 x3_1
         replace p9:=eq_true p9
         replace q9:=eq_true q9
         have p15:0≤(x3_1:Int):=of_decide_eq_true (by first|(with_reducible assumption)|assumption)
         have q15:x3_1<(a0.size:Int):=of_decide_eq_true (by first|(with_reducible assumption)|assumption)
         have hx15:=bt_at a0 x3_1
         replace p15:=eq_true p15
         replace q15:=eq_true q15
         go_wp2_with (first|(go_at_call 83;(with_reducible refine (strings_IndexByte.calls (⟨#[44,58,61,123,125,40,41,91,93]⟩:ByteArray) (bt a0 x3_1) t429 _ A16.out).mono ?_);rintro e w' ⟨rfl,⟨nd,rfl⟩⟩))
         go_meet
         case rel=>exact ⟨_,(!(decide (t429≥0))),(by first|rfl|(simp;done)|(simp [*];done)),H',⟨by have:=HK1.out;first|omega|exact Nat.le_refl _⟩,by repeat (first|exact Drawn0.refl _|apply Drawn0.step)⟩
      ·rw [if_neg c6] at H
       have c6b0:decide (97≤(bt a0 x3_1))=false:=decide_eq_false c6
       clear c6
       by_cases c18:(bt a0 x3_1)≥48
       ·rw [if_pos c18] at H
        have c18b0:decide (48≤(bt a0 x3_1))=true:=decide_eq_true c18
        clear c18
        by_cases c20:(bt a0 x3_1)≤57
        ·rw [if_pos c20] at H
         have c20b0:decide ((bt a0 x3_1)≤57)=true:=decide_eq_true c20
         clear c20
         have H':=Aside0.mk H
         clear H
         have p5:0≤(x3_1:Int):=of_decide_eq_true (by first|(with_reducible assumption)|assumption)
         have q5:x3_1<(a0.size:Int):=of_decide_eq_true (by first|(with_reducible assumption)|assumption)
         have hx5:=bt_at a0 x3_1
         replace p5:=eq_true p5
         replace q5:=eq_true q5
         have p17:0≤(x3_1:Int):=of_decide_eq_true (by first|(with_reducible assumption)|assumption)
         have q17:x3_1<(a0.size:Int):=of_decide_eq_true (by first|(with_reducible assumption)|assumption)
         have hx17:=bt_at a0 x3_1
         replace p17:=eq_true p17
         replace q17:=eq_true q17
         have p19:0≤(x3_1:Int):=of_decide_eq_true (by first|(with_reducible assumption)|assumption)
         have q19:x3_1<(a0.size:Int):=of_decide_eq_true (by first|(with_reducible assumption)|assumption)
         have hx19:=bt_at a0 x3_1
         replace p19:=eq_true p19
         replace q19:=eq_true q19
         go_wp2
         go_meet
         case rel=>exact ⟨_,(!true),(by first|rfl|(simp;done)|(simp [*];done)),H',⟨by have:=HK1.out;first|omega|exact Nat.le_refl _⟩,by repeat (first|exact Drawn0.refl _|apply Drawn0.step)⟩
        ·rw [if_neg c20] at H
         have c20b0:decide ((bt a0 x3_1)≤57)=false:=decide_eq_false c20
         clear c20
         replace H:=Option.bind_eq_some_iff.mp H
         obtain ⟨t430,A220,H⟩:=H
         replace H:(impl_TextValid.j1 k1 a0 x3_1 (!(decide (t430≥0))))=some r:=H
         have A22:=Aside0.mk A220
         clear A220
         have H':=Aside0.mk H
         clear H
         have p5:0≤(x3_1:Int):=of_decide_eq_true (by first|(with_reducible assumption)|assumption)
         have q5:x3_1<(a0.size:Int):=of_decide_eq_true (by first|(with_reducible assumption)|assumption)
         have hx5:=bt_at a0 x3_1
         replace p5:=eq_true p5
         replace q5:=eq_true q5
         have p17:0≤(x3_1:Int):=of_decide_eq_true (by first|(with_reducible assumption)|assumption)
         have q17:x3_1<(a0.size:Int):=of_decide_eq_true (by first|(with_reducible assumption)|assumption)
         have hx17:=bt_at a0 x3_1
         replace p17:=eq_true p17
         replace q17:=eq_true q17
         have p19:0≤(x3_1:Int):=of_decide_eq_true (by first|(with_reducible assumption)|assumption)
         have q19:x3_1<(a0.size:Int):=of_decide_eq_true (by first|(with_reducible assumption)|assumption)
         have hx19:=bt_at a0 x3_1
         replace p19:=eq_true p19
         replace q19:=eq_true q19
         have p21:0≤(x3_1:Int):=of_decide_eq_true (by first|(with_reducible assumption)|assumption)
         have q21:x3_1<(a0.size:Int):=of_decide_eq_true (by first|(with_reducible assumption)|assumption)
         have hx21:=bt_at a0 x3_1
         replace p21:=eq_true p21
         replace q21:=eq_true q21
         go_wp2_with (first|(go_at_call 83;(with_reducible refine (strings_IndexByte.calls (⟨#[44,58,61,123,125,40,41,91,93]⟩:ByteArray) (bt a0 x3_1) t430 _ A22.out).mono ?_);rintro e w' ⟨rfl,⟨nd,rfl⟩⟩))
         go_meet
         case rel=>exact ⟨_,(!(decide (t430≥0))),(by first|rfl|(simp;done)|(simp [*];done)),H',⟨by have:=HK1.out;first|omega|exact Nat.le_refl _⟩,by repeat (first|exact Drawn0.refl _|apply Drawn0.step)⟩
       ·rw [if_neg c18] at H
        have c18b0:decide (48≤(bt a0 x3_1))=false:=decide_eq_false c18
        clear c18
        replace H:=Option.bind_eq_some_iff.mp H
        obtain ⟨t431,A240,H⟩:=H
        replace H:(impl_TextValid.j1 k1 a0 x3_1 (!(decide (t431≥0))))=some r:=H
        have A24:=Aside0.mk A240
        clear A240
        have H':=Aside0.mk H
        clear H
        have p5:0≤(x3_1:Int):=of_decide_eq_true (by first|(with_reducible assumption)|assumption)
        have q5:x3_1<(a0.size:Int):=of_decide_eq_true (by first|(with_reducible assumption)|assumption)
        have hx5:=bt_at a0 x3_1
        replace p5:=eq_true p5
        replace q5:=eq_true q5
        have p17:0≤(x3_1:Int):=of_decide_eq_true (by first|(with_reducible assumption)|assumption)
        have q17:x3_1<(a0.size:Int):=of_decide_eq_true (by first|(with_reducible assumption)|assumption)
        have hx17:=bt_at a0 x3_1
        replace p17:=eq_true p17
        replace q17:=eq_true q17
        have p23:0≤(x3_1:Int):=of_decide_eq_true (by first|(with_reducible assumption)|assumption)
        have q23:x3_1<(a0.size:Int):=of_decide_eq_true (by first|(with_reducible assumption)|assumption)
        have hx23:=bt_at a0 x3_1
        replace p23:=eq_true p23
        replace q23:=eq_true q23
        go_wp2_with (first|(go_at_call 83;(with_reducible refine (strings_IndexByte.calls (⟨#[44,58,61,123,125,40,41,91,93]⟩:ByteArray) (bt a0 x3_1) t431 _ A24.out).mono ?_);rintro e w' ⟨rfl,⟨nd,rfl⟩⟩))
        go_meet
        case rel=>exact ⟨_,(!(decide (t431≥0))),(by first|rfl|(simp;done)|(simp [*];done)),H',⟨by have:=HK1.out;first|omega|exact Nat.le_refl _⟩,by repeat (first|exact Drawn0.refl _|apply Drawn0.step)⟩
     ·rw [if_neg c4] at H
      exact absurd H (by simp)
    case rest =>
     clear HC3
     try clear c1 p1 q1 hx1 c2 c2b0 p2 q2 hx2 c4 c4b0 p5 q5 hx5 c6 c6b0 p7 q7 hx7 c8 c8b0 p9 q9 hx9 c10 c10b0 p11 q11 hx11 c12 c12b0 p13 q13 hx13 p15 q15 hx15 p17 q17 hx17 c18 c18b0 p19 q19 hx19 c20 c20b0 p21 q21 hx21 p23 q23 hx23 p11 p13 p15 p17 p19 p21 p23 p5 p7 p9 q11 q13 q15 q17 q19 q21 q23 q5 q7 q9
     obtain ⟨kq,x39_2,rfl,HA,HJ2,⟨mc2,rfl⟩⟩:=hcut
     cases kq with
     | zero=>exact absurd HA.out (by simp [impl_TextValid.j1])
     | succ kj2 =>
      have H:=HA.out
      clear HA
      simp only [impl_TextValid.j1] at H
      by_cases c25:x39_2=true
      ·subst c25
       have H1:(some false)=some r:=by rw [if_pos rfl] at H;exact H
       clear H
       have H:=H1
       clear H1
       obtain rfl:=Option.some.inj H
       go_wp2
       go_ret
       exact ⟨by first|rfl|(simp;done)|(simp [*];done),by repeat (first|exact Drawn0.refl _|apply Drawn0.step)⟩
      ·replace c25:=Bool.eq_false_iff.mpr c25
       subst c25
       have H1:(impl_TextValid.l0 kj2 a0 (wrap64 (x3_1+1)))=some r:=by rw [if_neg (show ¬ (false=true) by decide)] at H;exact H
       clear H
       have H:=H1
       clear H1
       have H':=Aside0.mk H
       clear H
       go_wp2
       go_roundg kj2
       case measure=>have:=HK1.out;have:=HJ2.out;omega
       case rel=>exact ⟨(wrap64 (x3_1+1)),(by first|rfl|(simp;done)|(simp [*];done)),H',⟨by have:=HK1.out;have:=HJ2.out;omega⟩,by repeat (first|exact Drawn0.refl _|apply Drawn0.step)⟩
   ·rw [if_neg c2] at H
    have c2b0:decide (x3_1<(a0.size:Int))=false:=decide_eq_false c2
    clear c2
    by_cases c26:(a0.size:Int)≥1
    ·rw [if_pos c26] at H
     have c26b0:decide (1≤(a0.size:Int))=true:=decide_eq_true c26
     have c26b1:decide (1≤a0.size)=true:=decide_eq_true (by omega)
     clear c26
     obtain rfl:=Option.some.inj H
     go_wp2
     go_ret
     exact ⟨by first|rfl|(simp;done)|(simp [*];done),by repeat (first|exact Drawn0.refl _|apply Drawn0.step)⟩
    ·rw [if_neg c26] at H
     have c26b0:decide (1≤(a0.size:Int))=false:=decide_eq_false c26
     have c26b1:decide (1≤a0.size)=false:=decide_eq_false (by omega)
     clear c26
     obtain rfl:=Option.some.inj H
     go_wp2
     go_ret
     exact ⟨by first|rfl|(simp;done)|(simp [*];done),by repeat (first|exact Drawn0.refl _|apply Drawn0.step)⟩
end Go.Proofs.Ytdhdfmmefghijab.P
namespace Go.Proofs.Ytdhdfmmefghijab.P
open Go.RowKit Go.Proofs.YtdhdfmmefghijabW.PrintWords Go.Proofs.YtdhdfmmefghijabW.PrintLast Go.Proofs.YtdhdfmmefghijabW.PrintMore
attribute [local go_sem] max2_int min2_int max_two min_two max_three min_three max_four min_four
set_option linter.unusedVariables false
set_option linter.unusedSimpArgs false
def impl_rowBytes.l0:Nat→ByteArray→Int→Option (Bool)
 | 0,_,_=>none
 | k+1,x0,x3=>if x3<(x0.size:Int) then (if 0≤x3 then (if (bt x0 x3)=32 then (impl_rowBytes.l0 k x0 (wrap64 (x3+1))) else (if x3≤(wrap64 (x3+1)) then (if (wrap64 (x3+1))≤(x0.size:Int) then ((impl_TextValid.f k (x0.extract (x3:Int).toNat ((wrap64 (x3+1)):Int).toNat)).bind fun t432=>(if t432=true then (impl_rowBytes.l0 k x0 (wrap64 (x3+1))) else (some false))) else (none)) else (none))) else (none)) else (some true)
def impl_rowBytes.f (k:Nat) (a0:ByteArray):Option (Bool):=impl_rowBytes.l0 k a0 0
set_option maxHeartbeats 8000000 in
set_option maxRecDepth 100000 in
theorem impl_rowBytes.calls (k:Nat) (a0:ByteArray) (r:Bool) (w:World) (h:impl_rowBytes.f k a0=some r) :
  Calls Try.prog 45 #[.string a0] w fun e w'=>e=.returned (.bool r)∧Drawn0 w w':=by
 have H:(impl_rowBytes.l0 k a0 0)=some r:=h
 clear h
 have H':=Aside0.mk H
 clear H
 go_enter Try.func45,Try.ntmps45
 go_wp2
 go_loopg [3] k (fun kq v3 w'=>∃ (x3_1:Int),v3=.int .i64 x3_1∧Aside0 (impl_rowBytes.l0 kq a0 x3_1=some r)∧Aside0 (kq≤k)∧Drawn0 w w')
 case atStart=>exact ⟨(0),(by first|rfl|(simp;done)|(simp [*];done)),H',⟨Nat.le_refl _⟩,by repeat (first|exact Drawn0.refl _|apply Drawn0.step)⟩
 case round =>
  clear H'
  obtain ⟨x3_1,rfl,HA,HK1,⟨m1,rfl⟩⟩:=hrel
  cases gk with
  | zero=>exact absurd HA.out (by simp [impl_rowBytes.l0])
  | succ k1 =>
   have H:=HA.out
   clear HA
   simp only [impl_rowBytes.l0] at H
   by_cases c2:x3_1<(a0.size:Int)
   ·rw [if_pos c2] at H
    have c2b0:decide (x3_1<(a0.size:Int))=true:=decide_eq_true c2
    clear c2
    by_cases c3:0≤x3_1
    ·rw [if_pos c3] at H
     have c3b0:decide (0≤x3_1)=true:=decide_eq_true c3
     clear c3
     by_cases c5:(bt a0 x3_1)=32
     ·rw [if_pos c5] at H
      have c5b0:((bt a0 x3_1) == 32)=true:=beq_iff_eq.mpr c5
      have c5b1:((bt a0 x3_1) != 32)=false:=bne_eq_false_iff_eq.mpr c5
      clear c5
      have H':=Aside0.mk H
      clear H
      have p4:0≤(x3_1:Int):=of_decide_eq_true (by first|(with_reducible assumption)|assumption)
      have q4:x3_1<(a0.size:Int):=of_decide_eq_true (by first|(with_reducible assumption)|assumption)
      have hx4:=bt_at a0 x3_1
      replace p4:=eq_true p4
      replace q4:=eq_true q4
      go_wp2
      go_roundg k1
      case measure=>have:=HK1.out;omega
      case rel=>exact ⟨(wrap64 (x3_1+1)),(by first|rfl|(simp;done)|(simp [*];done)),H',⟨by have:=HK1.out;omega⟩,by repeat (first|exact Drawn0.refl _|apply Drawn0.step)⟩
     ·rw [if_neg c5] at H
      have c5b0:((bt a0 x3_1) == 32)=false:=beq_eq_false_iff_ne.mpr c5
      have c5b1:((bt a0 x3_1) != 32)=true:=bne_iff_ne.mpr c5
      have c6b0:=eq_true (of_decide_eq_true (by first|(with_reducible assumption)|assumption):0≤x3_1)
      by_cases c7:x3_1≤(wrap64 (x3_1+1))
      ·rw [if_pos c7] at H
       have c7b0:=eq_true c7
       have c7b1:decide (x3_1≤(wrap64 (x3_1+1)))=true:=decide_eq_true c7
       by_cases c8:(wrap64 (x3_1+1))≤(a0.size:Int)
       ·rw [if_pos c8] at H
        have c8b0:=eq_true c8
        have c8b1:decide ((wrap64 (x3_1+1))≤(a0.size:Int))=true:=decide_eq_true c8
        replace H:=Option.bind_eq_some_iff.mp H
        obtain ⟨t432,A90,H⟩:=H
        replace H:(if t432=true then (impl_rowBytes.l0 k1 a0 (wrap64 (x3_1+1))) else (some false))=some r:=H
        have A9:=Aside0.mk A90
        clear A90
        by_cases c10:t432=true
        ·subst c10
         have H1:(impl_rowBytes.l0 k1 a0 (wrap64 (x3_1+1)))=some r:=by rw [if_pos rfl] at H;exact H
         clear H
         have H:=H1
         clear H1
         have H':=Aside0.mk H
         clear H
         have p4:0≤(x3_1:Int):=of_decide_eq_true (by first|(with_reducible assumption)|assumption)
         have q4:x3_1<(a0.size:Int):=of_decide_eq_true (by first|(with_reducible assumption)|assumption)
         have hx4:=bt_at a0 x3_1
         replace p4:=eq_true p4
         replace q4:=eq_true q4
         go_wp2_with (first|(go_at_call 68;(with_reducible refine (impl_TextValid.calls k1 (a0.extract (x3_1:Int).toNat ((wrap64 (x3_1+1)):Int).toNat) true _ A9.out).mono ?_);rintro e w' ⟨rfl,⟨nd,rfl⟩⟩))
         go_roundg k1
         case measure=>have:=HK1.out;omega
         case rel=>exact ⟨(wrap64 (x3_1+1)),(by first|rfl|(simp;done)|(simp [*];done)),H',⟨by have:=HK1.out;omega⟩,by repeat (first|exact Drawn0.refl _|apply Drawn0.step)⟩
        ·replace c10:=Bool.eq_false_iff.mpr c10
         subst c10
         have H1:(some false)=some r:=by rw [if_neg (show ¬ (false=true) by decide)] at H;exact H
         clear H
         have H:=H1
         clear H1
         obtain rfl:=Option.some.inj H
         have p4:0≤(x3_1:Int):=of_decide_eq_true (by first|(with_reducible assumption)|assumption)
         have q4:x3_1<(a0.size:Int):=of_decide_eq_true (by first|(with_reducible assumption)|assumption)
         have hx4:=bt_at a0 x3_1
         replace p4:=eq_true p4
         replace q4:=eq_true q4
         go_wp2_with (first|(go_at_call 68;(with_reducible refine (impl_TextValid.calls k1 (a0.extract (x3_1:Int).toNat ((wrap64 (x3_1+1)):Int).toNat) false _ A9.out).mono ?_);rintro e w' ⟨rfl,⟨nd,rfl⟩⟩))
         go_ret
         exact ⟨by first|rfl|(simp;done)|(simp [*];done),by repeat (first|exact Drawn0.refl _|apply Drawn0.step)⟩
       ·rw [if_neg c8] at H
        exact absurd H (by simp)
      ·rw [if_neg c7] at H
       exact absurd H (by simp)
    ·rw [if_neg c3] at H
     exact absurd H (by simp)
   ·rw [if_neg c2] at H
    have c2b0:decide (x3_1<(a0.size:Int))=false:=decide_eq_false c2
    clear c2
    obtain rfl:=Option.some.inj H
    go_wp2
    go_ret
    exact ⟨by first|rfl|(simp;done)|(simp [*];done),by repeat (first|exact Drawn0.refl _|apply Drawn0.step)⟩
end Go.Proofs.Ytdhdfmmefghijab.P
namespace Go.Proofs.Ytdhdfmmefghijab.P
open Go.RowKit Go.Proofs.YtdhdfmmefghijabW.PrintWords Go.Proofs.YtdhdfmmefghijabW.PrintLast Go.Proofs.YtdhdfmmefghijabW.PrintMore
attribute [local go_sem] max2_int min2_int max_two min_two max_three min_three max_four min_four
set_option linter.unusedVariables false
set_option linter.unusedSimpArgs false
mutual
def impl_LayoutValid.j0:Nat→List (SRow)→Bool→Option (Bool)
 | 0,_,_=>none
 | k+1,x0,x19=>if x19=true then (some false) else (impl_LayoutValid.l0 k x0 (x0.length:Int) 0)
def impl_LayoutValid.l0:Nat→List (SRow)→Int→Int→Option (Bool)
 | 0,_,_,_=>none
 | k+1,x20,x21,x22=>if x22<x21 then (if 0≤x22 then (if x22<(x20.length:Int) then (if ((rd_TRow x20 x22).f0)<0 then (impl_LayoutValid.j2 k x20 x21 x22 true) else (if ((rd_TRow x20 x22).f0)>400 then (impl_LayoutValid.j2 k x20 x21 x22 true) else ((impl_rowBytes.f k ((rd_TRow x20 x22).f1)).bind fun t436=>(if t436=true then (impl_LayoutValid.j2 k x20 x21 x22 (decide ((((rd_TRow x20 x22).f1).size:Int)≥2000))) else (impl_LayoutValid.j2 k x20 x21 x22 true))))) else (none)) else (none)) else (some true)
def impl_LayoutValid.j2:Nat→List (SRow)→Int→Int→Bool→Option (Bool)
 | 0,_,_,_,_=>none
 | k+1,x20,x21,x22,x45=>if x45=true then (some false) else (impl_LayoutValid.l0 k x20 x21 (wrap64 (x22+1)))
end
def impl_LayoutValid.f (k:Nat) (l0:List (SRow)):Option (Bool):=if (l0.length:Int)<1 then (impl_LayoutValid.j0 k l0 true) else (if (l0.length:Int)>200 then (impl_LayoutValid.j0 k l0 true) else (if 0<(l0.length:Int) then (impl_LayoutValid.j0 k l0 (((rd_TRow l0 0).f0) != 0)) else (none)))
set_option maxHeartbeats 8000000 in
set_option maxRecDepth 100000 in
theorem impl_LayoutValid.calls (k:Nat) (A0:Option Addr) (c0:Nat) (l0:List (SRow)) (r:Bool) (w:World) (hr0:Kd.C k30 w A0 l0.length l0) (hc0:l0.length≤c0) (h:impl_LayoutValid.f k l0=some r) :
  Calls Try.prog 19 #[.slice A0 l0.length c0] w fun e w'=>e=.returned (.bool r)∧Below w.heap.size w w':=by
 have hu30:=Try.underlying30
 have HR0:=Aside0.mk hr0
 have HC0:=Aside0.mk hc0
 clear hr0 hc0
 have HB:=Aside0.mk (Below.refl w.heap.size w)
 have H:(if (l0.length:Int)<1 then (impl_LayoutValid.j0 k l0 true) else (if (l0.length:Int)>200 then (impl_LayoutValid.j0 k l0 true) else (if 0<(l0.length:Int) then (impl_LayoutValid.j0 k l0 (((rd_TRow l0 0).f0) != 0)) else (none))))=some r:=h
 clear h
 have HC2:=Aside0.mk H
 clear H
 go_enter Try.func19,Try.ntmps19
 go_upto_region 1 with (fail)
 go_cut [19] (fun v19 wc=>∃ (kq:Nat) (x19_1:Bool),v19=.bool x19_1∧Aside0 (impl_LayoutValid.j0 kq l0 x19_1=some r)∧Aside0 (kq≤k)∧Aside0 (Below w.heap.size w wc))
 case first =>
  have H:=HC2.out
  clear HC2
  by_cases c3:(l0.length:Int)<1
  ·rw [if_pos c3] at H
   have c3b0:decide ((l0.length:Int)<1)=true:=decide_eq_true c3
   have c3b1:decide (l0.length<1)=true:=decide_eq_true (by omega)
   clear c3
   (first|rw [c3b0]|(simp only [i64_w,i32_w];rw [c3b0])|skip)
   have H':=Aside0.mk H
   clear H
   go_wp2
   go_meet
   case rel=>exact ⟨_,(true),(by first|rfl|(simp;done)|(simp [*];done)),H',⟨by first|omega|exact Nat.le_refl _⟩,⟨gB HB⟩⟩
  ·rw [if_neg c3] at H
   have c3b0:decide ((l0.length:Int)<1)=false:=decide_eq_false c3
   have c3b1:decide (l0.length<1)=false:=decide_eq_false (by omega)
   clear c3
   (first|rw [c3b0]|(simp only [i64_w,i32_w];rw [c3b0])|skip)
   by_cases c4:(l0.length:Int)>200
   ·rw [if_pos c4] at H
    have c4b0:decide (200<(l0.length:Int))=true:=decide_eq_true c4
    have c4b1:decide (200<l0.length)=true:=decide_eq_true (by omega)
    clear c4
    have H':=Aside0.mk H
    clear H
    go_wp2
    go_meet
    case rel=>exact ⟨_,(true),(by first|rfl|(simp;done)|(simp [*];done)),H',⟨by first|omega|exact Nat.le_refl _⟩,⟨gB HB⟩⟩
   ·rw [if_neg c4] at H
    have c4b0:decide (200<(l0.length:Int))=false:=decide_eq_false c4
    have c4b1:decide (200<l0.length)=false:=decide_eq_false (by omega)
    clear c4
    by_cases c5:0<(l0.length:Int)
    ·rw [if_pos c5] at H
     have c5b0:decide (0<(l0.length:Int))=true:=decide_eq_true c5
     have c5b1:decide (0<l0.length)=true:=decide_eq_true (by omega)
     clear c5
     have H':=Aside0.mk H
     clear H
     have p433:0≤(0:Int):=(by omega)
     have q433:0<(l0.length:Int):=of_decide_eq_true (by first|(with_reducible assumption)|assumption)
     obtain ⟨ad433,e433,hx433_0,hx433_1⟩:=at_TRow HR0.out 0 p433 q433
     cases e433
     have qi433:(0<l0.length)=True:=eq_true (by omega)
     (try rw [show ((0:Int)).toNat=0 from rfl] at hx433_0)
     (try rw [show 0 * 2=0 from rfl] at hx433_0)
     (try rw [Addr.add_zero'] at hx433_0)
     (try rw [show ((0:Int)).toNat=0 from rfl] at hx433_1)
     (try rw [show 0 * 2=0 from rfl] at hx433_1)
     (try rw [Addr.add_zero'] at hx433_1)
     replace hx433_0:=(HB.out.cell (World.block_lt_of_cell? w _ hx433_0)).trans hx433_0
     replace hx433_1:=(HB.out.cell (World.block_lt_of_cell? w _ hx433_1)).trans hx433_1
     replace p433:=eq_true p433
     replace q433:=eq_true q433
     go_wp2
     go_meet
     case rel=>exact ⟨_,((((rd_TRow l0 0).f0) != 0)),(by first|rfl|(simp;done)|(simp [*];done)),H',⟨by first|omega|exact Nat.le_refl _⟩,⟨gB HB⟩⟩
    ·rw [if_neg c5] at H
     exact absurd H (by simp)
 case rest =>
  clear HC2
  try clear c1 p2 c3 c3b0 c3b1 c4 c4b0 c4b1 p4 q4 hx4 qi4 c5 c5b0 c5b1 hx433_0 hx433_1 p433 q433
  obtain ⟨kq,x19_1,rfl,HA,HJ1,HB⟩:=hcut
  cases kq with
  | zero=>exact absurd HA.out (by simp [impl_LayoutValid.j0])
  | succ kj1 =>
   have H:=HA.out
   clear HA
   simp only [impl_LayoutValid.j0] at H
   by_cases c6:x19_1=true
   ·subst c6
    have H1:(some false)=some r:=by rw [if_pos rfl] at H;exact H
    clear H
    have H:=H1
    clear H1
    obtain rfl:=Option.some.inj H
    go_wp2
    go_ret
    exact ⟨by first|rfl|(simp [errW_none,errW_some] <;> rfl)|(simp [*,errW_none,errW_some] <;> rfl),gB HB⟩
   ·replace c6:=Bool.eq_false_iff.mpr c6
    subst c6
    have H1:(impl_LayoutValid.l0 kj1 l0 (l0.length:Int) 0)=some r:=by rw [if_neg (show ¬ (false=true) by decide)] at H;exact H
    clear H
    have H:=H1
    clear H1
    have H':=Aside0.mk H
    clear H
    go_wp2
    go_loopg [22] kj1 (fun kq v22 w'=>∃ (x22_2:Int),v22=.int .i64 x22_2∧Aside0 (impl_LayoutValid.l0 kq l0 (l0.length:Int) x22_2=some r)∧Aside0 (kq≤kj1)∧Aside0 (Below w.heap.size w w'))
    case atStart=>exact ⟨(0),(by first|rfl|(simp;done)|(simp [*];done)),H',⟨Nat.le_refl _⟩,⟨gB HB⟩⟩
    case round =>
     clear H'
     try clear c1 p2 c3 c3b0 c3b1 c4 c4b0 c4b1 p4 q4 hx4 qi4 c5 c5b0 c5b1 c6 hx433_0 hx433_1 p2 p4 p433 q4 q433
     (try clear HB)
     obtain ⟨x22_2,rfl,HA,HK2,HB⟩:=hrel
     cases gk with
     | zero=>exact absurd HA.out (by simp [impl_LayoutValid.l0])
     | succ k2 =>
      have H:=HA.out
      clear HA
      simp only [impl_LayoutValid.l0] at H
      by_cases c7:x22_2<(l0.length:Int)
      ·rw [if_pos c7] at H
       have c7b0:decide (x22_2<(l0.length:Int))=true:=decide_eq_true c7
       clear c7
       by_cases c8:0≤x22_2
       ·rw [if_pos c8] at H
        have c8b0:decide (0≤x22_2)=true:=decide_eq_true c8
        clear c8
        by_cases c9:x22_2<(l0.length:Int)
        ·rw [if_pos c9] at H
         have c9b0:decide (x22_2<(l0.length:Int))=true:=decide_eq_true c9
         clear c9
         have HC10:=Aside0.mk H
         clear H
         have p434:0≤(x22_2:Int):=of_decide_eq_true (by first|(with_reducible assumption)|assumption)
         have q434:x22_2<(l0.length:Int):=of_decide_eq_true (by first|(with_reducible assumption)|assumption)
         obtain ⟨ad434,e434,hx434_0,hx434_1⟩:=at_TRow HR0.out x22_2 p434 q434
         cases e434
         replace hx434_0:=(HB.out.cell (World.block_lt_of_cell? w _ hx434_0)).trans hx434_0
         replace hx434_1:=(HB.out.cell (World.block_lt_of_cell? w _ hx434_1)).trans hx434_1
         replace p434:=eq_true p434
         replace q434:=eq_true q434
         go_upto_region 6 with (first|((with_reducible refine gate_dst (N:=4) rfl ?_);(try (refine gate_guard (by rfl) ?_;dsimp only));refine box_event ?hg (N:=4) ?hd (cs:=#[.int .i64 0,.string (⟨#[]⟩:ByteArray)]) (t:=30) ?hr ?_;(case hd=>rfl);(case hg=>rfl);(case hr=>first|(go_simp;done)|(go_simp;rfl));intro gb435 hg w11 hbox hb;have n0_:=Aside0.mk (below_step (gB HB) hb);have n1_:=Aside0.mk (hbox);have n2_:=Aside0.mk ((by rw [hg];exact (below_size (gB HB)):w.heap.size≤gb435));have n3_:=Aside0.mk ((by rw [hg];exact (below_size (gB HB)):w.heap.size≤gb435));clear HB;have HB:=n0_;have BK435:=n1_;have GW435:=n2_;have GE435:=n3_;clear n0_ n1_ n2_ n3_;clear hb hbox hg;have hcz12_0:w11.cell? ⟨gb435,0,none⟩=some (.int .i64 0):=(blk_cell BK435.out 0).trans rfl;have hcz12_1:w11.cell? ⟨gb435,1,none⟩=some (.string (⟨#[]⟩:ByteArray)):=(blk_cell BK435.out 1).trans rfl;have hfz12_0:=blk_frozen BK435.out 0;have hfz12_1:=blk_frozen BK435.out 1))
         (try simp only [Act.put,List.setIfInBounds_toArray,List.set_cons_zero,List.set_cons_succ])
         go_cut [45] (fun v45 wc=>∃ (kq:Nat) (x45_9:Bool),v45=.bool x45_9∧Aside0 (impl_LayoutValid.j2 kq l0 (l0.length:Int) x22_2 x45_9=some r)∧Aside0 (kq≤k2)∧Aside0 (wc.heap[gb435]?=some (.cells #[.int .i64 ((rd_TRow l0 x22_2).f0),.string ((rd_TRow l0 x22_2).f1)] 30 (0,0)))∧Aside0 (Below w.heap.size w wc))
         case first =>
          have H:=HC10.out
          clear HC10
          by_cases c13:((rd_TRow l0 x22_2).f0)<0
          ·rw [if_pos c13] at H
           have c13b0:decide (((rd_TRow l0 x22_2).f0)<0)=true:=decide_eq_true c13
           clear c13
           (first|rw [c13b0]|(simp only [i64_w,i32_w];rw [c13b0])|skip)
           have H':=Aside0.mk H
           clear H
           have hcz14_0:w11.cell? ⟨gb435,0,none⟩=some (.int .i64 0):=(blk_cell BK435.out 0).trans rfl
           have hcz14_1:w11.cell? ⟨gb435,1,none⟩=some (.string (⟨#[]⟩:ByteArray)):=(blk_cell BK435.out 1).trans rfl
           have hfz14_0:=blk_frozen BK435.out 0
           have hfz14_1:=blk_frozen BK435.out 1
           go_wp2
           go_meet
           case rel=>exact ⟨_,(true),(by first|rfl|(simp;done)|(simp [*];done)),H',⟨by have:=HJ1.out;have:=HK2.out;first|omega|exact Nat.le_refl _⟩,⟨by (with_reducible repeat (first|refine blk_drewN ?_ _|refine blk_drew ?_|refine blk_alloc ?_ _));refine blk_put (cs:=#[.int .i64 ((rd_TRow l0 x22_2).f0),.string (⟨#[]⟩:ByteArray)]) ?_ 1 _ rfl;(with_reducible repeat (first|refine blk_drewN ?_ _|refine blk_drew ?_|refine blk_alloc ?_ _));refine blk_put (cs:=#[.int .i64 0,.string (⟨#[]⟩:ByteArray)]) ?_ 0 _ rfl;(with_reducible repeat (first|refine blk_drewN ?_ _|refine blk_drew ?_|refine blk_alloc ?_ _));exact BK435.out⟩,⟨by repeat (first|(with_reducible first|exact HB.out|apply below_alloc|apply pw_below_drewN|apply below_drew1|refine below_set ?_ GE435.out)|exact HB.out)⟩⟩
          ·rw [if_neg c13] at H
           have c13b0:decide (((rd_TRow l0 x22_2).f0)<0)=false:=decide_eq_false c13
           clear c13
           (first|rw [c13b0]|(simp only [i64_w,i32_w];rw [c13b0])|skip)
           by_cases c15:((rd_TRow l0 x22_2).f0)>400
           ·rw [if_pos c15] at H
            have c15b0:decide (400<((rd_TRow l0 x22_2).f0))=true:=decide_eq_true c15
            clear c15
            have H':=Aside0.mk H
            clear H
            have hcz16_0:w11.cell? ⟨gb435,0,none⟩=some (.int .i64 0):=(blk_cell BK435.out 0).trans rfl
            have hcz16_1:w11.cell? ⟨gb435,1,none⟩=some (.string (⟨#[]⟩:ByteArray)):=(blk_cell BK435.out 1).trans rfl
            have hfz16_0:=blk_frozen BK435.out 0
            have hfz16_1:=blk_frozen BK435.out 1
            go_wp2
            go_meet
            case rel=>exact ⟨_,(true),(by first|rfl|(simp;done)|(simp [*];done)),H',⟨by have:=HJ1.out;have:=HK2.out;first|omega|exact Nat.le_refl _⟩,⟨by (with_reducible repeat (first|refine blk_drewN ?_ _|refine blk_drew ?_|refine blk_alloc ?_ _));refine blk_put (cs:=#[.int .i64 ((rd_TRow l0 x22_2).f0),.string (⟨#[]⟩:ByteArray)]) ?_ 1 _ rfl;(with_reducible repeat (first|refine blk_drewN ?_ _|refine blk_drew ?_|refine blk_alloc ?_ _));refine blk_put (cs:=#[.int .i64 0,.string (⟨#[]⟩:ByteArray)]) ?_ 0 _ rfl;(with_reducible repeat (first|refine blk_drewN ?_ _|refine blk_drew ?_|refine blk_alloc ?_ _));exact BK435.out⟩,⟨by repeat (first|(with_reducible first|exact HB.out|apply below_alloc|apply pw_below_drewN|apply below_drew1|refine below_set ?_ GE435.out)|exact HB.out)⟩⟩
           ·rw [if_neg c15] at H
            have c15b0:decide (400<((rd_TRow l0 x22_2).f0))=false:=decide_eq_false c15
            clear c15
            replace H:=Option.bind_eq_some_iff.mp H
            obtain ⟨t436,A170,H⟩:=H
            replace H:(if t436=true then (impl_LayoutValid.j2 k2 l0 (l0.length:Int) x22_2 (decide ((((rd_TRow l0 x22_2).f1).size:Int)≥2000))) else (impl_LayoutValid.j2 k2 l0 (l0.length:Int) x22_2 true))=some r:=H
            have A17:=Aside0.mk A170
            clear A170
            by_cases c18:t436=true
            ·subst c18
             have H1:(impl_LayoutValid.j2 k2 l0 (l0.length:Int) x22_2 (decide ((((rd_TRow l0 x22_2).f1).size:Int)≥2000)))=some r:=by rw [if_pos rfl] at H;exact H
             clear H
             have H:=H1
             clear H1
             have H':=Aside0.mk H
             clear H
             have hcz19_0:w11.cell? ⟨gb435,0,none⟩=some (.int .i64 0):=(blk_cell BK435.out 0).trans rfl
             have hcz19_1:w11.cell? ⟨gb435,1,none⟩=some (.string (⟨#[]⟩:ByteArray)):=(blk_cell BK435.out 1).trans rfl
             have hfz19_0:=blk_frozen BK435.out 0
             have hfz19_1:=blk_frozen BK435.out 1
             go_wp2_with (first|(go_at_call 45;(with_reducible refine (impl_rowBytes.calls k2 ((rd_TRow l0 x22_2).f1) true _ A17.out).mono ?_);rintro e w' ⟨rfl,⟨nd,rfl⟩⟩))
             go_meet
             case rel=>exact ⟨_,(decide ((((rd_TRow l0 x22_2).f1).size:Int)≥2000)),(by first|rfl|(simp;done)|(simp [*];done)),H',⟨by have:=HJ1.out;have:=HK2.out;first|omega|exact Nat.le_refl _⟩,⟨by (with_reducible repeat (first|refine blk_drewN ?_ _|refine blk_drew ?_|refine blk_alloc ?_ _));refine blk_put (cs:=#[.int .i64 ((rd_TRow l0 x22_2).f0),.string (⟨#[]⟩:ByteArray)]) ?_ 1 _ rfl;(with_reducible repeat (first|refine blk_drewN ?_ _|refine blk_drew ?_|refine blk_alloc ?_ _));refine blk_put (cs:=#[.int .i64 0,.string (⟨#[]⟩:ByteArray)]) ?_ 0 _ rfl;(with_reducible repeat (first|refine blk_drewN ?_ _|refine blk_drew ?_|refine blk_alloc ?_ _));exact BK435.out⟩,⟨by repeat (first|(with_reducible first|exact HB.out|apply below_alloc|apply pw_below_drewN|apply below_drew1|refine below_set ?_ GE435.out)|exact HB.out)⟩⟩
            ·replace c18:=Bool.eq_false_iff.mpr c18
             subst c18
             have H1:(impl_LayoutValid.j2 k2 l0 (l0.length:Int) x22_2 true)=some r:=by rw [if_neg (show ¬ (false=true) by decide)] at H;exact H
             clear H
             have H:=H1
             clear H1
             have H':=Aside0.mk H
             clear H
             have hcz20_0:w11.cell? ⟨gb435,0,none⟩=some (.int .i64 0):=(blk_cell BK435.out 0).trans rfl
             have hcz20_1:w11.cell? ⟨gb435,1,none⟩=some (.string (⟨#[]⟩:ByteArray)):=(blk_cell BK435.out 1).trans rfl
             have hfz20_0:=blk_frozen BK435.out 0
             have hfz20_1:=blk_frozen BK435.out 1
             go_wp2_with (first|(go_at_call 45;(with_reducible refine (impl_rowBytes.calls k2 ((rd_TRow l0 x22_2).f1) false _ A17.out).mono ?_);rintro e w' ⟨rfl,⟨nd,rfl⟩⟩))
             go_meet
             case rel=>exact ⟨_,(true),(by first|rfl|(simp;done)|(simp [*];done)),H',⟨by have:=HJ1.out;have:=HK2.out;first|omega|exact Nat.le_refl _⟩,⟨by (with_reducible repeat (first|refine blk_drewN ?_ _|refine blk_drew ?_|refine blk_alloc ?_ _));refine blk_put (cs:=#[.int .i64 ((rd_TRow l0 x22_2).f0),.string (⟨#[]⟩:ByteArray)]) ?_ 1 _ rfl;(with_reducible repeat (first|refine blk_drewN ?_ _|refine blk_drew ?_|refine blk_alloc ?_ _));refine blk_put (cs:=#[.int .i64 0,.string (⟨#[]⟩:ByteArray)]) ?_ 0 _ rfl;(with_reducible repeat (first|refine blk_drewN ?_ _|refine blk_drew ?_|refine blk_alloc ?_ _));exact BK435.out⟩,⟨by repeat (first|(with_reducible first|exact HB.out|apply below_alloc|apply pw_below_drewN|apply below_drew1|refine below_set ?_ GE435.out)|exact HB.out)⟩⟩
         case rest =>
          clear HC10
          try clear c1 p2 c3 c3b0 c3b1 c4 c4b0 c4b1 p4 q4 hx4 qi4 c5 c5b0 c5b1 c6 c7 c7b0 c8 c8b0 c9 c9b0 c13 c13b0 c15 c15b0 c18 c19 hcz12_0 hcz12_1 hcz14_0 hcz14_1 hcz16_0 hcz16_1 hcz19_0 hcz19_1 hcz20_0 hcz20_1 hfz12_0 hfz12_1 hfz14_0 hfz14_1 hfz16_0 hfz16_1 hfz19_0 hfz19_1 hfz20_0 hfz20_1 hx433_0 hx433_1 hx434_0 hx434_1 p2 p4 p433 p434 q4 q433 q434
          obtain ⟨kq,x45_9,rfl,HA,HJ9,BK435,HB⟩:=hcut
          cases kq with
          | zero=>exact absurd HA.out (by simp [impl_LayoutValid.j2])
          | succ kj9 =>
           have H:=HA.out
           clear HA
           simp only [impl_LayoutValid.j2] at H
           by_cases c21:x45_9=true
           ·subst c21
            have H1:(some false)=some r:=by rw [if_pos rfl] at H;exact H
            clear H
            have H:=H1
            clear H1
            obtain rfl:=Option.some.inj H
            go_wp2
            go_ret
            exact ⟨by first|rfl|(simp [errW_none,errW_some] <;> rfl)|(simp [*,errW_none,errW_some] <;> rfl),by repeat (first|(with_reducible first|exact HB.out|apply below_alloc|apply pw_below_drewN|apply below_drew1|refine below_set ?_ GE435.out)|exact HB.out)⟩
           ·replace c21:=Bool.eq_false_iff.mpr c21
            subst c21
            have H1:(impl_LayoutValid.l0 kj9 l0 (l0.length:Int) (wrap64 (x22_2+1)))=some r:=by rw [if_neg (show ¬ (false=true) by decide)] at H;exact H
            clear H
            have H:=H1
            clear H1
            have H':=Aside0.mk H
            clear H
            go_wp2
            go_roundg kj9
            case measure=>have:=HJ1.out;have:=HK2.out;have:=HJ9.out;omega
            case rel=>exact ⟨(wrap64 (x22_2+1)),(by first|rfl|(simp;done)|(simp [*];done)),H',⟨by have:=HJ1.out;have:=HK2.out;have:=HJ9.out;omega⟩,⟨by repeat (first|(with_reducible first|exact HB.out|apply below_alloc|apply pw_below_drewN|apply below_drew1|refine below_set ?_ GE435.out)|exact HB.out)⟩⟩
        ·rw [if_neg c9] at H
         exact absurd H (by simp)
       ·rw [if_neg c8] at H
        exact absurd H (by simp)
      ·rw [if_neg c7] at H
       have c7b0:decide (x22_2<(l0.length:Int))=false:=decide_eq_false c7
       clear c7
       obtain rfl:=Option.some.inj H
       go_wp2
       go_ret
       exact ⟨by first|rfl|(simp [errW_none,errW_some] <;> rfl)|(simp [*,errW_none,errW_some] <;> rfl),gB HB⟩
end Go.Proofs.Ytdhdfmmefghijab.P
namespace Go.Proofs.Ytdhdfmmefghijab.P
open Go.RowKit Go.Proofs.YtdhdfmmefghijabW.PrintWords Go.Proofs.YtdhdfmmefghijabW.PrintLast Go.Proofs.YtdhdfmmefghijabW.PrintMore
attribute [local go_sem] max2_int min2_int max_two min_two max_three min_three max_four min_four
set_option linter.unusedVariables false
set_option linter.unusedSimpArgs false
def slices_Clone_Llimpl_Row.f (l0:List (SRow)):Option ((List (SRow))):=if l0.length<5864062014805 then some l0 else none
set_option maxHeartbeats 8000000 in
set_option maxRecDepth 100000 in
theorem slices_Clone_Llimpl_Row.calls (A0:Option Addr) (c0:Nat) (l0:List (SRow)) (r:List (SRow)) (w:World) (hr0:Kd.C k30 w A0 l0.length l0) (hc0:l0.length≤c0) (h:slices_Clone_Llimpl_Row.f l0=some r) :
  Calls Try.prog 67 #[.slice A0 l0.length c0] w fun e w'=>∃ v0_:Value,e=.returned (v0_)∧Kd.R k30 30 w' w.heap.size (fun _=>True) v0_ r∧Below w.heap.size w w':=by
 unfold slices_Clone_Llimpl_Row.f at h
 by_cases c2:l0.length<5864062014805
 case neg=>rw [if_neg c2] at h;cases h
 rw [if_pos c2] at h
 obtain rfl:=Option.some.inj h
 clear h
 have hq:=fun (W:World) (a:Option Addr) (n c:Nat)=>Lib.run_eql_slice_nil (P:=Try.prog) W 23 30 a n c 0 0 Try.underlying23
 cases A0 with
 | none =>
  have hl:l0.length=0:=by
   rcases Nat.eq_zero_or_pos l0.length with h|h
   ·exact h
   ·obtain ⟨ad,he,_⟩:=hr0.2.2 h;cases he
  obtain rfl:=List.length_eq_zero_iff.1 hl
  clear hr0 hc0 hl c2
  go_enter Try.func67,Try.ntmps67
  go_wp2
  go_ret
  exact ⟨_,rfl,Kd.R_nil _ _ _ _ _,Below.refl _ _⟩
 | some ad0 =>
 have HR0:=Aside0.mk hr0
 have HC0:=Aside0.mk hc0
 clear hr0 hc0
 have HB:=Aside0.mk (Below.refl w.heap.size w)
 obtain ⟨y528,hy528⟩:∃ y_:List (SRow),y_=(([]:List (SRow))):=⟨_,rfl⟩
 have LMc2:Aside0 (y528.length+l0.length<5864062014805):=⟨by rw [hy528];simpa using c2⟩
 have Ny528:=Aside0.mk hy528
 clear hy528
 clear c2
 obtain ⟨y531,hy531⟩:∃ y_:List (SRow),y_=(y528++l0):=⟨_,rfl⟩
 have Ny531:=Aside0.mk hy531
 have Nl:Aside0 (l0=y531):=⟨by rw [hy531,Ny528.out];simp⟩
 clear hy531
 go_enter Try.func67,Try.ntmps67
 go_wp2_with (first|((with_reducible refine gate_dst (N:=5) rfl ?_);refine Kd.R_lit k30 _ 30 ?hg (N:=5) ?hd (xs:=([]:List (SRow))) (inner:=[]) (ok:=fun _=>True) (okp:=fun _=>True) ?hr ?hp (fun _ hk=>hk) trivial (Below.refl _ _) (Nat.le_refl _) (by simp) ?_;(case hd=>rfl);(case hg=>rfl);(case hr=>first|(go_simp;done)|(go_simp;rfl));(case hp=>exact (Reps.none _ _));intro v529 w3 ho4 hb hg_ hnew_;clear hg_ hnew_;(first|rw [← Ny528.out] at ho4|(simp only [Int.reduceToNat] at ho4;rw [← Ny528.out] at ho4));have n0_:=Aside0.mk (Kd.R_lower ho4 (below_size (gB HB)));have n1_:=Aside0.mk (below_step (gB HB) hb);clear HB;have HO530:=n0_;have HB:=n1_;clear n0_ n1_;clear hb ho4)|((with_reducible refine gate_builtin (b:=.append) (xs:=#[.tmp 5,.tmp 6]) rfl ?_);at_builtin;refine Kd.R_append_rows k30 (w0:=w) w.heap.size rfl (.tmp 5) (.tmp 6) 23 30 (.agg #[(.int .i64 0),(.string ⟨#[]⟩)]) 24 rfl Try.underlying23 (by kernel_rfl) rfl (by decide) (by omega) v529 y528 l0 _ _ _ (fun _=>True) (fun _=>False) rfl rfl ?aO ?aR (fun _ _ h=>h) (fun _ h=>h.elim) ?aF ?aB ?aS ?aL ?_;(case aR=>exact gC (Kd.C_below HR0.out HB.out));(case aB=>exact (gB HB));(case aF=>exact (fun _ _=>trivial));(case aO=>exact (gR HO530));(case aS=>exact (below_size (gB HB)));(case aL=>have:=LMc2.out;omega);intro v532 w5 ho hb hg hat;rw [← Ny531.out] at ho;have n0_:=Aside0.mk (hb);have n1_:=Aside0.mk (ho);clear HB;clear HO530;have HB:=n0_;have HO533:=n1_;clear n0_ n1_;clear ho hb hg hat))
 go_ret
 exact ⟨_,rfl,by rw [Nl.out];exact HO533.out,HB.out⟩
end Go.Proofs.Ytdhdfmmefghijab.P
namespace Go.Proofs.Ytdhdfmmefghijab.P
open Go.RowKit Go.Proofs.YtdhdfmmefghijabW.PrintWords Go.Proofs.YtdhdfmmefghijabW.PrintLast Go.Proofs.YtdhdfmmefghijabW.PrintMore
attribute [local go_sem] max2_int min2_int max_two min_two max_three min_three max_four min_four
set_option linter.unusedVariables false
set_option linter.unusedSimpArgs false
def impl_catRows.f (l0:List (SRow)) (l1:List (SRow)):Option ((List (SRow))):=(slices_Clone_Llimpl_Row.f l0).bind fun t437=>(if 1≤(l1.length:Int) then ((some (l1.drop 1:List (SRow))).bind fun y440=>(if t437.length+y440.length<5864062014805 then ((some (t437++y440:List (SRow))).bind fun y444=>(if 0≤(wrap64 ((l0.length:Int) - 1)) then (if (wrap64 ((l0.length:Int) - 1))<(y444.length:Int) then (if 0<(l1.length:Int) then (if ((rd_TRow y444 (wrap64 ((l0.length:Int) - 1))).f1).size+((rd_TRow l1 0).f1).size≤9223372036854775807 then (some (y444.set ((wrap64 ((l0.length:Int) - 1)):Int).toNat (⟨(rd_TRow y444 (wrap64 ((l0.length:Int) - 1))).f0,((rd_TRow y444 (wrap64 ((l0.length:Int) - 1))).f1)++((rd_TRow l1 0).f1)⟩:SRow))) else (none)) else (none)) else (none)) else (none))) else (none))) else (none))
def impl_catRows.T2:Bool×List (List Nat×List Nat):=(true,[([],[]),([],[]),([1],[1]),([2],[2]),([0,3],[0,3]),([4],[4]),([5],[5]),([],[]),([7],[7]),([8],[8]),([9],[9]),([6,10],[6,10]),([0,3,0,1,2,3,4,5,6,7,8,9,10,11],[0,3]),([12,0,1,2,3,4,5,6,7,8,9,10,11],[12]),([13,11,0,1,2,3,4,5,6,7,8,9,10,11],[11,13])])
def impl_catRows.B2:List Nat:=[0,0,2,6,15,31,63,0,128,384,896,2047,4095,8191,16383]
theorem impl_catRows.tab2:rtab .any (opsOf Try.f42 2)=impl_catRows.T2:=by kernel_rfl
theorem impl_catRows.bits2:waitsOk impl_catRows.T2.2 impl_catRows.B2=true:=by kernel_rfl
set_option maxHeartbeats 8000000 in
set_option maxRecDepth 100000 in
theorem impl_catRows.calls (A0:Option Addr) (c0:Nat) (l0:List (SRow)) (A1:Option Addr) (c1:Nat) (l1:List (SRow)) (r:List (SRow)) (w:World) (hr0:Kd.C k30 w A0 l0.length l0) (hc0:l0.length≤c0) (hr1:Kd.C k30 w A1 l1.length l1) (hc1:l1.length≤c1) (h:impl_catRows.f l0 l1=some r) :
  Calls Try.prog 42 #[.slice A0 l0.length c0,.slice A1 l1.length c1] w fun e w'=>∃ v0_:Value,e=.returned (v0_)∧Kd.R k30 30 w' w.heap.size (fun _=>True) v0_ r∧Below w.heap.size w w':=by
 have HR0:=Aside0.mk hr0
 have HC0:=Aside0.mk hc0
 clear hr0 hc0
 have HR1:=Aside0.mk hr1
 have HC1:=Aside0.mk hc1
 clear hr1 hc1
 have HB:=Aside0.mk (Below.refl w.heap.size w)
 have H:((slices_Clone_Llimpl_Row.f l0).bind fun t437=>(if 1≤(l1.length:Int) then ((some (l1.drop 1:List (SRow))).bind fun y440=>(if t437.length+y440.length<5864062014805 then ((some (t437++y440:List (SRow))).bind fun y444=>(if 0≤(wrap64 ((l0.length:Int) - 1)) then (if (wrap64 ((l0.length:Int) - 1))<(y444.length:Int) then (if 0<(l1.length:Int) then (if ((rd_TRow y444 (wrap64 ((l0.length:Int) - 1))).f1).size+((rd_TRow l1 0).f1).size≤9223372036854775807 then (some (y444.set ((wrap64 ((l0.length:Int) - 1)):Int).toNat (⟨(rd_TRow y444 (wrap64 ((l0.length:Int) - 1))).f0,((rd_TRow y444 (wrap64 ((l0.length:Int) - 1))).f1)++((rd_TRow l1 0).f1)⟩:SRow))) else (none)) else (none)) else (none)) else (none))) else (none))) else (none)))=some r:=h
 clear h
 replace H:=Option.bind_eq_some_iff.mp H
 obtain ⟨t437,A30,H⟩:=H
 replace H:(if 1≤(l1.length:Int) then ((some (l1.drop 1:List (SRow))).bind fun y440=>(if t437.length+y440.length<5864062014805 then ((some (t437++y440:List (SRow))).bind fun y444=>(if 0≤(wrap64 ((l0.length:Int) - 1)) then (if (wrap64 ((l0.length:Int) - 1))<(y444.length:Int) then (if 0<(l1.length:Int) then (if ((rd_TRow y444 (wrap64 ((l0.length:Int) - 1))).f1).size+((rd_TRow l1 0).f1).size≤9223372036854775807 then (some (y444.set ((wrap64 ((l0.length:Int) - 1)):Int).toNat (⟨(rd_TRow y444 (wrap64 ((l0.length:Int) - 1))).f0,((rd_TRow y444 (wrap64 ((l0.length:Int) - 1))).f1)++((rd_TRow l1 0).f1)⟩:SRow))) else (none)) else (none)) else (none)) else (none))) else (none))) else (none))=some r:=H
 have A3:=Aside0.mk A30
 clear A30
 by_cases c4:1≤(l1.length:Int)
 ·rw [if_pos c4] at H
  have c4b0:=eq_true c4
  have c4b1:decide (1≤(l1.length:Int))=true:=decide_eq_true c4
  clear c4
  obtain ⟨y440,hy440⟩:∃ y_:List (SRow),y_=(l1.drop 1):=⟨_,rfl⟩
  replace H:(if t437.length+y440.length<5864062014805 then ((some (t437++y440:List (SRow))).bind fun y444=>(if 0≤(wrap64 ((l0.length:Int) - 1)) then (if (wrap64 ((l0.length:Int) - 1))<(y444.length:Int) then (if 0<(l1.length:Int) then (if ((rd_TRow y444 (wrap64 ((l0.length:Int) - 1))).f1).size+((rd_TRow l1 0).f1).size≤9223372036854775807 then (some (y444.set ((wrap64 ((l0.length:Int) - 1)):Int).toNat (⟨(rd_TRow y444 (wrap64 ((l0.length:Int) - 1))).f0,((rd_TRow y444 (wrap64 ((l0.length:Int) - 1))).f1)++((rd_TRow l1 0).f1)⟩:SRow))) else (none)) else (none)) else (none)) else (none))) else (none))=some r:=by first|(rw [hy440];with_reducible exact H)|(have H2_:=(Option.bind_some _ _).symm.trans H;rw [hy440];with_reducible exact H2_)|(have H2_:=(Option.bind_some _ _).symm.trans H;with_reducible exact H2_)|with_reducible exact H|(rw [hy440];exact H)|exact H
  have Ny440:=Aside0.mk hy440
  clear hy440
  by_cases c5:t437.length+y440.length<5864062014805
  ·rw [if_pos c5] at H
   have LMc5:=Aside0.mk c5
   clear c5
   obtain ⟨y444,hy444⟩:∃ y_:List (SRow),y_=(t437++y440):=⟨_,rfl⟩
   replace H:(if 0≤(wrap64 ((l0.length:Int) - 1)) then (if (wrap64 ((l0.length:Int) - 1))<(y444.length:Int) then (if 0<(l1.length:Int) then (if ((rd_TRow y444 (wrap64 ((l0.length:Int) - 1))).f1).size+((rd_TRow l1 0).f1).size≤9223372036854775807 then (some (y444.set ((wrap64 ((l0.length:Int) - 1)):Int).toNat (⟨(rd_TRow y444 (wrap64 ((l0.length:Int) - 1))).f0,((rd_TRow y444 (wrap64 ((l0.length:Int) - 1))).f1)++((rd_TRow l1 0).f1)⟩:SRow))) else (none)) else (none)) else (none)) else (none))=some r:=by first|(rw [hy444];with_reducible exact H)|(have H2_:=(Option.bind_some _ _).symm.trans H;rw [hy444];with_reducible exact H2_)|(have H2_:=(Option.bind_some _ _).symm.trans H;with_reducible exact H2_)|with_reducible exact H|(rw [hy444];exact H)|exact H
   have Ny444:=Aside0.mk hy444
   clear hy444
   obtain ⟨ji6,hji6⟩:∃ j_:Int,(wrap64 ((l0.length:Int) - 1))=j_:=⟨_,rfl⟩
   replace H:(if 0≤(ji6) then (if (ji6)<(y444.length:Int) then (if 0<(l1.length:Int) then (if ((rd_TRow y444 (ji6)).f1).size+((rd_TRow l1 0).f1).size≤9223372036854775807 then (some (y444.set ((ji6):Int).toNat (⟨(rd_TRow y444 (ji6)).f0,((rd_TRow y444 (ji6)).f1)++((rd_TRow l1 0).f1)⟩:SRow))) else (none)) else (none)) else (none)) else (none))=some r:=by first|(rw [hji6] at H;exact H)|(simp only [hji6] at H ⊢;exact H)
   (try rw [hji6] at A3)
   have hji6w:(IntKind.i64.wrap ((l0.length:Int) - 1))=ji6:=(i64_w _).trans hji6
   by_cases c7:0≤(ji6)
   ·rw [if_pos c7] at H
    have c7b0:decide (0≤(ji6))=true:=decide_eq_true c7
    clear c7
    by_cases c8:(ji6)<(y444.length:Int)
    ·rw [if_pos c8] at H
     have c8b0:decide ((ji6)<(y444.length:Int))=true:=decide_eq_true c8
     clear c8
     by_cases c9:0<(l1.length:Int)
     ·rw [if_pos c9] at H
      have c9b0:decide (0<(l1.length:Int))=true:=decide_eq_true c9
      have c9b1:decide (0<l1.length)=true:=decide_eq_true (by omega)
      clear c9
      by_cases c10:((rd_TRow y444 (ji6)).f1).size+((rd_TRow l1 0).f1).size≤9223372036854775807
      ·rw [if_pos c10] at H
       have c10b0:=eq_true c10
       have c10b1:decide (((rd_TRow y444 (ji6)).f1).size+((rd_TRow l1 0).f1).size≤9223372036854775807)=true:=decide_eq_true c10
       try have c10b2:(9223372036854775807<((rd_TRow y444 (ji6)).f1).size+((rd_TRow l1 0).f1).size)=False:=eq_false (Nat.not_lt.2 c10)
       obtain ⟨y449,hy449⟩:∃ y_:List (SRow),y_=(y444.set ((ji6):Int).toNat (⟨(rd_TRow y444 (ji6)).f0,((rd_TRow y444 (ji6)).f1)++((rd_TRow l1 0).f1)⟩:SRow)):=⟨_,rfl⟩
       replace H:(some y449)=some r:=by first|(rw [hy449];with_reducible exact H)|(have H2_:=(Option.bind_some _ _).symm.trans H;rw [hy449];with_reducible exact H2_)|(have H2_:=(Option.bind_some _ _).symm.trans H;with_reducible exact H2_)|with_reducible exact H|(rw [hy449];exact H)|exact H
       have Ny449:=Aside0.mk hy449
       clear hy449
       obtain rfl:=Option.some.inj H
       go_enter Try.func42,Try.ntmps42
       try go_wp2
       have n0_:=Aside0.mk (below_drew1 HB.out)
       clear HB
       have HB:=n0_
       clear n0_
       have q13:(1:Int)≤((l1.length:Int):Int):=of_decide_eq_true (by first|(with_reducible assumption)|assumption)
       obtain ⟨i013,hi013,_,hsz13,_⟩:=info_parts info30
       have hroom13:l1.length≤c1:=HC1.out
       have hC13:Kd.C k30 _ A1 l1.length l1:=HR1.out
       have hcut13:=cut_from (P:=Try.prog) 23 30 .i64 Try.underlying23 hi013 2 hsz13 A1 l1.length c1 1 (by omega) q13
       have hr13:=Kd.C_drop (m:=(1:Int).toNat) (c:=c1) hC13 (by omega) hroom13
       obtain ⟨A13,hA13⟩:∃ Az_,Az_=(if c1=(1:Int).toNat then A1 else (A1:Option Addr).map (·.add ((1:Int).toNat * 2))):=⟨_,rfl⟩
       obtain ⟨c13,hc13⟩:∃ cz_,cz_=c1 - (1:Int).toNat:=⟨_,rfl⟩
       have hy13:y440.length=l1.length - (1:Int).toNat:=(by rw [Ny440.out,List.length_drop] <;> omega)
       rw [show (l1).drop (1:Int).toNat=y440 from Ny440.out.symm] at hr13
       replace hr13:Kd.C k30 _ A13 y440.length y440:=(by rw [hA13];exact hr13)
       rw [← hy13,← hA13,← hc13] at hcut13
       have HR443:=Aside0.mk hr13
       have HC443:=Aside0.mk (show y440.length≤c13 from by rw [hy13,hc13];exact Nat.sub_le_sub_right hroom13 _)
       clear hr13 hC13 hroom13 hi013 hsz13 hc13
       have KY13:=Aside0.mk hy13
       have KA13:=Aside0.mk hA13
       clear hy13 hA13
       replace q13:=eq_true q13
       refine start_ (n:=6) (S:=fun w'=>True) (ds:=[]) #[false,false,false,false,false,false] (by kernel_rfl) rfl rfl trivial (fun hHeld=>?_)
       generalize w.drew=w12 at HB HR443 hHeld ⊢
       refine pure_ (i:=0) (N:=some 6) (v:=?_) (a':=?_) #[true,false,false,false,false,false] rfl rfl (by kernel_rfl) (fun _ _ _ h=>h) (Or.inl ⟨by rfl,?_⟩) ?_ ?_
       rotate_left
       ·intro w'
        go_simp
        with_reducible rfl
       rotate_left
       ·simp only [Act.put,List.setIfInBounds_toArray,List.set_cons_zero,List.set_cons_succ,i64_w,i32_w]
        rfl
       refine pure_ (i:=2) (N:=some 8) (v:=?_) (a':=?_) #[true,false,true,false,false,false] rfl rfl (by kernel_rfl) (fun _ _ _ h=>h) (Or.inl ⟨by rfl,?_⟩) ?_ ?_
       rotate_left
       ·intro w'
        go_simp
        with_reducible rfl
       rotate_left
       ·simp only [Act.put,List.setIfInBounds_toArray,List.set_cons_zero,List.set_cons_succ,i64_w,i32_w]
        rfl
       refine pure_ (i:=3) (N:=some 9) (v:=?_) (a':=?_) #[true,false,true,true,false,false] rfl rfl (by kernel_rfl) (fun _ _ _ h=>h) (Or.inl ⟨by rfl,?_⟩) ?_ ?_
       rotate_left
       ·intro w'
        go_simp
        with_reducible rfl
       rotate_left
       ·simp only [Act.put,List.setIfInBounds_toArray,List.set_cons_zero,List.set_cons_succ,i64_w,i32_w]
        rfl
       refine one_ (i:=1) (N:=some 7) #[true,true,true,true,false,false] rfl rfl (by kernel_rfl) (by decide) (fun K hK=>?_)
       refine goes_ Try.func67 (by kernel_rfl) rfl #[.slice A0 l0.length c0] (by rfl) rfl rfl (by (try simp only [List.map_toArray,List.map_cons,List.map_nil]);first|done|rfl|(simp only [List.length_drop,List.length_take];rfl)) ?_
       with_reducible refine (slices_Clone_Llimpl_Row.calls _ _ l0 t437 _ ?side1 ?side2 A3.out).mono ?_
       (case side1=>repeat (first|exact (Kd.C_below HR0.out HB.out)|(with_reducible refine Kd.C_alloc ?_ _)|(with_reducible refine Kd.C_drewN ?_ _)|(with_reducible refine Kd.C_drew ?_)))
       (case side2=>exact HC0.out)
       rintro e w14 ⟨v438,rfl,ho0,hb⟩
       refine ⟨_,rfl,?_⟩
       have n0_:=Aside0.mk (Kd.R_lower ho0 (below_size (by repeat (first|(with_reducible first|exact HB.out|apply below_alloc|apply pw_below_drewN|apply below_drew1)|exact HB.out))))
       have n1_:=Aside0.mk (below_step (by repeat (first|(with_reducible first|exact HB.out|apply below_alloc|apply pw_below_drewN|apply below_drew1)|exact HB.out)) hb)
       clear HB
       have HO439:=n0_
       have HB:=n1_
       clear n0_ n1_
       (try clear hb)
       (try clear hb2)
       (try clear hk)
       (try clear hi)
       (try clear ho0)
       refine hK.out _ _ trivial (fun hHeld=>?_)
       clear hK K
       refine norm_ (a':=?_) ?_ ?_
       rotate_left
       ·show Act.put _ (some 7) _=_
        simp only [Act.put,List.setIfInBounds_toArray,List.set_cons_zero,List.set_cons_succ,i64_w,i32_w]
        rfl
       refine one_ (i:=4) (N:=some 10) #[true,true,true,true,true,false] rfl rfl (by kernel_rfl) (by decide) (fun K hK=>?_)
       refine Kd.R_append_rows_step k30 (w0:=w) w.heap.size (by rfl) (.tmp 7) (.tmp 9) 23 30 (.agg #[(.int .i64 0),(.string ⟨#[]⟩)]) 24 rfl Try.underlying23 info30 rfl (by decide) (by omega) v438 t437 y440 _ _ _ (fun _=>True) (fun _=>False) rfl rfl ?aO ?aR (fun _ _ h=>h) (fun _ h=>h.elim) ?aF ?aB ?aS ?aL ?_
       (case aR=>repeat (first|exact (Kd.C_below HR443.out HB.out)|(with_reducible refine Kd.C_alloc ?_ _)|(with_reducible refine Kd.C_drewN ?_ _)|(with_reducible refine Kd.C_drew ?_)))
       (case aB=>exact (by repeat (first|(with_reducible first|exact HB.out|apply below_alloc|apply pw_below_drewN|apply below_drew1)|exact HB.out)))
       (case aF=>exact (fun _ _=>trivial))
       (case aO=>exact (by (with_reducible repeat (first|apply Kd.R_alloc|apply Kd.R_drewN|apply Kd.R_drew));exact HO439.out))
       (case aS=>exact (below_size (by repeat (first|(with_reducible first|exact HB.out|apply below_alloc|apply pw_below_drewN|apply below_drew1)|exact HB.out))))
       (case aL=>have:=LMc5.out;omega)
       intro v445 w15 ho hb hg hat
       rw [← Ny444.out] at ho
       have n0_:=Aside0.mk (hb)
       have n1_:=Aside0.mk (ho)
       clear HB
       clear HO439
       have HB:=n0_
       have HO446:=n1_
       clear n0_ n1_
       clear ho hb hg hat
       refine hK.out _ _ trivial (fun hHeld=>?_)
       clear hK K
       refine norm_ (a':=?_) ?_ ?_
       rotate_left
       ·show Act.put _ (some 10) _=_
        simp only [Act.put,List.setIfInBounds_toArray,List.set_cons_zero,List.set_cons_succ,i64_w,i32_w]
        rfl
       refine pure_ (i:=5) (N:=some 5) (v:=?_) (a':=?_) #[true,true,true,true,true,true] rfl rfl (by kernel_rfl) (fun _ _ _ h=>h) (Or.inl ⟨by rfl,?_⟩) ?_ ?_
       rotate_left
       ·intro w'
        go_simp
        with_reducible rfl
       rotate_left
       ·simp only [Act.put,List.setIfInBounds_toArray,List.set_cons_zero,List.set_cons_succ,i64_w,i32_w]
        rfl
       refine done_ (by kernel_rfl) ?_
       try go_wp2
       have n0_:=Aside0.mk (Kd.R_drew HO446.out)
       have n1_:=Aside0.mk (below_drew1 HB.out)
       clear HO446
       clear HB
       have HO446:=n0_
       have HB:=n1_
       clear n0_ n1_
       obtain ⟨Ao17,co17,eo17⟩:=Kd.R_slice HO446.out
       (first|subst eo17|(injection eo17 with f1_ f2_ f3_;have f4_:=f1_.symm;have f5_:=f3_.symm;clear f1_ f2_ f3_;subst f4_;subst f5_))
       have p447:0≤((ji6):Int):=of_decide_eq_true (by first|(with_reducible assumption)|assumption)
       have q447:(ji6)<(y444.length:Int):=of_decide_eq_true (by first|(with_reducible assumption)|assumption)
       obtain ⟨ad447,e447,hx447_0,hx447_1⟩:=at_TRow (Kd.R_reads' HO446.out).2.2 (ji6) p447 q447
       cases e447
       replace p447:=eq_true p447
       replace q447:=eq_true q447
       have p448:0≤(0:Int):=(by omega)
       have q448:0<(l1.length:Int):=of_decide_eq_true (by first|(with_reducible assumption)|assumption)
       obtain ⟨ad448,e448,hx448_0,hx448_1⟩:=at_TRow HR1.out 0 p448 q448
       have hw448_1:=hx448_1
       (try rw [show ((0:Int)).toNat=0 from rfl] at hw448_1)
       (try rw [show 0 * 2=0 from rfl] at hw448_1)
       (try rw [Addr.add_zero'] at hw448_1)
       have hw448_0:=hx448_0
       (try rw [show ((0:Int)).toNat=0 from rfl] at hw448_0)
       (try rw [show 0 * 2=0 from rfl] at hw448_0)
       (try rw [Addr.add_zero'] at hw448_0)
       cases e448
       have qi448:(0<l1.length)=True:=eq_true (by omega)
       (try rw [show ((0:Int)).toNat=0 from rfl] at hx448_0)
       (try rw [show 0 * 2=0 from rfl] at hx448_0)
       (try rw [Addr.add_zero'] at hx448_0)
       (try rw [show ((0:Int)).toNat=0 from rfl] at hx448_1)
       (try rw [show 0 * 2=0 from rfl] at hx448_1)
       (try rw [Addr.add_zero'] at hx448_1)
       replace hx448_0:=(HB.out.cell (World.block_lt_of_cell? w _ hx448_0)).trans hx448_0
       replace hx448_1:=(HB.out.cell (World.block_lt_of_cell? w _ hx448_1)).trans hx448_1
       replace p448:=eq_true p448
       replace q448:=eq_true q448
       have p11:0≤((ji6):Int):=of_decide_eq_true (by first|(with_reducible assumption)|assumption)
       have q11:((ji6):Int)<((y444.length:Int):Int):=of_decide_eq_true (by first|(with_reducible assumption)|assumption)
       obtain ⟨go11,co11,eo11,gb11,gl11,cl11,HG11⟩:=Kd.R_form HO446.out (by omega)
       (first|cases eo11|(injection eo11 with ea_ en_ ec_;(first|subst ea_|(injection ea_ with ea_;subst ea_));subst ec_;clear en_))
       have GB11:=Aside0.mk gb11
       have GG11:=Aside0.mk HG11
       clear gb11 gl11 HG11
       (first|simp only [add_plain] at hx447_0|skip)
       (first|simp only [add_plain] at hx447_1|skip)
       obtain ⟨ce11,hcl11,hM11,hcc11,hfr11⟩:=Kd.R_elem HO446.out zRow ((ji6):Int) p11 q11
       obtain rfl:=k30_openM hM11
       have hx11_0:World.cell? _ ⟨go11,((ji6):Int).toNat * 2,none⟩=some (.int .i64 ((rd_TRow y444 (ji6)).f0)):=hcc11 0 _ rfl
       have hx11_1:World.cell? _ ⟨go11,((ji6):Int).toNat * 2+1,none⟩=some (.string ((rd_TRow y444 (ji6)).f1)):=hcc11 1 _ rfl
       have hf11_0:World.frozen? _ ⟨go11,((ji6):Int).toNat * 2,none⟩=false:=hfr11 0
       have hf11_1:World.frozen? _ ⟨go11,((ji6):Int).toNat * 2+1,none⟩=false:=hfr11 1
       clear hcl11 hcc11 hfr11 hM11
       replace p11:=eq_true p11
       replace q11:=eq_true q11
       obtain ⟨ce18,hcl18,hM18,hcc18,hfr18⟩:=Kd.R_elem HO446.out zRow ((ji6):Int) (of_decide_eq_true (by first|(with_reducible assumption)|assumption)) (by have h_:((ji6):Int)<((y444.length:Int):Int):=of_decide_eq_true (by first|(with_reducible assumption)|assumption);first|exact h_|(have e_:=(Kd.R_reads' HO446.out).1;omega)|simpa using h_)
       obtain rfl:=k30_openM hM18
       have HP18:=(Kd.R_seg HO446.out ((ji6):Int) (of_decide_eq_true (by first|(with_reducible assumption)|assumption)) (by have h_:((ji6):Int)<((y444.length:Int):Int):=of_decide_eq_true (by first|(with_reducible assumption)|assumption);first|exact h_|(have e_:=(Kd.R_reads' HO446.out).1;omega)|simpa using h_) (seg:=[.string (((rd_TRow y444 (ji6)).f1)++((rd_TRow l1 0).f1))]) (j:=1) hcl18 hcc18 (show 2≤2 from by decide) (x':=(⟨(rd_TRow y444 (ji6)).f0,((rd_TRow y444 (ji6)).f1)++((rd_TRow l1 0).f1)⟩:SRow)) (k30_mkM _ _ _ (⟨(rd_TRow y444 (ji6)).f0,((rd_TRow y444 (ji6)).f1)++((rd_TRow l1 0).f1)⟩:SRow) ) (fun _ hk=>hk)).1
       rw [← Ny449.out] at HP18
       have HQ18:=Aside0.mk HP18
       clear hcl18 hcc18 hfr18 hM18 HP18
       refine start_ (n:=15) (S:=fun w'=>w'.cell? ⟨go11,((ji6)).toNat * 2,none⟩=some (.int .i64 ((rd_TRow y444 (ji6)).f0))∧w'.cell? ⟨go11,((ji6)).toNat * 2+1,none⟩=some (.string ((rd_TRow y444 (ji6)).f1))∧w'.cell? ad448=some (.int .i64 ((rd_TRow l1 0).f0))∧w'.cell? ⟨ad448.block,ad448.off+1,none⟩=some (.string ((rd_TRow l1 0).f1))) (ds:=[14]) #[false,false,false,false,false,false,false,false,false,false,false,false,false,false,false] (by kernel_rfl) rfl rfl ⟨hx447_0,hx447_1,((HB.out.cell (World.block_lt_of_cell? w _ hw448_0)).trans hw448_0),((HB.out.cell (World.block_lt_of_cell? w _ hw448_1)).trans hw448_1)⟩ (fun hHeld=>?_);refine with_tabW impl_catRows.tab2 impl_catRows.bits2 (fun HT_ HW_=>?_)
       generalize w15.drew=w16 at HO446 HB GG11 HQ18 hf11_0 hf11_1 hx11_0 hx11_1 hx447_0 hx447_1 hx448_0 hx448_1 hHeld ⊢
       refine pure_ (i:=0) (N:=some 11) (v:=?_) (a':=?_) #[true,false,false,false,false,false,false,false,false,false,false,false,false,false,false] rfl rfl (any_of HT_.out (by kernel_rfl)) (fun _ _ _ h=>h) (Or.inl ⟨by rfl,?_⟩) ?_ ?_
       rotate_left
       ·intro w'
        go_simp
        with_reducible rfl
       rotate_left
       ·simp only [Act.put,List.setIfInBounds_toArray,List.set_cons_zero,List.set_cons_succ,i64_w,i32_w]
        rfl
       refine pure_ (i:=1) (N:=some 12) (v:=?_) (a':=?_) #[true,true,false,false,false,false,false,false,false,false,false,false,false,false,false] rfl rfl (any_of HT_.out (by kernel_rfl)) (fun _ _ _ h=>h) (Or.inl ⟨by rfl,?_⟩) ?_ ?_
       rotate_left
       ·intro w'
        go_simp
        with_reducible rfl
       rotate_left
       ·simp only [Act.put,List.setIfInBounds_toArray,List.set_cons_zero,List.set_cons_succ,i64_w,i32_w]
        rfl
       refine pure_ (i:=2) (N:=some 13) (v:=?_) (a':=?_) #[true,true,true,false,false,false,false,false,false,false,false,false,false,false,false] rfl rfl (any_of HT_.out (by kernel_rfl)) (fun _ _ _ h=>h) (Or.inl ⟨by rfl,?_⟩) ?_ ?_
       rotate_left
       ·intro w'
        go_simp
        with_reducible rfl
       rotate_left
       ·simp only [Act.put,List.setIfInBounds_toArray,List.set_cons_zero,List.set_cons_succ,i64_w,i32_w]
        rfl
       refine pure_ (i:=3) (N:=some 14) (v:=?_) (a':=?_) #[true,true,true,true,false,false,false,false,false,false,false,false,false,false,false] rfl rfl (any_of HT_.out (by kernel_rfl)) (fun _ _ _ h=>h) (Or.inl ⟨by rfl,?_⟩) ?_ ?_
       rotate_left
       ·intro w'
        go_simp
        with_reducible rfl
       rotate_left
       ·simp only [Act.put,List.setIfInBounds_toArray,List.set_cons_zero,List.set_cons_succ,i64_w,i32_w]
        rfl
       refine pure_ (i:=4) (N:=some 15) (v:=?_) (a':=?_) #[true,true,true,true,true,false,false,false,false,false,false,false,false,false,false] rfl rfl (any_of HT_.out (by kernel_rfl)) (fun _ _ _ h=>h) (Or.inl ⟨by rfl,?_⟩) ?_ ?_
       rotate_left
       ·intro w'
        go_simp
        with_reducible rfl
       rotate_left
       ·simp only [Act.put,List.setIfInBounds_toArray,List.set_cons_zero,List.set_cons_succ,i64_w,i32_w]
        rfl
       refine pure_ (i:=5) (N:=some 16) (v:=?_) (a':=?_) #[true,true,true,true,true,true,false,false,false,false,false,false,false,false,false] rfl rfl (any_of HT_.out (by kernel_rfl)) (fun _ _ _ h=>h) (Or.inl ⟨by rfl,?_⟩) ?_ ?_
       rotate_left
       ·intro w'
        go_simp
        with_reducible rfl
       rotate_left
       ·simp only [Act.put,List.setIfInBounds_toArray,List.set_cons_zero,List.set_cons_succ,i64_w,i32_w]
        rfl
       refine pure_ (i:=7) (N:=some 18) (v:=?_) (a':=?_) #[true,true,true,true,true,true,false,true,false,false,false,false,false,false,false] rfl rfl (any_of HT_.out (by kernel_rfl)) (fun _ _ _ h=>h) (Or.inl ⟨by rfl,?_⟩) ?_ ?_
       rotate_left
       ·intro w'
        go_simp
        with_reducible rfl
       rotate_left
       ·simp only [Act.put,List.setIfInBounds_toArray,List.set_cons_zero,List.set_cons_succ,i64_w,i32_w]
        rfl
       refine pure_ (i:=8) (N:=some 19) (v:=?_) (a':=?_) #[true,true,true,true,true,true,false,true,true,false,false,false,false,false,false] rfl rfl (any_of HT_.out (by kernel_rfl)) (fun _ _ _ h=>h) (Or.inl ⟨by rfl,?_⟩) ?_ ?_
       rotate_left
       ·intro w'
        go_simp
        with_reducible rfl
       rotate_left
       ·simp only [Act.put,List.setIfInBounds_toArray,List.set_cons_zero,List.set_cons_succ,i64_w,i32_w]
        rfl
       refine pure_ (i:=9) (N:=some 20) (v:=?_) (a':=?_) #[true,true,true,true,true,true,false,true,true,true,false,false,false,false,false] rfl rfl (any_of HT_.out (by kernel_rfl)) (fun _ _ _ h=>h) (Or.inl ⟨by rfl,?_⟩) ?_ ?_
       rotate_left
       ·intro w'
        go_simp
        with_reducible rfl
       rotate_left
       ·simp only [Act.put,List.setIfInBounds_toArray,List.set_cons_zero,List.set_cons_succ,i64_w,i32_w]
        rfl
       refine take_ (i:=6) (N:=some 17) (v:=?_) (a':=?_) #[true,true,true,true,true,true,true,true,true,true,false,false,false,false,false] rfl rfl (take_ofW HT_.out HW_.out (by kernel_rfl)) (fun _ _ _ h=>h) (Or.inl ⟨by rfl,?_⟩) hHeld ?_ ?_
       rotate_left
       ·rintro w' ⟨s0,s1,s2,s3⟩
        go_simp
        with_reducible rfl
       rotate_left
       ·simp only [Act.put,List.setIfInBounds_toArray,List.set_cons_zero,List.set_cons_succ,i64_w,i32_w]
        rfl
       refine take_ (i:=10) (N:=some 21) (v:=?_) (a':=?_) #[true,true,true,true,true,true,true,true,true,true,true,false,false,false,false] rfl rfl (take_ofW HT_.out HW_.out (by kernel_rfl)) (fun _ _ _ h=>h) (Or.inl ⟨by rfl,?_⟩) hHeld ?_ ?_
       rotate_left
       ·rintro w' ⟨s0,s1,s2,s3⟩
        go_simp
        with_reducible rfl
       rotate_left
       ·simp only [Act.put,List.setIfInBounds_toArray,List.set_cons_zero,List.set_cons_succ,i64_w,i32_w]
        rfl
       refine pure_ (i:=11) (N:=some 22) (v:=?_) (a':=?_) #[true,true,true,true,true,true,true,true,true,true,true,true,false,false,false] rfl rfl (any_of HT_.out (by kernel_rfl)) (fun _ _ _ h=>h) (Or.inl ⟨by rfl,?_⟩) ?_ ?_
       rotate_left
       ·intro w'
        go_simp
        with_reducible rfl
       rotate_left
       ·simp only [Act.put,List.setIfInBounds_toArray,List.set_cons_zero,List.set_cons_succ,i64_w,i32_w]
        rfl
       refine pure_ (i:=12) (N:=some 23) (v:=?_) (a':=?_) #[true,true,true,true,true,true,true,true,true,true,true,true,true,false,false] rfl rfl (any_of HT_.out (by kernel_rfl)) (fun _ _ _ h=>h) (Or.inl ⟨by rfl,?_⟩) ?_ ?_
       rotate_left
       ·intro w'
        go_simp
        with_reducible rfl
       rotate_left
       ·simp only [Act.put,List.setIfInBounds_toArray,List.set_cons_zero,List.set_cons_succ,i64_w,i32_w]
        rfl
       refine pure_ (i:=13) (N:=some 24) (v:=?_) (a':=?_) #[true,true,true,true,true,true,true,true,true,true,true,true,true,true,false] rfl rfl (any_of HT_.out (by kernel_rfl)) (fun _ _ _ h=>h) (Or.inl ⟨by rfl,?_⟩) ?_ ?_
       rotate_left
       ·intro w'
        go_simp
        with_reducible rfl
       rotate_left
       ·simp only [Act.put,List.setIfInBounds_toArray,List.set_cons_zero,List.set_cons_succ,i64_w,i32_w]
        rfl
       refine last_ (i:=14) (N:=none) #[true,true,true,true,true,true,true,true,true,true,true,true,true,true,true] rfl rfl (one_of HT_.out (by kernel_rfl)) (by decide) (fun K hK=>?_)
       refine skip_ (w1:=?_) (by rfl) rfl ?_ ?_
       rotate_left
       ·go_simp
        rfl
       refine hK.out _ _ ?_
       clear hK K
       refine done_ (done_of HT_.out (by kernel_rfl)) ?_
       try go_wp2
       go_ret
       exact ⟨_,by first|rfl|(simp [errW_none,errW_some] <;> rfl)|(simp only [← hji6];first|rfl|(simp [errW_none,errW_some] <;> rfl))|(simp [*,errW_none,errW_some] <;> rfl),by (with_reducible repeat (first|apply Kd.R_alloc|apply Kd.R_drewN|apply Kd.R_drew));exact HQ18.out,by repeat (first|(with_reducible first|exact HB.out|apply below_alloc|apply pw_below_drewN|apply below_drew1|refine below_set ?_ GB11.out)|exact HB.out)⟩
      ·rw [if_neg c10] at H
       exact absurd H (by simp)
     ·rw [if_neg c9] at H
      exact absurd H (by simp)
    ·rw [if_neg c8] at H
     exact absurd H (by simp)
   ·rw [if_neg c7] at H
    exact absurd H (by simp)
  ·rw [if_neg c5] at H
   exact absurd H (by simp)
 ·rw [if_neg c4] at H
  exact absurd H (by simp)
end Go.Proofs.Ytdhdfmmefghijab.P
namespace Go.Proofs.Ytdhdfmmefghijab.P
open Go.RowKit Go.Proofs.YtdhdfmmefghijabW.PrintWords Go.Proofs.YtdhdfmmefghijabW.PrintLast Go.Proofs.YtdhdfmmefghijabW.PrintMore
attribute [local go_sem] max2_int min2_int max_two min_two max_three min_three max_four min_four
set_option linter.unusedVariables false
set_option linter.unusedSimpArgs false
def impl_CatLayouts.j0:Nat→List (SRow)→List (SRow)→Bool→Option ((List (SRow))×Bool)
 | 0,_,_,_=>none
 | k+1,x0,x1,x14=>if x14=true then (some (([]:List (SRow)),false)) else ((impl_catRows.f x0 x1).bind fun t452=>((impl_LayoutValid.f k t452).bind fun t455=>(if t455=true then (some (t452,true)) else (some (([]:List (SRow)),false)))))
def impl_CatLayouts.f (k:Nat) (l0:List (SRow)) (l1:List (SRow)):Option ((List (SRow))×Bool):=(impl_LayoutValid.f k l0).bind fun t450=>(if t450=true then ((impl_LayoutValid.f k l1).bind fun t451=>(impl_CatLayouts.j0 k l0 l1 (!t451))) else (impl_CatLayouts.j0 k l0 l1 true))
set_option maxHeartbeats 8000000 in
set_option maxRecDepth 100000 in
theorem impl_CatLayouts.calls (k:Nat) (A0:Option Addr) (c0:Nat) (l0:List (SRow)) (A1:Option Addr) (c1:Nat) (l1:List (SRow)) (r1:List (SRow)) (r2:Bool) (w:World) (hr0:Kd.C k30 w A0 l0.length l0) (hc0:l0.length≤c0) (hr1:Kd.C k30 w A1 l1.length l1) (hc1:l1.length≤c1) (h:impl_CatLayouts.f k l0 l1=some (r1,r2)) :
  Calls Try.prog 16 #[.slice A0 l0.length c0,.slice A1 l1.length c1] w fun e w'=>∃ v0_:Value,e=.returned (.tuple #[v0_,.bool r2])∧Kd.R k30 30 w' w.heap.size (fun _=>True) v0_ r1∧Below w.heap.size w w':=by
 have HR0:=Aside0.mk hr0
 have HC0:=Aside0.mk hc0
 clear hr0 hc0
 have HR1:=Aside0.mk hr1
 have HC1:=Aside0.mk hc1
 clear hr1 hc1
 have HB:=Aside0.mk (Below.refl w.heap.size w)
 have H:((impl_LayoutValid.f k l0).bind fun t450=>(if t450=true then ((impl_LayoutValid.f k l1).bind fun t451=>(impl_CatLayouts.j0 k l0 l1 (!t451))) else (impl_CatLayouts.j0 k l0 l1 true)))=some (r1,r2):=h
 clear h
 have HC3:=Aside0.mk H
 clear H
 go_enter Try.func16,Try.ntmps16
 go_upto_region 1 with (fail)
 go_cut [14] (fun v14 wc=>∃ (kq:Nat) (x14_2:Bool),v14=.bool x14_2∧Aside0 (impl_CatLayouts.j0 kq l0 l1 x14_2=some (r1,r2))∧Aside0 (kq≤k)∧Aside0 (Below w.heap.size w wc))
 case first =>
  have H:=HC3.out
  clear HC3
  replace H:=Option.bind_eq_some_iff.mp H
  obtain ⟨t450,A40,H⟩:=H
  replace H:(if t450=true then ((impl_LayoutValid.f k l1).bind fun t451=>(impl_CatLayouts.j0 k l0 l1 (!t451))) else (impl_CatLayouts.j0 k l0 l1 true))=some (r1,r2):=H
  have A4:=Aside0.mk A40
  clear A40
  by_cases c5:t450=true
  ·subst c5
   have H1:((impl_LayoutValid.f k l1).bind fun t451=>(impl_CatLayouts.j0 k l0 l1 (!t451)))=some (r1,r2):=by rw [if_pos rfl] at H;exact H
   clear H
   have H:=H1
   clear H1
   replace H:=Option.bind_eq_some_iff.mp H
   obtain ⟨t451,A60,H⟩:=H
   replace H:(impl_CatLayouts.j0 k l0 l1 (!t451))=some (r1,r2):=H
   have A6:=Aside0.mk A60
   clear A60
   have H':=Aside0.mk H
   clear H
   go_wp2_with (first|((with_reducible refine gate_callee (f:=19) rfl ?_);refine goesL_ (some 8) rfl rfl Try.func19 (by kernel_rfl) rfl #[.slice A0 l0.length c0] rfl (by (try simp only [List.map_toArray,List.map_cons,List.map_nil]);first|done|rfl|(simp only [List.length_drop,List.length_take];rfl)) ?_;(with_reducible refine (impl_LayoutValid.calls k _ _ l0 true _ ?side1 ?side2 A4.out).mono ?_);(case side1=>exact gC (Kd.C_below HR0.out HB.out));(case side2=>exact HC0.out);rintro e w7 ⟨rfl,hb⟩;refine ⟨_,rfl,?_⟩;have n0_:=Aside0.mk (below_step (gB HB) hb);clear HB;have HB:=n0_;clear n0_;(try clear hb);(try clear hb2);(try clear hk);(try clear hi))|(go_at_call 19;(with_reducible refine (impl_LayoutValid.calls k _ _ l1 t451 _ ?side1 ?side2 A6.out).mono ?_);(case side1=>exact gC (Kd.C_below HR1.out HB.out));(case side2=>exact HC1.out);rintro e w8 ⟨rfl,hb⟩;have n0_:=Aside0.mk (below_step (gB HB) hb);clear HB;have HB:=n0_;clear n0_;(try clear hb);(try clear hb2);(try clear hk);(try clear hi)))
   go_meet
   case rel=>exact ⟨_,(!t451),(by first|rfl|(simp;done)|(simp [*];done)),H',⟨by first|omega|exact Nat.le_refl _⟩,⟨gB HB⟩⟩
  ·replace c5:=Bool.eq_false_iff.mpr c5
   subst c5
   have H1:(impl_CatLayouts.j0 k l0 l1 true)=some (r1,r2):=by rw [if_neg (show ¬ (false=true) by decide)] at H;exact H
   clear H
   have H:=H1
   clear H1
   have H':=Aside0.mk H
   clear H
   go_wp2_with (first|((with_reducible refine gate_callee (f:=19) rfl ?_);refine goesL_ (some 8) rfl rfl Try.func19 (by kernel_rfl) rfl #[.slice A0 l0.length c0] rfl (by (try simp only [List.map_toArray,List.map_cons,List.map_nil]);first|done|rfl|(simp only [List.length_drop,List.length_take];rfl)) ?_;(with_reducible refine (impl_LayoutValid.calls k _ _ l0 false _ ?side1 ?side2 A4.out).mono ?_);(case side1=>exact gC (Kd.C_below HR0.out HB.out));(case side2=>exact HC0.out);rintro e w9 ⟨rfl,hb⟩;refine ⟨_,rfl,?_⟩;have n0_:=Aside0.mk (below_step (gB HB) hb);clear HB;have HB:=n0_;clear n0_;(try clear hb);(try clear hb2);(try clear hk);(try clear hi)))
   go_meet
   case rel=>exact ⟨_,(true),(by first|rfl|(simp;done)|(simp [*];done)),H',⟨by first|omega|exact Nat.le_refl _⟩,⟨gB HB⟩⟩
 case rest =>
  clear HC3
  try clear c1 p2 c5
  obtain ⟨kq,x14_2,rfl,HA,HJ2,HB⟩:=hcut
  cases kq with
  | zero=>exact absurd HA.out (by simp [impl_CatLayouts.j0])
  | succ kj2 =>
   have H:=HA.out
   clear HA
   simp only [impl_CatLayouts.j0] at H
   by_cases c10:x14_2=true
   ·subst c10
    have H1:(some (([]:List (SRow)),false))=some (r1,r2):=by rw [if_pos rfl] at H;exact H
    clear H
    have H:=H1
    clear H1
    simp only [Option.some.injEq,Prod.mk.injEq] at H
    obtain ⟨rfl,rfl⟩:=H
    go_wp2
    go_ret2
    exact ⟨_,by first|rfl|(simp [errW_none,errW_some] <;> rfl)|(simp [*,errW_none,errW_some] <;> rfl),by first|exact Kd.R_nil _ _ _ _ _|exact Kd.N_nil _ _ _ _ _|exact Kd.V_nil _ _ _ _ _|exact Kd.Q_nil _ _ _ _ _|exact Kd.S_nil _ _ _ _ _,gB HB⟩
   ·replace c10:=Bool.eq_false_iff.mpr c10
    subst c10
    have H1:((impl_catRows.f l0 l1).bind fun t452=>((impl_LayoutValid.f kj2 t452).bind fun t455=>(if t455=true then (some (t452,true)) else (some (([]:List (SRow)),false)))))=some (r1,r2):=by rw [if_neg (show ¬ (false=true) by decide)] at H;exact H
    clear H
    have H:=H1
    clear H1
    replace H:=Option.bind_eq_some_iff.mp H
    obtain ⟨t452,A110,H⟩:=H
    replace H:((impl_LayoutValid.f kj2 t452).bind fun t455=>(if t455=true then (some (t452,true)) else (some (([]:List (SRow)),false))))=some (r1,r2):=H
    have A11:=Aside0.mk A110
    clear A110
    replace H:=Option.bind_eq_some_iff.mp H
    obtain ⟨t455,A120,H⟩:=H
    replace H:(if t455=true then (some (t452,true)) else (some (([]:List (SRow)),false)))=some (r1,r2):=H
    have A12:=Aside0.mk A120
    clear A120
    by_cases c13:t455=true
    ·subst c13
     have H1:(some (t452,true))=some (r1,r2):=by rw [if_pos rfl] at H;exact H
     clear H
     have H:=H1
     clear H1
     simp only [Option.some.injEq,Prod.mk.injEq] at H
     obtain ⟨rfl,rfl⟩:=H
     go_wp2_with (first|((with_reducible refine gate_callee (f:=42) rfl ?_);refine goesL_ (some 17) rfl rfl Try.func42 (by kernel_rfl) rfl #[.slice A0 l0.length c0,.slice A1 l1.length c1] rfl (by (try simp only [List.map_toArray,List.map_cons,List.map_nil]);first|done|rfl|(simp only [List.length_drop,List.length_take];rfl)) ?_;(with_reducible refine (impl_catRows.calls _ _ l0 _ _ l1 t452 _ ?side1 ?side2 ?side3 ?side4 A11.out).mono ?_);(case side1=>exact gC (Kd.C_below HR0.out HB.out));(case side2=>exact HC0.out);(case side3=>exact gC (Kd.C_below HR1.out HB.out));(case side4=>exact HC1.out);rintro e w14 ⟨v453,rfl,ho0,hb⟩;refine ⟨_,rfl,?_⟩;have n0_:=Aside0.mk (Kd.R_lower ho0 (below_size (gB HB)));have n1_:=Aside0.mk (below_step (gB HB) hb);clear HB;have HO454:=n0_;have HB:=n1_;clear n0_ n1_;(try clear hb);(try clear hb2);(try clear hk);(try clear hi);(try clear ho0);obtain ⟨Ao15,co15,eo15⟩:=Kd.R_slice HO454.out;subst eo15)|((with_reducible refine gate_callee (f:=19) rfl ?_);refine goesL_ (some 19) rfl rfl Try.func19 (by kernel_rfl) rfl #[.slice Ao15 t452.length co15] rfl (by (try simp only [List.map_toArray,List.map_cons,List.map_nil]);first|done|rfl|(simp only [List.length_drop,List.length_take];rfl)) ?_;(with_reducible refine (impl_LayoutValid.calls kj2 _ _ t452 true _ ?side1 ?side2 A12.out).mono ?_);(case side1=>exact gC ((Kd.R_reads' HO454.out).2.2));(case side2=>exact (Kd.R_reads' HO454.out).2.1);rintro e w16 ⟨rfl,hb⟩;refine ⟨_,rfl,?_⟩;have n0_:=Aside0.mk (Kd.R_below (gR HO454) hb);have n1_:=Aside0.mk (below_step (gB HB) hb);clear HO454;clear HB;have HO454:=n0_;have HB:=n1_;clear n0_ n1_;(try clear hb);(try clear hb2);(try clear hk);(try clear hi)))
     go_ret2
     exact ⟨_,by first|rfl|(simp [errW_none,errW_some] <;> rfl)|(simp [*,errW_none,errW_some] <;> rfl),gR HO454,gB HB⟩
    ·replace c13:=Bool.eq_false_iff.mpr c13
     subst c13
     have H1:(some (([]:List (SRow)),false))=some (r1,r2):=by rw [if_neg (show ¬ (false=true) by decide)] at H;exact H
     clear H
     have H:=H1
     clear H1
     simp only [Option.some.injEq,Prod.mk.injEq] at H
     obtain ⟨rfl,rfl⟩:=H
     go_wp2_with (first|((with_reducible refine gate_callee (f:=42) rfl ?_);refine goesL_ (some 17) rfl rfl Try.func42 (by kernel_rfl) rfl #[.slice A0 l0.length c0,.slice A1 l1.length c1] rfl (by (try simp only [List.map_toArray,List.map_cons,List.map_nil]);first|done|rfl|(simp only [List.length_drop,List.length_take];rfl)) ?_;(with_reducible refine (impl_catRows.calls _ _ l0 _ _ l1 t452 _ ?side1 ?side2 ?side3 ?side4 A11.out).mono ?_);(case side1=>exact gC (Kd.C_below HR0.out HB.out));(case side2=>exact HC0.out);(case side3=>exact gC (Kd.C_below HR1.out HB.out));(case side4=>exact HC1.out);rintro e w17 ⟨v453,rfl,ho0,hb⟩;refine ⟨_,rfl,?_⟩;have n0_:=Aside0.mk (Kd.R_lower ho0 (below_size (gB HB)));have n1_:=Aside0.mk (below_step (gB HB) hb);clear HB;have HO454:=n0_;have HB:=n1_;clear n0_ n1_;(try clear hb);(try clear hb2);(try clear hk);(try clear hi);(try clear ho0);obtain ⟨Ao18,co18,eo18⟩:=Kd.R_slice HO454.out;subst eo18)|((with_reducible refine gate_callee (f:=19) rfl ?_);refine goesL_ (some 19) rfl rfl Try.func19 (by kernel_rfl) rfl #[.slice Ao18 t452.length co18] rfl (by (try simp only [List.map_toArray,List.map_cons,List.map_nil]);first|done|rfl|(simp only [List.length_drop,List.length_take];rfl)) ?_;(with_reducible refine (impl_LayoutValid.calls kj2 _ _ t452 false _ ?side1 ?side2 A12.out).mono ?_);(case side1=>exact gC ((Kd.R_reads' HO454.out).2.2));(case side2=>exact (Kd.R_reads' HO454.out).2.1);rintro e w19 ⟨rfl,hb⟩;refine ⟨_,rfl,?_⟩;have n0_:=Aside0.mk (Kd.R_below (gR HO454) hb);have n1_:=Aside0.mk (below_step (gB HB) hb);clear HO454;clear HB;have HO454:=n0_;have HB:=n1_;clear n0_ n1_;(try clear hb);(try clear hb2);(try clear hk);(try clear hi)))
     go_ret2
     exact ⟨_,by first|rfl|(simp [errW_none,errW_some] <;> rfl)|(simp [*,errW_none,errW_some] <;> rfl),by first|exact Kd.R_nil _ _ _ _ _|exact Kd.N_nil _ _ _ _ _|exact Kd.V_nil _ _ _ _ _|exact Kd.Q_nil _ _ _ _ _|exact Kd.S_nil _ _ _ _ _,gB HB⟩
end Go.Proofs.Ytdhdfmmefghijab.P
namespace Go.Proofs.Ytdhdfmmefghijab.P
open Go.RowKit Go.Proofs.YtdhdfmmefghijabW.PrintWords Go.Proofs.YtdhdfmmefghijabW.PrintLast Go.Proofs.YtdhdfmmefghijabW.PrintMore
attribute [local go_sem] max2_int min2_int max_two min_two max_three min_three max_four min_four
set_option linter.unusedVariables false
set_option linter.unusedSimpArgs false
theorem eqA30 (d:Nat) (w:World) (x0 y0:Int) (x1 y1:ByteArray) :
  (Op.equalIn (d+2) 30 (.agg #[.int .i64 x0,.string x1]) (.agg #[.int .i64 y0,.string y1])).run Try.prog w=.ok (x0 == y0 && (x1.toList == y1.toList)) w:=by
 refine eqA_of Try.underlying30 (by kernel_rfl) ?_
 refine eqf_cons (by rfl) (by go_simp;rfl) (by go_simp;rfl) (by go_simp) ?_
 exact eqf_last (by rfl) (by go_simp;rfl) (by go_simp;rfl) (by go_simp)
end Go.Proofs.Ytdhdfmmefghijab.P
namespace Go.Proofs.Ytdhdfmmefghijab.P
open Go.RowKit Go.Proofs.YtdhdfmmefghijabW.PrintWords Go.Proofs.YtdhdfmmefghijabW.PrintLast Go.Proofs.YtdhdfmmefghijabW.PrintMore
attribute [local go_sem] max2_int min2_int max_two min_two max_three min_three max_four min_four
set_option linter.unusedVariables false
set_option linter.unusedSimpArgs false
attribute [local go_sem high] eqA30
def slices_Equal_Llimpl_Row.l0:Nat→List (SRow)→List (SRow)→Int→Int→Option (Bool)
 | 0,_,_,_,_=>none
 | k+1,x0,x1,x12,x13=>if x13<x12 then (if 0≤x13 then (if x13<(x0.length:Int) then (if x13<(x1.length:Int) then (if (!(((rd_TRow x0 x13).f0) == ((rd_TRow x1 x13).f0)) || (!((((rd_TRow x0 x13).f1).toList) == (((rd_TRow x1 x13).f1).toList))))=true then (some false) else (slices_Equal_Llimpl_Row.l0 k x0 x1 x12 (wrap64 (x13+1)))) else (none)) else (none)) else (none)) else (some true)
def slices_Equal_Llimpl_Row.f (k:Nat) (l0:List (SRow)) (l1:List (SRow)):Option (Bool):=if (l0.length:Int)=(l1.length:Int) then (slices_Equal_Llimpl_Row.l0 k l0 l1 (l0.length:Int) 0) else (some false)
set_option maxHeartbeats 8000000 in
set_option maxRecDepth 100000 in
theorem slices_Equal_Llimpl_Row.calls (k:Nat) (A0:Option Addr) (c0:Nat) (l0:List (SRow)) (A1:Option Addr) (c1:Nat) (l1:List (SRow)) (r:Bool) (w:World) (hr0:Kd.C k30 w A0 l0.length l0) (hc0:l0.length≤c0) (hr1:Kd.C k30 w A1 l1.length l1) (hc1:l1.length≤c1) (h:slices_Equal_Llimpl_Row.f k l0 l1=some r) :
  Calls Try.prog 44 #[.slice A0 l0.length c0,.slice A1 l1.length c1] w fun e w'=>e=.returned (.bool r)∧Drawn0 w w':=by
 have hu30:=Try.underlying30
 have HR0:=Aside0.mk hr0
 have HC0:=Aside0.mk hc0
 clear hr0 hc0
 have HR1:=Aside0.mk hr1
 have HC1:=Aside0.mk hc1
 clear hr1 hc1
 have H:(if (l0.length:Int)=(l1.length:Int) then (slices_Equal_Llimpl_Row.l0 k l0 l1 (l0.length:Int) 0) else (some false))=some r:=h
 clear h
 by_cases c3:(l0.length:Int)=(l1.length:Int)
 ·rw [if_pos c3] at H
  have c3b0:((l0.length:Int) == (l1.length:Int))=true:=beq_iff_eq.mpr c3
  have c3b1:((l0.length:Int) != (l1.length:Int))=false:=bne_eq_false_iff_eq.mpr c3
  have c3b2:(l0.length == l1.length)=true:=by first|simpa using c3|(simp at c3 ⊢;omega)
  clear c3
  have H':=Aside0.mk H
  clear H
  go_enter Try.func44,Try.ntmps44
  go_wp2
  repeat (go_quiet (fail);try go_wp2)
  go_loopg [13] k (fun kq v13 w'=>∃ (x13_1:Int),v13=.int .i64 x13_1∧Aside0 (slices_Equal_Llimpl_Row.l0 kq l0 l1 (l0.length:Int) x13_1=some r)∧Aside0 (kq≤k)∧Drawn0 w w')
  case atStart=>exact ⟨(0),(by first|rfl|(simp;done)|(simp [*];done)),H',⟨Nat.le_refl _⟩,by repeat (first|exact Drawn0.refl _|apply Drawn0.step)⟩
  case round =>
   clear H'
   try clear c1 p2 c3 c3b0 c3b1 c3b2
   obtain ⟨x13_1,rfl,HA,HK1,⟨m1,rfl⟩⟩:=hrel
   cases gk with
   | zero=>exact absurd HA.out (by simp [slices_Equal_Llimpl_Row.l0])
   | succ k1 =>
    have H:=HA.out
    clear HA
    simp only [slices_Equal_Llimpl_Row.l0] at H
    by_cases c4:x13_1<(l0.length:Int)
    ·rw [if_pos c4] at H
     have c4b0:decide (x13_1<(l0.length:Int))=true:=decide_eq_true c4
     clear c4
     by_cases c5:0≤x13_1
     ·rw [if_pos c5] at H
      have c5b0:decide (0≤x13_1)=true:=decide_eq_true c5
      clear c5
      by_cases c6:x13_1<(l0.length:Int)
      ·rw [if_pos c6] at H
       have c6b0:decide (x13_1<(l0.length:Int))=true:=decide_eq_true c6
       clear c6
       by_cases c7:x13_1<(l1.length:Int)
       ·rw [if_pos c7] at H
        have c7b0:decide (x13_1<(l1.length:Int))=true:=decide_eq_true c7
        clear c7
        by_cases c8:(!(((rd_TRow l0 x13_1).f0) == ((rd_TRow l1 x13_1).f0)) || (!((((rd_TRow l0 x13_1).f1).toList) == (((rd_TRow l1 x13_1).f1).toList))))=true
        ·rw [if_pos c8] at H
         have c8b0:(!(((rd_TRow l0 x13_1).f0) == ((rd_TRow l1 x13_1).f0)) || (!((((rd_TRow l0 x13_1).f1).toList) == (((rd_TRow l1 x13_1).f1).toList))))=true:=c8
         clear c8
         obtain rfl:=Option.some.inj H
         have p476:0≤(x13_1:Int):=of_decide_eq_true (by first|(with_reducible assumption)|assumption)
         have q476:x13_1<(l0.length:Int):=of_decide_eq_true (by first|(with_reducible assumption)|assumption)
         obtain ⟨ad476,e476,hx476_0,hx476_1⟩:=at_TRow HR0.out x13_1 p476 q476
         cases e476
         replace p476:=eq_true p476
         replace q476:=eq_true q476
         have p477:0≤(x13_1:Int):=of_decide_eq_true (by first|(with_reducible assumption)|assumption)
         have q477:x13_1<(l1.length:Int):=of_decide_eq_true (by first|(with_reducible assumption)|assumption)
         obtain ⟨ad477,e477,hx477_0,hx477_1⟩:=at_TRow HR1.out x13_1 p477 q477
         cases e477
         replace p477:=eq_true p477
         replace q477:=eq_true q477
         go_wp2
         repeat (go_quiet (fail);try go_wp2)
         go_ret
         exact ⟨by first|rfl|(simp;done)|(simp [*];done),by repeat (first|exact Drawn0.refl _|apply Drawn0.step)⟩
        ·rw [if_neg c8] at H
         have c8b0:(!(((rd_TRow l0 x13_1).f0) == ((rd_TRow l1 x13_1).f0)) || (!((((rd_TRow l0 x13_1).f1).toList) == (((rd_TRow l1 x13_1).f1).toList))))=false:=by simpa using c8
         clear c8
         have H':=Aside0.mk H
         clear H
         have p476:0≤(x13_1:Int):=of_decide_eq_true (by first|(with_reducible assumption)|assumption)
         have q476:x13_1<(l0.length:Int):=of_decide_eq_true (by first|(with_reducible assumption)|assumption)
         obtain ⟨ad476,e476,hx476_0,hx476_1⟩:=at_TRow HR0.out x13_1 p476 q476
         cases e476
         replace p476:=eq_true p476
         replace q476:=eq_true q476
         have p477:0≤(x13_1:Int):=of_decide_eq_true (by first|(with_reducible assumption)|assumption)
         have q477:x13_1<(l1.length:Int):=of_decide_eq_true (by first|(with_reducible assumption)|assumption)
         obtain ⟨ad477,e477,hx477_0,hx477_1⟩:=at_TRow HR1.out x13_1 p477 q477
         cases e477
         replace p477:=eq_true p477
         replace q477:=eq_true q477
         go_wp2
         repeat (go_quiet (fail);try go_wp2)
         go_roundg k1
         case measure=>have:=HK1.out;omega
         case rel=>exact ⟨(wrap64 (x13_1+1)),(by first|rfl|(simp;done)|(simp [*];done)),H',⟨by have:=HK1.out;omega⟩,by repeat (first|exact Drawn0.refl _|apply Drawn0.step)⟩
       ·rw [if_neg c7] at H
        exact absurd H (by simp)
      ·rw [if_neg c6] at H
       exact absurd H (by simp)
     ·rw [if_neg c5] at H
      exact absurd H (by simp)
    ·rw [if_neg c4] at H
     have c4b0:decide (x13_1<(l0.length:Int))=false:=decide_eq_false c4
     clear c4
     obtain rfl:=Option.some.inj H
     go_wp2
     repeat (go_quiet (fail);try go_wp2)
     go_ret
     exact ⟨by first|rfl|(simp;done)|(simp [*];done),by repeat (first|exact Drawn0.refl _|apply Drawn0.step)⟩
 ·rw [if_neg c3] at H
  have c3b0:((l0.length:Int) == (l1.length:Int))=false:=beq_eq_false_iff_ne.mpr c3
  have c3b1:((l0.length:Int) != (l1.length:Int))=true:=bne_iff_ne.mpr c3
  have c3b2:(l0.length == l1.length)=false:=by first|simpa using c3|(simp at c3 ⊢;omega)
  obtain rfl:=Option.some.inj H
  go_enter Try.func44,Try.ntmps44
  go_wp2
  repeat (go_quiet (fail);try go_wp2)
  go_ret
  exact ⟨by first|rfl|(simp;done)|(simp [*];done),by repeat (first|exact Drawn0.refl _|apply Drawn0.step)⟩
end Go.Proofs.Ytdhdfmmefghijab.P
namespace Go.Proofs.Ytdhdfmmefghijab.P
open Go.RowKit Go.Proofs.YtdhdfmmefghijabW.PrintWords Go.Proofs.YtdhdfmmefghijabW.PrintLast Go.Proofs.YtdhdfmmefghijabW.PrintMore
attribute [local go_sem] max2_int min2_int max_two min_two max_three min_three max_four min_four
set_option linter.unusedVariables false
set_option linter.unusedSimpArgs false
def impl_LayoutSame.f (k:Nat) (l0:List (SRow)) (l1:List (SRow)):Option (Bool):=(slices_Equal_Llimpl_Row.f k l0 l1).bind fun t478=>(some t478)
set_option maxHeartbeats 8000000 in
set_option maxRecDepth 100000 in
theorem impl_LayoutSame.calls (k:Nat) (A0:Option Addr) (c0:Nat) (l0:List (SRow)) (A1:Option Addr) (c1:Nat) (l1:List (SRow)) (r:Bool) (w:World) (hr0:Kd.C k30 w A0 l0.length l0) (hc0:l0.length≤c0) (hr1:Kd.C k30 w A1 l1.length l1) (hc1:l1.length≤c1) (h:impl_LayoutSame.f k l0 l1=some r) :
  Calls Try.prog 18 #[.slice A0 l0.length c0,.slice A1 l1.length c1] w fun e w'=>e=.returned (.bool r)∧Drawn0 w w':=by
 have HR0:=Aside0.mk hr0
 have HC0:=Aside0.mk hc0
 clear hr0 hc0
 have HR1:=Aside0.mk hr1
 have HC1:=Aside0.mk hc1
 clear hr1 hc1
 have H:((slices_Equal_Llimpl_Row.f k l0 l1).bind fun t478=>(some t478))=some r:=h
 clear h
 replace H:=Option.bind_eq_some_iff.mp H
 obtain ⟨t478,A30,H⟩:=H
 replace H:(some t478)=some r:=H
 have A3:=Aside0.mk A30
 clear A30
 obtain rfl:=Option.some.inj H
 go_enter Try.func18,Try.ntmps18
 go_wp2_with (first|((with_reducible refine gate_callee (f:=44) rfl ?_);refine goesL_ (some 7) rfl rfl Try.func44 (by kernel_rfl) rfl #[.slice A0 l0.length c0,.slice A1 l1.length c1] rfl (by (try simp only [List.map_toArray,List.map_cons,List.map_nil]);first|done|rfl|(simp only [List.length_drop,List.length_take];rfl)) ?_;(with_reducible refine (slices_Equal_Llimpl_Row.calls k _ _ l0 _ _ l1 t478 _ ?side1 ?side2 ?side3 ?side4 A3.out).mono ?_);(case side1=>repeat (first|exact HR0.out|(with_reducible refine Kd.C_alloc ?_ _)|(with_reducible refine Kd.C_drewN ?_ _)|(with_reducible refine Kd.C_drew ?_)));(case side2=>exact HC0.out);(case side3=>repeat (first|exact HR1.out|(with_reducible refine Kd.C_alloc ?_ _)|(with_reducible refine Kd.C_drewN ?_ _)|(with_reducible refine Kd.C_drew ?_)));(case side4=>exact HC1.out);rintro e w' ⟨rfl,⟨nd,rfl⟩⟩;refine ⟨_,rfl,?_⟩))
 go_ret
 exact ⟨by first|rfl|(simp;done)|(simp [*];done),by repeat (first|exact Drawn0.refl _|apply Drawn0.step)⟩
end Go.Proofs.Ytdhdfmmefghijab.P
namespace Go.Proofs.Ytdhdfmmefghijab.P
open Go.RowKit Go.Proofs.YtdhdfmmefghijabW.PrintWords Go.Proofs.YtdhdfmmefghijabW.PrintLast Go.Proofs.YtdhdfmmefghijabW.PrintMore
attribute [local go_sem] max2_int min2_int max_two min_two max_three min_three max_four min_four
set_option linter.unusedVariables false
set_option linter.unusedSimpArgs false
def IsS67 (w0 W:World) (g:Nat) (f0:List Int) (f1:Int):Prop:=∃ A0 c0,W.heap[g]?=some (.cells #[.slice A0 f0.length c0,.int .i64 f1] 67 (0,0))∧w0.heap.size≤g∧Kd.C (Kd.int .u8) w0 A0 f0.length f0
theorem IsS67.grown {w0 W:World} {g:Nat} {f0:List Int} {f1:Int} {W1:World} {row:Option Nat} (h:IsS67 w0 W g f0 f1) (hw:W.grownBy W1 row) (hne:some g≠row):IsS67 w0 W1 g f0 f1:=by
 obtain ⟨A0,c0,hb,hg,hr0⟩:=h
 exact ⟨A0,c0,blk_grown hb hw hne,hg,hr0⟩
theorem IsS67.own_neN {w0 W:World} {g:Nat} {f0:List Int} {f1:Int} {α:Type} {d:Kd α} {e:Nat} {base:Nat} {ok:Nat→Prop} {v:Value} {xs:List α} (h:IsS67 w0 W g f0 f1) (ho:Kd.N d e W base ok v xs) (ht:e≠67):some g≠v.ownBlock:=by
 obtain ⟨A0,c0,hb,hg,hr0⟩:=h
 exact Kd.N_ne ho hb ht
theorem IsS67.fresh {w0 W:World} {g:Nat} {f0:List Int} {f1:Int} (h:IsS67 w0 W g f0 f1):∀ k,W.heap.size≤k→k≠g:=by
 obtain ⟨A0,c0,hb,hg,hr0⟩:=h
 exact Kd.freshB hb
theorem IsS67.kept {w0 W:World} {g:Nat} {f0:List Int} {f1:Int} {W1:World} {S:Nat→Prop} (h:IsS67 w0 W g f0 f1) (hk:Kept W W1 S) (hne:¬ S g):IsS67 w0 W1 g f0 f1:=by
 obtain ⟨A0,c0,hb,hg,hr0⟩:=h
 exact ⟨A0,c0,blk_kept hb hk hne,hg,hr0⟩
theorem IsS67.below {w0 W:World} {g:Nat} {f0:List Int} {f1:Int} {W1:World} (h:IsS67 w0 W g f0 f1) (hw:Below W.heap.size W W1):IsS67 w0 W1 g f0 f1:=h.grown (grown_of_below hw none) (by simp)
theorem IsS67.alloc {w0 W:World} {g:Nat} {f0:List Int} {f1:Int} (h:IsS67 w0 W g f0 f1) (o:Obj):IsS67 w0 (W.alloc o) g f0 f1:=h.below (below_alloc (Below.refl _ _) o)
theorem IsS67.drewN {w0 W:World} {g:Nat} {f0:List Int} {f1:Int} (h:IsS67 w0 W g f0 f1) (m:Nat):IsS67 w0 (W.drewN m) g f0 f1:=h
theorem IsS67.drew {w0 W:World} {g:Nat} {f0:List Int} {f1:Int} (h:IsS67 w0 W g f0 f1):IsS67 w0 W.drew g f0 f1:=h
theorem IsS67.at_ {w0 W:World} {g:Nat} {f0:List Int} {f1:Int} {w':World} {m:Nat} (hq:W.drewN m=w') (h:IsS67 w0 W g f0 f1):IsS67 w0 w' g f0 f1:=by subst hq;exact IsS67.drewN h m
theorem IsS67.apart {w0 W:World} {g:Nat} {f0:List Int} {f1:Int} {α:Type} {d:Kd α} {e:Nat} {base:Nat} {ok:Nat→Prop} {v:Value} {xs:List α} (h:IsS67 w0 W g f0 f1) (ho:d.R e W base ok v xs) (ht:∀ q,q∈e :: d.E→q≠67):d.R e W base (fun k=>ok k∧k≠g) v xs:=by
 obtain ⟨A0,c0,hb,hg,hr0⟩:=h
 exact Kd.R_types ho hb ht
theorem IsS67.own_ne {w0 W:World} {g:Nat} {f0:List Int} {f1:Int} {α:Type} {d:Kd α} {e:Nat} {base:Nat} {ok:Nat→Prop} {v:Value} {xs:List α} (h:IsS67 w0 W g f0 f1) (ho:d.R e W base ok v xs) (ht:e≠67):some g≠v.ownBlock:=by
 obtain ⟨A0,c0,hb,hg,hr0⟩:=h
 exact Kd.R_ne ho hb ht
theorem IsS67.lt {w0 W:World} {g:Nat} {f0:List Int} {f1:Int} (h:IsS67 w0 W g f0 f1):g<W.heap.size:=by
 obtain ⟨A0,c0,hb,hg,hr0⟩:=h
 exact blk_lt hb
theorem IsS67.ge {w0 W:World} {g:Nat} {f0:List Int} {f1:Int} (h:IsS67 w0 W g f0 f1):w0.heap.size≤g:=by
 obtain ⟨A0,c0,hb,hg,hr0⟩:=h
 exact hg
theorem IsS67.ne_blk {w0 W:World} {g:Nat} {f0:List Int} {f1:Int} {a:Nat} {cs:Array Value} {t:TypeId} {fr:Nat×Nat} (h:IsS67 w0 W g f0 f1) (hb2:W.heap[a]?=some (.cells cs t fr)) (ht:t≠67):g≠a:=by
 obtain ⟨A0,c0,hb,hg,hr0⟩:=h
 rintro rfl
 rw [hb] at hb2
 injection hb2 with hb2
 injection hb2 with _ ht2
 exact ht ht2.symm
theorem IsS67.far {w0 W:World} {g:Nat} {f0:List Int} {f1:Int} {p:Addr} (h:IsS67 w0 W g f0 f1) (hne:g≠p.block) (u:Value):IsS67 w0 (W.setCell p u) g f0 f1:=by
 obtain ⟨A0,c0,hb,hg,hr0⟩:=h
 exact ⟨A0,c0,blk_far hb hne u,hg,hr0⟩
theorem cellS67_0 {W:World} {g:Nat} {A0:Option Addr} {c0:Nat} {f0:List Int} {f1:Int} (h:W.heap[g]?=some (.cells #[.slice A0 f0.length c0,.int .i64 f1] 67 (0,0))):W.cell? ⟨g,0,none⟩=some (.slice A0 f0.length c0):=(blk_cell h 0).trans rfl
theorem cellS67_1 {W:World} {g:Nat} {A0:Option Addr} {c0:Nat} {f0:List Int} {f1:Int} (h:W.heap[g]?=some (.cells #[.slice A0 f0.length c0,.int .i64 f1] 67 (0,0))):W.cell? ⟨g,1,none⟩=some (.int .i64 f1):=(blk_cell h 1).trans rfl
theorem IsS67.set_1 {w0 W:World} {g:Nat} {f0:List Int} {f1:Int} (h:IsS67 w0 W g f0 f1) (x:Int):IsS67 w0 (W.setCell ⟨g,1,none⟩ (.int .i64 x)) g f0 x:=by
 obtain ⟨A0,c0,hb,hg,hr0⟩:=h
 exact ⟨A0,c0,by simpa using blk_set hb 1 (.int .i64 x),hg,hr0⟩
def spec_l15Open.f (l0:List Int):Option (List Int×Int):=if (l0.length:Int)>2000 then (if 2000≤(l0.length:Int) then (some (l0.take 2000,0)) else (none)) else (some (l0,0))
set_option maxHeartbeats 8000000 in
set_option maxRecDepth 100000 in
theorem spec_l15Open.calls (A0:Option Addr) (c0:Nat) (l0:List Int) (r1:List Int) (r2:Int) (w0 w:World) (hB:Below w0.heap.size w0 w) (hr0:Kd.C (Kd.int .u8) w0 A0 l0.length l0) (hc0:l0.length≤c0) (h:spec_l15Open.f l0=some (r1,r2)) :
  Calls Try.prog 40 #[.slice A0 l0.length c0] w fun e w'=>∃ g_:Nat,e=.returned (.pointer (some ⟨g_,0,none⟩))∧IsS67 w0 w' g_ r1 r2∧Below w0.heap.size w0 w'∧Below w.heap.size w w':=by
 have hu67:=Try.underlying67
 have HR0:=Aside0.mk hr0
 have HC0:=Aside0.mk hc0
 clear hr0 hc0
 have HBW:=Aside0.mk (Below.refl w.heap.size w)
 have HW0:=Aside0.mk hB.size
 have HB:=Aside0.mk hB
 clear hB
 have H:(if (l0.length:Int)>2000 then (if 2000≤(l0.length:Int) then (some (l0.take 2000,0)) else (none)) else (some (l0,0)))=some (r1,r2):=h
 clear h
 by_cases c2:(l0.length:Int)>2000
 ·rw [if_pos c2] at H
  have c2b0:decide (2000<(l0.length:Int))=true:=decide_eq_true c2
  have c2b1:decide (2000<l0.length)=true:=decide_eq_true (by omega)
  clear c2
  by_cases c3:2000≤(l0.length:Int)
  ·rw [if_pos c3] at H
   have c3b0:=eq_true c3
   have c3b1:decide (2000≤(l0.length:Int))=true:=decide_eq_true c3
   clear c3
   simp only [Option.some.injEq,Prod.mk.injEq] at H
   obtain ⟨rfl,rfl⟩:=H
   obtain ⟨i04,hi04,_,hsz4,_⟩:=info_parts info5
   obtain ⟨hcut4,hA4,hC4⟩:=print_take_of (P:=Try.prog) (Value.int .u8) 0 22 5 .i64 Try.underlying22 hi04 hsz4 A0 c0 l0 2000 (by omega) (of_decide_eq_true (by first|(with_reducible assumption)|assumption)) HC0.out
   have HR101:=Aside0.mk (Kd.C_of_reads (h1:=fun _=>rfl) (hA4 _ (Kd.reads_of_C HR0.out)))
   have HC101:=Aside0.mk hC4
   clear hA4 hC4 hi04 hsz4
   go_enter Try.func40,Try.ntmps40
   go_wp2_with (first|((with_reducible refine gate_dst (N:=10) rfl ?_);refine box_event ?hg (N:=10) ?hd (cs:=#[.slice A0 (l0.take 2000).length c0,.int .i64 0]) (t:=67) ?hr ?_;(case hd=>rfl);(case hg=>rfl);(case hr=>first|(go_simp;done)|(go_simp;rfl));intro gb102 hg w5 hbox hb;have n0_:=Aside0.mk (below_step HBW.out hb);have n1_:=Aside0.mk (below_step (gB HB) hb);have n2_:=Aside0.mk (hbox);have n3_:=Aside0.mk ((by rw [hg];exact (below_size (gB HBW)):w.heap.size≤gb102));have n4_:=Aside0.mk ((Nat.le_trans HW0.out (by rw [hg];exact (below_size (gB HBW)):w.heap.size≤gb102):w0.heap.size≤gb102));clear HBW;clear HB;have HBW:=n0_;have HB:=n1_;have BK102:=n2_;have GW102:=n3_;have GE102:=n4_;clear n0_ n1_ n2_ n3_ n4_;clear hb hbox hg))
   go_ret
   exact ⟨_,rfl,(show IsS67 w0 _ gb102 (l0.take 2000) 0 from ⟨_,_,gK BK102,GE102.out,HR101.out⟩),by repeat (first|exact gB HB|refine below_set ?_ GE102.out),by repeat (first|exact gB HBW|refine below_set ?_ GW102.out)⟩
  ·rw [if_neg c3] at H
   exact absurd H (by simp)
 ·rw [if_neg c2] at H
  have c2b0:decide (2000<(l0.length:Int))=false:=decide_eq_false c2
  have c2b1:decide (2000<l0.length)=false:=decide_eq_false (by omega)
  clear c2
  simp only [Option.some.injEq,Prod.mk.injEq] at H
  obtain ⟨rfl,rfl⟩:=H
  go_enter Try.func40,Try.ntmps40
  go_wp2_with (first|((with_reducible refine gate_dst (N:=10) rfl ?_);refine box_event ?hg (N:=10) ?hd (cs:=#[.slice A0 l0.length c0,.int .i64 0]) (t:=67) ?hr ?_;(case hd=>rfl);(case hg=>rfl);(case hr=>first|(go_simp;done)|(go_simp;rfl));intro gb103 hg w6 hbox hb;have n0_:=Aside0.mk (below_step HBW.out hb);have n1_:=Aside0.mk (below_step (gB HB) hb);have n2_:=Aside0.mk (hbox);have n3_:=Aside0.mk ((by rw [hg];exact (below_size (gB HBW)):w.heap.size≤gb103));have n4_:=Aside0.mk ((Nat.le_trans HW0.out (by rw [hg];exact (below_size (gB HBW)):w.heap.size≤gb103):w0.heap.size≤gb103));clear HBW;clear HB;have HBW:=n0_;have HB:=n1_;have BK103:=n2_;have GW103:=n3_;have GE103:=n4_;clear n0_ n1_ n2_ n3_ n4_;clear hb hbox hg))
  go_ret
  exact ⟨_,rfl,(show IsS67 w0 _ gb103 l0 0 from ⟨_,_,gK BK103,GE103.out,HR0.out⟩),by repeat (first|exact gB HB|refine below_set ?_ GE103.out),by repeat (first|exact gB HBW|refine below_set ?_ GW103.out)⟩
end Go.Proofs.Ytdhdfmmefghijab.P
namespace Go.Proofs.Ytdhdfmmefghijab.P
open Go.RowKit Go.Proofs.YtdhdfmmefghijabW.PrintWords Go.Proofs.YtdhdfmmefghijabW.PrintLast Go.Proofs.YtdhdfmmefghijabW.PrintMore
attribute [local go_sem] max2_int min2_int max_two min_two max_three min_three max_four min_four
set_option linter.unusedVariables false
set_option linter.unusedSimpArgs false
def spec_l15Rd_pick.j0:Nat→Int→Bool→List Int→Int→Option (Int×Int)
 | 0,_,_,_,_=>none
 | k+1,x1,x24,x1000,x1001=>if x24=true then (some (0,x1001)) else (if (wrap64 (x1001 - 1))<(x1000.length:Int) then (if 0≤(wrap64 (x1001 - 1)) then (if x1=0 then (none) else (some (Int.tmod (wrap64 (rd x1000 (wrap64 (x1001 - 1)))) x1,x1001))) else (none)) else (if (x1000.length:Int)=0 then (none) else (if 0≤(Int.tmod (wrap64 (x1001 - 1)) (x1000.length:Int)) then (if (Int.tmod (wrap64 (x1001 - 1)) (x1000.length:Int))<(x1000.length:Int) then (if 0≤(Int.tmod (wrap64 ((wrap64 ((wrap64 (x1001 - 1)) * 7))+3)) (x1000.length:Int)) then (if (Int.tmod (wrap64 ((wrap64 ((wrap64 (x1001 - 1)) * 7))+3)) (x1000.length:Int))<(x1000.length:Int) then (if x1=0 then (none) else (some (Int.tmod (Go.bits .xor .i64 (wrap64 ((wrap64 ((wrap64 ((wrap64 ((wrap64 (rd x1000 (Int.tmod (wrap64 (x1001 - 1)) (x1000.length:Int)))) * 131))+(wrap64 ((wrap64 (rd x1000 (Int.tmod (wrap64 ((wrap64 ((wrap64 (x1001 - 1)) * 7))+3)) (x1000.length:Int)))) * 1117))))+(wrap64 ((wrap64 (x1001 - 1)) * 29))))+(wrap64 ((wrap64 (Int.tdiv (wrap64 (x1001 - 1)) (x1000.length:Int))) * 53)))) (wrap64 (Int.tdiv (wrap64 ((wrap64 ((wrap64 ((wrap64 ((wrap64 (rd x1000 (Int.tmod (wrap64 (x1001 - 1)) (x1000.length:Int)))) * 131))+(wrap64 ((wrap64 (rd x1000 (Int.tmod (wrap64 ((wrap64 ((wrap64 (x1001 - 1)) * 7))+3)) (x1000.length:Int)))) * 1117))))+(wrap64 ((wrap64 (x1001 - 1)) * 29))))+(wrap64 ((wrap64 (Int.tdiv (wrap64 (x1001 - 1)) (x1000.length:Int))) * 53)))) 64))) x1,x1001))) else (none)) else (none)) else (none)) else (none))))
def spec_l15Rd_pick.f (k:Nat) (s0_0:List Int) (s0_1:Int) (a1:Int):Option (Int×Int):=if a1<1 then (spec_l15Rd_pick.j0 k a1 true s0_0 (wrap64 (s0_1+1))) else (spec_l15Rd_pick.j0 k a1 ((s0_0.length:Int) == 0) s0_0 (wrap64 (s0_1+1)))
set_option maxHeartbeats 8000000 in
set_option maxRecDepth 100000 in
theorem spec_l15Rd_pick.calls (k:Nat) (g:Nat) (s0_0:List Int) (s0_1:Int) (a1:Int) (r1:Int) (r2:Int) (w0 w:World) (hI:IsS67 w0 w g s0_0 s0_1) (hB:Below w0.heap.size w0 w) (h:spec_l15Rd_pick.f k s0_0 s0_1 a1=some (r1,r2)) :
  Calls Try.prog 54 #[.pointer (some ⟨g,0,none⟩),.int .i64 a1] w fun e w'=>e=.returned (.int .i64 r1)∧IsS67 w0 w' g s0_0 r2∧Below w0.heap.size w0 w'∧KeepBut w w' g none:=by
 have HI0:=Aside0.mk hI
 have HK:=Aside0.mk (KeepBut.refl w g none)
 have HL:=Aside0.mk hB.size
 clear hI
 have HW0:=Aside0.mk hB.size
 have HB:=Aside0.mk hB
 clear hB
 have H:(if a1<1 then (spec_l15Rd_pick.j0 k a1 true s0_0 (wrap64 (s0_1+1))) else (spec_l15Rd_pick.j0 k a1 ((s0_0.length:Int) == 0) s0_0 (wrap64 (s0_1+1))))=some (r1,r2):=h
 clear h
 have HC3:=Aside0.mk H
 clear H
 obtain ⟨ASz4_0,cSz4_0,HGz4,hgz4,HSz4_0⟩:=HI0.out
 have hcz4_0:=cellS67_0 HGz4
 have hcz4_1:=cellS67_1 HGz4
 have hfz4_1:=blk_frozen HGz4 1
 clear HGz4 hgz4
 go_enter Try.func54,Try.ntmps54
 go_upto_region 2 with (fail)
 repeat (go_quiet (fail);go_upto_region 2 with (fail))
 go_cut [24] (fun v24 wc=>∃ (kq:Nat) (x24_2:Bool),v24=.bool x24_2∧Aside0 (spec_l15Rd_pick.j0 kq a1 x24_2 s0_0 (wrap64 (s0_1+1))=some (r1,r2))∧Aside0 (kq≤k)∧Aside0 (IsS67 w0 wc g s0_0 (wrap64 (s0_1+1)))∧Aside0 (KeepBut w wc g none)∧Aside0 (Below w0.heap.size w0 wc))
 case first =>
  have H:=HC3.out
  clear HC3
  by_cases c5:a1<1
  ·rw [if_pos c5] at H
   have c5b0:decide (a1<1)=true:=decide_eq_true c5
   clear c5
   (first|rw [c5b0]|(simp only [i64_w,i32_w];rw [c5b0])|skip)
   have H':=Aside0.mk H
   clear H
   go_wp2
   repeat (go_quiet (fail);try go_wp2)
   go_meet
   case rel=>exact ⟨_,(true),(by first|rfl|(simp;done)|(simp [*];done)),H',⟨by first|omega|exact Nat.le_refl _⟩,⟨by repeat (first|(with_reducible first|exact HI0.out|apply IsS67.alloc|apply IsS67.drewN|apply IsS67.drew|apply IsS67.set_1)|exact HI0.out)⟩,⟨by repeat (first|exact gW HK|apply KeepBut.set_)⟩,⟨by repeat (first|exact gB HB|refine below_set ?_ (IsS67.ge HI0.out))⟩⟩
  ·rw [if_neg c5] at H
   have c5b0:decide (a1<1)=false:=decide_eq_false c5
   clear c5
   (first|rw [c5b0]|(simp only [i64_w,i32_w];rw [c5b0])|skip)
   have H':=Aside0.mk H
   clear H
   obtain ⟨ASz6_0,cSz6_0,HGz6,hgz6,HSz6_0⟩:=HI0.out
   have hcz6_0:=cellS67_0 HGz6
   have hcz6_1:=cellS67_1 HGz6
   have hfz6_1:=blk_frozen HGz6 1
   clear HGz6 hgz6
   go_wp2
   repeat (go_quiet (fail);try go_wp2)
   go_meet
   case rel=>exact ⟨_,(((s0_0.length:Int) == 0)),(by first|rfl|(simp;done)|(simp [*];done)),H',⟨by first|omega|exact Nat.le_refl _⟩,⟨by repeat (first|(with_reducible first|exact HI0.out|apply IsS67.alloc|apply IsS67.drewN|apply IsS67.drew|apply IsS67.set_1)|exact HI0.out)⟩,⟨by repeat (first|exact gW HK|apply KeepBut.set_)⟩,⟨by repeat (first|exact gB HB|refine below_set ?_ (IsS67.ge HI0.out))⟩⟩
 case rest =>
  clear HC3
  try clear p2 c5 c5b0 p6 hcz4_0 hcz4_1 hcz6_0 hcz6_1 hfz4_1 hfz6_1
  obtain ⟨kq,x24_2,rfl,HA,HJ2,HI0,HK,HB⟩:=hcut
  cases kq with
  | zero=>exact absurd HA.out (by simp [spec_l15Rd_pick.j0])
  | succ kj2 =>
   have H:=HA.out
   clear HA
   simp only [spec_l15Rd_pick.j0] at H
   by_cases c7:x24_2=true
   ·subst c7
    have H1:(some (0,(wrap64 (s0_1+1))))=some (r1,r2):=by rw [if_pos rfl] at H;exact H
    clear H
    have H:=H1
    clear H1
    simp only [Option.some.injEq,Prod.mk.injEq] at H
    obtain ⟨rfl,rfl⟩:=H
    go_wp2
    repeat (go_quiet (fail);try go_wp2)
    go_ret
    exact ⟨by first|rfl|(simp [errW_none,errW_some] <;> rfl)|(simp [*,errW_none,errW_some] <;> rfl),by repeat (first|(with_reducible first|exact HI0.out|apply IsS67.alloc|apply IsS67.drewN|apply IsS67.drew|apply IsS67.set_1)|exact HI0.out),by repeat (first|exact gB HB|refine below_set ?_ (IsS67.ge HI0.out)),by repeat (first|exact gW HK|apply KeepBut.set_)⟩
   ·replace c7:=Bool.eq_false_iff.mpr c7
    subst c7
    have H1:(if (wrap64 ((wrap64 (s0_1+1)) - 1))<(s0_0.length:Int) then (if 0≤(wrap64 ((wrap64 (s0_1+1)) - 1)) then (if a1=0 then (none) else (some (Int.tmod (wrap64 (rd s0_0 (wrap64 ((wrap64 (s0_1+1)) - 1)))) a1,(wrap64 (s0_1+1))))) else (none)) else (if (s0_0.length:Int)=0 then (none) else (if 0≤(Int.tmod (wrap64 ((wrap64 (s0_1+1)) - 1)) (s0_0.length:Int)) then (if (Int.tmod (wrap64 ((wrap64 (s0_1+1)) - 1)) (s0_0.length:Int))<(s0_0.length:Int) then (if 0≤(Int.tmod (wrap64 ((wrap64 ((wrap64 ((wrap64 (s0_1+1)) - 1)) * 7))+3)) (s0_0.length:Int)) then (if (Int.tmod (wrap64 ((wrap64 ((wrap64 ((wrap64 (s0_1+1)) - 1)) * 7))+3)) (s0_0.length:Int))<(s0_0.length:Int) then (if a1=0 then (none) else (some (Int.tmod (Go.bits .xor .i64 (wrap64 ((wrap64 ((wrap64 ((wrap64 ((wrap64 (rd s0_0 (Int.tmod (wrap64 ((wrap64 (s0_1+1)) - 1)) (s0_0.length:Int)))) * 131))+(wrap64 ((wrap64 (rd s0_0 (Int.tmod (wrap64 ((wrap64 ((wrap64 ((wrap64 (s0_1+1)) - 1)) * 7))+3)) (s0_0.length:Int)))) * 1117))))+(wrap64 ((wrap64 ((wrap64 (s0_1+1)) - 1)) * 29))))+(wrap64 ((wrap64 (Int.tdiv (wrap64 ((wrap64 (s0_1+1)) - 1)) (s0_0.length:Int))) * 53)))) (wrap64 (Int.tdiv (wrap64 ((wrap64 ((wrap64 ((wrap64 ((wrap64 (rd s0_0 (Int.tmod (wrap64 ((wrap64 (s0_1+1)) - 1)) (s0_0.length:Int)))) * 131))+(wrap64 ((wrap64 (rd s0_0 (Int.tmod (wrap64 ((wrap64 ((wrap64 ((wrap64 (s0_1+1)) - 1)) * 7))+3)) (s0_0.length:Int)))) * 1117))))+(wrap64 ((wrap64 ((wrap64 (s0_1+1)) - 1)) * 29))))+(wrap64 ((wrap64 (Int.tdiv (wrap64 ((wrap64 (s0_1+1)) - 1)) (s0_0.length:Int))) * 53)))) 64))) a1,(wrap64 (s0_1+1))))) else (none)) else (none)) else (none)) else (none))))=some (r1,r2):=by rw [if_neg (show ¬ (false=true) by decide)] at H;exact H
    clear H
    have H:=H1
    clear H1
    by_cases c8:(wrap64 ((wrap64 (s0_1+1)) - 1))<(s0_0.length:Int)
    ·rw [if_pos c8] at H
     have c8b0:decide ((wrap64 ((wrap64 (s0_1+1)) - 1))<(s0_0.length:Int))=true:=decide_eq_true c8
     clear c8
     obtain ⟨ji9,hji9⟩:∃ j_:Int,(wrap64 ((wrap64 (s0_1+1)) - 1))=j_:=⟨_,rfl⟩
     replace H:(if 0≤(ji9) then (if a1=0 then (none) else (some (Int.tmod (wrap64 (rd s0_0 (ji9))) a1,(wrap64 (s0_1+1))))) else (none))=some (r1,r2):=by first|(rw [hji9] at H;exact H)|(simp only [hji9] at H ⊢;exact H)
     (try rw [hji9] at c8b0)
     have hji9w:(IntKind.i64.wrap ((wrap64 (s0_1+1)) - 1))=ji9:=(i64_w _).trans hji9
     by_cases c10:0≤(ji9)
     ·rw [if_pos c10] at H
      have c10b0:decide (0≤(ji9))=true:=decide_eq_true c10
      clear c10
      by_cases c11:a1=0
      ·rw [if_pos c11] at H
       exact absurd H (by simp)
      ·rw [if_neg c11] at H
       have c11b0:(a1 == 0)=false:=beq_eq_false_iff_ne.mpr c11
       have c11b1:(a1 != 0)=true:=bne_iff_ne.mpr c11
       simp only [Option.some.injEq,Prod.mk.injEq] at H
       obtain ⟨rfl,rfl⟩:=H
       obtain ⟨ASz12_0,cSz12_0,HGz12,hgz12,HSz12_0⟩:=HI0.out
       have hcz12_0:=cellS67_0 HGz12
       have hcz12_1:=cellS67_1 HGz12
       have hfz12_1:=blk_frozen HGz12 1
       clear HGz12 hgz12
       have p104:0≤((ji9):Int):=of_decide_eq_true (by first|(with_reducible assumption)|assumption)
       have q104:(ji9)<(s0_0.length:Int):=of_decide_eq_true (by first|(with_reducible assumption)|assumption)
       obtain ⟨ad104,e104,hx104_0⟩:=Kd.at_int HSz12_0 (ji9) p104 q104
       cases e104
       replace hx104_0:=pw_cell_below HB.out hx104_0
       replace p104:=eq_true p104
       replace q104:=eq_true q104
       go_wp2
       repeat (go_quiet (fail);try go_wp2)
       go_ret
       exact ⟨by first|rfl|(simp [errW_none,errW_some] <;> rfl)|(simp only [← hji9];first|rfl|(simp [errW_none,errW_some] <;> rfl))|(simp [*,errW_none,errW_some] <;> rfl),by repeat (first|(with_reducible first|exact HI0.out|apply IsS67.alloc|apply IsS67.drewN|apply IsS67.drew|apply IsS67.set_1)|exact HI0.out),by repeat (first|exact gB HB|refine below_set ?_ (IsS67.ge HI0.out)),by repeat (first|exact gW HK|apply KeepBut.set_)⟩
     ·rw [if_neg c10] at H
      exact absurd H (by simp)
    ·rw [if_neg c8] at H
     have c8b0:decide ((wrap64 ((wrap64 (s0_1+1)) - 1))<(s0_0.length:Int))=false:=decide_eq_false c8
     clear c8
     by_cases c13:(s0_0.length:Int)=0
     ·rw [if_pos c13] at H
      exact absurd H (by simp)
     ·rw [if_neg c13] at H
      have c13b0:((s0_0.length:Int) == 0)=false:=beq_eq_false_iff_ne.mpr c13
      have c13b1:((s0_0.length:Int) != 0)=true:=bne_iff_ne.mpr c13
      have c13b2:¬ (s0_0=[]):=fun h_=>c13 (by rw [h_];rfl)
      obtain ⟨ji14,hji14⟩:∃ j_:Int,(Int.tmod (wrap64 ((wrap64 (s0_1+1)) - 1)) (s0_0.length:Int))=j_:=⟨_,rfl⟩
      replace H:(if 0≤(ji14) then (if (ji14)<(s0_0.length:Int) then (if 0≤(Int.tmod (wrap64 ((wrap64 ((wrap64 ((wrap64 (s0_1+1)) - 1)) * 7))+3)) (s0_0.length:Int)) then (if (Int.tmod (wrap64 ((wrap64 ((wrap64 ((wrap64 (s0_1+1)) - 1)) * 7))+3)) (s0_0.length:Int))<(s0_0.length:Int) then (if a1=0 then (none) else (some (Int.tmod (Go.bits .xor .i64 (wrap64 ((wrap64 ((wrap64 ((wrap64 ((wrap64 (rd s0_0 (ji14))) * 131))+(wrap64 ((wrap64 (rd s0_0 (Int.tmod (wrap64 ((wrap64 ((wrap64 ((wrap64 (s0_1+1)) - 1)) * 7))+3)) (s0_0.length:Int)))) * 1117))))+(wrap64 ((wrap64 ((wrap64 (s0_1+1)) - 1)) * 29))))+(wrap64 ((wrap64 (Int.tdiv (wrap64 ((wrap64 (s0_1+1)) - 1)) (s0_0.length:Int))) * 53)))) (wrap64 (Int.tdiv (wrap64 ((wrap64 ((wrap64 ((wrap64 ((wrap64 (rd s0_0 (ji14))) * 131))+(wrap64 ((wrap64 (rd s0_0 (Int.tmod (wrap64 ((wrap64 ((wrap64 ((wrap64 (s0_1+1)) - 1)) * 7))+3)) (s0_0.length:Int)))) * 1117))))+(wrap64 ((wrap64 ((wrap64 (s0_1+1)) - 1)) * 29))))+(wrap64 ((wrap64 (Int.tdiv (wrap64 ((wrap64 (s0_1+1)) - 1)) (s0_0.length:Int))) * 53)))) 64))) a1,(wrap64 (s0_1+1))))) else (none)) else (none)) else (none)) else (none))=some (r1,r2):=by first|(rw [hji14] at H;exact H)|(simp only [hji14] at H ⊢;exact H)
      by_cases c15:0≤(ji14)
      ·rw [if_pos c15] at H
       have c15b0:decide (0≤(ji14))=true:=decide_eq_true c15
       clear c15
       by_cases c16:(ji14)<(s0_0.length:Int)
       ·rw [if_pos c16] at H
        have c16b0:decide ((ji14)<(s0_0.length:Int))=true:=decide_eq_true c16
        clear c16
        obtain ⟨ji17,hji17⟩:∃ j_:Int,(Int.tmod (wrap64 ((wrap64 ((wrap64 ((wrap64 (s0_1+1)) - 1)) * 7))+3)) (s0_0.length:Int))=j_:=⟨_,rfl⟩
        replace H:(if 0≤(ji17) then (if (ji17)<(s0_0.length:Int) then (if a1=0 then (none) else (some (Int.tmod (Go.bits .xor .i64 (wrap64 ((wrap64 ((wrap64 ((wrap64 ((wrap64 (rd s0_0 (ji14))) * 131))+(wrap64 ((wrap64 (rd s0_0 (ji17))) * 1117))))+(wrap64 ((wrap64 ((wrap64 (s0_1+1)) - 1)) * 29))))+(wrap64 ((wrap64 (Int.tdiv (wrap64 ((wrap64 (s0_1+1)) - 1)) (s0_0.length:Int))) * 53)))) (wrap64 (Int.tdiv (wrap64 ((wrap64 ((wrap64 ((wrap64 ((wrap64 (rd s0_0 (ji14))) * 131))+(wrap64 ((wrap64 (rd s0_0 (ji17))) * 1117))))+(wrap64 ((wrap64 ((wrap64 (s0_1+1)) - 1)) * 29))))+(wrap64 ((wrap64 (Int.tdiv (wrap64 ((wrap64 (s0_1+1)) - 1)) (s0_0.length:Int))) * 53)))) 64))) a1,(wrap64 (s0_1+1))))) else (none)) else (none))=some (r1,r2):=by first|(rw [hji17] at H;exact H)|(simp only [hji17] at H ⊢;exact H)
        by_cases c18:0≤(ji17)
        ·rw [if_pos c18] at H
         have c18b0:decide (0≤(ji17))=true:=decide_eq_true c18
         clear c18
         by_cases c19:(ji17)<(s0_0.length:Int)
         ·rw [if_pos c19] at H
          have c19b0:decide ((ji17)<(s0_0.length:Int))=true:=decide_eq_true c19
          clear c19
          by_cases c20:a1=0
          ·rw [if_pos c20] at H
           exact absurd H (by simp)
          ·rw [if_neg c20] at H
           have c20b0:(a1 == 0)=false:=beq_eq_false_iff_ne.mpr c20
           have c20b1:(a1 != 0)=true:=bne_iff_ne.mpr c20
           simp only [Option.some.injEq,Prod.mk.injEq] at H
           obtain ⟨rfl,rfl⟩:=H
           obtain ⟨ASz21_0,cSz21_0,HGz21,hgz21,HSz21_0⟩:=HI0.out
           have hcz21_0:=cellS67_0 HGz21
           have hcz21_1:=cellS67_1 HGz21
           have hfz21_1:=blk_frozen HGz21 1
           clear HGz21 hgz21
           have p105:0≤((ji14):Int):=of_decide_eq_true (by first|(with_reducible assumption)|assumption)
           have q105:(ji14)<(s0_0.length:Int):=of_decide_eq_true (by first|(with_reducible assumption)|assumption)
           obtain ⟨ad105,e105,hx105_0⟩:=Kd.at_int HSz21_0 (ji14) p105 q105
           cases e105
           replace hx105_0:=pw_cell_below HB.out hx105_0
           replace p105:=eq_true p105
           replace q105:=eq_true q105
           have p106:0≤((ji17):Int):=of_decide_eq_true (by first|(with_reducible assumption)|assumption)
           have q106:(ji17)<(s0_0.length:Int):=of_decide_eq_true (by first|(with_reducible assumption)|assumption)
           obtain ⟨ad106,e106,hx106_0⟩:=Kd.at_int HSz21_0 (ji17) p106 q106
           obtain rfl:ad105=ad106:=(by injection e106)
           replace hx106_0:=pw_cell_below HB.out hx106_0
           replace p106:=eq_true p106
           replace q106:=eq_true q106
           go_wp2
           repeat (go_quiet (fail);try go_wp2)
           go_ret
           exact ⟨by first|rfl|(simp [errW_none,errW_some] <;> rfl)|(simp only [← hji14,← hji17];first|rfl|(simp [errW_none,errW_some] <;> rfl))|(simp [*,errW_none,errW_some] <;> rfl),by repeat (first|(with_reducible first|exact HI0.out|apply IsS67.alloc|apply IsS67.drewN|apply IsS67.drew|apply IsS67.set_1)|exact HI0.out),by repeat (first|exact gB HB|refine below_set ?_ (IsS67.ge HI0.out)),by repeat (first|exact gW HK|apply KeepBut.set_)⟩
         ·rw [if_neg c19] at H
          exact absurd H (by simp)
        ·rw [if_neg c18] at H
         exact absurd H (by simp)
       ·rw [if_neg c16] at H
        exact absurd H (by simp)
      ·rw [if_neg c15] at H
       exact absurd H (by simp)
end Go.Proofs.Ytdhdfmmefghijab.P
namespace Go.Proofs.Ytdhdfmmefghijab.P
open Go.RowKit Go.Proofs.YtdhdfmmefghijabW.PrintWords Go.Proofs.YtdhdfmmefghijabW.PrintLast Go.Proofs.YtdhdfmmefghijabW.PrintMore
attribute [local go_sem] max2_int min2_int max_two min_two max_three min_three max_four min_four
set_option linter.unusedVariables false
set_option linter.unusedSimpArgs false
def spec_l15Rd_num.f (k:Nat) (s0_0:List Int) (s0_1:Int) (l1:List Int):Option (Int×Int):=(spec_l15Rd_pick.f k s0_0 s0_1 (l1.length:Int)).bind fun bt107=>(if 0≤bt107.1 then (if bt107.1<(l1.length:Int) then (some (rd l1 bt107.1,bt107.2)) else (none)) else (none))
set_option maxHeartbeats 8000000 in
set_option maxRecDepth 100000 in
theorem spec_l15Rd_num.calls (k:Nat) (g:Nat) (s0_0:List Int) (s0_1:Int) (A1:Option Addr) (c1:Nat) (l1:List Int) (r1:Int) (r2:Int) (w0 w:World) (hI:IsS67 w0 w g s0_0 s0_1) (hB:Below w0.heap.size w0 w) (hr1:Kd.C (Kd.int .i64) w A1 l1.length l1) (hc1:l1.length≤c1) (hf1:∀ ad,A1=some ad→0<l1.length→ad.block≠g) (h:spec_l15Rd_num.f k s0_0 s0_1 l1=some (r1,r2)) :
  Calls Try.prog 46 #[.pointer (some ⟨g,0,none⟩),.slice A1 l1.length c1] w fun e w'=>e=.returned (.int .i64 r1)∧IsS67 w0 w' g s0_0 r2∧Below w0.heap.size w0 w'∧KeepBut w w' g none:=by
 have HR1:=Aside0.mk hr1
 have HC1:=Aside0.mk hc1
 clear hr1 hc1
 have HI0:=Aside0.mk hI
 have HK:=Aside0.mk (KeepBut.refl w g none)
 have HL:=Aside0.mk hB.size
 clear hI
 have HW0:=Aside0.mk hB.size
 have HB:=Aside0.mk hB
 clear hB
 have H:((spec_l15Rd_pick.f k s0_0 s0_1 (l1.length:Int)).bind fun bt107=>(if 0≤bt107.1 then (if bt107.1<(l1.length:Int) then (some (rd l1 bt107.1,bt107.2)) else (none)) else (none)))=some (r1,r2):=h
 clear h
 replace H:=Option.bind_eq_some_iff.mp H
 obtain ⟨⟨t107,t108⟩,A30,H⟩:=H
 replace H:(if 0≤t107 then (if t107<(l1.length:Int) then (some (rd l1 t107,t108)) else (none)) else (none))=some (r1,r2):=H
 have A3:=Aside0.mk A30
 clear A30
 by_cases c4:0≤t107
 ·rw [if_pos c4] at H
  have c4b0:decide (0≤t107)=true:=decide_eq_true c4
  clear c4
  by_cases c5:t107<(l1.length:Int)
  ·rw [if_pos c5] at H
   have c5b0:decide (t107<(l1.length:Int))=true:=decide_eq_true c5
   clear c5
   simp only [Option.some.injEq,Prod.mk.injEq] at H
   obtain ⟨rfl,rfl⟩:=H
   go_enter Try.func46,Try.ntmps46
   go_wp2_with (first|((with_reducible refine gate_callee (f:=54) rfl ?_);refine goesL_ (some 9) rfl rfl Try.func54 (by kernel_rfl) rfl #[.pointer (some ⟨g,0,none⟩),.int .i64 (l1.length:Int)] rfl (by (try simp only [List.map_toArray,List.map_cons,List.map_nil]);first|done|rfl|(simp only [List.length_drop,List.length_take];rfl)) ?_;(with_reducible refine (spec_l15Rd_pick.calls k g s0_0 s0_1 (l1.length:Int) t107 t108 w0 _ ?side1 ?side2 A3.out).mono ?_);(case side1=>repeat (first|(with_reducible first|exact HI0.out|apply IsS67.alloc|apply IsS67.drewN|apply IsS67.drew|apply IsS67.set_1)|exact HI0.out));(case side2=>repeat (first|exact gB HB|refine below_set ?_ (IsS67.ge HI0.out)));rintro e w6 ⟨rfl,hi,hb,hk⟩;refine ⟨_,rfl,?_⟩;have n0_:=Aside0.mk (KeepBut.trans (by repeat (first|exact gW HK|apply KeepBut.set_)) hk (.inl rfl));have n1_:=Aside0.mk (hb);have n2_:=Aside0.mk (hi);clear HK;clear HB;clear HI0;have HK:=n0_;have HB:=n1_;have HI0:=n2_;clear n0_ n1_ n2_;(try clear hb);(try clear hb2);(try clear hk);(try clear hi);have p109:0≤(t107:Int):=of_decide_eq_true (by first|(with_reducible assumption)|assumption);have q109:t107<(l1.length:Int):=of_decide_eq_true (by first|(with_reducible assumption)|assumption);obtain ⟨ad109,e109,hx109_0⟩:=Kd.at_int HR1.out t107 p109 q109;cases e109;replace hx109_0:=keep_cell HK.out hx109_0 (by first|(rw [add_block];exact hf1 _ rfl (by omega))|exact hf1 _ rfl (by omega)|exact hf1 ad109 rfl (by omega));replace p109:=eq_true p109;replace q109:=eq_true q109))
   go_ret
   exact ⟨by first|rfl|(simp [errW_none,errW_some] <;> rfl)|(simp [*,errW_none,errW_some] <;> rfl),by repeat (first|(with_reducible first|exact HI0.out|apply IsS67.alloc|apply IsS67.drewN|apply IsS67.drew|apply IsS67.set_1)|exact HI0.out),by repeat (first|exact gB HB|refine below_set ?_ (IsS67.ge HI0.out)),by repeat (first|exact gW HK|apply KeepBut.set_)⟩
  ·rw [if_neg c5] at H
   exact absurd H (by simp)
 ·rw [if_neg c4] at H
  exact absurd H (by simp)
end Go.Proofs.Ytdhdfmmefghijab.P
namespace Go.Proofs.Ytdhdfmmefghijab.P
open Go.RowKit Go.Proofs.YtdhdfmmefghijabW.PrintWords Go.Proofs.YtdhdfmmefghijabW.PrintLast Go.Proofs.YtdhdfmmefghijabW.PrintMore
attribute [local go_sem] max2_int min2_int max_two min_two max_three min_three max_four min_four
set_option linter.unusedVariables false
set_option linter.unusedSimpArgs false
mutual
def spec_l1Count.l0:Nat→Int→Int→Int→Int→ByteArray→List (SDoc)→Option (Int)
 | 0,_,_,_,_,_,_=>none
 | k+1,x3,x4,x172000,x172001,x172002,x172003=>if x4<(x172003.length:Int) then (if 0≤x4 then ((spec_l1Count.f k ((rd_TDoc x172003 x4).f0) ((rd_TDoc x172003 x4).f1) ((rd_TDoc x172003 x4).f2) ((rd_TDoc x172003 x4).f3)).bind fun t173=>(spec_l1Count.l0 k (wrap64 (x3+t173)) (wrap64 (x4+1)) x172000 x172001 x172002 x172003)) else (none)) else (some x3)
def spec_l1Count.f:Nat→Int→Int→ByteArray→List (SDoc)→Option (Int)
 | 0,_,_,_,_=>none
 | k+1,a0_0,a0_1,a0_2,l0_3=>spec_l1Count.l0 k 1 0 a0_0 a0_1 a0_2 l0_3
end
set_option maxHeartbeats 8000000 in
set_option maxRecDepth 100000 in
theorem spec_l1Count.calls (k:Nat):∀ (a0_0:Int) (a0_1:Int) (a0_2:ByteArray) (A0_3:Option Addr) (c0_3:Nat) (l0_3:List (SDoc)) (r:Int) (w:World) (hr0_3:Kd.C k39 w A0_3 l0_3.length l0_3) (hc0_3:l0_3.length≤c0_3) (h:spec_l1Count.f k a0_0 a0_1 a0_2 l0_3=some r),
  Calls Try.prog 72 #[.agg #[.int .i64 a0_0,.int .i64 a0_1,.string a0_2,.slice A0_3 l0_3.length c0_3]] w fun e w'=>e=.returned (.int .i64 r)∧Below w.heap.size w w':=by
 induction k using Nat.strongRecOn with
 | _ k ih =>
 intro a0_0 a0_1 a0_2 A0_3 c0_3 l0_3 r w hr0_3 hc0_3 h
 cases k with
 | zero=>exact absurd h (by simp [spec_l1Count.f])
 | succ k =>
 simp only [spec_l1Count.f] at h
 have hu39:=Try.underlying39
 have HR0_3:=Aside0.mk hr0_3
 have HC0_3:=Aside0.mk hc0_3
 clear hr0_3 hc0_3
 have HB:=Aside0.mk (Below.refl w.heap.size w)
 have H:(spec_l1Count.l0 k 1 0 a0_0 a0_1 a0_2 l0_3)=some r:=h
 clear h
 have H':=Aside0.mk H
 clear H
 go_enter Try.func72,Try.ntmps72
 go_wp2_with (first|((with_reducible refine gate_dst (N:=1) rfl ?_);refine box_event ?hg (N:=1) ?hd (cs:=#[.int .i64 a0_0,.int .i64 a0_1,.string a0_2,.slice A0_3 l0_3.length c0_3]) (t:=39) ?hr ?_;(case hd=>rfl);(case hg=>rfl);(case hr=>first|(go_simp;done)|(go_simp;rfl));intro gb171 hg w2 hbox hb;have n0_:=Aside0.mk (below_step (gB HB) hb);have n1_:=Aside0.mk (hbox);have n2_:=Aside0.mk ((by rw [hg];exact (below_size (gB HB)):w.heap.size≤gb171));have n3_:=Aside0.mk ((by rw [hg];exact (below_size (gB HB)):w.heap.size≤gb171));clear HB;have HB:=n0_;have BK171:=n1_;have GW171:=n2_;have GE171:=n3_;clear n0_ n1_ n2_ n3_;clear hb hbox hg))
 go_loopg [3,4] k (fun kq v3 v4 w'=>∃ (x3_1:Int) (x4_1:Int),v3=.int .i64 x3_1∧v4=.int .i64 x4_1∧Aside0 (spec_l1Count.l0 kq x3_1 x4_1 a0_0 a0_1 a0_2 l0_3=some r)∧Aside0 (kq≤k)∧Aside0 (w'.heap[gb171]?=some (.cells #[.int .i64 a0_0,.int .i64 a0_1,.string a0_2,(.slice A0_3 l0_3.length c0_3)] 39 (0,0)))∧Aside0 (Below w.heap.size w w'))
 case atStart=>exact ⟨(1),(0),(by first|rfl|(simp;done)|(simp [*];done)),(by first|rfl|(simp;done)|(simp [*];done)),H',⟨Nat.le_refl _⟩,⟨gK BK171⟩,⟨by repeat (first|exact gB HB|refine below_set ?_ GE171.out)⟩⟩
 case round =>
  clear H'
  try clear p2
  (try clear BK171);(try clear HB)
  obtain ⟨x3_1,x4_1,rfl,rfl,HA,HK1,BK171,HB⟩:=hrel
  cases gk with
  | zero=>exact absurd HA.out (by simp [spec_l1Count.l0])
  | succ k1 =>
   have H:=HA.out
   clear HA
   simp only [spec_l1Count.l0] at H
   by_cases c3:x4_1<(l0_3.length:Int)
   ·rw [if_pos c3] at H
    have c3b0:decide (x4_1<(l0_3.length:Int))=true:=decide_eq_true c3
    clear c3
    by_cases c4:0≤x4_1
    ·rw [if_pos c4] at H
     have c4b0:decide (0≤x4_1)=true:=decide_eq_true c4
     clear c4
     replace H:=Option.bind_eq_some_iff.mp H
     obtain ⟨t173,A50,H⟩:=H
     replace H:(spec_l1Count.l0 k1 (wrap64 (x3_1+t173)) (wrap64 (x4_1+1)) a0_0 a0_1 a0_2 l0_3)=some r:=H
     have A5:=Aside0.mk A50
     clear A50
     have H':=Aside0.mk H
     clear H
     have hcz6_0:wr.cell? ⟨gb171,0,none⟩=some (.int .i64 a0_0):=(blk_cell BK171.out 0).trans rfl
     have hcz6_1:wr.cell? ⟨gb171,1,none⟩=some (.int .i64 a0_1):=(blk_cell BK171.out 1).trans rfl
     have hcz6_2:wr.cell? ⟨gb171,2,none⟩=some (.string a0_2):=(blk_cell BK171.out 2).trans rfl
     have hcz6_3:wr.cell? ⟨gb171,3,none⟩=some (.slice A0_3 l0_3.length c0_3):=(blk_cell BK171.out 3).trans rfl
     have hfz6_0:=blk_frozen BK171.out 0
     have hfz6_1:=blk_frozen BK171.out 1
     have hfz6_2:=blk_frozen BK171.out 2
     have hfz6_3:=blk_frozen BK171.out 3
     have p172:0≤(x4_1:Int):=of_decide_eq_true (by first|(with_reducible assumption)|assumption)
     have q172:x4_1<(l0_3.length:Int):=of_decide_eq_true (by first|(with_reducible assumption)|assumption)
     obtain ⟨ad172,A172_3,c172_3,e172,hx172_0,hx172_1,hx172_2,hx172_3,hl172_3,hi172_3⟩:=at_TDoc HR0_3.out x4_1 p172 q172
     cases e172
     replace hx172_0:=(HB.out.cell (World.block_lt_of_cell? w _ hx172_0)).trans hx172_0
     replace hx172_1:=(HB.out.cell (World.block_lt_of_cell? w _ hx172_1)).trans hx172_1
     replace hx172_2:=(HB.out.cell (World.block_lt_of_cell? w _ hx172_2)).trans hx172_2
     replace hx172_3:=(HB.out.cell (World.block_lt_of_cell? w _ hx172_3)).trans hx172_3
     have HR172_3:=Aside0.mk hi172_3
     have HC172_3:=Aside0.mk hl172_3
     clear hi172_3 hl172_3
     replace p172:=eq_true p172
     replace q172:=eq_true q172
     go_wp2_with (first|((with_reducible refine gate_callee (f:=72) rfl ?_);refine goesL_ (some 18) rfl rfl Try.func72 (by kernel_rfl) rfl #[.agg #[.int .i64 ((rd_TDoc l0_3 x4_1).f0),.int .i64 ((rd_TDoc l0_3 x4_1).f1),.string ((rd_TDoc l0_3 x4_1).f2),.slice A172_3 ((rd_TDoc l0_3 x4_1).f3).length c172_3]] rfl (by (try simp only [List.map_toArray,List.map_cons,List.map_nil]);first|done|rfl|(simp only [List.length_drop,List.length_take];rfl)) ?_;(with_reducible refine (ih k1 (by have:=HK1.out;omega) ((rd_TDoc l0_3 x4_1).f0) ((rd_TDoc l0_3 x4_1).f1) ((rd_TDoc l0_3 x4_1).f2) _ _ ((rd_TDoc l0_3 x4_1).f3) t173 _ ?side1 ?side2 A5.out).mono ?_);(case side1=>exact gC (Kd.C_below HR172_3.out HB.out));(case side2=>exact HC172_3.out);rintro e w7 ⟨rfl,hb⟩;refine ⟨_,rfl,?_⟩;have n0_:=Aside0.mk (blk_below (g:=gb171) (o:=.cells #[.int .i64 a0_0,.int .i64 a0_1,.string a0_2,.slice (some ad172) l0_3.length c0_3] 39 (0,0)) (gK BK171) hb);have n1_:=Aside0.mk (below_step (by repeat (first|exact gB HB|refine below_set ?_ GE171.out)) hb);clear BK171;clear HB;have BK171:=n0_;have HB:=n1_;clear n0_ n1_;(try clear hb);(try clear hb2);(try clear hk);(try clear hi)))
     go_roundg k1
     case measure=>have:=HK1.out;omega
     case rel=>exact ⟨(wrap64 (x3_1+t173)),(wrap64 (x4_1+1)),(by first|rfl|(simp;done)|(simp [*];done)),(by first|rfl|(simp;done)|(simp [*];done)),H',⟨by have:=HK1.out;omega⟩,⟨gK BK171⟩,⟨by repeat (first|exact gB HB|refine below_set ?_ GE171.out)⟩⟩
    ·rw [if_neg c4] at H
     exact absurd H (by simp)
   ·rw [if_neg c3] at H
    have c3b0:decide (x4_1<(l0_3.length:Int))=false:=decide_eq_false c3
    clear c3
    obtain rfl:=Option.some.inj H
    have hcz8_0:wr.cell? ⟨gb171,0,none⟩=some (.int .i64 a0_0):=(blk_cell BK171.out 0).trans rfl
    have hcz8_1:wr.cell? ⟨gb171,1,none⟩=some (.int .i64 a0_1):=(blk_cell BK171.out 1).trans rfl
    have hcz8_2:wr.cell? ⟨gb171,2,none⟩=some (.string a0_2):=(blk_cell BK171.out 2).trans rfl
    have hcz8_3:wr.cell? ⟨gb171,3,none⟩=some (.slice A0_3 l0_3.length c0_3):=(blk_cell BK171.out 3).trans rfl
    have hfz8_0:=blk_frozen BK171.out 0
    have hfz8_1:=blk_frozen BK171.out 1
    have hfz8_2:=blk_frozen BK171.out 2
    have hfz8_3:=blk_frozen BK171.out 3
    go_wp2
    go_ret
    exact ⟨by first|rfl|(simp [errW_none,errW_some] <;> rfl)|(simp [*,errW_none,errW_some] <;> rfl),by repeat (first|exact gB HB|refine below_set ?_ GE171.out)⟩
end Go.Proofs.Ytdhdfmmefghijab.P
namespace Go.Proofs.Ytdhdfmmefghijab.P
open Go.RowKit Go.Proofs.YtdhdfmmefghijabW.PrintWords Go.Proofs.YtdhdfmmefghijabW.PrintLast Go.Proofs.YtdhdfmmefghijabW.PrintMore
attribute [local go_sem] max2_int min2_int max_two min_two max_three min_three max_four min_four
set_option linter.unusedVariables false
set_option linter.unusedSimpArgs false
mutual
def spec_TextValid.j0:Nat→ByteArray→Bool→Option (Bool)
 | 0,_,_=>none
 | k+1,x0,x14=>if x14=true then (some false) else (spec_TextValid.l0 k x0 0)
def spec_TextValid.l0:Nat→ByteArray→Int→Option (Bool)
 | 0,_,_=>none
 | k+1,x0,x3=>if x3<(x0.size:Int) then (if 0≤x3 then (if (bt x0 x3)≥97 then (if (bt x0 x3)≤122 then (spec_TextValid.j2 k x0 x3 (bt x0 x3) true) else (if (bt x0 x3)≥48 then (spec_TextValid.j2 k x0 x3 (bt x0 x3) (decide ((bt x0 x3)≤57))) else (spec_TextValid.j2 k x0 x3 (bt x0 x3) false))) else (if (bt x0 x3)≥48 then (spec_TextValid.j2 k x0 x3 (bt x0 x3) (decide ((bt x0 x3)≤57))) else (spec_TextValid.j2 k x0 x3 (bt x0 x3) false))) else (none)) else (some true)
def spec_TextValid.j2:Nat→ByteArray→Int→Int→Bool→Option (Bool)
 | 0,_,_,_,_=>none
 | k+1,x0,x3,x4,x5=>if x4=44 then (spec_TextValid.j3 k x0 x3 x5 true) else (if x4=58 then (spec_TextValid.j3 k x0 x3 x5 true) else (if x4=61 then (spec_TextValid.j3 k x0 x3 x5 true) else (if x4=123 then (spec_TextValid.j3 k x0 x3 x5 true) else (if x4=125 then (spec_TextValid.j3 k x0 x3 x5 true) else (if x4=40 then (spec_TextValid.j3 k x0 x3 x5 true) else (if x4=41 then (spec_TextValid.j3 k x0 x3 x5 true) else (if x4=91 then (spec_TextValid.j3 k x0 x3 x5 true) else (spec_TextValid.j3 k x0 x3 x5 (x4 == 93)))))))))
def spec_TextValid.j3:Nat→ByteArray→Int→Bool→Bool→Option (Bool)
 | 0,_,_,_,_=>none
 | k+1,x0,x3,x5,x6=>if x5=true then (spec_TextValid.l0 k x0 (wrap64 (x3+1))) else (if x6=true then (spec_TextValid.l0 k x0 (wrap64 (x3+1))) else (some false))
end
def spec_TextValid.f (k:Nat) (a0:ByteArray):Option (Bool):=if (a0.size:Int)<1 then (spec_TextValid.j0 k a0 true) else (spec_TextValid.j0 k a0 (decide ((a0.size:Int)>12)))
set_option maxHeartbeats 8000000 in
set_option maxRecDepth 100000 in
theorem spec_TextValid.calls (k:Nat) (a0:ByteArray) (r:Bool) (w:World) (h:spec_TextValid.f k a0=some r) :
  Calls Try.prog 73 #[.string a0] w fun e w'=>e=.returned (.bool r)∧Drawn0 w w':=by
 have H:(if (a0.size:Int)<1 then (spec_TextValid.j0 k a0 true) else (spec_TextValid.j0 k a0 (decide ((a0.size:Int)>12))))=some r:=h
 clear h
 have HC2:=Aside0.mk H
 clear H
 go_enter Try.func73,Try.ntmps73
 go_upto_region 1 with (fail)
 go_cut [14] (fun v14 wc=>∃ (kq:Nat) (x14_1:Bool),v14=.bool x14_1∧Aside0 (spec_TextValid.j0 kq a0 x14_1=some r)∧Aside0 (kq≤k)∧Drawn0 w wc)
 case first =>
  have H:=HC2.out
  clear HC2
  by_cases c3:(a0.size:Int)<1
  ·rw [if_pos c3] at H
   have c3b0:decide ((a0.size:Int)<1)=true:=decide_eq_true c3
   have c3b1:decide (a0.size<1)=true:=decide_eq_true (by omega)
   clear c3
   (first|rw [c3b0]|(simp only [i64_w,i32_w];rw [c3b0])|skip)
   have H':=Aside0.mk H
   clear H
   go_wp2
   go_meet
   case rel=>exact ⟨_,(true),(by first|rfl|(simp;done)|(simp [*];done)),H',⟨by first|omega|exact Nat.le_refl _⟩,by repeat (first|exact Drawn0.refl _|apply Drawn0.step)⟩
  ·rw [if_neg c3] at H
   have c3b0:decide ((a0.size:Int)<1)=false:=decide_eq_false c3
   have c3b1:decide (a0.size<1)=false:=decide_eq_false (by omega)
   clear c3
   (first|rw [c3b0]|(simp only [i64_w,i32_w];rw [c3b0])|skip)
   have H':=Aside0.mk H
   clear H
   go_wp2
   go_meet
   case rel=>exact ⟨_,(decide ((a0.size:Int)>12)),(by first|rfl|(simp;done)|(simp [*];done)),H',⟨by first|omega|exact Nat.le_refl _⟩,by repeat (first|exact Drawn0.refl _|apply Drawn0.step)⟩
 case rest =>
  clear HC2
  try clear p2 c3 c3b0 c3b1
  obtain ⟨kq,x14_1,rfl,HA,HJ1,⟨mc1,rfl⟩⟩:=hcut
  cases kq with
  | zero=>exact absurd HA.out (by simp [spec_TextValid.j0])
  | succ kj1 =>
   have H:=HA.out
   clear HA
   simp only [spec_TextValid.j0] at H
   by_cases c4:x14_1=true
   ·subst c4
    have H1:(some false)=some r:=by rw [if_pos rfl] at H;exact H
    clear H
    have H:=H1
    clear H1
    obtain rfl:=Option.some.inj H
    go_wp2
    go_ret
    exact ⟨by first|rfl|(simp;done)|(simp [*];done),by repeat (first|exact Drawn0.refl _|apply Drawn0.step)⟩
   ·replace c4:=Bool.eq_false_iff.mpr c4
    subst c4
    have H1:(spec_TextValid.l0 kj1 a0 0)=some r:=by rw [if_neg (show ¬ (false=true) by decide)] at H;exact H
    clear H
    have H:=H1
    clear H1
    have H':=Aside0.mk H
    clear H
    go_wp2
    go_loopg [3] kj1 (fun kq v3 w'=>∃ (x3_2:Int),v3=.int .i64 x3_2∧Aside0 (spec_TextValid.l0 kq a0 x3_2=some r)∧Aside0 (kq≤kj1)∧Drawn0 w w')
    case atStart=>exact ⟨(0),(by first|rfl|(simp;done)|(simp [*];done)),H',⟨Nat.le_refl _⟩,by repeat (first|exact Drawn0.refl _|apply Drawn0.step)⟩
    case round =>
     clear H'
     try clear c1 p2 c3 c3b0 c3b1 c4 p2
     obtain ⟨x3_2,rfl,HA,HK2,⟨m2,rfl⟩⟩:=hrel
     cases gk with
     | zero=>exact absurd HA.out (by simp [spec_TextValid.l0])
     | succ k2 =>
      have H:=HA.out
      clear HA
      simp only [spec_TextValid.l0] at H
      by_cases c5:x3_2<(a0.size:Int)
      ·rw [if_pos c5] at H
       have c5b0:decide (x3_2<(a0.size:Int))=true:=decide_eq_true c5
       clear c5
       by_cases c6:0≤x3_2
       ·rw [if_pos c6] at H
        have c6b0:decide (0≤x3_2)=true:=decide_eq_true c6
        clear c6
        have HC8:=Aside0.mk H
        clear H
        have p7:0≤(x3_2:Int):=of_decide_eq_true (by first|(with_reducible assumption)|assumption)
        have q7:x3_2<(a0.size:Int):=of_decide_eq_true (by first|(with_reducible assumption)|assumption)
        have hx7:=bt_at a0 x3_2
        replace p7:=eq_true p7
        replace q7:=eq_true q7
        go_upto_region 7 with (fail)
        go_cut [5] (fun v5 wc=>∃ (kq:Nat) (x5_7:Bool),v5=.bool x5_7∧Aside0 (spec_TextValid.j2 kq a0 x3_2 (bt a0 x3_2) x5_7=some r)∧Aside0 (kq≤k2)∧Drawn0 w wc)
        case first =>
         have H:=HC8.out
         clear HC8
         by_cases c9:(bt a0 x3_2)≥97
         ·rw [if_pos c9] at H
          have c9b0:decide (97≤(bt a0 x3_2))=true:=decide_eq_true c9
          clear c9
          (first|rw [c9b0]|(simp only [i64_w,i32_w];rw [c9b0])|skip)
          by_cases c10:(bt a0 x3_2)≤122
          ·rw [if_pos c10] at H
           have c10b0:decide ((bt a0 x3_2)≤122)=true:=decide_eq_true c10
           clear c10
           have H':=Aside0.mk H
           clear H
           go_wp2
           go_meet
           case rel=>exact ⟨_,(true),(by first|rfl|(simp;done)|(simp [*];done)),H',⟨by have:=HJ1.out;have:=HK2.out;first|omega|exact Nat.le_refl _⟩,by repeat (first|exact Drawn0.refl _|apply Drawn0.step)⟩
          ·rw [if_neg c10] at H
           have c10b0:decide ((bt a0 x3_2)≤122)=false:=decide_eq_false c10
           clear c10
           by_cases c11:(bt a0 x3_2)≥48
           ·rw [if_pos c11] at H
            have c11b0:decide (48≤(bt a0 x3_2))=true:=decide_eq_true c11
            clear c11
            have H':=Aside0.mk H
            clear H
            go_wp2
            go_meet
            case rel=>exact ⟨_,(decide ((bt a0 x3_2)≤57)),(by first|rfl|(simp;done)|(simp [*];done)),H',⟨by have:=HJ1.out;have:=HK2.out;first|omega|exact Nat.le_refl _⟩,by repeat (first|exact Drawn0.refl _|apply Drawn0.step)⟩
           ·rw [if_neg c11] at H
            have c11b0:decide (48≤(bt a0 x3_2))=false:=decide_eq_false c11
            clear c11
            have H':=Aside0.mk H
            clear H
            go_wp2
            go_meet
            case rel=>exact ⟨_,(false),(by first|rfl|(simp;done)|(simp [*];done)),H',⟨by have:=HJ1.out;have:=HK2.out;first|omega|exact Nat.le_refl _⟩,by repeat (first|exact Drawn0.refl _|apply Drawn0.step)⟩
         ·rw [if_neg c9] at H
          have c9b0:decide (97≤(bt a0 x3_2))=false:=decide_eq_false c9
          clear c9
          (first|rw [c9b0]|(simp only [i64_w,i32_w];rw [c9b0])|skip)
          by_cases c12:(bt a0 x3_2)≥48
          ·rw [if_pos c12] at H
           have c12b0:decide (48≤(bt a0 x3_2))=true:=decide_eq_true c12
           clear c12
           have H':=Aside0.mk H
           clear H
           go_wp2
           go_meet
           case rel=>exact ⟨_,(decide ((bt a0 x3_2)≤57)),(by first|rfl|(simp;done)|(simp [*];done)),H',⟨by have:=HJ1.out;have:=HK2.out;first|omega|exact Nat.le_refl _⟩,by repeat (first|exact Drawn0.refl _|apply Drawn0.step)⟩
          ·rw [if_neg c12] at H
           have c12b0:decide (48≤(bt a0 x3_2))=false:=decide_eq_false c12
           clear c12
           have H':=Aside0.mk H
           clear H
           go_wp2
           go_meet
           case rel=>exact ⟨_,(false),(by first|rfl|(simp;done)|(simp [*];done)),H',⟨by have:=HJ1.out;have:=HK2.out;first|omega|exact Nat.le_refl _⟩,by repeat (first|exact Drawn0.refl _|apply Drawn0.step)⟩
        case rest =>
         clear HC8
         try clear c1 p2 c3 c3b0 c3b1 c4 c5 c5b0 c6 c6b0 c7 p7 q7 hx7 c9 c9b0 c10 c10b0 c11 c11b0 c12 c12b0 p2 p7 q7
         obtain ⟨kq,x5_7,rfl,HA,HJ7,⟨mc7,rfl⟩⟩:=hcut
         cases kq with
         | zero=>exact absurd HA.out (by simp [spec_TextValid.j2])
         | succ kj7 =>
          have H:=HA.out
          clear HA
          simp only [spec_TextValid.j2] at H
          have HC13:=Aside0.mk H
          clear H
          go_upto_region 8 with (fail)
          go_cut [6] (fun v6 wc=>∃ (kq:Nat) (x6_12:Bool),v6=.bool x6_12∧Aside0 (spec_TextValid.j3 kq a0 x3_2 x5_7 x6_12=some r)∧Aside0 (kq≤kj7)∧Drawn0 w wc)
          case first =>
           have H:=HC13.out
           clear HC13
           by_cases c14:(bt a0 x3_2)=44
           ·rw [if_pos c14] at H
            have c14b0:((bt a0 x3_2) == 44)=true:=beq_iff_eq.mpr c14
            have c14b1:((bt a0 x3_2) != 44)=false:=bne_eq_false_iff_eq.mpr c14
            clear c14
            (first|rw [c14b0]|(simp only [i64_w,i32_w];rw [c14b0])|skip)
            have H':=Aside0.mk H
            clear H
            go_wp2
            go_meet
            case rel=>exact ⟨_,(true),(by first|rfl|(simp;done)|(simp [*];done)),H',⟨by have:=HJ1.out;have:=HK2.out;have:=HJ7.out;first|omega|exact Nat.le_refl _⟩,by repeat (first|exact Drawn0.refl _|apply Drawn0.step)⟩
           ·rw [if_neg c14] at H
            have c14b0:((bt a0 x3_2) == 44)=false:=beq_eq_false_iff_ne.mpr c14
            have c14b1:((bt a0 x3_2) != 44)=true:=bne_iff_ne.mpr c14
            (first|rw [c14b0]|(simp only [i64_w,i32_w];rw [c14b0])|skip)
            by_cases c15:(bt a0 x3_2)=58
            ·rw [if_pos c15] at H
             have c15b0:((bt a0 x3_2) == 58)=true:=beq_iff_eq.mpr c15
             have c15b1:((bt a0 x3_2) != 58)=false:=bne_eq_false_iff_eq.mpr c15
             clear c15
             have H':=Aside0.mk H
             clear H
             go_wp2
             go_meet
             case rel=>exact ⟨_,(true),(by first|rfl|(simp;done)|(simp [*];done)),H',⟨by have:=HJ1.out;have:=HK2.out;have:=HJ7.out;first|omega|exact Nat.le_refl _⟩,by repeat (first|exact Drawn0.refl _|apply Drawn0.step)⟩
            ·rw [if_neg c15] at H
             have c15b0:((bt a0 x3_2) == 58)=false:=beq_eq_false_iff_ne.mpr c15
             have c15b1:((bt a0 x3_2) != 58)=true:=bne_iff_ne.mpr c15
             by_cases c16:(bt a0 x3_2)=61
             ·rw [if_pos c16] at H
              have c16b0:((bt a0 x3_2) == 61)=true:=beq_iff_eq.mpr c16
              have c16b1:((bt a0 x3_2) != 61)=false:=bne_eq_false_iff_eq.mpr c16
              clear c16
              have H':=Aside0.mk H
              clear H
              go_wp2
              go_meet
              case rel=>exact ⟨_,(true),(by first|rfl|(simp;done)|(simp [*];done)),H',⟨by have:=HJ1.out;have:=HK2.out;have:=HJ7.out;first|omega|exact Nat.le_refl _⟩,by repeat (first|exact Drawn0.refl _|apply Drawn0.step)⟩
             ·rw [if_neg c16] at H
              have c16b0:((bt a0 x3_2) == 61)=false:=beq_eq_false_iff_ne.mpr c16
              have c16b1:((bt a0 x3_2) != 61)=true:=bne_iff_ne.mpr c16
              by_cases c17:(bt a0 x3_2)=123
              ·rw [if_pos c17] at H
               have c17b0:((bt a0 x3_2) == 123)=true:=beq_iff_eq.mpr c17
               have c17b1:((bt a0 x3_2) != 123)=false:=bne_eq_false_iff_eq.mpr c17
               clear c17
               have H':=Aside0.mk H
               clear H
               go_wp2
               go_meet
               case rel=>exact ⟨_,(true),(by first|rfl|(simp;done)|(simp [*];done)),H',⟨by have:=HJ1.out;have:=HK2.out;have:=HJ7.out;first|omega|exact Nat.le_refl _⟩,by repeat (first|exact Drawn0.refl _|apply Drawn0.step)⟩
              ·rw [if_neg c17] at H
               have c17b0:((bt a0 x3_2) == 123)=false:=beq_eq_false_iff_ne.mpr c17
               have c17b1:((bt a0 x3_2) != 123)=true:=bne_iff_ne.mpr c17
               by_cases c18:(bt a0 x3_2)=125
               ·rw [if_pos c18] at H
                have c18b0:((bt a0 x3_2) == 125)=true:=beq_iff_eq.mpr c18
                have c18b1:((bt a0 x3_2) != 125)=false:=bne_eq_false_iff_eq.mpr c18
                clear c18
                have H':=Aside0.mk H
                clear H
                go_wp2
                go_meet
                case rel=>exact ⟨_,(true),(by first|rfl|(simp;done)|(simp [*];done)),H',⟨by have:=HJ1.out;have:=HK2.out;have:=HJ7.out;first|omega|exact Nat.le_refl _⟩,by repeat (first|exact Drawn0.refl _|apply Drawn0.step)⟩
               ·rw [if_neg c18] at H
                have c18b0:((bt a0 x3_2) == 125)=false:=beq_eq_false_iff_ne.mpr c18
                have c18b1:((bt a0 x3_2) != 125)=true:=bne_iff_ne.mpr c18
                by_cases c19:(bt a0 x3_2)=40
                ·rw [if_pos c19] at H
                 have c19b0:((bt a0 x3_2) == 40)=true:=beq_iff_eq.mpr c19
                 have c19b1:((bt a0 x3_2) != 40)=false:=bne_eq_false_iff_eq.mpr c19
                 clear c19
                 have H':=Aside0.mk H
                 clear H
                 go_wp2
                 go_meet
                 case rel=>exact ⟨_,(true),(by first|rfl|(simp;done)|(simp [*];done)),H',⟨by have:=HJ1.out;have:=HK2.out;have:=HJ7.out;first|omega|exact Nat.le_refl _⟩,by repeat (first|exact Drawn0.refl _|apply Drawn0.step)⟩
                ·rw [if_neg c19] at H
                 have c19b0:((bt a0 x3_2) == 40)=false:=beq_eq_false_iff_ne.mpr c19
                 have c19b1:((bt a0 x3_2) != 40)=true:=bne_iff_ne.mpr c19
                 by_cases c20:(bt a0 x3_2)=41
                 ·rw [if_pos c20] at H
                  have c20b0:((bt a0 x3_2) == 41)=true:=beq_iff_eq.mpr c20
                  have c20b1:((bt a0 x3_2) != 41)=false:=bne_eq_false_iff_eq.mpr c20
                  clear c20
                  have H':=Aside0.mk H
                  clear H
                  go_wp2
                  go_meet
                  case rel=>exact ⟨_,(true),(by first|rfl|(simp;done)|(simp [*];done)),H',⟨by have:=HJ1.out;have:=HK2.out;have:=HJ7.out;first|omega|exact Nat.le_refl _⟩,by repeat (first|exact Drawn0.refl _|apply Drawn0.step)⟩
                 ·rw [if_neg c20] at H
                  have c20b0:((bt a0 x3_2) == 41)=false:=beq_eq_false_iff_ne.mpr c20
                  have c20b1:((bt a0 x3_2) != 41)=true:=bne_iff_ne.mpr c20
                  by_cases c21:(bt a0 x3_2)=91
                  ·rw [if_pos c21] at H
                   have c21b0:((bt a0 x3_2) == 91)=true:=beq_iff_eq.mpr c21
                   have c21b1:((bt a0 x3_2) != 91)=false:=bne_eq_false_iff_eq.mpr c21
                   clear c21
                   have H':=Aside0.mk H
                   clear H
                   go_wp2
                   go_meet
                   case rel=>exact ⟨_,(true),(by first|rfl|(simp;done)|(simp [*];done)),H',⟨by have:=HJ1.out;have:=HK2.out;have:=HJ7.out;first|omega|exact Nat.le_refl _⟩,by repeat (first|exact Drawn0.refl _|apply Drawn0.step)⟩
                  ·rw [if_neg c21] at H
                   have c21b0:((bt a0 x3_2) == 91)=false:=beq_eq_false_iff_ne.mpr c21
                   have c21b1:((bt a0 x3_2) != 91)=true:=bne_iff_ne.mpr c21
                   have H':=Aside0.mk H
                   clear H
                   go_wp2
                   go_meet
                   case rel=>exact ⟨_,(((bt a0 x3_2) == 93)),(by first|rfl|(simp;done)|(simp [*];done)),H',⟨by have:=HJ1.out;have:=HK2.out;have:=HJ7.out;first|omega|exact Nat.le_refl _⟩,by repeat (first|exact Drawn0.refl _|apply Drawn0.step)⟩
          case rest =>
           clear HC13
           try clear c1 c2 p2 c3 c3b0 c3b1 c4 c5 c5b0 c6 c6b0 c7 p7 q7 hx7 c9 c9b0 c10 c10b0 c11 c11b0 c12 c12b0 c14 c14b0 c14b1 c15 c15b0 c15b1 c16 c16b0 c16b1 c17 c17b0 c17b1 c18 c18b0 c18b1 c19 c19b0 c19b1 c20 c20b0 c20b1 c21 c21b0 c21b1 p2 p7 q7
           obtain ⟨kq,x6_12,rfl,HA,HJ12,⟨mc12,rfl⟩⟩:=hcut
           cases kq with
           | zero=>exact absurd HA.out (by simp [spec_TextValid.j3])
           | succ kj12 =>
            have H:=HA.out
            clear HA
            simp only [spec_TextValid.j3] at H
            by_cases c22:x5_7=true
            ·subst c22
             have H1:(spec_TextValid.l0 kj12 a0 (wrap64 (x3_2+1)))=some r:=by rw [if_pos rfl] at H;exact H
             clear H
             have H:=H1
             clear H1
             have H':=Aside0.mk H
             clear H
             go_wp2
             go_roundg kj12
             case measure=>have:=HJ1.out;have:=HK2.out;have:=HJ7.out;have:=HJ12.out;omega
             case rel=>exact ⟨(wrap64 (x3_2+1)),(by first|rfl|(simp;done)|(simp [*];done)),H',⟨by have:=HJ1.out;have:=HK2.out;have:=HJ7.out;have:=HJ12.out;omega⟩,by repeat (first|exact Drawn0.refl _|apply Drawn0.step)⟩
            ·replace c22:=Bool.eq_false_iff.mpr c22
             subst c22
             have H1:(if x6_12=true then (spec_TextValid.l0 kj12 a0 (wrap64 (x3_2+1))) else (some false))=some r:=by rw [if_neg (show ¬ (false=true) by decide)] at H;exact H
             clear H
             have H:=H1
             clear H1
             by_cases c23:x6_12=true
             ·subst c23
              have H1:(spec_TextValid.l0 kj12 a0 (wrap64 (x3_2+1)))=some r:=by rw [if_pos rfl] at H;exact H
              clear H
              have H:=H1
              clear H1
              have H':=Aside0.mk H
              clear H
              go_wp2
              go_roundg kj12
              case measure=>have:=HJ1.out;have:=HK2.out;have:=HJ7.out;have:=HJ12.out;omega
              case rel=>exact ⟨(wrap64 (x3_2+1)),(by first|rfl|(simp;done)|(simp [*];done)),H',⟨by have:=HJ1.out;have:=HK2.out;have:=HJ7.out;have:=HJ12.out;omega⟩,by repeat (first|exact Drawn0.refl _|apply Drawn0.step)⟩
             ·replace c23:=Bool.eq_false_iff.mpr c23
              subst c23
              have H1:(some false)=some r:=by rw [if_neg (show ¬ (false=true) by decide)] at H;exact H
              clear H
              have H:=H1
              clear H1
              obtain rfl:=Option.some.inj H
              go_wp2
              go_ret
              exact ⟨by first|rfl|(simp;done)|(simp [*];done),by repeat (first|exact Drawn0.refl _|apply Drawn0.step)⟩
       ·rw [if_neg c6] at H
        exact absurd H (by simp)
      ·rw [if_neg c5] at H
       have c5b0:decide (x3_2<(a0.size:Int))=false:=decide_eq_false c5
       clear c5
       obtain rfl:=Option.some.inj H
       go_wp2
       go_ret
       exact ⟨by first|rfl|(simp;done)|(simp [*];done),by repeat (first|exact Drawn0.refl _|apply Drawn0.step)⟩
end Go.Proofs.Ytdhdfmmefghijab.P
namespace Go.Proofs.Ytdhdfmmefghijab.P
open Go.RowKit Go.Proofs.YtdhdfmmefghijabW.PrintWords Go.Proofs.YtdhdfmmefghijabW.PrintLast Go.Proofs.YtdhdfmmefghijabW.PrintMore
attribute [local go_sem] max2_int min2_int max_two min_two max_three min_three max_four min_four
set_option linter.unusedVariables false
set_option linter.unusedSimpArgs false
mutual
def spec_l1Kids.j0:Nat→Int→Bool→Option (Int)
 | 0,_,_=>none
 | k+1,x3,x4=>if x4=true then (some 0) else (if x3=6 then (spec_l1Kids.j1 k x3 (x3 == 6)) else (spec_l1Kids.j1 k x3 (x3 == 8)))
def spec_l1Kids.j1:Nat→Int→Bool→Option (Int)
 | 0,_,_=>none
 | k+1,x3,x10=>if x10=true then (some 1) else (if x3=7 then (some 2) else (some (-1)))
end
def spec_l1Kids.f (k:Nat) (a0:Int):Option (Int):=if a0=1 then (spec_l1Kids.j0 k a0 (a0 == 1)) else (if a0=2 then (spec_l1Kids.j0 k a0 (a0 == 2)) else (if a0=3 then (spec_l1Kids.j0 k a0 (a0 == 3)) else (if a0=4 then (spec_l1Kids.j0 k a0 (a0 == 4)) else (spec_l1Kids.j0 k a0 (a0 == 5)))))
set_option maxHeartbeats 8000000 in
set_option maxRecDepth 100000 in
theorem spec_l1Kids.calls (k:Nat) (a0:Int) (r:Int) (w:World) (h:spec_l1Kids.f k a0=some r) :
  Calls Try.prog 85 #[.int .i64 a0] w fun e w'=>e=.returned (.int .i64 r)∧Drawn0 w w':=by
 have H:(if a0=1 then (spec_l1Kids.j0 k a0 (a0 == 1)) else (if a0=2 then (spec_l1Kids.j0 k a0 (a0 == 2)) else (if a0=3 then (spec_l1Kids.j0 k a0 (a0 == 3)) else (if a0=4 then (spec_l1Kids.j0 k a0 (a0 == 4)) else (spec_l1Kids.j0 k a0 (a0 == 5))))))=some r:=h
 clear h
 have HC2:=Aside0.mk H
 clear H
 go_enter Try.func85,Try.ntmps85
 go_upto_if 4 with (fail)
 go_cut [4] (fun v4 wc=>∃ (kq:Nat) (x4_1:Bool),v4=.bool x4_1∧Aside0 (spec_l1Kids.j0 kq a0 x4_1=some r)∧Aside0 (kq≤k)∧Drawn0 w wc)
 case first =>
  have H:=HC2.out
  clear HC2
  by_cases c3:a0=1
  ·rw [if_pos c3] at H
   have c3b0:(a0 == 1)=true:=beq_iff_eq.mpr c3
   have c3b1:(a0 != 1)=false:=bne_eq_false_iff_eq.mpr c3
   clear c3
   (first|rw [c3b0]|(simp only [i64_w,i32_w];rw [c3b0])|skip)
   have H':=Aside0.mk H
   clear H
   go_wp2
   go_meet
   case rel=>exact ⟨_,((a0 == 1)),(by first|rfl|(simp;done)|(simp [*];done)),H',⟨by first|omega|exact Nat.le_refl _⟩,by repeat (first|exact Drawn0.refl _|apply Drawn0.step)⟩
  ·rw [if_neg c3] at H
   have c3b0:(a0 == 1)=false:=beq_eq_false_iff_ne.mpr c3
   have c3b1:(a0 != 1)=true:=bne_iff_ne.mpr c3
   (first|rw [c3b0]|(simp only [i64_w,i32_w];rw [c3b0])|skip)
   by_cases c4:a0=2
   ·rw [if_pos c4] at H
    have c4b0:(a0 == 2)=true:=beq_iff_eq.mpr c4
    have c4b1:(a0 != 2)=false:=bne_eq_false_iff_eq.mpr c4
    clear c4
    have H':=Aside0.mk H
    clear H
    go_wp2
    go_meet
    case rel=>exact ⟨_,((a0 == 2)),(by first|rfl|(simp;done)|(simp [*];done)),H',⟨by first|omega|exact Nat.le_refl _⟩,by repeat (first|exact Drawn0.refl _|apply Drawn0.step)⟩
   ·rw [if_neg c4] at H
    have c4b0:(a0 == 2)=false:=beq_eq_false_iff_ne.mpr c4
    have c4b1:(a0 != 2)=true:=bne_iff_ne.mpr c4
    by_cases c5:a0=3
    ·rw [if_pos c5] at H
     have c5b0:(a0 == 3)=true:=beq_iff_eq.mpr c5
     have c5b1:(a0 != 3)=false:=bne_eq_false_iff_eq.mpr c5
     clear c5
     have H':=Aside0.mk H
     clear H
     go_wp2
     go_meet
     case rel=>exact ⟨_,((a0 == 3)),(by first|rfl|(simp;done)|(simp [*];done)),H',⟨by first|omega|exact Nat.le_refl _⟩,by repeat (first|exact Drawn0.refl _|apply Drawn0.step)⟩
    ·rw [if_neg c5] at H
     have c5b0:(a0 == 3)=false:=beq_eq_false_iff_ne.mpr c5
     have c5b1:(a0 != 3)=true:=bne_iff_ne.mpr c5
     by_cases c6:a0=4
     ·rw [if_pos c6] at H
      have c6b0:(a0 == 4)=true:=beq_iff_eq.mpr c6
      have c6b1:(a0 != 4)=false:=bne_eq_false_iff_eq.mpr c6
      clear c6
      have H':=Aside0.mk H
      clear H
      go_wp2
      go_meet
      case rel=>exact ⟨_,((a0 == 4)),(by first|rfl|(simp;done)|(simp [*];done)),H',⟨by first|omega|exact Nat.le_refl _⟩,by repeat (first|exact Drawn0.refl _|apply Drawn0.step)⟩
     ·rw [if_neg c6] at H
      have c6b0:(a0 == 4)=false:=beq_eq_false_iff_ne.mpr c6
      have c6b1:(a0 != 4)=true:=bne_iff_ne.mpr c6
      have H':=Aside0.mk H
      clear H
      go_wp2
      go_meet
      case rel=>exact ⟨_,((a0 == 5)),(by first|rfl|(simp;done)|(simp [*];done)),H',⟨by first|omega|exact Nat.le_refl _⟩,by repeat (first|exact Drawn0.refl _|apply Drawn0.step)⟩
 case rest =>
  clear HC2
  try clear p2 c3 c3b0 c3b1 c4 c4b0 c4b1 c5 c5b0 c5b1 c6 c6b0 c6b1
  obtain ⟨kq,x4_1,rfl,HA,HJ1,⟨mc1,rfl⟩⟩:=hcut
  cases kq with
  | zero=>exact absurd HA.out (by simp [spec_l1Kids.j0])
  | succ kj1 =>
   have H:=HA.out
   clear HA
   simp only [spec_l1Kids.j0] at H
   by_cases c7:x4_1=true
   ·subst c7
    have H1:(some 0)=some r:=by rw [if_pos rfl] at H;exact H
    clear H
    have H:=H1
    clear H1
    obtain rfl:=Option.some.inj H
    go_wp2
    go_ret
    exact ⟨by first|rfl|(simp;done)|(simp [*];done),by repeat (first|exact Drawn0.refl _|apply Drawn0.step)⟩
   ·replace c7:=Bool.eq_false_iff.mpr c7
    subst c7
    have H1:(if a0=6 then (spec_l1Kids.j1 kj1 a0 (a0 == 6)) else (spec_l1Kids.j1 kj1 a0 (a0 == 8)))=some r:=by rw [if_neg (show ¬ (false=true) by decide)] at H;exact H
    clear H
    have H:=H1
    clear H1
    have HC8:=Aside0.mk H
    clear H
    go_upto_if 10 with (fail)
    go_cut [10] (fun v10 wc=>∃ (kq:Nat) (x10_7:Bool),v10=.bool x10_7∧Aside0 (spec_l1Kids.j1 kq a0 x10_7=some r)∧Aside0 (kq≤kj1)∧Drawn0 w wc)
    case first =>
     have H:=HC8.out
     clear HC8
     by_cases c9:a0=6
     ·rw [if_pos c9] at H
      have c9b0:(a0 == 6)=true:=beq_iff_eq.mpr c9
      have c9b1:(a0 != 6)=false:=bne_eq_false_iff_eq.mpr c9
      clear c9
      (first|rw [c9b0]|(simp only [i64_w,i32_w];rw [c9b0])|skip)
      have H':=Aside0.mk H
      clear H
      go_wp2
      go_meet
      case rel=>exact ⟨_,((a0 == 6)),(by first|rfl|(simp;done)|(simp [*];done)),H',⟨by have:=HJ1.out;first|omega|exact Nat.le_refl _⟩,by repeat (first|exact Drawn0.refl _|apply Drawn0.step)⟩
     ·rw [if_neg c9] at H
      have c9b0:(a0 == 6)=false:=beq_eq_false_iff_ne.mpr c9
      have c9b1:(a0 != 6)=true:=bne_iff_ne.mpr c9
      (first|rw [c9b0]|(simp only [i64_w,i32_w];rw [c9b0])|skip)
      have H':=Aside0.mk H
      clear H
      go_wp2
      go_meet
      case rel=>exact ⟨_,((a0 == 8)),(by first|rfl|(simp;done)|(simp [*];done)),H',⟨by have:=HJ1.out;first|omega|exact Nat.le_refl _⟩,by repeat (first|exact Drawn0.refl _|apply Drawn0.step)⟩
    case rest =>
     clear HC8
     try clear c1 p2 c3 c3b0 c3b1 c4 c4b0 c4b1 c5 c5b0 c5b1 c6 c6b0 c6b1 c7 c8 c9 c9b0 c9b1 p2
     obtain ⟨kq,x10_7,rfl,HA,HJ7,⟨mc7,rfl⟩⟩:=hcut
     cases kq with
     | zero=>exact absurd HA.out (by simp [spec_l1Kids.j1])
     | succ kj7 =>
      have H:=HA.out
      clear HA
      simp only [spec_l1Kids.j1] at H
      by_cases c10:x10_7=true
      ·subst c10
       have H1:(some 1)=some r:=by rw [if_pos rfl] at H;exact H
       clear H
       have H:=H1
       clear H1
       obtain rfl:=Option.some.inj H
       go_wp2
       go_ret
       exact ⟨by first|rfl|(simp;done)|(simp [*];done),by repeat (first|exact Drawn0.refl _|apply Drawn0.step)⟩
      ·replace c10:=Bool.eq_false_iff.mpr c10
       subst c10
       have H1:(if a0=7 then (some 2) else (some (-1)))=some r:=by rw [if_neg (show ¬ (false=true) by decide)] at H;exact H
       clear H
       have H:=H1
       clear H1
       by_cases c11:a0=7
       ·rw [if_pos c11] at H
        have c11b0:(a0 == 7)=true:=beq_iff_eq.mpr c11
        have c11b1:(a0 != 7)=false:=bne_eq_false_iff_eq.mpr c11
        clear c11
        obtain rfl:=Option.some.inj H
        go_wp2
        go_ret
        exact ⟨by first|rfl|(simp;done)|(simp [*];done),by repeat (first|exact Drawn0.refl _|apply Drawn0.step)⟩
       ·rw [if_neg c11] at H
        have c11b0:(a0 == 7)=false:=beq_eq_false_iff_ne.mpr c11
        have c11b1:(a0 != 7)=true:=bne_iff_ne.mpr c11
        obtain rfl:=Option.some.inj H
        go_wp2
        go_ret
        exact ⟨by first|rfl|(simp;done)|(simp [*];done),by repeat (first|exact Drawn0.refl _|apply Drawn0.step)⟩
end Go.Proofs.Ytdhdfmmefghijab.P
namespace Go.Proofs.Ytdhdfmmefghijab.P
open Go.RowKit Go.Proofs.YtdhdfmmefghijabW.PrintWords Go.Proofs.YtdhdfmmefghijabW.PrintLast Go.Proofs.YtdhdfmmefghijabW.PrintMore
attribute [local go_sem] max2_int min2_int max_two min_two max_three min_three max_four min_four
set_option linter.unusedVariables false
set_option linter.unusedSimpArgs false
mutual
def spec_l1Is.j0:Nat→Int→Bool→Int→Int→ByteArray→List (SDoc)→Option (Bool)
 | 0,_,_,_,_,_,_=>none
 | k+1,x1,x16,x167000,x167001,x167002,x167003=>if x16=true then (some false) else (if x167000=2 then ((spec_TextValid.f k x167002).bind fun t168=>(if t168=true then (spec_l1Is.j1 k x1 false x167000 x167001 x167002 x167003) else (spec_l1Is.j1 k x1 true x167000 x167001 x167002 x167003))) else (spec_l1Is.j1 k x1 (x167002.toList != ([]:List UInt8)) x167000 x167001 x167002 x167003))
def spec_l1Is.j1:Nat→Int→Bool→Int→Int→ByteArray→List (SDoc)→Option (Bool)
 | 0,_,_,_,_,_,_=>none
 | k+1,x1,x35,x167000,x167001,x167002,x167003=>if x35=true then (some false) else (if x167000=6 then (if x167001<0 then (spec_l1Is.j2 k x1 true x167000 x167001 x167002 x167003) else (if x167001>9 then (spec_l1Is.j2 k x1 true x167000 x167001 x167002 x167003) else (spec_l1Is.j2 k x1 false x167000 x167001 x167002 x167003))) else (spec_l1Is.j2 k x1 (x167001 != 0) x167000 x167001 x167002 x167003))
def spec_l1Is.j2:Nat→Int→Bool→Int→Int→ByteArray→List (SDoc)→Option (Bool)
 | 0,_,_,_,_,_,_=>none
 | k+1,x1,x58,x167000,x167001,x167002,x167003=>if x58=true then (some false) else (spec_l1Is.l0 k x1 0 x167000 x167001 x167002 x167003)
def spec_l1Is.l0:Nat→Int→Int→Int→Int→ByteArray→List (SDoc)→Option (Bool)
 | 0,_,_,_,_,_,_=>none
 | k+1,x1,x5,x167000,x167001,x167002,x167003=>if x5<(x167003.length:Int) then (if 0≤x5 then ((spec_l1Is.f k ((rd_TDoc x167003 x5).f0) ((rd_TDoc x167003 x5).f1) ((rd_TDoc x167003 x5).f2) ((rd_TDoc x167003 x5).f3) (wrap64 (x1 - 1))).bind fun t170=>(if t170=true then (spec_l1Is.l0 k x1 (wrap64 (x5+1)) x167000 x167001 x167002 x167003) else (some false))) else (none)) else (some true)
def spec_l1Is.f:Nat→Int→Int→ByteArray→List (SDoc)→Int→Option (Bool)
 | 0,_,_,_,_,_=>none
 | k+1,a0_0,a0_1,a0_2,l0_3,a1=>if a1=0 then (spec_l1Is.j0 k a1 true a0_0 a0_1 a0_2 l0_3) else ((spec_l1Kids.f k a0_0).bind fun t167=>(spec_l1Is.j0 k a1 ((l0_3.length:Int) != t167) a0_0 a0_1 a0_2 l0_3))
end
set_option maxHeartbeats 8000000 in
set_option maxRecDepth 100000 in
theorem spec_l1Is.calls (k:Nat):∀ (a0_0:Int) (a0_1:Int) (a0_2:ByteArray) (A0_3:Option Addr) (c0_3:Nat) (l0_3:List (SDoc)) (a1:Int) (r:Bool) (w:World) (hr0_3:Kd.C k39 w A0_3 l0_3.length l0_3) (hc0_3:l0_3.length≤c0_3) (h:spec_l1Is.f k a0_0 a0_1 a0_2 l0_3 a1=some r),
  Calls Try.prog 71 #[.agg #[.int .i64 a0_0,.int .i64 a0_1,.string a0_2,.slice A0_3 l0_3.length c0_3],.int .i64 a1] w fun e w'=>e=.returned (.bool r)∧Below w.heap.size w w':=by
 induction k using Nat.strongRecOn with
 | _ k ih =>
 intro a0_0 a0_1 a0_2 A0_3 c0_3 l0_3 a1 r w hr0_3 hc0_3 h
 cases k with
 | zero=>exact absurd h (by simp [spec_l1Is.f])
 | succ k =>
 simp only [spec_l1Is.f] at h
 have hu39:=Try.underlying39
 have HR0_3:=Aside0.mk hr0_3
 have HC0_3:=Aside0.mk hc0_3
 clear hr0_3 hc0_3
 have HB:=Aside0.mk (Below.refl w.heap.size w)
 have H:(if a1=0 then (spec_l1Is.j0 k a1 true a0_0 a0_1 a0_2 l0_3) else ((spec_l1Kids.f k a0_0).bind fun t167=>(spec_l1Is.j0 k a1 ((l0_3.length:Int) != t167) a0_0 a0_1 a0_2 l0_3)))=some r:=h
 clear h
 have HC3:=Aside0.mk H
 clear H
 go_enter Try.func71,Try.ntmps71
 go_upto_region 1 with (first|((with_reducible refine gate_dst (N:=2) rfl ?_);(try (refine gate_guard (by rfl) ?_;dsimp only));refine box_event ?hg (N:=2) ?hd (cs:=#[.int .i64 a0_0,.int .i64 a0_1,.string a0_2,.slice A0_3 l0_3.length c0_3]) (t:=39) ?hr ?_;(case hd=>rfl);(case hg=>rfl);(case hr=>first|(go_simp;done)|(go_simp;rfl));intro gb166 hg w4 hbox hb;have n0_:=Aside0.mk (below_step (gB HB) hb);have n1_:=Aside0.mk (hbox);have n2_:=Aside0.mk ((by rw [hg];exact (below_size (gB HB)):w.heap.size≤gb166));have n3_:=Aside0.mk ((by rw [hg];exact (below_size (gB HB)):w.heap.size≤gb166));clear HB;have HB:=n0_;have BK166:=n1_;have GW166:=n2_;have GE166:=n3_;clear n0_ n1_ n2_ n3_;clear hb hbox hg))
 repeat (go_quiet (first|((with_reducible refine gate_dst (N:=2) rfl ?_);(try (refine gate_guard (by rfl) ?_;dsimp only));refine box_event ?hg (N:=2) ?hd (cs:=#[.int .i64 a0_0,.int .i64 a0_1,.string a0_2,.slice A0_3 l0_3.length c0_3]) (t:=39) ?hr ?_;(case hd=>rfl);(case hg=>rfl);(case hr=>first|(go_simp;done)|(go_simp;rfl));intro gb166 hg w4 hbox hb;have n0_:=Aside0.mk (below_step (gB HB) hb);have n1_:=Aside0.mk (hbox);have n2_:=Aside0.mk ((by rw [hg];exact (below_size (gB HB)):w.heap.size≤gb166));have n3_:=Aside0.mk ((by rw [hg];exact (below_size (gB HB)):w.heap.size≤gb166));clear HB;have HB:=n0_;have BK166:=n1_;have GW166:=n2_;have GE166:=n3_;clear n0_ n1_ n2_ n3_;clear hb hbox hg));go_upto_region 1 with (first|((with_reducible refine gate_dst (N:=2) rfl ?_);(try (refine gate_guard (by rfl) ?_;dsimp only));refine box_event ?hg (N:=2) ?hd (cs:=#[.int .i64 a0_0,.int .i64 a0_1,.string a0_2,.slice A0_3 l0_3.length c0_3]) (t:=39) ?hr ?_;(case hd=>rfl);(case hg=>rfl);(case hr=>first|(go_simp;done)|(go_simp;rfl));intro gb166 hg w4 hbox hb;have n0_:=Aside0.mk (below_step (gB HB) hb);have n1_:=Aside0.mk (hbox);have n2_:=Aside0.mk ((by rw [hg];exact (below_size (gB HB)):w.heap.size≤gb166));have n3_:=Aside0.mk ((by rw [hg];exact (below_size (gB HB)):w.heap.size≤gb166));clear HB;have HB:=n0_;have BK166:=n1_;have GW166:=n2_;have GE166:=n3_;clear n0_ n1_ n2_ n3_;clear hb hbox hg)))
 (try simp only [Act.put,List.setIfInBounds_toArray,List.set_cons_zero,List.set_cons_succ])
 go_cut [16] (fun v16 wc=>∃ (kq:Nat) (x16_2:Bool),v16=.bool x16_2∧Aside0 (spec_l1Is.j0 kq a1 x16_2 a0_0 a0_1 a0_2 l0_3=some r)∧Aside0 (kq≤k)∧Aside0 (wc.heap[gb166]?=some (.cells #[.int .i64 a0_0,.int .i64 a0_1,.string a0_2,(.slice A0_3 l0_3.length c0_3)] 39 (0,0)))∧Aside0 (Below w.heap.size w wc))
 case first =>
  have H:=HC3.out
  clear HC3
  by_cases c5:a1=0
  ·rw [if_pos c5] at H
   have c5b0:(a1 == 0)=true:=beq_iff_eq.mpr c5
   have c5b1:(a1 != 0)=false:=bne_eq_false_iff_eq.mpr c5
   clear c5
   (first|rw [c5b0]|(simp only [i64_w,i32_w];rw [c5b0])|skip)
   have H':=Aside0.mk H
   clear H
   go_wp2
   repeat (go_quiet (fail);try go_wp2)
   go_meet
   case rel=>exact ⟨_,(true),(by first|rfl|(simp;done)|(simp [*];done)),H',⟨by first|omega|exact Nat.le_refl _⟩,⟨gK BK166⟩,⟨by repeat (first|exact gB HB|refine below_set ?_ GE166.out)⟩⟩
  ·rw [if_neg c5] at H
   have c5b0:(a1 == 0)=false:=beq_eq_false_iff_ne.mpr c5
   have c5b1:(a1 != 0)=true:=bne_iff_ne.mpr c5
   (first|rw [c5b0]|(simp only [i64_w,i32_w];rw [c5b0])|skip)
   replace H:=Option.bind_eq_some_iff.mp H
   obtain ⟨t167,A60,H⟩:=H
   replace H:(spec_l1Is.j0 k a1 ((l0_3.length:Int) != t167) a0_0 a0_1 a0_2 l0_3)=some r:=H
   have A6:=Aside0.mk A60
   clear A60
   have H':=Aside0.mk H
   clear H
   have hcz7_0:w4.cell? ⟨gb166,0,none⟩=some (.int .i64 a0_0):=(blk_cell BK166.out 0).trans rfl
   have hcz7_1:w4.cell? ⟨gb166,1,none⟩=some (.int .i64 a0_1):=(blk_cell BK166.out 1).trans rfl
   have hcz7_2:w4.cell? ⟨gb166,2,none⟩=some (.string a0_2):=(blk_cell BK166.out 2).trans rfl
   have hcz7_3:w4.cell? ⟨gb166,3,none⟩=some (.slice A0_3 l0_3.length c0_3):=(blk_cell BK166.out 3).trans rfl
   have hfz7_0:=blk_frozen BK166.out 0
   have hfz7_1:=blk_frozen BK166.out 1
   have hfz7_2:=blk_frozen BK166.out 2
   have hfz7_3:=blk_frozen BK166.out 3
   go_wp2_with (first|(go_at_call 85;(with_reducible refine (spec_l1Kids.calls k a0_0 t167 _ A6.out).mono ?_);rintro e w' ⟨rfl,⟨nd,rfl⟩⟩;(try first|exact ⟨rfl,_,World.drewN_drewN _ _ _⟩ | exact ⟨rfl,_,Eq.trans (World.drewN_drewN _ _ _) (congrArg (World.drewN _) (Nat.add_assoc _ _ _))⟩)))
   repeat (go_quiet (first|(go_at_call 85;(with_reducible refine (spec_l1Kids.calls k a0_0 t167 _ A6.out).mono ?_);rintro e w' ⟨rfl,⟨nd,rfl⟩⟩;(try first|exact ⟨rfl,_,World.drewN_drewN _ _ _⟩ | exact ⟨rfl,_,Eq.trans (World.drewN_drewN _ _ _) (congrArg (World.drewN _) (Nat.add_assoc _ _ _))⟩)));try go_wp2_with (first|(go_at_call 85;(with_reducible refine (spec_l1Kids.calls k a0_0 t167 _ A6.out).mono ?_);rintro e w' ⟨rfl,⟨nd,rfl⟩⟩;(try first|exact ⟨rfl,_,World.drewN_drewN _ _ _⟩ | exact ⟨rfl,_,Eq.trans (World.drewN_drewN _ _ _) (congrArg (World.drewN _) (Nat.add_assoc _ _ _))⟩))))
   go_meet
   case rel=>exact ⟨_,(((l0_3.length:Int) != t167)),(by first|rfl|(simp;done)|(simp [*];done)),H',⟨by first|omega|exact Nat.le_refl _⟩,⟨gK BK166⟩,⟨by repeat (first|exact gB HB|refine below_set ?_ GE166.out)⟩⟩
 case rest =>
  clear HC3
  try clear p2 c5 c5b0 c5b1 c7 hcz7_0 hcz7_1 hcz7_2 hcz7_3 hfz7_0 hfz7_1 hfz7_2 hfz7_3
  obtain ⟨kq,x16_2,rfl,HA,HJ2,BK166,HB⟩:=hcut
  cases kq with
  | zero=>exact absurd HA.out (by simp [spec_l1Is.j0])
  | succ kj2 =>
   have H:=HA.out
   clear HA
   simp only [spec_l1Is.j0] at H
   by_cases c8:x16_2=true
   ·subst c8
    have H1:(some false)=some r:=by rw [if_pos rfl] at H;exact H
    clear H
    have H:=H1
    clear H1
    obtain rfl:=Option.some.inj H
    go_wp2
    repeat (go_quiet (fail);try go_wp2)
    go_ret
    exact ⟨by first|rfl|(simp [errW_none,errW_some] <;> rfl)|(simp [*,errW_none,errW_some] <;> rfl),by repeat (first|exact gB HB|refine below_set ?_ GE166.out)⟩
   ·replace c8:=Bool.eq_false_iff.mpr c8
    subst c8
    have H1:(if a0_0=2 then ((spec_TextValid.f kj2 a0_2).bind fun t168=>(if t168=true then (spec_l1Is.j1 kj2 a1 false a0_0 a0_1 a0_2 l0_3) else (spec_l1Is.j1 kj2 a1 true a0_0 a0_1 a0_2 l0_3))) else (spec_l1Is.j1 kj2 a1 (a0_2.toList != ([]:List UInt8)) a0_0 a0_1 a0_2 l0_3))=some r:=by rw [if_neg (show ¬ (false=true) by decide)] at H;exact H
    clear H
    have H:=H1
    clear H1
    have HC9:=Aside0.mk H
    clear H
    go_upto_region 3 with (fail)
    repeat (go_quiet (fail);go_upto_region 3 with (fail))
    go_cut [35] (fun v35 wc=>∃ (kq:Nat) (x35_8:Bool),v35=.bool x35_8∧Aside0 (spec_l1Is.j1 kq a1 x35_8 a0_0 a0_1 a0_2 l0_3=some r)∧Aside0 (kq≤kj2)∧Aside0 (wc.heap[gb166]?=some (.cells #[.int .i64 a0_0,.int .i64 a0_1,.string a0_2,(.slice A0_3 l0_3.length c0_3)] 39 (0,0)))∧Aside0 (Below w.heap.size w wc))
    case first =>
     have H:=HC9.out
     clear HC9
     by_cases c10:a0_0=2
     ·rw [if_pos c10] at H
      have c10b0:(a0_0 == 2)=true:=beq_iff_eq.mpr c10
      have c10b1:(a0_0 != 2)=false:=bne_eq_false_iff_eq.mpr c10
      clear c10
      (first|rw [c10b0]|(simp only [i64_w,i32_w];rw [c10b0])|skip)
      replace H:=Option.bind_eq_some_iff.mp H
      obtain ⟨t168,A110,H⟩:=H
      replace H:(if t168=true then (spec_l1Is.j1 kj2 a1 false a0_0 a0_1 a0_2 l0_3) else (spec_l1Is.j1 kj2 a1 true a0_0 a0_1 a0_2 l0_3))=some r:=H
      have A11:=Aside0.mk A110
      clear A110
      by_cases c12:t168=true
      ·subst c12
       have H1:(spec_l1Is.j1 kj2 a1 false a0_0 a0_1 a0_2 l0_3)=some r:=by rw [if_pos rfl] at H;exact H
       clear H
       have H:=H1
       clear H1
       have H':=Aside0.mk H
       clear H
       have hcz13_0:wc.cell? ⟨gb166,0,none⟩=some (.int .i64 a0_0):=(blk_cell BK166.out 0).trans rfl
       have hcz13_1:wc.cell? ⟨gb166,1,none⟩=some (.int .i64 a0_1):=(blk_cell BK166.out 1).trans rfl
       have hcz13_2:wc.cell? ⟨gb166,2,none⟩=some (.string a0_2):=(blk_cell BK166.out 2).trans rfl
       have hcz13_3:wc.cell? ⟨gb166,3,none⟩=some (.slice A0_3 l0_3.length c0_3):=(blk_cell BK166.out 3).trans rfl
       have hfz13_0:=blk_frozen BK166.out 0
       have hfz13_1:=blk_frozen BK166.out 1
       have hfz13_2:=blk_frozen BK166.out 2
       have hfz13_3:=blk_frozen BK166.out 3
       go_wp2_with (first|(go_at_call 73;(with_reducible refine (spec_TextValid.calls kj2 a0_2 true _ A11.out).mono ?_);rintro e w' ⟨rfl,⟨nd,rfl⟩⟩;(try first|exact ⟨rfl,_,World.drewN_drewN _ _ _⟩ | exact ⟨rfl,_,Eq.trans (World.drewN_drewN _ _ _) (congrArg (World.drewN _) (Nat.add_assoc _ _ _))⟩)))
       repeat (go_quiet (first|(go_at_call 73;(with_reducible refine (spec_TextValid.calls kj2 a0_2 true _ A11.out).mono ?_);rintro e w' ⟨rfl,⟨nd,rfl⟩⟩;(try first|exact ⟨rfl,_,World.drewN_drewN _ _ _⟩ | exact ⟨rfl,_,Eq.trans (World.drewN_drewN _ _ _) (congrArg (World.drewN _) (Nat.add_assoc _ _ _))⟩)));try go_wp2_with (first|(go_at_call 73;(with_reducible refine (spec_TextValid.calls kj2 a0_2 true _ A11.out).mono ?_);rintro e w' ⟨rfl,⟨nd,rfl⟩⟩;(try first|exact ⟨rfl,_,World.drewN_drewN _ _ _⟩ | exact ⟨rfl,_,Eq.trans (World.drewN_drewN _ _ _) (congrArg (World.drewN _) (Nat.add_assoc _ _ _))⟩))))
       go_meet
       case rel=>exact ⟨_,(false),(by first|rfl|(simp;done)|(simp [*];done)),H',⟨by have:=HJ2.out;first|omega|exact Nat.le_refl _⟩,⟨gK BK166⟩,⟨by repeat (first|exact gB HB|refine below_set ?_ GE166.out)⟩⟩
      ·replace c12:=Bool.eq_false_iff.mpr c12
       subst c12
       have H1:(spec_l1Is.j1 kj2 a1 true a0_0 a0_1 a0_2 l0_3)=some r:=by rw [if_neg (show ¬ (false=true) by decide)] at H;exact H
       clear H
       have H:=H1
       clear H1
       have H':=Aside0.mk H
       clear H
       have hcz14_0:wc.cell? ⟨gb166,0,none⟩=some (.int .i64 a0_0):=(blk_cell BK166.out 0).trans rfl
       have hcz14_1:wc.cell? ⟨gb166,1,none⟩=some (.int .i64 a0_1):=(blk_cell BK166.out 1).trans rfl
       have hcz14_2:wc.cell? ⟨gb166,2,none⟩=some (.string a0_2):=(blk_cell BK166.out 2).trans rfl
       have hcz14_3:wc.cell? ⟨gb166,3,none⟩=some (.slice A0_3 l0_3.length c0_3):=(blk_cell BK166.out 3).trans rfl
       have hfz14_0:=blk_frozen BK166.out 0
       have hfz14_1:=blk_frozen BK166.out 1
       have hfz14_2:=blk_frozen BK166.out 2
       have hfz14_3:=blk_frozen BK166.out 3
       go_wp2_with (first|(go_at_call 73;(with_reducible refine (spec_TextValid.calls kj2 a0_2 false _ A11.out).mono ?_);rintro e w' ⟨rfl,⟨nd,rfl⟩⟩;(try first|exact ⟨rfl,_,World.drewN_drewN _ _ _⟩ | exact ⟨rfl,_,Eq.trans (World.drewN_drewN _ _ _) (congrArg (World.drewN _) (Nat.add_assoc _ _ _))⟩)))
       repeat (go_quiet (first|(go_at_call 73;(with_reducible refine (spec_TextValid.calls kj2 a0_2 false _ A11.out).mono ?_);rintro e w' ⟨rfl,⟨nd,rfl⟩⟩;(try first|exact ⟨rfl,_,World.drewN_drewN _ _ _⟩ | exact ⟨rfl,_,Eq.trans (World.drewN_drewN _ _ _) (congrArg (World.drewN _) (Nat.add_assoc _ _ _))⟩)));try go_wp2_with (first|(go_at_call 73;(with_reducible refine (spec_TextValid.calls kj2 a0_2 false _ A11.out).mono ?_);rintro e w' ⟨rfl,⟨nd,rfl⟩⟩;(try first|exact ⟨rfl,_,World.drewN_drewN _ _ _⟩ | exact ⟨rfl,_,Eq.trans (World.drewN_drewN _ _ _) (congrArg (World.drewN _) (Nat.add_assoc _ _ _))⟩))))
       go_meet
       case rel=>exact ⟨_,(true),(by first|rfl|(simp;done)|(simp [*];done)),H',⟨by have:=HJ2.out;first|omega|exact Nat.le_refl _⟩,⟨gK BK166⟩,⟨by repeat (first|exact gB HB|refine below_set ?_ GE166.out)⟩⟩
     ·rw [if_neg c10] at H
      have c10b0:(a0_0 == 2)=false:=beq_eq_false_iff_ne.mpr c10
      have c10b1:(a0_0 != 2)=true:=bne_iff_ne.mpr c10
      (first|rw [c10b0]|(simp only [i64_w,i32_w];rw [c10b0])|skip)
      have H':=Aside0.mk H
      clear H
      have hcz15_0:wc.cell? ⟨gb166,0,none⟩=some (.int .i64 a0_0):=(blk_cell BK166.out 0).trans rfl
      have hcz15_1:wc.cell? ⟨gb166,1,none⟩=some (.int .i64 a0_1):=(blk_cell BK166.out 1).trans rfl
      have hcz15_2:wc.cell? ⟨gb166,2,none⟩=some (.string a0_2):=(blk_cell BK166.out 2).trans rfl
      have hcz15_3:wc.cell? ⟨gb166,3,none⟩=some (.slice A0_3 l0_3.length c0_3):=(blk_cell BK166.out 3).trans rfl
      have hfz15_0:=blk_frozen BK166.out 0
      have hfz15_1:=blk_frozen BK166.out 1
      have hfz15_2:=blk_frozen BK166.out 2
      have hfz15_3:=blk_frozen BK166.out 3
      go_wp2
      repeat (go_quiet (fail);try go_wp2)
      go_meet
      case rel=>exact ⟨_,((a0_2.toList != ([]:List UInt8))),(by first|rfl|(simp only [xp_isEmpty];done)|(simp;done)|(simp [*];done)),H',⟨by have:=HJ2.out;first|omega|exact Nat.le_refl _⟩,⟨gK BK166⟩,⟨by repeat (first|exact gB HB|refine below_set ?_ GE166.out)⟩⟩
    case rest =>
     clear HC9
     try clear c1 p2 c5 c5b0 c5b1 c7 c8 c10 c10b0 c10b1 c12 hcz13_0 hcz13_1 hcz13_2 hcz13_3 hcz14_0 hcz14_1 hcz14_2 hcz14_3 hcz15_0 hcz15_1 hcz15_2 hcz15_3 hcz7_0 hcz7_1 hcz7_2 hcz7_3 hfz13_0 hfz13_1 hfz13_2 hfz13_3 hfz14_0 hfz14_1 hfz14_2 hfz14_3 hfz15_0 hfz15_1 hfz15_2 hfz15_3 hfz7_0 hfz7_1 hfz7_2 hfz7_3 p2
     obtain ⟨kq,x35_8,rfl,HA,HJ8,BK166,HB⟩:=hcut
     cases kq with
     | zero=>exact absurd HA.out (by simp [spec_l1Is.j1])
     | succ kj8 =>
      have H:=HA.out
      clear HA
      simp only [spec_l1Is.j1] at H
      by_cases c16:x35_8=true
      ·subst c16
       have H1:(some false)=some r:=by rw [if_pos rfl] at H;exact H
       clear H
       have H:=H1
       clear H1
       obtain rfl:=Option.some.inj H
       go_wp2
       repeat (go_quiet (fail);try go_wp2)
       go_ret
       exact ⟨by first|rfl|(simp [errW_none,errW_some] <;> rfl)|(simp [*,errW_none,errW_some] <;> rfl),by repeat (first|exact gB HB|refine below_set ?_ GE166.out)⟩
      ·replace c16:=Bool.eq_false_iff.mpr c16
       subst c16
       have H1:(if a0_0=6 then (if a0_1<0 then (spec_l1Is.j2 kj8 a1 true a0_0 a0_1 a0_2 l0_3) else (if a0_1>9 then (spec_l1Is.j2 kj8 a1 true a0_0 a0_1 a0_2 l0_3) else (spec_l1Is.j2 kj8 a1 false a0_0 a0_1 a0_2 l0_3))) else (spec_l1Is.j2 kj8 a1 (a0_1 != 0) a0_0 a0_1 a0_2 l0_3))=some r:=by rw [if_neg (show ¬ (false=true) by decide)] at H;exact H
       clear H
       have H:=H1
       clear H1
       have HC17:=Aside0.mk H
       clear H
       go_upto_region 5 with (fail)
       repeat (go_quiet (fail);go_upto_region 5 with (fail))
       go_cut [58] (fun v58 wc=>∃ (kq:Nat) (x58_16:Bool),v58=.bool x58_16∧Aside0 (spec_l1Is.j2 kq a1 x58_16 a0_0 a0_1 a0_2 l0_3=some r)∧Aside0 (kq≤kj8)∧Aside0 (wc.heap[gb166]?=some (.cells #[.int .i64 a0_0,.int .i64 a0_1,.string a0_2,(.slice A0_3 l0_3.length c0_3)] 39 (0,0)))∧Aside0 (Below w.heap.size w wc))
       case first =>
        have H:=HC17.out
        clear HC17
        by_cases c18:a0_0=6
        ·rw [if_pos c18] at H
         have c18b0:(a0_0 == 6)=true:=beq_iff_eq.mpr c18
         have c18b1:(a0_0 != 6)=false:=bne_eq_false_iff_eq.mpr c18
         clear c18
         (first|rw [c18b0]|(simp only [i64_w,i32_w];rw [c18b0])|skip)
         by_cases c19:a0_1<0
         ·rw [if_pos c19] at H
          have c19b0:decide (a0_1<0)=true:=decide_eq_true c19
          clear c19
          have H':=Aside0.mk H
          clear H
          have hcz20_0:wc.cell? ⟨gb166,0,none⟩=some (.int .i64 a0_0):=(blk_cell BK166.out 0).trans rfl
          have hcz20_1:wc.cell? ⟨gb166,1,none⟩=some (.int .i64 a0_1):=(blk_cell BK166.out 1).trans rfl
          have hcz20_2:wc.cell? ⟨gb166,2,none⟩=some (.string a0_2):=(blk_cell BK166.out 2).trans rfl
          have hcz20_3:wc.cell? ⟨gb166,3,none⟩=some (.slice A0_3 l0_3.length c0_3):=(blk_cell BK166.out 3).trans rfl
          have hfz20_0:=blk_frozen BK166.out 0
          have hfz20_1:=blk_frozen BK166.out 1
          have hfz20_2:=blk_frozen BK166.out 2
          have hfz20_3:=blk_frozen BK166.out 3
          go_wp2
          repeat (go_quiet (fail);try go_wp2)
          go_meet
          case rel=>exact ⟨_,(true),(by first|rfl|(simp;done)|(simp [*];done)),H',⟨by have:=HJ2.out;have:=HJ8.out;first|omega|exact Nat.le_refl _⟩,⟨gK BK166⟩,⟨by repeat (first|exact gB HB|refine below_set ?_ GE166.out)⟩⟩
         ·rw [if_neg c19] at H
          have c19b0:decide (a0_1<0)=false:=decide_eq_false c19
          clear c19
          by_cases c21:a0_1>9
          ·rw [if_pos c21] at H
           have c21b0:decide (9<a0_1)=true:=decide_eq_true c21
           clear c21
           have H':=Aside0.mk H
           clear H
           have hcz22_0:wc.cell? ⟨gb166,0,none⟩=some (.int .i64 a0_0):=(blk_cell BK166.out 0).trans rfl
           have hcz22_1:wc.cell? ⟨gb166,1,none⟩=some (.int .i64 a0_1):=(blk_cell BK166.out 1).trans rfl
           have hcz22_2:wc.cell? ⟨gb166,2,none⟩=some (.string a0_2):=(blk_cell BK166.out 2).trans rfl
           have hcz22_3:wc.cell? ⟨gb166,3,none⟩=some (.slice A0_3 l0_3.length c0_3):=(blk_cell BK166.out 3).trans rfl
           have hfz22_0:=blk_frozen BK166.out 0
           have hfz22_1:=blk_frozen BK166.out 1
           have hfz22_2:=blk_frozen BK166.out 2
           have hfz22_3:=blk_frozen BK166.out 3
           go_wp2
           repeat (go_quiet (fail);try go_wp2)
           go_meet
           case rel=>exact ⟨_,(true),(by first|rfl|(simp;done)|(simp [*];done)),H',⟨by have:=HJ2.out;have:=HJ8.out;first|omega|exact Nat.le_refl _⟩,⟨gK BK166⟩,⟨by repeat (first|exact gB HB|refine below_set ?_ GE166.out)⟩⟩
          ·rw [if_neg c21] at H
           have c21b0:decide (9<a0_1)=false:=decide_eq_false c21
           clear c21
           have H':=Aside0.mk H
           clear H
           have hcz23_0:wc.cell? ⟨gb166,0,none⟩=some (.int .i64 a0_0):=(blk_cell BK166.out 0).trans rfl
           have hcz23_1:wc.cell? ⟨gb166,1,none⟩=some (.int .i64 a0_1):=(blk_cell BK166.out 1).trans rfl
           have hcz23_2:wc.cell? ⟨gb166,2,none⟩=some (.string a0_2):=(blk_cell BK166.out 2).trans rfl
           have hcz23_3:wc.cell? ⟨gb166,3,none⟩=some (.slice A0_3 l0_3.length c0_3):=(blk_cell BK166.out 3).trans rfl
           have hfz23_0:=blk_frozen BK166.out 0
           have hfz23_1:=blk_frozen BK166.out 1
           have hfz23_2:=blk_frozen BK166.out 2
           have hfz23_3:=blk_frozen BK166.out 3
           go_wp2
           repeat (go_quiet (fail);try go_wp2)
           go_meet
           case rel=>exact ⟨_,(false),(by first|rfl|(simp;done)|(simp [*];done)),H',⟨by have:=HJ2.out;have:=HJ8.out;first|omega|exact Nat.le_refl _⟩,⟨gK BK166⟩,⟨by repeat (first|exact gB HB|refine below_set ?_ GE166.out)⟩⟩
        ·rw [if_neg c18] at H
         have c18b0:(a0_0 == 6)=false:=beq_eq_false_iff_ne.mpr c18
         have c18b1:(a0_0 != 6)=true:=bne_iff_ne.mpr c18
         (first|rw [c18b0]|(simp only [i64_w,i32_w];rw [c18b0])|skip)
         have H':=Aside0.mk H
         clear H
         have hcz24_0:wc.cell? ⟨gb166,0,none⟩=some (.int .i64 a0_0):=(blk_cell BK166.out 0).trans rfl
         have hcz24_1:wc.cell? ⟨gb166,1,none⟩=some (.int .i64 a0_1):=(blk_cell BK166.out 1).trans rfl
         have hcz24_2:wc.cell? ⟨gb166,2,none⟩=some (.string a0_2):=(blk_cell BK166.out 2).trans rfl
         have hcz24_3:wc.cell? ⟨gb166,3,none⟩=some (.slice A0_3 l0_3.length c0_3):=(blk_cell BK166.out 3).trans rfl
         have hfz24_0:=blk_frozen BK166.out 0
         have hfz24_1:=blk_frozen BK166.out 1
         have hfz24_2:=blk_frozen BK166.out 2
         have hfz24_3:=blk_frozen BK166.out 3
         go_wp2
         repeat (go_quiet (fail);try go_wp2)
         go_meet
         case rel=>exact ⟨_,((a0_1 != 0)),(by first|rfl|(simp;done)|(simp [*];done)),H',⟨by have:=HJ2.out;have:=HJ8.out;first|omega|exact Nat.le_refl _⟩,⟨gK BK166⟩,⟨by repeat (first|exact gB HB|refine below_set ?_ GE166.out)⟩⟩
       case rest =>
        clear HC17
        try clear c1 c2 p2 c5 c5b0 c5b1 c7 c8 c10 c10b0 c10b1 c12 c16 c18 c18b0 c18b1 c19 c19b0 c21 c21b0 hcz13_0 hcz13_1 hcz13_2 hcz13_3 hcz14_0 hcz14_1 hcz14_2 hcz14_3 hcz15_0 hcz15_1 hcz15_2 hcz15_3 hcz20_0 hcz20_1 hcz20_2 hcz20_3 hcz22_0 hcz22_1 hcz22_2 hcz22_3 hcz23_0 hcz23_1 hcz23_2 hcz23_3 hcz24_0 hcz24_1 hcz24_2 hcz24_3 hcz7_0 hcz7_1 hcz7_2 hcz7_3 hfz13_0 hfz13_1 hfz13_2 hfz13_3 hfz14_0 hfz14_1 hfz14_2 hfz14_3 hfz15_0 hfz15_1 hfz15_2 hfz15_3 hfz20_0 hfz20_1 hfz20_2 hfz20_3 hfz22_0 hfz22_1 hfz22_2 hfz22_3 hfz23_0 hfz23_1 hfz23_2 hfz23_3 hfz24_0 hfz24_1 hfz24_2 hfz24_3 hfz7_0 hfz7_1 hfz7_2 hfz7_3 p2
        obtain ⟨kq,x58_16,rfl,HA,HJ16,BK166,HB⟩:=hcut
        cases kq with
        | zero=>exact absurd HA.out (by simp [spec_l1Is.j2])
        | succ kj16 =>
         have H:=HA.out
         clear HA
         simp only [spec_l1Is.j2] at H
         by_cases c25:x58_16=true
         ·subst c25
          have H1:(some false)=some r:=by rw [if_pos rfl] at H;exact H
          clear H
          have H:=H1
          clear H1
          obtain rfl:=Option.some.inj H
          go_wp2
          repeat (go_quiet (fail);try go_wp2)
          go_ret
          exact ⟨by first|rfl|(simp [errW_none,errW_some] <;> rfl)|(simp [*,errW_none,errW_some] <;> rfl),by repeat (first|exact gB HB|refine below_set ?_ GE166.out)⟩
         ·replace c25:=Bool.eq_false_iff.mpr c25
          subst c25
          have H1:(spec_l1Is.l0 kj16 a1 0 a0_0 a0_1 a0_2 l0_3)=some r:=by rw [if_neg (show ¬ (false=true) by decide)] at H;exact H
          clear H
          have H:=H1
          clear H1
          have H':=Aside0.mk H
          clear H
          go_wp2
          repeat (go_quiet (fail);try go_wp2)
          go_loopg [5] kj16 (fun kq v5 w'=>∃ (x5_4:Int),v5=.int .i64 x5_4∧Aside0 (spec_l1Is.l0 kq a1 x5_4 a0_0 a0_1 a0_2 l0_3=some r)∧Aside0 (kq≤kj16)∧Aside0 (w'.heap[gb166]?=some (.cells #[.int .i64 a0_0,.int .i64 a0_1,.string a0_2,(.slice A0_3 l0_3.length c0_3)] 39 (0,0)))∧Aside0 (Below w.heap.size w w'))
          case atStart=>exact ⟨(0),(by first|rfl|(simp;done)|(simp [*];done)),H',⟨Nat.le_refl _⟩,⟨gK BK166⟩,⟨by repeat (first|exact gB HB|refine below_set ?_ GE166.out)⟩⟩
          case round =>
           clear H'
           try clear c1 c2 p2 c5 c5b0 c5b1 c7 c8 c10 c10b0 c10b1 c12 c16 c18 c18b0 c18b1 c19 c19b0 c21 c21b0 c25 hcz13_0 hcz13_1 hcz13_2 hcz13_3 hcz14_0 hcz14_1 hcz14_2 hcz14_3 hcz15_0 hcz15_1 hcz15_2 hcz15_3 hcz20_0 hcz20_1 hcz20_2 hcz20_3 hcz22_0 hcz22_1 hcz22_2 hcz22_3 hcz23_0 hcz23_1 hcz23_2 hcz23_3 hcz24_0 hcz24_1 hcz24_2 hcz24_3 hcz7_0 hcz7_1 hcz7_2 hcz7_3 hfz13_0 hfz13_1 hfz13_2 hfz13_3 hfz14_0 hfz14_1 hfz14_2 hfz14_3 hfz15_0 hfz15_1 hfz15_2 hfz15_3 hfz20_0 hfz20_1 hfz20_2 hfz20_3 hfz22_0 hfz22_1 hfz22_2 hfz22_3 hfz23_0 hfz23_1 hfz23_2 hfz23_3 hfz24_0 hfz24_1 hfz24_2 hfz24_3 hfz7_0 hfz7_1 hfz7_2 hfz7_3 p2
           (try clear BK166);(try clear HB)
           obtain ⟨x5_4,rfl,HA,HK4,BK166,HB⟩:=hrel
           cases gk with
           | zero=>exact absurd HA.out (by simp [spec_l1Is.l0])
           | succ k4 =>
            have H:=HA.out
            clear HA
            simp only [spec_l1Is.l0] at H
            by_cases c26:x5_4<(l0_3.length:Int)
            ·rw [if_pos c26] at H
             have c26b0:decide (x5_4<(l0_3.length:Int))=true:=decide_eq_true c26
             clear c26
             by_cases c27:0≤x5_4
             ·rw [if_pos c27] at H
              have c27b0:decide (0≤x5_4)=true:=decide_eq_true c27
              clear c27
              replace H:=Option.bind_eq_some_iff.mp H
              obtain ⟨t170,A280,H⟩:=H
              replace H:(if t170=true then (spec_l1Is.l0 k4 a1 (wrap64 (x5_4+1)) a0_0 a0_1 a0_2 l0_3) else (some false))=some r:=H
              have A28:=Aside0.mk A280
              clear A280
              by_cases c29:t170=true
              ·subst c29
               have H1:(spec_l1Is.l0 k4 a1 (wrap64 (x5_4+1)) a0_0 a0_1 a0_2 l0_3)=some r:=by rw [if_pos rfl] at H;exact H
               clear H
               have H:=H1
               clear H1
               have H':=Aside0.mk H
               clear H
               have hcz30_0:wr.cell? ⟨gb166,0,none⟩=some (.int .i64 a0_0):=(blk_cell BK166.out 0).trans rfl
               have hcz30_1:wr.cell? ⟨gb166,1,none⟩=some (.int .i64 a0_1):=(blk_cell BK166.out 1).trans rfl
               have hcz30_2:wr.cell? ⟨gb166,2,none⟩=some (.string a0_2):=(blk_cell BK166.out 2).trans rfl
               have hcz30_3:wr.cell? ⟨gb166,3,none⟩=some (.slice A0_3 l0_3.length c0_3):=(blk_cell BK166.out 3).trans rfl
               have hfz30_0:=blk_frozen BK166.out 0
               have hfz30_1:=blk_frozen BK166.out 1
               have hfz30_2:=blk_frozen BK166.out 2
               have hfz30_3:=blk_frozen BK166.out 3
               have p169:0≤(x5_4:Int):=of_decide_eq_true (by first|(with_reducible assumption)|assumption)
               have q169:x5_4<(l0_3.length:Int):=of_decide_eq_true (by first|(with_reducible assumption)|assumption)
               obtain ⟨ad169,A169_3,c169_3,e169,hx169_0,hx169_1,hx169_2,hx169_3,hl169_3,hi169_3⟩:=at_TDoc HR0_3.out x5_4 p169 q169
               cases e169
               replace hx169_0:=(HB.out.cell (World.block_lt_of_cell? w _ hx169_0)).trans hx169_0
               replace hx169_1:=(HB.out.cell (World.block_lt_of_cell? w _ hx169_1)).trans hx169_1
               replace hx169_2:=(HB.out.cell (World.block_lt_of_cell? w _ hx169_2)).trans hx169_2
               replace hx169_3:=(HB.out.cell (World.block_lt_of_cell? w _ hx169_3)).trans hx169_3
               have HR169_3:=Aside0.mk hi169_3
               have HC169_3:=Aside0.mk hl169_3
               clear hi169_3 hl169_3
               replace p169:=eq_true p169
               replace q169:=eq_true q169
               go_wp2_with (first|(go_at_call 71;(with_reducible refine (ih k4 (by have:=HJ2.out;have:=HJ8.out;have:=HJ16.out;have:=HK4.out;omega) ((rd_TDoc l0_3 x5_4).f0) ((rd_TDoc l0_3 x5_4).f1) ((rd_TDoc l0_3 x5_4).f2) _ _ ((rd_TDoc l0_3 x5_4).f3) (wrap64 (a1 - 1)) true _ ?side1 ?side2 A28.out).mono ?_);(case side1=>exact gC (Kd.C_below HR169_3.out HB.out));(case side2=>exact HC169_3.out);rintro e w31 ⟨rfl,hb⟩;have n0_:=Aside0.mk (blk_below (g:=gb166) (o:=.cells #[.int .i64 a0_0,.int .i64 a0_1,.string a0_2,.slice (some ad169) l0_3.length c0_3] 39 (0,0)) (gK BK166) hb);have n1_:=Aside0.mk (below_step (by repeat (first|exact gB HB|refine below_set ?_ GE166.out)) hb);clear BK166;clear HB;have BK166:=n0_;have HB:=n1_;clear n0_ n1_;(try clear hb);(try clear hb2);(try clear hk);(try clear hi)))
               repeat (go_quiet (first|(go_at_call 71;(with_reducible refine (ih k4 (by have:=HJ2.out;have:=HJ8.out;have:=HJ16.out;have:=HK4.out;omega) ((rd_TDoc l0_3 x5_4).f0) ((rd_TDoc l0_3 x5_4).f1) ((rd_TDoc l0_3 x5_4).f2) _ _ ((rd_TDoc l0_3 x5_4).f3) (wrap64 (a1 - 1)) true _ ?side1 ?side2 A28.out).mono ?_);(case side1=>exact gC (Kd.C_below HR169_3.out HB.out));(case side2=>exact HC169_3.out);rintro e w31 ⟨rfl,hb⟩;have n0_:=Aside0.mk (blk_below (g:=gb166) (o:=.cells #[.int .i64 a0_0,.int .i64 a0_1,.string a0_2,.slice (some ad169) l0_3.length c0_3] 39 (0,0)) (gK BK166) hb);have n1_:=Aside0.mk (below_step (by repeat (first|exact gB HB|refine below_set ?_ GE166.out)) hb);clear BK166;clear HB;have BK166:=n0_;have HB:=n1_;clear n0_ n1_;(try clear hb);(try clear hb2);(try clear hk);(try clear hi)));try go_wp2_with (first|(go_at_call 71;(with_reducible refine (ih k4 (by have:=HJ2.out;have:=HJ8.out;have:=HJ16.out;have:=HK4.out;omega) ((rd_TDoc l0_3 x5_4).f0) ((rd_TDoc l0_3 x5_4).f1) ((rd_TDoc l0_3 x5_4).f2) _ _ ((rd_TDoc l0_3 x5_4).f3) (wrap64 (a1 - 1)) true _ ?side1 ?side2 A28.out).mono ?_);(case side1=>exact gC (Kd.C_below HR169_3.out HB.out));(case side2=>exact HC169_3.out);rintro e w31 ⟨rfl,hb⟩;have n0_:=Aside0.mk (blk_below (g:=gb166) (o:=.cells #[.int .i64 a0_0,.int .i64 a0_1,.string a0_2,.slice (some ad169) l0_3.length c0_3] 39 (0,0)) (gK BK166) hb);have n1_:=Aside0.mk (below_step (by repeat (first|exact gB HB|refine below_set ?_ GE166.out)) hb);clear BK166;clear HB;have BK166:=n0_;have HB:=n1_;clear n0_ n1_;(try clear hb);(try clear hb2);(try clear hk);(try clear hi))))
               go_roundg k4
               case measure=>have:=HJ2.out;have:=HJ8.out;have:=HJ16.out;have:=HK4.out;omega
               case rel=>exact ⟨(wrap64 (x5_4+1)),(by first|rfl|(simp;done)|(simp [*];done)),H',⟨by have:=HJ2.out;have:=HJ8.out;have:=HJ16.out;have:=HK4.out;omega⟩,⟨gK BK166⟩,⟨by repeat (first|exact gB HB|refine below_set ?_ GE166.out)⟩⟩
              ·replace c29:=Bool.eq_false_iff.mpr c29
               subst c29
               have H1:(some false)=some r:=by rw [if_neg (show ¬ (false=true) by decide)] at H;exact H
               clear H
               have H:=H1
               clear H1
               obtain rfl:=Option.some.inj H
               have hcz32_0:wr.cell? ⟨gb166,0,none⟩=some (.int .i64 a0_0):=(blk_cell BK166.out 0).trans rfl
               have hcz32_1:wr.cell? ⟨gb166,1,none⟩=some (.int .i64 a0_1):=(blk_cell BK166.out 1).trans rfl
               have hcz32_2:wr.cell? ⟨gb166,2,none⟩=some (.string a0_2):=(blk_cell BK166.out 2).trans rfl
               have hcz32_3:wr.cell? ⟨gb166,3,none⟩=some (.slice A0_3 l0_3.length c0_3):=(blk_cell BK166.out 3).trans rfl
               have hfz32_0:=blk_frozen BK166.out 0
               have hfz32_1:=blk_frozen BK166.out 1
               have hfz32_2:=blk_frozen BK166.out 2
               have hfz32_3:=blk_frozen BK166.out 3
               have p169:0≤(x5_4:Int):=of_decide_eq_true (by first|(with_reducible assumption)|assumption)
               have q169:x5_4<(l0_3.length:Int):=of_decide_eq_true (by first|(with_reducible assumption)|assumption)
               (try clear hx169_0);(try clear hx169_1);(try clear hx169_2);(try clear hx169_3)
               obtain ⟨ad169,A169_3,c169_3,e169,hx169_0,hx169_1,hx169_2,hx169_3,hl169_3,hi169_3⟩:=at_TDoc HR0_3.out x5_4 p169 q169
               cases e169
               (try (have ea_:=Option.some.inj (hx169_3.symm.trans hw169_3);injection ea_ with ea_ en_ ec_;subst ea_;subst ec_;clear en_))
               replace hx169_0:=(HB.out.cell (World.block_lt_of_cell? w _ hx169_0)).trans hx169_0
               replace hx169_1:=(HB.out.cell (World.block_lt_of_cell? w _ hx169_1)).trans hx169_1
               replace hx169_2:=(HB.out.cell (World.block_lt_of_cell? w _ hx169_2)).trans hx169_2
               replace hx169_3:=(HB.out.cell (World.block_lt_of_cell? w _ hx169_3)).trans hx169_3
               have HR169_3:=Aside0.mk hi169_3
               have HC169_3:=Aside0.mk hl169_3
               clear hi169_3 hl169_3
               replace p169:=eq_true p169
               replace q169:=eq_true q169
               go_wp2_with (first|(go_at_call 71;(with_reducible refine (ih k4 (by have:=HJ2.out;have:=HJ8.out;have:=HJ16.out;have:=HK4.out;omega) ((rd_TDoc l0_3 x5_4).f0) ((rd_TDoc l0_3 x5_4).f1) ((rd_TDoc l0_3 x5_4).f2) _ _ ((rd_TDoc l0_3 x5_4).f3) (wrap64 (a1 - 1)) false _ ?side1 ?side2 A28.out).mono ?_);(case side1=>exact gC (Kd.C_below HR169_3.out HB.out));(case side2=>exact HC169_3.out);rintro e w33 ⟨rfl,hb⟩;have n0_:=Aside0.mk (blk_below (g:=gb166) (o:=.cells #[.int .i64 a0_0,.int .i64 a0_1,.string a0_2,.slice (some ad169) l0_3.length c0_3] 39 (0,0)) (gK BK166) hb);have n1_:=Aside0.mk (below_step (by repeat (first|exact gB HB|refine below_set ?_ GE166.out)) hb);clear BK166;clear HB;have BK166:=n0_;have HB:=n1_;clear n0_ n1_;(try clear hb);(try clear hb2);(try clear hk);(try clear hi)))
               repeat (go_quiet (first|(go_at_call 71;(with_reducible refine (ih k4 (by have:=HJ2.out;have:=HJ8.out;have:=HJ16.out;have:=HK4.out;omega) ((rd_TDoc l0_3 x5_4).f0) ((rd_TDoc l0_3 x5_4).f1) ((rd_TDoc l0_3 x5_4).f2) _ _ ((rd_TDoc l0_3 x5_4).f3) (wrap64 (a1 - 1)) false _ ?side1 ?side2 A28.out).mono ?_);(case side1=>exact gC (Kd.C_below HR169_3.out HB.out));(case side2=>exact HC169_3.out);rintro e w33 ⟨rfl,hb⟩;have n0_:=Aside0.mk (blk_below (g:=gb166) (o:=.cells #[.int .i64 a0_0,.int .i64 a0_1,.string a0_2,.slice (some ad169) l0_3.length c0_3] 39 (0,0)) (gK BK166) hb);have n1_:=Aside0.mk (below_step (by repeat (first|exact gB HB|refine below_set ?_ GE166.out)) hb);clear BK166;clear HB;have BK166:=n0_;have HB:=n1_;clear n0_ n1_;(try clear hb);(try clear hb2);(try clear hk);(try clear hi)));try go_wp2_with (first|(go_at_call 71;(with_reducible refine (ih k4 (by have:=HJ2.out;have:=HJ8.out;have:=HJ16.out;have:=HK4.out;omega) ((rd_TDoc l0_3 x5_4).f0) ((rd_TDoc l0_3 x5_4).f1) ((rd_TDoc l0_3 x5_4).f2) _ _ ((rd_TDoc l0_3 x5_4).f3) (wrap64 (a1 - 1)) false _ ?side1 ?side2 A28.out).mono ?_);(case side1=>exact gC (Kd.C_below HR169_3.out HB.out));(case side2=>exact HC169_3.out);rintro e w33 ⟨rfl,hb⟩;have n0_:=Aside0.mk (blk_below (g:=gb166) (o:=.cells #[.int .i64 a0_0,.int .i64 a0_1,.string a0_2,.slice (some ad169) l0_3.length c0_3] 39 (0,0)) (gK BK166) hb);have n1_:=Aside0.mk (below_step (by repeat (first|exact gB HB|refine below_set ?_ GE166.out)) hb);clear BK166;clear HB;have BK166:=n0_;have HB:=n1_;clear n0_ n1_;(try clear hb);(try clear hb2);(try clear hk);(try clear hi))))
               go_ret
               exact ⟨by first|rfl|(simp [errW_none,errW_some] <;> rfl)|(simp [*,errW_none,errW_some] <;> rfl),by repeat (first|exact gB HB|refine below_set ?_ GE166.out)⟩
             ·rw [if_neg c27] at H
              exact absurd H (by simp)
            ·rw [if_neg c26] at H
             have c26b0:decide (x5_4<(l0_3.length:Int))=false:=decide_eq_false c26
             clear c26
             obtain rfl:=Option.some.inj H
             have hcz34_0:wr.cell? ⟨gb166,0,none⟩=some (.int .i64 a0_0):=(blk_cell BK166.out 0).trans rfl
             have hcz34_1:wr.cell? ⟨gb166,1,none⟩=some (.int .i64 a0_1):=(blk_cell BK166.out 1).trans rfl
             have hcz34_2:wr.cell? ⟨gb166,2,none⟩=some (.string a0_2):=(blk_cell BK166.out 2).trans rfl
             have hcz34_3:wr.cell? ⟨gb166,3,none⟩=some (.slice A0_3 l0_3.length c0_3):=(blk_cell BK166.out 3).trans rfl
             have hfz34_0:=blk_frozen BK166.out 0
             have hfz34_1:=blk_frozen BK166.out 1
             have hfz34_2:=blk_frozen BK166.out 2
             have hfz34_3:=blk_frozen BK166.out 3
             go_wp2
             repeat (go_quiet (fail);try go_wp2)
             go_ret
             exact ⟨by first|rfl|(simp [errW_none,errW_some] <;> rfl)|(simp [*,errW_none,errW_some] <;> rfl),by repeat (first|exact gB HB|refine below_set ?_ GE166.out)⟩
end Go.Proofs.Ytdhdfmmefghijab.P
namespace Go.Proofs.Ytdhdfmmefghijab.P
open Go.RowKit Go.Proofs.YtdhdfmmefghijabW.PrintWords Go.Proofs.YtdhdfmmefghijabW.PrintLast Go.Proofs.YtdhdfmmefghijabW.PrintMore
attribute [local go_sem] max2_int min2_int max_two min_two max_three min_three max_four min_four
set_option linter.unusedVariables false
set_option linter.unusedSimpArgs false
def spec_DocValid.f (k:Nat) (a0_0:Int) (a0_1:Int) (a0_2:ByteArray) (l0_3:List (SDoc)):Option (Bool):=(spec_l1Is.f k a0_0 a0_1 a0_2 l0_3 40).bind fun t175=>(if t175=true then ((spec_l1Count.f k a0_0 a0_1 a0_2 l0_3).bind fun t176=>(some (decide (t176≤80)))) else (some false))
set_option maxHeartbeats 8000000 in
set_option maxRecDepth 100000 in
theorem spec_DocValid.calls (k:Nat) (a0_0:Int) (a0_1:Int) (a0_2:ByteArray) (A0_3:Option Addr) (c0_3:Nat) (l0_3:List (SDoc)) (r:Bool) (w:World) (hr0_3:Kd.C k39 w A0_3 l0_3.length l0_3) (hc0_3:l0_3.length≤c0_3) (h:spec_DocValid.f k a0_0 a0_1 a0_2 l0_3=some r) :
  Calls Try.prog 52 #[.agg #[.int .i64 a0_0,.int .i64 a0_1,.string a0_2,.slice A0_3 l0_3.length c0_3]] w fun e w'=>e=.returned (.bool r)∧Below w.heap.size w w':=by
 have hu39:=Try.underlying39
 have HR0_3:=Aside0.mk hr0_3
 have HC0_3:=Aside0.mk hc0_3
 clear hr0_3 hc0_3
 have HB:=Aside0.mk (Below.refl w.heap.size w)
 have H:((spec_l1Is.f k a0_0 a0_1 a0_2 l0_3 40).bind fun t175=>(if t175=true then ((spec_l1Count.f k a0_0 a0_1 a0_2 l0_3).bind fun t176=>(some (decide (t176≤80)))) else (some false)))=some r:=h
 clear h
 replace H:=Option.bind_eq_some_iff.mp H
 obtain ⟨t175,A20,H⟩:=H
 replace H:(if t175=true then ((spec_l1Count.f k a0_0 a0_1 a0_2 l0_3).bind fun t176=>(some (decide (t176≤80)))) else (some false))=some r:=H
 have A2:=Aside0.mk A20
 clear A20
 by_cases c3:t175=true
 ·subst c3
  have H1:((spec_l1Count.f k a0_0 a0_1 a0_2 l0_3).bind fun t176=>(some (decide (t176≤80))))=some r:=by rw [if_pos rfl] at H;exact H
  clear H
  have H:=H1
  clear H1
  replace H:=Option.bind_eq_some_iff.mp H
  obtain ⟨t176,A40,H⟩:=H
  replace H:(some (decide (t176≤80)))=some r:=H
  have A4:=Aside0.mk A40
  clear A40
  obtain rfl:=Option.some.inj H
  go_enter Try.func52,Try.ntmps52
  go_wp2_with (first|((with_reducible refine gate_dst (N:=1) rfl ?_);refine box_event ?hg (N:=1) ?hd (cs:=#[.int .i64 a0_0,.int .i64 a0_1,.string a0_2,.slice A0_3 l0_3.length c0_3]) (t:=39) ?hr ?_;(case hd=>rfl);(case hg=>rfl);(case hr=>first|(go_simp;done)|(go_simp;rfl));intro gb174 hg w5 hbox hb;have n0_:=Aside0.mk (below_step (gB HB) hb);have n1_:=Aside0.mk (hbox);have n2_:=Aside0.mk ((by rw [hg];exact (below_size (gB HB)):w.heap.size≤gb174));have n3_:=Aside0.mk ((by rw [hg];exact (below_size (gB HB)):w.heap.size≤gb174));clear HB;have HB:=n0_;have BK174:=n1_;have GW174:=n2_;have GE174:=n3_;clear n0_ n1_ n2_ n3_;clear hb hbox hg;have hcz6_0:w5.cell? ⟨gb174,0,none⟩=some (.int .i64 a0_0):=(blk_cell BK174.out 0).trans rfl;have hcz6_1:w5.cell? ⟨gb174,1,none⟩=some (.int .i64 a0_1):=(blk_cell BK174.out 1).trans rfl;have hcz6_2:w5.cell? ⟨gb174,2,none⟩=some (.string a0_2):=(blk_cell BK174.out 2).trans rfl;have hcz6_3:w5.cell? ⟨gb174,3,none⟩=some (.slice A0_3 l0_3.length c0_3):=(blk_cell BK174.out 3).trans rfl;have hfz6_0:=blk_frozen BK174.out 0;have hfz6_1:=blk_frozen BK174.out 1;have hfz6_2:=blk_frozen BK174.out 2;have hfz6_3:=blk_frozen BK174.out 3)|((with_reducible refine gate_callee (f:=71) rfl ?_);refine goesL_ (some 4) rfl rfl Try.func71 (by kernel_rfl) rfl #[.agg #[.int .i64 a0_0,.int .i64 a0_1,.string a0_2,.slice A0_3 l0_3.length c0_3],.int .i64 40] rfl (by (try simp only [List.map_toArray,List.map_cons,List.map_nil]);first|done|rfl|(simp only [List.length_drop,List.length_take];rfl)) ?_;(with_reducible refine (spec_l1Is.calls k a0_0 a0_1 a0_2 _ _ l0_3 40 true _ ?side1 ?side2 A2.out).mono ?_);(case side1=>exact gC (Kd.C_below HR0_3.out HB.out));(case side2=>exact HC0_3.out);rintro e w7 ⟨rfl,hb⟩;refine ⟨_,rfl,?_⟩;have n0_:=Aside0.mk (blk_below (g:=gb174) (o:=.cells #[.int .i64 a0_0,.int .i64 a0_1,.string a0_2,.slice A0_3 l0_3.length c0_3] 39 (0,0)) (gK BK174) hb);have n1_:=Aside0.mk (below_step (by repeat (first|exact gB HB|refine below_set ?_ GE174.out)) hb);clear BK174;clear HB;have BK174:=n0_;have HB:=n1_;clear n0_ n1_;(try clear hb);(try clear hb2);(try clear hk);(try clear hi);have hcz8_0:w7.cell? ⟨gb174,0,none⟩=some (.int .i64 a0_0):=(blk_cell BK174.out 0).trans rfl;have hcz8_1:w7.cell? ⟨gb174,1,none⟩=some (.int .i64 a0_1):=(blk_cell BK174.out 1).trans rfl;have hcz8_2:w7.cell? ⟨gb174,2,none⟩=some (.string a0_2):=(blk_cell BK174.out 2).trans rfl;have hcz8_3:w7.cell? ⟨gb174,3,none⟩=some (.slice A0_3 l0_3.length c0_3):=(blk_cell BK174.out 3).trans rfl;have hfz8_0:=blk_frozen BK174.out 0;have hfz8_1:=blk_frozen BK174.out 1;have hfz8_2:=blk_frozen BK174.out 2;have hfz8_3:=blk_frozen BK174.out 3)|(go_at_call 72;(with_reducible refine (spec_l1Count.calls k a0_0 a0_1 a0_2 _ _ l0_3 t176 _ ?side1 ?side2 A4.out).mono ?_);(case side1=>exact gC (Kd.C_below HR0_3.out HB.out));(case side2=>exact HC0_3.out);rintro e w9 ⟨rfl,hb⟩;have n0_:=Aside0.mk (blk_below (g:=gb174) (o:=.cells #[.int .i64 a0_0,.int .i64 a0_1,.string a0_2,.slice A0_3 l0_3.length c0_3] 39 (0,0)) (gK BK174) hb);have n1_:=Aside0.mk (below_step (by repeat (first|exact gB HB|refine below_set ?_ GE174.out)) hb);clear BK174;clear HB;have BK174:=n0_;have HB:=n1_;clear n0_ n1_;(try clear hb);(try clear hb2);(try clear hk);(try clear hi)))
  go_ret
  exact ⟨by first|rfl|(simp [errW_none,errW_some] <;> rfl)|(simp [*,errW_none,errW_some] <;> rfl),by repeat (first|exact gB HB|refine below_set ?_ GE174.out)⟩
 ·replace c3:=Bool.eq_false_iff.mpr c3
  subst c3
  have H1:(some false)=some r:=by rw [if_neg (show ¬ (false=true) by decide)] at H;exact H
  clear H
  have H:=H1
  clear H1
  obtain rfl:=Option.some.inj H
  go_enter Try.func52,Try.ntmps52
  go_wp2_with (first|((with_reducible refine gate_dst (N:=1) rfl ?_);refine box_event ?hg (N:=1) ?hd (cs:=#[.int .i64 a0_0,.int .i64 a0_1,.string a0_2,.slice A0_3 l0_3.length c0_3]) (t:=39) ?hr ?_;(case hd=>rfl);(case hg=>rfl);(case hr=>first|(go_simp;done)|(go_simp;rfl));intro gb174 hg w10 hbox hb;have n0_:=Aside0.mk (below_step (gB HB) hb);have n1_:=Aside0.mk (hbox);have n2_:=Aside0.mk ((by rw [hg];exact (below_size (gB HB)):w.heap.size≤gb174));have n3_:=Aside0.mk ((by rw [hg];exact (below_size (gB HB)):w.heap.size≤gb174));clear HB;have HB:=n0_;have BK174:=n1_;have GW174:=n2_;have GE174:=n3_;clear n0_ n1_ n2_ n3_;clear hb hbox hg;have hcz11_0:w10.cell? ⟨gb174,0,none⟩=some (.int .i64 a0_0):=(blk_cell BK174.out 0).trans rfl;have hcz11_1:w10.cell? ⟨gb174,1,none⟩=some (.int .i64 a0_1):=(blk_cell BK174.out 1).trans rfl;have hcz11_2:w10.cell? ⟨gb174,2,none⟩=some (.string a0_2):=(blk_cell BK174.out 2).trans rfl;have hcz11_3:w10.cell? ⟨gb174,3,none⟩=some (.slice A0_3 l0_3.length c0_3):=(blk_cell BK174.out 3).trans rfl;have hfz11_0:=blk_frozen BK174.out 0;have hfz11_1:=blk_frozen BK174.out 1;have hfz11_2:=blk_frozen BK174.out 2;have hfz11_3:=blk_frozen BK174.out 3)|((with_reducible refine gate_callee (f:=71) rfl ?_);refine goesL_ (some 4) rfl rfl Try.func71 (by kernel_rfl) rfl #[.agg #[.int .i64 a0_0,.int .i64 a0_1,.string a0_2,.slice A0_3 l0_3.length c0_3],.int .i64 40] rfl (by (try simp only [List.map_toArray,List.map_cons,List.map_nil]);first|done|rfl|(simp only [List.length_drop,List.length_take];rfl)) ?_;(with_reducible refine (spec_l1Is.calls k a0_0 a0_1 a0_2 _ _ l0_3 40 false _ ?side1 ?side2 A2.out).mono ?_);(case side1=>exact gC (Kd.C_below HR0_3.out HB.out));(case side2=>exact HC0_3.out);rintro e w12 ⟨rfl,hb⟩;refine ⟨_,rfl,?_⟩;have n0_:=Aside0.mk (blk_below (g:=gb174) (o:=.cells #[.int .i64 a0_0,.int .i64 a0_1,.string a0_2,.slice A0_3 l0_3.length c0_3] 39 (0,0)) (gK BK174) hb);have n1_:=Aside0.mk (below_step (by repeat (first|exact gB HB|refine below_set ?_ GE174.out)) hb);clear BK174;clear HB;have BK174:=n0_;have HB:=n1_;clear n0_ n1_;(try clear hb);(try clear hb2);(try clear hk);(try clear hi)))
  go_ret
  exact ⟨by first|rfl|(simp [errW_none,errW_some] <;> rfl)|(simp [*,errW_none,errW_some] <;> rfl),by repeat (first|exact gB HB|refine below_set ?_ GE174.out)⟩
end Go.Proofs.Ytdhdfmmefghijab.P
namespace Go.Proofs.Ytdhdfmmefghijab.P
open Go.RowKit Go.Proofs.YtdhdfmmefghijabW.PrintWords Go.Proofs.YtdhdfmmefghijabW.PrintLast Go.Proofs.YtdhdfmmefghijabW.PrintMore
attribute [local go_sem] max2_int min2_int max_two min_two max_three min_three max_four min_four
set_option linter.unusedVariables false
set_option linter.unusedSimpArgs false
mutual
def spec_l1Word.j1:Nat→ByteArray→Int→Int→Option (Int×Int×ByteArray×(List (SDoc))×Int)
 | 0,_,_,_=>none
 | k+1,x0,x1,x6=>if x6≥(x0.size:Int) then (some (0,0,(⟨#[]⟩:ByteArray),([]:List (SDoc)),(-1))) else (if 0≤(wrap64 (x1+1)) then (if (wrap64 (x1+1))≤x6 then (if x6≤(x0.size:Int) then (some (2,0,x0.extract ((wrap64 (x1+1)):Int).toNat (x6:Int).toNat,([]:List (SDoc)),wrap64 (x6+1))) else (none)) else (none)) else (none))
def spec_l1Word.l0:Nat→ByteArray→Int→Int→Option (Int×Int×ByteArray×(List (SDoc))×Int)
 | 0,_,_,_=>none
 | k+1,x0,x1,x6=>if x6<(x0.size:Int) then (if 0≤x6 then (if (bt x0 x6)=34 then (spec_l1Word.j1 k x0 x1 x6) else (spec_l1Word.l0 k x0 x1 (wrap64 (x6+1)))) else (none)) else (spec_l1Word.j1 k x0 x1 x6)
end
def spec_l1Word.f (k:Nat) (a0:ByteArray) (a1:Int):Option (Int×Int×ByteArray×(List (SDoc))×Int):=spec_l1Word.l0 k a0 a1 (wrap64 (a1+1))
set_option maxHeartbeats 8000000 in
set_option maxRecDepth 100000 in
theorem spec_l1Word.calls (k:Nat) (a0:ByteArray) (a1:Int) (r1:Int) (r2:Int) (r3:ByteArray) (r4:List (SDoc)) (r5:Int) (w:World) (h:spec_l1Word.f k a0 a1=some (r1,r2,r3,r4,r5)) :
  Calls Try.prog 100 #[.string a0,.int .i64 a1] w fun e w'=>∃ v3_:Value,e=.returned (.tuple #[.agg #[.int .i64 r1,.int .i64 r2,.string r3,v3_],.int .i64 r5])∧Kd.R k39 39 w' w.heap.size (fun _=>True) v3_ r4∧Below w.heap.size w w':=by
 have hu39:=Try.underlying39
 have HB:=Aside0.mk (Below.refl w.heap.size w)
 have H:(spec_l1Word.l0 k a0 a1 (wrap64 (a1+1)))=some (r1,r2,r3,r4,r5):=h
 clear h
 have HC3:=Aside0.mk H
 clear H
 go_enter Try.func100,Try.ntmps100
 go_upto_block 0 with (first|((with_reducible refine gate_dst (N:=4) rfl ?_);refine box_event ?hg (N:=4) ?hd (cs:=#[.int .i64 0,.int .i64 0,.string (⟨#[]⟩:ByteArray),.slice none 0 0]) (t:=39) ?hr ?_;(case hd=>rfl);(case hg=>rfl);(case hr=>first|(go_simp;done)|(go_simp;rfl));intro gb177 hg w4 hbox hb;have n0_:=Aside0.mk (below_step (gB HB) hb);have n1_:=Aside0.mk (hbox);have n2_:=Aside0.mk ((by rw [hg];exact (below_size (gB HB)):w.heap.size≤gb177));have n3_:=Aside0.mk ((by rw [hg];exact (below_size (gB HB)):w.heap.size≤gb177));clear HB;have HB:=n0_;have BK177:=n1_;have GW177:=n2_;have GE177:=n3_;clear n0_ n1_ n2_ n3_;clear hb hbox hg))
 (try simp only [Act.put,List.setIfInBounds_toArray,List.set_cons_zero,List.set_cons_succ])
 go_cut [6] (fun v6 wc=>∃ (kq:Nat) (x6_2:Int),v6=.int .i64 x6_2∧Aside0 (spec_l1Word.j1 kq a0 a1 x6_2=some (r1,r2,r3,r4,r5))∧Aside0 (kq≤k)∧Aside0 (wc.heap[gb177]?=some (.cells #[.int .i64 0,.int .i64 0,.string (⟨#[]⟩:ByteArray),(.slice none 0 0)] 39 (0,0)))∧Aside0 (Below w.heap.size w wc))
 case first =>
  have H:=HC3.out
  clear HC3
  have H':=Aside0.mk H
  clear H
  go_wp2
  go_loopg [6] k (fun kq v6 w'=>∃ (x6_1:Int),v6=.int .i64 x6_1∧Aside0 (spec_l1Word.l0 kq a0 a1 x6_1=some (r1,r2,r3,r4,r5))∧Aside0 (kq≤k)∧Aside0 (w'.heap[gb177]?=some (.cells #[.int .i64 0,.int .i64 0,.string (⟨#[]⟩:ByteArray),(.slice none 0 0)] 39 (0,0)))∧Aside0 (Below w.heap.size w w'))
  case atStart=>exact ⟨(wrap64 (a1+1)),(by first|rfl|(simp;done)|(simp [*];done)),H',⟨Nat.le_refl _⟩,⟨gK BK177⟩,⟨by repeat (first|exact gB HB|refine below_set ?_ GE177.out)⟩⟩
  case round =>
   clear H'
   try clear c1 p2
   (try clear BK177);(try clear HB)
   obtain ⟨x6_1,rfl,HA,HK1,BK177,HB⟩:=hrel
   cases gk with
   | zero=>exact absurd HA.out (by simp [spec_l1Word.l0])
   | succ k1 =>
    have H:=HA.out
    clear HA
    simp only [spec_l1Word.l0] at H
    by_cases c5:x6_1<(a0.size:Int)
    ·rw [if_pos c5] at H
     have c5b0:decide (x6_1<(a0.size:Int))=true:=decide_eq_true c5
     clear c5
     (first|rw [c5b0]|(simp only [i64_w,i32_w];rw [c5b0])|skip)
     by_cases c6:0≤x6_1
     ·rw [if_pos c6] at H
      have c6b0:decide (0≤x6_1)=true:=decide_eq_true c6
      clear c6
      by_cases c8:(bt a0 x6_1)=34
      ·rw [if_pos c8] at H
       have c8b0:((bt a0 x6_1) == 34)=true:=beq_iff_eq.mpr c8
       have c8b1:((bt a0 x6_1) != 34)=false:=bne_eq_false_iff_eq.mpr c8
       clear c8
       have H':=Aside0.mk H
       clear H
       have p7:0≤(x6_1:Int):=of_decide_eq_true (by first|(with_reducible assumption)|assumption)
       have q7:x6_1<(a0.size:Int):=of_decide_eq_true (by first|(with_reducible assumption)|assumption)
       have hx7:=bt_at a0 x6_1
       replace p7:=eq_true p7
       replace q7:=eq_true q7
       go_wp2
       go_meet
       case rel=>exact ⟨_,(x6_1),(by first|rfl|(simp;done)|(simp [*];done)),H',⟨by have:=HK1.out;first|omega|exact Nat.le_refl _⟩,⟨gK BK177⟩,⟨by repeat (first|exact gB HB|refine below_set ?_ GE177.out)⟩⟩
      ·rw [if_neg c8] at H
       have c8b0:((bt a0 x6_1) == 34)=false:=beq_eq_false_iff_ne.mpr c8
       have c8b1:((bt a0 x6_1) != 34)=true:=bne_iff_ne.mpr c8
       have H':=Aside0.mk H
       clear H
       have p7:0≤(x6_1:Int):=of_decide_eq_true (by first|(with_reducible assumption)|assumption)
       have q7:x6_1<(a0.size:Int):=of_decide_eq_true (by first|(with_reducible assumption)|assumption)
       have hx7:=bt_at a0 x6_1
       replace p7:=eq_true p7
       replace q7:=eq_true q7
       go_wp2
       go_roundg k1
       case measure=>have:=HK1.out;omega
       case rel=>exact ⟨(wrap64 (x6_1+1)),(by first|rfl|(simp;done)|(simp [*];done)),H',⟨by have:=HK1.out;omega⟩,⟨gK BK177⟩,⟨by repeat (first|exact gB HB|refine below_set ?_ GE177.out)⟩⟩
     ·rw [if_neg c6] at H
      exact absurd H (by simp)
    ·rw [if_neg c5] at H
     have c5b0:decide (x6_1<(a0.size:Int))=false:=decide_eq_false c5
     clear c5
     (first|rw [c5b0]|(simp only [i64_w,i32_w];rw [c5b0])|skip)
     have H':=Aside0.mk H
     clear H
     go_wp2
     go_meet
     case rel=>exact ⟨_,(x6_1),(by first|rfl|(simp;done)|(simp [*];done)),H',⟨by have:=HK1.out;first|omega|exact Nat.le_refl _⟩,⟨gK BK177⟩,⟨by repeat (first|exact gB HB|refine below_set ?_ GE177.out)⟩⟩
 case rest =>
  clear HC3
  try clear c1 p2 c5 c5b0 c6 c6b0 p6 p7 q7 hx7 c8 c8b0 c8b1 p2 p7 q7
  obtain ⟨kq,x6_2,rfl,HA,HJ2,BK177,HB⟩:=hcut
  cases kq with
  | zero=>exact absurd HA.out (by simp [spec_l1Word.j1])
  | succ kj2 =>
   have H:=HA.out
   clear HA
   simp only [spec_l1Word.j1] at H
   by_cases c9:x6_2≥(a0.size:Int)
   ·rw [if_pos c9] at H
    have c9b0:decide ((a0.size:Int)≤x6_2)=true:=decide_eq_true c9
    clear c9
    simp only [Option.some.injEq,Prod.mk.injEq] at H
    obtain ⟨rfl,rfl,rfl,rfl,rfl⟩:=H
    have hcz10_0:wc.cell? ⟨gb177,0,none⟩=some (.int .i64 0):=(blk_cell BK177.out 0).trans rfl
    have hcz10_1:wc.cell? ⟨gb177,1,none⟩=some (.int .i64 0):=(blk_cell BK177.out 1).trans rfl
    have hcz10_2:wc.cell? ⟨gb177,2,none⟩=some (.string (⟨#[]⟩:ByteArray)):=(blk_cell BK177.out 2).trans rfl
    have hcz10_3:wc.cell? ⟨gb177,3,none⟩=some (.slice none 0 0):=(blk_cell BK177.out 3).trans rfl
    have hfz10_0:=blk_frozen BK177.out 0
    have hfz10_1:=blk_frozen BK177.out 1
    have hfz10_2:=blk_frozen BK177.out 2
    have hfz10_3:=blk_frozen BK177.out 3
    go_wp2
    refine bodyPost_ret (results_ct rfl _ _ gb177 39 #[.int .i64 0,.int .i64 0,.string (⟨#[]⟩:ByteArray),.slice none 0 0] (0,0) _ rfl (by (with_reducible repeat (first|refine blk_drewN ?_ _|refine blk_drew ?_|refine blk_alloc ?_ _));refine blk_put (cs:=#[.int .i64 0,.int .i64 0,.string (⟨#[]⟩:ByteArray),.slice none 0 0]) ?_ 3 _ rfl;(with_reducible repeat (first|refine blk_drewN ?_ _|refine blk_drew ?_|refine blk_alloc ?_ _));refine blk_put (cs:=#[.int .i64 0,.int .i64 0,.string (⟨#[]⟩:ByteArray),.slice none 0 0]) ?_ 2 _ rfl;(with_reducible repeat (first|refine blk_drewN ?_ _|refine blk_drew ?_|refine blk_alloc ?_ _));refine blk_put (cs:=#[.int .i64 0,.int .i64 0,.string (⟨#[]⟩:ByteArray),.slice none 0 0]) ?_ 1 _ rfl;(with_reducible repeat (first|refine blk_drewN ?_ _|refine blk_drew ?_|refine blk_alloc ?_ _));refine blk_put (cs:=#[.int .i64 0,.int .i64 0,.string (⟨#[]⟩:ByteArray),.slice none 0 0]) ?_ 0 _ rfl;(with_reducible repeat (first|refine blk_drewN ?_ _|refine blk_drew ?_|refine blk_alloc ?_ _));exact BK177.out) Try.underlying39 rfl (by kernel_rfl)) rfl ?_
    exact ⟨_,by first|rfl|(simp [errW_none,errW_some] <;> rfl)|(simp [*,errW_none,errW_some] <;> rfl),by first|exact Kd.R_nil _ _ _ _ _|exact Kd.N_nil _ _ _ _ _|exact Kd.V_nil _ _ _ _ _|exact Kd.Q_nil _ _ _ _ _|exact Kd.S_nil _ _ _ _ _,by repeat (first|exact gB HB|refine below_set ?_ GE177.out)⟩
   ·rw [if_neg c9] at H
    have c9b0:decide ((a0.size:Int)≤x6_2)=false:=decide_eq_false c9
    clear c9
    obtain ⟨ji11,hji11⟩:∃ j_:Int,(wrap64 (a1+1))=j_:=⟨_,rfl⟩
    replace H:(if 0≤(ji11) then (if (ji11)≤x6_2 then (if x6_2≤(a0.size:Int) then (some (2,0,a0.extract ((ji11):Int).toNat (x6_2:Int).toNat,([]:List (SDoc)),wrap64 (x6_2+1))) else (none)) else (none)) else (none))=some (r1,r2,r3,r4,r5):=by first|(rw [hji11] at H;exact H)|(simp only [hji11] at H ⊢;exact H)
    have hji11w:(IntKind.i64.wrap (a1+1))=ji11:=(i64_w _).trans hji11
    by_cases c12:0≤(ji11)
    ·rw [if_pos c12] at H
     have c12b0:=eq_true c12
     have c12b1:decide (0≤(ji11))=true:=decide_eq_true c12
     clear c12
     by_cases c13:(ji11)≤x6_2
     ·rw [if_pos c13] at H
      have c13b0:=eq_true c13
      have c13b1:decide ((ji11)≤x6_2)=true:=decide_eq_true c13
      clear c13
      by_cases c14:x6_2≤(a0.size:Int)
      ·rw [if_pos c14] at H
       have c14b0:=eq_true c14
       have c14b1:decide (x6_2≤(a0.size:Int))=true:=decide_eq_true c14
       clear c14
       simp only [Option.some.injEq,Prod.mk.injEq] at H
       obtain ⟨rfl,rfl,rfl,rfl,rfl⟩:=H
       have hcz15_0:wc.cell? ⟨gb177,0,none⟩=some (.int .i64 0):=(blk_cell BK177.out 0).trans rfl
       have hcz15_1:wc.cell? ⟨gb177,1,none⟩=some (.int .i64 0):=(blk_cell BK177.out 1).trans rfl
       have hcz15_2:wc.cell? ⟨gb177,2,none⟩=some (.string (⟨#[]⟩:ByteArray)):=(blk_cell BK177.out 2).trans rfl
       have hcz15_3:wc.cell? ⟨gb177,3,none⟩=some (.slice none 0 0):=(blk_cell BK177.out 3).trans rfl
       have hfz15_0:=blk_frozen BK177.out 0
       have hfz15_1:=blk_frozen BK177.out 1
       have hfz15_2:=blk_frozen BK177.out 2
       have hfz15_3:=blk_frozen BK177.out 3
       go_wp2
       refine bodyPost_ret (results_ct rfl _ _ gb177 39 #[.int .i64 2,.int .i64 0,.string (a0.extract ((ji11):Int).toNat (x6_2:Int).toNat),.slice none 0 0] (0,0) _ rfl (by (with_reducible repeat (first|refine blk_drewN ?_ _|refine blk_drew ?_|refine blk_alloc ?_ _));refine blk_put (cs:=#[.int .i64 2,.int .i64 0,.string (a0.extract ((ji11):Int).toNat (x6_2:Int).toNat),.slice none 0 0]) ?_ 3 _ rfl;(with_reducible repeat (first|refine blk_drewN ?_ _|refine blk_drew ?_|refine blk_alloc ?_ _));refine blk_put (cs:=#[.int .i64 2,.int .i64 0,.string (⟨#[]⟩:ByteArray),.slice none 0 0]) ?_ 2 _ rfl;(with_reducible repeat (first|refine blk_drewN ?_ _|refine blk_drew ?_|refine blk_alloc ?_ _));refine blk_put (cs:=#[.int .i64 2,.int .i64 0,.string (⟨#[]⟩:ByteArray),.slice none 0 0]) ?_ 1 _ rfl;(with_reducible repeat (first|refine blk_drewN ?_ _|refine blk_drew ?_|refine blk_alloc ?_ _));refine blk_put (cs:=#[.int .i64 0,.int .i64 0,.string (⟨#[]⟩:ByteArray),.slice none 0 0]) ?_ 0 _ rfl;(with_reducible repeat (first|refine blk_drewN ?_ _|refine blk_drew ?_|refine blk_alloc ?_ _));exact BK177.out) Try.underlying39 rfl (by kernel_rfl)) rfl ?_
       exact ⟨_,by first|rfl|(simp [errW_none,errW_some] <;> rfl)|(simp only [← hji11];first|rfl|(simp [errW_none,errW_some] <;> rfl))|(simp [*,errW_none,errW_some] <;> rfl),by first|exact Kd.R_nil _ _ _ _ _|exact Kd.N_nil _ _ _ _ _|exact Kd.V_nil _ _ _ _ _|exact Kd.Q_nil _ _ _ _ _|exact Kd.S_nil _ _ _ _ _,by repeat (first|exact gB HB|refine below_set ?_ GE177.out)⟩
      ·rw [if_neg c14] at H
       exact absurd H (by simp)
     ·rw [if_neg c13] at H
      exact absurd H (by simp)
    ·rw [if_neg c12] at H
     exact absurd H (by simp)
end Go.Proofs.Ytdhdfmmefghijab.P
