/- CONTRACTS and lemmas: each contract says that a Go function of the program, called over the translation under the theorem's own hypotheses, returns what the Lean function beside it computes. -/
import Derived.Test.YtdhdfmmefghijaaVLc3
import Derived.Test.YtdhdfmmefghijaaProg
import Derived.Below
import Derived.Deep.Draws
import Derived.Deep.AppendLies
import Derived.Maps.AppendAt
import Derived.OwnWalk
import Derived.Laws.BytesArg
import Derived.Laws.MakeOwn
import Derived.Laws.OwnMore
import Derived.Deep.OwnRows
import Derived.Tactics
import Derived.Lib.ConvBytes
import Derived.Laws.Slices
import Derived.WalkKit
import Derived.KernelRfl
import Derived.RowKit3
import Derived.Deep.LoopGhost
import Derived.Deep.QuietTactic
import Derived.BigQuiet
import Derived.WideLaws
import Derived.Deep.DeepCutAuto
import Derived.Deep.CutBlock
import Derived.Deep.RegionHeld3
import Derived.Laws.Rows
import Derived.Lib.AppendStr
import Derived.ArgAppend
import Derived.Laws.IdiomCopy
import Derived.OrdersHeld
import Derived.Laws.BitsLemmas
import Derived.RowKit
import Derived.WalkSpells
namespace Go.Proofs.Ytdhdfmmefghijaa.P
open Go.RowKit Go.Proofs.YtdhdfmmefghijaaW.PrintWords Go.Proofs.YtdhdfmmefghijaaW.PrintLast Go.Proofs.YtdhdfmmefghijaaW.PrintMore
attribute [local go_sem] max2_int min2_int max_two min_two max_three min_three max_four min_four
set_option linter.unusedVariables false
set_option linter.unusedSimpArgs false
def errW:Option Int→Value
 | none=>.nilIface
 | some c=>.iface 0 (.int .i64 c)
theorem errW_none:errW none=.nilIface:=rfl
theorem errW_some (c:Int):errW (some c)=.iface 0 (.int .i64 c):=rfl
theorem info5:(Try.prog.info? 5).map (fun i=>(i.zero,i.size,i.bytes))=some (some (.int .u8 0),1,1):=by kernel_rfl
theorem info27:(Try.prog.info? 27).map (fun i=>(i.zero,i.size,i.bytes))=some (some (.agg #[(.int .i64 0),(.int .i64 0),(.string ⟨#[]⟩),(.slice none 0 0)]),4,56):=by kernel_rfl
structure SDoc where
 f0:Int
 f1:Int
 f2:ByteArray
 f3:(List SDoc)
def zDoc:SDoc:=⟨(0:Int),(0:Int),(⟨#[]⟩:ByteArray),([]:List SDoc)⟩
def F27 (d:Kd SDoc):Kd SDoc:=Kd.iso (Kd.pair (Kd.int .i64) (Kd.pair (Kd.int .i64) (Kd.pair Kd.string (Kd.slice 27 d)))) (fun x:SDoc=>(x.f0,x.f1,x.f2,x.f3))
theorem mono27:Kd.Mono F27:=Kd.mono_iso _ (Kd.mono_pair (Kd.mono_const _) (Kd.mono_pair (Kd.mono_const _) (Kd.mono_pair (Kd.mono_const _) (Kd.mono_slice 27 Kd.mono_id))))
theorem sub27:Kd.Sub F27 [27]:=Kd.sub_iso _ (Kd.sub_pair (Kd.sub_const _ (by decide)) (Kd.sub_pair (Kd.sub_const _ (by decide)) (Kd.sub_pair (Kd.sub_const _ (by decide)) (Kd.sub_slice 27 (by decide) Kd.sub_id))))
theorem sz27:∀ n,(Kd.upto F27 4 [27] n).sz=4:=Kd.upto_sz (fun _=>rfl)
def k27:Kd SDoc:=Kd.fix F27 4 [27] sz27 (Kd.upto_E sub27)
theorem k27_open {w:World} {x:SDoc} {cs:List Value} (h:k27.K w x cs):∃ A3 c3,cs=[.int .i64 x.f0,.int .i64 x.f1,.string x.f2,.slice A3 x.f3.length c3]∧x.f3.length≤c3∧k27.C w A3 x.f3.length x.f3:=by
 obtain ⟨n,h⟩:=h
 cases n with
 | zero=>exact h.elim
 | succ n =>
  obtain ⟨_,_,rfl,rfl,⟨_,_,rfl,rfl,⟨_,_,rfl,rfl,⟨A3,c3,rfl,l3,g3⟩⟩⟩⟩:=h
  exact ⟨A3,c3,rfl,l3,Kd.fix_C g3⟩
theorem k27_mk (w:World) (x:SDoc) {A3:Option Addr} {c3:Nat} (l3:x.f3.length≤c3) (g3:k27.C w A3 x.f3.length x.f3):k27.K w x [.int .i64 x.f0,.int .i64 x.f1,.string x.f2,.slice A3 x.f3.length c3]:=by
 obtain ⟨n3,q3⟩:=Kd.fix_C_back mono27 g3
 have r3:=Kd.upto_C_le mono27 sz27 (show n3≤n3 by omega) q3
 exact ⟨n3+1,⟨[.int .i64 x.f0],[.int .i64 x.f1,.string x.f2,.slice A3 x.f3.length c3],rfl,rfl,⟨[.int .i64 x.f1],[.string x.f2,.slice A3 x.f3.length c3],rfl,rfl,⟨[.string x.f2],[.slice A3 x.f3.length c3],rfl,rfl,⟨A3,c3,rfl,l3,r3⟩⟩⟩⟩⟩
theorem k27_mkM (w:World) (base:Nat) (ok:Nat→Prop) (x:SDoc) {v3:Value} (g3:k27.R 27 w base ok v3 x.f3):k27.M w base ok x [.int .i64 x.f0,.int .i64 x.f1,.string x.f2,v3]:=by
 obtain ⟨n3,q3⟩:=Kd.fix_R_back mono27 g3
 have r3:=Kd.upto_R_le mono27 sz27 (show n3≤n3 by omega) q3
 exact ⟨n3+1,⟨[.int .i64 x.f0],[.int .i64 x.f1,.string x.f2,v3],rfl,rfl,⟨[.int .i64 x.f1],[.string x.f2,v3],rfl,rfl,⟨[.string x.f2],[v3],rfl,rfl,⟨v3,rfl,r3⟩⟩⟩⟩⟩
theorem k27_openF {W:World} {ok:Nat→Prop} {x:SDoc} {cs:List Value} (h:Kd.FK k27 W ok x cs):∃ A3 c3,cs=[.int .i64 x.f0,.int .i64 x.f1,.string x.f2,.slice A3 x.f3.length c3]∧x.f3.length≤c3∧Kd.F k27 W ok A3 x.f3.length x.f3:=by
 obtain ⟨A3,c3,rfl,l3,_⟩:=k27_open (Kd.FK_now h)
 exact ⟨A3,c3,rfl,l3,(fun W' hW=>by obtain ⟨A3_,c3_,he,l3_,g3_⟩:=k27_open (h W' hW);injection (Option.some.inj (show some (Value.slice A3 x.f3.length c3)=some (Value.slice A3_ x.f3.length c3_) from congrArg (fun l=>l[3]?) he)) with ha_ _ _;rw [ha_];exact g3_)⟩
theorem k27_mkF (W:World) (ok:Nat→Prop) (x:SDoc) {A3:Option Addr} {c3:Nat} (l3:x.f3.length≤c3) (g3:Kd.F k27 W ok A3 x.f3.length x.f3):Kd.FK k27 W ok x [.int .i64 x.f0,.int .i64 x.f1,.string x.f2,.slice A3 x.f3.length c3]:=fun W2 hW=>k27_mk W2 x l3 (g3 W2 hW)
def rd_TDoc (xs:List SDoc) (i:Int):SDoc:=xs.getD i.toNat zDoc
theorem at_TDoc {w:World} {A:Option Addr} {n:Nat} {xs:List SDoc} (h:Kd.C k27 w A n xs) (i:Int) (h0:0≤i) (h1:i<n):∃ ad A3 c3,A=some ad∧w.cell? (ad.add (i.toNat * 4))=some (.int .i64 (rd_TDoc xs i).f0)∧w.cell? ⟨(ad.add (i.toNat * 4)).block,(ad.add (i.toNat * 4)).off+1,none⟩=some (.int .i64 (rd_TDoc xs i).f1)∧w.cell? ⟨(ad.add (i.toNat * 4)).block,(ad.add (i.toNat * 4)).off+2,none⟩=some (.string (rd_TDoc xs i).f2)∧w.cell? ⟨(ad.add (i.toNat * 4)).block,(ad.add (i.toNat * 4)).off+3,none⟩=some (.slice A3 (rd_TDoc xs i).f3.length c3)∧(rd_TDoc xs i).f3.length≤c3∧k27.C w A3 (rd_TDoc xs i).f3.length (rd_TDoc xs i).f3:=by
 obtain ⟨ad,c,e,_,hK,hc0⟩:=Kd.C_get h zDoc i h0 h1
 have hc:∀ j u,c[j]?=some u→w.cell? (ad.add (i.toNat * 4+j))=some u:=hc0
 obtain ⟨A3,c3,rfl,l3,g3⟩:=k27_open hK
 exact ⟨ad,A3,c3,e,hc 0 _ rfl,by rw [← add_field _ _ 1 (by omega)];exact hc 1 _ rfl,by rw [← add_field _ _ 2 (by omega)];exact hc 2 _ rfl,by rw [← add_field _ _ 3 (by omega)];exact hc 3 _ rfl,l3,g3⟩
theorem xp_isEmpty (l:List UInt8):(!l.isEmpty)=(l != []):=by cases l <;> rfl
end Go.Proofs.Ytdhdfmmefghijaa.P
namespace Go.Proofs.Ytdhdfmmefghijaa.P
open Go.RowKit Go.Proofs.YtdhdfmmefghijaaW.PrintWords Go.Proofs.YtdhdfmmefghijaaW.PrintLast Go.Proofs.YtdhdfmmefghijaaW.PrintMore
class Gr (a b : World) : Prop where
  out : Below a.heap.size a b
instance gr_refl (a : World) : Gr a a := ⟨Below.refl _ _⟩
instance gr_alloc (a b : World) (o : Obj) [h : Gr a b] : Gr a (b.alloc o) := ⟨below_alloc h.out o⟩
instance gr_drewN (a b : World) (n : Nat) [h : Gr a b] : Gr a (b.drewN n) := ⟨pw_below_drewN h.out n⟩
instance gr_drew (a b : World) [h : Gr a b] : Gr a b.drew := ⟨below_drew1 h.out⟩
theorem gB {w a b : World} (h : Aside0 (Below w.heap.size w a)) [g : Gr a b] : Below w.heap.size w b := below_step h.out g.out
theorem gR {α : Type} {d : Kd α} {e : Nat} {a b : World} {base : Nat} {ok : Nat → Prop} {v : Value} {xs : List α} (h : Aside0 (d.R e a base ok v xs)) [g : Gr a b] : d.R e b base ok v xs := Kd.R_below h.out g.out
theorem gN {α : Type} {d : Kd α} {e : Nat} {a b : World} {base : Nat} {ok : Nat → Prop} {v : Value} {xs : List α} (h : Aside0 (Kd.N d e a base ok v xs)) [g : Gr a b] : Kd.N d e b base ok v xs := Kd.N_below h.out g.out
theorem gV {α : Type} {d : Kd α} {e : Nat} {a b : World} {base : Nat} {ok : Nat → Prop} {v : Value} {xs : List α} (h : Aside0 (Kd.V d e a base ok v xs)) [g : Gr a b] : Kd.V d e b base ok v xs := Kd.V_below h.out g.out
theorem gS {α : Type} {d : Kd α} {e : Nat} {a b : World} {base : Nat} {ok : Nat → Prop} {v : Value} {xs : List α} (h : Aside0 (Kd.S d e a base ok v xs)) [g : Gr a b] : Kd.S d e b base ok v xs := Kd.S_below h.out g.out
theorem gC {α : Type} {d : Kd α} {a b : World} {A : Option Addr} {n : Nat} {xs : List α} (h : d.C a A n xs) [g : Gr a b] : d.C b A n xs := Kd.C_below h g.out
theorem gK {a b : World} {g : Nat} {o : Obj} (h : Aside0 (a.heap[g]? = some o)) [r : Gr a b] : b.heap[g]? = some o := blk_below h.out r.out
theorem gW {w a b : World} {g : Nat} (h : Aside0 (KeepBut w a g none)) [r : Gr a b] : KeepBut w b g none := KeepBut.trans h.out (KeepBut.of_below r.out g none) (.inl rfl)
theorem gT {w a b : World} {S : Nat → Prop} (h : Aside0 (Kept w a S)) [r : Gr a b] : Kept w b S := Kept.below h.out r.out
end Go.Proofs.Ytdhdfmmefghijaa.P
namespace Go.Proofs.Ytdhdfmmefghijaa.P
open Go.RowKit Go.Proofs.YtdhdfmmefghijaaW.PrintWords Go.Proofs.YtdhdfmmefghijaaW.PrintLast Go.Proofs.YtdhdfmmefghijaaW.PrintMore
attribute [local go_sem] max2_int min2_int max_two min_two max_three min_three max_four min_four
set_option linter.unusedVariables false
set_option linter.unusedSimpArgs false
def IsS66 (w0 W:World) (g:Nat) (f0:List Int) (f1:Int):Prop:=∃ A0 c0,W.heap[g]?=some (.cells #[.slice A0 f0.length c0,.int .i64 f1] 66 (0,0))∧w0.heap.size≤g∧Kd.C (Kd.int .u8) w0 A0 f0.length f0
theorem IsS66.grown {w0 W:World} {g:Nat} {f0:List Int} {f1:Int} {W1:World} {row:Option Nat} (h:IsS66 w0 W g f0 f1) (hw:W.grownBy W1 row) (hne:some g≠row):IsS66 w0 W1 g f0 f1:=by
 obtain ⟨A0,c0,hb,hg,hr0⟩:=h
 exact ⟨A0,c0,blk_grown hb hw hne,hg,hr0⟩
theorem IsS66.own_neN {w0 W:World} {g:Nat} {f0:List Int} {f1:Int} {α:Type} {d:Kd α} {e:Nat} {base:Nat} {ok:Nat→Prop} {v:Value} {xs:List α} (h:IsS66 w0 W g f0 f1) (ho:Kd.N d e W base ok v xs) (ht:e≠66):some g≠v.ownBlock:=by
 obtain ⟨A0,c0,hb,hg,hr0⟩:=h
 exact Kd.N_ne ho hb ht
theorem IsS66.fresh {w0 W:World} {g:Nat} {f0:List Int} {f1:Int} (h:IsS66 w0 W g f0 f1):∀ k,W.heap.size≤k→k≠g:=by
 obtain ⟨A0,c0,hb,hg,hr0⟩:=h
 exact Kd.freshB hb
theorem IsS66.kept {w0 W:World} {g:Nat} {f0:List Int} {f1:Int} {W1:World} {S:Nat→Prop} (h:IsS66 w0 W g f0 f1) (hk:Kept W W1 S) (hne:¬ S g):IsS66 w0 W1 g f0 f1:=by
 obtain ⟨A0,c0,hb,hg,hr0⟩:=h
 exact ⟨A0,c0,blk_kept hb hk hne,hg,hr0⟩
theorem IsS66.below {w0 W:World} {g:Nat} {f0:List Int} {f1:Int} {W1:World} (h:IsS66 w0 W g f0 f1) (hw:Below W.heap.size W W1):IsS66 w0 W1 g f0 f1:=h.grown (grown_of_below hw none) (by simp)
theorem IsS66.alloc {w0 W:World} {g:Nat} {f0:List Int} {f1:Int} (h:IsS66 w0 W g f0 f1) (o:Obj):IsS66 w0 (W.alloc o) g f0 f1:=h.below (below_alloc (Below.refl _ _) o)
theorem IsS66.drewN {w0 W:World} {g:Nat} {f0:List Int} {f1:Int} (h:IsS66 w0 W g f0 f1) (m:Nat):IsS66 w0 (W.drewN m) g f0 f1:=h
theorem IsS66.drew {w0 W:World} {g:Nat} {f0:List Int} {f1:Int} (h:IsS66 w0 W g f0 f1):IsS66 w0 W.drew g f0 f1:=h
theorem IsS66.at_ {w0 W:World} {g:Nat} {f0:List Int} {f1:Int} {w':World} {m:Nat} (hq:W.drewN m=w') (h:IsS66 w0 W g f0 f1):IsS66 w0 w' g f0 f1:=by subst hq;exact IsS66.drewN h m
theorem IsS66.apart {w0 W:World} {g:Nat} {f0:List Int} {f1:Int} {α:Type} {d:Kd α} {e:Nat} {base:Nat} {ok:Nat→Prop} {v:Value} {xs:List α} (h:IsS66 w0 W g f0 f1) (ho:d.R e W base ok v xs) (ht:∀ q,q∈e :: d.E→q≠66):d.R e W base (fun k=>ok k∧k≠g) v xs:=by
 obtain ⟨A0,c0,hb,hg,hr0⟩:=h
 exact Kd.R_types ho hb ht
theorem IsS66.own_ne {w0 W:World} {g:Nat} {f0:List Int} {f1:Int} {α:Type} {d:Kd α} {e:Nat} {base:Nat} {ok:Nat→Prop} {v:Value} {xs:List α} (h:IsS66 w0 W g f0 f1) (ho:d.R e W base ok v xs) (ht:e≠66):some g≠v.ownBlock:=by
 obtain ⟨A0,c0,hb,hg,hr0⟩:=h
 exact Kd.R_ne ho hb ht
theorem IsS66.lt {w0 W:World} {g:Nat} {f0:List Int} {f1:Int} (h:IsS66 w0 W g f0 f1):g<W.heap.size:=by
 obtain ⟨A0,c0,hb,hg,hr0⟩:=h
 exact blk_lt hb
theorem IsS66.ge {w0 W:World} {g:Nat} {f0:List Int} {f1:Int} (h:IsS66 w0 W g f0 f1):w0.heap.size≤g:=by
 obtain ⟨A0,c0,hb,hg,hr0⟩:=h
 exact hg
theorem IsS66.ne_blk {w0 W:World} {g:Nat} {f0:List Int} {f1:Int} {a:Nat} {cs:Array Value} {t:TypeId} {fr:Nat×Nat} (h:IsS66 w0 W g f0 f1) (hb2:W.heap[a]?=some (.cells cs t fr)) (ht:t≠66):g≠a:=by
 obtain ⟨A0,c0,hb,hg,hr0⟩:=h
 rintro rfl
 rw [hb] at hb2
 injection hb2 with hb2
 injection hb2 with _ ht2
 exact ht ht2.symm
theorem IsS66.far {w0 W:World} {g:Nat} {f0:List Int} {f1:Int} {p:Addr} (h:IsS66 w0 W g f0 f1) (hne:g≠p.block) (u:Value):IsS66 w0 (W.setCell p u) g f0 f1:=by
 obtain ⟨A0,c0,hb,hg,hr0⟩:=h
 exact ⟨A0,c0,blk_far hb hne u,hg,hr0⟩
theorem cellS66_0 {W:World} {g:Nat} {A0:Option Addr} {c0:Nat} {f0:List Int} {f1:Int} (h:W.heap[g]?=some (.cells #[.slice A0 f0.length c0,.int .i64 f1] 66 (0,0))):W.cell? ⟨g,0,none⟩=some (.slice A0 f0.length c0):=(blk_cell h 0).trans rfl
theorem cellS66_1 {W:World} {g:Nat} {A0:Option Addr} {c0:Nat} {f0:List Int} {f1:Int} (h:W.heap[g]?=some (.cells #[.slice A0 f0.length c0,.int .i64 f1] 66 (0,0))):W.cell? ⟨g,1,none⟩=some (.int .i64 f1):=(blk_cell h 1).trans rfl
theorem IsS66.set_1 {w0 W:World} {g:Nat} {f0:List Int} {f1:Int} (h:IsS66 w0 W g f0 f1) (x:Int):IsS66 w0 (W.setCell ⟨g,1,none⟩ (.int .i64 x)) g f0 x:=by
 obtain ⟨A0,c0,hb,hg,hr0⟩:=h
 exact ⟨A0,c0,by simpa using blk_set hb 1 (.int .i64 x),hg,hr0⟩
def spec_l15Open.f (l0:List Int):Option (List Int×Int):=if (l0.length:Int)>2000 then (if 2000≤(l0.length:Int) then (some (l0.take 2000,0)) else (none)) else (some (l0,0))
set_option maxHeartbeats 8000000 in
set_option maxRecDepth 100000 in
theorem spec_l15Open.calls (A0:Option Addr) (c0:Nat) (l0:List Int) (r1:List Int) (r2:Int) (w0 w:World) (hB:Below w0.heap.size w0 w) (hr0:Kd.C (Kd.int .u8) w0 A0 l0.length l0) (hc0:l0.length≤c0) (h:spec_l15Open.f l0=some (r1,r2)) :
  Calls Try.prog 44 #[.slice A0 l0.length c0] w fun e w'=>∃ g_:Nat,e=.returned (.pointer (some ⟨g_,0,none⟩))∧IsS66 w0 w' g_ r1 r2∧Below w0.heap.size w0 w'∧Below w.heap.size w w'∧w.heap.size≤g_:=by
 have hu66:=Try.underlying66
 have HR0:=Aside0.mk hr0
 have HC0:=Aside0.mk hc0
 clear hr0 hc0
 have HBW:=Aside0.mk (Below.refl w.heap.size w)
 have HW0:=Aside0.mk hB.size
 have HB:=Aside0.mk hB
 clear hB
 have H:(if (l0.length:Int)>2000 then (if 2000≤(l0.length:Int) then (some (l0.take 2000,0)) else (none)) else (some (l0,0)))=some (r1,r2):=h
 clear h
 by_cases c2:(l0.length:Int)>2000
 ·rw [if_pos c2] at H
  have c2b0:decide (2000<(l0.length:Int))=true:=decide_eq_true c2
  have c2b1:decide (2000<l0.length)=true:=decide_eq_true (by omega)
  clear c2
  by_cases c3:2000≤(l0.length:Int)
  ·rw [if_pos c3] at H
   have c3b0:=eq_true c3
   have c3b1:decide (2000≤(l0.length:Int))=true:=decide_eq_true c3
   clear c3
   simp only [Option.some.injEq,Prod.mk.injEq] at H
   obtain ⟨rfl,rfl⟩:=H
   obtain ⟨i04,hi04,_,hsz4,_⟩:=info_parts info5
   obtain ⟨hcut4,hA4,hC4⟩:=print_take_of (P:=Try.prog) (Value.int .u8) 0 22 5 .i64 Try.underlying22 hi04 hsz4 A0 c0 l0 2000 (by omega) (of_decide_eq_true (by first|(with_reducible assumption)|assumption)) HC0.out
   have HR101:=Aside0.mk (Kd.C_of_reads (h1:=fun _=>rfl) (hA4 _ (Kd.reads_of_C HR0.out)))
   have HC101:=Aside0.mk hC4
   clear hA4 hC4 hi04 hsz4
   go_enter Try.func44,Try.ntmps44
   go_wp2_with (first|((with_reducible refine gate_dst (N:=10) rfl ?_);refine box_event ?hg (N:=10) ?hd (cs:=#[.slice A0 (l0.take 2000).length c0,.int .i64 0]) (t:=66) ?hr ?_;(case hd=>rfl);(case hg=>rfl);(case hr=>first|(go_simp;done)|(go_simp;rfl));intro gb102 hg w5 hbox hb;have n0_:=Aside0.mk (below_step HBW.out hb);have n1_:=Aside0.mk (below_step (by repeat (first|(with_reducible first|exact HB.out|apply below_alloc|apply pw_below_drewN|apply below_drew1)|exact HB.out)) hb);have n2_:=Aside0.mk (hbox);have n3_:=Aside0.mk ((by rw [hg];exact (below_size (by repeat (first|(with_reducible first|exact HBW.out|apply below_alloc|apply pw_below_drewN|apply below_drew1)|exact HBW.out))):w.heap.size≤gb102));have n4_:=Aside0.mk ((Nat.le_trans HW0.out (by rw [hg];exact (below_size (by repeat (first|(with_reducible first|exact HBW.out|apply below_alloc|apply pw_below_drewN|apply below_drew1)|exact HBW.out))):w.heap.size≤gb102):w0.heap.size≤gb102));clear HBW;clear HB;have HBW:=n0_;have HB:=n1_;have BK102:=n2_;have GW102:=n3_;have GE102:=n4_;clear n0_ n1_ n2_ n3_ n4_;clear hb hbox hg))
   go_ret
   exact ⟨_,rfl,(show IsS66 w0 _ gb102 (l0.take 2000) 0 from ⟨_,_,by (with_reducible repeat (first|refine blk_drewN ?_ _|refine blk_drew ?_|refine blk_alloc ?_ _));exact BK102.out,GE102.out,HR101.out⟩),by repeat (first|(with_reducible first|exact HB.out|apply below_alloc|apply pw_below_drewN|apply below_drew1|refine below_set ?_ GE102.out)|exact HB.out),by repeat (first|(with_reducible first|exact HBW.out|apply below_alloc|apply pw_below_drewN|apply below_drew1|refine below_set ?_ GW102.out)|exact HBW.out),GW102.out⟩
  ·rw [if_neg c3] at H
   exact absurd H (by simp)
 ·rw [if_neg c2] at H
  have c2b0:decide (2000<(l0.length:Int))=false:=decide_eq_false c2
  have c2b1:decide (2000<l0.length)=false:=decide_eq_false (by omega)
  clear c2
  simp only [Option.some.injEq,Prod.mk.injEq] at H
  obtain ⟨rfl,rfl⟩:=H
  go_enter Try.func44,Try.ntmps44
  go_wp2_with (first|((with_reducible refine gate_dst (N:=10) rfl ?_);refine box_event ?hg (N:=10) ?hd (cs:=#[.slice A0 l0.length c0,.int .i64 0]) (t:=66) ?hr ?_;(case hd=>rfl);(case hg=>rfl);(case hr=>first|(go_simp;done)|(go_simp;rfl));intro gb103 hg w6 hbox hb;have n0_:=Aside0.mk (below_step HBW.out hb);have n1_:=Aside0.mk (below_step (by repeat (first|(with_reducible first|exact HB.out|apply below_alloc|apply pw_below_drewN|apply below_drew1)|exact HB.out)) hb);have n2_:=Aside0.mk (hbox);have n3_:=Aside0.mk ((by rw [hg];exact (below_size (by repeat (first|(with_reducible first|exact HBW.out|apply below_alloc|apply pw_below_drewN|apply below_drew1)|exact HBW.out))):w.heap.size≤gb103));have n4_:=Aside0.mk ((Nat.le_trans HW0.out (by rw [hg];exact (below_size (by repeat (first|(with_reducible first|exact HBW.out|apply below_alloc|apply pw_below_drewN|apply below_drew1)|exact HBW.out))):w.heap.size≤gb103):w0.heap.size≤gb103));clear HBW;clear HB;have HBW:=n0_;have HB:=n1_;have BK103:=n2_;have GW103:=n3_;have GE103:=n4_;clear n0_ n1_ n2_ n3_ n4_;clear hb hbox hg))
  go_ret
  exact ⟨_,rfl,(show IsS66 w0 _ gb103 l0 0 from ⟨_,_,by (with_reducible repeat (first|refine blk_drewN ?_ _|refine blk_drew ?_|refine blk_alloc ?_ _));exact BK103.out,GE103.out,HR0.out⟩),by repeat (first|(with_reducible first|exact HB.out|apply below_alloc|apply pw_below_drewN|apply below_drew1|refine below_set ?_ GE103.out)|exact HB.out),by repeat (first|(with_reducible first|exact HBW.out|apply below_alloc|apply pw_below_drewN|apply below_drew1|refine below_set ?_ GW103.out)|exact HBW.out),GW103.out⟩
end Go.Proofs.Ytdhdfmmefghijaa.P
namespace Go.Proofs.Ytdhdfmmefghijaa.P
open Go.RowKit Go.Proofs.YtdhdfmmefghijaaW.PrintWords Go.Proofs.YtdhdfmmefghijaaW.PrintLast Go.Proofs.YtdhdfmmefghijaaW.PrintMore
attribute [local go_sem] max2_int min2_int max_two min_two max_three min_three max_four min_four
set_option linter.unusedVariables false
set_option linter.unusedSimpArgs false
def spec_l15Rd_pick.j0:Nat→Int→Bool→List Int→Int→Option (Int×Int)
 | 0,_,_,_,_=>none
 | k+1,x1,x24,x1000,x1001=>if x24=true then (some (0,x1001)) else (if (wrap64 (x1001 - 1))<(x1000.length:Int) then (if 0≤(wrap64 (x1001 - 1)) then (if x1=0 then (none) else (some (Int.tmod (wrap64 (rd x1000 (wrap64 (x1001 - 1)))) x1,x1001))) else (none)) else (if (x1000.length:Int)=0 then (none) else (if 0≤(Int.tmod (wrap64 (x1001 - 1)) (x1000.length:Int)) then (if (Int.tmod (wrap64 (x1001 - 1)) (x1000.length:Int))<(x1000.length:Int) then (if 0≤(Int.tmod (wrap64 ((wrap64 ((wrap64 (x1001 - 1)) * 7))+3)) (x1000.length:Int)) then (if (Int.tmod (wrap64 ((wrap64 ((wrap64 (x1001 - 1)) * 7))+3)) (x1000.length:Int))<(x1000.length:Int) then (if x1=0 then (none) else (some (Int.tmod (Go.bits .xor .i64 (wrap64 ((wrap64 ((wrap64 ((wrap64 ((wrap64 (rd x1000 (Int.tmod (wrap64 (x1001 - 1)) (x1000.length:Int)))) * 131))+(wrap64 ((wrap64 (rd x1000 (Int.tmod (wrap64 ((wrap64 ((wrap64 (x1001 - 1)) * 7))+3)) (x1000.length:Int)))) * 1117))))+(wrap64 ((wrap64 (x1001 - 1)) * 29))))+(wrap64 ((wrap64 (Int.tdiv (wrap64 (x1001 - 1)) (x1000.length:Int))) * 53)))) (wrap64 (Int.tdiv (wrap64 ((wrap64 ((wrap64 ((wrap64 ((wrap64 (rd x1000 (Int.tmod (wrap64 (x1001 - 1)) (x1000.length:Int)))) * 131))+(wrap64 ((wrap64 (rd x1000 (Int.tmod (wrap64 ((wrap64 ((wrap64 (x1001 - 1)) * 7))+3)) (x1000.length:Int)))) * 1117))))+(wrap64 ((wrap64 (x1001 - 1)) * 29))))+(wrap64 ((wrap64 (Int.tdiv (wrap64 (x1001 - 1)) (x1000.length:Int))) * 53)))) 64))) x1,x1001))) else (none)) else (none)) else (none)) else (none))))
def spec_l15Rd_pick.f (k:Nat) (s0_0:List Int) (s0_1:Int) (a1:Int):Option (Int×Int):=if a1<1 then (spec_l15Rd_pick.j0 k a1 true s0_0 (wrap64 (s0_1+1))) else (spec_l15Rd_pick.j0 k a1 ((s0_0.length:Int) == 0) s0_0 (wrap64 (s0_1+1)))
set_option maxHeartbeats 8000000 in
set_option maxRecDepth 100000 in
theorem spec_l15Rd_pick.calls (k:Nat) (g:Nat) (s0_0:List Int) (s0_1:Int) (a1:Int) (r1:Int) (r2:Int) (w0 w:World) (hI:IsS66 w0 w g s0_0 s0_1) (hB:Below w0.heap.size w0 w) (h:spec_l15Rd_pick.f k s0_0 s0_1 a1=some (r1,r2)) :
  Calls Try.prog 55 #[.pointer (some ⟨g,0,none⟩),.int .i64 a1] w fun e w'=>e=.returned (.int .i64 r1)∧IsS66 w0 w' g s0_0 r2∧Below w0.heap.size w0 w'∧KeepBut w w' g none:=by
 have HI0:=Aside0.mk hI
 have HK:=Aside0.mk (KeepBut.refl w g none)
 have HL:=Aside0.mk hB.size
 clear hI
 have HW0:=Aside0.mk hB.size
 have HB:=Aside0.mk hB
 clear hB
 have H:(if a1<1 then (spec_l15Rd_pick.j0 k a1 true s0_0 (wrap64 (s0_1+1))) else (spec_l15Rd_pick.j0 k a1 ((s0_0.length:Int) == 0) s0_0 (wrap64 (s0_1+1))))=some (r1,r2):=h
 clear h
 have HC3:=Aside0.mk H
 clear H
 obtain ⟨ASz4_0,cSz4_0,HGz4,hgz4,HSz4_0⟩:=HI0.out
 have hcz4_0:=cellS66_0 HGz4
 have hcz4_1:=cellS66_1 HGz4
 have hfz4_1:=blk_frozen HGz4 1
 clear HGz4 hgz4
 go_enter Try.func55,Try.ntmps55
 go_upto_region 2 with (fail)
 repeat (go_quiet (fail);go_upto_region 2 with (fail))
 go_cut [24] (fun v24 wc=>∃ (kq:Nat) (x24_2:Bool),v24=.bool x24_2∧Aside0 (spec_l15Rd_pick.j0 kq a1 x24_2 s0_0 (wrap64 (s0_1+1))=some (r1,r2))∧Aside0 (kq≤k)∧Aside0 (IsS66 w0 wc g s0_0 (wrap64 (s0_1+1)))∧Aside0 (KeepBut w wc g none)∧Aside0 (Below w0.heap.size w0 wc))
 case first =>
  have H:=HC3.out
  clear HC3
  by_cases c5:a1<1
  ·rw [if_pos c5] at H
   have c5b0:decide (a1<1)=true:=decide_eq_true c5
   clear c5
   (first|rw [c5b0]|(simp only [i64_w,i32_w];rw [c5b0])|skip)
   have H':=Aside0.mk H
   clear H
   go_wp2
   repeat (go_quiet (fail);try go_wp2)
   go_meet
   case rel=>exact ⟨_,(true),(by first|rfl|(simp;done)|(simp [*];done)),H',⟨by first|omega|exact Nat.le_refl _⟩,⟨by repeat (first|(with_reducible first|exact HI0.out|apply IsS66.alloc|apply IsS66.drewN|apply IsS66.drew|apply IsS66.set_1)|exact HI0.out)⟩,⟨by repeat (first|exact gW HK|apply KeepBut.set_)⟩,⟨by repeat (first|exact gB HB|refine below_set ?_ (IsS66.ge HI0.out))⟩⟩
  ·rw [if_neg c5] at H
   have c5b0:decide (a1<1)=false:=decide_eq_false c5
   clear c5
   (first|rw [c5b0]|(simp only [i64_w,i32_w];rw [c5b0])|skip)
   have H':=Aside0.mk H
   clear H
   obtain ⟨ASz6_0,cSz6_0,HGz6,hgz6,HSz6_0⟩:=HI0.out
   have hcz6_0:=cellS66_0 HGz6
   have hcz6_1:=cellS66_1 HGz6
   have hfz6_1:=blk_frozen HGz6 1
   clear HGz6 hgz6
   go_wp2
   repeat (go_quiet (fail);try go_wp2)
   go_meet
   case rel=>exact ⟨_,(((s0_0.length:Int) == 0)),(by first|rfl|(simp;done)|(simp [*];done)),H',⟨by first|omega|exact Nat.le_refl _⟩,⟨by repeat (first|(with_reducible first|exact HI0.out|apply IsS66.alloc|apply IsS66.drewN|apply IsS66.drew|apply IsS66.set_1)|exact HI0.out)⟩,⟨by repeat (first|exact gW HK|apply KeepBut.set_)⟩,⟨by repeat (first|exact gB HB|refine below_set ?_ (IsS66.ge HI0.out))⟩⟩
 case rest =>
  clear HC3
  try clear p2 c5 c5b0 p6 hcz4_0 hcz4_1 hcz6_0 hcz6_1 hfz4_1 hfz6_1
  obtain ⟨kq,x24_2,rfl,HA,HJ2,HI0,HK,HB⟩:=hcut
  cases kq with
  | zero=>exact absurd HA.out (by simp [spec_l15Rd_pick.j0])
  | succ kj2 =>
   have H:=HA.out
   clear HA
   simp only [spec_l15Rd_pick.j0] at H
   by_cases c7:x24_2=true
   ·subst c7
    have H1:(some (0,(wrap64 (s0_1+1))))=some (r1,r2):=by rw [if_pos rfl] at H;exact H
    clear H
    have H:=H1
    clear H1
    simp only [Option.some.injEq,Prod.mk.injEq] at H
    obtain ⟨rfl,rfl⟩:=H
    go_wp2
    repeat (go_quiet (fail);try go_wp2)
    go_ret
    exact ⟨by first|rfl|(simp [errW_none,errW_some] <;> rfl)|(simp [*,errW_none,errW_some] <;> rfl),by repeat (first|(with_reducible first|exact HI0.out|apply IsS66.alloc|apply IsS66.drewN|apply IsS66.drew|apply IsS66.set_1)|exact HI0.out),by repeat (first|exact gB HB|refine below_set ?_ (IsS66.ge HI0.out)),by repeat (first|exact gW HK|apply KeepBut.set_)⟩
   ·replace c7:=Bool.eq_false_iff.mpr c7
    subst c7
    have H1:(if (wrap64 ((wrap64 (s0_1+1)) - 1))<(s0_0.length:Int) then (if 0≤(wrap64 ((wrap64 (s0_1+1)) - 1)) then (if a1=0 then (none) else (some (Int.tmod (wrap64 (rd s0_0 (wrap64 ((wrap64 (s0_1+1)) - 1)))) a1,(wrap64 (s0_1+1))))) else (none)) else (if (s0_0.length:Int)=0 then (none) else (if 0≤(Int.tmod (wrap64 ((wrap64 (s0_1+1)) - 1)) (s0_0.length:Int)) then (if (Int.tmod (wrap64 ((wrap64 (s0_1+1)) - 1)) (s0_0.length:Int))<(s0_0.length:Int) then (if 0≤(Int.tmod (wrap64 ((wrap64 ((wrap64 ((wrap64 (s0_1+1)) - 1)) * 7))+3)) (s0_0.length:Int)) then (if (Int.tmod (wrap64 ((wrap64 ((wrap64 ((wrap64 (s0_1+1)) - 1)) * 7))+3)) (s0_0.length:Int))<(s0_0.length:Int) then (if a1=0 then (none) else (some (Int.tmod (Go.bits .xor .i64 (wrap64 ((wrap64 ((wrap64 ((wrap64 ((wrap64 (rd s0_0 (Int.tmod (wrap64 ((wrap64 (s0_1+1)) - 1)) (s0_0.length:Int)))) * 131))+(wrap64 ((wrap64 (rd s0_0 (Int.tmod (wrap64 ((wrap64 ((wrap64 ((wrap64 (s0_1+1)) - 1)) * 7))+3)) (s0_0.length:Int)))) * 1117))))+(wrap64 ((wrap64 ((wrap64 (s0_1+1)) - 1)) * 29))))+(wrap64 ((wrap64 (Int.tdiv (wrap64 ((wrap64 (s0_1+1)) - 1)) (s0_0.length:Int))) * 53)))) (wrap64 (Int.tdiv (wrap64 ((wrap64 ((wrap64 ((wrap64 ((wrap64 (rd s0_0 (Int.tmod (wrap64 ((wrap64 (s0_1+1)) - 1)) (s0_0.length:Int)))) * 131))+(wrap64 ((wrap64 (rd s0_0 (Int.tmod (wrap64 ((wrap64 ((wrap64 ((wrap64 (s0_1+1)) - 1)) * 7))+3)) (s0_0.length:Int)))) * 1117))))+(wrap64 ((wrap64 ((wrap64 (s0_1+1)) - 1)) * 29))))+(wrap64 ((wrap64 (Int.tdiv (wrap64 ((wrap64 (s0_1+1)) - 1)) (s0_0.length:Int))) * 53)))) 64))) a1,(wrap64 (s0_1+1))))) else (none)) else (none)) else (none)) else (none))))=some (r1,r2):=by rw [if_neg (show ¬ (false=true) by decide)] at H;exact H
    clear H
    have H:=H1
    clear H1
    by_cases c8:(wrap64 ((wrap64 (s0_1+1)) - 1))<(s0_0.length:Int)
    ·rw [if_pos c8] at H
     have c8b0:decide ((wrap64 ((wrap64 (s0_1+1)) - 1))<(s0_0.length:Int))=true:=decide_eq_true c8
     clear c8
     obtain ⟨ji9,hji9⟩:∃ j_:Int,(wrap64 ((wrap64 (s0_1+1)) - 1))=j_:=⟨_,rfl⟩
     replace H:(if 0≤(ji9) then (if a1=0 then (none) else (some (Int.tmod (wrap64 (rd s0_0 (ji9))) a1,(wrap64 (s0_1+1))))) else (none))=some (r1,r2):=by first|(rw [hji9] at H;exact H)|(simp only [hji9] at H ⊢;exact H)
     (try rw [hji9] at c8b0)
     have hji9w:(IntKind.i64.wrap ((wrap64 (s0_1+1)) - 1))=ji9:=(i64_w _).trans hji9
     by_cases c10:0≤(ji9)
     ·rw [if_pos c10] at H
      have c10b0:decide (0≤(ji9))=true:=decide_eq_true c10
      clear c10
      by_cases c11:a1=0
      ·rw [if_pos c11] at H
       exact absurd H (by simp)
      ·rw [if_neg c11] at H
       have c11b0:(a1 == 0)=false:=beq_eq_false_iff_ne.mpr c11
       have c11b1:(a1 != 0)=true:=bne_iff_ne.mpr c11
       simp only [Option.some.injEq,Prod.mk.injEq] at H
       obtain ⟨rfl,rfl⟩:=H
       obtain ⟨ASz12_0,cSz12_0,HGz12,hgz12,HSz12_0⟩:=HI0.out
       have hcz12_0:=cellS66_0 HGz12
       have hcz12_1:=cellS66_1 HGz12
       have hfz12_1:=blk_frozen HGz12 1
       clear HGz12 hgz12
       have p104:0≤((ji9):Int):=of_decide_eq_true (by first|(with_reducible assumption)|assumption)
       have q104:(ji9)<(s0_0.length:Int):=of_decide_eq_true (by first|(with_reducible assumption)|assumption)
       obtain ⟨ad104,e104,hx104_0⟩:=Kd.at_int HSz12_0 (ji9) p104 q104
       cases e104
       replace hx104_0:=pw_cell_below HB.out hx104_0
       replace p104:=eq_true p104
       replace q104:=eq_true q104
       go_wp2
       repeat (go_quiet (fail);try go_wp2)
       go_ret
       exact ⟨by first|rfl|(simp [errW_none,errW_some] <;> rfl)|(simp only [← hji9];first|rfl|(simp [errW_none,errW_some] <;> rfl))|(simp [*,errW_none,errW_some] <;> rfl),by repeat (first|(with_reducible first|exact HI0.out|apply IsS66.alloc|apply IsS66.drewN|apply IsS66.drew|apply IsS66.set_1)|exact HI0.out),by repeat (first|exact gB HB|refine below_set ?_ (IsS66.ge HI0.out)),by repeat (first|exact gW HK|apply KeepBut.set_)⟩
     ·rw [if_neg c10] at H
      exact absurd H (by simp)
    ·rw [if_neg c8] at H
     have c8b0:decide ((wrap64 ((wrap64 (s0_1+1)) - 1))<(s0_0.length:Int))=false:=decide_eq_false c8
     clear c8
     by_cases c13:(s0_0.length:Int)=0
     ·rw [if_pos c13] at H
      exact absurd H (by simp)
     ·rw [if_neg c13] at H
      have c13b0:((s0_0.length:Int) == 0)=false:=beq_eq_false_iff_ne.mpr c13
      have c13b1:((s0_0.length:Int) != 0)=true:=bne_iff_ne.mpr c13
      have c13b2:¬ (s0_0=[]):=fun h_=>c13 (by rw [h_];rfl)
      obtain ⟨ji14,hji14⟩:∃ j_:Int,(Int.tmod (wrap64 ((wrap64 (s0_1+1)) - 1)) (s0_0.length:Int))=j_:=⟨_,rfl⟩
      replace H:(if 0≤(ji14) then (if (ji14)<(s0_0.length:Int) then (if 0≤(Int.tmod (wrap64 ((wrap64 ((wrap64 ((wrap64 (s0_1+1)) - 1)) * 7))+3)) (s0_0.length:Int)) then (if (Int.tmod (wrap64 ((wrap64 ((wrap64 ((wrap64 (s0_1+1)) - 1)) * 7))+3)) (s0_0.length:Int))<(s0_0.length:Int) then (if a1=0 then (none) else (some (Int.tmod (Go.bits .xor .i64 (wrap64 ((wrap64 ((wrap64 ((wrap64 ((wrap64 (rd s0_0 (ji14))) * 131))+(wrap64 ((wrap64 (rd s0_0 (Int.tmod (wrap64 ((wrap64 ((wrap64 ((wrap64 (s0_1+1)) - 1)) * 7))+3)) (s0_0.length:Int)))) * 1117))))+(wrap64 ((wrap64 ((wrap64 (s0_1+1)) - 1)) * 29))))+(wrap64 ((wrap64 (Int.tdiv (wrap64 ((wrap64 (s0_1+1)) - 1)) (s0_0.length:Int))) * 53)))) (wrap64 (Int.tdiv (wrap64 ((wrap64 ((wrap64 ((wrap64 ((wrap64 (rd s0_0 (ji14))) * 131))+(wrap64 ((wrap64 (rd s0_0 (Int.tmod (wrap64 ((wrap64 ((wrap64 ((wrap64 (s0_1+1)) - 1)) * 7))+3)) (s0_0.length:Int)))) * 1117))))+(wrap64 ((wrap64 ((wrap64 (s0_1+1)) - 1)) * 29))))+(wrap64 ((wrap64 (Int.tdiv (wrap64 ((wrap64 (s0_1+1)) - 1)) (s0_0.length:Int))) * 53)))) 64))) a1,(wrap64 (s0_1+1))))) else (none)) else (none)) else (none)) else (none))=some (r1,r2):=by first|(rw [hji14] at H;exact H)|(simp only [hji14] at H ⊢;exact H)
      by_cases c15:0≤(ji14)
      ·rw [if_pos c15] at H
       have c15b0:decide (0≤(ji14))=true:=decide_eq_true c15
       clear c15
       by_cases c16:(ji14)<(s0_0.length:Int)
       ·rw [if_pos c16] at H
        have c16b0:decide ((ji14)<(s0_0.length:Int))=true:=decide_eq_true c16
        clear c16
        obtain ⟨ji17,hji17⟩:∃ j_:Int,(Int.tmod (wrap64 ((wrap64 ((wrap64 ((wrap64 (s0_1+1)) - 1)) * 7))+3)) (s0_0.length:Int))=j_:=⟨_,rfl⟩
        replace H:(if 0≤(ji17) then (if (ji17)<(s0_0.length:Int) then (if a1=0 then (none) else (some (Int.tmod (Go.bits .xor .i64 (wrap64 ((wrap64 ((wrap64 ((wrap64 ((wrap64 (rd s0_0 (ji14))) * 131))+(wrap64 ((wrap64 (rd s0_0 (ji17))) * 1117))))+(wrap64 ((wrap64 ((wrap64 (s0_1+1)) - 1)) * 29))))+(wrap64 ((wrap64 (Int.tdiv (wrap64 ((wrap64 (s0_1+1)) - 1)) (s0_0.length:Int))) * 53)))) (wrap64 (Int.tdiv (wrap64 ((wrap64 ((wrap64 ((wrap64 ((wrap64 (rd s0_0 (ji14))) * 131))+(wrap64 ((wrap64 (rd s0_0 (ji17))) * 1117))))+(wrap64 ((wrap64 ((wrap64 (s0_1+1)) - 1)) * 29))))+(wrap64 ((wrap64 (Int.tdiv (wrap64 ((wrap64 (s0_1+1)) - 1)) (s0_0.length:Int))) * 53)))) 64))) a1,(wrap64 (s0_1+1))))) else (none)) else (none))=some (r1,r2):=by first|(rw [hji17] at H;exact H)|(simp only [hji17] at H ⊢;exact H)
        by_cases c18:0≤(ji17)
        ·rw [if_pos c18] at H
         have c18b0:decide (0≤(ji17))=true:=decide_eq_true c18
         clear c18
         by_cases c19:(ji17)<(s0_0.length:Int)
         ·rw [if_pos c19] at H
          have c19b0:decide ((ji17)<(s0_0.length:Int))=true:=decide_eq_true c19
          clear c19
          by_cases c20:a1=0
          ·rw [if_pos c20] at H
           exact absurd H (by simp)
          ·rw [if_neg c20] at H
           have c20b0:(a1 == 0)=false:=beq_eq_false_iff_ne.mpr c20
           have c20b1:(a1 != 0)=true:=bne_iff_ne.mpr c20
           simp only [Option.some.injEq,Prod.mk.injEq] at H
           obtain ⟨rfl,rfl⟩:=H
           obtain ⟨ASz21_0,cSz21_0,HGz21,hgz21,HSz21_0⟩:=HI0.out
           have hcz21_0:=cellS66_0 HGz21
           have hcz21_1:=cellS66_1 HGz21
           have hfz21_1:=blk_frozen HGz21 1
           clear HGz21 hgz21
           have p105:0≤((ji14):Int):=of_decide_eq_true (by first|(with_reducible assumption)|assumption)
           have q105:(ji14)<(s0_0.length:Int):=of_decide_eq_true (by first|(with_reducible assumption)|assumption)
           obtain ⟨ad105,e105,hx105_0⟩:=Kd.at_int HSz21_0 (ji14) p105 q105
           cases e105
           replace hx105_0:=pw_cell_below HB.out hx105_0
           replace p105:=eq_true p105
           replace q105:=eq_true q105
           have p106:0≤((ji17):Int):=of_decide_eq_true (by first|(with_reducible assumption)|assumption)
           have q106:(ji17)<(s0_0.length:Int):=of_decide_eq_true (by first|(with_reducible assumption)|assumption)
           obtain ⟨ad106,e106,hx106_0⟩:=Kd.at_int HSz21_0 (ji17) p106 q106
           obtain rfl:ad105=ad106:=(by injection e106)
           replace hx106_0:=pw_cell_below HB.out hx106_0
           replace p106:=eq_true p106
           replace q106:=eq_true q106
           go_wp2
           repeat (go_quiet (fail);try go_wp2)
           go_ret
           exact ⟨by first|rfl|(simp [errW_none,errW_some] <;> rfl)|(simp only [← hji14,← hji17];first|rfl|(simp [errW_none,errW_some] <;> rfl))|(simp [*,errW_none,errW_some] <;> rfl),by repeat (first|(with_reducible first|exact HI0.out|apply IsS66.alloc|apply IsS66.drewN|apply IsS66.drew|apply IsS66.set_1)|exact HI0.out),by repeat (first|exact gB HB|refine below_set ?_ (IsS66.ge HI0.out)),by repeat (first|exact gW HK|apply KeepBut.set_)⟩
         ·rw [if_neg c19] at H
          exact absurd H (by simp)
        ·rw [if_neg c18] at H
         exact absurd H (by simp)
       ·rw [if_neg c16] at H
        exact absurd H (by simp)
      ·rw [if_neg c15] at H
       exact absurd H (by simp)
end Go.Proofs.Ytdhdfmmefghijaa.P
namespace Go.Proofs.Ytdhdfmmefghijaa.P
open Go.RowKit Go.Proofs.YtdhdfmmefghijaaW.PrintWords Go.Proofs.YtdhdfmmefghijaaW.PrintLast Go.Proofs.YtdhdfmmefghijaaW.PrintMore
attribute [local go_sem] max2_int min2_int max_two min_two max_three min_three max_four min_four
set_option linter.unusedVariables false
set_option linter.unusedSimpArgs false
def spec_l15Rd_num.f (k:Nat) (s0_0:List Int) (s0_1:Int) (l1:List Int):Option (Int×Int):=(spec_l15Rd_pick.f k s0_0 s0_1 (l1.length:Int)).bind fun bt107=>(if 0≤bt107.1 then (if bt107.1<(l1.length:Int) then (some (rd l1 bt107.1,bt107.2)) else (none)) else (none))
set_option maxHeartbeats 8000000 in
set_option maxRecDepth 100000 in
theorem spec_l15Rd_num.calls (k:Nat) (g:Nat) (s0_0:List Int) (s0_1:Int) (A1:Option Addr) (c1:Nat) (l1:List Int) (r1:Int) (r2:Int) (w0 w:World) (hI:IsS66 w0 w g s0_0 s0_1) (hB:Below w0.heap.size w0 w) (hr1:Kd.C (Kd.int .i64) w A1 l1.length l1) (hc1:l1.length≤c1) (hf1:∀ ad,A1=some ad→0<l1.length→ad.block≠g) (h:spec_l15Rd_num.f k s0_0 s0_1 l1=some (r1,r2)) :
  Calls Try.prog 49 #[.pointer (some ⟨g,0,none⟩),.slice A1 l1.length c1] w fun e w'=>e=.returned (.int .i64 r1)∧IsS66 w0 w' g s0_0 r2∧Below w0.heap.size w0 w'∧KeepBut w w' g none:=by
 have HR1:=Aside0.mk hr1
 have HC1:=Aside0.mk hc1
 clear hr1 hc1
 have HI0:=Aside0.mk hI
 have HK:=Aside0.mk (KeepBut.refl w g none)
 have HL:=Aside0.mk hB.size
 clear hI
 have HW0:=Aside0.mk hB.size
 have HB:=Aside0.mk hB
 clear hB
 have H:((spec_l15Rd_pick.f k s0_0 s0_1 (l1.length:Int)).bind fun bt107=>(if 0≤bt107.1 then (if bt107.1<(l1.length:Int) then (some (rd l1 bt107.1,bt107.2)) else (none)) else (none)))=some (r1,r2):=h
 clear h
 replace H:=Option.bind_eq_some_iff.mp H
 obtain ⟨⟨t107,t108⟩,A30,H⟩:=H
 replace H:(if 0≤t107 then (if t107<(l1.length:Int) then (some (rd l1 t107,t108)) else (none)) else (none))=some (r1,r2):=H
 have A3:=Aside0.mk A30
 clear A30
 by_cases c4:0≤t107
 ·rw [if_pos c4] at H
  have c4b0:decide (0≤t107)=true:=decide_eq_true c4
  clear c4
  by_cases c5:t107<(l1.length:Int)
  ·rw [if_pos c5] at H
   have c5b0:decide (t107<(l1.length:Int))=true:=decide_eq_true c5
   clear c5
   simp only [Option.some.injEq,Prod.mk.injEq] at H
   obtain ⟨rfl,rfl⟩:=H
   go_enter Try.func49,Try.ntmps49
   go_wp2_with (first|((with_reducible refine gate_callee (f:=55) rfl ?_);refine goesL_ (some 9) rfl rfl Try.func55 (by kernel_rfl) rfl #[.pointer (some ⟨g,0,none⟩),.int .i64 (l1.length:Int)] rfl (by (try simp only [List.map_toArray,List.map_cons,List.map_nil]);first|done|rfl|(simp only [List.length_drop,List.length_take];rfl)) ?_;(with_reducible refine (spec_l15Rd_pick.calls k g s0_0 s0_1 (l1.length:Int) t107 t108 w0 _ ?side1 ?side2 A3.out).mono ?_);(case side1=>repeat (first|(with_reducible first|exact HI0.out|apply IsS66.alloc|apply IsS66.drewN|apply IsS66.drew|apply IsS66.set_1)|exact HI0.out));(case side2=>repeat (first|(with_reducible first|exact HB.out|apply below_alloc|apply pw_below_drewN|apply below_drew1|refine below_set ?_ (IsS66.ge HI0.out))|exact HB.out));rintro e w6 ⟨rfl,hi,hb,hk⟩;refine ⟨_,rfl,?_⟩;have n0_:=Aside0.mk (KeepBut.trans (by repeat (first|(with_reducible first|exact HK.out|apply KeepBut.set_|apply keep_drewN|apply keep_drew|apply keep_alloc)|exact HK.out)) hk (.inl rfl));have n1_:=Aside0.mk (hb);have n2_:=Aside0.mk (hi);clear HK;clear HB;clear HI0;have HK:=n0_;have HB:=n1_;have HI0:=n2_;clear n0_ n1_ n2_;(try clear hb);(try clear hb2);(try clear hk);(try clear hi);have p109:0≤(t107:Int):=of_decide_eq_true (by first|(with_reducible assumption)|assumption);have q109:t107<(l1.length:Int):=of_decide_eq_true (by first|(with_reducible assumption)|assumption);obtain ⟨ad109,e109,hx109_0⟩:=Kd.at_int HR1.out t107 p109 q109;cases e109;replace hx109_0:=keep_cell HK.out hx109_0 (by first|(rw [add_block];exact hf1 _ rfl (by omega))|exact hf1 _ rfl (by omega)|exact hf1 ad109 rfl (by omega));replace p109:=eq_true p109;replace q109:=eq_true q109))
   go_ret
   exact ⟨by first|rfl|(simp [errW_none,errW_some] <;> rfl)|(simp [*,errW_none,errW_some] <;> rfl),by repeat (first|(with_reducible first|exact HI0.out|apply IsS66.alloc|apply IsS66.drewN|apply IsS66.drew|apply IsS66.set_1)|exact HI0.out),by repeat (first|(with_reducible first|exact HB.out|apply below_alloc|apply pw_below_drewN|apply below_drew1|refine below_set ?_ (IsS66.ge HI0.out))|exact HB.out),by repeat (first|(with_reducible first|exact HK.out|apply KeepBut.set_|apply keep_drewN|apply keep_drew|apply keep_alloc)|exact HK.out)⟩
  ·rw [if_neg c5] at H
   exact absurd H (by simp)
 ·rw [if_neg c4] at H
  exact absurd H (by simp)
end Go.Proofs.Ytdhdfmmefghijaa.P
namespace Go.Proofs.Ytdhdfmmefghijaa.P
open Go.RowKit Go.Proofs.YtdhdfmmefghijaaW.PrintWords Go.Proofs.YtdhdfmmefghijaaW.PrintLast Go.Proofs.YtdhdfmmefghijaaW.PrintMore
attribute [local go_sem] max2_int min2_int max_two min_two max_three min_three max_four min_four
set_option linter.unusedVariables false
set_option linter.unusedSimpArgs false
mutual
def spec_l1Copy.l0:Nat→Int→Int→Int→ByteArray→List (SDoc)→Int→Int→ByteArray→List (SDoc)→Option (Int×Int×ByteArray×(List (SDoc)))
 | 0,_,_,_,_,_,_,_,_,_=>none
 | k+1,x4,x111000,x111001,x111002,x111003,x113000,x113001,x113002,x113003=>if x4<(x111003.length:Int) then (if 0≤x4 then ((spec_l1Copy.f k ((rd_TDoc x111003 x4).f0) ((rd_TDoc x111003 x4).f1) ((rd_TDoc x111003 x4).f2) ((rd_TDoc x111003 x4).f3)).bind fun bt114=>(if x113003.length<2513169434916 then (spec_l1Copy.l0 k (wrap64 (x4+1)) x111000 x111001 x111002 x111003 x113000 x113001 x113002 (x113003++[(⟨bt114.1,bt114.2.1,bt114.2.2.1,bt114.2.2.2⟩:SDoc)])) else (none))) else (none)) else (some (x113000,x113001,x113002,x113003))
def spec_l1Copy.f:Nat→Int→Int→ByteArray→List (SDoc)→Option (Int×Int×ByteArray×(List (SDoc)))
 | 0,_,_,_,_=>none
 | k+1,a0_0,a0_1,a0_2,l0_3=>spec_l1Copy.l0 k 0 a0_0 a0_1 a0_2 l0_3 a0_0 a0_1 a0_2 ([]:List (SDoc))
end
def spec_l1Copy.T5:Bool×List (List Nat×List Nat):=(true,[([],[]),([0],[0]),([],[]),([2],[2]),([],[]),([3,4],[3,4]),([5],[5]),([6],[6]),([7],[7]),([1,8,7],[1,8]),([0,1,2,3,4,5,6,7,8,9],[]),([10,9,9,0,1,2,3,4,5,6,7,8,9],[9,10])])
def spec_l1Copy.B5:List Nat:=[0,1,0,4,0,28,60,124,252,511,1023,2047]
theorem spec_l1Copy.tab5:rtab .any (opsOf Try.f59 5)=spec_l1Copy.T5:=by kernel_rfl
theorem spec_l1Copy.bits5:waitsOk spec_l1Copy.T5.2 spec_l1Copy.B5=true:=by kernel_rfl
set_option maxHeartbeats 8000000 in
set_option maxRecDepth 100000 in
theorem spec_l1Copy.calls (k:Nat):∀ (a0_0:Int) (a0_1:Int) (a0_2:ByteArray) (A0_3:Option Addr) (c0_3:Nat) (l0_3:List (SDoc)) (r1:Int) (r2:Int) (r3:ByteArray) (r4:List (SDoc)) (w:World) (hr0_3:Kd.C k27 w A0_3 l0_3.length l0_3) (hc0_3:l0_3.length≤c0_3) (h:spec_l1Copy.f k a0_0 a0_1 a0_2 l0_3=some (r1,r2,r3,r4)),
  Calls Try.prog 59 #[.agg #[.int .i64 a0_0,.int .i64 a0_1,.string a0_2,.slice A0_3 l0_3.length c0_3]] w fun e w'=>∃ v3_:Value,e=.returned (.agg #[.int .i64 r1,.int .i64 r2,.string r3,v3_])∧Kd.R k27 27 w' w.heap.size (fun _=>True) v3_ r4∧Below w.heap.size w w':=by
 induction k using Nat.strongRecOn with
 | _ k ih =>
 intro a0_0 a0_1 a0_2 A0_3 c0_3 l0_3 r1 r2 r3 r4 w hr0_3 hc0_3 h
 cases k with
 | zero=>exact absurd h (by simp [spec_l1Copy.f])
 | succ k =>
 simp only [spec_l1Copy.f] at h
 have hu27:=Try.underlying27
 have HR0_3:=Aside0.mk hr0_3
 have HC0_3:=Aside0.mk hc0_3
 clear hr0_3 hc0_3
 have HB:=Aside0.mk (Below.refl w.heap.size w)
 have H:(spec_l1Copy.l0 k 0 a0_0 a0_1 a0_2 l0_3 a0_0 a0_1 a0_2 ([]:List (SDoc)))=some (r1,r2,r3,r4):=h
 clear h
 have H':=Aside0.mk H
 clear H
 go_enter Try.func59,Try.ntmps59
 go_wp2_with (first|((with_reducible refine gate_dst (N:=1) rfl ?_);refine box_event ?hg (N:=1) ?hd (cs:=#[.int .i64 a0_0,.int .i64 a0_1,.string a0_2,.slice A0_3 l0_3.length c0_3]) (t:=27) ?hr ?_;(case hd=>rfl);(case hg=>rfl);(case hr=>first|(go_simp;done)|(go_simp;rfl));intro gb110 hg w2 hbox hb;have n0_:=Aside0.mk (below_step (by repeat (first|(with_reducible first|exact HB.out|apply below_alloc|apply pw_below_drewN|apply below_drew1)|exact HB.out)) hb);have n1_:=Aside0.mk (hbox);have n2_:=Aside0.mk ((by rw [hg];exact (below_size (by repeat (first|(with_reducible first|exact HB.out|apply below_alloc|apply pw_below_drewN|apply below_drew1)|exact HB.out))):w.heap.size≤gb110));have n3_:=Aside0.mk ((by rw [hg];exact (below_size (by repeat (first|(with_reducible first|exact HB.out|apply below_alloc|apply pw_below_drewN|apply below_drew1)|exact HB.out))):w.heap.size≤gb110));clear HB;have HB:=n0_;have BK110:=n1_;have GW110:=n2_;have GE110:=n3_;clear n0_ n1_ n2_ n3_;clear hb hbox hg)|((with_reducible refine gate_dst (N:=2) rfl ?_);refine box_event ?hg (N:=2) ?hd (cs:=#[.int .i64 0,.int .i64 0,.string (⟨#[]⟩:ByteArray),.slice none 0 0]) (t:=27) ?hr ?_;(case hd=>rfl);(case hg=>rfl);(case hr=>first|(go_simp;done)|(go_simp;rfl));intro gb111 hg w3 hbox hb;have n0_:=Aside0.mk (blk_below (g:=gb110) (o:=.cells #[.int .i64 a0_0,.int .i64 a0_1,.string a0_2,.slice A0_3 l0_3.length c0_3] 27 (0,0)) (by (with_reducible repeat (first|refine blk_drewN ?_ _|refine blk_drew ?_|refine blk_alloc ?_ _));exact BK110.out) hb);have n1_:=Aside0.mk (below_step (by repeat (first|(with_reducible first|exact HB.out|apply below_alloc|apply pw_below_drewN|apply below_drew1|refine below_set ?_ GE110.out)|exact HB.out)) hb);have n2_:=Aside0.mk (hbox);have n3_:=Aside0.mk ((by rw [hg];exact (below_size (by repeat (first|(with_reducible first|exact HB.out|apply below_alloc|apply pw_below_drewN|apply below_drew1|refine below_set ?_ GE110.out)|exact HB.out))):w.heap.size≤gb111));have n4_:=Aside0.mk ((by rw [hg];exact (below_size (by repeat (first|(with_reducible first|exact HB.out|apply below_alloc|apply pw_below_drewN|apply below_drew1|refine below_set ?_ GE110.out)|exact HB.out))):w.heap.size≤gb111));have n5_:=Aside0.mk ((by rw [hg];exact Nat.ne_of_lt (blk_lt (g:=gb110) (o:=.cells #[.int .i64 a0_0,.int .i64 a0_1,.string a0_2,.slice A0_3 l0_3.length c0_3] 27 (0,0)) (by (with_reducible repeat (first|refine blk_drewN ?_ _|refine blk_drew ?_|refine blk_alloc ?_ _));exact BK110.out)):gb110≠gb111));have n6_:=Aside0.mk ((by rw [hg];exact Nat.ne_of_gt (blk_lt (g:=gb110) (o:=.cells #[.int .i64 a0_0,.int .i64 a0_1,.string a0_2,.slice A0_3 l0_3.length c0_3] 27 (0,0)) (by (with_reducible repeat (first|refine blk_drewN ?_ _|refine blk_drew ?_|refine blk_alloc ?_ _));exact BK110.out)):gb111≠gb110));clear BK110;clear HB;have BK110:=n0_;have HB:=n1_;have BK111:=n2_;have GW111:=n3_;have GE111:=n4_;have NB110_111:=n5_;have NB111_110:=n6_;clear n0_ n1_ n2_ n3_ n4_ n5_ n6_;clear hb hbox hg;have hnb4:=NB110_111.out;have hnc4:=NB111_110.out;have hcz5_0:w3.cell? ⟨gb110,0,none⟩=some (.int .i64 a0_0):=(blk_cell BK110.out 0).trans rfl;have hcz5_1:w3.cell? ⟨gb110,1,none⟩=some (.int .i64 a0_1):=(blk_cell BK110.out 1).trans rfl;have hcz5_2:w3.cell? ⟨gb110,2,none⟩=some (.string a0_2):=(blk_cell BK110.out 2).trans rfl;have hcz5_3:w3.cell? ⟨gb110,3,none⟩=some (.slice A0_3 l0_3.length c0_3):=(blk_cell BK110.out 3).trans rfl;have hfz5_0:=blk_frozen BK110.out 0;have hfz5_1:=blk_frozen BK110.out 1;have hfz5_2:=blk_frozen BK110.out 2;have hfz5_3:=blk_frozen BK110.out 3)|((with_reducible refine gate_dst (N:=3) rfl ?_);refine box_event ?hg (N:=3) ?hd (cs:=#[.int .i64 0,.int .i64 0,.string (⟨#[]⟩:ByteArray),.slice none 0 0]) (t:=27) ?hr ?_;(case hd=>rfl);(case hg=>rfl);(case hr=>first|(go_simp;done)|(go_simp;rfl));intro gb112 hg w6 hbox hb;have n0_:=Aside0.mk (blk_below (g:=gb110) (o:=.cells #[.int .i64 a0_0,.int .i64 a0_1,.string a0_2,.slice A0_3 l0_3.length c0_3] 27 (0,0)) (by (with_reducible repeat (first|refine blk_drewN ?_ _|refine blk_drew ?_|refine blk_alloc ?_ _));exact BK110.out) hb);have n1_:=Aside0.mk (blk_below (g:=gb111) (o:=.cells #[.int .i64 0,.int .i64 0,.string (⟨#[]⟩:ByteArray),.slice none 0 0] 27 (0,0)) (by (with_reducible repeat (first|refine blk_drewN ?_ _|refine blk_drew ?_|refine blk_alloc ?_ _));exact BK111.out) hb);have n2_:=Aside0.mk (below_step (by repeat (first|(with_reducible first|exact HB.out|apply below_alloc|apply pw_below_drewN|apply below_drew1|refine below_set ?_ GE110.out|refine below_set ?_ GE111.out)|exact HB.out)) hb);have n3_:=Aside0.mk (hbox);have n4_:=Aside0.mk ((by rw [hg];exact (below_size (by repeat (first|(with_reducible first|exact HB.out|apply below_alloc|apply pw_below_drewN|apply below_drew1|refine below_set ?_ GE110.out|refine below_set ?_ GE111.out)|exact HB.out))):w.heap.size≤gb112));have n5_:=Aside0.mk ((by rw [hg];exact (below_size (by repeat (first|(with_reducible first|exact HB.out|apply below_alloc|apply pw_below_drewN|apply below_drew1|refine below_set ?_ GE110.out|refine below_set ?_ GE111.out)|exact HB.out))):w.heap.size≤gb112));have n6_:=Aside0.mk ((by rw [hg];exact Nat.ne_of_lt (blk_lt (g:=gb110) (o:=.cells #[.int .i64 a0_0,.int .i64 a0_1,.string a0_2,.slice A0_3 l0_3.length c0_3] 27 (0,0)) (by (with_reducible repeat (first|refine blk_drewN ?_ _|refine blk_drew ?_|refine blk_alloc ?_ _));exact BK110.out)):gb110≠gb112));have n7_:=Aside0.mk ((by rw [hg];exact Nat.ne_of_gt (blk_lt (g:=gb110) (o:=.cells #[.int .i64 a0_0,.int .i64 a0_1,.string a0_2,.slice A0_3 l0_3.length c0_3] 27 (0,0)) (by (with_reducible repeat (first|refine blk_drewN ?_ _|refine blk_drew ?_|refine blk_alloc ?_ _));exact BK110.out)):gb112≠gb110));have n8_:=Aside0.mk ((by rw [hg];exact Nat.ne_of_lt (blk_lt (g:=gb111) (o:=.cells #[.int .i64 0,.int .i64 0,.string (⟨#[]⟩:ByteArray),.slice none 0 0] 27 (0,0)) (by (with_reducible repeat (first|refine blk_drewN ?_ _|refine blk_drew ?_|refine blk_alloc ?_ _));exact BK111.out)):gb111≠gb112));have n9_:=Aside0.mk ((by rw [hg];exact Nat.ne_of_gt (blk_lt (g:=gb111) (o:=.cells #[.int .i64 0,.int .i64 0,.string (⟨#[]⟩:ByteArray),.slice none 0 0] 27 (0,0)) (by (with_reducible repeat (first|refine blk_drewN ?_ _|refine blk_drew ?_|refine blk_alloc ?_ _));exact BK111.out)):gb112≠gb111));clear BK110;clear BK111;clear HB;have BK110:=n0_;have BK111:=n1_;have HB:=n2_;have BK112:=n3_;have GW112:=n4_;have GE112:=n5_;have NB110_112:=n6_;have NB112_110:=n7_;have NB111_112:=n8_;have NB112_111:=n9_;clear n0_ n1_ n2_ n3_ n4_ n5_ n6_ n7_ n8_ n9_;clear hb hbox hg;have hnb7:=NB112_110.out;have hnc7:=NB110_112.out;have hnb8:=NB112_111.out;have hnc8:=NB111_112.out;have hcz9_0:w6.cell? ⟨gb112,0,none⟩=some (.int .i64 0):=(blk_cell BK112.out 0).trans rfl;have hcz9_1:w6.cell? ⟨gb112,1,none⟩=some (.int .i64 0):=(blk_cell BK112.out 1).trans rfl;have hcz9_2:w6.cell? ⟨gb112,2,none⟩=some (.string (⟨#[]⟩:ByteArray)):=(blk_cell BK112.out 2).trans rfl;have hcz9_3:w6.cell? ⟨gb112,3,none⟩=some (.slice none 0 0):=(blk_cell BK112.out 3).trans rfl;have hfz9_0:=blk_frozen BK112.out 0;have hfz9_1:=blk_frozen BK112.out 1;have hfz9_2:=blk_frozen BK112.out 2;have hfz9_3:=blk_frozen BK112.out 3))
 go_loopg [4] k (fun kq v4 w'=>∃ (x4_1:Int) (x113003_1:List (SDoc)) (u113003:Value),v4=.int .i64 x4_1∧Aside0 (spec_l1Copy.l0 kq x4_1 a0_0 a0_1 a0_2 l0_3 a0_0 a0_1 a0_2 x113003_1=some (r1,r2,r3,r4))∧Aside0 (kq≤k)∧Aside0 (Kd.R k27 27 w' w.heap.size (fun k_=>k_≠gb110∧k_≠gb111∧k_≠gb112) u113003 x113003_1)∧Aside0 (w'.heap[gb110]?=some (.cells #[.int .i64 a0_0,.int .i64 a0_1,.string a0_2,(.slice A0_3 l0_3.length c0_3)] 27 (0,0)))∧Aside0 (w'.heap[gb111]?=some (.cells #[.int .i64 0,.int .i64 0,.string (⟨#[]⟩:ByteArray),(.slice none 0 0)] 27 (0,0)))∧Aside0 (w'.heap[gb112]?=some (.cells #[.int .i64 a0_0,.int .i64 a0_1,.string a0_2,u113003] 27 (0,0)))∧Aside0 (Below w.heap.size w w'))
 case atStart=>exact ⟨(0),(([]:List (SDoc))),(.slice none 0 0),(by first|rfl|(simp;done)|(simp [*];done)),H',⟨Nat.le_refl _⟩,⟨by first|exact Kd.R_nil _ _ _ _ _|exact Kd.N_nil _ _ _ _ _|exact Kd.V_nil _ _ _ _ _|exact Kd.Q_nil _ _ _ _ _|exact Kd.S_nil _ _ _ _ _⟩,⟨by (with_reducible repeat (first|refine blk_drewN ?_ _|refine blk_drew ?_|refine blk_alloc ?_ _));refine blk_far ?_ NB110_112.out _;(with_reducible repeat (first|refine blk_drewN ?_ _|refine blk_drew ?_|refine blk_alloc ?_ _));refine blk_far ?_ NB110_112.out _;(with_reducible repeat (first|refine blk_drewN ?_ _|refine blk_drew ?_|refine blk_alloc ?_ _));refine blk_far ?_ NB110_112.out _;(with_reducible repeat (first|refine blk_drewN ?_ _|refine blk_drew ?_|refine blk_alloc ?_ _));refine blk_far ?_ NB110_112.out _;(with_reducible repeat (first|refine blk_drewN ?_ _|refine blk_drew ?_|refine blk_alloc ?_ _));exact BK110.out⟩,⟨by (with_reducible repeat (first|refine blk_drewN ?_ _|refine blk_drew ?_|refine blk_alloc ?_ _));refine blk_far ?_ NB111_112.out _;(with_reducible repeat (first|refine blk_drewN ?_ _|refine blk_drew ?_|refine blk_alloc ?_ _));refine blk_far ?_ NB111_112.out _;(with_reducible repeat (first|refine blk_drewN ?_ _|refine blk_drew ?_|refine blk_alloc ?_ _));refine blk_far ?_ NB111_112.out _;(with_reducible repeat (first|refine blk_drewN ?_ _|refine blk_drew ?_|refine blk_alloc ?_ _));refine blk_far ?_ NB111_112.out _;(with_reducible repeat (first|refine blk_drewN ?_ _|refine blk_drew ?_|refine blk_alloc ?_ _));exact BK111.out⟩,⟨by (with_reducible repeat (first|refine blk_drewN ?_ _|refine blk_drew ?_|refine blk_alloc ?_ _));refine blk_put (cs:=#[.int .i64 a0_0,.int .i64 a0_1,.string a0_2,.slice none 0 0]) ?_ 3 _ rfl;(with_reducible repeat (first|refine blk_drewN ?_ _|refine blk_drew ?_|refine blk_alloc ?_ _));refine blk_put (cs:=#[.int .i64 a0_0,.int .i64 a0_1,.string (⟨#[]⟩:ByteArray),.slice none 0 0]) ?_ 2 _ rfl;(with_reducible repeat (first|refine blk_drewN ?_ _|refine blk_drew ?_|refine blk_alloc ?_ _));refine blk_put (cs:=#[.int .i64 a0_0,.int .i64 0,.string (⟨#[]⟩:ByteArray),.slice none 0 0]) ?_ 1 _ rfl;(with_reducible repeat (first|refine blk_drewN ?_ _|refine blk_drew ?_|refine blk_alloc ?_ _));refine blk_put (cs:=#[.int .i64 0,.int .i64 0,.string (⟨#[]⟩:ByteArray),.slice none 0 0]) ?_ 0 _ rfl;(with_reducible repeat (first|refine blk_drewN ?_ _|refine blk_drew ?_|refine blk_alloc ?_ _));exact BK112.out⟩,⟨by repeat (first|(with_reducible first|exact HB.out|apply below_alloc|apply pw_below_drewN|apply below_drew1|refine below_set ?_ GE110.out|refine below_set ?_ GE111.out|refine below_set ?_ GE112.out)|exact HB.out)⟩⟩
 case round =>
  clear H'
  try clear p2 c4 c5 c7 c8 hcz5_0 hcz5_1 hcz5_2 hcz5_3 hcz9_0 hcz9_1 hcz9_2 hcz9_3 hfz5_0 hfz5_1 hfz5_2 hfz5_3 hfz9_0 hfz9_1 hfz9_2 hfz9_3
  (try clear HO_113003);(try clear BK110);(try clear BK111);(try clear BK112);(try clear HB)
  obtain ⟨x4_1,x113003_1,u113003,rfl,HA,HK1,HO_113003,BK110,BK111,BK112,HB⟩:=hrel
  cases gk with
  | zero=>exact absurd HA.out (by simp [spec_l1Copy.l0])
  | succ k1 =>
   have H:=HA.out
   clear HA
   simp only [spec_l1Copy.l0] at H
   by_cases c10:x4_1<(l0_3.length:Int)
   ·rw [if_pos c10] at H
    have c10b0:decide (x4_1<(l0_3.length:Int))=true:=decide_eq_true c10
    clear c10
    by_cases c11:0≤x4_1
    ·rw [if_pos c11] at H
     have c11b0:decide (0≤x4_1)=true:=decide_eq_true c11
     clear c11
     replace H:=Option.bind_eq_some_iff.mp H
     obtain ⟨⟨t114,t115,t116,t117⟩,A120,H⟩:=H
     replace H:(if x113003_1.length<2513169434916 then (spec_l1Copy.l0 k1 (wrap64 (x4_1+1)) a0_0 a0_1 a0_2 l0_3 a0_0 a0_1 a0_2 (x113003_1++[(⟨t114,t115,t116,t117⟩:SDoc)])) else (none))=some (r1,r2,r3,r4):=H
     have A12:=Aside0.mk A120
     clear A120
     by_cases c13:x113003_1.length<2513169434916
     ·rw [if_pos c13] at H
      have LMc13:=Aside0.mk c13
      clear c13
      obtain ⟨y120,hy120⟩:∃ y_:List (SDoc),y_=(x113003_1++[(⟨t114,t115,t116,t117⟩:SDoc)]):=⟨_,rfl⟩
      replace H:(spec_l1Copy.l0 k1 (wrap64 (x4_1+1)) a0_0 a0_1 a0_2 l0_3 a0_0 a0_1 a0_2 y120)=some (r1,r2,r3,r4):=by first|(rw [hy120];with_reducible exact H)|(have H2_:=(Option.bind_some _ _).symm.trans H;rw [hy120];with_reducible exact H2_)|(have H2_:=(Option.bind_some _ _).symm.trans H;with_reducible exact H2_)|with_reducible exact H|(rw [hy120];exact H)|exact H
      have Ny120:=Aside0.mk hy120
      clear hy120
      have H':=Aside0.mk H
      clear H
      have hnb14:=NB110_111.out
      have hnc14:=NB111_110.out
      have hnb15:=NB110_112.out
      have hnc15:=NB112_110.out
      have hcz16_0:wr.cell? ⟨gb110,0,none⟩=some (.int .i64 a0_0):=(blk_cell BK110.out 0).trans rfl
      have hcz16_1:wr.cell? ⟨gb110,1,none⟩=some (.int .i64 a0_1):=(blk_cell BK110.out 1).trans rfl
      have hcz16_2:wr.cell? ⟨gb110,2,none⟩=some (.string a0_2):=(blk_cell BK110.out 2).trans rfl
      have hcz16_3:wr.cell? ⟨gb110,3,none⟩=some (.slice A0_3 l0_3.length c0_3):=(blk_cell BK110.out 3).trans rfl
      have hfz16_0:=blk_frozen BK110.out 0
      have hfz16_1:=blk_frozen BK110.out 1
      have hfz16_2:=blk_frozen BK110.out 2
      have hfz16_3:=blk_frozen BK110.out 3
      try go_wp2
      have n0_:=Aside0.mk (Kd.R_drew HO_113003.out)
      have n1_:=Aside0.mk (blk_drew BK110.out)
      have n2_:=Aside0.mk (blk_drew BK111.out)
      have n3_:=Aside0.mk (blk_drew BK112.out)
      have n4_:=Aside0.mk (below_drew1 HB.out)
      clear HO_113003
      clear BK110
      clear BK111
      clear BK112
      clear HB
      have HO_113003:=n0_
      have BK110:=n1_
      have BK111:=n2_
      have BK112:=n3_
      have HB:=n4_
      clear n0_ n1_ n2_ n3_ n4_
      have p113:0≤(x4_1:Int):=of_decide_eq_true (by first|(with_reducible assumption)|assumption)
      have q113:x4_1<(l0_3.length:Int):=of_decide_eq_true (by first|(with_reducible assumption)|assumption)
      obtain ⟨ad113,A113_3,c113_3,e113,hx113_0,hx113_1,hx113_2,hx113_3,hl113_3,hi113_3⟩:=at_TDoc HR0_3.out x4_1 p113 q113
      have hw113_3:=hx113_3
      have hw113_2:=hx113_2
      have hw113_1:=hx113_1
      have hw113_0:=hx113_0
      cases e113
      replace hx113_0:=(HB.out.cell (World.block_lt_of_cell? w _ hx113_0)).trans hx113_0
      replace hx113_1:=(HB.out.cell (World.block_lt_of_cell? w _ hx113_1)).trans hx113_1
      replace hx113_2:=(HB.out.cell (World.block_lt_of_cell? w _ hx113_2)).trans hx113_2
      replace hx113_3:=(HB.out.cell (World.block_lt_of_cell? w _ hx113_3)).trans hx113_3
      have HR113_3:=Aside0.mk hi113_3
      have HC113_3:=Aside0.mk hl113_3
      clear hi113_3 hl113_3
      replace p113:=eq_true p113
      replace q113:=eq_true q113
      refine start_ (n:=12) (S:=fun w'=>w'.cell? ⟨gb112,0,none⟩=some (.int .i64 a0_0)∧w'.cell? ⟨gb112,1,none⟩=some (.int .i64 a0_1)∧w'.cell? ⟨gb112,2,none⟩=some (.string a0_2)∧w'.cell? ⟨gb112,3,none⟩=some (u113003)∧w'.cell? ⟨gb110,0,none⟩=some (.int .i64 a0_0)∧w'.cell? ⟨gb110,1,none⟩=some (.int .i64 a0_1)∧w'.cell? ⟨gb110,2,none⟩=some (.string a0_2)∧w'.cell? ⟨gb110,3,none⟩=some (.slice (some ad113) l0_3.length c0_3)∧w'.cell? (ad113.add ((x4_1).toNat * 4))=some (.int .i64 ((rd_TDoc l0_3 x4_1).f0))∧w'.cell? ⟨(ad113.add ((x4_1).toNat * 4)).block,(ad113.add ((x4_1).toNat * 4)).off+1,none⟩=some (.int .i64 ((rd_TDoc l0_3 x4_1).f1))∧w'.cell? ⟨(ad113.add ((x4_1).toNat * 4)).block,(ad113.add ((x4_1).toNat * 4)).off+2,none⟩=some (.string ((rd_TDoc l0_3 x4_1).f2))∧w'.cell? ⟨(ad113.add ((x4_1).toNat * 4)).block,(ad113.add ((x4_1).toNat * 4)).off+3,none⟩=some (.slice A113_3 ((rd_TDoc l0_3 x4_1).f3).length c113_3)) (ds:=[11]) #[false,false,false,false,false,false,false,false,false,false,false,false] (by kernel_rfl) rfl rfl ⟨(blk_cell BK112.out 0).trans rfl,(blk_cell BK112.out 1).trans rfl,(blk_cell BK112.out 2).trans rfl,(blk_cell BK112.out 3).trans rfl,(blk_cell BK110.out 0).trans rfl,(blk_cell BK110.out 1).trans rfl,(blk_cell BK110.out 2).trans rfl,(blk_cell BK110.out 3).trans rfl,((HB.out.cell (World.block_lt_of_cell? w _ hw113_0)).trans hw113_0),((HB.out.cell (World.block_lt_of_cell? w _ hw113_1)).trans hw113_1),((HB.out.cell (World.block_lt_of_cell? w _ hw113_2)).trans hw113_2),((HB.out.cell (World.block_lt_of_cell? w _ hw113_3)).trans hw113_3)⟩ (fun hHeld=>?_);refine with_tabW spec_l1Copy.tab5 spec_l1Copy.bits5 (fun HT_ HW_=>?_)
      generalize wr.drew=w17 at HO_113003 BK110 BK111 BK112 HB HR113_3 hx113_0 hx113_1 hx113_2 hx113_3 hHeld ⊢
      refine pure_ (i:=0) (N:=some 19) (v:=?_) (a':=?_) #[true,false,false,false,false,false,false,false,false,false,false,false] rfl rfl (any_of HT_.out (by kernel_rfl)) (fun _ _ _ h=>h) (Or.inl ⟨by rfl,?_⟩) ?_ ?_
      rotate_left
      ·intro w'
       go_simp
       with_reducible rfl
      rotate_left
      ·simp only [Act.put,List.setIfInBounds_toArray,List.set_cons_zero,List.set_cons_succ,i64_w,i32_w]
       rfl
      refine pure_ (i:=2) (N:=some 21) (v:=?_) (a':=?_) #[true,false,true,false,false,false,false,false,false,false,false,false] rfl rfl (any_of HT_.out (by kernel_rfl)) (fun _ _ _ h=>h) (Or.inl ⟨by rfl,?_⟩) ?_ ?_
      rotate_left
      ·intro w'
       go_simp
       with_reducible rfl
      rotate_left
      ·simp only [Act.put,List.setIfInBounds_toArray,List.set_cons_zero,List.set_cons_succ,i64_w,i32_w]
       rfl
      refine pure_ (i:=4) (N:=some 23) (v:=?_) (a':=?_) #[true,false,true,false,true,false,false,false,false,false,false,false] rfl rfl (any_of HT_.out (by kernel_rfl)) (fun _ _ _ h=>h) (Or.inl ⟨by rfl,?_⟩) ?_ ?_
      rotate_left
      ·intro w'
       go_simp
       with_reducible rfl
      rotate_left
      ·simp only [Act.put,List.setIfInBounds_toArray,List.set_cons_zero,List.set_cons_succ,i64_w,i32_w]
       rfl
      refine take_ (i:=1) (N:=some 20) (v:=?_) (a':=?_) #[true,true,true,false,true,false,false,false,false,false,false,false] rfl rfl (take_ofW HT_.out HW_.out (by kernel_rfl)) (fun _ _ _ h=>h) (Or.inl ⟨by rfl,?_⟩) hHeld ?_ ?_
      rotate_left
      ·rintro w' ⟨s0,s1,s2,s3,s4,s5,s6,s7,s8,s9,s10,s11⟩
       go_simp
       with_reducible rfl
      rotate_left
      ·simp only [Act.put,List.setIfInBounds_toArray,List.set_cons_zero,List.set_cons_succ,i64_w,i32_w]
       rfl
      refine take_ (i:=3) (N:=some 22) (v:=?_) (a':=?_) #[true,true,true,true,true,false,false,false,false,false,false,false] rfl rfl (take_ofW HT_.out HW_.out (by kernel_rfl)) (fun _ _ _ h=>h) (Or.inl ⟨by rfl,?_⟩) hHeld ?_ ?_
      rotate_left
      ·rintro w' ⟨s0,s1,s2,s3,s4,s5,s6,s7,s8,s9,s10,s11⟩
       go_simp
       with_reducible rfl
      rotate_left
      ·simp only [Act.put,List.setIfInBounds_toArray,List.set_cons_zero,List.set_cons_succ,i64_w,i32_w]
       rfl
      refine pure_ (i:=5) (N:=some 24) (v:=?_) (a':=?_) #[true,true,true,true,true,true,false,false,false,false,false,false] rfl rfl (any_of HT_.out (by kernel_rfl)) (fun _ _ _ h=>h) (Or.inl ⟨by rfl,?_⟩) ?_ ?_
      rotate_left
      ·intro w'
       go_simp
       with_reducible rfl
      rotate_left
      ·simp only [Act.put,List.setIfInBounds_toArray,List.set_cons_zero,List.set_cons_succ,i64_w,i32_w]
       rfl
      refine take_ (i:=6) (N:=some 25) (v:=?_) (a':=?_) #[true,true,true,true,true,true,true,false,false,false,false,false] rfl rfl (take_ofW HT_.out HW_.out (by kernel_rfl)) (fun _ _ _ h=>h) (Or.inl ⟨by rfl,?_⟩) hHeld ?_ ?_
      rotate_left
      ·rintro w' ⟨s0,s1,s2,s3,s4,s5,s6,s7,s8,s9,s10,s11⟩
       go_simp
       with_reducible rfl
      rotate_left
      ·simp only [Act.put,List.setIfInBounds_toArray,List.set_cons_zero,List.set_cons_succ,i64_w,i32_w]
       rfl
      refine one_ (i:=7) (N:=some 26) #[true,true,true,true,true,true,true,true,false,false,false,false] rfl rfl (one_of HT_.out (by kernel_rfl)) (by decide) (fun K hK=>?_)
      refine goes_ Try.func59 (by kernel_rfl) rfl #[.agg #[.int .i64 ((rd_TDoc l0_3 x4_1).f0),.int .i64 ((rd_TDoc l0_3 x4_1).f1),.string ((rd_TDoc l0_3 x4_1).f2),.slice A113_3 ((rd_TDoc l0_3 x4_1).f3).length c113_3]] (by rfl) rfl rfl (by (try simp only [List.map_toArray,List.map_cons,List.map_nil]);first|done|rfl|(simp only [List.length_drop,List.length_take];rfl)) ?_
      with_reducible refine (ih k1 (by have:=HK1.out;omega) ((rd_TDoc l0_3 x4_1).f0) ((rd_TDoc l0_3 x4_1).f1) ((rd_TDoc l0_3 x4_1).f2) _ _ ((rd_TDoc l0_3 x4_1).f3) t114 t115 t116 t117 _ ?side1 ?side2 A12.out).mono ?_
      (case side1=>repeat (first|exact (Kd.C_below HR113_3.out HB.out)|(with_reducible refine Kd.C_alloc ?_ _)|(with_reducible refine Kd.C_drewN ?_ _)|(with_reducible refine Kd.C_drew ?_)))
      (case side2=>exact HC113_3.out)
      rintro e w18 ⟨v118,rfl,ho0,hb⟩
      refine ⟨_,rfl,?_⟩
      have n0_:=Aside0.mk (Kd.R_elder' (by (with_reducible repeat (first|apply Kd.R_alloc|apply Kd.R_drewN|apply Kd.R_drew));exact HO_113003.out) (Kd.R_base ho0) hb)
      have n1_:=Aside0.mk (Kd.R_lower (Kd.R_newB (Kd.R_newB (Kd.R_newB (Kd.R_new' ho0 (Kd.R_lt (by (with_reducible repeat (first|apply Kd.R_alloc|apply Kd.R_drewN|apply Kd.R_drew));exact HO_113003.out))) (g:=gb110) (o:=.cells #[.int .i64 a0_0,.int .i64 a0_1,.string a0_2,.slice (some ad113) l0_3.length c0_3] 27 (0,0)) (by (with_reducible repeat (first|refine blk_drewN ?_ _|refine blk_drew ?_|refine blk_alloc ?_ _));exact BK110.out)) (g:=gb111) (o:=.cells #[.int .i64 0,.int .i64 0,.string (⟨#[]⟩:ByteArray),.slice none 0 0] 27 (0,0)) (by (with_reducible repeat (first|refine blk_drewN ?_ _|refine blk_drew ?_|refine blk_alloc ?_ _));exact BK111.out)) (g:=gb112) (o:=.cells #[.int .i64 a0_0,.int .i64 a0_1,.string a0_2,u113003] 27 (0,0)) (by (with_reducible repeat (first|refine blk_drewN ?_ _|refine blk_drew ?_|refine blk_alloc ?_ _));exact BK112.out)) (below_size (by repeat (first|(with_reducible first|exact HB.out|apply below_alloc|apply pw_below_drewN|apply below_drew1|refine below_set ?_ GE110.out|refine below_set ?_ GE111.out|refine below_set ?_ GE112.out)|exact HB.out))))
      have n2_:=Aside0.mk (blk_below (g:=gb110) (o:=.cells #[.int .i64 a0_0,.int .i64 a0_1,.string a0_2,.slice (some ad113) l0_3.length c0_3] 27 (0,0)) (by (with_reducible repeat (first|refine blk_drewN ?_ _|refine blk_drew ?_|refine blk_alloc ?_ _));exact BK110.out) hb)
      have n3_:=Aside0.mk (blk_below (g:=gb111) (o:=.cells #[.int .i64 0,.int .i64 0,.string (⟨#[]⟩:ByteArray),.slice none 0 0] 27 (0,0)) (by (with_reducible repeat (first|refine blk_drewN ?_ _|refine blk_drew ?_|refine blk_alloc ?_ _));exact BK111.out) hb)
      have n4_:=Aside0.mk (blk_below (g:=gb112) (o:=.cells #[.int .i64 a0_0,.int .i64 a0_1,.string a0_2,u113003] 27 (0,0)) (by (with_reducible repeat (first|refine blk_drewN ?_ _|refine blk_drew ?_|refine blk_alloc ?_ _));exact BK112.out) hb)
      have n5_:=Aside0.mk (below_step (by repeat (first|(with_reducible first|exact HB.out|apply below_alloc|apply pw_below_drewN|apply below_drew1|refine below_set ?_ GE110.out|refine below_set ?_ GE111.out|refine below_set ?_ GE112.out)|exact HB.out)) hb)
      clear HO_113003
      clear BK110
      clear BK111
      clear BK112
      clear HB
      have HO_113003:=n0_
      have HO119:=n1_
      have BK110:=n2_
      have BK111:=n3_
      have BK112:=n4_
      have HB:=n5_
      clear n0_ n1_ n2_ n3_ n4_ n5_
      (try clear hb)
      (try clear hb2)
      (try clear hk)
      (try clear hi)
      (try clear ho0)
      obtain ⟨Ao20,co20,eo20⟩:=Kd.R_slice HO119.out
      (first|subst eo20|(injection eo20 with f1_ f2_ f3_;have f4_:=f1_.symm;have f5_:=f3_.symm;clear f1_ f2_ f3_;subst f4_;subst f5_))
      refine hK.out _ _ ⟨(blk_cell BK112.out 0).trans rfl,(blk_cell BK112.out 1).trans rfl,(blk_cell BK112.out 2).trans rfl,(blk_cell BK112.out 3).trans rfl,(blk_cell BK110.out 0).trans rfl,(blk_cell BK110.out 1).trans rfl,(blk_cell BK110.out 2).trans rfl,(blk_cell BK110.out 3).trans rfl,((HB.out.cell (World.block_lt_of_cell? w _ hw113_0)).trans hw113_0),((HB.out.cell (World.block_lt_of_cell? w _ hw113_1)).trans hw113_1),((HB.out.cell (World.block_lt_of_cell? w _ hw113_2)).trans hw113_2),((HB.out.cell (World.block_lt_of_cell? w _ hw113_3)).trans hw113_3)⟩ (fun hHeld=>?_)
      clear hK K
      refine norm_ (a':=?_) ?_ ?_
      rotate_left
      ·show Act.put _ (some 26) _=_
       simp only [Act.put,List.setIfInBounds_toArray,List.set_cons_zero,List.set_cons_succ,i64_w,i32_w]
       rfl
      refine one_ (i:=8) (N:=some 27) #[true,true,true,true,true,true,true,true,true,false,false,false] rfl rfl (one_of HT_.out (by kernel_rfl)) (by decide) (fun K hK=>?_)
      refine value_ (w1:=?_) (v:=?_) (by rfl) rfl ?_ ?_
      rotate_left 2
      ·go_simp
       constructor
       ·rfl
       ·rfl
      refine hK.out _ _ ⟨(blk_cell (blk_alloc BK112.out _) 0).trans rfl,(blk_cell (blk_alloc BK112.out _) 1).trans rfl,(blk_cell (blk_alloc BK112.out _) 2).trans rfl,(blk_cell (blk_alloc BK112.out _) 3).trans rfl,(blk_cell (blk_alloc BK110.out _) 0).trans rfl,(blk_cell (blk_alloc BK110.out _) 1).trans rfl,(blk_cell (blk_alloc BK110.out _) 2).trans rfl,(blk_cell (blk_alloc BK110.out _) 3).trans rfl,(World.cell?_alloc_lt _ _ _ (World.block_lt_of_cell? _ _ (((HB.out.cell (World.block_lt_of_cell? w _ hw113_0)).trans hw113_0)))).trans (((HB.out.cell (World.block_lt_of_cell? w _ hw113_0)).trans hw113_0)),(World.cell?_alloc_lt _ _ _ (World.block_lt_of_cell? _ _ (((HB.out.cell (World.block_lt_of_cell? w _ hw113_1)).trans hw113_1)))).trans (((HB.out.cell (World.block_lt_of_cell? w _ hw113_1)).trans hw113_1)),(World.cell?_alloc_lt _ _ _ (World.block_lt_of_cell? _ _ (((HB.out.cell (World.block_lt_of_cell? w _ hw113_2)).trans hw113_2)))).trans (((HB.out.cell (World.block_lt_of_cell? w _ hw113_2)).trans hw113_2)),(World.cell?_alloc_lt _ _ _ (World.block_lt_of_cell? _ _ (((HB.out.cell (World.block_lt_of_cell? w _ hw113_3)).trans hw113_3)))).trans (((HB.out.cell (World.block_lt_of_cell? w _ hw113_3)).trans hw113_3))⟩ (fun hHeld=>?_)
      clear hK K
      refine norm_ (a':=?_) ?_ ?_
      rotate_left
      ·show Act.put _ (some 27) _=_
       simp only [Act.put,List.setIfInBounds_toArray,List.set_cons_zero,List.set_cons_succ,i64_w,i32_w]
       rfl
      refine one_ (i:=9) (N:=some 28) #[true,true,true,true,true,true,true,true,true,true,false,false] rfl rfl (one_of HT_.out (by kernel_rfl)) (by decide) (fun K hK=>?_)
      refine Kd.R_append_step k27 (w0:=w) w.heap.size (by rfl) (.tmp 20) (.tmp 27) 25 27 (.agg #[(.int .i64 0),(.int .i64 0),(.string ⟨#[]⟩),(.slice none 0 0)]) 56 rfl Try.underlying25 info27 rfl (by decide) (by omega) u113003 x113003_1 (⟨t114,t115,t116,t117⟩:SDoc) [.int .i64 t114,.int .i64 t115,.string t116,.slice Ao20 t117.length co20] (fun k_=>k_≠gb110∧k_≠gb111∧k_≠gb112) (fun k_=>((fun k_=>k_≠gb110∧k_≠gb111∧k_≠gb112)) k_∧some k_≠(u113003:Value).ownBlock) rfl rfl ?aP (fun _ hk=>hk) ?aF ?aO ?aB ?aS ?aL ?_
      (case aP=>exact k27_mkM _ _ _ (⟨t114,t115,t116,t117⟩:SDoc) (Kd.R_mono (HO119.out) (fun k_ hk=>⟨⟨hk.1.1.2,⟨hk.1.2,hk.2⟩⟩,hk.1.1.1.2⟩)))
      (case aB=>exact (by repeat (first|(with_reducible first|exact HB.out|apply below_alloc|apply pw_below_drewN|apply below_drew1|refine below_set ?_ GE110.out|refine below_set ?_ GE111.out|refine below_set ?_ GE112.out)|exact HB.out)))
      (case aF=>exact (fun k_ hk=>⟨Kd.freshB (g:=gb110) (o:=.cells #[.int .i64 a0_0,.int .i64 a0_1,.string a0_2,.slice (some ad113) l0_3.length c0_3] 27 (0,0)) (by (with_reducible repeat (first|refine blk_drewN ?_ _|refine blk_drew ?_|refine blk_alloc ?_ _));exact BK110.out) k_ hk,Kd.freshB (g:=gb111) (o:=.cells #[.int .i64 0,.int .i64 0,.string (⟨#[]⟩:ByteArray),.slice none 0 0] 27 (0,0)) (by (with_reducible repeat (first|refine blk_drewN ?_ _|refine blk_drew ?_|refine blk_alloc ?_ _));exact BK111.out) k_ hk,Kd.freshB (g:=gb112) (o:=.cells #[.int .i64 a0_0,.int .i64 a0_1,.string a0_2,u113003] 27 (0,0)) (by (with_reducible repeat (first|refine blk_drewN ?_ _|refine blk_drew ?_|refine blk_alloc ?_ _));exact BK112.out) k_ hk⟩))
      (case aO=>exact (by (with_reducible repeat (first|apply Kd.R_alloc|apply Kd.R_drewN|apply Kd.R_drew));exact Kd.R_mono HO_113003.out (fun _ hk=>⟨hk.1.1,⟨hk.1.2.1,hk.1.2.2⟩⟩)))
      (case aS=>exact (below_size (by repeat (first|(with_reducible first|exact HB.out|apply below_alloc|apply pw_below_drewN|apply below_drew1|refine below_set ?_ GE110.out|refine below_set ?_ GE111.out|refine below_set ?_ GE112.out)|exact HB.out))))
      (case aL=>have:=LMc13.out;omega)
      intro v121 w19 ho hb hg hat
      rw [← Ny120.out] at ho
      have n0_:=Aside0.mk (blk_grown (g:=gb110) (o:=.cells #[.int .i64 a0_0,.int .i64 a0_1,.string a0_2,.slice (some ad113) l0_3.length c0_3] 27 (0,0)) (by (with_reducible repeat (first|refine blk_drewN ?_ _|refine blk_drew ?_|refine blk_alloc ?_ _));exact BK110.out) hg (Kd.R_away HO_113003.out (fun _ hk=>hk.1.1)))
      have n1_:=Aside0.mk (blk_grown (g:=gb111) (o:=.cells #[.int .i64 0,.int .i64 0,.string (⟨#[]⟩:ByteArray),.slice none 0 0] 27 (0,0)) (by (with_reducible repeat (first|refine blk_drewN ?_ _|refine blk_drew ?_|refine blk_alloc ?_ _));exact BK111.out) hg (Kd.R_away HO_113003.out (fun _ hk=>hk.1.2.1)))
      have n2_:=Aside0.mk (blk_grown (g:=gb112) (o:=.cells #[.int .i64 a0_0,.int .i64 a0_1,.string a0_2,u113003] 27 (0,0)) (by (with_reducible repeat (first|refine blk_drewN ?_ _|refine blk_drew ?_|refine blk_alloc ?_ _));exact BK112.out) hg (Kd.R_away HO_113003.out (fun _ hk=>hk.1.2.2)))
      have n3_:=Aside0.mk (hb)
      have n4_:=Aside0.mk (ho)
      clear BK110
      clear BK111
      clear BK112
      clear HB
      clear HO_113003
      clear HO119
      have BK110:=n0_
      have BK111:=n1_
      have BK112:=n2_
      have HB:=n3_
      have HO122:=n4_
      clear n0_ n1_ n2_ n3_ n4_
      clear ho hb hg hat
      obtain ⟨Ao21,co21,eo21⟩:=Kd.R_slice HO122.out
      (first|subst eo21|(injection eo21 with f1_ f2_ f3_;have f4_:=f1_.symm;have f5_:=f3_.symm;clear f1_ f2_ f3_;subst f4_;subst f5_))
      refine hK.out _ _ ⟨(blk_cell BK112.out 0).trans rfl,(blk_cell BK112.out 1).trans rfl,(blk_cell BK112.out 2).trans rfl,(blk_cell BK112.out 3).trans rfl,(blk_cell BK110.out 0).trans rfl,(blk_cell BK110.out 1).trans rfl,(blk_cell BK110.out 2).trans rfl,(blk_cell BK110.out 3).trans rfl,((HB.out.cell (World.block_lt_of_cell? w _ hw113_0)).trans hw113_0),((HB.out.cell (World.block_lt_of_cell? w _ hw113_1)).trans hw113_1),((HB.out.cell (World.block_lt_of_cell? w _ hw113_2)).trans hw113_2),((HB.out.cell (World.block_lt_of_cell? w _ hw113_3)).trans hw113_3)⟩ (fun hHeld=>?_)
      clear hK K
      refine norm_ (a':=?_) ?_ ?_
      rotate_left
      ·show Act.put _ (some 28) _=_
       simp only [Act.put,List.setIfInBounds_toArray,List.set_cons_zero,List.set_cons_succ,i64_w,i32_w]
       rfl
      refine pure_ (i:=10) (N:=some 29) (v:=?_) (a':=?_) #[true,true,true,true,true,true,true,true,true,true,true,false] rfl rfl (any_of HT_.out (by kernel_rfl)) (fun _ _ _ h=>h) (Or.inl ⟨by rfl,?_⟩) ?_ ?_
      rotate_left
      ·intro w'
       go_simp
       with_reducible rfl
      rotate_left
      ·simp only [Act.put,List.setIfInBounds_toArray,List.set_cons_zero,List.set_cons_succ,i64_w,i32_w]
       rfl
      refine last_ (i:=11) (N:=none) #[true,true,true,true,true,true,true,true,true,true,true,true] rfl rfl (one_of HT_.out (by kernel_rfl)) (by decide) (fun K hK=>?_)
      have hs22:w19.cell? ⟨gb112,3,none⟩=some (u113003):=(blk_cell BK112.out 3).trans rfl
      have hfs22:=blk_frozen BK112.out 3
      have hns22_0:=NB110_112.out
      have hns22_1:=NB111_112.out
      have hms22_0:=NB112_110.out
      have hms22_1:=NB112_111.out
      refine skip_ (w1:=?_) (by rfl) rfl ?_ ?_
      rotate_left
      ·go_simp
       rfl
      refine hK.out _ _ ?_
      clear hK K
      refine done_ (done_of HT_.out (by kernel_rfl)) ?_
      try go_wp2
      go_roundg k1
      case measure=>have:=HK1.out;omega
      case rel=>exact ⟨(wrap64 (x4_1+1)),(y120),(.slice Ao21 y120.length co21),(by first|rfl|(simp;done)|(simp [*];done)),H',⟨by have:=HK1.out;omega⟩,⟨by (with_reducible repeat (first|apply Kd.R_alloc|apply Kd.R_drewN|apply Kd.R_drew));exact Kd.R_mono (Kd.R_far (p:=⟨gb112,3,none⟩) (Kd.R_mono HO122.out (fun k_ hk=>(⟨hk,hk.2.2⟩:_∧k_≠gb112))) (fun _ hk=>hk.2) (.slice Ao21 y120.length co21)) (fun _ hk=>⟨hk.1.1,⟨hk.1.2.1,hk.1.2.2⟩⟩)⟩,⟨by (with_reducible repeat (first|refine blk_drewN ?_ _|refine blk_drew ?_|refine blk_alloc ?_ _));refine blk_far ?_ NB110_112.out _;(with_reducible repeat (first|refine blk_drewN ?_ _|refine blk_drew ?_|refine blk_alloc ?_ _));exact BK110.out⟩,⟨by (with_reducible repeat (first|refine blk_drewN ?_ _|refine blk_drew ?_|refine blk_alloc ?_ _));refine blk_far ?_ NB111_112.out _;(with_reducible repeat (first|refine blk_drewN ?_ _|refine blk_drew ?_|refine blk_alloc ?_ _));exact BK111.out⟩,⟨by (with_reducible repeat (first|refine blk_drewN ?_ _|refine blk_drew ?_|refine blk_alloc ?_ _));refine blk_put (cs:=#[.int .i64 a0_0,.int .i64 a0_1,.string a0_2,u113003]) ?_ 3 _ rfl;(with_reducible repeat (first|refine blk_drewN ?_ _|refine blk_drew ?_|refine blk_alloc ?_ _));exact BK112.out⟩,⟨by repeat (first|(with_reducible first|exact HB.out|apply below_alloc|apply pw_below_drewN|apply below_drew1|refine below_set ?_ GE110.out|refine below_set ?_ GE111.out|refine below_set ?_ GE112.out)|exact HB.out)⟩⟩
     ·rw [if_neg c13] at H
      exact absurd H (by simp)
    ·rw [if_neg c11] at H
     exact absurd H (by simp)
   ·rw [if_neg c10] at H
    have c10b0:decide (x4_1<(l0_3.length:Int))=false:=decide_eq_false c10
    clear c10
    simp only [Option.some.injEq,Prod.mk.injEq] at H
    obtain ⟨rfl,rfl,rfl,rfl⟩:=H
    have hnb23:=NB110_111.out
    have hnc23:=NB111_110.out
    have hnb24:=NB110_112.out
    have hnc24:=NB112_110.out
    have hcz25_0:wr.cell? ⟨gb110,0,none⟩=some (.int .i64 a0_0):=(blk_cell BK110.out 0).trans rfl
    have hcz25_1:wr.cell? ⟨gb110,1,none⟩=some (.int .i64 a0_1):=(blk_cell BK110.out 1).trans rfl
    have hcz25_2:wr.cell? ⟨gb110,2,none⟩=some (.string a0_2):=(blk_cell BK110.out 2).trans rfl
    have hcz25_3:wr.cell? ⟨gb110,3,none⟩=some (.slice A0_3 l0_3.length c0_3):=(blk_cell BK110.out 3).trans rfl
    have hfz25_0:=blk_frozen BK110.out 0
    have hfz25_1:=blk_frozen BK110.out 1
    have hfz25_2:=blk_frozen BK110.out 2
    have hfz25_3:=blk_frozen BK110.out 3
    have hnb26:=NB112_111.out
    have hnc26:=NB111_112.out
    have hcz27_0:wr.cell? ⟨gb112,0,none⟩=some (.int .i64 a0_0):=(blk_cell BK112.out 0).trans rfl
    have hcz27_1:wr.cell? ⟨gb112,1,none⟩=some (.int .i64 a0_1):=(blk_cell BK112.out 1).trans rfl
    have hcz27_2:wr.cell? ⟨gb112,2,none⟩=some (.string a0_2):=(blk_cell BK112.out 2).trans rfl
    have hcz27_3:wr.cell? ⟨gb112,3,none⟩=some (u113003):=(blk_cell BK112.out 3).trans rfl
    have hfz27_0:=blk_frozen BK112.out 0
    have hfz27_1:=blk_frozen BK112.out 1
    have hfz27_2:=blk_frozen BK112.out 2
    have hfz27_3:=blk_frozen BK112.out 3
    have hcz28_0:wr.cell? ⟨gb111,0,none⟩=some (.int .i64 0):=(blk_cell BK111.out 0).trans rfl
    have hcz28_1:wr.cell? ⟨gb111,1,none⟩=some (.int .i64 0):=(blk_cell BK111.out 1).trans rfl
    have hcz28_2:wr.cell? ⟨gb111,2,none⟩=some (.string (⟨#[]⟩:ByteArray)):=(blk_cell BK111.out 2).trans rfl
    have hcz28_3:wr.cell? ⟨gb111,3,none⟩=some (.slice none 0 0):=(blk_cell BK111.out 3).trans rfl
    have hfz28_0:=blk_frozen BK111.out 0
    have hfz28_1:=blk_frozen BK111.out 1
    have hfz28_2:=blk_frozen BK111.out 2
    have hfz28_3:=blk_frozen BK111.out 3
    obtain ⟨Ao29,co29,eo29⟩:=Kd.R_slice HO_113003.out
    subst eo29
    go_wp2
    refine bodyPost_ret (results_cell_row rfl _ _ gb111 27 #[.int .i64 a0_0,.int .i64 a0_1,.string a0_2,.slice Ao29 x113003_1.length co29] (0,0) _ rfl (by (with_reducible repeat (first|refine blk_drewN ?_ _|refine blk_drew ?_|refine blk_alloc ?_ _));refine blk_put (cs:=#[.int .i64 a0_0,.int .i64 a0_1,.string a0_2,.slice none 0 0]) ?_ 3 _ rfl;(with_reducible repeat (first|refine blk_drewN ?_ _|refine blk_drew ?_|refine blk_alloc ?_ _));refine blk_put (cs:=#[.int .i64 a0_0,.int .i64 a0_1,.string (⟨#[]⟩:ByteArray),.slice none 0 0]) ?_ 2 _ rfl;(with_reducible repeat (first|refine blk_drewN ?_ _|refine blk_drew ?_|refine blk_alloc ?_ _));refine blk_put (cs:=#[.int .i64 a0_0,.int .i64 0,.string (⟨#[]⟩:ByteArray),.slice none 0 0]) ?_ 1 _ rfl;(with_reducible repeat (first|refine blk_drewN ?_ _|refine blk_drew ?_|refine blk_alloc ?_ _));refine blk_put (cs:=#[.int .i64 0,.int .i64 0,.string (⟨#[]⟩:ByteArray),.slice none 0 0]) ?_ 0 _ rfl;(with_reducible repeat (first|refine blk_drewN ?_ _|refine blk_drew ?_|refine blk_alloc ?_ _));exact BK111.out) Try.underlying27 rfl (by kernel_rfl)) rfl ?_
    exact ⟨_,by first|rfl|(simp [errW_none,errW_some] <;> rfl)|(simp [*,errW_none,errW_some] <;> rfl),by (with_reducible repeat (first|apply Kd.R_alloc|apply Kd.R_drewN|apply Kd.R_drew));exact Kd.R_mono (Kd.R_far (p:=⟨gb111,3,none⟩) (Kd.R_far (p:=⟨gb111,2,none⟩) (Kd.R_far (p:=⟨gb111,1,none⟩) (Kd.R_far (p:=⟨gb111,0,none⟩) (Kd.R_mono HO_113003.out (fun k_ hk=>(⟨hk,hk.2.1⟩:_∧k_≠gb111))) (fun _ hk=>hk.2) (.int .i64 a0_0)) (fun _ hk=>hk.2) (.int .i64 a0_1)) (fun _ hk=>hk.2) (.string a0_2)) (fun _ hk=>hk.2) (.slice Ao29 x113003_1.length co29)) (fun _ hk=>trivial),by repeat (first|(with_reducible first|exact HB.out|apply below_alloc|apply pw_below_drewN|apply below_drew1|refine below_set ?_ GE110.out|refine below_set ?_ GE111.out|refine below_set ?_ GE112.out)|exact HB.out)⟩
end Go.Proofs.Ytdhdfmmefghijaa.P
namespace Go.Proofs.Ytdhdfmmefghijaa.P
open Go.RowKit Go.Proofs.YtdhdfmmefghijaaW.PrintWords Go.Proofs.YtdhdfmmefghijaaW.PrintLast Go.Proofs.YtdhdfmmefghijaaW.PrintMore
attribute [local go_sem] max2_int min2_int max_two min_two max_three min_three max_four min_four
set_option linter.unusedVariables false
set_option linter.unusedSimpArgs false
def spec_l15Rd_of.f (k:Nat) (s0_0:List Int) (s0_1:Int) (l1:List ByteArray):Option (ByteArray×Int):=(spec_l15Rd_pick.f k s0_0 s0_1 (l1.length:Int)).bind fun bt123=>(if 0≤bt123.1 then (if bt123.1<(l1.length:Int) then (some (rdOf ByteArray.empty l1 bt123.1,bt123.2)) else (none)) else (none))
set_option maxHeartbeats 8000000 in
set_option maxRecDepth 100000 in
theorem spec_l15Rd_of.calls (k:Nat) (g:Nat) (s0_0:List Int) (s0_1:Int) (A1:Option Addr) (c1:Nat) (l1:List ByteArray) (r1:ByteArray) (r2:Int) (w0 w:World) (hI:IsS66 w0 w g s0_0 s0_1) (hB:Below w0.heap.size w0 w) (hr1:Kd.C Kd.string w A1 l1.length l1) (hc1:l1.length≤c1) (hf1:∀ ad,A1=some ad→0<l1.length→ad.block≠g) (h:spec_l15Rd_of.f k s0_0 s0_1 l1=some (r1,r2)) :
  Calls Try.prog 65 #[.pointer (some ⟨g,0,none⟩),.slice A1 l1.length c1] w fun e w'=>e=.returned (.string r1)∧IsS66 w0 w' g s0_0 r2∧Below w0.heap.size w0 w'∧KeepBut w w' g none:=by
 have HR1:=Aside0.mk hr1
 have HC1:=Aside0.mk hc1
 clear hr1 hc1
 have HI0:=Aside0.mk hI
 have HK:=Aside0.mk (KeepBut.refl w g none)
 have HL:=Aside0.mk hB.size
 clear hI
 have HW0:=Aside0.mk hB.size
 have HB:=Aside0.mk hB
 clear hB
 have H:((spec_l15Rd_pick.f k s0_0 s0_1 (l1.length:Int)).bind fun bt123=>(if 0≤bt123.1 then (if bt123.1<(l1.length:Int) then (some (rdOf ByteArray.empty l1 bt123.1,bt123.2)) else (none)) else (none)))=some (r1,r2):=h
 clear h
 replace H:=Option.bind_eq_some_iff.mp H
 obtain ⟨⟨t123,t124⟩,A30,H⟩:=H
 replace H:(if 0≤t123 then (if t123<(l1.length:Int) then (some (rdOf ByteArray.empty l1 t123,t124)) else (none)) else (none))=some (r1,r2):=H
 have A3:=Aside0.mk A30
 clear A30
 by_cases c4:0≤t123
 ·rw [if_pos c4] at H
  have c4b0:decide (0≤t123)=true:=decide_eq_true c4
  clear c4
  by_cases c5:t123<(l1.length:Int)
  ·rw [if_pos c5] at H
   have c5b0:decide (t123<(l1.length:Int))=true:=decide_eq_true c5
   clear c5
   simp only [Option.some.injEq,Prod.mk.injEq] at H
   obtain ⟨rfl,rfl⟩:=H
   go_enter Try.func65,Try.ntmps65
   go_wp2_with (first|((with_reducible refine gate_callee (f:=55) rfl ?_);refine goesL_ (some 9) rfl rfl Try.func55 (by kernel_rfl) rfl #[.pointer (some ⟨g,0,none⟩),.int .i64 (l1.length:Int)] rfl (by (try simp only [List.map_toArray,List.map_cons,List.map_nil]);first|done|rfl|(simp only [List.length_drop,List.length_take];rfl)) ?_;(with_reducible refine (spec_l15Rd_pick.calls k g s0_0 s0_1 (l1.length:Int) t123 t124 w0 _ ?side1 ?side2 A3.out).mono ?_);(case side1=>repeat (first|(with_reducible first|exact HI0.out|apply IsS66.alloc|apply IsS66.drewN|apply IsS66.drew|apply IsS66.set_1)|exact HI0.out));(case side2=>repeat (first|(with_reducible first|exact HB.out|apply below_alloc|apply pw_below_drewN|apply below_drew1|refine below_set ?_ (IsS66.ge HI0.out))|exact HB.out));rintro e w6 ⟨rfl,hi,hb,hk⟩;refine ⟨_,rfl,?_⟩;have n0_:=Aside0.mk (KeepBut.trans (by repeat (first|(with_reducible first|exact HK.out|apply KeepBut.set_|apply keep_drewN|apply keep_drew|apply keep_alloc)|exact HK.out)) hk (.inl rfl));have n1_:=Aside0.mk (hb);have n2_:=Aside0.mk (hi);clear HK;clear HB;clear HI0;have HK:=n0_;have HB:=n1_;have HI0:=n2_;clear n0_ n1_ n2_;(try clear hb);(try clear hb2);(try clear hk);(try clear hi);have p125:0≤(t123:Int):=of_decide_eq_true (by first|(with_reducible assumption)|assumption);have q125:t123<(l1.length:Int):=of_decide_eq_true (by first|(with_reducible assumption)|assumption);obtain ⟨ad125,e125,hx125_0⟩:=Kd.at_string HR1.out t123 p125 q125;cases e125;replace hx125_0:=keep_cell HK.out hx125_0 (by first|(rw [add_block];exact hf1 _ rfl (by omega))|exact hf1 _ rfl (by omega)|exact hf1 ad125 rfl (by omega));replace p125:=eq_true p125;replace q125:=eq_true q125))
   go_ret
   exact ⟨by first|rfl|(simp [errW_none,errW_some] <;> rfl)|(simp [*,errW_none,errW_some] <;> rfl),by repeat (first|(with_reducible first|exact HI0.out|apply IsS66.alloc|apply IsS66.drewN|apply IsS66.drew|apply IsS66.set_1)|exact HI0.out),by repeat (first|(with_reducible first|exact HB.out|apply below_alloc|apply pw_below_drewN|apply below_drew1|refine below_set ?_ (IsS66.ge HI0.out))|exact HB.out),by repeat (first|(with_reducible first|exact HK.out|apply KeepBut.set_|apply keep_drewN|apply keep_drew|apply keep_alloc)|exact HK.out)⟩
  ·rw [if_neg c5] at H
   exact absurd H (by simp)
 ·rw [if_neg c4] at H
  exact absurd H (by simp)
end Go.Proofs.Ytdhdfmmefghijaa.P
namespace Go.Proofs.Ytdhdfmmefghijaa.P
open Go.RowKit Go.Proofs.YtdhdfmmefghijaaW.PrintWords Go.Proofs.YtdhdfmmefghijaaW.PrintLast Go.Proofs.YtdhdfmmefghijaaW.PrintMore
attribute [local go_sem] max2_int min2_int max_two min_two max_three min_three max_four min_four
set_option linter.unusedVariables false
set_option linter.unusedSimpArgs false
mutual
def spec_l1Mutate.j0:Nat→Bool→List Int→Int→Int→Int→ByteArray→List (SDoc)→Option (Int×Int×ByteArray×(List (SDoc))×Int)
 | 0,_,_,_,_,_,_,_=>none
 | k+1,x17,x1000,x1001,x135000,x135001,x135002,x135003=>if x17=true then ((spec_l15Rd_pick.f k x1000 x1001 (x135003.length:Int)).bind fun bt137=>(if 0≤bt137.1 then (if bt137.1<(x135003.length:Int) then ((spec_l1Mutate.f k x1000 bt137.2 ((rd_TDoc x135003 bt137.1).f0) ((rd_TDoc x135003 bt137.1).f1) ((rd_TDoc x135003 bt137.1).f2) ((rd_TDoc x135003 bt137.1).f3)).bind fun bt140=>(some (x135000,x135001,x135002,(x135003.set (bt137.1:Int).toNat (⟨bt140.1,bt140.2.1,bt140.2.2.1,bt140.2.2.2.1⟩:SDoc)),bt140.2.2.2.2))) else (none)) else (none))) else ((spec_l15Rd_pick.f k x1000 x1001 14).bind fun bt148=>(if bt148.1=0 then ((spec_l15Rd_num.f k x1000 bt148.2 (([0,9,1,3,7]:List Int))).bind fun bt153=>(some (bt153.1,x135001,x135002,x135003,bt153.2))) else (if bt148.1=1 then ((spec_l15Rd_num.f k x1000 bt148.2 (([10,(-1),1]:List Int))).bind fun bt158=>(some (x135000,bt158.1,x135002,x135003,bt158.2))) else (if bt148.1=2 then ((spec_l15Rd_of.f k x1000 bt148.2 (([(⟨#[]⟩:ByteArray),(⟨#[65]⟩:ByteArray),(⟨#[97,98,99,100,101,102,103,104,105,106,107,108,109]⟩:ByteArray),(⟨#[120,32,121]⟩:ByteArray),(⟨#[122]⟩:ByteArray)]:List ByteArray))).bind fun bt163=>(some (x135000,x135001,bt163.1,x135003,bt163.2))) else (if bt148.1=3 then (if x135003.length<2513169434916 then (some (x135000,x135001,x135002,(x135003++[(⟨1,0,(⟨#[]⟩:ByteArray),([]:List (SDoc))⟩:SDoc)]),bt148.2)) else (none)) else (some (x135000,x135001,x135002,x135003,bt148.2)))))))
def spec_l1Mutate.f:Nat→List Int→Int→Int→Int→ByteArray→List (SDoc)→Option (Int×Int×ByteArray×(List (SDoc))×Int)
 | 0,_,_,_,_,_,_=>none
 | k+1,s0_0,s0_1,a1_0,a1_1,a1_2,l1_3=>(spec_l1Copy.f k a1_0 a1_1 a1_2 l1_3).bind fun bt128=>(if (bt128.2.2.2.length:Int)>0 then ((spec_l15Rd_pick.f k s0_0 s0_1 2).bind fun bt135=>(spec_l1Mutate.j0 k (decide (bt135.1>0)) s0_0 bt135.2 bt128.1 bt128.2.1 bt128.2.2.1 bt128.2.2.2)) else (spec_l1Mutate.j0 k false s0_0 s0_1 bt128.1 bt128.2.1 bt128.2.2.1 bt128.2.2.2))
end
def spec_l1Mutate.T4:Bool×List (List Nat×List Nat):=(true,[([],[]),([0],[0]),([],[]),([],[]),([],[]),([4],[4]),([],[]),([5,6],[5,6]),([7],[7]),([3,8],[3,8]),([1,2,0,1,2,3,4,5,6,7,8,9],[1,2]),([10,9,9,0,1,2,3,4,5,6,7,8,9],[9,10])])
def spec_l1Mutate.B4:List Nat:=[0,1,0,0,0,16,0,112,240,504,1023,2047]
theorem spec_l1Mutate.tab4:rtab .any (opsOf Try.f50 4)=spec_l1Mutate.T4:=by kernel_rfl
theorem spec_l1Mutate.bits4:waitsOk spec_l1Mutate.T4.2 spec_l1Mutate.B4=true:=by kernel_rfl
set_option maxHeartbeats 8000000 in
set_option maxRecDepth 100000 in
theorem spec_l1Mutate.calls (k:Nat):∀ (g:Nat) (s0_0:List Int) (s0_1:Int) (a1_0:Int) (a1_1:Int) (a1_2:ByteArray) (A1_3:Option Addr) (c1_3:Nat) (l1_3:List (SDoc)) (r1:Int) (r2:Int) (r3:ByteArray) (r4:List (SDoc)) (r5:Int) (w0 w:World) (hI:IsS66 w0 w g s0_0 s0_1) (hB:Below w0.heap.size w0 w) (hr1_3:∀ W_,KeepBut w W_ g none→Kd.C k27 W_ A1_3 l1_3.length l1_3) (hc1_3:l1_3.length≤c1_3) (h:spec_l1Mutate.f k s0_0 s0_1 a1_0 a1_1 a1_2 l1_3=some (r1,r2,r3,r4,r5)),
  Calls Try.prog 50 #[.pointer (some ⟨g,0,none⟩),.agg #[.int .i64 a1_0,.int .i64 a1_1,.string a1_2,.slice A1_3 l1_3.length c1_3]] w fun e w'=>∃ v3_:Value,e=.returned (.agg #[.int .i64 r1,.int .i64 r2,.string r3,v3_])∧Kd.N k27 27 w' w.heap.size (fun k_=>(w.heap.size≤k_)) v3_ r4∧IsS66 w0 w' g s0_0 r5∧Below w0.heap.size w0 w'∧KeepBut w w' g none:=by
 induction k using Nat.strongRecOn with
 | _ k ih =>
 intro g s0_0 s0_1 a1_0 a1_1 a1_2 A1_3 c1_3 l1_3 r1 r2 r3 r4 r5 w0 w hI hB hr1_3 hc1_3 h
 cases k with
 | zero=>exact absurd h (by simp [spec_l1Mutate.f])
 | succ k =>
 simp only [spec_l1Mutate.f] at h
 have hu27:=Try.underlying27
 have HR1_3:=Aside0.mk hr1_3
 have HC1_3:=Aside0.mk hc1_3
 clear hr1_3 hc1_3
 have HI0:=Aside0.mk hI
 have HK:=Aside0.mk (KeepBut.refl w g none)
 have HL:=Aside0.mk hB.size
 clear hI
 have HW0:=Aside0.mk hB.size
 have HB:=Aside0.mk hB
 clear hB
 have H:((spec_l1Copy.f k a1_0 a1_1 a1_2 l1_3).bind fun bt128=>(if (bt128.2.2.2.length:Int)>0 then ((spec_l15Rd_pick.f k s0_0 s0_1 2).bind fun bt135=>(spec_l1Mutate.j0 k (decide (bt135.1>0)) s0_0 bt135.2 bt128.1 bt128.2.1 bt128.2.2.1 bt128.2.2.2)) else (spec_l1Mutate.j0 k false s0_0 s0_1 bt128.1 bt128.2.1 bt128.2.2.1 bt128.2.2.2)))=some (r1,r2,r3,r4,r5):=h
 clear h
 replace H:=Option.bind_eq_some_iff.mp H
 obtain ⟨⟨t128,t129,t130,t131⟩,A30,H⟩:=H
 replace H:(if (t131.length:Int)>0 then ((spec_l15Rd_pick.f k s0_0 s0_1 2).bind fun bt135=>(spec_l1Mutate.j0 k (decide (bt135.1>0)) s0_0 bt135.2 t128 t129 t130 t131)) else (spec_l1Mutate.j0 k false s0_0 s0_1 t128 t129 t130 t131))=some (r1,r2,r3,r4,r5):=H
 have A3:=Aside0.mk A30
 clear A30
 have HC4:=Aside0.mk H
 clear H
 go_enter Try.func50,Try.ntmps50
 go_upto_region 2 with (first|((with_reducible refine gate_dst (N:=3) rfl ?_);refine box_event ?hg (N:=3) ?hd (cs:=#[.int .i64 a1_0,.int .i64 a1_1,.string a1_2,.slice A1_3 l1_3.length c1_3]) (t:=27) ?hr ?_;(case hd=>rfl);(case hg=>rfl);(case hr=>first|(go_simp;done)|(go_simp;rfl));intro gb126 hg w5 hbox hb;have n0_:=Aside0.mk (IsS66.below (by repeat (first|(with_reducible first|exact HI0.out|apply IsS66.alloc|apply IsS66.drewN|apply IsS66.drew|apply IsS66.set_1)|exact HI0.out)) hb);have n1_:=Aside0.mk (KeepBut.trans (by repeat (first|(with_reducible first|exact HK.out|apply KeepBut.set_|apply keep_drewN|apply keep_drew|apply keep_alloc)|exact HK.out)) (KeepBut.of_below hb g none) (.inl rfl));have n2_:=Aside0.mk (below_step (by repeat (first|(with_reducible first|exact HB.out|apply below_alloc|apply pw_below_drewN|apply below_drew1|refine below_set ?_ (IsS66.ge HI0.out))|exact HB.out)) hb);have n3_:=Aside0.mk (hbox);have n4_:=Aside0.mk ((by rw [hg];exact (keep_size (w:=w) (g:=g) (row:=none) (by repeat (first|(with_reducible first|exact HK.out|apply KeepBut.set_|apply keep_drewN|apply keep_drew|apply keep_alloc)|exact HK.out))):w.heap.size≤gb126));have n5_:=Aside0.mk ((Nat.le_trans HW0.out (by rw [hg];exact (keep_size (w:=w) (g:=g) (row:=none) (by repeat (first|(with_reducible first|exact HK.out|apply KeepBut.set_|apply keep_drewN|apply keep_drew|apply keep_alloc)|exact HK.out))):w.heap.size≤gb126):w0.heap.size≤gb126));have n6_:=Aside0.mk ((by rw [hg];exact Nat.ne_of_lt (IsS66.lt (show IsS66 w0 _ g s0_0 s0_1 from by repeat (first|(with_reducible first|exact HI0.out|apply IsS66.alloc|apply IsS66.drewN|apply IsS66.drew|apply IsS66.set_1)|exact HI0.out))):g≠gb126));have n7_:=Aside0.mk ((by rw [hg];exact Nat.ne_of_gt (IsS66.lt (show IsS66 w0 _ g s0_0 s0_1 from by repeat (first|(with_reducible first|exact HI0.out|apply IsS66.alloc|apply IsS66.drewN|apply IsS66.drew|apply IsS66.set_1)|exact HI0.out))):gb126≠g));clear HI0;clear HK;clear HB;have HI0:=n0_;have HK:=n1_;have HB:=n2_;have BK126:=n3_;have GW126:=n4_;have GE126:=n5_;have NB0_126:=n6_;have NB126_0:=n7_;clear n0_ n1_ n2_ n3_ n4_ n5_ n6_ n7_;clear hb hbox hg)|((with_reducible refine gate_dst (N:=4) rfl ?_);refine box_event ?hg (N:=4) ?hd (cs:=#[.int .i64 0,.int .i64 0,.string (⟨#[]⟩:ByteArray),.slice none 0 0]) (t:=27) ?hr ?_;(case hd=>rfl);(case hg=>rfl);(case hr=>first|(go_simp;done)|(go_simp;rfl));intro gb127 hg w6 hbox hb;have n0_:=Aside0.mk (IsS66.below (by repeat (first|(with_reducible first|exact HI0.out|apply IsS66.alloc|apply IsS66.drewN|apply IsS66.drew|apply IsS66.set_1|refine IsS66.far ?_ NB0_126.out _)|exact HI0.out)) hb);have n1_:=Aside0.mk (blk_below (g:=gb126) (o:=.cells #[.int .i64 a1_0,.int .i64 a1_1,.string a1_2,.slice A1_3 l1_3.length c1_3] 27 (0,0)) (by (with_reducible repeat (first|refine blk_drewN ?_ _|refine blk_drew ?_|refine blk_alloc ?_ _));exact BK126.out) hb);have n2_:=Aside0.mk (KeepBut.trans (by repeat (first|(with_reducible first|exact HK.out|apply KeepBut.set_|apply keep_drewN|apply keep_drew|apply keep_alloc|refine keep_far ?_ GW126.out _)|exact HK.out)) (KeepBut.of_below hb g none) (.inl rfl));have n3_:=Aside0.mk (below_step (by repeat (first|(with_reducible first|exact HB.out|apply below_alloc|apply pw_below_drewN|apply below_drew1|refine below_set ?_ (IsS66.ge HI0.out)|refine below_set ?_ GE126.out)|exact HB.out)) hb);have n4_:=Aside0.mk (hbox);have n5_:=Aside0.mk ((by rw [hg];exact (keep_size (w:=w) (g:=g) (row:=none) (by repeat (first|(with_reducible first|exact HK.out|apply KeepBut.set_|apply keep_drewN|apply keep_drew|apply keep_alloc|refine keep_far ?_ GW126.out _)|exact HK.out))):w.heap.size≤gb127));have n6_:=Aside0.mk ((Nat.le_trans HW0.out (by rw [hg];exact (keep_size (w:=w) (g:=g) (row:=none) (by repeat (first|(with_reducible first|exact HK.out|apply KeepBut.set_|apply keep_drewN|apply keep_drew|apply keep_alloc|refine keep_far ?_ GW126.out _)|exact HK.out))):w.heap.size≤gb127):w0.heap.size≤gb127));have n7_:=Aside0.mk ((by rw [hg];exact Nat.ne_of_lt (blk_lt (g:=gb126) (o:=.cells #[.int .i64 a1_0,.int .i64 a1_1,.string a1_2,.slice A1_3 l1_3.length c1_3] 27 (0,0)) (by (with_reducible repeat (first|refine blk_drewN ?_ _|refine blk_drew ?_|refine blk_alloc ?_ _));exact BK126.out)):gb126≠gb127));have n8_:=Aside0.mk ((by rw [hg];exact Nat.ne_of_gt (blk_lt (g:=gb126) (o:=.cells #[.int .i64 a1_0,.int .i64 a1_1,.string a1_2,.slice A1_3 l1_3.length c1_3] 27 (0,0)) (by (with_reducible repeat (first|refine blk_drewN ?_ _|refine blk_drew ?_|refine blk_alloc ?_ _));exact BK126.out)):gb127≠gb126));have n9_:=Aside0.mk ((by rw [hg];exact Nat.ne_of_lt (IsS66.lt (show IsS66 w0 _ g s0_0 s0_1 from by repeat (first|(with_reducible first|exact HI0.out|apply IsS66.alloc|apply IsS66.drewN|apply IsS66.drew|apply IsS66.set_1|refine IsS66.far ?_ NB0_126.out _)|exact HI0.out))):g≠gb127));have n10_:=Aside0.mk ((by rw [hg];exact Nat.ne_of_gt (IsS66.lt (show IsS66 w0 _ g s0_0 s0_1 from by repeat (first|(with_reducible first|exact HI0.out|apply IsS66.alloc|apply IsS66.drewN|apply IsS66.drew|apply IsS66.set_1|refine IsS66.far ?_ NB0_126.out _)|exact HI0.out))):gb127≠g));clear HI0;clear BK126;clear HK;clear HB;have HI0:=n0_;have BK126:=n1_;have HK:=n2_;have HB:=n3_;have BK127:=n4_;have GW127:=n5_;have GE127:=n6_;have NB126_127:=n7_;have NB127_126:=n8_;have NB0_127:=n9_;have NB127_0:=n10_;clear n0_ n1_ n2_ n3_ n4_ n5_ n6_ n7_ n8_ n9_ n10_;clear hb hbox hg;have hnb7:=NB126_127.out;have hnc7:=NB127_126.out;have hnb8:=NB126_0.out;have hnc8:=NB0_126.out;have hcz9_0:w6.cell? ⟨gb126,0,none⟩=some (.int .i64 a1_0):=(blk_cell BK126.out 0).trans rfl;have hcz9_1:w6.cell? ⟨gb126,1,none⟩=some (.int .i64 a1_1):=(blk_cell BK126.out 1).trans rfl;have hcz9_2:w6.cell? ⟨gb126,2,none⟩=some (.string a1_2):=(blk_cell BK126.out 2).trans rfl;have hcz9_3:w6.cell? ⟨gb126,3,none⟩=some (.slice A1_3 l1_3.length c1_3):=(blk_cell BK126.out 3).trans rfl;have hfz9_0:=blk_frozen BK126.out 0;have hfz9_1:=blk_frozen BK126.out 1;have hfz9_2:=blk_frozen BK126.out 2;have hfz9_3:=blk_frozen BK126.out 3)|((with_reducible refine gate_callee (f:=59) rfl ?_);refine goesL_ (some 8) rfl rfl Try.func59 (by kernel_rfl) rfl #[.agg #[.int .i64 a1_0,.int .i64 a1_1,.string a1_2,.slice A1_3 l1_3.length c1_3]] rfl (by (try simp only [List.map_toArray,List.map_cons,List.map_nil]);first|done|rfl|(simp only [List.length_drop,List.length_take];rfl)) ?_;(with_reducible refine (spec_l1Copy.calls k a1_0 a1_1 a1_2 _ _ l1_3 t128 t129 t130 t131 _ ?side1 ?side2 A3.out).mono ?_);(case side1=>exact Kd.C_foot_now HR1_3.out (by repeat (first|(with_reducible first|exact HK.out|apply KeepBut.set_|apply keep_drewN|apply keep_drew|apply keep_alloc|refine keep_far ?_ GW126.out _|refine keep_far ?_ GW127.out _)|exact HK.out)));(case side2=>exact HC1_3.out);rintro e w10 ⟨v132,rfl,ho0,hb⟩;refine ⟨_,rfl,?_⟩;have n0_:=Aside0.mk (Kd.N_lower (Kd.N_mono (ok':=fun k_=>(w.heap.size≤k_)∧k_≠gb126∧k_≠gb127∧k_≠g) (Kd.R_N (Kd.R_bound ho0)) (fun k_ hk_=>⟨(Nat.le_trans (keep_size (w:=w) (g:=g) (row:=none) (by repeat (first|(with_reducible first|exact HK.out|apply KeepBut.set_|apply keep_drewN|apply keep_drew|apply keep_alloc|refine keep_far ?_ GW126.out _|refine keep_far ?_ GW127.out _)|exact HK.out))) hk_.2.1),(Kd.freshB (g:=gb126) (o:=.cells #[.int .i64 a1_0,.int .i64 a1_1,.string a1_2,.slice A1_3 l1_3.length c1_3] 27 (0,0)) (by (with_reducible repeat (first|refine blk_drewN ?_ _|refine blk_drew ?_|refine blk_alloc ?_ _));exact BK126.out) k_ hk_.2.1),(Kd.freshB (g:=gb127) (o:=.cells #[.int .i64 0,.int .i64 0,.string (⟨#[]⟩:ByteArray),.slice none 0 0] 27 (0,0)) (by (with_reducible repeat (first|refine blk_drewN ?_ _|refine blk_drew ?_|refine blk_alloc ?_ _));exact BK127.out) k_ hk_.2.1),(IsS66.fresh (by repeat (first|(with_reducible first|exact HI0.out|apply IsS66.alloc|apply IsS66.drewN|apply IsS66.drew|apply IsS66.set_1|refine IsS66.far ?_ NB0_126.out _|refine IsS66.far ?_ NB0_127.out _)|exact HI0.out)) k_ hk_.2.1)⟩)) (keep_size (w:=w) (g:=g) (row:=none) (by repeat (first|(with_reducible first|exact HK.out|apply KeepBut.set_|apply keep_drewN|apply keep_drew|apply keep_alloc|refine keep_far ?_ GW126.out _|refine keep_far ?_ GW127.out _)|exact HK.out))));have n1_:=Aside0.mk (IsS66.below (by repeat (first|(with_reducible first|exact HI0.out|apply IsS66.alloc|apply IsS66.drewN|apply IsS66.drew|apply IsS66.set_1|refine IsS66.far ?_ NB0_126.out _|refine IsS66.far ?_ NB0_127.out _)|exact HI0.out)) hb);have n2_:=Aside0.mk (blk_below (g:=gb126) (o:=.cells #[.int .i64 a1_0,.int .i64 a1_1,.string a1_2,.slice A1_3 l1_3.length c1_3] 27 (0,0)) (by (with_reducible repeat (first|refine blk_drewN ?_ _|refine blk_drew ?_|refine blk_alloc ?_ _));exact BK126.out) hb);have n3_:=Aside0.mk (blk_below (g:=gb127) (o:=.cells #[.int .i64 0,.int .i64 0,.string (⟨#[]⟩:ByteArray),.slice none 0 0] 27 (0,0)) (by (with_reducible repeat (first|refine blk_drewN ?_ _|refine blk_drew ?_|refine blk_alloc ?_ _));exact BK127.out) hb);have n4_:=Aside0.mk (KeepBut.trans (by repeat (first|(with_reducible first|exact HK.out|apply KeepBut.set_|apply keep_drewN|apply keep_drew|apply keep_alloc|refine keep_far ?_ GW126.out _|refine keep_far ?_ GW127.out _)|exact HK.out)) (KeepBut.of_below hb g none) (.inl rfl));have n5_:=Aside0.mk (below_step (by repeat (first|(with_reducible first|exact HB.out|apply below_alloc|apply pw_below_drewN|apply below_drew1|refine below_set ?_ (IsS66.ge HI0.out)|refine below_set ?_ GE126.out|refine below_set ?_ GE127.out)|exact HB.out)) hb);clear HI0;clear BK126;clear BK127;clear HK;clear HB;have HO133:=n0_;have HI0:=n1_;have BK126:=n2_;have BK127:=n3_;have HK:=n4_;have HB:=n5_;clear n0_ n1_ n2_ n3_ n4_ n5_;(try clear hb);(try clear hb2);(try clear hk);(try clear hi);(try clear ho0))|((with_reducible refine gate_dst (N:=5) rfl ?_);refine box_event ?hg (N:=5) ?hd (cs:=#[.int .i64 0,.int .i64 0,.string (⟨#[]⟩:ByteArray),.slice none 0 0]) (t:=27) ?hr ?_;(case hd=>rfl);(case hg=>rfl);(case hr=>first|(go_simp;done)|(go_simp;rfl));intro gb134 hg w11 hbox hb;have n0_:=Aside0.mk (Kd.N_below (Kd.N_elderB (by (with_reducible repeat (first|apply Kd.N_alloc|apply Kd.N_drewN|apply Kd.N_drew));exact HO133.out) gb134 (Nat.le_of_eq hg.symm)) hb);have n1_:=Aside0.mk (IsS66.below (by repeat (first|(with_reducible first|exact HI0.out|apply IsS66.alloc|apply IsS66.drewN|apply IsS66.drew|apply IsS66.set_1|refine IsS66.far ?_ NB0_126.out _|refine IsS66.far ?_ NB0_127.out _)|exact HI0.out)) hb);have n2_:=Aside0.mk (blk_below (g:=gb126) (o:=.cells #[.int .i64 a1_0,.int .i64 a1_1,.string a1_2,.slice A1_3 l1_3.length c1_3] 27 (0,0)) (by (with_reducible repeat (first|refine blk_drewN ?_ _|refine blk_drew ?_|refine blk_alloc ?_ _));exact BK126.out) hb);have n3_:=Aside0.mk (blk_below (g:=gb127) (o:=.cells #[.int .i64 0,.int .i64 0,.string (⟨#[]⟩:ByteArray),.slice none 0 0] 27 (0,0)) (by (with_reducible repeat (first|refine blk_drewN ?_ _|refine blk_drew ?_|refine blk_alloc ?_ _));exact BK127.out) hb);have n4_:=Aside0.mk (KeepBut.trans (by repeat (first|(with_reducible first|exact HK.out|apply KeepBut.set_|apply keep_drewN|apply keep_drew|apply keep_alloc|refine keep_far ?_ GW126.out _|refine keep_far ?_ GW127.out _)|exact HK.out)) (KeepBut.of_below hb g none) (.inl rfl));have n5_:=Aside0.mk (below_step (by repeat (first|(with_reducible first|exact HB.out|apply below_alloc|apply pw_below_drewN|apply below_drew1|refine below_set ?_ (IsS66.ge HI0.out)|refine below_set ?_ GE126.out|refine below_set ?_ GE127.out)|exact HB.out)) hb);have n6_:=Aside0.mk (hbox);have n7_:=Aside0.mk ((by rw [hg];exact (keep_size (w:=w) (g:=g) (row:=none) (by repeat (first|(with_reducible first|exact HK.out|apply KeepBut.set_|apply keep_drewN|apply keep_drew|apply keep_alloc|refine keep_far ?_ GW126.out _|refine keep_far ?_ GW127.out _)|exact HK.out))):w.heap.size≤gb134));have n8_:=Aside0.mk ((Nat.le_trans HW0.out (by rw [hg];exact (keep_size (w:=w) (g:=g) (row:=none) (by repeat (first|(with_reducible first|exact HK.out|apply KeepBut.set_|apply keep_drewN|apply keep_drew|apply keep_alloc|refine keep_far ?_ GW126.out _|refine keep_far ?_ GW127.out _)|exact HK.out))):w.heap.size≤gb134):w0.heap.size≤gb134));have n9_:=Aside0.mk ((by rw [hg];exact Nat.ne_of_lt (blk_lt (g:=gb126) (o:=.cells #[.int .i64 a1_0,.int .i64 a1_1,.string a1_2,.slice A1_3 l1_3.length c1_3] 27 (0,0)) (by (with_reducible repeat (first|refine blk_drewN ?_ _|refine blk_drew ?_|refine blk_alloc ?_ _));exact BK126.out)):gb126≠gb134));have n10_:=Aside0.mk ((by rw [hg];exact Nat.ne_of_gt (blk_lt (g:=gb126) (o:=.cells #[.int .i64 a1_0,.int .i64 a1_1,.string a1_2,.slice A1_3 l1_3.length c1_3] 27 (0,0)) (by (with_reducible repeat (first|refine blk_drewN ?_ _|refine blk_drew ?_|refine blk_alloc ?_ _));exact BK126.out)):gb134≠gb126));have n11_:=Aside0.mk ((by rw [hg];exact Nat.ne_of_lt (blk_lt (g:=gb127) (o:=.cells #[.int .i64 0,.int .i64 0,.string (⟨#[]⟩:ByteArray),.slice none 0 0] 27 (0,0)) (by (with_reducible repeat (first|refine blk_drewN ?_ _|refine blk_drew ?_|refine blk_alloc ?_ _));exact BK127.out)):gb127≠gb134));have n12_:=Aside0.mk ((by rw [hg];exact Nat.ne_of_gt (blk_lt (g:=gb127) (o:=.cells #[.int .i64 0,.int .i64 0,.string (⟨#[]⟩:ByteArray),.slice none 0 0] 27 (0,0)) (by (with_reducible repeat (first|refine blk_drewN ?_ _|refine blk_drew ?_|refine blk_alloc ?_ _));exact BK127.out)):gb134≠gb127));have n13_:=Aside0.mk ((by rw [hg];exact Nat.ne_of_lt (IsS66.lt (show IsS66 w0 _ g s0_0 s0_1 from by repeat (first|(with_reducible first|exact HI0.out|apply IsS66.alloc|apply IsS66.drewN|apply IsS66.drew|apply IsS66.set_1|refine IsS66.far ?_ NB0_126.out _|refine IsS66.far ?_ NB0_127.out _)|exact HI0.out))):g≠gb134));have n14_:=Aside0.mk ((by rw [hg];exact Nat.ne_of_gt (IsS66.lt (show IsS66 w0 _ g s0_0 s0_1 from by repeat (first|(with_reducible first|exact HI0.out|apply IsS66.alloc|apply IsS66.drewN|apply IsS66.drew|apply IsS66.set_1|refine IsS66.far ?_ NB0_126.out _|refine IsS66.far ?_ NB0_127.out _)|exact HI0.out))):gb134≠g));clear HO133;clear HI0;clear BK126;clear BK127;clear HK;clear HB;have HO133:=n0_;have HI0:=n1_;have BK126:=n2_;have BK127:=n3_;have HK:=n4_;have HB:=n5_;have BK134:=n6_;have GW134:=n7_;have GE134:=n8_;have NB126_134:=n9_;have NB134_126:=n10_;have NB127_134:=n11_;have NB134_127:=n12_;have NB0_134:=n13_;have NB134_0:=n14_;clear n0_ n1_ n2_ n3_ n4_ n5_ n6_ n7_ n8_ n9_ n10_ n11_ n12_ n13_ n14_;clear hb hbox hg;have hnb12:=NB134_126.out;have hnc12:=NB126_134.out;have hnb13:=NB134_127.out;have hnc13:=NB127_134.out;have hnb14:=NB134_0.out;have hnc14:=NB0_134.out;have hcz15_0:w11.cell? ⟨gb134,0,none⟩=some (.int .i64 0):=(blk_cell BK134.out 0).trans rfl;have hcz15_1:w11.cell? ⟨gb134,1,none⟩=some (.int .i64 0):=(blk_cell BK134.out 1).trans rfl;have hcz15_2:w11.cell? ⟨gb134,2,none⟩=some (.string (⟨#[]⟩:ByteArray)):=(blk_cell BK134.out 2).trans rfl;have hcz15_3:w11.cell? ⟨gb134,3,none⟩=some (.slice none 0 0):=(blk_cell BK134.out 3).trans rfl;have hfz15_0:=blk_frozen BK134.out 0;have hfz15_1:=blk_frozen BK134.out 1;have hfz15_2:=blk_frozen BK134.out 2;have hfz15_3:=blk_frozen BK134.out 3;obtain ⟨Ao16,co16,eo16⟩:=Kd.N_slice HO133.out;subst eo16))
 (try simp only [Act.put,List.setIfInBounds_toArray,List.set_cons_zero,List.set_cons_succ])
 go_cut [17] (fun v17 wc=>∃ (kq:Nat) (x17_3:Bool) (x1001_3:Int),v17=.bool x17_3∧Aside0 (spec_l1Mutate.j0 kq x17_3 s0_0 x1001_3 t128 t129 t130 t131=some (r1,r2,r3,r4,r5))∧Aside0 (kq≤k)∧Aside0 (Kd.N k27 27 wc w.heap.size (fun k_=>(w.heap.size≤k_)∧k_≠gb126∧k_≠gb127∧k_≠gb134∧k_≠g) (.slice Ao16 t131.length co16) t131)∧Aside0 (wc.heap[gb126]?=some (.cells #[.int .i64 a1_0,.int .i64 a1_1,.string a1_2,(.slice A1_3 l1_3.length c1_3)] 27 (0,0)))∧Aside0 (wc.heap[gb127]?=some (.cells #[.int .i64 0,.int .i64 0,.string (⟨#[]⟩:ByteArray),(.slice none 0 0)] 27 (0,0)))∧Aside0 (wc.heap[gb134]?=some (.cells #[.int .i64 t128,.int .i64 t129,.string t130,(.slice Ao16 t131.length co16)] 27 (0,0)))∧Aside0 (IsS66 w0 wc g s0_0 x1001_3)∧Aside0 (KeepBut w wc g none)∧Aside0 (Below w0.heap.size w0 wc))
 case first =>
  have H:=HC4.out
  clear HC4
  by_cases c17:(t131.length:Int)>0
  ·rw [if_pos c17] at H
   have c17b0:decide (0<(t131.length:Int))=true:=decide_eq_true c17
   have c17b1:decide (0<t131.length)=true:=decide_eq_true (by omega)
   clear c17
   (first|rw [c17b0]|(simp only [i64_w,i32_w];rw [c17b0])|skip)
   replace H:=Option.bind_eq_some_iff.mp H
   obtain ⟨⟨t135,t136⟩,A180,H⟩:=H
   replace H:(spec_l1Mutate.j0 k (decide (t135>0)) s0_0 t136 t128 t129 t130 t131)=some (r1,r2,r3,r4,r5):=H
   have A18:=Aside0.mk A180
   clear A180
   have H':=Aside0.mk H
   clear H
   have hnb19:=NB134_126.out
   have hnc19:=NB126_134.out
   have hnb20:=NB134_127.out
   have hnc20:=NB127_134.out
   have hnb21:=NB134_0.out
   have hnc21:=NB0_134.out
   have hcz22_0:w11.cell? ⟨gb134,0,none⟩=some (.int .i64 0):=(blk_cell BK134.out 0).trans rfl
   have hcz22_1:w11.cell? ⟨gb134,1,none⟩=some (.int .i64 0):=(blk_cell BK134.out 1).trans rfl
   have hcz22_2:w11.cell? ⟨gb134,2,none⟩=some (.string (⟨#[]⟩:ByteArray)):=(blk_cell BK134.out 2).trans rfl
   have hcz22_3:w11.cell? ⟨gb134,3,none⟩=some (.slice none 0 0):=(blk_cell BK134.out 3).trans rfl
   have hfz22_0:=blk_frozen BK134.out 0
   have hfz22_1:=blk_frozen BK134.out 1
   have hfz22_2:=blk_frozen BK134.out 2
   have hfz22_3:=blk_frozen BK134.out 3
   go_wp2_with (first|(go_at_call 55;(with_reducible refine (spec_l15Rd_pick.calls k g s0_0 s0_1 2 t135 t136 w0 _ ?side1 ?side2 A18.out).mono ?_);(case side1=>repeat (first|(with_reducible first|exact HI0.out|apply IsS66.alloc|apply IsS66.drewN|apply IsS66.drew|apply IsS66.set_1|refine IsS66.far ?_ NB0_126.out _|refine IsS66.far ?_ NB0_127.out _|refine IsS66.far ?_ NB0_134.out _)|exact HI0.out));(case side2=>repeat (first|(with_reducible first|exact HB.out|apply below_alloc|apply pw_below_drewN|apply below_drew1|refine below_set ?_ (IsS66.ge HI0.out)|refine below_set ?_ GE126.out|refine below_set ?_ GE127.out|refine below_set ?_ GE134.out)|exact HB.out));rintro e w23 ⟨rfl,hi,hb,hk⟩;have n0_:=Aside0.mk (KeepBut.blk hk (g':=gb126) (o:=.cells #[.int .i64 a1_0,.int .i64 a1_1,.string a1_2,.slice A1_3 l1_3.length c1_3] 27 (0,0)) (by (with_reducible repeat (first|refine blk_drewN ?_ _|refine blk_drew ?_|refine blk_alloc ?_ _));refine blk_far ?_ NB126_134.out _;(with_reducible repeat (first|refine blk_drewN ?_ _|refine blk_drew ?_|refine blk_alloc ?_ _));refine blk_far ?_ NB126_134.out _;(with_reducible repeat (first|refine blk_drewN ?_ _|refine blk_drew ?_|refine blk_alloc ?_ _));refine blk_far ?_ NB126_134.out _;(with_reducible repeat (first|refine blk_drewN ?_ _|refine blk_drew ?_|refine blk_alloc ?_ _));refine blk_far ?_ NB126_134.out _;(with_reducible repeat (first|refine blk_drewN ?_ _|refine blk_drew ?_|refine blk_alloc ?_ _));exact BK126.out) NB126_0.out (by simp));have n1_:=Aside0.mk (KeepBut.blk hk (g':=gb127) (o:=.cells #[.int .i64 0,.int .i64 0,.string (⟨#[]⟩:ByteArray),.slice none 0 0] 27 (0,0)) (by (with_reducible repeat (first|refine blk_drewN ?_ _|refine blk_drew ?_|refine blk_alloc ?_ _));refine blk_far ?_ NB127_134.out _;(with_reducible repeat (first|refine blk_drewN ?_ _|refine blk_drew ?_|refine blk_alloc ?_ _));refine blk_far ?_ NB127_134.out _;(with_reducible repeat (first|refine blk_drewN ?_ _|refine blk_drew ?_|refine blk_alloc ?_ _));refine blk_far ?_ NB127_134.out _;(with_reducible repeat (first|refine blk_drewN ?_ _|refine blk_drew ?_|refine blk_alloc ?_ _));refine blk_far ?_ NB127_134.out _;(with_reducible repeat (first|refine blk_drewN ?_ _|refine blk_drew ?_|refine blk_alloc ?_ _));exact BK127.out) NB127_0.out (by simp));have n2_:=Aside0.mk (Kd.N_mono (Kd.N_keep (Kd.N_mono (ok:=fun k_=>((((w.heap.size≤k_))∧(k_≠gb126∧(k_≠gb127∧k_≠g)))∧k_≠gb134)) (by (with_reducible repeat (first|apply Kd.N_alloc|apply Kd.N_drewN|apply Kd.N_drew));exact (Kd.N_mono (Kd.N_far (p:=⟨gb134,3,none⟩) (Kd.N_far (p:=⟨gb134,2,none⟩) (Kd.N_far (p:=⟨gb134,1,none⟩) (Kd.N_far (p:=⟨gb134,0,none⟩) (Kd.N_mono HO133.out (fun k_ hk=>(⟨hk,hk.2⟩:_∧k_≠gb134))) (fun _ hk=>hk.2) (.int .i64 t128)) (fun _ hk=>hk.2) (.int .i64 t129)) (fun _ hk=>hk.2) (.string t130)) (fun _ hk=>hk.2) (.slice Ao16 t131.length co16)) (fun _ h_=>h_.1))) (fun k_ hk_=>(⟨hk_,hk_.1.2.2.2⟩:_∧k_≠g))) hk (fun _ h=>h.2)) (fun _ h=>h.1));have n3_:=Aside0.mk (KeepBut.blk hk (g':=gb134) (o:=.cells #[.int .i64 t128,.int .i64 t129,.string t130,.slice Ao16 t131.length co16] 27 (0,0)) (by (with_reducible repeat (first|refine blk_drewN ?_ _|refine blk_drew ?_|refine blk_alloc ?_ _));refine blk_put (cs:=#[.int .i64 t128,.int .i64 t129,.string t130,.slice none 0 0]) ?_ 3 _ rfl;(with_reducible repeat (first|refine blk_drewN ?_ _|refine blk_drew ?_|refine blk_alloc ?_ _));refine blk_put (cs:=#[.int .i64 t128,.int .i64 t129,.string (⟨#[]⟩:ByteArray),.slice none 0 0]) ?_ 2 _ rfl;(with_reducible repeat (first|refine blk_drewN ?_ _|refine blk_drew ?_|refine blk_alloc ?_ _));refine blk_put (cs:=#[.int .i64 t128,.int .i64 0,.string (⟨#[]⟩:ByteArray),.slice none 0 0]) ?_ 1 _ rfl;(with_reducible repeat (first|refine blk_drewN ?_ _|refine blk_drew ?_|refine blk_alloc ?_ _));refine blk_put (cs:=#[.int .i64 0,.int .i64 0,.string (⟨#[]⟩:ByteArray),.slice none 0 0]) ?_ 0 _ rfl;(with_reducible repeat (first|refine blk_drewN ?_ _|refine blk_drew ?_|refine blk_alloc ?_ _));exact BK134.out) NB134_0.out (by simp));have n4_:=Aside0.mk (KeepBut.trans (by repeat (first|(with_reducible first|exact HK.out|apply KeepBut.set_|apply keep_drewN|apply keep_drew|apply keep_alloc|refine keep_far ?_ GW126.out _|refine keep_far ?_ GW127.out _|refine keep_far ?_ GW134.out _)|exact HK.out)) hk (.inl rfl));have n5_:=Aside0.mk (hb);have n6_:=Aside0.mk (hi);clear BK126;clear BK127;clear HO133;clear BK134;clear HK;clear HB;clear HI0;have BK126:=n0_;have BK127:=n1_;have HO133:=n2_;have BK134:=n3_;have HK:=n4_;have HB:=n5_;have HI0:=n6_;clear n0_ n1_ n2_ n3_ n4_ n5_ n6_;(try clear hb);(try clear hb2);(try clear hk);(try clear hi)))
   go_meet
   case rel=>exact ⟨_,(decide (t135>0)),(t136),(by first|rfl|(simp;done)|(simp [*];done)),H',⟨by first|omega|exact Nat.le_refl _⟩,⟨by (with_reducible repeat (first|apply Kd.N_alloc|apply Kd.N_drewN|apply Kd.N_drew));exact Kd.N_mono HO133.out (fun _ hk=>⟨hk.1.1,⟨hk.1.2.1,⟨hk.1.2.2.1,⟨hk.2,hk.1.2.2.2⟩⟩⟩⟩)⟩,⟨by (with_reducible repeat (first|refine blk_drewN ?_ _|refine blk_drew ?_|refine blk_alloc ?_ _));exact BK126.out⟩,⟨by (with_reducible repeat (first|refine blk_drewN ?_ _|refine blk_drew ?_|refine blk_alloc ?_ _));exact BK127.out⟩,⟨by (with_reducible repeat (first|refine blk_drewN ?_ _|refine blk_drew ?_|refine blk_alloc ?_ _));exact BK134.out⟩,⟨by repeat (first|(with_reducible first|exact HI0.out|apply IsS66.alloc|apply IsS66.drewN|apply IsS66.drew|apply IsS66.set_1|refine IsS66.far ?_ NB0_126.out _|refine IsS66.far ?_ NB0_127.out _|refine IsS66.far ?_ NB0_134.out _)|exact HI0.out)⟩,⟨by repeat (first|(with_reducible first|exact HK.out|apply KeepBut.set_|apply keep_drewN|apply keep_drew|apply keep_alloc|refine keep_far ?_ GW126.out _|refine keep_far ?_ GW127.out _|refine keep_far ?_ GW134.out _)|exact HK.out)⟩,⟨by repeat (first|(with_reducible first|exact HB.out|apply below_alloc|apply pw_below_drewN|apply below_drew1|refine below_set ?_ (IsS66.ge HI0.out)|refine below_set ?_ GE126.out|refine below_set ?_ GE127.out|refine below_set ?_ GE134.out)|exact HB.out)⟩⟩
  ·rw [if_neg c17] at H
   have c17b0:decide (0<(t131.length:Int))=false:=decide_eq_false c17
   have c17b1:decide (0<t131.length)=false:=decide_eq_false (by omega)
   clear c17
   (first|rw [c17b0]|(simp only [i64_w,i32_w];rw [c17b0])|skip)
   have H':=Aside0.mk H
   clear H
   have hnb24:=NB134_126.out
   have hnc24:=NB126_134.out
   have hnb25:=NB134_127.out
   have hnc25:=NB127_134.out
   have hnb26:=NB134_0.out
   have hnc26:=NB0_134.out
   have hcz27_0:w11.cell? ⟨gb134,0,none⟩=some (.int .i64 0):=(blk_cell BK134.out 0).trans rfl
   have hcz27_1:w11.cell? ⟨gb134,1,none⟩=some (.int .i64 0):=(blk_cell BK134.out 1).trans rfl
   have hcz27_2:w11.cell? ⟨gb134,2,none⟩=some (.string (⟨#[]⟩:ByteArray)):=(blk_cell BK134.out 2).trans rfl
   have hcz27_3:w11.cell? ⟨gb134,3,none⟩=some (.slice none 0 0):=(blk_cell BK134.out 3).trans rfl
   have hfz27_0:=blk_frozen BK134.out 0
   have hfz27_1:=blk_frozen BK134.out 1
   have hfz27_2:=blk_frozen BK134.out 2
   have hfz27_3:=blk_frozen BK134.out 3
   go_wp2
   go_meet
   case rel=>exact ⟨_,(false),(s0_1),(by first|rfl|(simp;done)|(simp [*];done)),H',⟨by first|omega|exact Nat.le_refl _⟩,⟨by (with_reducible repeat (first|apply Kd.N_alloc|apply Kd.N_drewN|apply Kd.N_drew));exact Kd.N_mono (Kd.N_far (p:=⟨gb134,3,none⟩) (Kd.N_far (p:=⟨gb134,2,none⟩) (Kd.N_far (p:=⟨gb134,1,none⟩) (Kd.N_far (p:=⟨gb134,0,none⟩) (Kd.N_mono HO133.out (fun k_ hk=>(⟨hk,hk.2⟩:_∧k_≠gb134))) (fun _ hk=>hk.2) (.int .i64 t128)) (fun _ hk=>hk.2) (.int .i64 t129)) (fun _ hk=>hk.2) (.string t130)) (fun _ hk=>hk.2) (.slice Ao16 t131.length co16)) (fun _ hk=>⟨hk.1.1.1,⟨hk.1.1.2.1,⟨hk.1.1.2.2.1,⟨hk.1.2,hk.1.1.2.2.2⟩⟩⟩⟩)⟩,⟨by (with_reducible repeat (first|refine blk_drewN ?_ _|refine blk_drew ?_|refine blk_alloc ?_ _));refine blk_far ?_ NB126_134.out _;(with_reducible repeat (first|refine blk_drewN ?_ _|refine blk_drew ?_|refine blk_alloc ?_ _));refine blk_far ?_ NB126_134.out _;(with_reducible repeat (first|refine blk_drewN ?_ _|refine blk_drew ?_|refine blk_alloc ?_ _));refine blk_far ?_ NB126_134.out _;(with_reducible repeat (first|refine blk_drewN ?_ _|refine blk_drew ?_|refine blk_alloc ?_ _));refine blk_far ?_ NB126_134.out _;(with_reducible repeat (first|refine blk_drewN ?_ _|refine blk_drew ?_|refine blk_alloc ?_ _));exact BK126.out⟩,⟨by (with_reducible repeat (first|refine blk_drewN ?_ _|refine blk_drew ?_|refine blk_alloc ?_ _));refine blk_far ?_ NB127_134.out _;(with_reducible repeat (first|refine blk_drewN ?_ _|refine blk_drew ?_|refine blk_alloc ?_ _));refine blk_far ?_ NB127_134.out _;(with_reducible repeat (first|refine blk_drewN ?_ _|refine blk_drew ?_|refine blk_alloc ?_ _));refine blk_far ?_ NB127_134.out _;(with_reducible repeat (first|refine blk_drewN ?_ _|refine blk_drew ?_|refine blk_alloc ?_ _));refine blk_far ?_ NB127_134.out _;(with_reducible repeat (first|refine blk_drewN ?_ _|refine blk_drew ?_|refine blk_alloc ?_ _));exact BK127.out⟩,⟨by (with_reducible repeat (first|refine blk_drewN ?_ _|refine blk_drew ?_|refine blk_alloc ?_ _));refine blk_put (cs:=#[.int .i64 t128,.int .i64 t129,.string t130,.slice none 0 0]) ?_ 3 _ rfl;(with_reducible repeat (first|refine blk_drewN ?_ _|refine blk_drew ?_|refine blk_alloc ?_ _));refine blk_put (cs:=#[.int .i64 t128,.int .i64 t129,.string (⟨#[]⟩:ByteArray),.slice none 0 0]) ?_ 2 _ rfl;(with_reducible repeat (first|refine blk_drewN ?_ _|refine blk_drew ?_|refine blk_alloc ?_ _));refine blk_put (cs:=#[.int .i64 t128,.int .i64 0,.string (⟨#[]⟩:ByteArray),.slice none 0 0]) ?_ 1 _ rfl;(with_reducible repeat (first|refine blk_drewN ?_ _|refine blk_drew ?_|refine blk_alloc ?_ _));refine blk_put (cs:=#[.int .i64 0,.int .i64 0,.string (⟨#[]⟩:ByteArray),.slice none 0 0]) ?_ 0 _ rfl;(with_reducible repeat (first|refine blk_drewN ?_ _|refine blk_drew ?_|refine blk_alloc ?_ _));exact BK134.out⟩,⟨by repeat (first|(with_reducible first|exact HI0.out|apply IsS66.alloc|apply IsS66.drewN|apply IsS66.drew|apply IsS66.set_1|refine IsS66.far ?_ NB0_126.out _|refine IsS66.far ?_ NB0_127.out _|refine IsS66.far ?_ NB0_134.out _)|exact HI0.out)⟩,⟨by repeat (first|(with_reducible first|exact HK.out|apply KeepBut.set_|apply keep_drewN|apply keep_drew|apply keep_alloc|refine keep_far ?_ GW126.out _|refine keep_far ?_ GW127.out _|refine keep_far ?_ GW134.out _)|exact HK.out)⟩,⟨by repeat (first|(with_reducible first|exact HB.out|apply below_alloc|apply pw_below_drewN|apply below_drew1|refine below_set ?_ (IsS66.ge HI0.out)|refine below_set ?_ GE126.out|refine below_set ?_ GE127.out|refine below_set ?_ GE134.out)|exact HB.out)⟩⟩
 case rest =>
  clear HC4
  try clear c1 c2 p2 c5 c7 c8 c12 c13 c14 c17 c17b0 c17b1 c19 c20 c21 c24 c25 c26 hcz15_0 hcz15_1 hcz15_2 hcz15_3 hcz22_0 hcz22_1 hcz22_2 hcz22_3 hcz27_0 hcz27_1 hcz27_2 hcz27_3 hcz9_0 hcz9_1 hcz9_2 hcz9_3 hfz15_0 hfz15_1 hfz15_2 hfz15_3 hfz22_0 hfz22_1 hfz22_2 hfz22_3 hfz27_0 hfz27_1 hfz27_2 hfz27_3 hfz9_0 hfz9_1 hfz9_2 hfz9_3
  obtain ⟨kq,x17_3,x1001_3,rfl,HA,HJ3,HO_135003,BK126,BK127,BK134,HI0,HK,HB⟩:=hcut
  cases kq with
  | zero=>exact absurd HA.out (by simp [spec_l1Mutate.j0])
  | succ kj3 =>
   have H:=HA.out
   clear HA
   simp only [spec_l1Mutate.j0] at H
   by_cases c28:x17_3=true
   ·subst c28
    have H1:((spec_l15Rd_pick.f kj3 s0_0 x1001_3 (t131.length:Int)).bind fun bt137=>(if 0≤bt137.1 then (if bt137.1<(t131.length:Int) then ((spec_l1Mutate.f kj3 s0_0 bt137.2 ((rd_TDoc t131 bt137.1).f0) ((rd_TDoc t131 bt137.1).f1) ((rd_TDoc t131 bt137.1).f2) ((rd_TDoc t131 bt137.1).f3)).bind fun bt140=>(some (t128,t129,t130,(t131.set (bt137.1:Int).toNat (⟨bt140.1,bt140.2.1,bt140.2.2.1,bt140.2.2.2.1⟩:SDoc)),bt140.2.2.2.2))) else (none)) else (none)))=some (r1,r2,r3,r4,r5):=by rw [if_pos rfl] at H;exact H
    clear H
    have H:=H1
    clear H1
    replace H:=Option.bind_eq_some_iff.mp H
    obtain ⟨⟨t137,t138⟩,A290,H⟩:=H
    replace H:(if 0≤t137 then (if t137<(t131.length:Int) then ((spec_l1Mutate.f kj3 s0_0 t138 ((rd_TDoc t131 t137).f0) ((rd_TDoc t131 t137).f1) ((rd_TDoc t131 t137).f2) ((rd_TDoc t131 t137).f3)).bind fun bt140=>(some (t128,t129,t130,(t131.set (t137:Int).toNat (⟨bt140.1,bt140.2.1,bt140.2.2.1,bt140.2.2.2.1⟩:SDoc)),bt140.2.2.2.2))) else (none)) else (none))=some (r1,r2,r3,r4,r5):=H
    have A29:=Aside0.mk A290
    clear A290
    by_cases c30:0≤t137
    ·rw [if_pos c30] at H
     have c30b0:decide (0≤t137)=true:=decide_eq_true c30
     clear c30
     by_cases c31:t137<(t131.length:Int)
     ·rw [if_pos c31] at H
      have c31b0:decide (t137<(t131.length:Int))=true:=decide_eq_true c31
      clear c31
      replace H:=Option.bind_eq_some_iff.mp H
      obtain ⟨⟨t140,t141,t142,t143,t146⟩,A320,H⟩:=H
      replace H:(some (t128,t129,t130,(t131.set (t137:Int).toNat (⟨t140,t141,t142,t143⟩:SDoc)),t146))=some (r1,r2,r3,r4,r5):=H
      have A32:=Aside0.mk A320
      clear A320
      obtain ⟨y147,hy147⟩:∃ y_:List (SDoc),y_=(t131.set (t137:Int).toNat (⟨t140,t141,t142,t143⟩:SDoc)):=⟨_,rfl⟩
      replace H:(some (t128,t129,t130,y147,t146))=some (r1,r2,r3,r4,r5):=by first|(rw [hy147];with_reducible exact H)|(have H2_:=(Option.bind_some _ _).symm.trans H;rw [hy147];with_reducible exact H2_)|(have H2_:=(Option.bind_some _ _).symm.trans H;with_reducible exact H2_)|with_reducible exact H|(rw [hy147];exact H)|exact H
      have Ny147:=Aside0.mk hy147
      clear hy147
      simp only [Option.some.injEq,Prod.mk.injEq] at H
      obtain ⟨rfl,rfl,rfl,rfl,rfl⟩:=H
      have hnb34:=NB134_126.out
      have hnc34:=NB126_134.out
      have hnb35:=NB134_127.out
      have hnc35:=NB127_134.out
      have hnb36:=NB134_0.out
      have hnc36:=NB0_134.out
      have hcz37_0:wc.cell? ⟨gb134,0,none⟩=some (.int .i64 t128):=(blk_cell BK134.out 0).trans rfl
      have hcz37_1:wc.cell? ⟨gb134,1,none⟩=some (.int .i64 t129):=(blk_cell BK134.out 1).trans rfl
      have hcz37_2:wc.cell? ⟨gb134,2,none⟩=some (.string t130):=(blk_cell BK134.out 2).trans rfl
      have hcz37_3:wc.cell? ⟨gb134,3,none⟩=some (.slice Ao16 t131.length co16):=(blk_cell BK134.out 3).trans rfl
      have hfz37_0:=blk_frozen BK134.out 0
      have hfz37_1:=blk_frozen BK134.out 1
      have hfz37_2:=blk_frozen BK134.out 2
      have hfz37_3:=blk_frozen BK134.out 3
      try go_wp2_with (first|((with_reducible refine gate_callee (f:=55) rfl ?_);refine goesL_ (some 22) rfl rfl Try.func55 (by kernel_rfl) rfl #[.pointer (some ⟨g,0,none⟩),.int .i64 (t131.length:Int)] rfl (by (try simp only [List.map_toArray,List.map_cons,List.map_nil]);first|done|rfl|(simp only [List.length_drop,List.length_take];rfl)) ?_;(with_reducible refine (spec_l15Rd_pick.calls kj3 g s0_0 x1001_3 (t131.length:Int) t137 t138 w0 _ ?side1 ?side2 A29.out).mono ?_);(case side1=>repeat (first|(with_reducible first|exact HI0.out|apply IsS66.alloc|apply IsS66.drewN|apply IsS66.drew|apply IsS66.set_1|refine IsS66.far ?_ NB0_126.out _|refine IsS66.far ?_ NB0_127.out _|refine IsS66.far ?_ NB0_134.out _)|exact HI0.out));(case side2=>repeat (first|(with_reducible first|exact HB.out|apply below_alloc|apply pw_below_drewN|apply below_drew1|refine below_set ?_ (IsS66.ge HI0.out)|refine below_set ?_ GE126.out|refine below_set ?_ GE127.out|refine below_set ?_ GE134.out)|exact HB.out));rintro e w38 ⟨rfl,hi,hb,hk⟩;refine ⟨_,rfl,?_⟩;have n0_:=Aside0.mk (Kd.N_mono (Kd.N_keep (Kd.N_mono (ok:=fun k_=>(((w.heap.size≤k_))∧(k_≠gb126∧(k_≠gb127∧(k_≠gb134∧k_≠g))))) (by (with_reducible repeat (first|apply Kd.N_alloc|apply Kd.N_drewN|apply Kd.N_drew));exact HO_135003.out) (fun k_ hk_=>(⟨hk_,hk_.2.2.2.2⟩:_∧k_≠g))) hk (fun _ h=>h.2)) (fun _ h=>h.1));have n1_:=Aside0.mk (KeepBut.blk hk (g':=gb126) (o:=.cells #[.int .i64 a1_0,.int .i64 a1_1,.string a1_2,.slice A1_3 l1_3.length c1_3] 27 (0,0)) (by (with_reducible repeat (first|refine blk_drewN ?_ _|refine blk_drew ?_|refine blk_alloc ?_ _));exact BK126.out) NB126_0.out (by simp));have n2_:=Aside0.mk (KeepBut.blk hk (g':=gb127) (o:=.cells #[.int .i64 0,.int .i64 0,.string (⟨#[]⟩:ByteArray),.slice none 0 0] 27 (0,0)) (by (with_reducible repeat (first|refine blk_drewN ?_ _|refine blk_drew ?_|refine blk_alloc ?_ _));exact BK127.out) NB127_0.out (by simp));have n3_:=Aside0.mk (KeepBut.blk hk (g':=gb134) (o:=.cells #[.int .i64 t128,.int .i64 t129,.string t130,.slice Ao16 t131.length co16] 27 (0,0)) (by (with_reducible repeat (first|refine blk_drewN ?_ _|refine blk_drew ?_|refine blk_alloc ?_ _));exact BK134.out) NB134_0.out (by simp));have n4_:=Aside0.mk (KeepBut.trans (by repeat (first|(with_reducible first|exact HK.out|apply KeepBut.set_|apply keep_drewN|apply keep_drew|apply keep_alloc|refine keep_far ?_ GW126.out _|refine keep_far ?_ GW127.out _|refine keep_far ?_ GW134.out _)|exact HK.out)) hk (.inl rfl));have n5_:=Aside0.mk (hb);have n6_:=Aside0.mk (hi);clear HO_135003;clear BK126;clear BK127;clear BK134;clear HK;clear HB;clear HI0;have HO_135003:=n0_;have BK126:=n1_;have BK127:=n2_;have BK134:=n3_;have HK:=n4_;have HB:=n5_;have HI0:=n6_;clear n0_ n1_ n2_ n3_ n4_ n5_ n6_;(try clear hb);(try clear hb2);(try clear hk);(try clear hi)))
      have n0_:=Aside0.mk (Kd.N_drew HO_135003.out)
      have n1_:=Aside0.mk (blk_drew BK126.out)
      have n2_:=Aside0.mk (blk_drew BK127.out)
      have n3_:=Aside0.mk (blk_drew BK134.out)
      have n4_:=Aside0.mk (IsS66.drew HI0.out)
      have n5_:=Aside0.mk (keep_drew HK.out)
      have n6_:=Aside0.mk (below_drew1 HB.out)
      clear HO_135003
      clear BK126
      clear BK127
      clear BK134
      clear HI0
      clear HK
      clear HB
      have HO_135003:=n0_
      have BK126:=n1_
      have BK127:=n2_
      have BK134:=n3_
      have HI0:=n4_
      have HK:=n5_
      have HB:=n6_
      clear n0_ n1_ n2_ n3_ n4_ n5_ n6_
      have p139:0≤(t137:Int):=of_decide_eq_true (by first|(with_reducible assumption)|assumption)
      have q139:t137<(t131.length:Int):=of_decide_eq_true (by first|(with_reducible assumption)|assumption)
      obtain ⟨ad139,A139_3,c139_3,e139,hx139_0,hx139_1,hx139_2,hx139_3,hl139_3,hi139_3⟩:=at_TDoc (Kd.N_reads' HO_135003.out).2.2 t137 p139 q139
      cases e139
      obtain ⟨ce139,hce139,hMe139,hcc139⟩:=Kd.N_get HO_135003.out zDoc t137 p139 (by first|exact q139|exact of_decide_eq_true (by first|(with_reducible assumption)|assumption)|(have e_:=(Kd.N_reads' HO_135003.out).1;omega))
      obtain ⟨ua139_3,uc139_3,rfl,ul139_3,ge139_3⟩:=k27_openF hMe139
      have hv139_3:=hcc139 3 _ rfl
      rw [add_field _ _ 3 (by omega)] at hv139_3
      replace hv139_3:=Option.some.inj (hv139_3.symm.trans hx139_3)
      injection hv139_3 with hva_ hvn_ hvc_
      rw [hva_] at ge139_3
      rw [hvc_] at ul139_3
      have HL139_3:=Aside0.mk (show Kd.V k27 27 _ w.heap.size _ _ ((rd_TDoc t131 t137).f3) from Kd.V_mk ul139_3 ge139_3)
      clear hva_ hvn_ hvc_ ge139_3 ul139_3
      clear hcc139 hce139
      have HR139_3:=Aside0.mk hi139_3
      have HC139_3:=Aside0.mk hl139_3
      clear hi139_3 hl139_3
      replace p139:=eq_true p139
      replace q139:=eq_true q139
      refine start_ (n:=12) (S:=fun w'=>w'.cell? ⟨gb134,0,none⟩=some (.int .i64 t128)∧w'.cell? ⟨gb134,1,none⟩=some (.int .i64 t129)∧w'.cell? ⟨gb134,2,none⟩=some (.string t130)∧w'.cell? ⟨gb134,3,none⟩=some (.slice (some ad139) t131.length co16)∧w'.cell? (ad139.add ((t137).toNat * 4))=some (.int .i64 ((rd_TDoc t131 t137).f0))∧w'.cell? ⟨(ad139.add ((t137).toNat * 4)).block,(ad139.add ((t137).toNat * 4)).off+1,none⟩=some (.int .i64 ((rd_TDoc t131 t137).f1))∧w'.cell? ⟨(ad139.add ((t137).toNat * 4)).block,(ad139.add ((t137).toNat * 4)).off+2,none⟩=some (.string ((rd_TDoc t131 t137).f2))∧w'.cell? ⟨(ad139.add ((t137).toNat * 4)).block,(ad139.add ((t137).toNat * 4)).off+3,none⟩=some (.slice A139_3 ((rd_TDoc t131 t137).f3).length c139_3)) (ds:=[11]) #[false,false,false,false,false,false,false,false,false,false,false,false] (by kernel_rfl) rfl rfl ⟨(blk_cell BK134.out 0).trans rfl,(blk_cell BK134.out 1).trans rfl,(blk_cell BK134.out 2).trans rfl,(blk_cell BK134.out 3).trans rfl,hx139_0,hx139_1,hx139_2,hx139_3⟩ (fun hHeld=>?_);refine with_tabW spec_l1Mutate.tab4 spec_l1Mutate.bits4 (fun HT_ HW_=>?_)
      generalize w38.drew=w39 at HO_135003 BK126 BK127 BK134 HI0 HK HB HL139_3 HR139_3 hx139_0 hx139_1 hx139_2 hx139_3 hHeld ⊢
      refine pure_ (i:=0) (N:=some 23) (v:=?_) (a':=?_) #[true,false,false,false,false,false,false,false,false,false,false,false] rfl rfl (any_of HT_.out (by kernel_rfl)) (fun _ _ _ h=>h) (Or.inl ⟨by rfl,?_⟩) ?_ ?_
      rotate_left
      ·intro w'
       go_simp
       with_reducible rfl
      rotate_left
      ·simp only [Act.put,List.setIfInBounds_toArray,List.set_cons_zero,List.set_cons_succ,i64_w,i32_w]
       rfl
      refine pure_ (i:=2) (N:=some 25) (v:=?_) (a':=?_) #[true,false,true,false,false,false,false,false,false,false,false,false] rfl rfl (any_of HT_.out (by kernel_rfl)) (fun _ _ _ h=>h) (Or.inl ⟨by rfl,?_⟩) ?_ ?_
      rotate_left
      ·intro w'
       go_simp
       with_reducible rfl
      rotate_left
      ·simp only [Act.put,List.setIfInBounds_toArray,List.set_cons_zero,List.set_cons_succ,i64_w,i32_w]
       rfl
      refine pure_ (i:=3) (N:=some 26) (v:=?_) (a':=?_) #[true,false,true,true,false,false,false,false,false,false,false,false] rfl rfl (any_of HT_.out (by kernel_rfl)) (fun _ _ _ h=>h) (Or.inl ⟨by rfl,?_⟩) ?_ ?_
      rotate_left
      ·intro w'
       go_simp
       with_reducible rfl
      rotate_left
      ·simp only [Act.put,List.setIfInBounds_toArray,List.set_cons_zero,List.set_cons_succ,i64_w,i32_w]
       rfl
      refine pure_ (i:=4) (N:=some 27) (v:=?_) (a':=?_) #[true,false,true,true,true,false,false,false,false,false,false,false] rfl rfl (any_of HT_.out (by kernel_rfl)) (fun _ _ _ h=>h) (Or.inl ⟨by rfl,?_⟩) ?_ ?_
      rotate_left
      ·intro w'
       go_simp
       with_reducible rfl
      rotate_left
      ·simp only [Act.put,List.setIfInBounds_toArray,List.set_cons_zero,List.set_cons_succ,i64_w,i32_w]
       rfl
      refine pure_ (i:=6) (N:=some 29) (v:=?_) (a':=?_) #[true,false,true,true,true,false,true,false,false,false,false,false] rfl rfl (any_of HT_.out (by kernel_rfl)) (fun _ _ _ h=>h) (Or.inl ⟨by rfl,?_⟩) ?_ ?_
      rotate_left
      ·intro w'
       go_simp
       with_reducible rfl
      rotate_left
      ·simp only [Act.put,List.setIfInBounds_toArray,List.set_cons_zero,List.set_cons_succ,i64_w,i32_w]
       rfl
      refine take_ (i:=1) (N:=some 24) (v:=?_) (a':=?_) #[true,true,true,true,true,false,true,false,false,false,false,false] rfl rfl (take_ofW HT_.out HW_.out (by kernel_rfl)) (fun _ _ _ h=>h) (Or.inl ⟨by rfl,?_⟩) hHeld ?_ ?_
      rotate_left
      ·rintro w' ⟨s0,s1,s2,s3,s4,s5,s6,s7⟩
       go_simp
       with_reducible rfl
      rotate_left
      ·simp only [Act.put,List.setIfInBounds_toArray,List.set_cons_zero,List.set_cons_succ,i64_w,i32_w]
       rfl
      refine take_ (i:=5) (N:=some 28) (v:=?_) (a':=?_) #[true,true,true,true,true,true,true,false,false,false,false,false] rfl rfl (take_ofW HT_.out HW_.out (by kernel_rfl)) (fun _ _ _ h=>h) (Or.inl ⟨by rfl,?_⟩) hHeld ?_ ?_
      rotate_left
      ·rintro w' ⟨s0,s1,s2,s3,s4,s5,s6,s7⟩
       go_simp
       with_reducible rfl
      rotate_left
      ·simp only [Act.put,List.setIfInBounds_toArray,List.set_cons_zero,List.set_cons_succ,i64_w,i32_w]
       rfl
      refine pure_ (i:=7) (N:=some 30) (v:=?_) (a':=?_) #[true,true,true,true,true,true,true,true,false,false,false,false] rfl rfl (any_of HT_.out (by kernel_rfl)) (fun _ _ _ h=>h) (Or.inl ⟨by rfl,?_⟩) ?_ ?_
      rotate_left
      ·intro w'
       go_simp
       with_reducible rfl
      rotate_left
      ·simp only [Act.put,List.setIfInBounds_toArray,List.set_cons_zero,List.set_cons_succ,i64_w,i32_w]
       rfl
      refine take_ (i:=8) (N:=some 31) (v:=?_) (a':=?_) #[true,true,true,true,true,true,true,true,true,false,false,false] rfl rfl (take_ofW HT_.out HW_.out (by kernel_rfl)) (fun _ _ _ h=>h) (Or.inl ⟨by rfl,?_⟩) hHeld ?_ ?_
      rotate_left
      ·rintro w' ⟨s0,s1,s2,s3,s4,s5,s6,s7⟩
       go_simp
       with_reducible rfl
      rotate_left
      ·simp only [Act.put,List.setIfInBounds_toArray,List.set_cons_zero,List.set_cons_succ,i64_w,i32_w]
       rfl
      refine one_ (i:=9) (N:=some 32) #[true,true,true,true,true,true,true,true,true,true,false,false] rfl rfl (one_of HT_.out (by kernel_rfl)) (by decide) (fun K hK=>?_)
      refine goes_ Try.func50 (by kernel_rfl) rfl #[.pointer (some ⟨g,0,none⟩),.agg #[.int .i64 ((rd_TDoc t131 t137).f0),.int .i64 ((rd_TDoc t131 t137).f1),.string ((rd_TDoc t131 t137).f2),.slice A139_3 ((rd_TDoc t131 t137).f3).length c139_3]] (by rfl) rfl rfl (by (try simp only [List.map_toArray,List.map_cons,List.map_nil]);first|done|rfl|(simp only [List.length_drop,List.length_take];rfl)) ?_
      with_reducible refine (ih kj3 (by have:=HJ3.out;omega) g s0_0 t138 ((rd_TDoc t131 t137).f0) ((rd_TDoc t131 t137).f1) ((rd_TDoc t131 t137).f2) _ _ ((rd_TDoc t131 t137).f3) t140 t141 t142 t143 t146 w0 _ ?side1 ?side2 ?side3 ?side4 A32.out).mono ?_
      (case side1=>repeat (first|(with_reducible first|exact HI0.out|apply IsS66.alloc|apply IsS66.drewN|apply IsS66.drew|apply IsS66.set_1|refine IsS66.far ?_ NB0_126.out _|refine IsS66.far ?_ NB0_127.out _|refine IsS66.far ?_ NB0_134.out _)|exact HI0.out))
      (case side2=>repeat (first|(with_reducible first|exact HB.out|apply below_alloc|apply pw_below_drewN|apply below_drew1|refine below_set ?_ (IsS66.ge HI0.out)|refine below_set ?_ GE126.out|refine below_set ?_ GE127.out|refine below_set ?_ GE134.out)|exact HB.out))
      (case side3=>exact Kd.C_foot_ownV (e:=0) (base:=0) (Kd.V_mono (ok:=fun k_=>((((w.heap.size≤k_))∧(k_≠gb126∧(k_≠gb127∧(k_≠gb134∧k_≠g))))∧some k_≠(.slice (some ad139) t131.length co16:Value).ownBlock)) (by (with_reducible repeat (first|apply Kd.V_alloc|apply Kd.V_drewN|apply Kd.V_drew));exact HL139_3.out) (fun k_ hk_=>(⟨hk_,hk_.1.2.2.2.2⟩:_∧k_≠g))) (fun _ h_=>h_.2))
      (case side4=>exact HC139_3.out)
      rintro e w40 ⟨v144,rfl,ho0,hi,hb,hk⟩
      have HS4_:=keep_cell hk (hHeld.2.2.2.2.1) (by first|(rw [add_block];exact Kd.own_blk (IsS66.own_neN HI0.out HO_135003.out (by decide)))|(show (Addr.add _ _).block≠_;rw [add_block];exact Kd.own_blk (IsS66.own_neN HI0.out HO_135003.out (by decide)))|exact Kd.own_blk (IsS66.own_neN HI0.out HO_135003.out (by decide)))
      have HS5_:=keep_cell hk (hHeld.2.2.2.2.2.1) (by first|(rw [add_block];exact Kd.own_blk (IsS66.own_neN HI0.out HO_135003.out (by decide)))|(show (Addr.add _ _).block≠_;rw [add_block];exact Kd.own_blk (IsS66.own_neN HI0.out HO_135003.out (by decide)))|exact Kd.own_blk (IsS66.own_neN HI0.out HO_135003.out (by decide)))
      have HS6_:=keep_cell hk (hHeld.2.2.2.2.2.2.1) (by first|(rw [add_block];exact Kd.own_blk (IsS66.own_neN HI0.out HO_135003.out (by decide)))|(show (Addr.add _ _).block≠_;rw [add_block];exact Kd.own_blk (IsS66.own_neN HI0.out HO_135003.out (by decide)))|exact Kd.own_blk (IsS66.own_neN HI0.out HO_135003.out (by decide)))
      have HS7_:=keep_cell hk (hHeld.2.2.2.2.2.2.2) (by first|(rw [add_block];exact Kd.own_blk (IsS66.own_neN HI0.out HO_135003.out (by decide)))|(show (Addr.add _ _).block≠_;rw [add_block];exact Kd.own_blk (IsS66.own_neN HI0.out HO_135003.out (by decide)))|exact Kd.own_blk (IsS66.own_neN HI0.out HO_135003.out (by decide)))
      refine ⟨_,rfl,?_⟩
      have n0_:=Aside0.mk (Kd.N_mono (Kd.N_told (Kd.N_oldK (Kd.N_mono (ok:=fun k_=>(((w.heap.size≤k_))∧(k_≠gb126∧(k_≠gb127∧(k_≠gb134∧k_≠g))))) (by (with_reducible repeat (first|apply Kd.N_alloc|apply Kd.N_drewN|apply Kd.N_drew));exact HO_135003.out) (fun k_ hk_=>(⟨hk_,hk_.2.2.2.2⟩:_∧k_≠g))) hk) (Kd.N_base ho0)) (fun _ h_=>h_.1))
      have n1_:=Aside0.mk (KeepBut.blk hk (g':=gb126) (o:=.cells #[.int .i64 a1_0,.int .i64 a1_1,.string a1_2,.slice A1_3 l1_3.length c1_3] 27 (0,0)) (by (with_reducible repeat (first|refine blk_drewN ?_ _|refine blk_drew ?_|refine blk_alloc ?_ _));exact BK126.out) NB126_0.out (by simp))
      have n2_:=Aside0.mk (KeepBut.blk hk (g':=gb127) (o:=.cells #[.int .i64 0,.int .i64 0,.string (⟨#[]⟩:ByteArray),.slice none 0 0] 27 (0,0)) (by (with_reducible repeat (first|refine blk_drewN ?_ _|refine blk_drew ?_|refine blk_alloc ?_ _));exact BK127.out) NB127_0.out (by simp))
      have n3_:=Aside0.mk (KeepBut.blk hk (g':=gb134) (o:=.cells #[.int .i64 t128,.int .i64 t129,.string t130,.slice (some ad139) t131.length co16] 27 (0,0)) (by (with_reducible repeat (first|refine blk_drewN ?_ _|refine blk_drew ?_|refine blk_alloc ?_ _));exact BK134.out) NB134_0.out (by simp))
      have n4_:=Aside0.mk (Kd.V_mono (Kd.V_told (Kd.V_oldK (Kd.V_mono (ok:=fun k_=>((((w.heap.size≤k_))∧(k_≠gb126∧(k_≠gb127∧(k_≠gb134∧k_≠g))))∧some k_≠(.slice (some ad139) t131.length co16:Value).ownBlock)) (by (with_reducible repeat (first|apply Kd.V_alloc|apply Kd.V_drewN|apply Kd.V_drew));exact HL139_3.out) (fun k_ hk_=>(⟨hk_,hk_.1.2.2.2.2⟩:_∧k_≠g))) hk) (Kd.N_base ho0)) (fun _ h_=>h_.1))
      have n5_:=Aside0.mk (Kd.N_lower (Kd.N_mono (ok':=fun k_=>(w.heap.size≤k_)∧some k_≠(.slice (some ad139) t131.length co16:Value).ownBlock∧k_≠gb126∧k_≠gb127∧k_≠gb134∧k_≠g) ho0 (fun k_ hk_=>⟨(Nat.le_trans (keep_size (w:=w) (g:=g) (row:=none) (by repeat (first|(with_reducible first|exact HK.out|apply KeepBut.set_|apply keep_drewN|apply keep_drew|apply keep_alloc|refine keep_far ?_ GW126.out _|refine keep_far ?_ GW127.out _|refine keep_far ?_ GW134.out _)|exact HK.out))) hk_),(Kd.fresh' (Kd.N_lt (by (with_reducible repeat (first|apply Kd.N_alloc|apply Kd.N_drewN|apply Kd.N_drew));exact HO_135003.out)) k_ hk_),(Kd.freshB (g:=gb126) (o:=.cells #[.int .i64 a1_0,.int .i64 a1_1,.string a1_2,.slice A1_3 l1_3.length c1_3] 27 (0,0)) (by (with_reducible repeat (first|refine blk_drewN ?_ _|refine blk_drew ?_|refine blk_alloc ?_ _));exact BK126.out) k_ hk_),(Kd.freshB (g:=gb127) (o:=.cells #[.int .i64 0,.int .i64 0,.string (⟨#[]⟩:ByteArray),.slice none 0 0] 27 (0,0)) (by (with_reducible repeat (first|refine blk_drewN ?_ _|refine blk_drew ?_|refine blk_alloc ?_ _));exact BK127.out) k_ hk_),(Kd.freshB (g:=gb134) (o:=.cells #[.int .i64 t128,.int .i64 t129,.string t130,.slice (some ad139) t131.length co16] 27 (0,0)) (by (with_reducible repeat (first|refine blk_drewN ?_ _|refine blk_drew ?_|refine blk_alloc ?_ _));exact BK134.out) k_ hk_),(IsS66.fresh (by repeat (first|(with_reducible first|exact HI0.out|apply IsS66.alloc|apply IsS66.drewN|apply IsS66.drew|apply IsS66.set_1|refine IsS66.far ?_ NB0_126.out _|refine IsS66.far ?_ NB0_127.out _|refine IsS66.far ?_ NB0_134.out _)|exact HI0.out)) k_ hk_)⟩)) (keep_size (w:=w) (g:=g) (row:=none) (by repeat (first|(with_reducible first|exact HK.out|apply KeepBut.set_|apply keep_drewN|apply keep_drew|apply keep_alloc|refine keep_far ?_ GW126.out _|refine keep_far ?_ GW127.out _|refine keep_far ?_ GW134.out _)|exact HK.out))))
      have n6_:=Aside0.mk (KeepBut.trans (by repeat (first|(with_reducible first|exact HK.out|apply KeepBut.set_|apply keep_drewN|apply keep_drew|apply keep_alloc|refine keep_far ?_ GW126.out _|refine keep_far ?_ GW127.out _|refine keep_far ?_ GW134.out _)|exact HK.out)) hk (.inl rfl))
      have n7_:=Aside0.mk (hb)
      have n8_:=Aside0.mk (hi)
      clear HO_135003
      clear BK126
      clear BK127
      clear BK134
      clear HL139_3
      clear HK
      clear HB
      clear HI0
      have HO_135003:=n0_
      have BK126:=n1_
      have BK127:=n2_
      have BK134:=n3_
      have HL139_3:=n4_
      have HO145:=n5_
      have HK:=n6_
      have HB:=n7_
      have HI0:=n8_
      clear n0_ n1_ n2_ n3_ n4_ n5_ n6_ n7_ n8_
      (try clear hb)
      (try clear hb2)
      (try clear hk)
      (try clear hi)
      (try clear ho0)
      have p33:0≤(t137:Int):=of_decide_eq_true (by first|(with_reducible assumption)|assumption)
      have q33:(t137:Int)<((t131.length:Int):Int):=of_decide_eq_true (by first|(with_reducible assumption)|assumption)
      obtain ⟨go33,co33,eo33,gb33,gl33,cl33,HG33⟩:=Kd.N_form HO_135003.out (by omega)
      (first|cases eo33|(injection eo33 with ea_ en_ ec_;(first|subst ea_|(injection ea_ with ea_;subst ea_));subst ec_;clear en_))
      have GB33:=Aside0.mk gb33
      have GG33:=Aside0.mk HG33
      clear gb33 gl33 HG33
      (first|simp only [add_plain] at hx139_0|skip)
      (first|simp only [add_plain] at hx139_1|skip)
      (first|simp only [add_plain] at hx139_2|skip)
      (first|simp only [add_plain] at hx139_3|skip)
      obtain ⟨ce33,hcl33,hM33,hcc33,hfr33⟩:=Kd.N_elem HO_135003.out zDoc (t137:Int) p33 q33
      obtain ⟨ua33_3,uc33_3,rfl,ul33_3,ge33_3⟩:=k27_openF hM33
      have hx33_0:World.cell? _ ⟨go33,(t137:Int).toNat * 4,none⟩=some (.int .i64 ((rd_TDoc t131 t137).f0)):=hcc33 0 _ rfl
      have hx33_1:World.cell? _ ⟨go33,(t137:Int).toNat * 4+1,none⟩=some (.int .i64 ((rd_TDoc t131 t137).f1)):=hcc33 1 _ rfl
      have hx33_2:World.cell? _ ⟨go33,(t137:Int).toNat * 4+2,none⟩=some (.string ((rd_TDoc t131 t137).f2)):=hcc33 2 _ rfl
      have hx33_3:World.cell? _ ⟨go33,(t137:Int).toNat * 4+3,none⟩=some (.slice ua33_3 ((rd_TDoc t131 t137).f3).length uc33_3):=hcc33 3 _ rfl
      have hf33_0:World.frozen? _ ⟨go33,(t137:Int).toNat * 4,none⟩=false:=hfr33 0
      have hf33_1:World.frozen? _ ⟨go33,(t137:Int).toNat * 4+1,none⟩=false:=hfr33 1
      have hf33_2:World.frozen? _ ⟨go33,(t137:Int).toNat * 4+2,none⟩=false:=hfr33 2
      have hf33_3:World.frozen? _ ⟨go33,(t137:Int).toNat * 4+3,none⟩=false:=hfr33 3
      clear hcl33 hcc33 hfr33 hM33
      replace p33:=eq_true p33
      replace q33:=eq_true q33
      obtain ⟨Ao41,co41,eo41⟩:=Kd.N_slice HO145.out
      (first|subst eo41|(injection eo41 with f1_ f2_ f3_;have f4_:=f1_.symm;have f5_:=f3_.symm;clear f1_ f2_ f3_;subst f4_;subst f5_))
      have HN0_go33:=Aside0.mk (show g≠go33 from by have h_:=IsS66.own_neN HI0.out HO_135003.out (by decide);intro e_;exact h_ (by rw [e_];rfl))
      have HX42:=Aside0.mk (show Kd.N k27 27 _ w.heap.size (fun k_=>(w.heap.size≤k_)∧some k_≠(.slice Ao41 t143.length co41:Value).ownBlock∧k_≠gb126∧k_≠gb127∧k_≠gb134∧k_≠g) (.slice (some ⟨go33,0,none⟩) t131.length co16) t131 from (Kd.N_mono (HO_135003.out) (fun k_ hk=>⟨hk.1.1,⟨hk.2,⟨hk.1.2.1,⟨hk.1.2.2.1,⟨hk.1.2.2.2.1,hk.1.2.2.2.2⟩⟩⟩⟩⟩)))
      replace HX42:=Aside0.mk (show Kd.N k27 27 _ w.heap.size (fun k_=>(w.heap.size≤k_)∧k_≠gb126∧k_≠gb127∧k_≠gb134∧k_≠g) (.slice (some ⟨go33,0,none⟩) t131.length co16) t131 from Kd.N_mono HX42.out (fun k_ hk=>⟨hk.1,⟨hk.2.2.1,⟨hk.2.2.2.1,⟨hk.2.2.2.2.1,hk.2.2.2.2.2⟩⟩⟩⟩))
      obtain ⟨ce42,hcl42,hM42,hcc42,hfr42⟩:=Kd.N_elem HX42.out zDoc (t137:Int) (of_decide_eq_true (by first|(with_reducible assumption)|assumption)) (by have h_:(t137:Int)<((t131.length:Int):Int):=of_decide_eq_true (by first|(with_reducible assumption)|assumption);first|exact h_|(have e_:=(Kd.N_reads' HO_135003.out).1;omega)|simpa using h_)
      obtain ⟨ua42_3,uc42_3,rfl,ul42_3,ge42_3⟩:=k27_openF hM42
      have HP42:=(Kd.N_seg HX42.out (t137:Int) (of_decide_eq_true (by first|(with_reducible assumption)|assumption)) (by have h_:(t137:Int)<((t131.length:Int):Int):=of_decide_eq_true (by first|(with_reducible assumption)|assumption);first|exact h_|(have e_:=(Kd.N_reads' HO_135003.out).1;omega)|simpa using h_) (seg:=[.int .i64 t140,.int .i64 t141,.string t142,.slice Ao41 t143.length co41]) (j:=0) hcl42 hcc42 (show 4≤4 from by decide) (x':=(⟨t140,t141,t142,t143⟩:SDoc)) (k27_mkF _ _ (⟨t140,t141,t142,t143⟩:SDoc) (Kd.N_reads' (Kd.N_mono (ok':=(fun k_=>((fun k_=>(w.heap.size≤k_)∧k_≠gb126∧k_≠gb127∧k_≠gb134∧k_≠g)) k_∧k_≠go33)) (HO145.out) (fun k_ hk=>⟨⟨hk.1,⟨hk.2.2.1,⟨hk.2.2.2.1,⟨hk.2.2.2.2.1,hk.2.2.2.2.2⟩⟩⟩⟩,fun e_=>(hk.2.1) (by rw [e_];rfl)⟩))).2.1 (Kd.N_F (Kd.N_mono (ok':=(fun k_=>((fun k_=>(w.heap.size≤k_)∧k_≠gb126∧k_≠gb127∧k_≠gb134∧k_≠g)) k_∧k_≠go33)) (HO145.out) (fun k_ hk=>⟨⟨hk.1,⟨hk.2.2.1,⟨hk.2.2.2.1,⟨hk.2.2.2.2.1,hk.2.2.2.2.2⟩⟩⟩⟩,fun e_=>(hk.2.1) (by rw [e_];rfl)⟩)))) (fun _ hk=>hk)).1
      rw [← Ny147.out] at HP42
      have HQ42:=Aside0.mk HP42
      clear hcl42 hcc42 hfr42 hM42 HP42
      refine hK.out _ _ ⟨(blk_cell BK134.out 0).trans rfl,(blk_cell BK134.out 1).trans rfl,(blk_cell BK134.out 2).trans rfl,(blk_cell BK134.out 3).trans rfl,HS4_,HS5_,HS6_,HS7_⟩ (fun hHeld=>?_)
      clear hK K
      refine norm_ (a':=?_) ?_ ?_
      rotate_left
      ·show Act.put _ (some 32) _=_
       simp only [Act.put,List.setIfInBounds_toArray,List.set_cons_zero,List.set_cons_succ,i64_w,i32_w]
       rfl
      refine pure_ (i:=10) (N:=some 33) (v:=?_) (a':=?_) #[true,true,true,true,true,true,true,true,true,true,true,false] rfl rfl (any_of HT_.out (by kernel_rfl)) (fun _ _ _ h=>h) (Or.inl ⟨by rfl,?_⟩) ?_ ?_
      rotate_left
      ·intro w'
       go_simp
       with_reducible rfl
      rotate_left
      ·simp only [Act.put,List.setIfInBounds_toArray,List.set_cons_zero,List.set_cons_succ,i64_w,i32_w]
       rfl
      refine last_ (i:=11) (N:=none) #[true,true,true,true,true,true,true,true,true,true,true,true] rfl rfl (one_of HT_.out (by kernel_rfl)) (by decide) (fun K hK=>?_)
      refine skip_ (w1:=?_) (by rfl) rfl ?_ ?_
      rotate_left
      ·go_simp
       rfl
      refine hK.out _ _ ?_
      clear hK K
      refine done_ (done_of HT_.out (by kernel_rfl)) ?_
      have n0_:Aside0 (Kd.N k27 27 ((((w40.setCell ⟨go33,(t137:Int).toNat * 4,none⟩ (.int .i64 t140)).setCell ⟨go33,(t137:Int).toNat * 4+1,none⟩ (.int .i64 t141)).setCell ⟨go33,(t137:Int).toNat * 4+2,none⟩ (.string t142)).setCell ⟨go33,(t137:Int).toNat * 4+3,none⟩ (.slice Ao41 t143.length co41)) w.heap.size (fun k_=>(w.heap.size≤k_)∧k_≠gb126∧k_≠gb127∧k_≠gb134∧k_≠g) (.slice (some ⟨go33,0,none⟩) t131.length co16) y147):=⟨by (with_reducible repeat (first|apply Kd.N_alloc|apply Kd.N_drewN|apply Kd.N_drew));exact HQ42.out⟩
      have n1_:Aside0 (Kd.V k27 27 ((((w40.setCell ⟨go33,(t137:Int).toNat * 4,none⟩ (.int .i64 t140)).setCell ⟨go33,(t137:Int).toNat * 4+1,none⟩ (.int .i64 t141)).setCell ⟨go33,(t137:Int).toNat * 4+2,none⟩ (.string t142)).setCell ⟨go33,(t137:Int).toNat * 4+3,none⟩ (.slice Ao41 t143.length co41)) w.heap.size (fun k_=>(w.heap.size≤k_)∧some k_≠(.slice (some ⟨go33,0,none⟩) t131.length co16:Value).ownBlock∧k_≠gb126∧k_≠gb127∧k_≠gb134∧k_≠g) (.slice A139_3 ((rd_TDoc t131 t137).f3).length c139_3) ((rd_TDoc t131 t137).f3)):=⟨by (with_reducible repeat (first|apply Kd.V_alloc|apply Kd.V_drewN|apply Kd.V_drew));exact Kd.V_mono (Kd.V_far (p:=⟨go33,(t137:Int).toNat * 4+3,none⟩) (Kd.V_far (p:=⟨go33,(t137:Int).toNat * 4+2,none⟩) (Kd.V_far (p:=⟨go33,(t137:Int).toNat * 4+1,none⟩) (Kd.V_far (p:=⟨go33,(t137:Int).toNat * 4,none⟩) (Kd.V_mono HL139_3.out (fun k_ hk=>(⟨hk,fun e_=>hk.1.2 (by rw [e_];rfl)⟩:_∧k_≠go33))) (fun _ hk=>hk.2) (.int .i64 t140)) (fun _ hk=>hk.2) (.int .i64 t141)) (fun _ hk=>hk.2) (.string t142)) (fun _ hk=>hk.2) (.slice Ao41 t143.length co41)) (fun _ hk=>⟨hk.1.1.1.1,⟨hk.1.1.2,⟨hk.1.1.1.2.1,⟨hk.1.1.1.2.2.1,⟨hk.1.1.1.2.2.2.1,hk.1.1.1.2.2.2.2⟩⟩⟩⟩⟩)⟩
      have n2_:Aside0 (((((w40.setCell ⟨go33,(t137:Int).toNat * 4,none⟩ (.int .i64 t140)).setCell ⟨go33,(t137:Int).toNat * 4+1,none⟩ (.int .i64 t141)).setCell ⟨go33,(t137:Int).toNat * 4+2,none⟩ (.string t142)).setCell ⟨go33,(t137:Int).toNat * 4+3,none⟩ (.slice Ao41 t143.length co41)).heap[gb126]?=some (.cells #[.int .i64 a1_0,.int .i64 a1_1,.string a1_2,.slice A1_3 l1_3.length c1_3] 27 (0,0))):=⟨by (with_reducible repeat (first|refine blk_drewN ?_ _|refine blk_drew ?_|refine blk_alloc ?_ _));refine blk_far ?_ (by have h_:=Kd.N_away HO_135003.out (fun _ hk=>by first|exact hk.2.1|exact hk.1.2.1|exact hk.1.1.2.1);intro e_;exact h_ (by rw [e_];rfl)) _;(with_reducible repeat (first|refine blk_drewN ?_ _|refine blk_drew ?_|refine blk_alloc ?_ _));refine blk_far ?_ (by have h_:=Kd.N_away HO_135003.out (fun _ hk=>by first|exact hk.2.1|exact hk.1.2.1|exact hk.1.1.2.1);intro e_;exact h_ (by rw [e_];rfl)) _;(with_reducible repeat (first|refine blk_drewN ?_ _|refine blk_drew ?_|refine blk_alloc ?_ _));refine blk_far ?_ (by have h_:=Kd.N_away HO_135003.out (fun _ hk=>by first|exact hk.2.1|exact hk.1.2.1|exact hk.1.1.2.1);intro e_;exact h_ (by rw [e_];rfl)) _;(with_reducible repeat (first|refine blk_drewN ?_ _|refine blk_drew ?_|refine blk_alloc ?_ _));refine blk_far ?_ (by have h_:=Kd.N_away HO_135003.out (fun _ hk=>by first|exact hk.2.1|exact hk.1.2.1|exact hk.1.1.2.1);intro e_;exact h_ (by rw [e_];rfl)) _;(with_reducible repeat (first|refine blk_drewN ?_ _|refine blk_drew ?_|refine blk_alloc ?_ _));exact BK126.out⟩
      have n3_:Aside0 (((((w40.setCell ⟨go33,(t137:Int).toNat * 4,none⟩ (.int .i64 t140)).setCell ⟨go33,(t137:Int).toNat * 4+1,none⟩ (.int .i64 t141)).setCell ⟨go33,(t137:Int).toNat * 4+2,none⟩ (.string t142)).setCell ⟨go33,(t137:Int).toNat * 4+3,none⟩ (.slice Ao41 t143.length co41)).heap[gb127]?=some (.cells #[.int .i64 0,.int .i64 0,.string (⟨#[]⟩:ByteArray),.slice none 0 0] 27 (0,0))):=⟨by (with_reducible repeat (first|refine blk_drewN ?_ _|refine blk_drew ?_|refine blk_alloc ?_ _));refine blk_far ?_ (by have h_:=Kd.N_away HO_135003.out (fun _ hk=>by first|exact hk.2.2.1|exact hk.1.2.2.1|exact hk.1.1.2.2.1);intro e_;exact h_ (by rw [e_];rfl)) _;(with_reducible repeat (first|refine blk_drewN ?_ _|refine blk_drew ?_|refine blk_alloc ?_ _));refine blk_far ?_ (by have h_:=Kd.N_away HO_135003.out (fun _ hk=>by first|exact hk.2.2.1|exact hk.1.2.2.1|exact hk.1.1.2.2.1);intro e_;exact h_ (by rw [e_];rfl)) _;(with_reducible repeat (first|refine blk_drewN ?_ _|refine blk_drew ?_|refine blk_alloc ?_ _));refine blk_far ?_ (by have h_:=Kd.N_away HO_135003.out (fun _ hk=>by first|exact hk.2.2.1|exact hk.1.2.2.1|exact hk.1.1.2.2.1);intro e_;exact h_ (by rw [e_];rfl)) _;(with_reducible repeat (first|refine blk_drewN ?_ _|refine blk_drew ?_|refine blk_alloc ?_ _));refine blk_far ?_ (by have h_:=Kd.N_away HO_135003.out (fun _ hk=>by first|exact hk.2.2.1|exact hk.1.2.2.1|exact hk.1.1.2.2.1);intro e_;exact h_ (by rw [e_];rfl)) _;(with_reducible repeat (first|refine blk_drewN ?_ _|refine blk_drew ?_|refine blk_alloc ?_ _));exact BK127.out⟩
      have n4_:Aside0 (((((w40.setCell ⟨go33,(t137:Int).toNat * 4,none⟩ (.int .i64 t140)).setCell ⟨go33,(t137:Int).toNat * 4+1,none⟩ (.int .i64 t141)).setCell ⟨go33,(t137:Int).toNat * 4+2,none⟩ (.string t142)).setCell ⟨go33,(t137:Int).toNat * 4+3,none⟩ (.slice Ao41 t143.length co41)).heap[gb134]?=some (.cells #[.int .i64 t128,.int .i64 t129,.string t130,.slice (some ⟨go33,0,none⟩) t131.length co16] 27 (0,0))):=⟨by (with_reducible repeat (first|refine blk_drewN ?_ _|refine blk_drew ?_|refine blk_alloc ?_ _));refine blk_far ?_ (by have h_:=Kd.N_away HO_135003.out (fun _ hk=>by first|exact hk.2.2.2.1|exact hk.1.2.2.2.1|exact hk.1.1.2.2.2.1);intro e_;exact h_ (by rw [e_];rfl)) _;(with_reducible repeat (first|refine blk_drewN ?_ _|refine blk_drew ?_|refine blk_alloc ?_ _));refine blk_far ?_ (by have h_:=Kd.N_away HO_135003.out (fun _ hk=>by first|exact hk.2.2.2.1|exact hk.1.2.2.2.1|exact hk.1.1.2.2.2.1);intro e_;exact h_ (by rw [e_];rfl)) _;(with_reducible repeat (first|refine blk_drewN ?_ _|refine blk_drew ?_|refine blk_alloc ?_ _));refine blk_far ?_ (by have h_:=Kd.N_away HO_135003.out (fun _ hk=>by first|exact hk.2.2.2.1|exact hk.1.2.2.2.1|exact hk.1.1.2.2.2.1);intro e_;exact h_ (by rw [e_];rfl)) _;(with_reducible repeat (first|refine blk_drewN ?_ _|refine blk_drew ?_|refine blk_alloc ?_ _));refine blk_far ?_ (by have h_:=Kd.N_away HO_135003.out (fun _ hk=>by first|exact hk.2.2.2.1|exact hk.1.2.2.2.1|exact hk.1.1.2.2.2.1);intro e_;exact h_ (by rw [e_];rfl)) _;(with_reducible repeat (first|refine blk_drewN ?_ _|refine blk_drew ?_|refine blk_alloc ?_ _));exact BK134.out⟩
      have n5_:Aside0 (IsS66 w0 ((((w40.setCell ⟨go33,(t137:Int).toNat * 4,none⟩ (.int .i64 t140)).setCell ⟨go33,(t137:Int).toNat * 4+1,none⟩ (.int .i64 t141)).setCell ⟨go33,(t137:Int).toNat * 4+2,none⟩ (.string t142)).setCell ⟨go33,(t137:Int).toNat * 4+3,none⟩ (.slice Ao41 t143.length co41)) g s0_0 t146):=⟨by repeat (first|(with_reducible first|exact HI0.out|apply IsS66.alloc|apply IsS66.drewN|apply IsS66.drew|apply IsS66.set_1|refine IsS66.far ?_ HN0_go33.out _|refine IsS66.far ?_ HN0_go33.out _|refine IsS66.far ?_ HN0_go33.out _|refine IsS66.far ?_ HN0_go33.out _|refine IsS66.far ?_ NB0_126.out _|refine IsS66.far ?_ NB0_127.out _|refine IsS66.far ?_ NB0_134.out _)|exact HI0.out)⟩
      have n6_:Aside0 (KeepBut w ((((w40.setCell ⟨go33,(t137:Int).toNat * 4,none⟩ (.int .i64 t140)).setCell ⟨go33,(t137:Int).toNat * 4+1,none⟩ (.int .i64 t141)).setCell ⟨go33,(t137:Int).toNat * 4+2,none⟩ (.string t142)).setCell ⟨go33,(t137:Int).toNat * 4+3,none⟩ (.slice Ao41 t143.length co41)) g none):=⟨by repeat (first|(with_reducible first|exact HK.out|apply KeepBut.set_|apply keep_drewN|apply keep_drew|apply keep_alloc|refine keep_far ?_ GB33.out _|refine keep_far ?_ GB33.out _|refine keep_far ?_ GB33.out _|refine keep_far ?_ GB33.out _|refine keep_far ?_ GW126.out _|refine keep_far ?_ GW127.out _|refine keep_far ?_ GW134.out _)|exact HK.out)⟩
      have n7_:Aside0 (Below w0.heap.size w0 ((((w40.setCell ⟨go33,(t137:Int).toNat * 4,none⟩ (.int .i64 t140)).setCell ⟨go33,(t137:Int).toNat * 4+1,none⟩ (.int .i64 t141)).setCell ⟨go33,(t137:Int).toNat * 4+2,none⟩ (.string t142)).setCell ⟨go33,(t137:Int).toNat * 4+3,none⟩ (.slice Ao41 t143.length co41))):=⟨by repeat (first|(with_reducible first|exact HB.out|apply below_alloc|apply pw_below_drewN|apply below_drew1|refine below_set ?_ (Nat.le_trans HL.out GB33.out)|refine below_set ?_ (Nat.le_trans HL.out GB33.out)|refine below_set ?_ (Nat.le_trans HL.out GB33.out)|refine below_set ?_ (Nat.le_trans HL.out GB33.out)|refine below_set ?_ (IsS66.ge HI0.out)|refine below_set ?_ GE126.out|refine below_set ?_ GE127.out|refine below_set ?_ GE134.out)|exact HB.out)⟩
      (try clear HO_135003)
      (try clear HL139_3)
      (try clear BK126)
      (try clear BK127)
      (try clear BK134)
      (try clear HI0)
      (try clear HK)
      (try clear HB)
      generalize ((((w40.setCell ⟨go33,(t137:Int).toNat * 4,none⟩ (.int .i64 t140)).setCell ⟨go33,(t137:Int).toNat * 4+1,none⟩ (.int .i64 t141)).setCell ⟨go33,(t137:Int).toNat * 4+2,none⟩ (.string t142)).setCell ⟨go33,(t137:Int).toNat * 4+3,none⟩ (.slice Ao41 t143.length co41))=w43 at n0_ n1_ n2_ n3_ n4_ n5_ n6_ n7_ ⊢
      have HO_135003:=n0_
      have HL139_3:=n1_
      have BK126:=n2_
      have BK127:=n3_
      have BK134:=n4_
      have HI0:=n5_
      have HK:=n6_
      have HB:=n7_
      clear n0_ n1_ n2_ n3_ n4_ n5_ n6_ n7_
      have hcz44_0:w43.cell? ⟨gb134,0,none⟩=some (.int .i64 t128):=(blk_cell BK134.out 0).trans rfl
      have hcz44_1:w43.cell? ⟨gb134,1,none⟩=some (.int .i64 t129):=(blk_cell BK134.out 1).trans rfl
      have hcz44_2:w43.cell? ⟨gb134,2,none⟩=some (.string t130):=(blk_cell BK134.out 2).trans rfl
      have hcz44_3:w43.cell? ⟨gb134,3,none⟩=some (.slice (some ⟨go33,0,none⟩) t131.length co16):=(blk_cell BK134.out 3).trans rfl
      have hfz44_0:=blk_frozen BK134.out 0
      have hfz44_1:=blk_frozen BK134.out 1
      have hfz44_2:=blk_frozen BK134.out 2
      have hfz44_3:=blk_frozen BK134.out 3
      have hnb45:=NB127_126.out
      have hnc45:=NB126_127.out
      have hnb46:=NB127_0.out
      have hnc46:=NB0_127.out
      have hcz47_0:w43.cell? ⟨gb127,0,none⟩=some (.int .i64 0):=(blk_cell BK127.out 0).trans rfl
      have hcz47_1:w43.cell? ⟨gb127,1,none⟩=some (.int .i64 0):=(blk_cell BK127.out 1).trans rfl
      have hcz47_2:w43.cell? ⟨gb127,2,none⟩=some (.string (⟨#[]⟩:ByteArray)):=(blk_cell BK127.out 2).trans rfl
      have hcz47_3:w43.cell? ⟨gb127,3,none⟩=some (.slice none 0 0):=(blk_cell BK127.out 3).trans rfl
      have hfz47_0:=blk_frozen BK127.out 0
      have hfz47_1:=blk_frozen BK127.out 1
      have hfz47_2:=blk_frozen BK127.out 2
      have hfz47_3:=blk_frozen BK127.out 3
      try go_wp2
      refine bodyPost_ret (results_cell_row rfl _ _ gb127 27 #[.int .i64 t128,.int .i64 t129,.string t130,.slice (some ⟨go33,0,none⟩) t131.length co16] (0,0) _ rfl (by (with_reducible repeat (first|refine blk_drewN ?_ _|refine blk_drew ?_|refine blk_alloc ?_ _));refine blk_put (cs:=#[.int .i64 t128,.int .i64 t129,.string t130,.slice none 0 0]) ?_ 3 _ rfl;(with_reducible repeat (first|refine blk_drewN ?_ _|refine blk_drew ?_|refine blk_alloc ?_ _));refine blk_put (cs:=#[.int .i64 t128,.int .i64 t129,.string (⟨#[]⟩:ByteArray),.slice none 0 0]) ?_ 2 _ rfl;(with_reducible repeat (first|refine blk_drewN ?_ _|refine blk_drew ?_|refine blk_alloc ?_ _));refine blk_put (cs:=#[.int .i64 t128,.int .i64 0,.string (⟨#[]⟩:ByteArray),.slice none 0 0]) ?_ 1 _ rfl;(with_reducible repeat (first|refine blk_drewN ?_ _|refine blk_drew ?_|refine blk_alloc ?_ _));refine blk_put (cs:=#[.int .i64 0,.int .i64 0,.string (⟨#[]⟩:ByteArray),.slice none 0 0]) ?_ 0 _ rfl;(with_reducible repeat (first|refine blk_drewN ?_ _|refine blk_drew ?_|refine blk_alloc ?_ _));exact BK127.out) Try.underlying27 rfl (by kernel_rfl)) rfl ?_
      exact ⟨_,by first|rfl|(simp [errW_none,errW_some] <;> rfl)|(simp [*,errW_none,errW_some] <;> rfl),by (with_reducible repeat (first|apply Kd.N_alloc|apply Kd.N_drewN|apply Kd.N_drew));exact Kd.N_mono (Kd.N_far (p:=⟨gb127,3,none⟩) (Kd.N_far (p:=⟨gb127,2,none⟩) (Kd.N_far (p:=⟨gb127,1,none⟩) (Kd.N_far (p:=⟨gb127,0,none⟩) (Kd.N_mono HO_135003.out (fun k_ hk=>(⟨hk,hk.2.2.1⟩:_∧k_≠gb127))) (fun _ hk=>hk.2) (.int .i64 t128)) (fun _ hk=>hk.2) (.int .i64 t129)) (fun _ hk=>hk.2) (.string t130)) (fun _ hk=>hk.2) (.slice (some ⟨go33,0,none⟩) t131.length co16)) (fun _ hk=>hk.1.1),by repeat (first|(with_reducible first|exact HI0.out|apply IsS66.alloc|apply IsS66.drewN|apply IsS66.drew|apply IsS66.set_1|refine IsS66.far ?_ NB0_126.out _|refine IsS66.far ?_ NB0_127.out _|refine IsS66.far ?_ NB0_134.out _)|exact HI0.out),by repeat (first|(with_reducible first|exact HB.out|apply below_alloc|apply pw_below_drewN|apply below_drew1|refine below_set ?_ (IsS66.ge HI0.out)|refine below_set ?_ GE126.out|refine below_set ?_ GE127.out|refine below_set ?_ GE134.out)|exact HB.out),by repeat (first|(with_reducible first|exact HK.out|apply KeepBut.set_|apply keep_drewN|apply keep_drew|apply keep_alloc|refine keep_far ?_ GW126.out _|refine keep_far ?_ GW127.out _|refine keep_far ?_ GW134.out _)|exact HK.out)⟩
     ·rw [if_neg c31] at H
      exact absurd H (by simp)
    ·rw [if_neg c30] at H
     exact absurd H (by simp)
   ·replace c28:=Bool.eq_false_iff.mpr c28
    subst c28
    have H1:((spec_l15Rd_pick.f kj3 s0_0 x1001_3 14).bind fun bt148=>(if bt148.1=0 then ((spec_l15Rd_num.f kj3 s0_0 bt148.2 (([0,9,1,3,7]:List Int))).bind fun bt153=>(some (bt153.1,t129,t130,t131,bt153.2))) else (if bt148.1=1 then ((spec_l15Rd_num.f kj3 s0_0 bt148.2 (([10,(-1),1]:List Int))).bind fun bt158=>(some (t128,bt158.1,t130,t131,bt158.2))) else (if bt148.1=2 then ((spec_l15Rd_of.f kj3 s0_0 bt148.2 (([(⟨#[]⟩:ByteArray),(⟨#[65]⟩:ByteArray),(⟨#[97,98,99,100,101,102,103,104,105,106,107,108,109]⟩:ByteArray),(⟨#[120,32,121]⟩:ByteArray),(⟨#[122]⟩:ByteArray)]:List ByteArray))).bind fun bt163=>(some (t128,t129,bt163.1,t131,bt163.2))) else (if bt148.1=3 then (if t131.length<2513169434916 then (some (t128,t129,t130,(t131++[(⟨1,0,(⟨#[]⟩:ByteArray),([]:List (SDoc))⟩:SDoc)]),bt148.2)) else (none)) else (some (t128,t129,t130,t131,bt148.2)))))))=some (r1,r2,r3,r4,r5):=by rw [if_neg (show ¬ (false=true) by decide)] at H;exact H
    clear H
    have H:=H1
    clear H1
    replace H:=Option.bind_eq_some_iff.mp H
    obtain ⟨⟨t148,t149⟩,A480,H⟩:=H
    replace H:(if t148=0 then ((spec_l15Rd_num.f kj3 s0_0 t149 (([0,9,1,3,7]:List Int))).bind fun bt153=>(some (bt153.1,t129,t130,t131,bt153.2))) else (if t148=1 then ((spec_l15Rd_num.f kj3 s0_0 t149 (([10,(-1),1]:List Int))).bind fun bt158=>(some (t128,bt158.1,t130,t131,bt158.2))) else (if t148=2 then ((spec_l15Rd_of.f kj3 s0_0 t149 (([(⟨#[]⟩:ByteArray),(⟨#[65]⟩:ByteArray),(⟨#[97,98,99,100,101,102,103,104,105,106,107,108,109]⟩:ByteArray),(⟨#[120,32,121]⟩:ByteArray),(⟨#[122]⟩:ByteArray)]:List ByteArray))).bind fun bt163=>(some (t128,t129,bt163.1,t131,bt163.2))) else (if t148=3 then (if t131.length<2513169434916 then (some (t128,t129,t130,(t131++[(⟨1,0,(⟨#[]⟩:ByteArray),([]:List (SDoc))⟩:SDoc)]),t149)) else (none)) else (some (t128,t129,t130,t131,t149))))))=some (r1,r2,r3,r4,r5):=H
    have A48:=Aside0.mk A480
    clear A480
    by_cases c49:t148=0
    ·rw [if_pos c49] at H
     have c49b0:(t148 == 0)=true:=beq_iff_eq.mpr c49
     have c49b1:(t148 != 0)=false:=bne_eq_false_iff_eq.mpr c49
     clear c49
     obtain ⟨y150,hy150⟩:∃ y_:List Int,y_=(([0,9,1,3,7]:List Int)):=⟨_,rfl⟩
     replace H:((spec_l15Rd_num.f kj3 s0_0 t149 y150).bind fun bt153=>(some (bt153.1,t129,t130,t131,bt153.2)))=some (r1,r2,r3,r4,r5):=by first|(rw [hy150];with_reducible exact H)|(have H2_:=(Option.bind_some _ _).symm.trans H;rw [hy150];with_reducible exact H2_)|(have H2_:=(Option.bind_some _ _).symm.trans H;with_reducible exact H2_)|with_reducible exact H|(rw [hy150];exact H)|exact H
     have Ny150:=Aside0.mk hy150
     clear hy150
     replace H:=Option.bind_eq_some_iff.mp H
     obtain ⟨⟨t153,t154⟩,A500,H⟩:=H
     replace H:(some (t153,t129,t130,t131,t154))=some (r1,r2,r3,r4,r5):=H
     have A50:=Aside0.mk A500
     clear A500
     simp only [Option.some.injEq,Prod.mk.injEq] at H
     obtain ⟨rfl,rfl,rfl,rfl,rfl⟩:=H
     go_wp2_with (first|((with_reducible refine gate_callee (f:=55) rfl ?_);refine goesL_ (some 36) rfl rfl Try.func55 (by kernel_rfl) rfl #[.pointer (some ⟨g,0,none⟩),.int .i64 14] rfl (by (try simp only [List.map_toArray,List.map_cons,List.map_nil]);first|done|rfl|(simp only [List.length_drop,List.length_take];rfl)) ?_;(with_reducible refine (spec_l15Rd_pick.calls kj3 g s0_0 x1001_3 14 t148 t149 w0 _ ?side1 ?side2 A48.out).mono ?_);(case side1=>repeat (first|(with_reducible first|exact HI0.out|apply IsS66.alloc|apply IsS66.drewN|apply IsS66.drew|apply IsS66.set_1|refine IsS66.far ?_ NB0_126.out _|refine IsS66.far ?_ NB0_127.out _|refine IsS66.far ?_ NB0_134.out _)|exact HI0.out));(case side2=>repeat (first|(with_reducible first|exact HB.out|apply below_alloc|apply pw_below_drewN|apply below_drew1|refine below_set ?_ (IsS66.ge HI0.out)|refine below_set ?_ GE126.out|refine below_set ?_ GE127.out|refine below_set ?_ GE134.out)|exact HB.out));rintro e w51 ⟨rfl,hi,hb,hk⟩;refine ⟨_,rfl,?_⟩;have n0_:=Aside0.mk (Kd.N_mono (Kd.N_keep (Kd.N_mono (ok:=fun k_=>(((w.heap.size≤k_))∧(k_≠gb126∧(k_≠gb127∧(k_≠gb134∧k_≠g))))) (by (with_reducible repeat (first|apply Kd.N_alloc|apply Kd.N_drewN|apply Kd.N_drew));exact HO_135003.out) (fun k_ hk_=>(⟨hk_,hk_.2.2.2.2⟩:_∧k_≠g))) hk (fun _ h=>h.2)) (fun _ h=>h.1));have n1_:=Aside0.mk (KeepBut.blk hk (g':=gb126) (o:=.cells #[.int .i64 a1_0,.int .i64 a1_1,.string a1_2,.slice A1_3 l1_3.length c1_3] 27 (0,0)) (by (with_reducible repeat (first|refine blk_drewN ?_ _|refine blk_drew ?_|refine blk_alloc ?_ _));exact BK126.out) NB126_0.out (by simp));have n2_:=Aside0.mk (KeepBut.blk hk (g':=gb127) (o:=.cells #[.int .i64 0,.int .i64 0,.string (⟨#[]⟩:ByteArray),.slice none 0 0] 27 (0,0)) (by (with_reducible repeat (first|refine blk_drewN ?_ _|refine blk_drew ?_|refine blk_alloc ?_ _));exact BK127.out) NB127_0.out (by simp));have n3_:=Aside0.mk (KeepBut.blk hk (g':=gb134) (o:=.cells #[.int .i64 t128,.int .i64 t129,.string t130,.slice Ao16 t131.length co16] 27 (0,0)) (by (with_reducible repeat (first|refine blk_drewN ?_ _|refine blk_drew ?_|refine blk_alloc ?_ _));exact BK134.out) NB134_0.out (by simp));have n4_:=Aside0.mk (KeepBut.trans (by repeat (first|(with_reducible first|exact HK.out|apply KeepBut.set_|apply keep_drewN|apply keep_drew|apply keep_alloc|refine keep_far ?_ GW126.out _|refine keep_far ?_ GW127.out _|refine keep_far ?_ GW134.out _)|exact HK.out)) hk (.inl rfl));have n5_:=Aside0.mk (hb);have n6_:=Aside0.mk (hi);clear HO_135003;clear BK126;clear BK127;clear BK134;clear HK;clear HB;clear HI0;have HO_135003:=n0_;have BK126:=n1_;have BK127:=n2_;have BK134:=n3_;have HK:=n4_;have HB:=n5_;have HI0:=n6_;clear n0_ n1_ n2_ n3_ n4_ n5_ n6_;(try clear hb);(try clear hb2);(try clear hk);(try clear hi))|((with_reducible refine gate_dst (N:=40) rfl ?_);refine Kd.R_lit (Kd.int .i64) _ 3 ?hg (N:=40) ?hd (xs:=([0,9,1,3,7]:List Int)) (inner:=[.int .i64 0,.int .i64 9,.int .i64 1,.int .i64 3,.int .i64 7]) (ok:=fun _=>True) (okp:=fun _=>True) ?hr ?hp (fun _ hk=>hk) trivial (Below.refl _ _) (Nat.le_refl _) (by simp) ?_;(case hd=>rfl);(case hg=>rfl);(case hr=>first|(go_simp;done)|(go_simp;rfl));(case hp=>exact (Reps.one (show Kd.M (Kd.int .i64) _ _ _ 0 [.int .i64 0] from rfl) (Reps.one (show Kd.M (Kd.int .i64) _ _ _ 9 [.int .i64 9] from rfl) (Reps.one (show Kd.M (Kd.int .i64) _ _ _ 1 [.int .i64 1] from rfl) (Reps.one (show Kd.M (Kd.int .i64) _ _ _ 3 [.int .i64 3] from rfl) (Reps.one (show Kd.M (Kd.int .i64) _ _ _ 7 [.int .i64 7] from rfl) (Reps.none _ _)))))));intro v151 w52 ho53 hb hg_ hnew_;clear hg_ hnew_;(first|rw [← Ny150.out] at ho53|(simp only [Int.reduceToNat] at ho53;rw [← Ny150.out] at ho53));have n0_:=Aside0.mk (Kd.N_elder' (by (with_reducible repeat (first|apply Kd.N_alloc|apply Kd.N_drewN|apply Kd.N_drew));exact HO_135003.out) (Kd.R_base ho53) hb);have n1_:=Aside0.mk (Kd.R_lower (Kd.R_newM (M:=fun k_=>(w.heap.size≤k_)) ho53 (keep_size (w:=w) (g:=g) (row:=none) (by repeat (first|(with_reducible first|exact HK.out|apply KeepBut.set_|apply keep_drewN|apply keep_drew|apply keep_alloc|refine keep_far ?_ GW126.out _|refine keep_far ?_ GW127.out _|refine keep_far ?_ GW134.out _)|exact HK.out))) (fun k_ h_=>h_)) (keep_size (w:=w) (g:=g) (row:=none) (by repeat (first|(with_reducible first|exact HK.out|apply KeepBut.set_|apply keep_drewN|apply keep_drew|apply keep_alloc|refine keep_far ?_ GW126.out _|refine keep_far ?_ GW127.out _|refine keep_far ?_ GW134.out _)|exact HK.out))));have n2_:=Aside0.mk (blk_below (g:=gb126) (o:=.cells #[.int .i64 a1_0,.int .i64 a1_1,.string a1_2,.slice A1_3 l1_3.length c1_3] 27 (0,0)) (by (with_reducible repeat (first|refine blk_drewN ?_ _|refine blk_drew ?_|refine blk_alloc ?_ _));exact BK126.out) hb);have n3_:=Aside0.mk (blk_below (g:=gb127) (o:=.cells #[.int .i64 0,.int .i64 0,.string (⟨#[]⟩:ByteArray),.slice none 0 0] 27 (0,0)) (by (with_reducible repeat (first|refine blk_drewN ?_ _|refine blk_drew ?_|refine blk_alloc ?_ _));exact BK127.out) hb);have n4_:=Aside0.mk (blk_below (g:=gb134) (o:=.cells #[.int .i64 t128,.int .i64 t129,.string t130,.slice Ao16 t131.length co16] 27 (0,0)) (by (with_reducible repeat (first|refine blk_drewN ?_ _|refine blk_drew ?_|refine blk_alloc ?_ _));exact BK134.out) hb);have n5_:=Aside0.mk (IsS66.below (by repeat (first|(with_reducible first|exact HI0.out|apply IsS66.alloc|apply IsS66.drewN|apply IsS66.drew|apply IsS66.set_1|refine IsS66.far ?_ NB0_126.out _|refine IsS66.far ?_ NB0_127.out _|refine IsS66.far ?_ NB0_134.out _)|exact HI0.out)) hb);have n6_:=Aside0.mk (KeepBut.trans (by repeat (first|(with_reducible first|exact HK.out|apply KeepBut.set_|apply keep_drewN|apply keep_drew|apply keep_alloc|refine keep_far ?_ GW126.out _|refine keep_far ?_ GW127.out _|refine keep_far ?_ GW134.out _)|exact HK.out)) (KeepBut.of_below hb g none) (.inl rfl));have n7_:=Aside0.mk (below_step (by repeat (first|(with_reducible first|exact HB.out|apply below_alloc|apply pw_below_drewN|apply below_drew1|refine below_set ?_ (IsS66.ge HI0.out)|refine below_set ?_ GE126.out|refine below_set ?_ GE127.out|refine below_set ?_ GE134.out)|exact HB.out)) hb);clear HO_135003;clear BK126;clear BK127;clear BK134;clear HI0;clear HK;clear HB;have HO_135003:=n0_;have HO152:=n1_;have BK126:=n2_;have BK127:=n3_;have BK134:=n4_;have HI0:=n5_;have HK:=n6_;have HB:=n7_;clear n0_ n1_ n2_ n3_ n4_ n5_ n6_ n7_;clear hb ho53;obtain ⟨Ao54,co54,eo54⟩:=Kd.R_slice HO152.out;subst eo54)|((with_reducible refine gate_callee (f:=49) rfl ?_);refine goesL_ (some 41) rfl rfl Try.func49 (by kernel_rfl) rfl #[.pointer (some ⟨g,0,none⟩),.slice Ao54 y150.length co54] rfl (by (try simp only [List.map_toArray,List.map_cons,List.map_nil]);first|done|rfl|(simp only [List.length_drop,List.length_take];rfl)) ?_;(with_reducible refine (spec_l15Rd_num.calls kj3 g s0_0 t149 _ _ y150 t153 t154 w0 _ ?side1 ?side2 ?side3 ?side4 ?side5 A50.out).mono ?_);(case side1=>repeat (first|(with_reducible first|exact HI0.out|apply IsS66.alloc|apply IsS66.drewN|apply IsS66.drew|apply IsS66.set_1|refine IsS66.far ?_ NB0_126.out _|refine IsS66.far ?_ NB0_127.out _|refine IsS66.far ?_ NB0_134.out _)|exact HI0.out));(case side2=>repeat (first|(with_reducible first|exact HB.out|apply below_alloc|apply pw_below_drewN|apply below_drew1|refine below_set ?_ (IsS66.ge HI0.out)|refine below_set ?_ GE126.out|refine below_set ?_ GE127.out|refine below_set ?_ GE134.out)|exact HB.out));(case side3=>repeat (first|exact (Kd.R_reads' HO152.out).2.2|(with_reducible refine Kd.C_alloc ?_ _)|(with_reducible refine Kd.C_drewN ?_ _)|(with_reducible refine Kd.C_drew ?_)));(case side4=>exact (Kd.R_reads' HO152.out).2.1);(case side5=>exact far_slice (IsS66.own_ne HI0.out HO152.out (by decide)));rintro e w55 ⟨rfl,hi,hb,hk⟩;refine ⟨_,rfl,?_⟩;have n0_:=Aside0.mk (Kd.N_mono (Kd.N_keep (Kd.N_mono (ok:=fun k_=>((((w.heap.size≤k_))∧(k_≠gb126∧(k_≠gb127∧(k_≠gb134∧k_≠g))))∧some k_≠(.slice Ao54 y150.length co54:Value).ownBlock)) (by (with_reducible repeat (first|apply Kd.N_alloc|apply Kd.N_drewN|apply Kd.N_drew));exact HO_135003.out) (fun k_ hk_=>(⟨hk_,hk_.1.2.2.2.2⟩:_∧k_≠g))) hk (fun _ h=>h.2)) (fun _ h=>h.1));have n1_:=Aside0.mk (KeepBut.blk hk (g':=gb126) (o:=.cells #[.int .i64 a1_0,.int .i64 a1_1,.string a1_2,.slice A1_3 l1_3.length c1_3] 27 (0,0)) (by (with_reducible repeat (first|refine blk_drewN ?_ _|refine blk_drew ?_|refine blk_alloc ?_ _));exact BK126.out) NB126_0.out (by simp));have n2_:=Aside0.mk (KeepBut.blk hk (g':=gb127) (o:=.cells #[.int .i64 0,.int .i64 0,.string (⟨#[]⟩:ByteArray),.slice none 0 0] 27 (0,0)) (by (with_reducible repeat (first|refine blk_drewN ?_ _|refine blk_drew ?_|refine blk_alloc ?_ _));exact BK127.out) NB127_0.out (by simp));have n3_:=Aside0.mk (KeepBut.blk hk (g':=gb134) (o:=.cells #[.int .i64 t128,.int .i64 t129,.string t130,.slice Ao16 t131.length co16] 27 (0,0)) (by (with_reducible repeat (first|refine blk_drewN ?_ _|refine blk_drew ?_|refine blk_alloc ?_ _));exact BK134.out) NB134_0.out (by simp));have n4_:=Aside0.mk (Kd.R_mono (Kd.R_keep (IsS66.apart (show IsS66 w0 _ g s0_0 t149 from by repeat (first|(with_reducible first|exact HI0.out|apply IsS66.alloc|apply IsS66.drewN|apply IsS66.drew|apply IsS66.set_1|refine IsS66.far ?_ NB0_126.out _|refine IsS66.far ?_ NB0_127.out _|refine IsS66.far ?_ NB0_134.out _)|exact HI0.out)) (by (with_reducible repeat (first|apply Kd.R_alloc|apply Kd.R_drewN|apply Kd.R_drew));exact HO152.out) (by decide)) hk (fun _ h=>h.2)) (fun _ h=>h.1));have n5_:=Aside0.mk (KeepBut.trans (by repeat (first|(with_reducible first|exact HK.out|apply KeepBut.set_|apply keep_drewN|apply keep_drew|apply keep_alloc|refine keep_far ?_ GW126.out _|refine keep_far ?_ GW127.out _|refine keep_far ?_ GW134.out _)|exact HK.out)) hk (.inl rfl));have n6_:=Aside0.mk (hb);have n7_:=Aside0.mk (hi);clear HO_135003;clear BK126;clear BK127;clear BK134;clear HO152;clear HK;clear HB;clear HI0;have HO_135003:=n0_;have BK126:=n1_;have BK127:=n2_;have BK134:=n3_;have HO152:=n4_;have HK:=n5_;have HB:=n6_;have HI0:=n7_;clear n0_ n1_ n2_ n3_ n4_ n5_ n6_ n7_;(try clear hb);(try clear hb2);(try clear hk);(try clear hi);have hnb56:=NB134_126.out;have hnc56:=NB126_134.out;have hnb57:=NB134_127.out;have hnc57:=NB127_134.out;have hnb58:=NB134_0.out;have hnc58:=NB0_134.out;have hcz59_0:w55.cell? ⟨gb134,0,none⟩=some (.int .i64 t128):=(blk_cell BK134.out 0).trans rfl;have hcz59_1:w55.cell? ⟨gb134,1,none⟩=some (.int .i64 t129):=(blk_cell BK134.out 1).trans rfl;have hcz59_2:w55.cell? ⟨gb134,2,none⟩=some (.string t130):=(blk_cell BK134.out 2).trans rfl;have hcz59_3:w55.cell? ⟨gb134,3,none⟩=some (.slice Ao16 t131.length co16):=(blk_cell BK134.out 3).trans rfl;have hfz59_0:=blk_frozen BK134.out 0;have hfz59_1:=blk_frozen BK134.out 1;have hfz59_2:=blk_frozen BK134.out 2;have hfz59_3:=blk_frozen BK134.out 3;have hnb60:=NB127_126.out;have hnc60:=NB126_127.out;have hnb61:=NB127_0.out;have hnc61:=NB0_127.out;have hcz62_0:w55.cell? ⟨gb127,0,none⟩=some (.int .i64 0):=(blk_cell BK127.out 0).trans rfl;have hcz62_1:w55.cell? ⟨gb127,1,none⟩=some (.int .i64 0):=(blk_cell BK127.out 1).trans rfl;have hcz62_2:w55.cell? ⟨gb127,2,none⟩=some (.string (⟨#[]⟩:ByteArray)):=(blk_cell BK127.out 2).trans rfl;have hcz62_3:w55.cell? ⟨gb127,3,none⟩=some (.slice none 0 0):=(blk_cell BK127.out 3).trans rfl;have hfz62_0:=blk_frozen BK127.out 0;have hfz62_1:=blk_frozen BK127.out 1;have hfz62_2:=blk_frozen BK127.out 2;have hfz62_3:=blk_frozen BK127.out 3))
     refine bodyPost_ret (results_cell_row rfl _ _ gb127 27 #[.int .i64 t153,.int .i64 t129,.string t130,.slice Ao16 t131.length co16] (0,0) _ rfl (by (with_reducible repeat (first|refine blk_drewN ?_ _|refine blk_drew ?_|refine blk_alloc ?_ _));refine blk_put (cs:=#[.int .i64 t153,.int .i64 t129,.string t130,.slice none 0 0]) ?_ 3 _ rfl;(with_reducible repeat (first|refine blk_drewN ?_ _|refine blk_drew ?_|refine blk_alloc ?_ _));refine blk_put (cs:=#[.int .i64 t153,.int .i64 t129,.string (⟨#[]⟩:ByteArray),.slice none 0 0]) ?_ 2 _ rfl;(with_reducible repeat (first|refine blk_drewN ?_ _|refine blk_drew ?_|refine blk_alloc ?_ _));refine blk_put (cs:=#[.int .i64 t153,.int .i64 0,.string (⟨#[]⟩:ByteArray),.slice none 0 0]) ?_ 1 _ rfl;(with_reducible repeat (first|refine blk_drewN ?_ _|refine blk_drew ?_|refine blk_alloc ?_ _));refine blk_put (cs:=#[.int .i64 0,.int .i64 0,.string (⟨#[]⟩:ByteArray),.slice none 0 0]) ?_ 0 _ rfl;(with_reducible repeat (first|refine blk_drewN ?_ _|refine blk_drew ?_|refine blk_alloc ?_ _));refine blk_far ?_ NB127_134.out _;(with_reducible repeat (first|refine blk_drewN ?_ _|refine blk_drew ?_|refine blk_alloc ?_ _));exact BK127.out) Try.underlying27 rfl (by kernel_rfl)) rfl ?_
     exact ⟨_,by first|rfl|(simp [errW_none,errW_some] <;> rfl)|(simp [*,errW_none,errW_some] <;> rfl),by (with_reducible repeat (first|apply Kd.N_alloc|apply Kd.N_drewN|apply Kd.N_drew));exact Kd.N_mono (Kd.N_far (p:=⟨gb127,3,none⟩) (Kd.N_far (p:=⟨gb127,2,none⟩) (Kd.N_far (p:=⟨gb127,1,none⟩) (Kd.N_far (p:=⟨gb127,0,none⟩) (Kd.N_far (p:=⟨gb134,0,none⟩) (Kd.N_mono (Kd.N_mono HO_135003.out (fun k_ hk=>(⟨hk,hk.1.2.2.2.1⟩:_∧k_≠gb134))) (fun k_ hk=>(⟨hk,hk.1.1.2.2.1⟩:_∧k_≠gb127))) (fun _ hk=>hk.1.2) (.int .i64 t153)) (fun _ hk=>hk.2) (.int .i64 t153)) (fun _ hk=>hk.2) (.int .i64 t129)) (fun _ hk=>hk.2) (.string t130)) (fun _ hk=>hk.2) (.slice Ao16 t131.length co16)) (fun _ hk=>hk.1.1.1.1),by repeat (first|(with_reducible first|exact HI0.out|apply IsS66.alloc|apply IsS66.drewN|apply IsS66.drew|apply IsS66.set_1|refine IsS66.far ?_ NB0_126.out _|refine IsS66.far ?_ NB0_127.out _|refine IsS66.far ?_ NB0_134.out _)|exact HI0.out),by repeat (first|(with_reducible first|exact HB.out|apply below_alloc|apply pw_below_drewN|apply below_drew1|refine below_set ?_ (IsS66.ge HI0.out)|refine below_set ?_ GE126.out|refine below_set ?_ GE127.out|refine below_set ?_ GE134.out)|exact HB.out),by repeat (first|(with_reducible first|exact HK.out|apply KeepBut.set_|apply keep_drewN|apply keep_drew|apply keep_alloc|refine keep_far ?_ GW126.out _|refine keep_far ?_ GW127.out _|refine keep_far ?_ GW134.out _)|exact HK.out)⟩
    ·rw [if_neg c49] at H
     have c49b0:(t148 == 0)=false:=beq_eq_false_iff_ne.mpr c49
     have c49b1:(t148 != 0)=true:=bne_iff_ne.mpr c49
     by_cases c63:t148=1
     ·rw [if_pos c63] at H
      have c63b0:(t148 == 1)=true:=beq_iff_eq.mpr c63
      have c63b1:(t148 != 1)=false:=bne_eq_false_iff_eq.mpr c63
      clear c63
      obtain ⟨y155,hy155⟩:∃ y_:List Int,y_=(([10,(-1),1]:List Int)):=⟨_,rfl⟩
      replace H:((spec_l15Rd_num.f kj3 s0_0 t149 y155).bind fun bt158=>(some (t128,bt158.1,t130,t131,bt158.2)))=some (r1,r2,r3,r4,r5):=by first|(rw [hy155];with_reducible exact H)|(have H2_:=(Option.bind_some _ _).symm.trans H;rw [hy155];with_reducible exact H2_)|(have H2_:=(Option.bind_some _ _).symm.trans H;with_reducible exact H2_)|with_reducible exact H|(rw [hy155];exact H)|exact H
      have Ny155:=Aside0.mk hy155
      clear hy155
      replace H:=Option.bind_eq_some_iff.mp H
      obtain ⟨⟨t158,t159⟩,A640,H⟩:=H
      replace H:(some (t128,t158,t130,t131,t159))=some (r1,r2,r3,r4,r5):=H
      have A64:=Aside0.mk A640
      clear A640
      simp only [Option.some.injEq,Prod.mk.injEq] at H
      obtain ⟨rfl,rfl,rfl,rfl,rfl⟩:=H
      go_wp2_with (first|((with_reducible refine gate_callee (f:=55) rfl ?_);refine goesL_ (some 36) rfl rfl Try.func55 (by kernel_rfl) rfl #[.pointer (some ⟨g,0,none⟩),.int .i64 14] rfl (by (try simp only [List.map_toArray,List.map_cons,List.map_nil]);first|done|rfl|(simp only [List.length_drop,List.length_take];rfl)) ?_;(with_reducible refine (spec_l15Rd_pick.calls kj3 g s0_0 x1001_3 14 t148 t149 w0 _ ?side1 ?side2 A48.out).mono ?_);(case side1=>repeat (first|(with_reducible first|exact HI0.out|apply IsS66.alloc|apply IsS66.drewN|apply IsS66.drew|apply IsS66.set_1|refine IsS66.far ?_ NB0_126.out _|refine IsS66.far ?_ NB0_127.out _|refine IsS66.far ?_ NB0_134.out _)|exact HI0.out));(case side2=>repeat (first|(with_reducible first|exact HB.out|apply below_alloc|apply pw_below_drewN|apply below_drew1|refine below_set ?_ (IsS66.ge HI0.out)|refine below_set ?_ GE126.out|refine below_set ?_ GE127.out|refine below_set ?_ GE134.out)|exact HB.out));rintro e w65 ⟨rfl,hi,hb,hk⟩;refine ⟨_,rfl,?_⟩;have n0_:=Aside0.mk (Kd.N_mono (Kd.N_keep (Kd.N_mono (ok:=fun k_=>(((w.heap.size≤k_))∧(k_≠gb126∧(k_≠gb127∧(k_≠gb134∧k_≠g))))) (by (with_reducible repeat (first|apply Kd.N_alloc|apply Kd.N_drewN|apply Kd.N_drew));exact HO_135003.out) (fun k_ hk_=>(⟨hk_,hk_.2.2.2.2⟩:_∧k_≠g))) hk (fun _ h=>h.2)) (fun _ h=>h.1));have n1_:=Aside0.mk (KeepBut.blk hk (g':=gb126) (o:=.cells #[.int .i64 a1_0,.int .i64 a1_1,.string a1_2,.slice A1_3 l1_3.length c1_3] 27 (0,0)) (by (with_reducible repeat (first|refine blk_drewN ?_ _|refine blk_drew ?_|refine blk_alloc ?_ _));exact BK126.out) NB126_0.out (by simp));have n2_:=Aside0.mk (KeepBut.blk hk (g':=gb127) (o:=.cells #[.int .i64 0,.int .i64 0,.string (⟨#[]⟩:ByteArray),.slice none 0 0] 27 (0,0)) (by (with_reducible repeat (first|refine blk_drewN ?_ _|refine blk_drew ?_|refine blk_alloc ?_ _));exact BK127.out) NB127_0.out (by simp));have n3_:=Aside0.mk (KeepBut.blk hk (g':=gb134) (o:=.cells #[.int .i64 t128,.int .i64 t129,.string t130,.slice Ao16 t131.length co16] 27 (0,0)) (by (with_reducible repeat (first|refine blk_drewN ?_ _|refine blk_drew ?_|refine blk_alloc ?_ _));exact BK134.out) NB134_0.out (by simp));have n4_:=Aside0.mk (KeepBut.trans (by repeat (first|(with_reducible first|exact HK.out|apply KeepBut.set_|apply keep_drewN|apply keep_drew|apply keep_alloc|refine keep_far ?_ GW126.out _|refine keep_far ?_ GW127.out _|refine keep_far ?_ GW134.out _)|exact HK.out)) hk (.inl rfl));have n5_:=Aside0.mk (hb);have n6_:=Aside0.mk (hi);clear HO_135003;clear BK126;clear BK127;clear BK134;clear HK;clear HB;clear HI0;have HO_135003:=n0_;have BK126:=n1_;have BK127:=n2_;have BK134:=n3_;have HK:=n4_;have HB:=n5_;have HI0:=n6_;clear n0_ n1_ n2_ n3_ n4_ n5_ n6_;(try clear hb);(try clear hb2);(try clear hk);(try clear hi))|((with_reducible refine gate_dst (N:=46) rfl ?_);refine Kd.R_lit (Kd.int .i64) _ 3 ?hg (N:=46) ?hd (xs:=([10,(-1),1]:List Int)) (inner:=[.int .i64 10,.int .i64 (-1),.int .i64 1]) (ok:=fun _=>True) (okp:=fun _=>True) ?hr ?hp (fun _ hk=>hk) trivial (Below.refl _ _) (Nat.le_refl _) (by simp) ?_;(case hd=>rfl);(case hg=>rfl);(case hr=>first|(go_simp;done)|(go_simp;rfl));(case hp=>exact (Reps.one (show Kd.M (Kd.int .i64) _ _ _ 10 [.int .i64 10] from rfl) (Reps.one (show Kd.M (Kd.int .i64) _ _ _ (-1) [.int .i64 (-1)] from rfl) (Reps.one (show Kd.M (Kd.int .i64) _ _ _ 1 [.int .i64 1] from rfl) (Reps.none _ _)))));intro v156 w66 ho67 hb hg_ hnew_;clear hg_ hnew_;(first|rw [← Ny155.out] at ho67|(simp only [Int.reduceToNat] at ho67;rw [← Ny155.out] at ho67));have n0_:=Aside0.mk (Kd.N_elder' (by (with_reducible repeat (first|apply Kd.N_alloc|apply Kd.N_drewN|apply Kd.N_drew));exact HO_135003.out) (Kd.R_base ho67) hb);have n1_:=Aside0.mk (Kd.R_lower (Kd.R_newM (M:=fun k_=>(w.heap.size≤k_)) ho67 (keep_size (w:=w) (g:=g) (row:=none) (by repeat (first|(with_reducible first|exact HK.out|apply KeepBut.set_|apply keep_drewN|apply keep_drew|apply keep_alloc|refine keep_far ?_ GW126.out _|refine keep_far ?_ GW127.out _|refine keep_far ?_ GW134.out _)|exact HK.out))) (fun k_ h_=>h_)) (keep_size (w:=w) (g:=g) (row:=none) (by repeat (first|(with_reducible first|exact HK.out|apply KeepBut.set_|apply keep_drewN|apply keep_drew|apply keep_alloc|refine keep_far ?_ GW126.out _|refine keep_far ?_ GW127.out _|refine keep_far ?_ GW134.out _)|exact HK.out))));have n2_:=Aside0.mk (blk_below (g:=gb126) (o:=.cells #[.int .i64 a1_0,.int .i64 a1_1,.string a1_2,.slice A1_3 l1_3.length c1_3] 27 (0,0)) (by (with_reducible repeat (first|refine blk_drewN ?_ _|refine blk_drew ?_|refine blk_alloc ?_ _));exact BK126.out) hb);have n3_:=Aside0.mk (blk_below (g:=gb127) (o:=.cells #[.int .i64 0,.int .i64 0,.string (⟨#[]⟩:ByteArray),.slice none 0 0] 27 (0,0)) (by (with_reducible repeat (first|refine blk_drewN ?_ _|refine blk_drew ?_|refine blk_alloc ?_ _));exact BK127.out) hb);have n4_:=Aside0.mk (blk_below (g:=gb134) (o:=.cells #[.int .i64 t128,.int .i64 t129,.string t130,.slice Ao16 t131.length co16] 27 (0,0)) (by (with_reducible repeat (first|refine blk_drewN ?_ _|refine blk_drew ?_|refine blk_alloc ?_ _));exact BK134.out) hb);have n5_:=Aside0.mk (IsS66.below (by repeat (first|(with_reducible first|exact HI0.out|apply IsS66.alloc|apply IsS66.drewN|apply IsS66.drew|apply IsS66.set_1|refine IsS66.far ?_ NB0_126.out _|refine IsS66.far ?_ NB0_127.out _|refine IsS66.far ?_ NB0_134.out _)|exact HI0.out)) hb);have n6_:=Aside0.mk (KeepBut.trans (by repeat (first|(with_reducible first|exact HK.out|apply KeepBut.set_|apply keep_drewN|apply keep_drew|apply keep_alloc|refine keep_far ?_ GW126.out _|refine keep_far ?_ GW127.out _|refine keep_far ?_ GW134.out _)|exact HK.out)) (KeepBut.of_below hb g none) (.inl rfl));have n7_:=Aside0.mk (below_step (by repeat (first|(with_reducible first|exact HB.out|apply below_alloc|apply pw_below_drewN|apply below_drew1|refine below_set ?_ (IsS66.ge HI0.out)|refine below_set ?_ GE126.out|refine below_set ?_ GE127.out|refine below_set ?_ GE134.out)|exact HB.out)) hb);clear HO_135003;clear BK126;clear BK127;clear BK134;clear HI0;clear HK;clear HB;have HO_135003:=n0_;have HO157:=n1_;have BK126:=n2_;have BK127:=n3_;have BK134:=n4_;have HI0:=n5_;have HK:=n6_;have HB:=n7_;clear n0_ n1_ n2_ n3_ n4_ n5_ n6_ n7_;clear hb ho67;obtain ⟨Ao68,co68,eo68⟩:=Kd.R_slice HO157.out;subst eo68)|((with_reducible refine gate_callee (f:=49) rfl ?_);refine goesL_ (some 47) rfl rfl Try.func49 (by kernel_rfl) rfl #[.pointer (some ⟨g,0,none⟩),.slice Ao68 y155.length co68] rfl (by (try simp only [List.map_toArray,List.map_cons,List.map_nil]);first|done|rfl|(simp only [List.length_drop,List.length_take];rfl)) ?_;(with_reducible refine (spec_l15Rd_num.calls kj3 g s0_0 t149 _ _ y155 t158 t159 w0 _ ?side1 ?side2 ?side3 ?side4 ?side5 A64.out).mono ?_);(case side1=>repeat (first|(with_reducible first|exact HI0.out|apply IsS66.alloc|apply IsS66.drewN|apply IsS66.drew|apply IsS66.set_1|refine IsS66.far ?_ NB0_126.out _|refine IsS66.far ?_ NB0_127.out _|refine IsS66.far ?_ NB0_134.out _)|exact HI0.out));(case side2=>repeat (first|(with_reducible first|exact HB.out|apply below_alloc|apply pw_below_drewN|apply below_drew1|refine below_set ?_ (IsS66.ge HI0.out)|refine below_set ?_ GE126.out|refine below_set ?_ GE127.out|refine below_set ?_ GE134.out)|exact HB.out));(case side3=>repeat (first|exact (Kd.R_reads' HO157.out).2.2|(with_reducible refine Kd.C_alloc ?_ _)|(with_reducible refine Kd.C_drewN ?_ _)|(with_reducible refine Kd.C_drew ?_)));(case side4=>exact (Kd.R_reads' HO157.out).2.1);(case side5=>exact far_slice (IsS66.own_ne HI0.out HO157.out (by decide)));rintro e w69 ⟨rfl,hi,hb,hk⟩;refine ⟨_,rfl,?_⟩;have n0_:=Aside0.mk (Kd.N_mono (Kd.N_keep (Kd.N_mono (ok:=fun k_=>((((w.heap.size≤k_))∧(k_≠gb126∧(k_≠gb127∧(k_≠gb134∧k_≠g))))∧some k_≠(.slice Ao68 y155.length co68:Value).ownBlock)) (by (with_reducible repeat (first|apply Kd.N_alloc|apply Kd.N_drewN|apply Kd.N_drew));exact HO_135003.out) (fun k_ hk_=>(⟨hk_,hk_.1.2.2.2.2⟩:_∧k_≠g))) hk (fun _ h=>h.2)) (fun _ h=>h.1));have n1_:=Aside0.mk (KeepBut.blk hk (g':=gb126) (o:=.cells #[.int .i64 a1_0,.int .i64 a1_1,.string a1_2,.slice A1_3 l1_3.length c1_3] 27 (0,0)) (by (with_reducible repeat (first|refine blk_drewN ?_ _|refine blk_drew ?_|refine blk_alloc ?_ _));exact BK126.out) NB126_0.out (by simp));have n2_:=Aside0.mk (KeepBut.blk hk (g':=gb127) (o:=.cells #[.int .i64 0,.int .i64 0,.string (⟨#[]⟩:ByteArray),.slice none 0 0] 27 (0,0)) (by (with_reducible repeat (first|refine blk_drewN ?_ _|refine blk_drew ?_|refine blk_alloc ?_ _));exact BK127.out) NB127_0.out (by simp));have n3_:=Aside0.mk (KeepBut.blk hk (g':=gb134) (o:=.cells #[.int .i64 t128,.int .i64 t129,.string t130,.slice Ao16 t131.length co16] 27 (0,0)) (by (with_reducible repeat (first|refine blk_drewN ?_ _|refine blk_drew ?_|refine blk_alloc ?_ _));exact BK134.out) NB134_0.out (by simp));have n4_:=Aside0.mk (Kd.R_mono (Kd.R_keep (IsS66.apart (show IsS66 w0 _ g s0_0 t149 from by repeat (first|(with_reducible first|exact HI0.out|apply IsS66.alloc|apply IsS66.drewN|apply IsS66.drew|apply IsS66.set_1|refine IsS66.far ?_ NB0_126.out _|refine IsS66.far ?_ NB0_127.out _|refine IsS66.far ?_ NB0_134.out _)|exact HI0.out)) (by (with_reducible repeat (first|apply Kd.R_alloc|apply Kd.R_drewN|apply Kd.R_drew));exact HO157.out) (by decide)) hk (fun _ h=>h.2)) (fun _ h=>h.1));have n5_:=Aside0.mk (KeepBut.trans (by repeat (first|(with_reducible first|exact HK.out|apply KeepBut.set_|apply keep_drewN|apply keep_drew|apply keep_alloc|refine keep_far ?_ GW126.out _|refine keep_far ?_ GW127.out _|refine keep_far ?_ GW134.out _)|exact HK.out)) hk (.inl rfl));have n6_:=Aside0.mk (hb);have n7_:=Aside0.mk (hi);clear HO_135003;clear BK126;clear BK127;clear BK134;clear HO157;clear HK;clear HB;clear HI0;have HO_135003:=n0_;have BK126:=n1_;have BK127:=n2_;have BK134:=n3_;have HO157:=n4_;have HK:=n5_;have HB:=n6_;have HI0:=n7_;clear n0_ n1_ n2_ n3_ n4_ n5_ n6_ n7_;(try clear hb);(try clear hb2);(try clear hk);(try clear hi);have hnb70:=NB134_126.out;have hnc70:=NB126_134.out;have hnb71:=NB134_127.out;have hnc71:=NB127_134.out;have hnb72:=NB134_0.out;have hnc72:=NB0_134.out;have hcz73_0:w69.cell? ⟨gb134,0,none⟩=some (.int .i64 t128):=(blk_cell BK134.out 0).trans rfl;have hcz73_1:w69.cell? ⟨gb134,1,none⟩=some (.int .i64 t129):=(blk_cell BK134.out 1).trans rfl;have hcz73_2:w69.cell? ⟨gb134,2,none⟩=some (.string t130):=(blk_cell BK134.out 2).trans rfl;have hcz73_3:w69.cell? ⟨gb134,3,none⟩=some (.slice Ao16 t131.length co16):=(blk_cell BK134.out 3).trans rfl;have hfz73_0:=blk_frozen BK134.out 0;have hfz73_1:=blk_frozen BK134.out 1;have hfz73_2:=blk_frozen BK134.out 2;have hfz73_3:=blk_frozen BK134.out 3;have hnb74:=NB127_126.out;have hnc74:=NB126_127.out;have hnb75:=NB127_0.out;have hnc75:=NB0_127.out;have hcz76_0:w69.cell? ⟨gb127,0,none⟩=some (.int .i64 0):=(blk_cell BK127.out 0).trans rfl;have hcz76_1:w69.cell? ⟨gb127,1,none⟩=some (.int .i64 0):=(blk_cell BK127.out 1).trans rfl;have hcz76_2:w69.cell? ⟨gb127,2,none⟩=some (.string (⟨#[]⟩:ByteArray)):=(blk_cell BK127.out 2).trans rfl;have hcz76_3:w69.cell? ⟨gb127,3,none⟩=some (.slice none 0 0):=(blk_cell BK127.out 3).trans rfl;have hfz76_0:=blk_frozen BK127.out 0;have hfz76_1:=blk_frozen BK127.out 1;have hfz76_2:=blk_frozen BK127.out 2;have hfz76_3:=blk_frozen BK127.out 3))
      refine bodyPost_ret (results_cell_row rfl _ _ gb127 27 #[.int .i64 t128,.int .i64 t158,.string t130,.slice Ao16 t131.length co16] (0,0) _ rfl (by (with_reducible repeat (first|refine blk_drewN ?_ _|refine blk_drew ?_|refine blk_alloc ?_ _));refine blk_put (cs:=#[.int .i64 t128,.int .i64 t158,.string t130,.slice none 0 0]) ?_ 3 _ rfl;(with_reducible repeat (first|refine blk_drewN ?_ _|refine blk_drew ?_|refine blk_alloc ?_ _));refine blk_put (cs:=#[.int .i64 t128,.int .i64 t158,.string (⟨#[]⟩:ByteArray),.slice none 0 0]) ?_ 2 _ rfl;(with_reducible repeat (first|refine blk_drewN ?_ _|refine blk_drew ?_|refine blk_alloc ?_ _));refine blk_put (cs:=#[.int .i64 t128,.int .i64 0,.string (⟨#[]⟩:ByteArray),.slice none 0 0]) ?_ 1 _ rfl;(with_reducible repeat (first|refine blk_drewN ?_ _|refine blk_drew ?_|refine blk_alloc ?_ _));refine blk_put (cs:=#[.int .i64 0,.int .i64 0,.string (⟨#[]⟩:ByteArray),.slice none 0 0]) ?_ 0 _ rfl;(with_reducible repeat (first|refine blk_drewN ?_ _|refine blk_drew ?_|refine blk_alloc ?_ _));refine blk_far ?_ NB127_134.out _;(with_reducible repeat (first|refine blk_drewN ?_ _|refine blk_drew ?_|refine blk_alloc ?_ _));exact BK127.out) Try.underlying27 rfl (by kernel_rfl)) rfl ?_
      exact ⟨_,by first|rfl|(simp [errW_none,errW_some] <;> rfl)|(simp [*,errW_none,errW_some] <;> rfl),by (with_reducible repeat (first|apply Kd.N_alloc|apply Kd.N_drewN|apply Kd.N_drew));exact Kd.N_mono (Kd.N_far (p:=⟨gb127,3,none⟩) (Kd.N_far (p:=⟨gb127,2,none⟩) (Kd.N_far (p:=⟨gb127,1,none⟩) (Kd.N_far (p:=⟨gb127,0,none⟩) (Kd.N_far (p:=⟨gb134,1,none⟩) (Kd.N_mono (Kd.N_mono HO_135003.out (fun k_ hk=>(⟨hk,hk.1.2.2.2.1⟩:_∧k_≠gb134))) (fun k_ hk=>(⟨hk,hk.1.1.2.2.1⟩:_∧k_≠gb127))) (fun _ hk=>hk.1.2) (.int .i64 t158)) (fun _ hk=>hk.2) (.int .i64 t128)) (fun _ hk=>hk.2) (.int .i64 t158)) (fun _ hk=>hk.2) (.string t130)) (fun _ hk=>hk.2) (.slice Ao16 t131.length co16)) (fun _ hk=>hk.1.1.1.1),by repeat (first|(with_reducible first|exact HI0.out|apply IsS66.alloc|apply IsS66.drewN|apply IsS66.drew|apply IsS66.set_1|refine IsS66.far ?_ NB0_126.out _|refine IsS66.far ?_ NB0_127.out _|refine IsS66.far ?_ NB0_134.out _)|exact HI0.out),by repeat (first|(with_reducible first|exact HB.out|apply below_alloc|apply pw_below_drewN|apply below_drew1|refine below_set ?_ (IsS66.ge HI0.out)|refine below_set ?_ GE126.out|refine below_set ?_ GE127.out|refine below_set ?_ GE134.out)|exact HB.out),by repeat (first|(with_reducible first|exact HK.out|apply KeepBut.set_|apply keep_drewN|apply keep_drew|apply keep_alloc|refine keep_far ?_ GW126.out _|refine keep_far ?_ GW127.out _|refine keep_far ?_ GW134.out _)|exact HK.out)⟩
     ·rw [if_neg c63] at H
      have c63b0:(t148 == 1)=false:=beq_eq_false_iff_ne.mpr c63
      have c63b1:(t148 != 1)=true:=bne_iff_ne.mpr c63
      by_cases c77:t148=2
      ·rw [if_pos c77] at H
       have c77b0:(t148 == 2)=true:=beq_iff_eq.mpr c77
       have c77b1:(t148 != 2)=false:=bne_eq_false_iff_eq.mpr c77
       clear c77
       obtain ⟨y160,hy160⟩:∃ y_:List ByteArray,y_=(([(⟨#[]⟩:ByteArray),(⟨#[65]⟩:ByteArray),(⟨#[97,98,99,100,101,102,103,104,105,106,107,108,109]⟩:ByteArray),(⟨#[120,32,121]⟩:ByteArray),(⟨#[122]⟩:ByteArray)]:List ByteArray)):=⟨_,rfl⟩
       replace H:((spec_l15Rd_of.f kj3 s0_0 t149 y160).bind fun bt163=>(some (t128,t129,bt163.1,t131,bt163.2)))=some (r1,r2,r3,r4,r5):=by first|(rw [hy160];with_reducible exact H)|(have H2_:=(Option.bind_some _ _).symm.trans H;rw [hy160];with_reducible exact H2_)|(have H2_:=(Option.bind_some _ _).symm.trans H;with_reducible exact H2_)|with_reducible exact H|(rw [hy160];exact H)|exact H
       have Ny160:=Aside0.mk hy160
       clear hy160
       replace H:=Option.bind_eq_some_iff.mp H
       obtain ⟨⟨t163,t164⟩,A780,H⟩:=H
       replace H:(some (t128,t129,t163,t131,t164))=some (r1,r2,r3,r4,r5):=H
       have A78:=Aside0.mk A780
       clear A780
       simp only [Option.some.injEq,Prod.mk.injEq] at H
       obtain ⟨rfl,rfl,rfl,rfl,rfl⟩:=H
       go_wp2_with (first|((with_reducible refine gate_callee (f:=55) rfl ?_);refine goesL_ (some 36) rfl rfl Try.func55 (by kernel_rfl) rfl #[.pointer (some ⟨g,0,none⟩),.int .i64 14] rfl (by (try simp only [List.map_toArray,List.map_cons,List.map_nil]);first|done|rfl|(simp only [List.length_drop,List.length_take];rfl)) ?_;(with_reducible refine (spec_l15Rd_pick.calls kj3 g s0_0 x1001_3 14 t148 t149 w0 _ ?side1 ?side2 A48.out).mono ?_);(case side1=>repeat (first|(with_reducible first|exact HI0.out|apply IsS66.alloc|apply IsS66.drewN|apply IsS66.drew|apply IsS66.set_1|refine IsS66.far ?_ NB0_126.out _|refine IsS66.far ?_ NB0_127.out _|refine IsS66.far ?_ NB0_134.out _)|exact HI0.out));(case side2=>repeat (first|(with_reducible first|exact HB.out|apply below_alloc|apply pw_below_drewN|apply below_drew1|refine below_set ?_ (IsS66.ge HI0.out)|refine below_set ?_ GE126.out|refine below_set ?_ GE127.out|refine below_set ?_ GE134.out)|exact HB.out));rintro e w79 ⟨rfl,hi,hb,hk⟩;refine ⟨_,rfl,?_⟩;have n0_:=Aside0.mk (Kd.N_mono (Kd.N_keep (Kd.N_mono (ok:=fun k_=>(((w.heap.size≤k_))∧(k_≠gb126∧(k_≠gb127∧(k_≠gb134∧k_≠g))))) (by (with_reducible repeat (first|apply Kd.N_alloc|apply Kd.N_drewN|apply Kd.N_drew));exact HO_135003.out) (fun k_ hk_=>(⟨hk_,hk_.2.2.2.2⟩:_∧k_≠g))) hk (fun _ h=>h.2)) (fun _ h=>h.1));have n1_:=Aside0.mk (KeepBut.blk hk (g':=gb126) (o:=.cells #[.int .i64 a1_0,.int .i64 a1_1,.string a1_2,.slice A1_3 l1_3.length c1_3] 27 (0,0)) (by (with_reducible repeat (first|refine blk_drewN ?_ _|refine blk_drew ?_|refine blk_alloc ?_ _));exact BK126.out) NB126_0.out (by simp));have n2_:=Aside0.mk (KeepBut.blk hk (g':=gb127) (o:=.cells #[.int .i64 0,.int .i64 0,.string (⟨#[]⟩:ByteArray),.slice none 0 0] 27 (0,0)) (by (with_reducible repeat (first|refine blk_drewN ?_ _|refine blk_drew ?_|refine blk_alloc ?_ _));exact BK127.out) NB127_0.out (by simp));have n3_:=Aside0.mk (KeepBut.blk hk (g':=gb134) (o:=.cells #[.int .i64 t128,.int .i64 t129,.string t130,.slice Ao16 t131.length co16] 27 (0,0)) (by (with_reducible repeat (first|refine blk_drewN ?_ _|refine blk_drew ?_|refine blk_alloc ?_ _));exact BK134.out) NB134_0.out (by simp));have n4_:=Aside0.mk (KeepBut.trans (by repeat (first|(with_reducible first|exact HK.out|apply KeepBut.set_|apply keep_drewN|apply keep_drew|apply keep_alloc|refine keep_far ?_ GW126.out _|refine keep_far ?_ GW127.out _|refine keep_far ?_ GW134.out _)|exact HK.out)) hk (.inl rfl));have n5_:=Aside0.mk (hb);have n6_:=Aside0.mk (hi);clear HO_135003;clear BK126;clear BK127;clear BK134;clear HK;clear HB;clear HI0;have HO_135003:=n0_;have BK126:=n1_;have BK127:=n2_;have BK134:=n3_;have HK:=n4_;have HB:=n5_;have HI0:=n6_;clear n0_ n1_ n2_ n3_ n4_ n5_ n6_;(try clear hb);(try clear hb2);(try clear hk);(try clear hi))|((with_reducible refine gate_dst (N:=52) rfl ?_);refine Kd.R_lit Kd.string _ 9 ?hg (N:=52) ?hd (xs:=([(⟨#[]⟩:ByteArray),(⟨#[65]⟩:ByteArray),(⟨#[97,98,99,100,101,102,103,104,105,106,107,108,109]⟩:ByteArray),(⟨#[120,32,121]⟩:ByteArray),(⟨#[122]⟩:ByteArray)]:List ByteArray)) (inner:=[.string (⟨#[]⟩:ByteArray),.string (⟨#[65]⟩:ByteArray),.string (⟨#[97,98,99,100,101,102,103,104,105,106,107,108,109]⟩:ByteArray),.string (⟨#[120,32,121]⟩:ByteArray),.string (⟨#[122]⟩:ByteArray)]) (ok:=fun _=>True) (okp:=fun _=>True) ?hr ?hp (fun _ hk=>hk) trivial (Below.refl _ _) (Nat.le_refl _) (by simp) ?_;(case hd=>rfl);(case hg=>rfl);(case hr=>first|(go_simp;done)|(go_simp;rfl));(case hp=>exact (Reps.one (show Kd.M Kd.string _ _ _ (⟨#[]⟩:ByteArray) [.string (⟨#[]⟩:ByteArray)] from rfl) (Reps.one (show Kd.M Kd.string _ _ _ (⟨#[65]⟩:ByteArray) [.string (⟨#[65]⟩:ByteArray)] from rfl) (Reps.one (show Kd.M Kd.string _ _ _ (⟨#[97,98,99,100,101,102,103,104,105,106,107,108,109]⟩:ByteArray) [.string (⟨#[97,98,99,100,101,102,103,104,105,106,107,108,109]⟩:ByteArray)] from rfl) (Reps.one (show Kd.M Kd.string _ _ _ (⟨#[120,32,121]⟩:ByteArray) [.string (⟨#[120,32,121]⟩:ByteArray)] from rfl) (Reps.one (show Kd.M Kd.string _ _ _ (⟨#[122]⟩:ByteArray) [.string (⟨#[122]⟩:ByteArray)] from rfl) (Reps.none _ _)))))));intro v161 w80 ho81 hb hg_ hnew_;clear hg_ hnew_;(first|rw [← Ny160.out] at ho81|(simp only [Int.reduceToNat] at ho81;rw [← Ny160.out] at ho81));have n0_:=Aside0.mk (Kd.N_elder' (by (with_reducible repeat (first|apply Kd.N_alloc|apply Kd.N_drewN|apply Kd.N_drew));exact HO_135003.out) (Kd.R_base ho81) hb);have n1_:=Aside0.mk (Kd.R_lower (Kd.R_newM (M:=fun k_=>(w.heap.size≤k_)) ho81 (keep_size (w:=w) (g:=g) (row:=none) (by repeat (first|(with_reducible first|exact HK.out|apply KeepBut.set_|apply keep_drewN|apply keep_drew|apply keep_alloc|refine keep_far ?_ GW126.out _|refine keep_far ?_ GW127.out _|refine keep_far ?_ GW134.out _)|exact HK.out))) (fun k_ h_=>h_)) (keep_size (w:=w) (g:=g) (row:=none) (by repeat (first|(with_reducible first|exact HK.out|apply KeepBut.set_|apply keep_drewN|apply keep_drew|apply keep_alloc|refine keep_far ?_ GW126.out _|refine keep_far ?_ GW127.out _|refine keep_far ?_ GW134.out _)|exact HK.out))));have n2_:=Aside0.mk (blk_below (g:=gb126) (o:=.cells #[.int .i64 a1_0,.int .i64 a1_1,.string a1_2,.slice A1_3 l1_3.length c1_3] 27 (0,0)) (by (with_reducible repeat (first|refine blk_drewN ?_ _|refine blk_drew ?_|refine blk_alloc ?_ _));exact BK126.out) hb);have n3_:=Aside0.mk (blk_below (g:=gb127) (o:=.cells #[.int .i64 0,.int .i64 0,.string (⟨#[]⟩:ByteArray),.slice none 0 0] 27 (0,0)) (by (with_reducible repeat (first|refine blk_drewN ?_ _|refine blk_drew ?_|refine blk_alloc ?_ _));exact BK127.out) hb);have n4_:=Aside0.mk (blk_below (g:=gb134) (o:=.cells #[.int .i64 t128,.int .i64 t129,.string t130,.slice Ao16 t131.length co16] 27 (0,0)) (by (with_reducible repeat (first|refine blk_drewN ?_ _|refine blk_drew ?_|refine blk_alloc ?_ _));exact BK134.out) hb);have n5_:=Aside0.mk (IsS66.below (by repeat (first|(with_reducible first|exact HI0.out|apply IsS66.alloc|apply IsS66.drewN|apply IsS66.drew|apply IsS66.set_1|refine IsS66.far ?_ NB0_126.out _|refine IsS66.far ?_ NB0_127.out _|refine IsS66.far ?_ NB0_134.out _)|exact HI0.out)) hb);have n6_:=Aside0.mk (KeepBut.trans (by repeat (first|(with_reducible first|exact HK.out|apply KeepBut.set_|apply keep_drewN|apply keep_drew|apply keep_alloc|refine keep_far ?_ GW126.out _|refine keep_far ?_ GW127.out _|refine keep_far ?_ GW134.out _)|exact HK.out)) (KeepBut.of_below hb g none) (.inl rfl));have n7_:=Aside0.mk (below_step (by repeat (first|(with_reducible first|exact HB.out|apply below_alloc|apply pw_below_drewN|apply below_drew1|refine below_set ?_ (IsS66.ge HI0.out)|refine below_set ?_ GE126.out|refine below_set ?_ GE127.out|refine below_set ?_ GE134.out)|exact HB.out)) hb);clear HO_135003;clear BK126;clear BK127;clear BK134;clear HI0;clear HK;clear HB;have HO_135003:=n0_;have HO162:=n1_;have BK126:=n2_;have BK127:=n3_;have BK134:=n4_;have HI0:=n5_;have HK:=n6_;have HB:=n7_;clear n0_ n1_ n2_ n3_ n4_ n5_ n6_ n7_;clear hb ho81;obtain ⟨Ao82,co82,eo82⟩:=Kd.R_slice HO162.out;subst eo82)|((with_reducible refine gate_callee (f:=65) rfl ?_);refine goesL_ (some 53) rfl rfl Try.func65 (by kernel_rfl) rfl #[.pointer (some ⟨g,0,none⟩),.slice Ao82 y160.length co82] rfl (by (try simp only [List.map_toArray,List.map_cons,List.map_nil]);first|done|rfl|(simp only [List.length_drop,List.length_take];rfl)) ?_;(with_reducible refine (spec_l15Rd_of.calls kj3 g s0_0 t149 _ _ y160 t163 t164 w0 _ ?side1 ?side2 ?side3 ?side4 ?side5 A78.out).mono ?_);(case side1=>repeat (first|(with_reducible first|exact HI0.out|apply IsS66.alloc|apply IsS66.drewN|apply IsS66.drew|apply IsS66.set_1|refine IsS66.far ?_ NB0_126.out _|refine IsS66.far ?_ NB0_127.out _|refine IsS66.far ?_ NB0_134.out _)|exact HI0.out));(case side2=>repeat (first|(with_reducible first|exact HB.out|apply below_alloc|apply pw_below_drewN|apply below_drew1|refine below_set ?_ (IsS66.ge HI0.out)|refine below_set ?_ GE126.out|refine below_set ?_ GE127.out|refine below_set ?_ GE134.out)|exact HB.out));(case side3=>repeat (first|exact (Kd.R_reads' HO162.out).2.2|(with_reducible refine Kd.C_alloc ?_ _)|(with_reducible refine Kd.C_drewN ?_ _)|(with_reducible refine Kd.C_drew ?_)));(case side4=>exact (Kd.R_reads' HO162.out).2.1);(case side5=>exact far_slice (IsS66.own_ne HI0.out HO162.out (by decide)));rintro e w83 ⟨rfl,hi,hb,hk⟩;refine ⟨_,rfl,?_⟩;have n0_:=Aside0.mk (Kd.N_mono (Kd.N_keep (Kd.N_mono (ok:=fun k_=>((((w.heap.size≤k_))∧(k_≠gb126∧(k_≠gb127∧(k_≠gb134∧k_≠g))))∧some k_≠(.slice Ao82 y160.length co82:Value).ownBlock)) (by (with_reducible repeat (first|apply Kd.N_alloc|apply Kd.N_drewN|apply Kd.N_drew));exact HO_135003.out) (fun k_ hk_=>(⟨hk_,hk_.1.2.2.2.2⟩:_∧k_≠g))) hk (fun _ h=>h.2)) (fun _ h=>h.1));have n1_:=Aside0.mk (KeepBut.blk hk (g':=gb126) (o:=.cells #[.int .i64 a1_0,.int .i64 a1_1,.string a1_2,.slice A1_3 l1_3.length c1_3] 27 (0,0)) (by (with_reducible repeat (first|refine blk_drewN ?_ _|refine blk_drew ?_|refine blk_alloc ?_ _));exact BK126.out) NB126_0.out (by simp));have n2_:=Aside0.mk (KeepBut.blk hk (g':=gb127) (o:=.cells #[.int .i64 0,.int .i64 0,.string (⟨#[]⟩:ByteArray),.slice none 0 0] 27 (0,0)) (by (with_reducible repeat (first|refine blk_drewN ?_ _|refine blk_drew ?_|refine blk_alloc ?_ _));exact BK127.out) NB127_0.out (by simp));have n3_:=Aside0.mk (KeepBut.blk hk (g':=gb134) (o:=.cells #[.int .i64 t128,.int .i64 t129,.string t130,.slice Ao16 t131.length co16] 27 (0,0)) (by (with_reducible repeat (first|refine blk_drewN ?_ _|refine blk_drew ?_|refine blk_alloc ?_ _));exact BK134.out) NB134_0.out (by simp));have n4_:=Aside0.mk (Kd.R_mono (Kd.R_keep (IsS66.apart (show IsS66 w0 _ g s0_0 t149 from by repeat (first|(with_reducible first|exact HI0.out|apply IsS66.alloc|apply IsS66.drewN|apply IsS66.drew|apply IsS66.set_1|refine IsS66.far ?_ NB0_126.out _|refine IsS66.far ?_ NB0_127.out _|refine IsS66.far ?_ NB0_134.out _)|exact HI0.out)) (by (with_reducible repeat (first|apply Kd.R_alloc|apply Kd.R_drewN|apply Kd.R_drew));exact HO162.out) (by decide)) hk (fun _ h=>h.2)) (fun _ h=>h.1));have n5_:=Aside0.mk (KeepBut.trans (by repeat (first|(with_reducible first|exact HK.out|apply KeepBut.set_|apply keep_drewN|apply keep_drew|apply keep_alloc|refine keep_far ?_ GW126.out _|refine keep_far ?_ GW127.out _|refine keep_far ?_ GW134.out _)|exact HK.out)) hk (.inl rfl));have n6_:=Aside0.mk (hb);have n7_:=Aside0.mk (hi);clear HO_135003;clear BK126;clear BK127;clear BK134;clear HO162;clear HK;clear HB;clear HI0;have HO_135003:=n0_;have BK126:=n1_;have BK127:=n2_;have BK134:=n3_;have HO162:=n4_;have HK:=n5_;have HB:=n6_;have HI0:=n7_;clear n0_ n1_ n2_ n3_ n4_ n5_ n6_ n7_;(try clear hb);(try clear hb2);(try clear hk);(try clear hi);have hnb84:=NB134_126.out;have hnc84:=NB126_134.out;have hnb85:=NB134_127.out;have hnc85:=NB127_134.out;have hnb86:=NB134_0.out;have hnc86:=NB0_134.out;have hcz87_0:w83.cell? ⟨gb134,0,none⟩=some (.int .i64 t128):=(blk_cell BK134.out 0).trans rfl;have hcz87_1:w83.cell? ⟨gb134,1,none⟩=some (.int .i64 t129):=(blk_cell BK134.out 1).trans rfl;have hcz87_2:w83.cell? ⟨gb134,2,none⟩=some (.string t130):=(blk_cell BK134.out 2).trans rfl;have hcz87_3:w83.cell? ⟨gb134,3,none⟩=some (.slice Ao16 t131.length co16):=(blk_cell BK134.out 3).trans rfl;have hfz87_0:=blk_frozen BK134.out 0;have hfz87_1:=blk_frozen BK134.out 1;have hfz87_2:=blk_frozen BK134.out 2;have hfz87_3:=blk_frozen BK134.out 3;have hnb88:=NB127_126.out;have hnc88:=NB126_127.out;have hnb89:=NB127_0.out;have hnc89:=NB0_127.out;have hcz90_0:w83.cell? ⟨gb127,0,none⟩=some (.int .i64 0):=(blk_cell BK127.out 0).trans rfl;have hcz90_1:w83.cell? ⟨gb127,1,none⟩=some (.int .i64 0):=(blk_cell BK127.out 1).trans rfl;have hcz90_2:w83.cell? ⟨gb127,2,none⟩=some (.string (⟨#[]⟩:ByteArray)):=(blk_cell BK127.out 2).trans rfl;have hcz90_3:w83.cell? ⟨gb127,3,none⟩=some (.slice none 0 0):=(blk_cell BK127.out 3).trans rfl;have hfz90_0:=blk_frozen BK127.out 0;have hfz90_1:=blk_frozen BK127.out 1;have hfz90_2:=blk_frozen BK127.out 2;have hfz90_3:=blk_frozen BK127.out 3))
       refine bodyPost_ret (results_cell_row rfl _ _ gb127 27 #[.int .i64 t128,.int .i64 t129,.string t163,.slice Ao16 t131.length co16] (0,0) _ rfl (by (with_reducible repeat (first|refine blk_drewN ?_ _|refine blk_drew ?_|refine blk_alloc ?_ _));refine blk_put (cs:=#[.int .i64 t128,.int .i64 t129,.string t163,.slice none 0 0]) ?_ 3 _ rfl;(with_reducible repeat (first|refine blk_drewN ?_ _|refine blk_drew ?_|refine blk_alloc ?_ _));refine blk_put (cs:=#[.int .i64 t128,.int .i64 t129,.string (⟨#[]⟩:ByteArray),.slice none 0 0]) ?_ 2 _ rfl;(with_reducible repeat (first|refine blk_drewN ?_ _|refine blk_drew ?_|refine blk_alloc ?_ _));refine blk_put (cs:=#[.int .i64 t128,.int .i64 0,.string (⟨#[]⟩:ByteArray),.slice none 0 0]) ?_ 1 _ rfl;(with_reducible repeat (first|refine blk_drewN ?_ _|refine blk_drew ?_|refine blk_alloc ?_ _));refine blk_put (cs:=#[.int .i64 0,.int .i64 0,.string (⟨#[]⟩:ByteArray),.slice none 0 0]) ?_ 0 _ rfl;(with_reducible repeat (first|refine blk_drewN ?_ _|refine blk_drew ?_|refine blk_alloc ?_ _));refine blk_far ?_ NB127_134.out _;(with_reducible repeat (first|refine blk_drewN ?_ _|refine blk_drew ?_|refine blk_alloc ?_ _));exact BK127.out) Try.underlying27 rfl (by kernel_rfl)) rfl ?_
       exact ⟨_,by first|rfl|(simp [errW_none,errW_some] <;> rfl)|(simp [*,errW_none,errW_some] <;> rfl),by (with_reducible repeat (first|apply Kd.N_alloc|apply Kd.N_drewN|apply Kd.N_drew));exact Kd.N_mono (Kd.N_far (p:=⟨gb127,3,none⟩) (Kd.N_far (p:=⟨gb127,2,none⟩) (Kd.N_far (p:=⟨gb127,1,none⟩) (Kd.N_far (p:=⟨gb127,0,none⟩) (Kd.N_far (p:=⟨gb134,2,none⟩) (Kd.N_mono (Kd.N_mono HO_135003.out (fun k_ hk=>(⟨hk,hk.1.2.2.2.1⟩:_∧k_≠gb134))) (fun k_ hk=>(⟨hk,hk.1.1.2.2.1⟩:_∧k_≠gb127))) (fun _ hk=>hk.1.2) (.string t163)) (fun _ hk=>hk.2) (.int .i64 t128)) (fun _ hk=>hk.2) (.int .i64 t129)) (fun _ hk=>hk.2) (.string t163)) (fun _ hk=>hk.2) (.slice Ao16 t131.length co16)) (fun _ hk=>hk.1.1.1.1),by repeat (first|(with_reducible first|exact HI0.out|apply IsS66.alloc|apply IsS66.drewN|apply IsS66.drew|apply IsS66.set_1|refine IsS66.far ?_ NB0_126.out _|refine IsS66.far ?_ NB0_127.out _|refine IsS66.far ?_ NB0_134.out _)|exact HI0.out),by repeat (first|(with_reducible first|exact HB.out|apply below_alloc|apply pw_below_drewN|apply below_drew1|refine below_set ?_ (IsS66.ge HI0.out)|refine below_set ?_ GE126.out|refine below_set ?_ GE127.out|refine below_set ?_ GE134.out)|exact HB.out),by repeat (first|(with_reducible first|exact HK.out|apply KeepBut.set_|apply keep_drewN|apply keep_drew|apply keep_alloc|refine keep_far ?_ GW126.out _|refine keep_far ?_ GW127.out _|refine keep_far ?_ GW134.out _)|exact HK.out)⟩
      ·rw [if_neg c77] at H
       have c77b0:(t148 == 2)=false:=beq_eq_false_iff_ne.mpr c77
       have c77b1:(t148 != 2)=true:=bne_iff_ne.mpr c77
       by_cases c91:t148=3
       ·rw [if_pos c91] at H
        have c91b0:(t148 == 3)=true:=beq_iff_eq.mpr c91
        have c91b1:(t148 != 3)=false:=bne_eq_false_iff_eq.mpr c91
        clear c91
        by_cases c92:t131.length<2513169434916
        ·rw [if_pos c92] at H
         have LMc92:=Aside0.mk c92
         clear c92
         obtain ⟨y165,hy165⟩:∃ y_:List (SDoc),y_=(t131++[(⟨1,0,(⟨#[]⟩:ByteArray),([]:List (SDoc))⟩:SDoc)]):=⟨_,rfl⟩
         replace H:(some (t128,t129,t130,y165,t149))=some (r1,r2,r3,r4,r5):=by first|(rw [hy165];with_reducible exact H)|(have H2_:=(Option.bind_some _ _).symm.trans H;rw [hy165];with_reducible exact H2_)|(have H2_:=(Option.bind_some _ _).symm.trans H;with_reducible exact H2_)|with_reducible exact H|(rw [hy165];exact H)|exact H
         have Ny165:=Aside0.mk hy165
         clear hy165
         simp only [Option.some.injEq,Prod.mk.injEq] at H
         obtain ⟨rfl,rfl,rfl,rfl,rfl⟩:=H
         go_wp2_with (first|((with_reducible refine gate_callee (f:=55) rfl ?_);refine goesL_ (some 36) rfl rfl Try.func55 (by kernel_rfl) rfl #[.pointer (some ⟨g,0,none⟩),.int .i64 14] rfl (by (try simp only [List.map_toArray,List.map_cons,List.map_nil]);first|done|rfl|(simp only [List.length_drop,List.length_take];rfl)) ?_;(with_reducible refine (spec_l15Rd_pick.calls kj3 g s0_0 x1001_3 14 t148 t149 w0 _ ?side1 ?side2 A48.out).mono ?_);(case side1=>repeat (first|(with_reducible first|exact HI0.out|apply IsS66.alloc|apply IsS66.drewN|apply IsS66.drew|apply IsS66.set_1|refine IsS66.far ?_ NB0_126.out _|refine IsS66.far ?_ NB0_127.out _|refine IsS66.far ?_ NB0_134.out _)|exact HI0.out));(case side2=>repeat (first|(with_reducible first|exact HB.out|apply below_alloc|apply pw_below_drewN|apply below_drew1|refine below_set ?_ (IsS66.ge HI0.out)|refine below_set ?_ GE126.out|refine below_set ?_ GE127.out|refine below_set ?_ GE134.out)|exact HB.out));rintro e w93 ⟨rfl,hi,hb,hk⟩;refine ⟨_,rfl,?_⟩;have n0_:=Aside0.mk (Kd.N_mono (Kd.N_keep (Kd.N_mono (ok:=fun k_=>(((w.heap.size≤k_))∧(k_≠gb126∧(k_≠gb127∧(k_≠gb134∧k_≠g))))) (by (with_reducible repeat (first|apply Kd.N_alloc|apply Kd.N_drewN|apply Kd.N_drew));exact HO_135003.out) (fun k_ hk_=>(⟨hk_,hk_.2.2.2.2⟩:_∧k_≠g))) hk (fun _ h=>h.2)) (fun _ h=>h.1));have n1_:=Aside0.mk (KeepBut.blk hk (g':=gb126) (o:=.cells #[.int .i64 a1_0,.int .i64 a1_1,.string a1_2,.slice A1_3 l1_3.length c1_3] 27 (0,0)) (by (with_reducible repeat (first|refine blk_drewN ?_ _|refine blk_drew ?_|refine blk_alloc ?_ _));exact BK126.out) NB126_0.out (by simp));have n2_:=Aside0.mk (KeepBut.blk hk (g':=gb127) (o:=.cells #[.int .i64 0,.int .i64 0,.string (⟨#[]⟩:ByteArray),.slice none 0 0] 27 (0,0)) (by (with_reducible repeat (first|refine blk_drewN ?_ _|refine blk_drew ?_|refine blk_alloc ?_ _));exact BK127.out) NB127_0.out (by simp));have n3_:=Aside0.mk (KeepBut.blk hk (g':=gb134) (o:=.cells #[.int .i64 t128,.int .i64 t129,.string t130,.slice Ao16 t131.length co16] 27 (0,0)) (by (with_reducible repeat (first|refine blk_drewN ?_ _|refine blk_drew ?_|refine blk_alloc ?_ _));exact BK134.out) NB134_0.out (by simp));have n4_:=Aside0.mk (KeepBut.trans (by repeat (first|(with_reducible first|exact HK.out|apply KeepBut.set_|apply keep_drewN|apply keep_drew|apply keep_alloc|refine keep_far ?_ GW126.out _|refine keep_far ?_ GW127.out _|refine keep_far ?_ GW134.out _)|exact HK.out)) hk (.inl rfl));have n5_:=Aside0.mk (hb);have n6_:=Aside0.mk (hi);clear HO_135003;clear BK126;clear BK127;clear BK134;clear HK;clear HB;clear HI0;have HO_135003:=n0_;have BK126:=n1_;have BK127:=n2_;have BK134:=n3_;have HK:=n4_;have HB:=n5_;have HI0:=n6_;clear n0_ n1_ n2_ n3_ n4_ n5_ n6_;(try clear hb);(try clear hb2);(try clear hk);(try clear hi);have hnb94:=NB134_126.out;have hnc94:=NB126_134.out;have hnb95:=NB134_127.out;have hnc95:=NB127_134.out;have hnb96:=NB134_0.out;have hnc96:=NB0_134.out;have hcz97_0:w93.cell? ⟨gb134,0,none⟩=some (.int .i64 t128):=(blk_cell BK134.out 0).trans rfl;have hcz97_1:w93.cell? ⟨gb134,1,none⟩=some (.int .i64 t129):=(blk_cell BK134.out 1).trans rfl;have hcz97_2:w93.cell? ⟨gb134,2,none⟩=some (.string t130):=(blk_cell BK134.out 2).trans rfl;have hcz97_3:w93.cell? ⟨gb134,3,none⟩=some (.slice Ao16 t131.length co16):=(blk_cell BK134.out 3).trans rfl;have hfz97_0:=blk_frozen BK134.out 0;have hfz97_1:=blk_frozen BK134.out 1;have hfz97_2:=blk_frozen BK134.out 2;have hfz97_3:=blk_frozen BK134.out 3)|((with_reducible refine gate_builtin (b:=.append) (xs:=#[.tmp 58,.tmp 60]) rfl ?_);at_builtin;refine Kd.N_append k27 w.heap.size rfl (.tmp 58) (.tmp 60) 25 27 (.agg #[(.int .i64 0),(.int .i64 0),(.string ⟨#[]⟩),(.slice none 0 0)]) 56 rfl Try.underlying25 info27 rfl (by decide) (by omega) (.slice Ao16 t131.length co16) t131 (⟨1,0,(⟨#[]⟩:ByteArray),([]:List (SDoc))⟩:SDoc) [.int .i64 1,.int .i64 0,.string (⟨#[]⟩:ByteArray),.slice none 0 0] (fun k_=>(w.heap.size≤k_)∧k_≠gb126∧k_≠gb127∧k_≠gb134∧k_≠g) (fun k_=>((fun k_=>(w.heap.size≤k_)∧k_≠gb126∧k_≠gb127∧k_≠gb134∧k_≠g)) k_∧some k_≠(.slice Ao16 t131.length co16:Value).ownBlock) rfl rfl ?aP (fun _ hk=>hk) ?aF ?aO (Below.refl _ _) ?aS ?aL ?_;(case aP=>exact (k27_mkF _ _ (⟨1,0,(⟨#[]⟩:ByteArray),([]:List (SDoc))⟩:SDoc) (Nat.le_refl _) (Kd.F_nil _ _ _)));(case aF=>exact (fun k_ hk=>⟨(Nat.le_trans (keep_size (w:=w) (g:=g) (row:=none) (by repeat (first|(with_reducible first|exact HK.out|apply KeepBut.set_|apply keep_drewN|apply keep_drew|apply keep_alloc|refine keep_far ?_ GW126.out _|refine keep_far ?_ GW127.out _|refine keep_far ?_ GW134.out _)|exact HK.out))) hk),Kd.freshB (g:=gb126) (o:=.cells #[.int .i64 a1_0,.int .i64 a1_1,.string a1_2,.slice A1_3 l1_3.length c1_3] 27 (0,0)) (by (with_reducible repeat (first|refine blk_drewN ?_ _|refine blk_drew ?_|refine blk_alloc ?_ _));exact BK126.out) k_ hk,Kd.freshB (g:=gb127) (o:=.cells #[.int .i64 0,.int .i64 0,.string (⟨#[]⟩:ByteArray),.slice none 0 0] 27 (0,0)) (by (with_reducible repeat (first|refine blk_drewN ?_ _|refine blk_drew ?_|refine blk_alloc ?_ _));exact BK127.out) k_ hk,Kd.freshB (g:=gb134) (o:=.cells #[.int .i64 t128,.int .i64 t129,.string t130,.slice Ao16 t131.length co16] 27 (0,0)) (by (with_reducible repeat (first|refine blk_drewN ?_ _|refine blk_drew ?_|refine blk_alloc ?_ _));exact BK134.out) k_ hk,IsS66.fresh (by repeat (first|(with_reducible first|exact HI0.out|apply IsS66.alloc|apply IsS66.drewN|apply IsS66.drew|apply IsS66.set_1|refine IsS66.far ?_ NB0_126.out _|refine IsS66.far ?_ NB0_127.out _|refine IsS66.far ?_ NB0_134.out _)|exact HI0.out)) k_ hk⟩));(case aO=>exact (by (with_reducible repeat (first|apply Kd.N_alloc|apply Kd.N_drewN|apply Kd.N_drew));exact HO_135003.out));(case aS=>exact (keep_size (w:=w) (g:=g) (row:=none) (by repeat (first|(with_reducible first|exact HK.out|apply KeepBut.set_|apply keep_drewN|apply keep_drew|apply keep_alloc|refine keep_far ?_ GW126.out _|refine keep_far ?_ GW127.out _|refine keep_far ?_ GW134.out _)|exact HK.out))));(case aL=>have:=LMc92.out;omega);intro v166 w98 ho hb hg hat;rw [← Ny165.out] at ho;have n0_:=Aside0.mk (blk_grown (g:=gb126) (o:=.cells #[.int .i64 a1_0,.int .i64 a1_1,.string a1_2,.slice A1_3 l1_3.length c1_3] 27 (0,0)) (by (with_reducible repeat (first|refine blk_drewN ?_ _|refine blk_drew ?_|refine blk_alloc ?_ _));exact BK126.out) hg (Kd.N_away HO_135003.out (fun _ hk=>by first|exact hk.2.1|exact hk.1.2.1|exact hk.1.1.2.1)));have n1_:=Aside0.mk (blk_grown (g:=gb127) (o:=.cells #[.int .i64 0,.int .i64 0,.string (⟨#[]⟩:ByteArray),.slice none 0 0] 27 (0,0)) (by (with_reducible repeat (first|refine blk_drewN ?_ _|refine blk_drew ?_|refine blk_alloc ?_ _));exact BK127.out) hg (Kd.N_away HO_135003.out (fun _ hk=>by first|exact hk.2.2.1|exact hk.1.2.2.1|exact hk.1.1.2.2.1)));have n2_:=Aside0.mk (blk_grown (g:=gb134) (o:=.cells #[.int .i64 t128,.int .i64 t129,.string t130,.slice Ao16 t131.length co16] 27 (0,0)) (by (with_reducible repeat (first|refine blk_drewN ?_ _|refine blk_drew ?_|refine blk_alloc ?_ _));exact BK134.out) hg (Kd.N_away HO_135003.out (fun _ hk=>by first|exact hk.2.2.2.1|exact hk.1.2.2.2.1|exact hk.1.1.2.2.2.1)));have n3_:=Aside0.mk (IsS66.grown (by repeat (first|(with_reducible first|exact HI0.out|apply IsS66.alloc|apply IsS66.drewN|apply IsS66.drew|apply IsS66.set_1|refine IsS66.far ?_ NB0_126.out _|refine IsS66.far ?_ NB0_127.out _|refine IsS66.far ?_ NB0_134.out _)|exact HI0.out)) hg (IsS66.own_neN HI0.out HO_135003.out (by decide)));have n4_:=Aside0.mk (below_weaken (by repeat (first|(with_reducible first|exact HB.out|apply below_alloc|apply pw_below_drewN|apply below_drew1|refine below_set ?_ (IsS66.ge HI0.out)|refine below_set ?_ GE126.out|refine below_set ?_ GE127.out|refine below_set ?_ GE134.out)|exact HB.out)) HL.out hb);have n5_:=Aside0.mk (KeepBut.trans (by repeat (first|(with_reducible first|exact HK.out|apply KeepBut.set_|apply keep_drewN|apply keep_drew|apply keep_alloc|refine keep_far ?_ GW126.out _|refine keep_far ?_ GW127.out _|refine keep_far ?_ GW134.out _)|exact HK.out)) (KeepBut.of_grown hg g) (Kd.N_base2 HO_135003.out));have n6_:=Aside0.mk (ho);clear BK126;clear BK127;clear BK134;clear HI0;clear HB;clear HK;clear HO_135003;have BK126:=n0_;have BK127:=n1_;have BK134:=n2_;have HI0:=n3_;have HB:=n4_;have HK:=n5_;have HO167:=n6_;clear n0_ n1_ n2_ n3_ n4_ n5_ n6_;clear ho hb hg hat;obtain ⟨Ao99,co99,eo99⟩:=Kd.N_slice HO167.out;subst eo99;have hcz100_0:w98.cell? ⟨gb134,0,none⟩=some (.int .i64 t128):=(blk_cell BK134.out 0).trans rfl;have hcz100_1:w98.cell? ⟨gb134,1,none⟩=some (.int .i64 t129):=(blk_cell BK134.out 1).trans rfl;have hcz100_2:w98.cell? ⟨gb134,2,none⟩=some (.string t130):=(blk_cell BK134.out 2).trans rfl;have hcz100_3:w98.cell? ⟨gb134,3,none⟩=some (.slice Ao16 t131.length co16):=(blk_cell BK134.out 3).trans rfl;have hfz100_0:=blk_frozen BK134.out 0;have hfz100_1:=blk_frozen BK134.out 1;have hfz100_2:=blk_frozen BK134.out 2;have hfz100_3:=blk_frozen BK134.out 3;have hnb101:=NB127_126.out;have hnc101:=NB126_127.out;have hnb102:=NB127_0.out;have hnc102:=NB0_127.out;have hcz103_0:w98.cell? ⟨gb127,0,none⟩=some (.int .i64 0):=(blk_cell BK127.out 0).trans rfl;have hcz103_1:w98.cell? ⟨gb127,1,none⟩=some (.int .i64 0):=(blk_cell BK127.out 1).trans rfl;have hcz103_2:w98.cell? ⟨gb127,2,none⟩=some (.string (⟨#[]⟩:ByteArray)):=(blk_cell BK127.out 2).trans rfl;have hcz103_3:w98.cell? ⟨gb127,3,none⟩=some (.slice none 0 0):=(blk_cell BK127.out 3).trans rfl;have hfz103_0:=blk_frozen BK127.out 0;have hfz103_1:=blk_frozen BK127.out 1;have hfz103_2:=blk_frozen BK127.out 2;have hfz103_3:=blk_frozen BK127.out 3))
         refine bodyPost_ret (results_cell_row rfl _ _ gb127 27 #[.int .i64 t128,.int .i64 t129,.string t130,.slice Ao99 y165.length co99] (0,0) _ rfl (by (with_reducible repeat (first|refine blk_drewN ?_ _|refine blk_drew ?_|refine blk_alloc ?_ _));refine blk_put (cs:=#[.int .i64 t128,.int .i64 t129,.string t130,.slice none 0 0]) ?_ 3 _ rfl;(with_reducible repeat (first|refine blk_drewN ?_ _|refine blk_drew ?_|refine blk_alloc ?_ _));refine blk_put (cs:=#[.int .i64 t128,.int .i64 t129,.string (⟨#[]⟩:ByteArray),.slice none 0 0]) ?_ 2 _ rfl;(with_reducible repeat (first|refine blk_drewN ?_ _|refine blk_drew ?_|refine blk_alloc ?_ _));refine blk_put (cs:=#[.int .i64 t128,.int .i64 0,.string (⟨#[]⟩:ByteArray),.slice none 0 0]) ?_ 1 _ rfl;(with_reducible repeat (first|refine blk_drewN ?_ _|refine blk_drew ?_|refine blk_alloc ?_ _));refine blk_put (cs:=#[.int .i64 0,.int .i64 0,.string (⟨#[]⟩:ByteArray),.slice none 0 0]) ?_ 0 _ rfl;(with_reducible repeat (first|refine blk_drewN ?_ _|refine blk_drew ?_|refine blk_alloc ?_ _));refine blk_far ?_ NB127_134.out _;(with_reducible repeat (first|refine blk_drewN ?_ _|refine blk_drew ?_|refine blk_alloc ?_ _));exact BK127.out) Try.underlying27 rfl (by kernel_rfl)) rfl ?_
         exact ⟨_,by first|rfl|(simp [errW_none,errW_some] <;> rfl)|(simp [*,errW_none,errW_some] <;> rfl),by (with_reducible repeat (first|apply Kd.N_alloc|apply Kd.N_drewN|apply Kd.N_drew));exact Kd.N_mono (Kd.N_far (p:=⟨gb127,3,none⟩) (Kd.N_far (p:=⟨gb127,2,none⟩) (Kd.N_far (p:=⟨gb127,1,none⟩) (Kd.N_far (p:=⟨gb127,0,none⟩) (Kd.N_far (p:=⟨gb134,3,none⟩) (Kd.N_mono (Kd.N_mono HO167.out (fun k_ hk=>(⟨hk,hk.2.2.2.1⟩:_∧k_≠gb134))) (fun k_ hk=>(⟨hk,hk.1.2.2.1⟩:_∧k_≠gb127))) (fun _ hk=>hk.1.2) (.slice Ao99 y165.length co99)) (fun _ hk=>hk.2) (.int .i64 t128)) (fun _ hk=>hk.2) (.int .i64 t129)) (fun _ hk=>hk.2) (.string t130)) (fun _ hk=>hk.2) (.slice Ao99 y165.length co99)) (fun _ hk=>hk.1.1.1),by repeat (first|(with_reducible first|exact HI0.out|apply IsS66.alloc|apply IsS66.drewN|apply IsS66.drew|apply IsS66.set_1|refine IsS66.far ?_ NB0_126.out _|refine IsS66.far ?_ NB0_127.out _|refine IsS66.far ?_ NB0_134.out _)|exact HI0.out),by repeat (first|(with_reducible first|exact HB.out|apply below_alloc|apply pw_below_drewN|apply below_drew1|refine below_set ?_ (IsS66.ge HI0.out)|refine below_set ?_ GE126.out|refine below_set ?_ GE127.out|refine below_set ?_ GE134.out)|exact HB.out),by repeat (first|(with_reducible first|exact HK.out|apply KeepBut.set_|apply keep_drewN|apply keep_drew|apply keep_alloc|refine keep_far ?_ GW126.out _|refine keep_far ?_ GW127.out _|refine keep_far ?_ GW134.out _)|exact HK.out)⟩
        ·rw [if_neg c92] at H
         exact absurd H (by simp)
       ·rw [if_neg c91] at H
        have c91b0:(t148 == 3)=false:=beq_eq_false_iff_ne.mpr c91
        have c91b1:(t148 != 3)=true:=bne_iff_ne.mpr c91
        simp only [Option.some.injEq,Prod.mk.injEq] at H
        obtain ⟨rfl,rfl,rfl,rfl,rfl⟩:=H
        go_wp2_with (first|((with_reducible refine gate_callee (f:=55) rfl ?_);refine goesL_ (some 36) rfl rfl Try.func55 (by kernel_rfl) rfl #[.pointer (some ⟨g,0,none⟩),.int .i64 14] rfl (by (try simp only [List.map_toArray,List.map_cons,List.map_nil]);first|done|rfl|(simp only [List.length_drop,List.length_take];rfl)) ?_;(with_reducible refine (spec_l15Rd_pick.calls kj3 g s0_0 x1001_3 14 t148 t149 w0 _ ?side1 ?side2 A48.out).mono ?_);(case side1=>repeat (first|(with_reducible first|exact HI0.out|apply IsS66.alloc|apply IsS66.drewN|apply IsS66.drew|apply IsS66.set_1|refine IsS66.far ?_ NB0_126.out _|refine IsS66.far ?_ NB0_127.out _|refine IsS66.far ?_ NB0_134.out _)|exact HI0.out));(case side2=>repeat (first|(with_reducible first|exact HB.out|apply below_alloc|apply pw_below_drewN|apply below_drew1|refine below_set ?_ (IsS66.ge HI0.out)|refine below_set ?_ GE126.out|refine below_set ?_ GE127.out|refine below_set ?_ GE134.out)|exact HB.out));rintro e w104 ⟨rfl,hi,hb,hk⟩;refine ⟨_,rfl,?_⟩;have n0_:=Aside0.mk (Kd.N_mono (Kd.N_keep (Kd.N_mono (ok:=fun k_=>(((w.heap.size≤k_))∧(k_≠gb126∧(k_≠gb127∧(k_≠gb134∧k_≠g))))) (by (with_reducible repeat (first|apply Kd.N_alloc|apply Kd.N_drewN|apply Kd.N_drew));exact HO_135003.out) (fun k_ hk_=>(⟨hk_,hk_.2.2.2.2⟩:_∧k_≠g))) hk (fun _ h=>h.2)) (fun _ h=>h.1));have n1_:=Aside0.mk (KeepBut.blk hk (g':=gb126) (o:=.cells #[.int .i64 a1_0,.int .i64 a1_1,.string a1_2,.slice A1_3 l1_3.length c1_3] 27 (0,0)) (by (with_reducible repeat (first|refine blk_drewN ?_ _|refine blk_drew ?_|refine blk_alloc ?_ _));exact BK126.out) NB126_0.out (by simp));have n2_:=Aside0.mk (KeepBut.blk hk (g':=gb127) (o:=.cells #[.int .i64 0,.int .i64 0,.string (⟨#[]⟩:ByteArray),.slice none 0 0] 27 (0,0)) (by (with_reducible repeat (first|refine blk_drewN ?_ _|refine blk_drew ?_|refine blk_alloc ?_ _));exact BK127.out) NB127_0.out (by simp));have n3_:=Aside0.mk (KeepBut.blk hk (g':=gb134) (o:=.cells #[.int .i64 t128,.int .i64 t129,.string t130,.slice Ao16 t131.length co16] 27 (0,0)) (by (with_reducible repeat (first|refine blk_drewN ?_ _|refine blk_drew ?_|refine blk_alloc ?_ _));exact BK134.out) NB134_0.out (by simp));have n4_:=Aside0.mk (KeepBut.trans (by repeat (first|(with_reducible first|exact HK.out|apply KeepBut.set_|apply keep_drewN|apply keep_drew|apply keep_alloc|refine keep_far ?_ GW126.out _|refine keep_far ?_ GW127.out _|refine keep_far ?_ GW134.out _)|exact HK.out)) hk (.inl rfl));have n5_:=Aside0.mk (hb);have n6_:=Aside0.mk (hi);clear HO_135003;clear BK126;clear BK127;clear BK134;clear HK;clear HB;clear HI0;have HO_135003:=n0_;have BK126:=n1_;have BK127:=n2_;have BK134:=n3_;have HK:=n4_;have HB:=n5_;have HI0:=n6_;clear n0_ n1_ n2_ n3_ n4_ n5_ n6_;(try clear hb);(try clear hb2);(try clear hk);(try clear hi);have hnb105:=NB134_126.out;have hnc105:=NB126_134.out;have hnb106:=NB134_127.out;have hnc106:=NB127_134.out;have hnb107:=NB134_0.out;have hnc107:=NB0_134.out;have hcz108_0:w104.cell? ⟨gb134,0,none⟩=some (.int .i64 t128):=(blk_cell BK134.out 0).trans rfl;have hcz108_1:w104.cell? ⟨gb134,1,none⟩=some (.int .i64 t129):=(blk_cell BK134.out 1).trans rfl;have hcz108_2:w104.cell? ⟨gb134,2,none⟩=some (.string t130):=(blk_cell BK134.out 2).trans rfl;have hcz108_3:w104.cell? ⟨gb134,3,none⟩=some (.slice Ao16 t131.length co16):=(blk_cell BK134.out 3).trans rfl;have hfz108_0:=blk_frozen BK134.out 0;have hfz108_1:=blk_frozen BK134.out 1;have hfz108_2:=blk_frozen BK134.out 2;have hfz108_3:=blk_frozen BK134.out 3;have hnb109:=NB127_126.out;have hnc109:=NB126_127.out;have hnb110:=NB127_0.out;have hnc110:=NB0_127.out;have hcz111_0:w104.cell? ⟨gb127,0,none⟩=some (.int .i64 0):=(blk_cell BK127.out 0).trans rfl;have hcz111_1:w104.cell? ⟨gb127,1,none⟩=some (.int .i64 0):=(blk_cell BK127.out 1).trans rfl;have hcz111_2:w104.cell? ⟨gb127,2,none⟩=some (.string (⟨#[]⟩:ByteArray)):=(blk_cell BK127.out 2).trans rfl;have hcz111_3:w104.cell? ⟨gb127,3,none⟩=some (.slice none 0 0):=(blk_cell BK127.out 3).trans rfl;have hfz111_0:=blk_frozen BK127.out 0;have hfz111_1:=blk_frozen BK127.out 1;have hfz111_2:=blk_frozen BK127.out 2;have hfz111_3:=blk_frozen BK127.out 3))
        refine bodyPost_ret (results_cell_row rfl _ _ gb127 27 #[.int .i64 t128,.int .i64 t129,.string t130,.slice Ao16 t131.length co16] (0,0) _ rfl (by (with_reducible repeat (first|refine blk_drewN ?_ _|refine blk_drew ?_|refine blk_alloc ?_ _));refine blk_put (cs:=#[.int .i64 t128,.int .i64 t129,.string t130,.slice none 0 0]) ?_ 3 _ rfl;(with_reducible repeat (first|refine blk_drewN ?_ _|refine blk_drew ?_|refine blk_alloc ?_ _));refine blk_put (cs:=#[.int .i64 t128,.int .i64 t129,.string (⟨#[]⟩:ByteArray),.slice none 0 0]) ?_ 2 _ rfl;(with_reducible repeat (first|refine blk_drewN ?_ _|refine blk_drew ?_|refine blk_alloc ?_ _));refine blk_put (cs:=#[.int .i64 t128,.int .i64 0,.string (⟨#[]⟩:ByteArray),.slice none 0 0]) ?_ 1 _ rfl;(with_reducible repeat (first|refine blk_drewN ?_ _|refine blk_drew ?_|refine blk_alloc ?_ _));refine blk_put (cs:=#[.int .i64 0,.int .i64 0,.string (⟨#[]⟩:ByteArray),.slice none 0 0]) ?_ 0 _ rfl;(with_reducible repeat (first|refine blk_drewN ?_ _|refine blk_drew ?_|refine blk_alloc ?_ _));exact BK127.out) Try.underlying27 rfl (by kernel_rfl)) rfl ?_
        exact ⟨_,by first|rfl|(simp [errW_none,errW_some] <;> rfl)|(simp [*,errW_none,errW_some] <;> rfl),by (with_reducible repeat (first|apply Kd.N_alloc|apply Kd.N_drewN|apply Kd.N_drew));exact Kd.N_mono (Kd.N_far (p:=⟨gb127,3,none⟩) (Kd.N_far (p:=⟨gb127,2,none⟩) (Kd.N_far (p:=⟨gb127,1,none⟩) (Kd.N_far (p:=⟨gb127,0,none⟩) (Kd.N_mono HO_135003.out (fun k_ hk=>(⟨hk,hk.2.2.1⟩:_∧k_≠gb127))) (fun _ hk=>hk.2) (.int .i64 t128)) (fun _ hk=>hk.2) (.int .i64 t129)) (fun _ hk=>hk.2) (.string t130)) (fun _ hk=>hk.2) (.slice Ao16 t131.length co16)) (fun _ hk=>hk.1.1),by repeat (first|(with_reducible first|exact HI0.out|apply IsS66.alloc|apply IsS66.drewN|apply IsS66.drew|apply IsS66.set_1|refine IsS66.far ?_ NB0_126.out _|refine IsS66.far ?_ NB0_127.out _|refine IsS66.far ?_ NB0_134.out _)|exact HI0.out),by repeat (first|(with_reducible first|exact HB.out|apply below_alloc|apply pw_below_drewN|apply below_drew1|refine below_set ?_ (IsS66.ge HI0.out)|refine below_set ?_ GE126.out|refine below_set ?_ GE127.out|refine below_set ?_ GE134.out)|exact HB.out),by repeat (first|(with_reducible first|exact HK.out|apply KeepBut.set_|apply keep_drewN|apply keep_drew|apply keep_alloc|refine keep_far ?_ GW126.out _|refine keep_far ?_ GW127.out _|refine keep_far ?_ GW134.out _)|exact HK.out)⟩
end Go.Proofs.Ytdhdfmmefghijaa.P
namespace Go.Proofs.Ytdhdfmmefghijaa.P
open Go.RowKit Go.Proofs.YtdhdfmmefghijaaW.PrintWords Go.Proofs.YtdhdfmmefghijaaW.PrintLast Go.Proofs.YtdhdfmmefghijaaW.PrintMore
attribute [local go_sem] max2_int min2_int max_two min_two max_three min_three max_four min_four
set_option linter.unusedVariables false
set_option linter.unusedSimpArgs false
mutual
def spec_l1Count.l0:Nat→Int→Int→Int→Int→ByteArray→List (SDoc)→Option (Int)
 | 0,_,_,_,_,_,_=>none
 | k+1,x3,x4,x174000,x174001,x174002,x174003=>if x4<(x174003.length:Int) then (if 0≤x4 then ((spec_l1Count.f k ((rd_TDoc x174003 x4).f0) ((rd_TDoc x174003 x4).f1) ((rd_TDoc x174003 x4).f2) ((rd_TDoc x174003 x4).f3)).bind fun t175=>(spec_l1Count.l0 k (wrap64 (x3+t175)) (wrap64 (x4+1)) x174000 x174001 x174002 x174003)) else (none)) else (some x3)
def spec_l1Count.f:Nat→Int→Int→ByteArray→List (SDoc)→Option (Int)
 | 0,_,_,_,_=>none
 | k+1,a0_0,a0_1,a0_2,l0_3=>spec_l1Count.l0 k 1 0 a0_0 a0_1 a0_2 l0_3
end
set_option maxHeartbeats 8000000 in
set_option maxRecDepth 100000 in
theorem spec_l1Count.calls (k:Nat):∀ (a0_0:Int) (a0_1:Int) (a0_2:ByteArray) (A0_3:Option Addr) (c0_3:Nat) (l0_3:List (SDoc)) (r:Int) (w:World) (hr0_3:Kd.C k27 w A0_3 l0_3.length l0_3) (hc0_3:l0_3.length≤c0_3) (h:spec_l1Count.f k a0_0 a0_1 a0_2 l0_3=some r),
  Calls Try.prog 54 #[.agg #[.int .i64 a0_0,.int .i64 a0_1,.string a0_2,.slice A0_3 l0_3.length c0_3]] w fun e w'=>e=.returned (.int .i64 r)∧Below w.heap.size w w':=by
 induction k using Nat.strongRecOn with
 | _ k ih =>
 intro a0_0 a0_1 a0_2 A0_3 c0_3 l0_3 r w hr0_3 hc0_3 h
 cases k with
 | zero=>exact absurd h (by simp [spec_l1Count.f])
 | succ k =>
 simp only [spec_l1Count.f] at h
 have hu27:=Try.underlying27
 have HR0_3:=Aside0.mk hr0_3
 have HC0_3:=Aside0.mk hc0_3
 clear hr0_3 hc0_3
 have HB:=Aside0.mk (Below.refl w.heap.size w)
 have H:(spec_l1Count.l0 k 1 0 a0_0 a0_1 a0_2 l0_3)=some r:=h
 clear h
 have H':=Aside0.mk H
 clear H
 go_enter Try.func54,Try.ntmps54
 go_wp2_with (first|((with_reducible refine gate_dst (N:=1) rfl ?_);refine box_event ?hg (N:=1) ?hd (cs:=#[.int .i64 a0_0,.int .i64 a0_1,.string a0_2,.slice A0_3 l0_3.length c0_3]) (t:=27) ?hr ?_;(case hd=>rfl);(case hg=>rfl);(case hr=>first|(go_simp;done)|(go_simp;rfl));intro gb173 hg w2 hbox hb;have n0_:=Aside0.mk (below_step (by repeat (first|(with_reducible first|exact HB.out|apply below_alloc|apply pw_below_drewN|apply below_drew1)|exact HB.out)) hb);have n1_:=Aside0.mk (hbox);have n2_:=Aside0.mk ((by rw [hg];exact (below_size (by repeat (first|(with_reducible first|exact HB.out|apply below_alloc|apply pw_below_drewN|apply below_drew1)|exact HB.out))):w.heap.size≤gb173));have n3_:=Aside0.mk ((by rw [hg];exact (below_size (by repeat (first|(with_reducible first|exact HB.out|apply below_alloc|apply pw_below_drewN|apply below_drew1)|exact HB.out))):w.heap.size≤gb173));clear HB;have HB:=n0_;have BK173:=n1_;have GW173:=n2_;have GE173:=n3_;clear n0_ n1_ n2_ n3_;clear hb hbox hg))
 go_loopg [3,4] k (fun kq v3 v4 w'=>∃ (x3_1:Int) (x4_1:Int),v3=.int .i64 x3_1∧v4=.int .i64 x4_1∧Aside0 (spec_l1Count.l0 kq x3_1 x4_1 a0_0 a0_1 a0_2 l0_3=some r)∧Aside0 (kq≤k)∧Aside0 (w'.heap[gb173]?=some (.cells #[.int .i64 a0_0,.int .i64 a0_1,.string a0_2,(.slice A0_3 l0_3.length c0_3)] 27 (0,0)))∧Aside0 (Below w.heap.size w w'))
 case atStart=>exact ⟨(1),(0),(by first|rfl|(simp;done)|(simp [*];done)),(by first|rfl|(simp;done)|(simp [*];done)),H',⟨Nat.le_refl _⟩,⟨by (with_reducible repeat (first|refine blk_drewN ?_ _|refine blk_drew ?_|refine blk_alloc ?_ _));exact BK173.out⟩,⟨by repeat (first|(with_reducible first|exact HB.out|apply below_alloc|apply pw_below_drewN|apply below_drew1|refine below_set ?_ GE173.out)|exact HB.out)⟩⟩
 case round =>
  clear H'
  try clear p2
  (try clear BK173);(try clear HB)
  obtain ⟨x3_1,x4_1,rfl,rfl,HA,HK1,BK173,HB⟩:=hrel
  cases gk with
  | zero=>exact absurd HA.out (by simp [spec_l1Count.l0])
  | succ k1 =>
   have H:=HA.out
   clear HA
   simp only [spec_l1Count.l0] at H
   by_cases c3:x4_1<(l0_3.length:Int)
   ·rw [if_pos c3] at H
    have c3b0:decide (x4_1<(l0_3.length:Int))=true:=decide_eq_true c3
    clear c3
    by_cases c4:0≤x4_1
    ·rw [if_pos c4] at H
     have c4b0:decide (0≤x4_1)=true:=decide_eq_true c4
     clear c4
     replace H:=Option.bind_eq_some_iff.mp H
     obtain ⟨t175,A50,H⟩:=H
     replace H:(spec_l1Count.l0 k1 (wrap64 (x3_1+t175)) (wrap64 (x4_1+1)) a0_0 a0_1 a0_2 l0_3)=some r:=H
     have A5:=Aside0.mk A50
     clear A50
     have H':=Aside0.mk H
     clear H
     have hcz6_0:wr.cell? ⟨gb173,0,none⟩=some (.int .i64 a0_0):=(blk_cell BK173.out 0).trans rfl
     have hcz6_1:wr.cell? ⟨gb173,1,none⟩=some (.int .i64 a0_1):=(blk_cell BK173.out 1).trans rfl
     have hcz6_2:wr.cell? ⟨gb173,2,none⟩=some (.string a0_2):=(blk_cell BK173.out 2).trans rfl
     have hcz6_3:wr.cell? ⟨gb173,3,none⟩=some (.slice A0_3 l0_3.length c0_3):=(blk_cell BK173.out 3).trans rfl
     have hfz6_0:=blk_frozen BK173.out 0
     have hfz6_1:=blk_frozen BK173.out 1
     have hfz6_2:=blk_frozen BK173.out 2
     have hfz6_3:=blk_frozen BK173.out 3
     have p174:0≤(x4_1:Int):=of_decide_eq_true (by first|(with_reducible assumption)|assumption)
     have q174:x4_1<(l0_3.length:Int):=of_decide_eq_true (by first|(with_reducible assumption)|assumption)
     obtain ⟨ad174,A174_3,c174_3,e174,hx174_0,hx174_1,hx174_2,hx174_3,hl174_3,hi174_3⟩:=at_TDoc HR0_3.out x4_1 p174 q174
     cases e174
     replace hx174_0:=(HB.out.cell (World.block_lt_of_cell? w _ hx174_0)).trans hx174_0
     replace hx174_1:=(HB.out.cell (World.block_lt_of_cell? w _ hx174_1)).trans hx174_1
     replace hx174_2:=(HB.out.cell (World.block_lt_of_cell? w _ hx174_2)).trans hx174_2
     replace hx174_3:=(HB.out.cell (World.block_lt_of_cell? w _ hx174_3)).trans hx174_3
     have HR174_3:=Aside0.mk hi174_3
     have HC174_3:=Aside0.mk hl174_3
     clear hi174_3 hl174_3
     replace p174:=eq_true p174
     replace q174:=eq_true q174
     go_wp2_with (first|((with_reducible refine gate_callee (f:=54) rfl ?_);refine goesL_ (some 18) rfl rfl Try.func54 (by kernel_rfl) rfl #[.agg #[.int .i64 ((rd_TDoc l0_3 x4_1).f0),.int .i64 ((rd_TDoc l0_3 x4_1).f1),.string ((rd_TDoc l0_3 x4_1).f2),.slice A174_3 ((rd_TDoc l0_3 x4_1).f3).length c174_3]] rfl (by (try simp only [List.map_toArray,List.map_cons,List.map_nil]);first|done|rfl|(simp only [List.length_drop,List.length_take];rfl)) ?_;(with_reducible refine (ih k1 (by have:=HK1.out;omega) ((rd_TDoc l0_3 x4_1).f0) ((rd_TDoc l0_3 x4_1).f1) ((rd_TDoc l0_3 x4_1).f2) _ _ ((rd_TDoc l0_3 x4_1).f3) t175 _ ?side1 ?side2 A5.out).mono ?_);(case side1=>repeat (first|exact (Kd.C_below HR174_3.out HB.out)|(with_reducible refine Kd.C_alloc ?_ _)|(with_reducible refine Kd.C_drewN ?_ _)|(with_reducible refine Kd.C_drew ?_)));(case side2=>exact HC174_3.out);rintro e w7 ⟨rfl,hb⟩;refine ⟨_,rfl,?_⟩;have n0_:=Aside0.mk (blk_below (g:=gb173) (o:=.cells #[.int .i64 a0_0,.int .i64 a0_1,.string a0_2,.slice (some ad174) l0_3.length c0_3] 27 (0,0)) (by (with_reducible repeat (first|refine blk_drewN ?_ _|refine blk_drew ?_|refine blk_alloc ?_ _));exact BK173.out) hb);have n1_:=Aside0.mk (below_step (by repeat (first|(with_reducible first|exact HB.out|apply below_alloc|apply pw_below_drewN|apply below_drew1|refine below_set ?_ GE173.out)|exact HB.out)) hb);clear BK173;clear HB;have BK173:=n0_;have HB:=n1_;clear n0_ n1_;(try clear hb);(try clear hb2);(try clear hk);(try clear hi)))
     go_roundg k1
     case measure=>have:=HK1.out;omega
     case rel=>exact ⟨(wrap64 (x3_1+t175)),(wrap64 (x4_1+1)),(by first|rfl|(simp;done)|(simp [*];done)),(by first|rfl|(simp;done)|(simp [*];done)),H',⟨by have:=HK1.out;omega⟩,⟨by (with_reducible repeat (first|refine blk_drewN ?_ _|refine blk_drew ?_|refine blk_alloc ?_ _));exact BK173.out⟩,⟨by repeat (first|(with_reducible first|exact HB.out|apply below_alloc|apply pw_below_drewN|apply below_drew1|refine below_set ?_ GE173.out)|exact HB.out)⟩⟩
    ·rw [if_neg c4] at H
     exact absurd H (by simp)
   ·rw [if_neg c3] at H
    have c3b0:decide (x4_1<(l0_3.length:Int))=false:=decide_eq_false c3
    clear c3
    obtain rfl:=Option.some.inj H
    have hcz8_0:wr.cell? ⟨gb173,0,none⟩=some (.int .i64 a0_0):=(blk_cell BK173.out 0).trans rfl
    have hcz8_1:wr.cell? ⟨gb173,1,none⟩=some (.int .i64 a0_1):=(blk_cell BK173.out 1).trans rfl
    have hcz8_2:wr.cell? ⟨gb173,2,none⟩=some (.string a0_2):=(blk_cell BK173.out 2).trans rfl
    have hcz8_3:wr.cell? ⟨gb173,3,none⟩=some (.slice A0_3 l0_3.length c0_3):=(blk_cell BK173.out 3).trans rfl
    have hfz8_0:=blk_frozen BK173.out 0
    have hfz8_1:=blk_frozen BK173.out 1
    have hfz8_2:=blk_frozen BK173.out 2
    have hfz8_3:=blk_frozen BK173.out 3
    go_wp2
    go_ret
    exact ⟨by first|rfl|(simp [errW_none,errW_some] <;> rfl)|(simp [*,errW_none,errW_some] <;> rfl),by repeat (first|(with_reducible first|exact HB.out|apply below_alloc|apply pw_below_drewN|apply below_drew1|refine below_set ?_ GE173.out)|exact HB.out)⟩
end Go.Proofs.Ytdhdfmmefghijaa.P
namespace Go.Proofs.Ytdhdfmmefghijaa.P
open Go.RowKit Go.Proofs.YtdhdfmmefghijaaW.PrintWords Go.Proofs.YtdhdfmmefghijaaW.PrintLast Go.Proofs.YtdhdfmmefghijaaW.PrintMore
attribute [local go_sem] max2_int min2_int max_two min_two max_three min_three max_four min_four
set_option linter.unusedVariables false
set_option linter.unusedSimpArgs false
mutual
def spec_TextValid.j0:Nat→ByteArray→Bool→Option (Bool)
 | 0,_,_=>none
 | k+1,x0,x14=>if x14=true then (some false) else (spec_TextValid.l0 k x0 0)
def spec_TextValid.l0:Nat→ByteArray→Int→Option (Bool)
 | 0,_,_=>none
 | k+1,x0,x3=>if x3<(x0.size:Int) then (if 0≤x3 then (if (bt x0 x3)≥97 then (if (bt x0 x3)≤122 then (spec_TextValid.j2 k x0 x3 (bt x0 x3) true) else (if (bt x0 x3)≥48 then (spec_TextValid.j2 k x0 x3 (bt x0 x3) (decide ((bt x0 x3)≤57))) else (spec_TextValid.j2 k x0 x3 (bt x0 x3) false))) else (if (bt x0 x3)≥48 then (spec_TextValid.j2 k x0 x3 (bt x0 x3) (decide ((bt x0 x3)≤57))) else (spec_TextValid.j2 k x0 x3 (bt x0 x3) false))) else (none)) else (some true)
def spec_TextValid.j2:Nat→ByteArray→Int→Int→Bool→Option (Bool)
 | 0,_,_,_,_=>none
 | k+1,x0,x3,x4,x5=>if x4=44 then (spec_TextValid.j3 k x0 x3 x5 true) else (if x4=58 then (spec_TextValid.j3 k x0 x3 x5 true) else (if x4=61 then (spec_TextValid.j3 k x0 x3 x5 true) else (if x4=123 then (spec_TextValid.j3 k x0 x3 x5 true) else (if x4=125 then (spec_TextValid.j3 k x0 x3 x5 true) else (if x4=40 then (spec_TextValid.j3 k x0 x3 x5 true) else (if x4=41 then (spec_TextValid.j3 k x0 x3 x5 true) else (if x4=91 then (spec_TextValid.j3 k x0 x3 x5 true) else (spec_TextValid.j3 k x0 x3 x5 (x4 == 93)))))))))
def spec_TextValid.j3:Nat→ByteArray→Int→Bool→Bool→Option (Bool)
 | 0,_,_,_,_=>none
 | k+1,x0,x3,x5,x6=>if x5=true then (spec_TextValid.l0 k x0 (wrap64 (x3+1))) else (if x6=true then (spec_TextValid.l0 k x0 (wrap64 (x3+1))) else (some false))
end
def spec_TextValid.f (k:Nat) (a0:ByteArray):Option (Bool):=if (a0.size:Int)<1 then (spec_TextValid.j0 k a0 true) else (spec_TextValid.j0 k a0 (decide ((a0.size:Int)>12)))
set_option maxHeartbeats 8000000 in
set_option maxRecDepth 100000 in
theorem spec_TextValid.calls (k:Nat) (a0:ByteArray) (r:Bool) (w:World) (h:spec_TextValid.f k a0=some r) :
  Calls Try.prog 18 #[.string a0] w fun e w'=>e=.returned (.bool r)∧Drawn0 w w':=by
 have H:(if (a0.size:Int)<1 then (spec_TextValid.j0 k a0 true) else (spec_TextValid.j0 k a0 (decide ((a0.size:Int)>12))))=some r:=h
 clear h
 have HC2:=Aside0.mk H
 clear H
 go_enter Try.func18,Try.ntmps18
 go_upto_region 1 with (fail)
 go_cut [14] (fun v14 wc=>∃ (kq:Nat) (x14_1:Bool),v14=.bool x14_1∧Aside0 (spec_TextValid.j0 kq a0 x14_1=some r)∧Aside0 (kq≤k)∧Drawn0 w wc)
 case first =>
  have H:=HC2.out
  clear HC2
  by_cases c3:(a0.size:Int)<1
  ·rw [if_pos c3] at H
   have c3b0:decide ((a0.size:Int)<1)=true:=decide_eq_true c3
   have c3b1:decide (a0.size<1)=true:=decide_eq_true (by omega)
   clear c3
   (first|rw [c3b0]|(simp only [i64_w,i32_w];rw [c3b0])|skip)
   have H':=Aside0.mk H
   clear H
   go_wp2
   go_meet
   case rel=>exact ⟨_,(true),(by first|rfl|(simp;done)|(simp [*];done)),H',⟨by first|omega|exact Nat.le_refl _⟩,by repeat (first|exact Drawn0.refl _|apply Drawn0.step)⟩
  ·rw [if_neg c3] at H
   have c3b0:decide ((a0.size:Int)<1)=false:=decide_eq_false c3
   have c3b1:decide (a0.size<1)=false:=decide_eq_false (by omega)
   clear c3
   (first|rw [c3b0]|(simp only [i64_w,i32_w];rw [c3b0])|skip)
   have H':=Aside0.mk H
   clear H
   go_wp2
   go_meet
   case rel=>exact ⟨_,(decide ((a0.size:Int)>12)),(by first|rfl|(simp;done)|(simp [*];done)),H',⟨by first|omega|exact Nat.le_refl _⟩,by repeat (first|exact Drawn0.refl _|apply Drawn0.step)⟩
 case rest =>
  clear HC2
  try clear c1 p2 c3 c3b0 c3b1
  obtain ⟨kq,x14_1,rfl,HA,HJ1,⟨mc1,rfl⟩⟩:=hcut
  cases kq with
  | zero=>exact absurd HA.out (by simp [spec_TextValid.j0])
  | succ kj1 =>
   have H:=HA.out
   clear HA
   simp only [spec_TextValid.j0] at H
   by_cases c4:x14_1=true
   ·subst c4
    have H1:(some false)=some r:=by rw [if_pos rfl] at H;exact H
    clear H
    have H:=H1
    clear H1
    obtain rfl:=Option.some.inj H
    go_wp2
    go_ret
    exact ⟨by first|rfl|(simp;done)|(simp [*];done),by repeat (first|exact Drawn0.refl _|apply Drawn0.step)⟩
   ·replace c4:=Bool.eq_false_iff.mpr c4
    subst c4
    have H1:(spec_TextValid.l0 kj1 a0 0)=some r:=by rw [if_neg (show ¬ (false=true) by decide)] at H;exact H
    clear H
    have H:=H1
    clear H1
    have H':=Aside0.mk H
    clear H
    go_wp2
    go_loopg [3] kj1 (fun kq v3 w'=>∃ (x3_2:Int),v3=.int .i64 x3_2∧Aside0 (spec_TextValid.l0 kq a0 x3_2=some r)∧Aside0 (kq≤kj1)∧Drawn0 w w')
    case atStart=>exact ⟨(0),(by first|rfl|(simp;done)|(simp [*];done)),H',⟨Nat.le_refl _⟩,by repeat (first|exact Drawn0.refl _|apply Drawn0.step)⟩
    case round =>
     clear H'
     try clear c1 p2 c3 c3b0 c3b1 c4 p2
     obtain ⟨x3_2,rfl,HA,HK2,⟨m2,rfl⟩⟩:=hrel
     cases gk with
     | zero=>exact absurd HA.out (by simp [spec_TextValid.l0])
     | succ k2 =>
      have H:=HA.out
      clear HA
      simp only [spec_TextValid.l0] at H
      by_cases c5:x3_2<(a0.size:Int)
      ·rw [if_pos c5] at H
       have c5b0:decide (x3_2<(a0.size:Int))=true:=decide_eq_true c5
       clear c5
       by_cases c6:0≤x3_2
       ·rw [if_pos c6] at H
        have c6b0:decide (0≤x3_2)=true:=decide_eq_true c6
        clear c6
        have HC8:=Aside0.mk H
        clear H
        have p7:0≤(x3_2:Int):=of_decide_eq_true (by first|(with_reducible assumption)|assumption)
        have q7:x3_2<(a0.size:Int):=of_decide_eq_true (by first|(with_reducible assumption)|assumption)
        have hx7:=bt_at a0 x3_2
        replace p7:=eq_true p7
        replace q7:=eq_true q7
        go_upto_region 7 with (fail)
        go_cut [5] (fun v5 wc=>∃ (kq:Nat) (x5_7:Bool),v5=.bool x5_7∧Aside0 (spec_TextValid.j2 kq a0 x3_2 (bt a0 x3_2) x5_7=some r)∧Aside0 (kq≤k2)∧Drawn0 w wc)
        case first =>
         have H:=HC8.out
         clear HC8
         by_cases c9:(bt a0 x3_2)≥97
         ·rw [if_pos c9] at H
          have c9b0:decide (97≤(bt a0 x3_2))=true:=decide_eq_true c9
          clear c9
          (first|rw [c9b0]|(simp only [i64_w,i32_w];rw [c9b0])|skip)
          by_cases c10:(bt a0 x3_2)≤122
          ·rw [if_pos c10] at H
           have c10b0:decide ((bt a0 x3_2)≤122)=true:=decide_eq_true c10
           clear c10
           have H':=Aside0.mk H
           clear H
           go_wp2
           go_meet
           case rel=>exact ⟨_,(true),(by first|rfl|(simp;done)|(simp [*];done)),H',⟨by have:=HJ1.out;have:=HK2.out;first|omega|exact Nat.le_refl _⟩,by repeat (first|exact Drawn0.refl _|apply Drawn0.step)⟩
          ·rw [if_neg c10] at H
           have c10b0:decide ((bt a0 x3_2)≤122)=false:=decide_eq_false c10
           clear c10
           by_cases c11:(bt a0 x3_2)≥48
           ·rw [if_pos c11] at H
            have c11b0:decide (48≤(bt a0 x3_2))=true:=decide_eq_true c11
            clear c11
            have H':=Aside0.mk H
            clear H
            go_wp2
            go_meet
            case rel=>exact ⟨_,(decide ((bt a0 x3_2)≤57)),(by first|rfl|(simp;done)|(simp [*];done)),H',⟨by have:=HJ1.out;have:=HK2.out;first|omega|exact Nat.le_refl _⟩,by repeat (first|exact Drawn0.refl _|apply Drawn0.step)⟩
           ·rw [if_neg c11] at H
            have c11b0:decide (48≤(bt a0 x3_2))=false:=decide_eq_false c11
            clear c11
            have H':=Aside0.mk H
            clear H
            go_wp2
            go_meet
            case rel=>exact ⟨_,(false),(by first|rfl|(simp;done)|(simp [*];done)),H',⟨by have:=HJ1.out;have:=HK2.out;first|omega|exact Nat.le_refl _⟩,by repeat (first|exact Drawn0.refl _|apply Drawn0.step)⟩
         ·rw [if_neg c9] at H
          have c9b0:decide (97≤(bt a0 x3_2))=false:=decide_eq_false c9
          clear c9
          (first|rw [c9b0]|(simp only [i64_w,i32_w];rw [c9b0])|skip)
          by_cases c12:(bt a0 x3_2)≥48
          ·rw [if_pos c12] at H
           have c12b0:decide (48≤(bt a0 x3_2))=true:=decide_eq_true c12
           clear c12
           have H':=Aside0.mk H
           clear H
           go_wp2
           go_meet
           case rel=>exact ⟨_,(decide ((bt a0 x3_2)≤57)),(by first|rfl|(simp;done)|(simp [*];done)),H',⟨by have:=HJ1.out;have:=HK2.out;first|omega|exact Nat.le_refl _⟩,by repeat (first|exact Drawn0.refl _|apply Drawn0.step)⟩
          ·rw [if_neg c12] at H
           have c12b0:decide (48≤(bt a0 x3_2))=false:=decide_eq_false c12
           clear c12
           have H':=Aside0.mk H
           clear H
           go_wp2
           go_meet
           case rel=>exact ⟨_,(false),(by first|rfl|(simp;done)|(simp [*];done)),H',⟨by have:=HJ1.out;have:=HK2.out;first|omega|exact Nat.le_refl _⟩,by repeat (first|exact Drawn0.refl _|apply Drawn0.step)⟩
        case rest =>
         clear HC8
         try clear c1 p2 c3 c3b0 c3b1 c4 c5 c5b0 c6 c6b0 p7 q7 hx7 c9 c9b0 c10 c10b0 c11 c11b0 c12 c12b0 p2 p7 q7
         obtain ⟨kq,x5_7,rfl,HA,HJ7,⟨mc7,rfl⟩⟩:=hcut
         cases kq with
         | zero=>exact absurd HA.out (by simp [spec_TextValid.j2])
         | succ kj7 =>
          have H:=HA.out
          clear HA
          simp only [spec_TextValid.j2] at H
          have HC13:=Aside0.mk H
          clear H
          go_upto_region 8 with (fail)
          go_cut [6] (fun v6 wc=>∃ (kq:Nat) (x6_12:Bool),v6=.bool x6_12∧Aside0 (spec_TextValid.j3 kq a0 x3_2 x5_7 x6_12=some r)∧Aside0 (kq≤kj7)∧Drawn0 w wc)
          case first =>
           have H:=HC13.out
           clear HC13
           by_cases c14:(bt a0 x3_2)=44
           ·rw [if_pos c14] at H
            have c14b0:((bt a0 x3_2) == 44)=true:=beq_iff_eq.mpr c14
            have c14b1:((bt a0 x3_2) != 44)=false:=bne_eq_false_iff_eq.mpr c14
            clear c14
            (first|rw [c14b0]|(simp only [i64_w,i32_w];rw [c14b0])|skip)
            have H':=Aside0.mk H
            clear H
            go_wp2
            go_meet
            case rel=>exact ⟨_,(true),(by first|rfl|(simp;done)|(simp [*];done)),H',⟨by have:=HJ1.out;have:=HK2.out;have:=HJ7.out;first|omega|exact Nat.le_refl _⟩,by repeat (first|exact Drawn0.refl _|apply Drawn0.step)⟩
           ·rw [if_neg c14] at H
            have c14b0:((bt a0 x3_2) == 44)=false:=beq_eq_false_iff_ne.mpr c14
            have c14b1:((bt a0 x3_2) != 44)=true:=bne_iff_ne.mpr c14
            (first|rw [c14b0]|(simp only [i64_w,i32_w];rw [c14b0])|skip)
            by_cases c15:(bt a0 x3_2)=58
            ·rw [if_pos c15] at H
             have c15b0:((bt a0 x3_2) == 58)=true:=beq_iff_eq.mpr c15
             have c15b1:((bt a0 x3_2) != 58)=false:=bne_eq_false_iff_eq.mpr c15
             clear c15
             have H':=Aside0.mk H
             clear H
             go_wp2
             go_meet
             case rel=>exact ⟨_,(true),(by first|rfl|(simp;done)|(simp [*];done)),H',⟨by have:=HJ1.out;have:=HK2.out;have:=HJ7.out;first|omega|exact Nat.le_refl _⟩,by repeat (first|exact Drawn0.refl _|apply Drawn0.step)⟩
            ·rw [if_neg c15] at H
             have c15b0:((bt a0 x3_2) == 58)=false:=beq_eq_false_iff_ne.mpr c15
             have c15b1:((bt a0 x3_2) != 58)=true:=bne_iff_ne.mpr c15
             by_cases c16:(bt a0 x3_2)=61
             ·rw [if_pos c16] at H
              have c16b0:((bt a0 x3_2) == 61)=true:=beq_iff_eq.mpr c16
              have c16b1:((bt a0 x3_2) != 61)=false:=bne_eq_false_iff_eq.mpr c16
              clear c16
              have H':=Aside0.mk H
              clear H
              go_wp2
              go_meet
              case rel=>exact ⟨_,(true),(by first|rfl|(simp;done)|(simp [*];done)),H',⟨by have:=HJ1.out;have:=HK2.out;have:=HJ7.out;first|omega|exact Nat.le_refl _⟩,by repeat (first|exact Drawn0.refl _|apply Drawn0.step)⟩
             ·rw [if_neg c16] at H
              have c16b0:((bt a0 x3_2) == 61)=false:=beq_eq_false_iff_ne.mpr c16
              have c16b1:((bt a0 x3_2) != 61)=true:=bne_iff_ne.mpr c16
              by_cases c17:(bt a0 x3_2)=123
              ·rw [if_pos c17] at H
               have c17b0:((bt a0 x3_2) == 123)=true:=beq_iff_eq.mpr c17
               have c17b1:((bt a0 x3_2) != 123)=false:=bne_eq_false_iff_eq.mpr c17
               clear c17
               have H':=Aside0.mk H
               clear H
               go_wp2
               go_meet
               case rel=>exact ⟨_,(true),(by first|rfl|(simp;done)|(simp [*];done)),H',⟨by have:=HJ1.out;have:=HK2.out;have:=HJ7.out;first|omega|exact Nat.le_refl _⟩,by repeat (first|exact Drawn0.refl _|apply Drawn0.step)⟩
              ·rw [if_neg c17] at H
               have c17b0:((bt a0 x3_2) == 123)=false:=beq_eq_false_iff_ne.mpr c17
               have c17b1:((bt a0 x3_2) != 123)=true:=bne_iff_ne.mpr c17
               by_cases c18:(bt a0 x3_2)=125
               ·rw [if_pos c18] at H
                have c18b0:((bt a0 x3_2) == 125)=true:=beq_iff_eq.mpr c18
                have c18b1:((bt a0 x3_2) != 125)=false:=bne_eq_false_iff_eq.mpr c18
                clear c18
                have H':=Aside0.mk H
                clear H
                go_wp2
                go_meet
                case rel=>exact ⟨_,(true),(by first|rfl|(simp;done)|(simp [*];done)),H',⟨by have:=HJ1.out;have:=HK2.out;have:=HJ7.out;first|omega|exact Nat.le_refl _⟩,by repeat (first|exact Drawn0.refl _|apply Drawn0.step)⟩
               ·rw [if_neg c18] at H
                have c18b0:((bt a0 x3_2) == 125)=false:=beq_eq_false_iff_ne.mpr c18
                have c18b1:((bt a0 x3_2) != 125)=true:=bne_iff_ne.mpr c18
                by_cases c19:(bt a0 x3_2)=40
                ·rw [if_pos c19] at H
                 have c19b0:((bt a0 x3_2) == 40)=true:=beq_iff_eq.mpr c19
                 have c19b1:((bt a0 x3_2) != 40)=false:=bne_eq_false_iff_eq.mpr c19
                 clear c19
                 have H':=Aside0.mk H
                 clear H
                 go_wp2
                 go_meet
                 case rel=>exact ⟨_,(true),(by first|rfl|(simp;done)|(simp [*];done)),H',⟨by have:=HJ1.out;have:=HK2.out;have:=HJ7.out;first|omega|exact Nat.le_refl _⟩,by repeat (first|exact Drawn0.refl _|apply Drawn0.step)⟩
                ·rw [if_neg c19] at H
                 have c19b0:((bt a0 x3_2) == 40)=false:=beq_eq_false_iff_ne.mpr c19
                 have c19b1:((bt a0 x3_2) != 40)=true:=bne_iff_ne.mpr c19
                 by_cases c20:(bt a0 x3_2)=41
                 ·rw [if_pos c20] at H
                  have c20b0:((bt a0 x3_2) == 41)=true:=beq_iff_eq.mpr c20
                  have c20b1:((bt a0 x3_2) != 41)=false:=bne_eq_false_iff_eq.mpr c20
                  clear c20
                  have H':=Aside0.mk H
                  clear H
                  go_wp2
                  go_meet
                  case rel=>exact ⟨_,(true),(by first|rfl|(simp;done)|(simp [*];done)),H',⟨by have:=HJ1.out;have:=HK2.out;have:=HJ7.out;first|omega|exact Nat.le_refl _⟩,by repeat (first|exact Drawn0.refl _|apply Drawn0.step)⟩
                 ·rw [if_neg c20] at H
                  have c20b0:((bt a0 x3_2) == 41)=false:=beq_eq_false_iff_ne.mpr c20
                  have c20b1:((bt a0 x3_2) != 41)=true:=bne_iff_ne.mpr c20
                  by_cases c21:(bt a0 x3_2)=91
                  ·rw [if_pos c21] at H
                   have c21b0:((bt a0 x3_2) == 91)=true:=beq_iff_eq.mpr c21
                   have c21b1:((bt a0 x3_2) != 91)=false:=bne_eq_false_iff_eq.mpr c21
                   clear c21
                   have H':=Aside0.mk H
                   clear H
                   go_wp2
                   go_meet
                   case rel=>exact ⟨_,(true),(by first|rfl|(simp;done)|(simp [*];done)),H',⟨by have:=HJ1.out;have:=HK2.out;have:=HJ7.out;first|omega|exact Nat.le_refl _⟩,by repeat (first|exact Drawn0.refl _|apply Drawn0.step)⟩
                  ·rw [if_neg c21] at H
                   have c21b0:((bt a0 x3_2) == 91)=false:=beq_eq_false_iff_ne.mpr c21
                   have c21b1:((bt a0 x3_2) != 91)=true:=bne_iff_ne.mpr c21
                   have H':=Aside0.mk H
                   clear H
                   go_wp2
                   go_meet
                   case rel=>exact ⟨_,(((bt a0 x3_2) == 93)),(by first|rfl|(simp;done)|(simp [*];done)),H',⟨by have:=HJ1.out;have:=HK2.out;have:=HJ7.out;first|omega|exact Nat.le_refl _⟩,by repeat (first|exact Drawn0.refl _|apply Drawn0.step)⟩
          case rest =>
           clear HC13
           try clear c1 c2 p2 c3 c3b0 c3b1 c4 c5 c5b0 c6 c6b0 c7 p7 q7 hx7 c9 c9b0 c10 c10b0 c11 c11b0 c12 c12b0 c14 c14b0 c14b1 c15 c15b0 c15b1 c16 c16b0 c16b1 c17 c17b0 c17b1 c18 c18b0 c18b1 c19 c19b0 c19b1 c20 c20b0 c20b1 c21 c21b0 c21b1 p2 p7 q7
           obtain ⟨kq,x6_12,rfl,HA,HJ12,⟨mc12,rfl⟩⟩:=hcut
           cases kq with
           | zero=>exact absurd HA.out (by simp [spec_TextValid.j3])
           | succ kj12 =>
            have H:=HA.out
            clear HA
            simp only [spec_TextValid.j3] at H
            by_cases c22:x5_7=true
            ·subst c22
             have H1:(spec_TextValid.l0 kj12 a0 (wrap64 (x3_2+1)))=some r:=by rw [if_pos rfl] at H;exact H
             clear H
             have H:=H1
             clear H1
             have H':=Aside0.mk H
             clear H
             go_wp2
             go_roundg kj12
             case measure=>have:=HJ1.out;have:=HK2.out;have:=HJ7.out;have:=HJ12.out;omega
             case rel=>exact ⟨(wrap64 (x3_2+1)),(by first|rfl|(simp;done)|(simp [*];done)),H',⟨by have:=HJ1.out;have:=HK2.out;have:=HJ7.out;have:=HJ12.out;omega⟩,by repeat (first|exact Drawn0.refl _|apply Drawn0.step)⟩
            ·replace c22:=Bool.eq_false_iff.mpr c22
             subst c22
             have H1:(if x6_12=true then (spec_TextValid.l0 kj12 a0 (wrap64 (x3_2+1))) else (some false))=some r:=by rw [if_neg (show ¬ (false=true) by decide)] at H;exact H
             clear H
             have H:=H1
             clear H1
             by_cases c23:x6_12=true
             ·subst c23
              have H1:(spec_TextValid.l0 kj12 a0 (wrap64 (x3_2+1)))=some r:=by rw [if_pos rfl] at H;exact H
              clear H
              have H:=H1
              clear H1
              have H':=Aside0.mk H
              clear H
              go_wp2
              go_roundg kj12
              case measure=>have:=HJ1.out;have:=HK2.out;have:=HJ7.out;have:=HJ12.out;omega
              case rel=>exact ⟨(wrap64 (x3_2+1)),(by first|rfl|(simp;done)|(simp [*];done)),H',⟨by have:=HJ1.out;have:=HK2.out;have:=HJ7.out;have:=HJ12.out;omega⟩,by repeat (first|exact Drawn0.refl _|apply Drawn0.step)⟩
             ·replace c23:=Bool.eq_false_iff.mpr c23
              subst c23
              have H1:(some false)=some r:=by rw [if_neg (show ¬ (false=true) by decide)] at H;exact H
              clear H
              have H:=H1
              clear H1
              obtain rfl:=Option.some.inj H
              go_wp2
              go_ret
              exact ⟨by first|rfl|(simp;done)|(simp [*];done),by repeat (first|exact Drawn0.refl _|apply Drawn0.step)⟩
       ·rw [if_neg c6] at H
        exact absurd H (by simp)
      ·rw [if_neg c5] at H
       have c5b0:decide (x3_2<(a0.size:Int))=false:=decide_eq_false c5
       clear c5
       obtain rfl:=Option.some.inj H
       go_wp2
       go_ret
       exact ⟨by first|rfl|(simp;done)|(simp [*];done),by repeat (first|exact Drawn0.refl _|apply Drawn0.step)⟩
end Go.Proofs.Ytdhdfmmefghijaa.P
namespace Go.Proofs.Ytdhdfmmefghijaa.P
open Go.RowKit Go.Proofs.YtdhdfmmefghijaaW.PrintWords Go.Proofs.YtdhdfmmefghijaaW.PrintLast Go.Proofs.YtdhdfmmefghijaaW.PrintMore
attribute [local go_sem] max2_int min2_int max_two min_two max_three min_three max_four min_four
set_option linter.unusedVariables false
set_option linter.unusedSimpArgs false
mutual
def spec_l1Kids.j0:Nat→Int→Bool→Option (Int)
 | 0,_,_=>none
 | k+1,x3,x4=>if x4=true then (some 0) else (if x3=6 then (spec_l1Kids.j1 k x3 (x3 == 6)) else (spec_l1Kids.j1 k x3 (x3 == 8)))
def spec_l1Kids.j1:Nat→Int→Bool→Option (Int)
 | 0,_,_=>none
 | k+1,x3,x10=>if x10=true then (some 1) else (if x3=7 then (some 2) else (some (-1)))
end
def spec_l1Kids.f (k:Nat) (a0:Int):Option (Int):=if a0=1 then (spec_l1Kids.j0 k a0 (a0 == 1)) else (if a0=2 then (spec_l1Kids.j0 k a0 (a0 == 2)) else (if a0=3 then (spec_l1Kids.j0 k a0 (a0 == 3)) else (if a0=4 then (spec_l1Kids.j0 k a0 (a0 == 4)) else (spec_l1Kids.j0 k a0 (a0 == 5)))))
set_option maxHeartbeats 8000000 in
set_option maxRecDepth 100000 in
theorem spec_l1Kids.calls (k:Nat) (a0:Int) (r:Int) (w:World) (h:spec_l1Kids.f k a0=some r) :
  Calls Try.prog 73 #[.int .i64 a0] w fun e w'=>e=.returned (.int .i64 r)∧Drawn0 w w':=by
 have H:(if a0=1 then (spec_l1Kids.j0 k a0 (a0 == 1)) else (if a0=2 then (spec_l1Kids.j0 k a0 (a0 == 2)) else (if a0=3 then (spec_l1Kids.j0 k a0 (a0 == 3)) else (if a0=4 then (spec_l1Kids.j0 k a0 (a0 == 4)) else (spec_l1Kids.j0 k a0 (a0 == 5))))))=some r:=h
 clear h
 have HC2:=Aside0.mk H
 clear H
 go_enter Try.func73,Try.ntmps73
 go_upto_if 4 with (fail)
 go_cut [4] (fun v4 wc=>∃ (kq:Nat) (x4_1:Bool),v4=.bool x4_1∧Aside0 (spec_l1Kids.j0 kq a0 x4_1=some r)∧Aside0 (kq≤k)∧Drawn0 w wc)
 case first =>
  have H:=HC2.out
  clear HC2
  by_cases c3:a0=1
  ·rw [if_pos c3] at H
   have c3b0:(a0 == 1)=true:=beq_iff_eq.mpr c3
   have c3b1:(a0 != 1)=false:=bne_eq_false_iff_eq.mpr c3
   clear c3
   (first|rw [c3b0]|(simp only [i64_w,i32_w];rw [c3b0])|skip)
   have H':=Aside0.mk H
   clear H
   go_wp2
   go_meet
   case rel=>exact ⟨_,((a0 == 1)),(by first|rfl|(simp;done)|(simp [*];done)),H',⟨by first|omega|exact Nat.le_refl _⟩,by repeat (first|exact Drawn0.refl _|apply Drawn0.step)⟩
  ·rw [if_neg c3] at H
   have c3b0:(a0 == 1)=false:=beq_eq_false_iff_ne.mpr c3
   have c3b1:(a0 != 1)=true:=bne_iff_ne.mpr c3
   (first|rw [c3b0]|(simp only [i64_w,i32_w];rw [c3b0])|skip)
   by_cases c4:a0=2
   ·rw [if_pos c4] at H
    have c4b0:(a0 == 2)=true:=beq_iff_eq.mpr c4
    have c4b1:(a0 != 2)=false:=bne_eq_false_iff_eq.mpr c4
    clear c4
    have H':=Aside0.mk H
    clear H
    go_wp2
    go_meet
    case rel=>exact ⟨_,((a0 == 2)),(by first|rfl|(simp;done)|(simp [*];done)),H',⟨by first|omega|exact Nat.le_refl _⟩,by repeat (first|exact Drawn0.refl _|apply Drawn0.step)⟩
   ·rw [if_neg c4] at H
    have c4b0:(a0 == 2)=false:=beq_eq_false_iff_ne.mpr c4
    have c4b1:(a0 != 2)=true:=bne_iff_ne.mpr c4
    by_cases c5:a0=3
    ·rw [if_pos c5] at H
     have c5b0:(a0 == 3)=true:=beq_iff_eq.mpr c5
     have c5b1:(a0 != 3)=false:=bne_eq_false_iff_eq.mpr c5
     clear c5
     have H':=Aside0.mk H
     clear H
     go_wp2
     go_meet
     case rel=>exact ⟨_,((a0 == 3)),(by first|rfl|(simp;done)|(simp [*];done)),H',⟨by first|omega|exact Nat.le_refl _⟩,by repeat (first|exact Drawn0.refl _|apply Drawn0.step)⟩
    ·rw [if_neg c5] at H
     have c5b0:(a0 == 3)=false:=beq_eq_false_iff_ne.mpr c5
     have c5b1:(a0 != 3)=true:=bne_iff_ne.mpr c5
     by_cases c6:a0=4
     ·rw [if_pos c6] at H
      have c6b0:(a0 == 4)=true:=beq_iff_eq.mpr c6
      have c6b1:(a0 != 4)=false:=bne_eq_false_iff_eq.mpr c6
      clear c6
      have H':=Aside0.mk H
      clear H
      go_wp2
      go_meet
      case rel=>exact ⟨_,((a0 == 4)),(by first|rfl|(simp;done)|(simp [*];done)),H',⟨by first|omega|exact Nat.le_refl _⟩,by repeat (first|exact Drawn0.refl _|apply Drawn0.step)⟩
     ·rw [if_neg c6] at H
      have c6b0:(a0 == 4)=false:=beq_eq_false_iff_ne.mpr c6
      have c6b1:(a0 != 4)=true:=bne_iff_ne.mpr c6
      have H':=Aside0.mk H
      clear H
      go_wp2
      go_meet
      case rel=>exact ⟨_,((a0 == 5)),(by first|rfl|(simp;done)|(simp [*];done)),H',⟨by first|omega|exact Nat.le_refl _⟩,by repeat (first|exact Drawn0.refl _|apply Drawn0.step)⟩
 case rest =>
  clear HC2
  try clear p2 c3 c3b0 c3b1 c4 c4b0 c4b1 c5 c5b0 c5b1 c6 c6b0 c6b1
  obtain ⟨kq,x4_1,rfl,HA,HJ1,⟨mc1,rfl⟩⟩:=hcut
  cases kq with
  | zero=>exact absurd HA.out (by simp [spec_l1Kids.j0])
  | succ kj1 =>
   have H:=HA.out
   clear HA
   simp only [spec_l1Kids.j0] at H
   by_cases c7:x4_1=true
   ·subst c7
    have H1:(some 0)=some r:=by rw [if_pos rfl] at H;exact H
    clear H
    have H:=H1
    clear H1
    obtain rfl:=Option.some.inj H
    go_wp2
    go_ret
    exact ⟨by first|rfl|(simp;done)|(simp [*];done),by repeat (first|exact Drawn0.refl _|apply Drawn0.step)⟩
   ·replace c7:=Bool.eq_false_iff.mpr c7
    subst c7
    have H1:(if a0=6 then (spec_l1Kids.j1 kj1 a0 (a0 == 6)) else (spec_l1Kids.j1 kj1 a0 (a0 == 8)))=some r:=by rw [if_neg (show ¬ (false=true) by decide)] at H;exact H
    clear H
    have H:=H1
    clear H1
    have HC8:=Aside0.mk H
    clear H
    go_upto_if 10 with (fail)
    go_cut [10] (fun v10 wc=>∃ (kq:Nat) (x10_7:Bool),v10=.bool x10_7∧Aside0 (spec_l1Kids.j1 kq a0 x10_7=some r)∧Aside0 (kq≤kj1)∧Drawn0 w wc)
    case first =>
     have H:=HC8.out
     clear HC8
     by_cases c9:a0=6
     ·rw [if_pos c9] at H
      have c9b0:(a0 == 6)=true:=beq_iff_eq.mpr c9
      have c9b1:(a0 != 6)=false:=bne_eq_false_iff_eq.mpr c9
      clear c9
      (first|rw [c9b0]|(simp only [i64_w,i32_w];rw [c9b0])|skip)
      have H':=Aside0.mk H
      clear H
      go_wp2
      go_meet
      case rel=>exact ⟨_,((a0 == 6)),(by first|rfl|(simp;done)|(simp [*];done)),H',⟨by have:=HJ1.out;first|omega|exact Nat.le_refl _⟩,by repeat (first|exact Drawn0.refl _|apply Drawn0.step)⟩
     ·rw [if_neg c9] at H
      have c9b0:(a0 == 6)=false:=beq_eq_false_iff_ne.mpr c9
      have c9b1:(a0 != 6)=true:=bne_iff_ne.mpr c9
      (first|rw [c9b0]|(simp only [i64_w,i32_w];rw [c9b0])|skip)
      have H':=Aside0.mk H
      clear H
      go_wp2
      go_meet
      case rel=>exact ⟨_,((a0 == 8)),(by first|rfl|(simp;done)|(simp [*];done)),H',⟨by have:=HJ1.out;first|omega|exact Nat.le_refl _⟩,by repeat (first|exact Drawn0.refl _|apply Drawn0.step)⟩
    case rest =>
     clear HC8
     try clear c1 p2 c3 c3b0 c3b1 c4 c4b0 c4b1 c5 c5b0 c5b1 c6 c6b0 c6b1 c7 c9 c9b0 c9b1 p2
     obtain ⟨kq,x10_7,rfl,HA,HJ7,⟨mc7,rfl⟩⟩:=hcut
     cases kq with
     | zero=>exact absurd HA.out (by simp [spec_l1Kids.j1])
     | succ kj7 =>
      have H:=HA.out
      clear HA
      simp only [spec_l1Kids.j1] at H
      by_cases c10:x10_7=true
      ·subst c10
       have H1:(some 1)=some r:=by rw [if_pos rfl] at H;exact H
       clear H
       have H:=H1
       clear H1
       obtain rfl:=Option.some.inj H
       go_wp2
       go_ret
       exact ⟨by first|rfl|(simp;done)|(simp [*];done),by repeat (first|exact Drawn0.refl _|apply Drawn0.step)⟩
      ·replace c10:=Bool.eq_false_iff.mpr c10
       subst c10
       have H1:(if a0=7 then (some 2) else (some (-1)))=some r:=by rw [if_neg (show ¬ (false=true) by decide)] at H;exact H
       clear H
       have H:=H1
       clear H1
       by_cases c11:a0=7
       ·rw [if_pos c11] at H
        have c11b0:(a0 == 7)=true:=beq_iff_eq.mpr c11
        have c11b1:(a0 != 7)=false:=bne_eq_false_iff_eq.mpr c11
        clear c11
        obtain rfl:=Option.some.inj H
        go_wp2
        go_ret
        exact ⟨by first|rfl|(simp;done)|(simp [*];done),by repeat (first|exact Drawn0.refl _|apply Drawn0.step)⟩
       ·rw [if_neg c11] at H
        have c11b0:(a0 == 7)=false:=beq_eq_false_iff_ne.mpr c11
        have c11b1:(a0 != 7)=true:=bne_iff_ne.mpr c11
        obtain rfl:=Option.some.inj H
        go_wp2
        go_ret
        exact ⟨by first|rfl|(simp;done)|(simp [*];done),by repeat (first|exact Drawn0.refl _|apply Drawn0.step)⟩
end Go.Proofs.Ytdhdfmmefghijaa.P
