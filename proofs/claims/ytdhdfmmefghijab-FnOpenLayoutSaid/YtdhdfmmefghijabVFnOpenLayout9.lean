/- CONTRACTS and lemmas: each contract says that a Go function of the program, called over the translation under the theorem's own hypotheses, returns what the Lean function beside it computes. -/
import Derived.Test.YtdhdfmmefghijabVFnOpenLayout8
import Derived.Test.YtdhdfmmefghijabRows
import Derived.ClosedOfChecked
import Derived.KernelRfl
namespace Go.Proofs.Ytdhdfmmefghijab.Pure
open Go.RowKit Go.Proofs.Ytdhdfmmefghijab.P Go.Proofs.YtdhdfmmefghijabW.PrintWords Go.Proofs.YtdhdfmmefghijabW.PrintLast Go.Proofs.YtdhdfmmefghijabW.PrintMore
set_option linter.unusedVariables false
set_option linter.unusedSimpArgs false
def inR (n:Int) (r:SRow):SRow:=⟨wrap64 (r.f0+n),r.f1⟩
def nestO (n:Int):List SRow→List SRow
  | []=>[]
  | r :: t=>r :: t.map (inR n)
theorem setN (a b:List SRow) (d z:SRow):(a ++ d :: b).set (a.length:Int).toNat z=a ++ z :: b:=by
  rw [Int.toNat_natCast,List.set_append_right _ _ (Nat.le_refl _),Nat.sub_self,List.set_cons_zero]
theorem specNest_loop (n:Int) (suf:List SRow):∀ pre:List SRow,pre.length+suf.length≤1099511627776 →
    Ev (fun k=>spec_l2Nest.l0 k n (pre ++ suf) (pre.length:Int)) (pre ++ suf.map (inR n)):=by
  induction suf with
  | nil =>
    intro pre hm
    refine Ev.step (fun k=>by rw [spec_l2Nest.l0]) ?_
    simp only [List.append_nil,Int.lt_irrefl,if_false,List.map_nil]
    exact Ev.now _
  | cons y suf ih =>
    intro pre hm
    simp only [List.length_cons] at hm
    refine Ev.step (fun k=>by rw [spec_l2Nest.l0]) ?_
    have c1:(pre.length:Int) < ((pre ++ y :: suf).length:Int):=by simp;omega
    have c2:(0:Int)≤(pre.length:Int):=by omega
    simp only [if_pos c1,if_pos c2,rdR,setN]
    rw [w64 (i:=(pre.length:Int)+1) (by omega) (by omega)]
    have:=ih (pre ++ [inR n y]) (by simp;omega)
    rw [List.append_assoc,List.append_assoc,show ((pre ++ [inR n y]).length:Int)=(pre.length:Int)+1 by simp] at this
    exact this
theorem implNest_loop (n:Int) (suf:List SRow):∀ pre:List SRow,pre.length+suf.length≤1099511627776 →
    Ev (fun k=>impl_nestRows.l0 k n (pre ++ suf) (pre.length:Int)) (pre ++ suf.map (inR n)):=by
  induction suf with
  | nil =>
    intro pre hm
    refine Ev.step (fun k=>by rw [impl_nestRows.l0]) ?_
    simp only [List.append_nil,Int.lt_irrefl,if_false,List.map_nil]
    exact Ev.now _
  | cons y suf ih =>
    intro pre hm
    simp only [List.length_cons] at hm
    refine Ev.step (fun k=>by rw [impl_nestRows.l0]) ?_
    have c1:(pre.length:Int) < ((pre ++ y :: suf).length:Int):=by simp;omega
    have c2:(0:Int)≤(pre.length:Int):=by omega
    simp only [if_pos c1,if_pos c2,rdR,setN]
    rw [w64 (i:=(pre.length:Int)+1) (by omega) (by omega)]
    have:=ih (pre ++ [inR n y]) (by simp;omega)
    rw [List.append_assoc,List.append_assoc,show ((pre ++ [inR n y]).length:Int)=(pre.length:Int)+1 by simp] at this
    exact this
theorem specNest_ev (n:Int) (l:List SRow) (h0:0 < l.length) (h1:l.length≤1048576):Ev (fun k=>spec_l2Nest.f k n l) (nestO n l):=by
  refine Ev.congr (fun k=>by rw [spec_l2Nest.f]) ?_
  simp only [Option.bind_some,List.nil_append,List.length_nil,Nat.zero_add,if_pos (show l.length < 5864062014805 by omega)]
  cases l with
  | nil=>simp at h0
  | cons r t=>exact specNest_loop n t [r] (by simp at h1 ⊢;omega)
theorem implNest_ev (n:Int) (l:List SRow) (h0:0 < l.length) (h1:l.length≤1048576):Ev (fun k=>impl_nestRows.f k n l) (nestO n l):=by
  refine Ev.congr (fun k=>by rw [impl_nestRows.f]) ?_
  simp only [slices_Clone_Llimpl_Row.f,if_pos (show l.length < 5864062014805 by omega),Option.bind_some]
  cases l with
  | nil=>simp at h0
  | cons r t=>exact implNest_loop n t [r] (by simp at h1 ⊢;omega)
end Go.Proofs.Ytdhdfmmefghijab.Pure
namespace Go.Proofs.Ytdhdfmmefghijab.P
open Go.RowKit Go.Proofs.YtdhdfmmefghijabW.PrintWords Go.Proofs.YtdhdfmmefghijabW.PrintLast Go.Proofs.YtdhdfmmefghijabW.PrintMore
attribute [local go_sem] max2_int min2_int max_two min_two max_three min_three max_four min_four
set_option linter.unusedVariables false
set_option linter.unusedSimpArgs false
def spec_l2Draw.f (k:Nat) (s0_0:List Int) (s0_1:Int):Option ((List (SRow))×Int):=(spec_l1Draw.f k s0_0 s0_1).bind fun bt388=>((spec_l2Open.f k bt388.1 bt388.2.1 bt388.2.2.1 bt388.2.2.2.1).bind fun t395=>((spec_l15Rd_pick.f k s0_0 bt388.2.2.2.2 (t395.length:Int)).bind fun bt398=>((spec_l15Rd_pick.f k s0_0 bt398.2 16).bind fun bt400=>(if bt400.1=0 then ((spec_l15Rd_num.f k s0_0 bt400.2 (([(-1),401,3]:List Int))).bind fun bt405=>(if 0≤bt398.1 then (if bt398.1<(t395.length:Int) then (some ((t395.set (bt398.1:Int).toNat (⟨bt405.1,(rd_TRow t395 bt398.1).f1⟩:SRow)),bt405.2)) else (none)) else (none))) else (if bt400.1=1 then ((spec_l15Rd_of.f k s0_0 bt400.2 (([(⟨#[65]⟩:ByteArray),(⟨#[97,32,98]⟩:ByteArray),(⟨#[120,10]⟩:ByteArray),(⟨#[]⟩:ByteArray)]:List ByteArray))).bind fun bt411=>(if 0≤bt398.1 then (if bt398.1<(t395.length:Int) then (some ((t395.set (bt398.1:Int).toNat (⟨(rd_TRow t395 bt398.1).f0,bt411.1⟩:SRow)),bt411.2)) else (none)) else (none))) else (if bt400.1=2 then (if 0≤(t395.length:Int) then (some ((t395.take (0:Int).toNat),bt400.2)) else (none)) else (some (t395,bt400.2))))))))
end Go.Proofs.Ytdhdfmmefghijab.P
namespace Go.Proofs.Ytdhdfmmefghijab.Pure
open Go.RowKit Go.Proofs.Ytdhdfmmefghijab.P Go.Proofs.YtdhdfmmefghijabW.PrintWords Go.Proofs.YtdhdfmmefghijabW.PrintLast Go.Proofs.YtdhdfmmefghijabW.PrintMore
set_option linter.unusedVariables false
set_option linter.unusedSimpArgs false
def Code (b:List Int):Prop:=b.length≤2000∧∀ x ∈ b,0≤x∧x < 256
theorem open_ev (l:List Int) (hl:l.length≤maxLen) (h:∀ x ∈ l,(Lit.int .u8 x).wf=true):∃ b,Code b∧spec_l15Open.f l=some (b,0):=by
  have hx:∀ x ∈ l,0≤x∧x < 256:=by
    intro x hx
    have:=h x hx
    have e1:IntKind.u8.min=0:=rfl
    have e2:IntKind.u8.max=255:=rfl
    simp [Lit.wf,e1,e2] at this
    omega
  rw [spec_l15Open.f]
  by_cases c:(l.length:Int) > 2000
  · rw [if_pos c,if_pos (by omega)]
    exact ⟨l.take 2000,⟨by rw [List.length_take];omega,fun x hx'=>hx x (List.mem_of_mem_take hx')⟩,rfl⟩
  · rw [if_neg c]
    exact ⟨l,⟨by omega,hx⟩,rfl⟩
theorem rd_in {b:List Int} (hb:Code b) (i:Int):0≤rd b i∧rd b i < 256:=by
  unfold rd
  rw [List.getD_eq_getElem?_getD]
  cases h:b[i.toNat]? with
  | none=>simp
  | some x =>
    have:=hb.2 x (List.mem_of_getElem? h)
    simpa using this
theorem xor_nonneg (x y:Int) (hx0:0≤x) (hx:x < 4611686018427387904) (hy0:0≤y) (hy:y < 4611686018427387904):0≤Go.bits .xor .i64 x y:=by
  obtain ⟨n,rfl⟩:=Int.eq_ofNat_of_zero_le hx0
  obtain ⟨m,rfl⟩:=Int.eq_ofNat_of_zero_le hy0
  have hn:n < 2 ^ 62:=by omega
  have hm:m < 2 ^ 62:=by omega
  have hxm:n ^^^ m < 2 ^ 62:=Nat.xor_lt_two_pow hn hm
  have e1:(BitVec.ofInt 64 (n:Int)).toNat=n:=by
    rw [BitVec.ofInt_natCast,BitVec.toNat_ofNat]
    exact Nat.mod_eq_of_lt (by omega)
  have e2:(BitVec.ofInt 64 (m:Int)).toNat=m:=by
    rw [BitVec.ofInt_natCast,BitVec.toNat_ofNat]
    exact Nat.mod_eq_of_lt (by omega)
  have e:Go.bits .xor .i64 (n:Int) (m:Int)=IntKind.i64.wrap ((n ^^^ m:Nat):Int):=by
    show IntKind.i64.wrap ((BitVec.ofInt 64 (n:Int) ^^^ BitVec.ofInt 64 (m:Int)).toNat:Int)=_
    rw [BitVec.toNat_xor,e1,e2]
  rw [e]
  have w:IntKind.i64.wrap ((n ^^^ m:Nat):Int)=((n ^^^ m:Nat):Int):=by
    simp [IntKind.wrap,IntKind.bits,IntKind.signed]
    omega
  rw [w]
  omega
theorem tm_in (x:Int) {n:Int} (h0:0≤x) (hn:0 < n):0≤Int.tmod x n∧Int.tmod x n < n:=⟨Int.tmod_nonneg n h0,Int.tmod_lt_of_pos x hn⟩
theorem pick_ev {b:List Int} (hb:Code b) (p n:Int) (hp0:0≤p) (hp:p≤1000000000):∃ r,Ev (fun k=>spec_l15Rd_pick.f k b p n) (r,p+1)∧0≤r∧(1≤n→r < n):=by
  have w1:wrap64 (p+1)=p+1:=w64 (by omega) (by omega)
  have w2:wrap64 (p+1 - 1)=p:=by rw [w64 (by omega) (by omega)];omega
  have hl:=hb.1
  have J0:Ev (fun k=>spec_l15Rd_pick.j0 k n true b (p+1)) (0,p+1):=by
    refine Ev.step (fun k=>by rw [spec_l15Rd_pick.j0]) ?_
    simp only [if_true]
    exact Ev.now _
  by_cases c1:n < 1
  · refine ⟨0,Ev.congr (fun k=>by rw [spec_l15Rd_pick.f,if_pos c1,w1]) J0,Int.le_refl _,fun h=>by omega⟩
  by_cases c2:(b.length:Int)=0
  · refine ⟨0,Ev.congr (fun k=>by rw [spec_l15Rd_pick.f,if_neg c1,w1,show (((b.length:Int)) == 0)=true by simpa using c2]) J0,Int.le_refl _,fun h=>by omega⟩
  have hn0:n ≠ 0:=by omega
  have start:∀ R,Ev (fun k=>spec_l15Rd_pick.j0 k n false b (p+1)) R→Ev (fun k=>spec_l15Rd_pick.f k b p n) R:=by
    intro R h
    exact Ev.congr (fun k=>by rw [spec_l15Rd_pick.f,if_neg c1,w1,show (((b.length:Int)) == 0)=false by simpa using c2]) h
  by_cases c3:p < (b.length:Int)
  · have hr:=rd_in hb p
    have w3:wrap64 (rd b p)=rd b p:=w64 (by omega) (by omega)
    have ht:=tm_in (rd b p) (n:=n) hr.1 (by omega)
    refine ⟨Int.tmod (rd b p) n,start _ (Ev.step (fun k=>by rw [spec_l15Rd_pick.j0]) ?_),ht.1,fun _=>ht.2⟩
    simp only [Bool.false_eq_true,if_false,w2,if_pos c3,if_pos hp0,if_neg hn0,w3]
    exact Ev.now _
  · have hlp:0 < (b.length:Int):=by omega
    have t1:=tm_in p hp0 hlp
    have w3:wrap64 (p * 7)=p * 7:=w64 (by omega) (by omega)
    have w4:wrap64 (p * 7+3)=p * 7+3:=w64 (by omega) (by omega)
    have t2:=tm_in (p * 7+3) (by omega) hlp
    have r1:=rd_in hb (Int.tmod p (b.length:Int))
    have r2:=rd_in hb (Int.tmod (p * 7+3) (b.length:Int))
    have d0:0≤Int.tdiv p (b.length:Int):=Int.tdiv_nonneg hp0 (by omega)
    have d1:Int.tdiv p (b.length:Int)≤p:=by
      obtain ⟨m,rfl⟩:=Int.eq_ofNat_of_zero_le hp0
      have:Int.tdiv (m:Int) (b.length:Int)=((m / b.length:Nat):Int):=rfl
      rw [this]
      exact Int.ofNat_le.2 (Nat.div_le_self _ _)
    generalize hA:rd b (Int.tmod p (b.length:Int))=A at r1
    generalize hB:rd b (Int.tmod (p * 7+3) (b.length:Int))=B at r2
    generalize hD:Int.tdiv p (b.length:Int)=D at d0 d1
    have e1:wrap64 (wrap64 A * 131)=A * 131:=by rw [w64 (i:=A) (by omega) (by omega),w64 (by omega) (by omega)]
    have e2:wrap64 (wrap64 B * 1117)=B * 1117:=by rw [w64 (i:=B) (by omega) (by omega),w64 (by omega) (by omega)]
    have e3:wrap64 (p * 29)=p * 29:=w64 (by omega) (by omega)
    have e4:wrap64 (wrap64 D * 53)=D * 53:=by rw [w64 (i:=D) (by omega) (by omega),w64 (by omega) (by omega)]
    have e5:wrap64 (A * 131+B * 1117)=A * 131+B * 1117:=w64 (by omega) (by omega)
    have e6:wrap64 (A * 131+B * 1117+p * 29)=A * 131+B * 1117+p * 29:=w64 (by omega) (by omega)
    have e7:wrap64 (A * 131+B * 1117+p * 29+D * 53)=A * 131+B * 1117+p * 29+D * 53:=w64 (by omega) (by omega)
    generalize hX:A * 131+B * 1117+p * 29+D * 53=X at e7
    have hX0:0≤X:=by omega
    have hX1:X≤1000000000000:=by omega
    have q0:0≤Int.tdiv X 64:=Int.tdiv_nonneg hX0 (by omega)
    have q1:Int.tdiv X 64≤X:=by
      obtain ⟨m,rfl⟩:=Int.eq_ofNat_of_zero_le hX0
      have:Int.tdiv (m:Int) 64=((m / 64:Nat):Int):=rfl
      rw [this]
      exact Int.ofNat_le.2 (Nat.div_le_self _ _)
    have e8:wrap64 (Int.tdiv X 64)=Int.tdiv X 64:=w64 (by omega) (by omega)
    have hx:=xor_nonneg X (Int.tdiv X 64) hX0 (by omega) q0 (by omega)
    have ht:=tm_in (Go.bits .xor .i64 X (Int.tdiv X 64)) (n:=n) hx (by omega)
    refine ⟨Int.tmod (Go.bits .xor .i64 X (Int.tdiv X 64)) n,start _ (Ev.step (fun k=>by rw [spec_l15Rd_pick.j0]) ?_),ht.1,fun _=>ht.2⟩
    simp only [Bool.false_eq_true,if_false,w2,if_neg c3,if_neg c2,w3,w4,if_pos t1.1,if_pos t1.2,if_pos t2.1,if_pos t2.2,if_neg hn0,hA,hB,hD,e1,e2,e3,e4,e5,e6,e7,hX,e8]
    exact Ev.now _
theorem of_ev {b:List Int} (hb:Code b) (p:Int) (l:List ByteArray) (hl:0 < l.length) (hp0:0≤p) (hp:p≤1000000000):∃ s,s ∈ l∧Ev (fun k=>spec_l15Rd_of.f k b p l) (s,p+1):=by
  obtain ⟨r,h,h0,h1⟩:=pick_ev hb p (l.length:Int) hp0 hp
  have h1:=h1 (by omega)
  have hr:r.toNat < l.length:=by omega
  refine ⟨rdOf ByteArray.empty l r,?_,Ev.congr (fun k=>by rw [spec_l15Rd_of.f]) (Ev.bind h ?_)⟩
  · unfold rdOf
    rw [List.getD_eq_getElem?_getD,List.getElem?_eq_getElem hr]
    exact List.getElem_mem hr
  · simp only [if_pos h0,if_pos h1]
    exact Ev.now _
theorem num_ev {b:List Int} (hb:Code b) (p:Int) (l:List Int) (hl:0 < l.length) (hp0:0≤p) (hp:p≤1000000000):∃ s,s ∈ l∧Ev (fun k=>spec_l15Rd_num.f k b p l) (s,p+1):=by
  obtain ⟨r,h,h0,h1⟩:=pick_ev hb p (l.length:Int) hp0 hp
  have h1:=h1 (by omega)
  have hr:r.toNat < l.length:=by omega
  refine ⟨rd l r,?_,Ev.congr (fun k=>by rw [spec_l15Rd_num.f]) (Ev.bind h ?_)⟩
  · unfold rd
    rw [List.getD_eq_getElem?_getD,List.getElem?_eq_getElem hr]
    exact List.getElem_mem hr
  · simp only [if_pos h0,if_pos h1]
    exact Ev.now _
end Go.Proofs.Ytdhdfmmefghijab.Pure
namespace Go.Proofs.Ytdhdfmmefghijab.Pure
open Go.RowKit Go.Proofs.Ytdhdfmmefghijab.P Go.Proofs.YtdhdfmmefghijabW.PrintWords Go.Proofs.YtdhdfmmefghijabW.PrintLast Go.Proofs.YtdhdfmmefghijabW.PrintMore
set_option linter.unusedVariables false
set_option linter.unusedSimpArgs false
mutual
/-- nodes and bytes of texts -/
def msz:SDoc→Nat
  | ⟨_,_,t,ks⟩=>1+t.size+mszL ks
def mszL:List SDoc→Nat
  | []=>0
  | k :: ks=>msz k+mszL ks
end
theorem mszL_len:∀ (a:List SDoc),a.length≤mszL a
  | []=>by simp [mszL]
  | ⟨_,_,_,ks⟩ :: a=>by have:=mszL_len a;simp [mszL,msz];omega
theorem mszL_mem:∀ {a:List SDoc} {d:SDoc},d ∈ a→msz d≤mszL a
  | k :: a,d,h=>by
    rcases List.mem_cons.1 h with rfl | h
    · simp [mszL]
    · have:=mszL_mem h;simp [mszL];omega
theorem mszL_app:∀ (a b:List SDoc),mszL (a ++ b)=mszL a+mszL b
  | [],b=>by simp [mszL]
  | k :: a,b=>by simp [mszL,mszL_app a b];omega
theorem dsz_msz:∀ d:SDoc,dsz d≤msz d:=by
  intro d
  induction d using SDoc.ind with
  | h o n t ks ih =>
    have key:∀ l:List SDoc,(∀ k,k ∈ l→dsz k≤msz k)→dszL l≤mszL l:=by
      intro l
      induction l with
      | nil=>intro _;simp [dszL,mszL]
      | cons y l ihl =>
        intro hl
        have h1:=hl y List.mem_cons_self
        have h2:=ihl (fun k hk=>hl k (List.mem_cons_of_mem _ hk))
        simp only [dszL,mszL]
        omega
    have:=key ks ih
    simp only [dsz,msz]
    omega
theorem specCount_loop (o n:Int) (t:ByteArray) (suf:List SDoc):∀ (pre:List SDoc) (acc:Int),
    (∀ y,y ∈ suf→Ev (fun k=>spec_l1Count.f k y.f0 y.f1 y.f2 y.f3) (dsz y:Int))→0≤acc→acc+dszL suf≤9223372036854775807→pre.length+suf.length≤4611686018427387904 →
    Ev (fun k=>spec_l1Count.l0 k acc (pre.length:Int) o n t (pre ++ suf)) (acc+dszL suf):=by
  induction suf with
  | nil =>
    intro pre acc _ h0 hs hm
    refine Ev.step (fun k=>by rw [spec_l1Count.l0]) ?_
    simp only [List.append_nil,Int.lt_irrefl,if_false,dszL,Int.natCast_zero,Int.add_zero]
    exact Ev.now _
  | cons y suf ih =>
    intro pre acc hy h0 hs hm
    simp only [List.length_cons,dszL] at hm hs
    refine Ev.step (fun k=>by rw [spec_l1Count.l0]) ?_
    have c1:(pre.length:Int) < ((pre ++ y :: suf).length:Int):=by simp;omega
    have c2:(0:Int)≤(pre.length:Int):=by omega
    simp only [if_pos c1,if_pos c2,rdD]
    refine Ev.bind (hy y List.mem_cons_self) ?_
    rw [w64 (i:=acc+dsz y) (by omega) (by omega),w64 (by omega) (by omega)]
    have:=ih (pre ++ [y]) (acc+dsz y) (fun z hz=>hy z (List.mem_cons_of_mem _ hz)) (by omega) (by omega) (by simp;omega)
    rw [List.append_assoc,show ((pre ++ [y]).length:Int)=(pre.length:Int)+1 by simp] at this
    rw [show acc+(dszL (y :: suf):Int)=acc+dsz y+dszL suf by simp [dszL];omega]
    exact this
theorem specCount_ev:∀ (d:SDoc),dsz d≤4611686018427387904→Ev (fun k=>spec_l1Count.f k d.f0 d.f1 d.f2 d.f3) (dsz d:Int):=by
  intro d
  induction d using SDoc.ind with
  | h o n t ks ih =>
    intro hd
    simp only [dsz] at hd
    refine Ev.step (fun k=>by rw [spec_l1Count.f]) ?_
    have:=specCount_loop o n t ks [] 1 (fun y hy=>ih y hy (by have:=dszL_mem hy;omega)) (by omega) (by omega) (by have:=dszL_len ks;simp;omega)
    rw [show ((dsz ⟨o,n,t,ks⟩:Nat):Int)=1+(dszL ks:Int) by simp [dsz]]
    simpa using this
end Go.Proofs.Ytdhdfmmefghijab.Pure
namespace Go.Proofs.Ytdhdfmmefghijab.Pure
open Go.RowKit Go.Proofs.Ytdhdfmmefghijab.P Go.Proofs.YtdhdfmmefghijabW.PrintWords Go.Proofs.YtdhdfmmefghijabW.PrintLast Go.Proofs.YtdhdfmmefghijabW.PrintMore
set_option linter.unusedVariables false
set_option linter.unusedSimpArgs false
theorem toList_data (bs:ByteArray):bs.toList=bs.data.toList:=by
  have key:∀ (n i:Nat) (r:List UInt8),bs.size - i=n→ByteArray.toList.loop bs i r=r.reverse ++ bs.data.toList.drop i:=by
    intro n
    induction n with
    | zero =>
      intro i r h
      rw [ByteArray.toList.loop]
      have:¬ i < bs.size:=by omega
      simp [this]
      omega
    | succ n ih =>
      intro i r h
      rw [ByteArray.toList.loop]
      have hi:i < bs.size:=by omega
      simp only [hi,if_true]
      rw [ih (i+1) _ (by omega)]
      have h2:i < bs.data.toList.length:=by rw [Array.length_toList];exact hi
      rw [List.drop_eq_getElem_cons h2]
      have h3:i < bs.data.size:=hi
      have:bs.get! i=bs.data.toList[i]:=by
        simp [ByteArray.get!,Array.getElem!_eq_getD,Array.getD,hi]
      simp [this]
  unfold ByteArray.toList
  rw [key bs.size 0 [] (by omega)]
  simp
theorem toList_inj {a b:ByteArray}:a.toList=b.toList ↔ a=b:=by
  rw [toList_data,toList_data]
  constructor
  · intro h
    obtain ⟨⟨a⟩⟩:=a
    obtain ⟨⟨b⟩⟩:=b
    simp at h
    subst h
    rfl
  · rintro rfl;rfl
theorem toList_nil {a:ByteArray}:a.toList=[] ↔ a.size=0:=by
  rw [toList_data,size_data,List.length_eq_zero_iff]
def nodeOk (o n:Int) (t:ByteArray) (len:Nat):Bool :=
  decide (1≤o) && (decide (o≤8) && (decide ((len:Int)=docKids o) && (decide (0≤n) && (decide (n≤9) && (decide (n=0 ∨ o=6) && (if o=2 then tv t else decide (t.size=0)))))))
mutual
def wf:SDoc→Nat→Bool
  | ⟨o,n,t,ks⟩,deep=>decide (deep ≠ 0) && (nodeOk o n t ks.length && wfL ks (deep - 1))
def wfL:List SDoc→Nat→Bool
  | [],_=>true
  | k :: ks,deep=>wf k deep && wfL ks deep
end
def docV (d:SDoc):Bool:=wf d 40 && decide (dsz d≤80)
theorem wfL_all:∀ (ks:List SDoc) (deep:Nat),wfL ks deep=ks.all fun k=>wf k deep
  | [],_=>rfl
  | k :: ks,deep=>by rw [wfL,wfL_all ks deep,List.all_cons]
theorem dszL_cons (y:SDoc) (l:List SDoc):dszL (y :: l)=dsz y+dszL l:=rfl
theorem dsz_mk (o n:Int) (t:ByteArray) (ks:List SDoc):dsz ⟨o,n,t,ks⟩=1+dszL ks:=rfl
theorem wfL_cons (y:SDoc) (l:List SDoc) (deep:Nat):wfL (y :: l) deep=true ↔ wf y deep=true∧wfL l deep=true:=by rw [wfL,Bool.and_eq_true]
theorem wf_mk (o n:Int) (t:ByteArray) (ks:List SDoc) (deep:Nat):wf ⟨o,n,t,ks⟩ deep=true ↔ deep ≠ 0∧nodeOk o n t ks.length=true∧wfL ks (deep - 1)=true:=by rw [wf,Bool.and_eq_true,Bool.and_eq_true,decide_eq_true_eq]
theorem nodeOk_iff (o n:Int) (t:ByteArray) (len:Nat):nodeOk o n t len=true ↔ 1≤o∧o≤8∧(len:Int)=docKids o∧0≤n∧n≤9∧(n=0 ∨ o=6)∧(if o=2 then tv t else decide (t.size=0))=true:=by
  simp only [nodeOk,Bool.and_eq_true,decide_eq_true_eq]
theorem docV_iff (d:SDoc):docV d=true ↔ wf d 40=true∧dsz d≤80:=by rw [docV,Bool.and_eq_true,decide_eq_true_eq]
theorem implOk_loop (deep:Nat) (hdp:deep≤40) (suf:List SDoc):∀ (pre:List SDoc) (left:Int),
    (∀ y,y ∈ suf→∀ left:Int,0≤left→left≤80→∃ b l',Ev (fun k=>impl_docOk.f k y.f0 y.f1 y.f2 y.f3 (wrap64 ((deep:Int) - 1)) left) (b,l')∧(b=true ↔ wf y (deep - 1)=true∧(dsz y:Int)≤left)∧(b=true→l'=left - dsz y)) →
    0≤left→left≤80→pre.length+suf.length≤4611686018427387904 →
    ∃ b l',Ev (fun k=>impl_docOk.l0 k (pre ++ suf) (pre.length:Int) (deep:Int) left) (b,l')∧(b=true ↔ wfL suf (deep - 1)=true∧(dszL suf:Int)≤left)∧(b=true→l'=left - dszL suf):=by
  induction suf with
  | nil =>
    intro pre left _ h0 h1 hm
    refine ⟨true,left,?_,by simp [wfL,dszL,h0],fun _=>by simp [dszL]⟩
    refine Ev.step (fun k=>by rw [impl_docOk.l0]) ?_
    simp only [List.append_nil,Int.lt_irrefl,if_false]
    exact Ev.now _
  | cons y suf ih =>
    intro pre left hy h0 h1 hm
    simp only [List.length_cons] at hm
    obtain ⟨b,l1,he,hb,hl⟩:=hy y List.mem_cons_self left h0 h1
    have c1:(pre.length:Int) < ((pre ++ y :: suf).length:Int):=by simp;omega
    have c2:(0:Int)≤(pre.length:Int):=by omega
    have hp:=dsz_pos y
    rw [dszL_cons,wfL_cons]
    cases b with
    | false =>
      have hnb : ¬ (wf y (deep - 1) = true ∧ (dsz y : Int) ≤ left) := fun h => by have := hb.2 h; cases this
      refine ⟨false,l1,?_,?_,fun h=>by cases h⟩
      · refine Ev.step (fun k=>by rw [impl_docOk.l0]) ?_
        simp only [if_pos c1,if_pos c2,rdD]
        refine Ev.bind he ?_
        simp only [Bool.false_eq_true,if_false]
        exact Ev.now _
      · refine ⟨fun h=>(by cases h),fun h=>absurd ⟨h.1.1,?_⟩ hnb⟩
        have:=h.2
        omega
    | true =>
      obtain ⟨hw,hle⟩:=hb.1 rfl
      obtain rfl:=hl rfl
      obtain ⟨b2,l2,he2,hb2,hl2⟩:=ih (pre ++ [y]) (left - dsz y) (fun z hz=>hy z (List.mem_cons_of_mem _ hz)) (by omega) (by omega) (by simp;omega)
      refine ⟨b2,l2,?_,?_,fun h=>?_⟩
      · refine Ev.step (fun k=>by rw [impl_docOk.l0]) ?_
        simp only [if_pos c1,if_pos c2,rdD]
        refine Ev.bind he ?_
        simp only [if_true]
        rw [w64 (by omega) (by omega)]
        rw [List.append_assoc,show ((pre ++ [y]).length:Int)=(pre.length:Int)+1 by simp] at he2
        exact he2
      · rw [hb2]
        constructor
        · intro h;exact ⟨⟨hw,h.1⟩,by have:=h.2;omega⟩
        · intro h;exact ⟨h.1.2,by have:=h.2;omega⟩
      · have:=hl2 h
        omega
theorem implOk_ev:∀ (d:SDoc),msz d≤1099511627776→∀ (deep:Nat),deep≤40→∀ (left:Int),0≤left→left≤80 →
    ∃ b l',Ev (fun k=>impl_docOk.f k d.f0 d.f1 d.f2 d.f3 (deep:Int) left) (b,l')∧(b=true ↔ wf d deep=true∧(dsz d:Int)≤left)∧(b=true→l'=left - dsz d):=by
  intro d
  induction d using SDoc.ind with
  | h o n t ks ih =>
    intro hd deep hdp left h0 h1
    simp only [msz] at hd
    have hkl:=mszL_len ks
    have hwl:wrap64 (left - 1)=left - 1:=w64 (by omega) (by omega)
    rw [wf_mk,dsz_mk,nodeOk_iff]
    by_cases a1:(deep:Int)=0 ∨ wrap64 (left - 1) < 0 ∨ o < 1 ∨ 8 < o
    · refine ⟨false,wrap64 (left - 1),?_,⟨fun h=>(by cases h),fun h=>?_⟩,fun h=>by cases h⟩
      · refine Ev.step (fun k=>by rw [impl_docOk.f]) ?_
        simp only [if_pos a1]
        exact Ev.now _
      · exfalso
        rw [hwl] at a1
        obtain ⟨⟨h1,⟨h2,h3,_⟩,_⟩,h4⟩:=h
        omega
    · have hd0:deep ≠ 0:=fun e=>a1 (.inl (by omega))
      have hl0:¬ (left - 1 < 0):=fun e=>a1 (.inr (.inl (by omega)))
      have ho1:¬ o < 1:=fun e=>a1 (.inr (.inr (.inl e)))
      have ho8:¬ 8 < o:=fun e=>a1 (.inr (.inr (.inr e)))
      by_cases a2:¬ ((ks.length:Int)=docKids o) ∨ n < 0 ∨ 9 < n ∨ (0 < n∧¬ (o=6))
      · refine ⟨false,wrap64 (left - 1),?_,⟨fun h=>(by cases h),fun h=>?_⟩,fun h=>by cases h⟩
        · refine Ev.step (fun k=>by rw [impl_docOk.f]) ?_
          simp only [if_neg a1,if_pos a2]
          exact Ev.now _
        · exfalso
          obtain ⟨⟨_,⟨_,_,h3,h4,h5,h6,_⟩,_⟩,_⟩:=h
          rcases a2 with a | a | a | a
          · exact a h3
          · omega
          · omega
          · rcases h6 with h6 | h6
            · omega
            · exact a.2 h6
      · have b3:(ks.length:Int)=docKids o:=Decidable.not_not.1 (fun e=>a2 (.inl e))
        have b4:¬ n < 0:=fun e=>a2 (.inr (.inl e))
        have b5:¬ 9 < n:=fun e=>a2 (.inr (.inr (.inl e)))
        have b6:n=0 ∨ o=6:=by
          by_cases hn:0 < n
          · exact .inr (Decidable.not_not.1 (fun e=>a2 (.inr (.inr (.inr ⟨hn,e⟩)))))
          · exact .inl (by omega)
        -- the loop
        obtain ⟨b,l2,he2,hb2,hl2⟩:=implOk_loop deep hdp ks [] (left - 1) (fun y hy left' h0' h1'=>by
            have hym:=mszL_mem hy
            obtain ⟨b',l',h,h',h''⟩:=ih y hy (by omega) (deep - 1) (by omega) left' h0' h1'
            refine ⟨b',l',?_,h',h''⟩
            rw [w64 (by omega) (by omega),show ((deep:Int) - 1)=((deep - 1:Nat):Int) by omega]
            exact h) (by omega) (by omega) (by simp;omega)
        have hloop:Ev (fun k=>impl_docOk.l0 k ks 0 (deep:Int) (wrap64 (left - 1))) (b,l2):=by rw [hwl];simpa using he2
        have good:∀ x:Prop,x→((b=true ↔ (deep ≠ 0∧(1≤o∧o≤8∧(ks.length:Int)=docKids o∧0≤n∧n≤9∧(n=0 ∨ o=6)∧x)∧wfL ks (deep - 1)=true)∧((1+dszL ks:Nat):Int)≤left)∧(b=true→l2=left - ((1+dszL ks:Nat):Int))):=by
          intro x hx
          refine ⟨?_, fun h => by have := hl2 h; omega⟩
          rw [hb2]
          constructor
          · intro h;exact ⟨⟨hd0,⟨by omega,by omega,b3,by omega,by omega,b6,hx⟩,h.1⟩,by have:=h.2;omega⟩
          · intro h;exact ⟨h.1.2.2,by have:=h.2;omega⟩
        have bad:∀ x:Prop,¬ x→(((false:Bool)=true ↔ (deep ≠ 0∧(1≤o∧o≤8∧(ks.length:Int)=docKids o∧0≤n∧n≤9∧(n=0 ∨ o=6)∧x)∧wfL ks (deep - 1)=true)∧((1+dszL ks:Nat):Int)≤left)∧((false:Bool)=true→wrap64 (left - 1)=left - ((1+dszL ks:Nat):Int))):=by
          intro x hx
          exact ⟨⟨fun h=>(by cases h),fun h=>absurd h.1.2.1.2.2.2.2.2.2 hx⟩,fun h=>by cases h⟩
        by_cases e9:o=2
        · have hT:=implText_ev t (by omega)
          rw [if_pos e9]
          cases htv:tv t with
          | false =>
            refine ⟨false,wrap64 (left - 1),?_,bad _ (by simp)⟩
            refine Ev.step (fun k=>by rw [impl_docOk.f]) ?_
            simp only [if_neg a1,if_neg a2,if_pos e9]
            refine Ev.bind hT ?_
            simp only [htv,Bool.false_eq_true,if_false]
            exact Ev.now _
          | true =>
            refine ⟨b,l2,?_,good _ rfl⟩
            refine Ev.step (fun k=>by rw [impl_docOk.f]) ?_
            simp only [if_neg a1,if_neg a2,if_pos e9]
            refine Ev.bind hT ?_
            simp only [htv,if_true]
            exact hloop
        · rw [if_neg e9,decide_eq_true_eq]
          by_cases e10:t.toList=[]
          · have hz:=toList_nil.1 e10
            refine ⟨b,l2,?_,good _ hz⟩
            refine Ev.step (fun k=>by rw [impl_docOk.f]) ?_
            simp only [if_neg a1,if_neg a2,if_neg e9,if_pos e10]
            exact hloop
          · have hz:¬ t.size=0:=fun e=>e10 (toList_nil.2 e)
            refine ⟨false,wrap64 (left - 1),?_,bad _ hz⟩
            refine Ev.step (fun k=>by rw [impl_docOk.f]) ?_
            simp only [if_neg a1,if_neg a2,if_neg e9,if_neg e10]
            exact Ev.now _
theorem implValid_ev (d:SDoc) (hd:msz d≤1099511627776):Ev (fun k=>impl_DocValid.f k d.f0 d.f1 d.f2 d.f3) (docV d):=by
  obtain ⟨b,l',h,hb,_⟩:=implOk_ev d hd 40 (by omega) 80 (by omega) (by omega)
  refine Ev.congr (fun k=>by rw [impl_DocValid.f]) ?_
  refine Ev.bind (h:Ev (fun k=>impl_docOk.f k d.f0 d.f1 d.f2 d.f3 40 80) _) ?_
  rw [show docV d=b from by
    rw [Bool.eq_iff_iff,hb,docV_iff]
    constructor
    · intro h;exact ⟨h.1,by have:=h.2;omega⟩
    · intro h;exact ⟨h.1,by have:=h.2;omega⟩]
  exact Ev.now _
theorem specKids_ev (o:Int):Ev (fun k=>spec_l1Kids.f k o) (if o < 1 ∨ 8 < o then -1 else docKids o):=by
  have j1:∀ b,Ev (fun k=>spec_l1Kids.j1 k o b) (if b=true then 1 else if o=7 then 2 else -1):=by
    intro b
    refine Ev.step (fun k=>by rw [spec_l1Kids.j1]) ?_
    cases b
    · simp only [Bool.false_eq_true,if_false]
      by_cases h:o=7
      · simp only [if_pos h];exact Ev.now _
      · simp only [if_neg h];exact Ev.now _
    · exact Ev.now _
  have j0:∀ b,Ev (fun k=>spec_l1Kids.j0 k o b) (if b=true then 0 else if o=6 ∨ o=8 then 1 else if o=7 then 2 else -1):=by
    intro b
    refine Ev.step (fun k=>by rw [spec_l1Kids.j0]) ?_
    cases b
    · simp only [Bool.false_eq_true,if_false]
      by_cases h:o=6
      · simp only [if_pos h]
        have:=j1 (o == 6)
        rw [h] at this ⊢
        simpa using this
      · simp only [if_neg h]
        have:=j1 (o == 8)
        by_cases h8:o=8
        · rw [h8] at this ⊢
          simpa using this
        · rw [show (o == 8)=false by simpa using h8] at this ⊢
          simpa [h,h8] using this
    · exact Ev.now _
  refine Ev.congr (fun k=>by rw [spec_l1Kids.f]) ?_
  have fin:∀ x b,(o=x→b=true)→(b=true→1≤o∧o≤5)→(b=false→¬ (1≤o∧o≤5))→Ev (fun k=>spec_l1Kids.j0 k o b) (if o < 1 ∨ 8 < o then -1 else docKids o):=by
    intro x b _ h1 h2
    have:=j0 b
    cases b
    · have:=h2 rfl
      rename_i this'
      rw [show (if o < 1 ∨ 8 < o then -1 else docKids o)=(if (false:Bool)=true then 0 else if o=6 ∨ o=8 then 1 else if o=7 then 2 else -1) from by
        by_cases q:o < 1 ∨ 8 < o
        · have:¬ (o=6 ∨ o=8):=by omega
          have:¬ o=7:=by omega
          simp [*]
        · have:o=6 ∨ o=7 ∨ o=8:=by omega
          rcases this with rfl | rfl | rfl <;> simp [docKids]]
      exact this'
    · have:=h1 rfl
      rename_i this'
      rw [show (if o < 1 ∨ 8 < o then -1 else docKids o)=0 from by
        have q:¬ (o < 1 ∨ 8 < o):=by omega
        rw [if_neg q]
        have:o=1 ∨ o=2 ∨ o=3 ∨ o=4 ∨ o=5:=by omega
        rcases this with rfl | rfl | rfl | rfl | rfl <;> rfl]
      exact this'
  repeat' refine Ev.iff (fun hc=>?_) (fun hc=>?_)
  · subst hc;exact fin 1 _ (fun _=>rfl) (fun _=>by omega) (fun h=>by cases h)
  · subst hc;exact fin 2 _ (fun _=>rfl) (fun _=>by omega) (fun h=>by cases h)
  · subst hc;exact fin 3 _ (fun _=>rfl) (fun _=>by omega) (fun h=>by cases h)
  · subst hc;exact fin 4 _ (fun _=>rfl) (fun _=>by omega) (fun h=>by cases h)
  · refine fin 5 _ (fun h => by simp [h]) (fun h => by have : o = 5 := by simpa using h
                                                       omega) (fun h => by have : ¬ o = 5 := by simpa using h
                                                                           omega)
theorem specIs_loop (o n:Int) (t:ByteArray) (deep:Nat) (suf:List SDoc):∀ (pre:List SDoc),
    (∀ y,y ∈ suf→Ev (fun k=>spec_l1Is.f k y.f0 y.f1 y.f2 y.f3 (wrap64 ((deep:Int) - 1))) (wf y (deep - 1)))→pre.length+suf.length≤4611686018427387904 →
    Ev (fun k=>spec_l1Is.l0 k (deep:Int) (pre.length:Int) o n t (pre ++ suf)) (wfL suf (deep - 1)):=by
  induction suf with
  | nil =>
    intro pre _ hm
    refine Ev.step (fun k=>by rw [spec_l1Is.l0]) ?_
    simp only [List.append_nil,Int.lt_irrefl,if_false]
    exact Ev.now _
  | cons y suf ih =>
    intro pre hy hm
    simp only [List.length_cons] at hm
    have c1:(pre.length:Int) < ((pre ++ y :: suf).length:Int):=by simp;omega
    have c2:(0:Int)≤(pre.length:Int):=by omega
    refine Ev.step (fun k=>by rw [spec_l1Is.l0]) ?_
    simp only [if_pos c1,if_pos c2,rdD]
    refine Ev.bind (hy y List.mem_cons_self) ?_
    cases hw:wf y (deep - 1) with
    | false =>
      simp only [Bool.false_eq_true,if_false]
      rw [show wfL (y :: suf) (deep - 1)=false from by rw [wfL,hw,Bool.false_and]]
      exact Ev.now _
    | true =>
      simp only [if_true]
      rw [w64 (by omega) (by omega),show wfL (y :: suf) (deep - 1)=wfL suf (deep - 1) from by rw [wfL,hw,Bool.true_and]]
      have:=ih (pre ++ [y]) (fun z hz=>hy z (List.mem_cons_of_mem _ hz)) (by simp;omega)
      rw [List.append_assoc,show ((pre ++ [y]).length:Int)=(pre.length:Int)+1 by simp] at this
      exact this
theorem specIs_ev:∀ (d:SDoc),msz d≤1099511627776→∀ (deep:Nat),deep≤40→Ev (fun k=>spec_l1Is.f k d.f0 d.f1 d.f2 d.f3 (deep:Int)) (wf d deep):=by
  intro d
  induction d using SDoc.ind with
  | h o n t ks ih =>
    intro hd deep hdp
    simp only [msz] at hd
    have hkl:=mszL_len ks
    have hloop:deep ≠ 0→Ev (fun k=>spec_l1Is.l0 k (deep:Int) 0 o n t ks) (wfL ks (deep - 1)):=fun h0=>by
      have:=specIs_loop o n t deep ks [] (fun y hy=>by
        have hym:=mszL_mem hy
        rw [w64 (by omega) (by omega),show ((deep:Int) - 1)=((deep - 1:Nat):Int) by omega]
        exact ih y hy (by omega) (deep - 1) (by omega)) (by simp;omega)
      simpa using this
    -- the tests,from the last one on
    have j2:deep ≠ 0→∀ b,Ev (fun k=>spec_l1Is.j2 k (deep:Int) b o n t ks) (!b && wfL ks (deep - 1)):=fun h0 b=>by
      refine Ev.step (fun k=>by rw [spec_l1Is.j2]) ?_
      cases b
      · simpa using hloop h0
      · exact Ev.now _
    have j1:deep ≠ 0→∀ b,Ev (fun k=>spec_l1Is.j1 k (deep:Int) b o n t ks) (!b && (decide ((o=6∧0≤n∧n≤9) ∨ (o ≠ 6∧n=0)) && wfL ks (deep - 1))):=fun h0 b=>by
      refine Ev.step (fun k=>by rw [spec_l1Is.j1]) ?_
      cases b
      · simp only [Bool.false_eq_true,if_false,Bool.not_false,Bool.true_and]
        have fin:∀ b,(b=true ↔ ¬ ((o=6∧0≤n∧n≤9) ∨ (o ≠ 6∧n=0)))→Ev (fun k=>spec_l1Is.j2 k (deep:Int) b o n t ks) (decide ((o=6∧0≤n∧n≤9) ∨ (o ≠ 6∧n=0)) && wfL ks (deep - 1)):=fun b hb=>by
          have:=j2 h0 b
          rwa [show (!b)=decide ((o=6∧0≤n∧n≤9) ∨ (o ≠ 6∧n=0)) from by
            rw [Bool.eq_iff_iff,decide_eq_true_eq]
            cases b
            · have : (o = 6 ∧ 0 ≤ n ∧ n ≤ 9) ∨ (o ≠ 6 ∧ n = 0) := Decidable.not_not.1 (fun h => by have := hb.2 h; cases this)
              simpa using this
            · have:=hb.1 rfl
              simpa using this] at this
        repeat' refine Ev.iff (fun hc=>?_) (fun hc=>?_)
        · exact fin true ⟨fun _=>by omega,fun _=>rfl⟩
        · exact fin true ⟨fun _=>by omega,fun _=>rfl⟩
        · exact fin false ⟨fun h=>(by cases h),fun h=>absurd (by omega) h⟩
        · refine fin (n != 0) ⟨fun h=>?_,fun h=>?_⟩
          · have:¬ n=0:=by simpa using h
            omega
          · have:¬ n=0:=by omega
            simpa using this
      · exact Ev.now _
    have j0:deep ≠ 0→∀ b,Ev (fun k=>spec_l1Is.j0 k (deep:Int) b o n t ks) (!b && ((if o=2 then tv t else decide (t.size=0)) && (decide ((o=6∧0≤n∧n≤9) ∨ (o ≠ 6∧n=0)) && wfL ks (deep - 1)))):=fun h0 b=>by
      refine Ev.step (fun k=>by rw [spec_l1Is.j0]) ?_
      cases b
      · simp only [Bool.false_eq_true,if_false,Bool.not_false,Bool.true_and]
        by_cases h2:o=2
        · simp only [if_pos h2]
          refine Ev.bind (specText_ev t (by omega)) ?_
          cases tv t
          · simp only [Bool.false_eq_true,if_false]
            exact j1 h0 true
          · simp only [if_true]
            exact j1 h0 false
        · simp only [if_neg h2]
          have:=j1 h0 (t.toList != ([]:List UInt8))
          rwa [show (!(t.toList != ([]:List UInt8)))=decide (t.size=0) from by
            rw [Bool.eq_iff_iff,decide_eq_true_eq,← toList_nil];simp] at this
      · exact Ev.now _
    refine Ev.step (fun k=>by rw [spec_l1Is.f]) ?_
    by_cases h0:deep=0
    · subst h0
      simp only [Int.natCast_zero,if_true]
      rw [show wf ⟨o,n,t,ks⟩ 0=false from by rw [wf];simp]
      refine Ev.step (fun k=>by rw [spec_l1Is.j0]) ?_
      exact Ev.now _
    · have c0:¬ (deep:Int)=0:=by omega
      simp only [if_neg c0]
      refine Ev.bind (specKids_ev o) ?_
      have:=j0 h0 ((ks.length:Int) != (if o < 1 ∨ 8 < o then -1 else docKids o))
      rwa [show (!((ks.length:Int) != (if o < 1 ∨ 8 < o then -1 else docKids o)) && ((if o=2 then tv t else decide (t.size=0)) && (decide ((o=6∧0≤n∧n≤9) ∨ (o ≠ 6∧n=0)) && wfL ks (deep - 1))))=wf ⟨o,n,t,ks⟩ deep from by
        rw [Bool.eq_iff_iff,wf_mk,nodeOk_iff]
        simp only [Bool.and_eq_true,decide_eq_true_eq,Bool.not_eq_true',bne_eq_false_iff_eq]
        generalize (if o=2 then tv t else decide (t.size=0))=tt
        constructor
        · rintro ⟨h1,h2,h3,h4⟩
          by_cases q:o < 1 ∨ 8 < o
          · rw [if_pos q] at h1;omega
          · rw [if_neg q] at h1
            exact ⟨h0,⟨by omega,by omega,h1,by omega,by omega,by omega,h2⟩,h4⟩
        · rintro ⟨_,⟨h1,h2,h3,h4,h5,h6,h7⟩,h8⟩
          have q:¬ (o < 1 ∨ 8 < o):=by omega
          rw [if_neg q]
          exact ⟨h3,h7,by omega,h8⟩] at this
theorem specValid_ev (d:SDoc) (hd:msz d≤1099511627776):Ev (fun k=>spec_DocValid.f k d.f0 d.f1 d.f2 d.f3) (docV d):=by
  refine Ev.congr (fun k=>by rw [spec_DocValid.f]) ?_
  refine Ev.bind (specIs_ev d hd 40 (by omega)) ?_
  cases hw:wf d 40 with
  | false =>
    simp only [Bool.false_eq_true,if_false]
    rw [show docV d=false from by rw [docV,hw,Bool.false_and]]
    exact Ev.now _
  | true =>
    simp only [if_true]
    have:=dsz_msz d
    refine Ev.bind (specCount_ev d (by omega)) ?_
    rw [show docV d=decide ((dsz d:Int)≤80) from by rw [docV,hw,Bool.true_and];exact dec_eq (by omega)]
    exact Ev.now _
end Go.Proofs.Ytdhdfmmefghijab.Pure
namespace Go.Proofs.Ytdhdfmmefghijab.Pure
open Go.RowKit Go.Proofs.Ytdhdfmmefghijab.P Go.Proofs.YtdhdfmmefghijabW.PrintWords Go.Proofs.YtdhdfmmefghijabW.PrintLast Go.Proofs.YtdhdfmmefghijabW.PrintMore
set_option linter.unusedVariables false
set_option linter.unusedSimpArgs false
def ba (l:List UInt8):ByteArray:=⟨l.toArray⟩
theorem ba_size (l:List UInt8):(ba l).size=l.length:=by simp [ba,ByteArray.size]
theorem ba_data (l:List UInt8):(ba l).data.toList=l:=by simp [ba]
theorem ba_of (s:ByteArray):ba s.data.toList=s:=by
  obtain ⟨⟨l⟩⟩:=s
  rfl
theorem ba_extract (l:List UInt8) (i j:Nat):(ba l).extract i j=ba ((l.drop i).take (j - i)):=by
  apply ByteArray.ext
  apply Array.ext'
  simp [ba,List.take_drop]
def pW:List UInt8→Option (List UInt8 × List UInt8)
  | []=>none
  | c :: s=>if (c.toNat:Int)=34 then some ([],s) else (pW s).map fun q=>(c :: q.1,q.2)
def pK (f:List UInt8→Option (SDoc × List UInt8)):Nat→Int→List UInt8→Option (List SDoc × List UInt8)
  | 0,_,[]=>none
  | 0,e,c :: r=>if (c.toNat:Int)=e then some ([],r) else none
  | m+1,e,s=>(f s).bind fun q=>(pK f m e q.2).map fun p=>(q.1 :: p.1,p.2)
def hd60:List UInt8→Bool
  | []=>false
  | c :: _=>(c.toNat:Int) == 60
def pN (f:List UInt8→Option (SDoc × List UInt8)):List UInt8→Option (SDoc × List UInt8)
  | []=>none
  | c :: s =>
    if (c.toNat:Int)=126 then some (⟨1,0,ba [],[]⟩,s) else if (c.toNat:Int)=95 then some (⟨3,0,ba [],[]⟩,s)
    else if (c.toNat:Int)=46 then some (⟨4,0,ba [],[]⟩,s) else if (c.toNat:Int)=33 then some (⟨5,0,ba [],[]⟩,s)
    else if (c.toNat:Int)=34 then (pW s).map fun q=>(⟨2,0,ba q.1,[]⟩,q.2)
    else if (c.toNat:Int)=40 then (pK f 2 41 s).map fun q=>(⟨7,0,ba [],q.1⟩,q.2)
    else if (c.toNat:Int)=91 then (pK f 1 93 s).map fun q=>(⟨8,0,ba [],q.1⟩,q.2)
    else if 48≤(c.toNat:Int)∧(c.toNat:Int)≤57∧hd60 s=true then (pK f 1 62 s.tail).map fun q=>(⟨6,(c.toNat:Int) - 48,ba [],q.1⟩,q.2)
    else none
def pD:Nat→List UInt8→Option (SDoc × List UInt8)
  | 0=>fun _=>none
  | n+1=>pN (pD n)
theorem pW_is:∀ {s a r:List UInt8},pW s=some (a,r)→∃ c:UInt8,(c.toNat:Int)=34∧s=a ++ c :: r
  | c :: s,a,r,h=>by
    rw [pW] at h
    by_cases e:(c.toNat:Int)=34
    · rw [if_pos e] at h
      obtain ⟨rfl,rfl⟩:=Prod.mk.inj (Option.some.inj h)
      exact ⟨c,e,rfl⟩
    · rw [if_neg e] at h
      obtain ⟨⟨a',r'⟩,h1,h2⟩:=Option.map_eq_some_iff.1 h
      obtain ⟨rfl,rfl⟩:=Prod.mk.inj h2
      obtain ⟨c',hc,hs⟩:=pW_is h1
      exact ⟨c',hc,by rw [hs];rfl⟩
def Good (f:List UInt8→Option (SDoc × List UInt8)):Prop:=∀ s d r,f s=some (d,r)→msz d+r.length≤s.length∧∃ u,s=u ++ r
theorem pK_good {f} (hf:Good f):∀ (m:Nat) (e:Int) (s:List UInt8) (ks:List SDoc) (r:List UInt8),pK f m e s=some (ks,r)→ks.length=m∧mszL ks+1+r.length≤s.length∧∃ u,s=u ++ r
  | 0,e,[],ks,r,h=>by simp [pK] at h
  | 0,e,c :: s,ks,r,h=>by
    rw [pK] at h
    by_cases e':(c.toNat:Int)=e
    · rw [if_pos e'] at h
      obtain ⟨rfl,rfl⟩:=Prod.mk.inj (Option.some.inj h)
      exact ⟨rfl,by simp [mszL];omega,[c],rfl⟩
    · rw [if_neg e'] at h;cases h
  | m+1,e,s,ks,r,h=>by
    rw [pK] at h
    obtain ⟨⟨d,r1⟩,h1,h⟩:=Option.bind_eq_some_iff.1 h
    obtain ⟨⟨l,r2⟩,h2,h⟩:=Option.map_eq_some_iff.1 h
    obtain ⟨rfl,rfl⟩:=Prod.mk.inj h
    obtain ⟨g1,u1,e1⟩:=hf _ _ _ h1
    obtain ⟨g2,g3,u2,e2⟩:=pK_good hf m e _ _ _ h2
    simp only at g3 e2
    refine ⟨by simp [g2],?_,u1 ++ u2,by rw [e1,e2,List.append_assoc]⟩
    simp only [mszL]
    have:r1.length=u2.length+r2.length:=by rw [e2,List.length_append]
    omega
theorem pN_good {f} (hf:Good f):Good (pN f):=by
  intro s d r h
  match s,h with
  | c :: s,h =>
    rw [pN] at h
    by_cases c1:(c.toNat:Int)=126
    · rw [if_pos c1] at h;obtain ⟨rfl,rfl⟩:=Prod.mk.inj (Option.some.inj h)
      exact ⟨by simp [msz,mszL,ba_size];omega,[c],rfl⟩
    rw [if_neg c1] at h
    by_cases c2:(c.toNat:Int)=95
    · rw [if_pos c2] at h;obtain ⟨rfl,rfl⟩:=Prod.mk.inj (Option.some.inj h)
      exact ⟨by simp [msz,mszL,ba_size];omega,[c],rfl⟩
    rw [if_neg c2] at h
    by_cases c3:(c.toNat:Int)=46
    · rw [if_pos c3] at h;obtain ⟨rfl,rfl⟩:=Prod.mk.inj (Option.some.inj h)
      exact ⟨by simp [msz,mszL,ba_size];omega,[c],rfl⟩
    rw [if_neg c3] at h
    by_cases c4:(c.toNat:Int)=33
    · rw [if_pos c4] at h;obtain ⟨rfl,rfl⟩:=Prod.mk.inj (Option.some.inj h)
      exact ⟨by simp [msz,mszL,ba_size];omega,[c],rfl⟩
    rw [if_neg c4] at h
    by_cases c5:(c.toNat:Int)=34
    · rw [if_pos c5] at h
      obtain ⟨⟨a,r'⟩,h1,h2⟩:=Option.map_eq_some_iff.1 h
      obtain ⟨rfl,rfl⟩:=Prod.mk.inj h2
      obtain ⟨q,_,rfl⟩:=pW_is h1
      exact ⟨by simp [msz,mszL,ba_size];omega,c :: a ++ [q],by simp⟩
    rw [if_neg c5] at h
    by_cases c6:(c.toNat:Int)=40
    · rw [if_pos c6] at h
      obtain ⟨⟨a,r'⟩,h1,h2⟩:=Option.map_eq_some_iff.1 h
      obtain ⟨rfl,rfl⟩:=Prod.mk.inj h2
      obtain ⟨_,g,u,rfl⟩:=pK_good hf _ _ _ _ _ h1
      exact ⟨by simp [msz,ba_size] at g ⊢;omega,c :: u,by simp⟩
    rw [if_neg c6] at h
    by_cases c7:(c.toNat:Int)=91
    · rw [if_pos c7] at h
      obtain ⟨⟨a,r'⟩,h1,h2⟩:=Option.map_eq_some_iff.1 h
      obtain ⟨rfl,rfl⟩:=Prod.mk.inj h2
      obtain ⟨_,g,u,rfl⟩:=pK_good hf _ _ _ _ _ h1
      exact ⟨by simp [msz,ba_size] at g ⊢;omega,c :: u,by simp⟩
    rw [if_neg c7] at h
    by_cases c8:48≤(c.toNat:Int)∧(c.toNat:Int)≤57∧hd60 s=true
    · rw [if_pos c8] at h
      obtain ⟨⟨a,r'⟩,h1,h2⟩:=Option.map_eq_some_iff.1 h
      obtain ⟨rfl,rfl⟩:=Prod.mk.inj h2
      obtain ⟨_,g,u,e⟩:=pK_good hf _ _ _ _ _ h1
      match s,c8,e,g with
      | [],c8,_,_=>simp [hd60] at c8
      | q :: s,_,e,g =>
        simp only [List.tail_cons] at e g
        subst e
        exact ⟨by simp [msz,ba_size] at g ⊢;omega,c :: q :: u,by simp⟩
    · rw [if_neg c8] at h;cases h
theorem pD_good:∀ n,Good (pD n)
  | 0=>fun s d r h=>by simp [pD] at h
  | n+1=>pN_good (pD_good n)
def endAt (N:Nat) {α:Type}:Option (α × List UInt8)→Int
  | some q=>(N:Int) - (q.2.length:Int)
  | none=>-1
def parseR (L:List UInt8):Option SDoc:=match pD 40 L with
  | some (d,[])=>if docV d=true then some d else none
  | _=>none
def docR:Option SDoc→Int × Int × ByteArray × List SDoc × Bool
  | some d=>(d.f0,d.f1,d.f2,d.f3,true)
  | none=>(0,0,⟨#[]⟩,[],false)
end Go.Proofs.Ytdhdfmmefghijab.Pure
namespace Go.Proofs.Ytdhdfmmefghijab.Pure
open Go.RowKit Go.Proofs.Ytdhdfmmefghijab.P Go.Proofs.YtdhdfmmefghijabW.PrintWords Go.Proofs.YtdhdfmmefghijabW.PrintLast Go.Proofs.YtdhdfmmefghijabW.PrintMore
set_option linter.unusedVariables false
set_option linter.unusedSimpArgs false
theorem bt_at {L pre suf:List UInt8} {c:UInt8} (h:L=pre ++ c :: suf):bt (ba L) (pre.length:Int)=(c.toNat:Int):=bt_mid (s:=ba L) (by rw [ba_data];exact h)
def wordR (N:Nat) (mid:List UInt8):Option (List UInt8 × List UInt8)→Int × Int × ByteArray × List SDoc × Int
  | some q=>(2,0,ba (mid ++ q.1),[],(N:Int) - (q.2.length:Int))
  | none=>(0,0,⟨#[]⟩,[],-1)
theorem specWord_loop {L pre:List UInt8} {c0:UInt8} (hL:L.length≤1099511627776):∀ (suf mid:List UInt8),L=pre ++ c0 :: (mid ++ suf) →
    Ev (fun k=>spec_l1Word.l0 k (ba L) (pre.length:Int) ((pre.length+1+mid.length:Nat):Int)) (wordR L.length mid (pW suf)):=by
  intro suf
  induction suf with
  | nil =>
    intro mid h
    have hl:L.length=pre.length+1+mid.length:=by rw [h];simp;omega
    refine Ev.step (fun k=>by rw [spec_l1Word.l0]) ?_
    simp only [ba_size,if_neg (show ¬ (((pre.length+1+mid.length:Nat):Int) < (L.length:Int)) by omega)]
    refine Ev.step (fun k=>by rw [spec_l1Word.j1]) ?_
    simp only [ba_size,if_pos (show ((pre.length+1+mid.length:Nat):Int) ≥ (L.length:Int) by omega)]
    exact Ev.now _
  | cons c suf ih =>
    intro mid h
    have hl:L.length=pre.length+1+mid.length+1+suf.length:=by rw [h];simp;omega
    have hb:bt (ba L) ((pre.length+1+mid.length:Nat):Int)=(c.toNat:Int):=by
      have:=bt_at (L:=L) (pre:=pre ++ c0 :: mid) (suf:=suf) (c:=c) (by rw [h];simp)
      rw [show ((pre.length+1+mid.length:Nat):Int)=(((pre ++ c0 :: mid).length:Nat):Int) by simp;omega]
      exact this
    refine Ev.step (fun k=>by rw [spec_l1Word.l0]) ?_
    simp only [ba_size,if_pos (show ((pre.length+1+mid.length:Nat):Int) < (L.length:Int) by omega),if_pos (show (0:Int)≤((pre.length+1+mid.length:Nat):Int) by omega),hb]
    rw [pW]
    by_cases e:(c.toNat:Int)=34
    · simp only [if_pos e]
      refine Ev.step (fun k=>by rw [spec_l1Word.j1]) ?_
      have w1:wrap64 ((pre.length:Int)+1)=((pre.length+1:Nat):Int):=by rw [w64 (by omega) (by omega)];omega
      have w2:wrap64 (((pre.length+1+mid.length:Nat):Int)+1)=(L.length:Int) - (suf.length:Int):=by rw [w64 (by omega) (by omega)];omega
      have hx:(ba L).extract (((pre.length+1:Nat):Int).toNat) (((pre.length+1+mid.length:Nat):Int).toNat)=ba mid:=by
        rw [ba_extract,Int.toNat_natCast,Int.toNat_natCast,h,show pre ++ c0 :: (mid ++ c :: suf)=(pre ++ [c0]) ++ (mid ++ c :: suf) by simp,List.drop_left' (by simp),List.take_left' (by omega)]
      simp only [ba_size,if_neg (show ¬ (((pre.length+1+mid.length:Nat):Int) ≥ (L.length:Int)) by omega),w1,w2,if_pos (show (0:Int)≤((pre.length+1:Nat):Int) by omega),
        if_pos (show ((pre.length+1:Nat):Int)≤((pre.length+1+mid.length:Nat):Int) by omega),if_pos (show ((pre.length+1+mid.length:Nat):Int)≤(L.length:Int) by omega),hx]
      simp only [wordR,List.append_nil]
      exact Ev.now _
    · simp only [if_neg e]
      have w1:wrap64 (((pre.length+1+mid.length:Nat):Int)+1)=((pre.length+1+(mid ++ [c]).length:Nat):Int):=by rw [w64 (by omega) (by omega)];simp;omega
      rw [w1]
      have:=ih (mid ++ [c]) (by rw [h];simp)
      have e2:wordR L.length (mid ++ [c]) (pW suf)=wordR L.length mid ((pW suf).map fun q=>(c :: q.1,q.2)):=by
        cases pW suf <;> simp [wordR]
      rw [← e2]
      exact this
def RdS (L:List UInt8) (n:Nat):Prop:=∀ pre suf:List UInt8,L=pre ++ suf→∃ d:SDoc,Ev (fun k=>spec_l1Read.f k (ba L) (pre.length:Int) (n:Int)) (d.f0,d.f1,d.f2,d.f3,endAt L.length (pD n suf))∧∀ d' r,pD n suf=some (d',r)→d'=d
theorem specInner_loop {L:List UInt8} (hL:L.length≤1099511627776) {n:Nat} (hn:n+1≤40) (IH:RdS L n) (e:Int) (x2:Nat) (hx2:x2≤2):∀ (m:Nat),m≤x2→∀ (pre suf:List UInt8) (out:List SDoc),L=pre ++ suf→out.length+m=x2 →
    ∃ l:List SDoc,Ev (fun k=>spec_l1Inner.l0 k (ba L) (pre.length:Int) (x2:Int) e ((n+1:Nat):Int) out (out.length:Int)) (l,endAt L.length (pK (pD n) m e suf))∧∀ ks r,pK (pD n) m e suf=some (ks,r)→l=out ++ ks:=by
  intro m
  induction m with
  | zero =>
    intro _ pre suf out h ho
    refine ⟨out,Ev.step (fun k=>by rw [spec_l1Inner.l0]) ?_,?_⟩
    · simp only [if_neg (show ¬ ((out.length:Int) < (x2:Int)) by omega),ba_size]
      match suf,h with
      | [],h =>
        have hl:L.length=pre.length:=by rw [h];simp
        simp only [if_pos (show (pre.length:Int) ≥ (L.length:Int) by omega)]
        exact Ev.now _
      | c :: suf,h =>
        have hl:L.length=pre.length+1+suf.length:=by rw [h];simp;omega
        simp only [if_neg (show ¬ ((pre.length:Int) ≥ (L.length:Int)) by omega),if_pos (show (0:Int)≤(pre.length:Int) by omega),if_pos (show (pre.length:Int) < (L.length:Int) by omega),bt_at h,pK]
        by_cases c1:(c.toNat:Int)=e
        · simp only [if_pos c1]
          rw [w64 (by omega) (by omega),show endAt L.length (some (([]:List SDoc),suf))=(pre.length:Int)+1 by simp [endAt];omega]
          exact Ev.now _
        · simp only [if_neg c1]
          exact Ev.now _
    · intro ks r hk
      match suf,hk with
      | [],hk=>simp [pK] at hk
      | c :: suf,hk =>
        rw [pK] at hk
        by_cases c1:(c.toNat:Int)=e
        · rw [if_pos c1] at hk
          obtain ⟨rfl,rfl⟩:=Prod.mk.inj (Option.some.inj hk)
          simp
        · rw [if_neg c1] at hk;cases hk
  | succ m ih =>
    intro hm pre suf out h ho
    obtain ⟨d,hd,hd'⟩:=IH pre suf h
    have w1:wrap64 (((n+1:Nat):Int) - 1)=(n:Int):=by rw [w64 (by omega) (by omega)];omega
    have c1:(out.length:Int) < (x2:Int):=by omega
    cases hp:pD n suf with
    | none =>
      rw [hp] at hd
      refine ⟨out,Ev.step (fun k=>by rw [spec_l1Inner.l0]) ?_,?_⟩
      · simp only [if_pos c1,w1]
        refine Ev.bind hd ?_
        simp only [endAt,show ((-1:Int) < 0)=True by simp,if_true]
        rw [pK,hp]
        exact Ev.now _
      · intro ks r hk
        rw [pK,hp] at hk
        cases hk
    | some q =>
      obtain ⟨d1,r1⟩:=q
      obtain rfl:=hd' d1 r1 hp
      obtain ⟨_,u,rfl⟩:=pD_good n _ _ _ hp
      have hl:L.length=pre.length+u.length+r1.length:=by rw [h];simp;omega
      obtain ⟨l,hl1,hl2⟩:=ih (by omega) (pre ++ u) r1 (out ++ [d1]) (by rw [h];simp) (by simp;omega)
      rw [hp] at hd
      have e1:endAt L.length (some (d1,r1))=(((pre ++ u).length:Nat):Int):=by simp [endAt];omega
      rw [e1] at hd
      refine ⟨l,Ev.step (fun k=>by rw [spec_l1Inner.l0]) ?_,?_⟩
      · simp only [if_pos c1,w1]
        refine Ev.bind hd ?_
        simp only [if_neg (show ¬ ((((pre ++ u).length:Nat):Int) < 0) by omega),if_pos (show out.length < 2513169434916 by omega),SDoc_eta]
        rw [w64 (by omega) (by omega),show (out.length:Int)+1=((out ++ [d1]).length:Int) by simp]
        rw [pK,hp]
        have e2:endAt L.length (((some (d1,r1)).bind fun q=>(pK (pD n) m e q.2).map fun p=>(q.1 :: p.1,p.2)):Option (List SDoc × List UInt8))=endAt L.length (pK (pD n) m e r1):=by
          simp only [Option.bind_some]
          cases pK (pD n) m e r1 <;> rfl
        rw [e2]
        exact hl1
      · intro ks r hk
        rw [pK,hp] at hk
        simp only [Option.bind_some] at hk
        obtain ⟨⟨l2,r2⟩,h1,h2⟩:=Option.map_eq_some_iff.1 hk
        obtain ⟨rfl,rfl⟩:=Prod.mk.inj h2
        rw [hl2 l2 r2 h1]
        simp
theorem specRead_ev {L:List UInt8} (hL:L.length≤1099511627776):∀ n:Nat,n≤40→RdS L n:=by
  intro n
  induction n with
  | zero =>
    intro _ pre suf h
    refine ⟨⟨0,0,⟨#[]⟩,[]⟩,Ev.step (fun k=>by rw [spec_l1Read.f]) ?_,fun d' r hp=>by simp [pD] at hp⟩
    have J:Ev (fun k=>spec_l1Read.j0 k (ba L) (pre.length:Int) ((0:Nat):Int) true) (0,0,(⟨#[]⟩:ByteArray),([]:List SDoc),-1):=by
      refine Ev.step (fun k=>by rw [spec_l1Read.j0]) ?_
      simp only [if_true]
      exact Ev.now _
    exact Ev.iff (fun _=>J) (fun _=>J)
  | succ n ih =>
    intro hn pre suf h
    have IH:=ih (by omega)
    match suf,h with
    | [],h =>
      have hl:L.length=pre.length:=by rw [h];simp
      refine ⟨⟨0,0,⟨#[]⟩,[]⟩,Ev.step (fun k=>by rw [spec_l1Read.f]) ?_,fun d' r hp=>by simp [pD,pN] at hp⟩
      simp only [ba_size,if_pos (show (pre.length:Int) ≥ (L.length:Int) by omega)]
      refine Ev.step (fun k=>by rw [spec_l1Read.j0]) ?_
      simp only [if_true]
      exact Ev.now _
    | c :: suf,h =>
      have hl:L.length=pre.length+1+suf.length:=by rw [h];simp;omega
      have h':L=(pre ++ [c]) ++ suf:=by rw [h];simp
      have w1:wrap64 ((pre.length:Int)+1)=(((pre ++ [c]).length:Nat):Int):=by rw [w64 (by omega) (by omega)];simp
      have start:∀ R,Ev (fun k=>spec_l1Read.j0 k (ba L) (pre.length:Int) ((n+1:Nat):Int) false) R→Ev (fun k=>spec_l1Read.f k (ba L) (pre.length:Int) ((n+1:Nat):Int)) R:=by
        intro R hR
        refine Ev.step (fun k=>by rw [spec_l1Read.f]) ?_
        simp only [ba_size,if_neg (show ¬ ((pre.length:Int) ≥ (L.length:Int)) by omega)]
        rw [show (((n+1:Nat):Int) == 0)=false by simp;omega]
        exact hR
      have inner:∀ (pre' suf':List UInt8) (m:Nat) (e:Int),L=pre' ++ suf'→m≤2→∃ l:List SDoc,Ev (fun k=>spec_l1Inner.f k (ba L) (pre'.length:Int) (m:Int) e ((n+1:Nat):Int)) (l,endAt L.length (pK (pD n) m e suf'))∧∀ ks r,pK (pD n) m e suf'=some (ks,r)→l=ks:=by
        intro pre' suf' m e hp hm
        obtain ⟨l,h1,h2⟩:=specInner_loop hL (by omega) IH e m hm m (Nat.le_refl _) pre' suf' [] hp (by simp)
        exact ⟨l,Ev.step (fun k=>by rw [spec_l1Inner.f];rfl) h1,fun ks r hk=>by rw [h2 ks r hk];rfl⟩
      have leafs:∀ o:Int,pD (n+1) (c :: suf)=some (⟨o,0,ba [],[]⟩,suf)→Ev (fun k=>spec_l1Read.j0 k (ba L) (pre.length:Int) ((n+1:Nat):Int) false) (o,0,(⟨#[]⟩:ByteArray),([]:List SDoc),(((pre ++ [c]).length:Nat):Int)) →
          ∃ d:SDoc,Ev (fun k=>spec_l1Read.f k (ba L) (pre.length:Int) ((n+1:Nat):Int)) (d.f0,d.f1,d.f2,d.f3,endAt L.length (pD (n+1) (c :: suf)))∧∀ d' r,pD (n+1) (c :: suf)=some (d',r)→d'=d:=by
        intro o hp hR
        refine ⟨⟨o,0,ba [],[]⟩,start _ ?_,fun d' r hd=>by rw [hp] at hd;exact (Prod.mk.inj (Option.some.inj hd)).1.symm⟩
        rw [hp,show endAt L.length (some ((⟨o,0,ba [],[]⟩:SDoc),suf))=(((pre ++ [c]).length:Nat):Int) by simp [endAt];omega]
        exact hR
      have J:∀ R,(Ev (fun k=>if (c.toNat:Int)=126 then (some ((1:Int),(0:Int),(⟨#[]⟩:ByteArray),([]:List SDoc),(((pre ++ [c]).length:Nat):Int))) else (if (c.toNat:Int)=95 then (some (3,0,(⟨#[]⟩:ByteArray),([]:List SDoc),(((pre ++ [c]).length:Nat):Int))) else (if (c.toNat:Int)=46 then (some (4,0,(⟨#[]⟩:ByteArray),([]:List SDoc),(((pre ++ [c]).length:Nat):Int))) else (if (c.toNat:Int)=33 then (some (5,0,(⟨#[]⟩:ByteArray),([]:List SDoc),(((pre ++ [c]).length:Nat):Int))) else (if (c.toNat:Int)=34 then ((spec_l1Word.f k (ba L) (pre.length:Int)).bind fun b=>(some (b.1,b.2.1,b.2.2.1,b.2.2.2.1,b.2.2.2.2))) else (if (c.toNat:Int)=40 then ((spec_l1Inner.f k (ba L) (((pre ++ [c]).length:Nat):Int) 2 41 ((n+1:Nat):Int)).bind fun b=>(some (7,0,(⟨#[]⟩:ByteArray),b.1,b.2))) else (if (c.toNat:Int)=91 then ((spec_l1Inner.f k (ba L) (((pre ++ [c]).length:Nat):Int) 1 93 ((n+1:Nat):Int)).bind fun b=>(some (8,0,(⟨#[]⟩:ByteArray),b.1,b.2))) else (if (c.toNat:Int) ≥ 48 then (if (c.toNat:Int)≤57 then (if (((pre ++ [c]).length:Nat):Int) < (L.length:Int) then (if 0≤(((pre ++ [c]).length:Nat):Int) then (spec_l1Read.j1 k (ba L) (pre.length:Int) ((n+1:Nat):Int) ((bt (ba L) (((pre ++ [c]).length:Nat):Int)) == 60)) else (none)) else (spec_l1Read.j1 k (ba L) (pre.length:Int) ((n+1:Nat):Int) false)) else (spec_l1Read.j1 k (ba L) (pre.length:Int) ((n+1:Nat):Int) false)) else (spec_l1Read.j1 k (ba L) (pre.length:Int) ((n+1:Nat):Int) false))))))))) R) →
          Ev (fun k=>spec_l1Read.j0 k (ba L) (pre.length:Int) ((n+1:Nat):Int) false) R:=by
        intro R hR
        refine Ev.step (fun k=>by rw [spec_l1Read.j0]) ?_
        simp only [Bool.false_eq_true,if_false,if_pos (show (0:Int)≤(pre.length:Int) by omega),ba_size,if_pos (show (pre.length:Int) < (L.length:Int) by omega),bt_at h,w1]
        exact hR
      by_cases c1:(c.toNat:Int)=126
      · refine leafs 1 (by rw [pD,pN,if_pos c1]) (J _ ?_)
        simp only [if_pos c1];exact Ev.now _
      by_cases c2:(c.toNat:Int)=95
      · refine leafs 3 (by rw [pD,pN,if_neg c1,if_pos c2]) (J _ ?_)
        simp only [if_neg c1,if_pos c2];exact Ev.now _
      by_cases c3:(c.toNat:Int)=46
      · refine leafs 4 (by rw [pD,pN,if_neg c1,if_neg c2,if_pos c3]) (J _ ?_)
        simp only [if_neg c1,if_neg c2,if_pos c3];exact Ev.now _
      by_cases c4:(c.toNat:Int)=33
      · refine leafs 5 (by rw [pD,pN,if_neg c1,if_neg c2,if_neg c3,if_pos c4]) (J _ ?_)
        simp only [if_neg c1,if_neg c2,if_neg c3,if_pos c4];exact Ev.now _
      by_cases c5:(c.toNat:Int)=34
      · have hp:pD (n+1) (c :: suf)=(pW suf).map fun q=>(⟨2,0,ba q.1,[]⟩,q.2):=by rw [pD,pN,if_neg c1,if_neg c2,if_neg c3,if_neg c4,if_pos c5]
        have hw:=specWord_loop (L:=L) (pre:=pre) (c0:=c) hL suf [] h
        have hw':Ev (fun k=>spec_l1Word.f k (ba L) (pre.length:Int)) (wordR L.length [] (pW suf)):=by
          refine Ev.congr (fun k=>by rw [spec_l1Word.f]) ?_
          rw [w64 (by omega) (by omega),show (pre.length:Int)+1=((pre.length+1+([]:List UInt8).length:Nat):Int) by simp]
          exact hw
        rw [hp]
        cases hq:pW suf with
        | none =>
          rw [hq] at hw'
          refine ⟨⟨0,0,⟨#[]⟩,[]⟩,start _ (J _ ?_),fun d' r hd=>by cases hd⟩
          simp only [if_neg c1,if_neg c2,if_neg c3,if_neg c4,if_pos c5]
          exact Ev.bind hw' (Ev.now _)
        | some q =>
          rw [hq] at hw'
          refine ⟨⟨2,0,ba q.1,[]⟩,start _ (J _ ?_),fun d' r hd=>(Prod.mk.inj (Option.some.inj hd)).1.symm⟩
          simp only [if_neg c1,if_neg c2,if_neg c3,if_neg c4,if_pos c5]
          exact Ev.bind hw' (Ev.now _)
      by_cases c6:(c.toNat:Int)=40
      · have hp:pD (n+1) (c :: suf)=(pK (pD n) 2 41 suf).map fun q=>(⟨7,0,ba [],q.1⟩,q.2):=by rw [pD,pN,if_neg c1,if_neg c2,if_neg c3,if_neg c4,if_neg c5,if_pos c6]
        obtain ⟨l,h1,h2⟩:=inner (pre ++ [c]) suf 2 41 h' (by omega)
        refine ⟨⟨7,0,ba [],l⟩,start _ (J _ ?_),fun d' r hd=>?_⟩
        · simp only [if_neg c1,if_neg c2,if_neg c3,if_neg c4,if_neg c5,if_pos c6]
          refine Ev.bind h1 ?_
          rw [hp,show endAt L.length ((pK (pD n) 2 41 suf).map fun q=>((⟨7,0,ba [],q.1⟩:SDoc),q.2))=endAt L.length (pK (pD n) 2 41 suf) by cases pK (pD n) 2 41 suf <;> rfl]
          exact Ev.now _
        · rw [hp] at hd
          obtain ⟨⟨ks,r'⟩,e1,e2⟩:=Option.map_eq_some_iff.1 hd
          obtain ⟨rfl,rfl⟩:=Prod.mk.inj e2
          rw [h2 ks r' e1]
      by_cases c7:(c.toNat:Int)=91
      · have hp:pD (n+1) (c :: suf)=(pK (pD n) 1 93 suf).map fun q=>(⟨8,0,ba [],q.1⟩,q.2):=by rw [pD,pN,if_neg c1,if_neg c2,if_neg c3,if_neg c4,if_neg c5,if_neg c6,if_pos c7]
        obtain ⟨l,h1,h2⟩:=inner (pre ++ [c]) suf 1 93 h' (by omega)
        refine ⟨⟨8,0,ba [],l⟩,start _ (J _ ?_),fun d' r hd=>?_⟩
        · simp only [if_neg c1,if_neg c2,if_neg c3,if_neg c4,if_neg c5,if_neg c6,if_pos c7]
          refine Ev.bind h1 ?_
          rw [hp,show endAt L.length ((pK (pD n) 1 93 suf).map fun q=>((⟨8,0,ba [],q.1⟩:SDoc),q.2))=endAt L.length (pK (pD n) 1 93 suf) by cases pK (pD n) 1 93 suf <;> rfl]
          exact Ev.now _
        · rw [hp] at hd
          obtain ⟨⟨ks,r'⟩,e1,e2⟩:=Option.map_eq_some_iff.1 hd
          obtain ⟨rfl,rfl⟩:=Prod.mk.inj e2
          rw [h2 ks r' e1]
      have bad:(¬ (48≤(c.toNat:Int)∧(c.toNat:Int)≤57∧hd60 suf=true))→Ev (fun k=>spec_l1Read.j1 k (ba L) (pre.length:Int) ((n+1:Nat):Int) false) ((0:Int),(0:Int),(⟨#[]⟩:ByteArray),([]:List SDoc),(-1:Int)):=by
        intro _
        refine Ev.step (fun k=>by rw [spec_l1Read.j1]) ?_
        simp only [Bool.false_eq_true,if_false]
        exact Ev.now _
      by_cases c8:48≤(c.toNat:Int)∧(c.toNat:Int)≤57∧hd60 suf=true
      · have hp:pD (n+1) (c :: suf)=(pK (pD n) 1 62 suf.tail).map fun q=>(⟨6,(c.toNat:Int) - 48,ba [],q.1⟩,q.2):=by rw [pD,pN,if_neg c1,if_neg c2,if_neg c3,if_neg c4,if_neg c5,if_neg c6,if_neg c7,if_pos c8]
        obtain ⟨c80,c81,c82⟩:=c8
        match suf,h,h',c82,hp,hl with
        | [],_,_,c82,_,_=>simp [hd60] at c82
        | q :: suf,h,h',c82,hp,hl =>
          have hq:(q.toNat:Int)=60:=by simpa [hd60] using c82
          simp only [List.length_cons] at hl
          obtain ⟨l,h1,h2⟩:=inner (pre ++ [c] ++ [q]) suf 1 62 (by rw [h];simp) (by omega)
          have w2:wrap64 ((pre.length:Int)+2)=(((pre ++ [c] ++ [q]).length:Nat):Int):=by rw [w64 (by omega) (by omega)];simp
          refine ⟨⟨6,(c.toNat:Int) - 48,ba [],l⟩,start _ (J _ ?_),fun d' r hd=>?_⟩
          · simp only [if_neg c1,if_neg c2,if_neg c3,if_neg c4,if_neg c5,if_neg c6,if_neg c7,if_pos (show (c.toNat:Int) ≥ 48 from c80),if_pos c81]
            rw [bt_at (L:=L) (pre:=pre ++ [c]) (suf:=suf) (c:=q) h']
            simp only [if_pos (show (((pre ++ [c]).length:Nat):Int) < (L.length:Int) by simp;omega),if_pos (show (0:Int)≤(((pre ++ [c]).length:Nat):Int) by omega),hq,beq_self_eq_true]
            refine Ev.step (fun k=>by rw [spec_l1Read.j1]) ?_
            simp only [if_true,w2]
            refine Ev.bind h1 ?_
            simp only [ba_size,if_pos (show (0:Int)≤(pre.length:Int) by omega),if_pos (show (pre.length:Int) < (L.length:Int) by omega),bt_at h]
            rw [show ((c.toNat:Int) - 48) % 256=(c.toNat:Int) - 48 by omega,hp]
            simp only [List.tail_cons]
            rw [show endAt L.length ((pK (pD n) 1 62 suf).map fun p=>((⟨6,(c.toNat:Int) - 48,ba [],p.1⟩:SDoc),p.2))=endAt L.length (pK (pD n) 1 62 suf) by cases pK (pD n) 1 62 suf <;> rfl]
            exact Ev.now _
          · rw [hp] at hd
            simp only [List.tail_cons] at hd
            obtain ⟨⟨ks,r'⟩,e1,e2⟩:=Option.map_eq_some_iff.1 hd
            obtain ⟨rfl,rfl⟩:=Prod.mk.inj e2
            rw [h2 ks r' e1]
      · have hp:pD (n+1) (c :: suf)=none:=by rw [pD,pN,if_neg c1,if_neg c2,if_neg c3,if_neg c4,if_neg c5,if_neg c6,if_neg c7,if_neg c8]
        rw [hp]
        refine ⟨⟨0,0,⟨#[]⟩,[]⟩,start _ (J _ ?_),fun d' r hd=>by cases hd⟩
        simp only [if_neg c1,if_neg c2,if_neg c3,if_neg c4,if_neg c5,if_neg c6,if_neg c7]
        refine Ev.iff (fun c80=>Ev.iff (fun c81=>?_) (fun _=>bad c8)) (fun _=>bad c8)
        match suf,h,h',c8 with
        | [],h,_,c8 =>
          simp only [List.length_append,List.length_cons,List.length_nil] at hl
          simp only [if_neg (show ¬ ((((pre ++ [c]).length:Nat):Int) < (L.length:Int)) by simp;omega)]
          exact bad c8
        | q :: suf,h,h',c8 =>
          have hq:((q.toNat:Int) == 60)=false:=by
            cases hb:((q.toNat:Int) == 60) with
            | false=>rfl
            | true=>exact absurd ⟨c80,c81,by simpa [hd60] using hb⟩ c8
          simp only [List.length_cons] at hl
          simp only [if_pos (show (((pre ++ [c]).length:Nat):Int) < (L.length:Int) by simp;omega),if_pos (show (0:Int)≤(((pre ++ [c]).length:Nat):Int) by omega),bt_at (L:=L) (pre:=pre ++ [c]) (suf:=suf) (c:=q) h',hq]
          exact bad c8
theorem specParse_ev (s:ByteArray) (hs:s.size≤1099511627776):Ev (fun k=>spec_ParseDoc.f k s) (docR (parseR s.data.toList)):=by
  have hs':s.data.toList.length≤1099511627776:=by rw [← size_data];exact hs
  obtain ⟨d,h1,h2⟩:=specRead_ev hs' 40 (Nat.le_refl _) [] s.data.toList rfl
  rw [ba_of] at h1
  have h1:Ev (fun k=>spec_l1Read.f k s 0 40) (d.f0,d.f1,d.f2,d.f3,endAt s.data.toList.length (pD 40 s.data.toList)):=h1
  refine Ev.congr (fun k=>by rw [spec_ParseDoc.f]) (Ev.bind h1 ?_)
  rw [size_data]
  unfold parseR
  cases hp:pD 40 s.data.toList with
  | none =>
    simp only [endAt,if_neg (show ¬ ((-1:Int)=(s.data.toList.length:Int)) by omega)]
    exact Ev.now _
  | some q =>
    obtain ⟨d',r⟩:=q
    obtain rfl:=h2 d' r hp
    obtain ⟨hm,u,hu⟩:=pD_good 40 _ _ _ hp
    match r,hp,hm,hu with
    | [],hp,hm,hu =>
      simp only [endAt,List.length_nil,if_pos (show ((s.data.toList.length:Int) - ((0:Nat):Int)=(s.data.toList.length:Int)) by omega)]
      refine Ev.bind (specValid_ev d' (by omega)) ?_
      by_cases hv:docV d'=true
      · simp only [if_pos hv,docR];exact Ev.now _
      · simp only [if_neg hv,docR];exact Ev.now _
    | c :: r,hp,hm,hu =>
      simp only [endAt,List.length_cons,if_neg (show ¬ ((s.data.toList.length:Int) - ((r.length+1:Nat):Int)=(s.data.toList.length:Int)) by omega)]
      exact Ev.now _
end Go.Proofs.Ytdhdfmmefghijab.Pure
namespace Go.Proofs.Ytdhdfmmefghijab.P
open Go.RowKit Go.Proofs.YtdhdfmmefghijabW.PrintWords Go.Proofs.YtdhdfmmefghijabW.PrintLast Go.Proofs.YtdhdfmmefghijabW.PrintMore
attribute [local go_sem] max2_int min2_int max_two min_two max_three min_three max_four min_four
set_option linter.unusedVariables false
set_option linter.unusedSimpArgs false
mutual
def spec_CountOps.j0:Nat→Int→Int→Int→Int→ByteArray→List (SDoc)→Option (Int)
 | 0,_,_,_,_,_,_=>none
 | k+1,x1,x5,x1012000,x1012001,x1012002,x1012003=>spec_CountOps.l0 k x1 x5 0 x1012000 x1012001 x1012002 x1012003
def spec_CountOps.l0:Nat→Int→Int→Int→Int→Int→ByteArray→List (SDoc)→Option (Int)
 | 0,_,_,_,_,_,_,_=>none
 | k+1,x1,x5,x6,x1012000,x1012001,x1012002,x1012003=>if x6<(x1012003.length:Int) then (if 0≤x6 then ((spec_CountOps.f k ((rd_TDoc x1012003 x6).f0) ((rd_TDoc x1012003 x6).f1) ((rd_TDoc x1012003 x6).f2) ((rd_TDoc x1012003 x6).f3) x1).bind fun t1013=>(spec_CountOps.l0 k x1 (wrap64 (x5+t1013)) (wrap64 (x6+1)) x1012000 x1012001 x1012002 x1012003)) else (none)) else (some x5)
def spec_CountOps.f:Nat→Int→Int→ByteArray→List (SDoc)→Int→Option (Int)
 | 0,_,_,_,_,_=>none
 | k+1,a0_0,a0_1,a0_2,l0_3,a1=>if a0_0=a1 then (spec_CountOps.j0 k a1 1 a0_0 a0_1 a0_2 l0_3) else (spec_CountOps.j0 k a1 0 a0_0 a0_1 a0_2 l0_3)
end
end Go.Proofs.Ytdhdfmmefghijab.P
namespace Go.Proofs.Ytdhdfmmefghijab.Pure
open Go.RowKit Go.Proofs.Ytdhdfmmefghijab.P Go.Proofs.YtdhdfmmefghijabW.PrintWords Go.Proofs.YtdhdfmmefghijabW.PrintLast Go.Proofs.YtdhdfmmefghijabW.PrintMore
set_option linter.unusedVariables false
set_option linter.unusedSimpArgs false
mutual
def cnt (op:Int):SDoc→Nat
  | ⟨o,_,_,ks⟩=>(if o=op then 1 else 0)+cntL op ks
def cntL (op:Int):List SDoc→Nat
  | []=>0
  | k :: ks=>cnt op k+cntL op ks
end
theorem cntL_cons (op:Int) (y:SDoc) (l:List SDoc):cntL op (y :: l)=cnt op y+cntL op l:=rfl
theorem cnt_le (op:Int):∀ d:SDoc,cnt op d≤dsz d:=by
  intro d
  induction d using SDoc.ind with
  | h o n t ks ih =>
    have key:∀ l:List SDoc,(∀ k,k ∈ l→cnt op k≤dsz k)→cntL op l≤dszL l:=by
      intro l
      induction l with
      | nil=>intro _;simp [dszL,cntL]
      | cons y l ihl =>
        intro hl
        have h1:=hl y List.mem_cons_self
        have h2:=ihl (fun k hk=>hl k (List.mem_cons_of_mem _ hk))
        simp only [dszL,cntL]
        omega
    have:=key ks ih
    simp only [dsz,cnt]
    split <;> omega
theorem cntL_le (op:Int):∀ l:List SDoc,cntL op l≤dszL l
  | []=>by simp [cntL]
  | y :: l=>by have:=cnt_le op y;have:=cntL_le op l;simp only [cntL,dszL];omega
theorem implCnt_loop (op:Int) (suf:List SDoc):∀ (pre:List SDoc) (acc N:Int),N=((pre ++ suf).length:Int) →
    (∀ y,y ∈ suf→Ev (fun k=>impl_CountOps.f k y.f0 y.f1 y.f2 y.f3 op) (cnt op y:Int))→0≤acc→acc+cntL op suf≤9223372036854775807→pre.length+suf.length≤4611686018427387904 →
    Ev (fun k=>impl_CountOps.l0 k op acc (pre ++ suf) N (pre.length:Int)) (acc+cntL op suf):=by
  induction suf with
  | nil =>
    intro pre acc N hN _ h0 hs hm
    subst hN
    refine Ev.step (fun k=>by rw [impl_CountOps.l0]) ?_
    simp only [List.append_nil,Int.lt_irrefl,if_false,cntL,Int.natCast_zero,Int.add_zero]
    exact Ev.now _
  | cons y suf ih =>
    intro pre acc N hN hy h0 hs hm
    simp only [List.length_cons] at hm
    rw [cntL_cons] at hs ⊢
    refine Ev.step (fun k=>by rw [impl_CountOps.l0]) ?_
    have c1:(pre.length:Int) < ((pre ++ y :: suf).length:Int):=by simp;omega
    have c0:(pre.length:Int) < N:=by omega
    have c2:(0:Int)≤(pre.length:Int):=by omega
    simp only [if_pos c0,if_pos c1,if_pos c2,rdD]
    refine Ev.bind (hy y List.mem_cons_self) ?_
    rw [w64 (i:=acc+cnt op y) (by omega) (by omega),w64 (by omega) (by omega)]
    have:=ih (pre ++ [y]) (acc+cnt op y) N (by rw [hN];simp) (fun z hz=>hy z (List.mem_cons_of_mem _ hz)) (by omega) (by omega) (by simp;omega)
    rw [List.append_assoc,show ((pre ++ [y]).length:Int)=(pre.length:Int)+1 by simp] at this
    rw [show acc+((cnt op y+cntL op suf:Nat):Int)=acc+cnt op y+cntL op suf by omega]
    exact this
theorem implCnt_ev (op:Int):∀ (d:SDoc),dsz d≤4611686018427387904→Ev (fun k=>impl_CountOps.f k d.f0 d.f1 d.f2 d.f3 op) (cnt op d:Int):=by
  intro d
  induction d using SDoc.ind with
  | h o n t ks ih =>
    intro hd
    simp only [dsz] at hd
    have hc:=cntL_le op ks
    have hl:=dszL_len ks
    have key:∀ acc:Int,0≤acc→acc≤1→Ev (fun k=>impl_CountOps.j0 k op acc o n t ks) (acc+cntL op ks):=fun acc h0 h1=>by
      refine Ev.step (fun k=>by rw [impl_CountOps.j0]) ?_
      have:=implCnt_loop op ks [] acc (ks.length:Int) (by simp) (fun y hy=>ih y hy (by have:=dszL_mem hy;omega)) h0 (by omega) (by simp;omega)
      simpa using this
    refine Ev.step (fun k=>by rw [impl_CountOps.f]) ?_
    by_cases h:o=op
    · simp only [if_pos h]
      rw [show ((cnt op ⟨o,n,t,ks⟩:Nat):Int)=1+(cntL op ks:Int) by simp [cnt,h]]
      exact key 1 (by omega) (by omega)
    · simp only [if_neg h]
      rw [show ((cnt op ⟨o,n,t,ks⟩:Nat):Int)=0+(cntL op ks:Int) by simp [cnt,h]]
      exact key 0 (by omega) (by omega)
end Go.Proofs.Ytdhdfmmefghijab.Pure
namespace Go.Proofs.Ytdhdfmmefghijab.Pure
open Go.RowKit Go.Proofs.Ytdhdfmmefghijab.P Go.Proofs.YtdhdfmmefghijabW.PrintWords Go.Proofs.YtdhdfmmefghijabW.PrintLast Go.Proofs.YtdhdfmmefghijabW.PrintMore
set_option linter.unusedVariables false
set_option linter.unusedSimpArgs false
theorem docV_wf {d:SDoc} (h:docV d=true):wf d 40=true:=(docV_iff d).1 h |>.1
theorem wf_kids {o n:Int} {t:ByteArray} {ks:List SDoc} {deep:Nat} (h:wf ⟨o,n,t,ks⟩ deep=true):∀ y,y ∈ ks→wf y (deep - 1)=true:=by
  have h3:=((wf_mk o n t ks deep).1 h).2.2
  rw [wfL_all,List.all_eq_true] at h3
  exact h3
theorem wf_node {o n:Int} {t:ByteArray} {ks:List SDoc} {deep:Nat} (h:wf ⟨o,n,t,ks⟩ deep=true):1≤o∧o≤8∧(ks.length:Int)=docKids o∧0≤n∧n≤9∧(n=0 ∨ o=6)∧(o=2→tv t=true)∧(o ≠ 2→t=⟨#[]⟩):=by
  have h2:=(nodeOk_iff o n t ks.length).1 ((wf_mk o n t ks deep).1 h).2.1
  obtain ⟨a,b,c,d,e,f,g⟩:=h2
  refine ⟨a,b,c,d,e,f,fun h=>by rwa [if_pos h] at g,fun h=>?_⟩
  rw [if_neg h,decide_eq_true_eq,size_data,List.length_eq_zero_iff] at g
  obtain ⟨⟨l⟩⟩:=t
  simp at g
  subst g
  rfl
end Go.Proofs.Ytdhdfmmefghijab.Pure
namespace Go.Proofs.Ytdhdfmmefghijab.Pure
open Go.RowKit Go.Proofs.Ytdhdfmmefghijab.P Go.Proofs.YtdhdfmmefghijabW.PrintWords Go.Proofs.YtdhdfmmefghijabW.PrintLast Go.Proofs.YtdhdfmmefghijabW.PrintMore
set_option linter.unusedVariables false
set_option linter.unusedSimpArgs false
theorem specCopy_loop (o n:Int) (t:ByteArray) (suf:List SDoc):∀ (pre:List SDoc),
    (∀ y,y ∈ suf→Ev (fun k=>spec_l1Copy.f k y.f0 y.f1 y.f2 y.f3) (y.f0,y.f1,y.f2,y.f3))→pre.length+suf.length≤1099511627776 →
    ∀ o' n' t',Ev (fun k=>spec_l1Copy.l0 k (pre.length:Int) o n t (pre ++ suf) o' n' t' pre) (o',n',t',pre ++ suf):=by
  induction suf with
  | nil =>
    intro pre _ hm o' n' t'
    refine Ev.step (fun k=>by rw [spec_l1Copy.l0]) ?_
    simp only [List.append_nil,Int.lt_irrefl,if_false]
    exact Ev.now _
  | cons y suf ih =>
    intro pre hy hm o' n' t'
    simp only [List.length_cons] at hm
    refine Ev.step (fun k=>by rw [spec_l1Copy.l0]) ?_
    have c1:(pre.length:Int) < ((pre ++ y :: suf).length:Int):=by simp;omega
    have c2:(0:Int)≤(pre.length:Int):=by omega
    simp only [if_pos c1,if_pos c2,rdD]
    refine Ev.bind (hy y List.mem_cons_self) ?_
    simp only [if_pos (show pre.length < 2513169434916 by omega),SDoc_eta]
    rw [w64 (by omega) (by omega)]
    have:=ih (pre ++ [y]) (fun z hz=>hy z (List.mem_cons_of_mem _ hz)) (by simp;omega) o' n' t'
    rw [List.append_assoc,show ((pre ++ [y]).length:Int)=(pre.length:Int)+1 by simp] at this
    exact this
theorem specCopy_ev:∀ (d:SDoc),msz d≤1099511627776→Ev (fun k=>spec_l1Copy.f k d.f0 d.f1 d.f2 d.f3) (d.f0,d.f1,d.f2,d.f3):=by
  intro d
  induction d using SDoc.ind with
  | h o n t ks ih =>
    intro hd
    simp only [msz] at hd
    have hl:=mszL_len ks
    refine Ev.step (fun k=>by rw [spec_l1Copy.f]) ?_
    exact specCopy_loop o n t ks [] (fun y hy=>ih y hy (by have:=mszL_mem hy;omega)) (by simp;omega) o n t
end Go.Proofs.Ytdhdfmmefghijab.Pure
namespace Go.Proofs.Ytdhdfmmefghijab.Pure
open Go.RowKit Go.Proofs.Ytdhdfmmefghijab.P Go.Proofs.YtdhdfmmefghijabW.PrintWords Go.Proofs.YtdhdfmmefghijabW.PrintLast Go.Proofs.YtdhdfmmefghijabW.PrintMore
set_option linter.unusedVariables false
set_option linter.unusedSimpArgs false
theorem word2_ev {b:List Int} (hb:Code b) (p:Int) (hp0:0≤p) (hp:p≤1000000000):∃ s,tv s=true∧Ev (fun k=>spec_l1Word2.f k b p) (s,p+1):=by
  obtain ⟨s,hs,h⟩:=of_ev hb p [(⟨#[97]⟩:ByteArray),(⟨#[98,98]⟩:ByteArray),(⟨#[99,99,99]⟩:ByteArray),(⟨#[100,100,100,100]⟩:ByteArray),(⟨#[102,40]⟩:ByteArray),(⟨#[41]⟩:ByteArray),(⟨#[44]⟩:ByteArray),(⟨#[120,61,49]⟩:ByteArray),(⟨#[97,98,99,100,101,102,103,104]⟩:ByteArray),(⟨#[101]⟩:ByteArray)] (by simp) hp0 hp
  refine ⟨s,?_,Ev.congr (fun k=>by rw [spec_l1Word2.f]) (Ev.bind h (Ev.now _))⟩
  have:∀ s ∈ [(⟨#[97]⟩:ByteArray),(⟨#[98,98]⟩:ByteArray),(⟨#[99,99,99]⟩:ByteArray),(⟨#[100,100,100,100]⟩:ByteArray),(⟨#[102,40]⟩:ByteArray),(⟨#[41]⟩:ByteArray),(⟨#[44]⟩:ByteArray),(⟨#[120,61,49]⟩:ByteArray),(⟨#[97,98,99,100,101,102,103,104]⟩:ByteArray),(⟨#[101]⟩:ByteArray)],tv s=true:=by decide +kernel
  exact this s hs
theorem tv_size {s:ByteArray} (h:tv s=true):1≤s.size∧s.size≤12:=by
  simp only [tv,Bool.and_eq_true,decide_eq_true_eq] at h
  exact ⟨h.1,h.2.1⟩
theorem wf_mono:∀ (d:SDoc) (m m':Nat),m≤m'→wf d m=true→wf d m'=true:=by
  intro d
  induction d using SDoc.ind with
  | h o n t ks ih =>
    intro m m' hm h
    rw [wf_mk] at h ⊢
    refine ⟨by omega,h.2.1,?_⟩
    rw [wfL_all,List.all_eq_true] at h ⊢
    exact fun y hy=>ih y hy (m - 1) (m' - 1) (by omega) (h.2.2 y hy)
theorem wf_msz:∀ (d:SDoc) (m:Nat),wf d m=true→msz d≤13 * dsz d:=by
  intro d
  induction d using SDoc.ind with
  | h o n t ks ih =>
    intro m h
    obtain ⟨_,_,_,_,_,_,h2,h3⟩:=wf_node h
    have hk:=wf_kids h
    have key:∀ l:List SDoc,(∀ y,y ∈ l→msz y≤13 * dsz y)→mszL l≤13 * dszL l:=by
      intro l
      induction l with
      | nil=>intro _;simp [mszL,dszL]
      | cons y l ihl =>
        intro hl
        have h1:=hl y List.mem_cons_self
        have h2:=ihl (fun z hz=>hl z (List.mem_cons_of_mem _ hz))
        simp only [mszL,dszL]
        omega
    have:=key ks (fun y hy=>ih y hy (m - 1) (hk y hy))
    have ht:t.size≤12:=by
      by_cases c:o=2
      · exact (tv_size (h2 c)).2
      · rw [h3 c];show 0≤12;omega
    simp only [msz,dsz]
    omega
theorem wf_of {o n:Int} {t:ByteArray} {ks:List SDoc} {m:Nat} (h1:1≤o) (h8:o≤8) (hk:(ks.length:Int)=docKids o) (hn0:0≤n) (hn9:n≤9) (hn:n=0 ∨ o=6) (ht:o=2→tv t=true) (ht':o ≠ 2→t=⟨#[]⟩) (hks:∀ y,y ∈ ks→wf y m=true):wf ⟨o,n,t,ks⟩ (m+1)=true:=by
  rw [wf_mk]
  refine ⟨by omega,(nodeOk_iff _ _ _ _).2 ⟨h1,h8,hk,hn0,hn9,hn,?_⟩,?_⟩
  · by_cases c:o=2
    · rw [if_pos c];exact ht c
    · rw [if_neg c,ht' c];rfl
  · rw [wfL_all,List.all_eq_true]
    exact hks
theorem three_pos (n:Nat):1≤3 ^ n:=by
  induction n with
  | zero=>exact Nat.le_refl 1
  | succ n ih=>rw [Nat.pow_succ];omega
theorem dr_leaf (o:Int) (h:o=1 ∨ o=3 ∨ o=4 ∨ o=5) (m:Nat):wf ⟨o,0,⟨#[]⟩,[]⟩ (m+1)=true:=wf_of (by omega) (by omega) (by rcases h with rfl | rfl | rfl | rfl <;> rfl) (by omega) (by omega) (.inl rfl) (by omega) (fun _=>rfl) (fun y hy=>by cases hy)
theorem some0_ev {b:List Int} (hb:Code b) (p:Int) (hp0:0≤p) (hp:p≤900000000):∃ (d:SDoc) (q:Int),Ev (fun k=>spec_l1Some.f k b p 0) (d.f0,d.f1,d.f2,d.f3,q)∧wf d 1=true∧dsz d=1∧p≤q∧q≤p+2:=by
  obtain ⟨r,h1,hr0,hr⟩:=pick_ev hb p 8 hp0 (by omega)
  obtain ⟨s,hs,h2⟩:=word2_ev hb (p+1) (by omega) (by omega)
  have J:∀ R,Ev (fun k=>(spec_l15Rd_pick.f k b p 8).bind fun bt237=>(if bt237.1=0 then (some ((1:Int),(0:Int),(⟨#[]⟩:ByteArray),([]:List SDoc),bt237.2)) else (if bt237.1=1 then (spec_l1Some.j0 k bt237.1 (bt237.1 == 1) b bt237.2) else (spec_l1Some.j0 k bt237.1 (bt237.1 == 2) b bt237.2)))) R→Ev (fun k=>spec_l1Some.f k b p 0) R:=by
    intro R h
    refine Ev.step (fun k=>by rw [spec_l1Some.f]) ?_
    simp only [if_true]
    exact h
  by_cases c0:r=0
  · refine ⟨⟨1,0,⟨#[]⟩,[]⟩,p+1,J _ (Ev.bind h1 ?_),dr_leaf 1 (by omega) 0,rfl,by omega,by omega⟩
    simp only [if_pos c0]
    exact Ev.now _
  have J2:∀ (R:Int × Int × ByteArray × List SDoc × Int) (w:Bool),w=(decide (r=1) || decide (r=2))→Ev (fun k=>spec_l1Some.j0 k r w b (p+1)) R→Ev (fun k=>spec_l1Some.f k b p 0) R:=by
    intro R w hw h
    refine J _ (Ev.bind h1 ?_)
    simp only [if_neg c0]
    refine Ev.iff (fun c=>?_) (fun c=>?_)
    · rw [show (r == 1)=w by rw [hw];simp [c]]
      exact h
    · rw [show (r == 2)=w by rw [hw,decide_eq_false (show ¬ r=1 from c),Bool.false_or];rfl]
      exact h
  by_cases c1:r=1 ∨ r=2
  · refine ⟨⟨3,0,⟨#[]⟩,[]⟩,p+1,J2 _ true (by rcases c1 with rfl | rfl <;> rfl) (Ev.step (fun k=>by rw [spec_l1Some.j0]) ?_),dr_leaf 3 (by omega) 0,rfl,by omega,by omega⟩
    simp only [if_true]
    exact Ev.now _
  have hw:false=(decide (r=1) || decide (r=2)):=by
    rw [decide_eq_false (fun e=>c1 (.inl e)),decide_eq_false (fun e=>c1 (.inr e))];rfl
  by_cases c3:r=3
  · refine ⟨⟨4,0,⟨#[]⟩,[]⟩,p+1,J2 _ false hw (Ev.step (fun k=>by rw [spec_l1Some.j0]) ?_),dr_leaf 4 (by omega) 0,rfl,by omega,by omega⟩
    simp only [Bool.false_eq_true,if_false,if_pos c3]
    exact Ev.now _
  · refine ⟨⟨2,0,s,[]⟩,p+1+1,J2 _ false hw (Ev.step (fun k=>by rw [spec_l1Some.j0]) ?_),?_,rfl,by omega,by omega⟩
    · simp only [Bool.false_eq_true,if_false,if_neg c3]
      exact Ev.bind h2 (Ev.now _)
    · exact wf_of (by omega) (by omega) rfl (by omega) (by omega) (.inl rfl) (fun _=>hs) (fun h=>absurd rfl h) (fun y hy=>by cases hy)
theorem some_ev {b:List Int} (hb:Code b):∀ (n:Nat),n≤5→∀ (p:Int),0≤p→p+12 * 3 ^ n≤800000000→∃ (d:SDoc) (q:Int),Ev (fun k=>spec_l1Some.f k b p (n:Int)) (d.f0,d.f1,d.f2,d.f3,q)∧wf d (n+3)=true∧dsz d≤5 * 3 ^ n - 4∧p≤q∧q≤p+12 * 3 ^ n:=by
  intro n
  induction n with
  | zero =>
    intro _ p hp0 hp
    obtain ⟨d,q,h,h1,h2,h3,h4⟩:=some0_ev hb p hp0 (by omega)
    exact ⟨d,q,h,wf_mono d 1 3 (by omega) h1,by omega,h3,by omega⟩
  | succ n ih =>
    intro hn p hp0 hp
    have ih:=ih (by omega)
    have h3:=three_pos n
    have h3b:3 ^ n≤3 ^ 5:=Nat.pow_le_pow_right (by omega) (by omega)
    have h3c:(3:Nat) ^ 5=243:=rfl
    have e3:3 ^ (n+1)=3 * 3 ^ n:=by rw [Nat.pow_succ];omega
    have e3i:((3:Int) ^ (n+1))=3 * ((3 ^ n:Nat):Int):=by rw [Int.pow_succ];simp;omega
    have e3j:((3:Int) ^ n)=((3 ^ n:Nat):Int):=by simp
    rw [e3i] at hp ⊢
    rw [e3j] at ih
    rw [e3]
    generalize 3 ^ n=T at *
    obtain ⟨r,g1,hr0,hr⟩:=pick_ev hb p 12 hp0 (by omega)
    have hr:=hr (by omega)
    have w1:wrap64 (((n+1:Nat):Int) - 1)=(n:Int):=by rw [w64 (by omega) (by omega)];omega
    have J:∀ R,Ev (fun k=>(spec_l15Rd_pick.f k b p 12).bind fun bt241=>(if bt241.1=0 then ((spec_l1Some.f k b bt241.2 0).bind fun bt243=>(some (bt243.1,bt243.2.1,bt243.2.2.1,bt243.2.2.2.1,bt243.2.2.2.2))) else (if bt241.1=1 then (spec_l1Some.j1 k ((n+1:Nat):Int) bt241.1 (bt241.1 == 1) b bt241.2) else (spec_l1Some.j1 k ((n+1:Nat):Int) bt241.1 (bt241.1 == 2) b bt241.2)))) R→Ev (fun k=>spec_l1Some.f k b p ((n+1:Nat):Int)) R:=by
      intro R h
      refine Ev.step (fun k=>by rw [spec_l1Some.f]) ?_
      simp only [if_neg (show ¬ ((n+1:Nat):Int)=0 by omega)]
      exact h
    by_cases c0:r=0
    · obtain ⟨d,q,h,h1,h2,h4,h5⟩:=some0_ev hb (p+1) (by omega) (by omega)
      refine ⟨d,q,J _ (Ev.bind g1 ?_),wf_mono d 1 _ (by omega) h1,by omega,by omega,by omega⟩
      simp only [if_pos c0]
      exact Ev.bind h (Ev.now _)
    have J2:∀ (R:Int × Int × ByteArray × List SDoc × Int) (w:Bool),w=(decide (r=1) || decide (r=2))→Ev (fun k=>spec_l1Some.j1 k ((n+1:Nat):Int) r w b (p+1)) R→Ev (fun k=>spec_l1Some.f k b p ((n+1:Nat):Int)) R:=by
      intro R w hw h
      refine J _ (Ev.bind g1 ?_)
      simp only [if_neg c0]
      refine Ev.iff (fun c=>?_) (fun c=>?_)
      · rw [show (r == 1)=w by rw [hw];simp [c]]
        exact h
      · rw [show (r == 2)=w by rw [hw,decide_eq_false (show ¬ r=1 from c),Bool.false_or];rfl]
        exact h
    by_cases c1:r=1 ∨ r=2
    · obtain ⟨m,hm,g2⟩:=num_ev hb (p+1) [2,1,4,0,9] (by simp) (by omega) (by omega)
      have hm9:0≤m∧m≤9:=by
        simp only [List.mem_cons,List.not_mem_nil,or_false] at hm
        omega
      obtain ⟨d,q,h,h1,h2,h4,h5⟩:=ih (p+1+1) (by omega) (by omega)
      refine ⟨⟨6,m,⟨#[]⟩,[d]⟩,q,J2 _ true (by rcases c1 with rfl | rfl <;> rfl) (Ev.step (fun k=>by rw [spec_l1Some.j1]) ?_),?_,?_,by omega,by omega⟩
      · simp only [if_true,w1]
        refine Ev.bind g2 (Ev.bind h ?_)
        simp only [SDoc_eta]
        exact Ev.now _
      · exact wf_of (by omega) (by omega) rfl hm9.1 hm9.2 (.inr rfl) (by omega) (fun _=>rfl) (fun y hy=>by rw [List.mem_singleton.1 hy];exact h1)
      · simp only [dsz,dszL];omega
    have hw:false=(decide (r=1) || decide (r=2)):=by
      rw [decide_eq_false (fun e=>c1 (.inl e)),decide_eq_false (fun e=>c1 (.inr e))];rfl
    have J3:∀ (R:Int × Int × ByteArray × List SDoc × Int) (w:Bool),w=(decide (r=3) || (decide (r=4) || decide (r=5)))→Ev (fun k=>spec_l1Some.j2 k ((n+1:Nat):Int) r w b (p+1)) R→Ev (fun k=>spec_l1Some.f k b p ((n+1:Nat):Int)) R:=by
      intro R w hw' h
      refine J2 _ false hw (Ev.step (fun k=>by rw [spec_l1Some.j1]) ?_)
      simp only [Bool.false_eq_true,if_false]
      refine Ev.iff (fun c=>?_) (fun c=>Ev.iff (fun c'=>?_) (fun c'=>?_))
      · rw [show (r == 3)=w by rw [hw'];simp [c]]
        exact h
      · rw [show (r == 4)=w by rw [hw',decide_eq_false (show ¬ r=3 from c),Bool.false_or,decide_eq_true (show r=4 from c'),show (r == 4)=true by rw [show r=4 from c'];rfl];rfl]
        exact h
      · rw [show (r == 5)=w by rw [hw',decide_eq_false (show ¬ r=3 from c),Bool.false_or,decide_eq_false (show ¬ r=4 from c'),Bool.false_or];rfl]
        exact h
    by_cases c3:r=3 ∨ r=4 ∨ r=5
    · obtain ⟨d,q,h,h1,h2,h4,h5⟩:=ih (p+1) (by omega) (by omega)
      refine ⟨⟨8,0,⟨#[]⟩,[d]⟩,q,J3 _ true (by rcases c3 with rfl | rfl | rfl <;> rfl) (Ev.step (fun k=>by rw [spec_l1Some.j2]) ?_),?_,?_,by omega,by omega⟩
      · simp only [if_true,w1]
        refine Ev.bind h ?_
        simp only [SDoc_eta]
        exact Ev.now _
      · exact wf_of (by omega) (by omega) rfl (by omega) (by omega) (.inl rfl) (by omega) (fun _=>rfl) (fun y hy=>by rw [List.mem_singleton.1 hy];exact h1)
      · simp only [dsz,dszL];omega
    have hw3:false=(decide (r=3) || (decide (r=4) || decide (r=5))):=by
      rw [decide_eq_false (fun e=>c3 (.inl e)),decide_eq_false (fun e=>c3 (.inr (.inl e))),decide_eq_false (fun e=>c3 (.inr (.inr e)))];rfl
    have cat:∀ (x y:SDoc) (m:Nat),wf x m=true→wf y m=true→wf ⟨7,0,⟨#[]⟩,[x,y]⟩ (m+1)=true:=by
      intro x y m hx hy
      refine wf_of (by omega) (by omega) rfl (by omega) (by omega) (.inl rfl) (by omega) (fun _=>rfl) (fun z hz=>?_)
      simp only [List.mem_cons,List.not_mem_nil,or_false] at hz
      rcases hz with rfl | rfl
      · exact hx
      · exact hy
    by_cases c6:r=6
    · obtain ⟨s,g2,hs0,hs⟩:=pick_ev hb (p+1) 3 (by omega) (by omega)
      obtain ⟨d,q,h,h1,h2,h4,h5⟩:=ih (p+1+1) (by omega) (by omega)
      obtain ⟨d0,q0,i,i1,i2,i4,i5⟩:=some0_ev hb q (by omega) (by omega)
      have hd0:=wf_mono d0 1 (n+1) (by omega) i1
      have fin:∀ o:Int,(o=5 ∨ o=3)→wf ⟨7,0,⟨#[]⟩,[d,⟨7,0,⟨#[]⟩,[⟨o,0,⟨#[]⟩,[]⟩,d0]⟩]⟩ (n+1+3)=true∧dsz ⟨7,0,⟨#[]⟩,[d,⟨7,0,⟨#[]⟩,[⟨o,0,⟨#[]⟩,[]⟩,d0]⟩]⟩≤5 * (3 * T) - 4:=by
        intro o ho
        refine ⟨cat _ _ (n+3) h1 (wf_mono _ (n+1+1) _ (by omega) (cat _ _ (n+1) (dr_leaf o (by omega) n) hd0)),?_⟩
        simp only [dsz,dszL]
        omega
      by_cases cs:s=0
      · refine ⟨⟨7,0,⟨#[]⟩,[d,⟨7,0,⟨#[]⟩,[⟨5,0,⟨#[]⟩,[]⟩,d0]⟩]⟩,q0,J3 _ false hw3 (Ev.step (fun k=>by rw [spec_l1Some.j2]) ?_),(fin 5 (.inl rfl)).1,(fin 5 (.inl rfl)).2,by omega,by omega⟩
        simp only [Bool.false_eq_true,if_false,if_pos c6,w1]
        refine Ev.bind g2 ?_
        simp only [if_pos cs]
        refine Ev.bind h (Ev.bind i ?_)
        simp only [spec_l1Cat.f,Option.bind_some,SDoc_eta]
        exact Ev.now _
      · refine ⟨⟨7,0,⟨#[]⟩,[d,⟨7,0,⟨#[]⟩,[⟨3,0,⟨#[]⟩,[]⟩,d0]⟩]⟩,q0,J3 _ false hw3 (Ev.step (fun k=>by rw [spec_l1Some.j2]) ?_),(fin 3 (.inr rfl)).1,(fin 3 (.inr rfl)).2,by omega,by omega⟩
        simp only [Bool.false_eq_true,if_false,if_pos c6,w1]
        refine Ev.bind g2 ?_
        simp only [if_neg cs]
        refine Ev.bind h (Ev.bind i ?_)
        simp only [spec_l1Cat.f,Option.bind_some,SDoc_eta]
        exact Ev.now _
    · obtain ⟨d,q,h,h1,h2,h4,h5⟩:=ih (p+1) (by omega) (by omega)
      obtain ⟨d',q',i,i1,i2,i4,i5⟩:=ih q (by omega) (by omega)
      refine ⟨⟨7,0,⟨#[]⟩,[d,d']⟩,q',J3 _ false hw3 (Ev.step (fun k=>by rw [spec_l1Some.j2]) ?_),cat _ _ (n+3) h1 i1,?_,by omega,by omega⟩
      · simp only [Bool.false_eq_true,if_false,if_neg c6,w1]
        refine Ev.bind h (Ev.bind i ?_)
        simp only [spec_l1Cat.f,Option.bind_some,SDoc_eta]
        exact Ev.now _
      · simp only [dsz,dszL];omega
def VDoc (d:SDoc):Prop:=docV d=true∧msz d≤1040
theorem vdoc_of {d:SDoc} (h:docV d=true):VDoc d:=by
  obtain ⟨h1,h2⟩:=(docV_iff d).1 h
  have:=wf_msz d 40 h1
  exact ⟨h,by omega⟩
theorem draw_loop {b:List Int} (hb:Code b) (L:List ByteArray) (hL0:0 < L.length) (hL:∀ s ∈ L,s.size≤1000):∀ (m:Nat) (i:Nat),i+m=3→∀ p:Int,0≤p→p≤100000000+10000 * i →
    ∃ (d:SDoc) (q:Int),Ev (fun k=>spec_l1Draw.l0 k L (i:Int) b p) (d.f0,d.f1,d.f2,d.f3,q)∧VDoc d∧p≤q∧q≤p+5000 * (m+1):=by
  intro m
  induction m with
  | zero =>
    intro i hi p hp0 hp
    obtain ⟨d,q,h,h1,h2,h3,h4⟩:=some_ev hb 2 (by omega) p hp0 (by omega)
    refine ⟨d,q,Ev.step (fun k=>by rw [spec_l1Draw.l0]) ?_,vdoc_of ((docV_iff d).2 ⟨wf_mono d 5 40 (by omega) h1,by omega⟩),h3,by omega⟩
    simp only [if_neg (show ¬ (i:Int) < 3 by omega)]
    exact Ev.bind h (Ev.now _)
  | succ m ih =>
    intro i hi p hp0 hp
    have c:(i:Int) < 3:=by omega
    have w1:wrap64 ((i:Int)+1)=((i+1:Nat):Int):=by rw [w64 (by omega) (by omega)];omega
    obtain ⟨r,g1,hr0,hr⟩:=pick_ev hb p 3 hp0 (by omega)
    have J1:∀ p':Int,p+1≤p'→p'≤p+2→∃ (d:SDoc) (q:Int),Ev (fun k=>spec_l1Draw.j1 k L (i:Int) b p') (d.f0,d.f1,d.f2,d.f3,q)∧VDoc d∧p≤q∧q≤p+5000 * (m+1+1):=by
      intro p' h1 h2
      obtain ⟨n,hn,g2⟩:=num_ev hb p' [4,3,5,2] (by simp) (by omega) (by omega)
      simp only [List.mem_cons,List.not_mem_nil,or_false] at hn
      obtain ⟨n',hn',rfl⟩:∃ n':Nat,n'≤5∧n=(n':Int):=⟨n.toNat,by omega,by omega⟩
      obtain ⟨d,q,h,k1,k2,k3,k4⟩:=some_ev hb n' hn' (p'+1) (by omega) (by
        have h3b:3 ^ n'≤3 ^ 5:=Nat.pow_le_pow_right (by omega) hn'
        have h3c:(3:Nat) ^ 5=243:=rfl
        have e3j:((3:Int) ^ n')=((3 ^ n':Nat):Int):=by simp
        rw [e3j]
        omega)
      have h3b:3 ^ n'≤3 ^ 5:=Nat.pow_le_pow_right (by omega) hn'
      have h3c:(3:Nat) ^ 5=243:=rfl
      have e3j:((3:Int) ^ n')=((3 ^ n':Nat):Int):=by simp
      rw [e3j] at k4
      generalize 3 ^ n'=T at *
      have km:=wf_msz d _ k1
      obtain ⟨d2,q2,h2',v2,m2,m3⟩:=ih (i+1) (by omega) q (by omega) (by omega)
      by_cases cv:docV d=true
      · by_cases c4:(dsz d:Int)≤40
        · refine ⟨d,q,Ev.step (fun k=>by rw [spec_l1Draw.j1]) (Ev.bind g2 (Ev.bind h (Ev.bind (specValid_ev d (by omega)) ?_))),vdoc_of cv,by omega,by omega⟩
          simp only [if_pos cv]
          refine Ev.bind (specCount_ev d (by omega)) ?_
          simp only [if_pos c4]
          exact Ev.now _
        · refine ⟨d2,q2,Ev.step (fun k=>by rw [spec_l1Draw.j1]) (Ev.bind g2 (Ev.bind h (Ev.bind (specValid_ev d (by omega)) ?_))),v2,by omega,by omega⟩
          simp only [if_pos cv]
          refine Ev.bind (specCount_ev d (by omega)) ?_
          simp only [if_neg c4,w1]
          exact h2'
      · refine ⟨d2,q2,Ev.step (fun k=>by rw [spec_l1Draw.j1]) (Ev.bind g2 (Ev.bind h (Ev.bind (specValid_ev d (by omega)) ?_))),v2,by omega,by omega⟩
        simp only [if_neg cv,w1]
        exact h2'
    by_cases c0:r=0
    · obtain ⟨j,g2,hj0,hj⟩:=pick_ev hb (p+1) (L.length:Int) (by omega) (by omega)
      have hj:=hj (by omega)
      have hjl:j.toNat < L.length:=by omega
      have hsz:(rdOf ByteArray.empty L j).size≤1000:=by
        unfold rdOf
        rw [List.getD_eq_getElem?_getD,List.getElem?_eq_getElem hjl]
        exact hL _ (List.getElem_mem hjl)
      have hp:=specParse_ev (rdOf ByteArray.empty L j) (by omega)
      cases hd:parseR (rdOf ByteArray.empty L j).data.toList with
      | none =>
        rw [hd] at hp
        obtain ⟨d,q,h1,h2,h3,h4⟩:=J1 (p+1+1) (by omega) (by omega)
        refine ⟨d,q,Ev.step (fun k=>by rw [spec_l1Draw.l0]) ?_,h2,h3,h4⟩
        simp only [if_pos c]
        refine Ev.bind g1 ?_
        simp only [if_pos c0]
        refine Ev.bind g2 ?_
        simp only [if_pos hj0,if_pos hj]
        refine Ev.bind hp ?_
        simp only [docR,Bool.false_eq_true,if_false]
        exact h1
      | some d =>
        rw [hd] at hp
        have hv:docV d=true:=by
          unfold parseR at hd
          split at hd
          · split at hd
            · rename_i hv
              obtain rfl:=Option.some.inj hd
              exact hv
            · cases hd
          · cases hd
        refine ⟨d,p+1+1,Ev.step (fun k=>by rw [spec_l1Draw.l0]) ?_,vdoc_of hv,by omega,by omega⟩
        simp only [if_pos c]
        refine Ev.bind g1 ?_
        simp only [if_pos c0]
        refine Ev.bind g2 ?_
        simp only [if_pos hj0,if_pos hj]
        refine Ev.bind hp ?_
        simp only [docR,if_true]
        exact Ev.now _
    · obtain ⟨d,q,h1,h2,h3,h4⟩:=J1 (p+1) (by omega) (by omega)
      refine ⟨d,q,Ev.step (fun k=>by rw [spec_l1Draw.l0]) ?_,h2,h3,h4⟩
      simp only [if_pos c]
      refine Ev.bind g1 ?_
      simp only [if_neg c0]
      exact h1
theorem draw_ev {b:List Int} (hb:Code b) (p:Int) (hp0:0≤p) (hp:p≤100000000):∃ (d:SDoc) (q:Int),Ev (fun k=>spec_l1Draw.f k b p) (d.f0,d.f1,d.f2,d.f3,q)∧VDoc d∧p≤q∧q≤p+20000:=by
  have key:∀ L:List ByteArray,0 < L.length→(∀ s ∈ L,s.size≤1000)→∃ (d:SDoc) (q:Int),Ev (fun k=>spec_l1Draw.l0 k L 0 b p) (d.f0,d.f1,d.f2,d.f3,q)∧VDoc d∧p≤q∧q≤p+20000:=by
    intro L h1 h2
    obtain ⟨d,q,h,v,m1,m2⟩:=draw_loop hb L h1 h2 3 0 (by omega) p hp0 (by omega)
    exact ⟨d,q,h,v,m1,by omega⟩
  have:∀ L:List ByteArray,(0 < L.length∧∀ s ∈ L,s.size≤1000)→(∀ k,spec_l1Draw.f k b p=spec_l1Draw.l0 k L 0 b p)→∃ (d:SDoc) (q:Int),Ev (fun k=>spec_l1Draw.f k b p) (d.f0,d.f1,d.f2,d.f3,q)∧VDoc d∧p≤q∧q≤p+20000:=by
    intro L hL hf
    obtain ⟨d,q,h,v⟩:=key L hL.1 hL.2
    exact ⟨d,q,Ev.congr hf h,v⟩
  refine this _ ?_ (fun k=>rfl)
  decide +kernel
end Go.Proofs.Ytdhdfmmefghijab.Pure
namespace Go.Proofs.Ytdhdfmmefghijab.Pure
open Go.RowKit Go.Proofs.Ytdhdfmmefghijab.P Go.Proofs.YtdhdfmmefghijabW.PrintWords Go.Proofs.YtdhdfmmefghijabW.PrintLast Go.Proofs.YtdhdfmmefghijabW.PrintMore
set_option linter.unusedVariables false
set_option linter.unusedSimpArgs false
structure LP (B I:Nat) (l:List SRow):Prop where
  ne:0 < l.length
  hd:∀ r,l.head?=some r→r.f0=0
  rows:∀ r ∈ l,0≤r.f0∧r.f0≤9 * (I:Int)∧r.f1.data.toList.all rowB=true
  bz:bsz l≤B
theorem bsz_app:∀ a b:List SRow,bsz (a ++ b)=bsz a+bsz b
  | [],b=>by simp [bsz]
  | r :: a,b=>by simp [bsz,bsz_app a b];omega
theorem bsz_map {f:SRow→SRow} (hf:∀ r,(f r).f1=r.f1):∀ a:List SRow,bsz (a.map f)=bsz a
  | []=>rfl
  | r :: a=>by simp [bsz,bsz_map hf a,hf]
theorem LP.mono {B B' I I':Nat} {l:List SRow} (h:LP B I l) (hB:B≤B') (hI:I≤I'):LP B' I' l:=⟨h.ne,h.hd,fun r hr=>by have:=h.rows r hr;exact ⟨this.1,by omega,this.2.2⟩,Nat.le_trans h.bz hB⟩
theorem data_app (a b:ByteArray):(a ++ b).data.toList=a.data.toList ++ b.data.toList:=by simp
theorem LP.cat {B B' I:Nat} {a b:List SRow} (ha:LP B I a) (hb:LP B' I b):LP (B+B') I (catO a b)∧(catO a b).length+1=a.length+b.length∧∃ pre r s t,a=pre ++ [r]∧b=s :: t∧catO a b=pre ++ ⟨r.f0,r.f1 ++ s.f1⟩ :: t:=by
  rcases List.eq_nil_or_concat a with rfl | ⟨pre,r,e⟩
  · have:=ha.ne;simp at this
  · rw [List.concat_eq_append] at e
    cases b with
    | nil=>have:=hb.ne;simp at this
    | cons s t =>
      subst e
      have e:=catO_eq r s t pre
      refine ⟨?_,by rw [e];simp;omega,pre,r,s,t,rfl,rfl,e⟩
      rw [e]
      have hr:=ha.rows r (by simp)
      have hs:=hb.rows s (by simp)
      have z1:=ha.bz
      have z2:=hb.bz
      rw [bsz_app] at z1
      simp only [bsz] at z1 z2
      refine ⟨by simp;omega,?_,?_,?_⟩
      · intro x hx
        cases pre with
        | nil =>
          simp only [List.nil_append,List.head?_cons,Option.some.injEq] at hx
          subst hx
          exact ha.hd r rfl
        | cons p pre =>
          simp only [List.cons_append,List.head?_cons,Option.some.injEq] at hx
          subst hx
          exact ha.hd p rfl
      · intro x hx
        rcases List.mem_append.1 hx with hx | hx
        · exact ha.rows x (by simp [hx])
        · rcases List.mem_cons.1 hx with rfl | hx
          · refine ⟨hr.1,hr.2.1,?_⟩
            show ((r.f1 ++ s.f1).data.toList).all rowB=true
            rw [data_app,List.all_append,hr.2.2,hs.2.2]
            rfl
          · exact hb.rows x (by simp [hx])
      · rw [bsz_app]
        simp only [bsz]
        rw [ByteArray.size_append]
        omega
theorem LP.nest {B I:Nat} {l:List SRow} (h:LP B I l) (n:Int) (h0:0≤n) (h9:n≤9) (hI:I≤1000):LP B (I+1) (nestO n l)∧(nestO n l).length=l.length:=by
  cases l with
  | nil=>have:=h.ne;simp at this
  | cons r t =>
    refine ⟨⟨by simp [nestO],?_,?_,?_⟩,by simp [nestO]⟩
    · intro x hx
      simp only [nestO,List.head?_cons,Option.some.injEq] at hx
      subst hx
      exact h.hd r rfl
    · intro x hx
      rcases List.mem_cons.1 hx with rfl | hx
      · have:=h.rows x (by simp);exact ⟨this.1,by omega,this.2.2⟩
      · obtain ⟨y,hy,rfl⟩:=List.mem_map.1 hx
        have:=h.rows y (by simp [hy])
        simp only [inR]
        rw [w64 (by omega) (by omega)]
        exact ⟨by omega,by omega,this.2.2⟩
    · simp only [nestO,bsz]
      rw [bsz_map (f:=inR n) (fun _=>rfl)]
      exact h.bz
theorem rowsOk_of {l:List SRow} (h:∀ r ∈ l,rowOk r=true):∀ i,(i=0→∀ r,l.head?=some r→r.f0=0)→rowsOk i l=true:=by
  cases l with
  | nil=>intro i _;rfl
  | cons r t =>
    intro i hi
    rw [rowsOk,rowsOk_all,h r (by simp),Bool.and_true,Bool.and_eq_true]
    refine ⟨?_,List.all_eq_true.2 fun x hx=>h x (by simp [hx])⟩
    by_cases c:i=0
    · have:=hi c r rfl;simp [this]
    · simp [c]
theorem LP.lay {B I:Nat} {l:List SRow} (h:LP B I l) (hI:I≤44) (hB:B < 2000) (hl:l.length≤200):layV l=true:=by
  rw [layV,Bool.and_eq_true,Bool.and_eq_true]
  refine ⟨rowsOk_of (fun r hr=>?_) 0 (fun _=>h.hd),by simpa using h.ne,by simpa using hl⟩
  have:=h.rows r hr
  have hz:=bsz_mem hr
  have hz2:=h.bz
  rw [rowOk,Bool.and_eq_true,Bool.and_eq_true,rowT,Bool.and_eq_true]
  exact ⟨decide_eq_true this.1,decide_eq_true (by omega),this.2.2,decide_eq_true (by omega)⟩
theorem LP.sizes {B I:Nat} {l:List SRow} (h:LP B I l):∀ r ∈ l,r.f1.size≤B:=fun r hr=>Nat.le_trans (bsz_mem hr) h.bz
theorem LP.one {B I:Nat} {t:ByteArray} (ht:t.size≤B) (hb:t.data.toList.all rowB=true):LP B I [⟨0,t⟩] :=
  ⟨by simp,fun r hr=>by simp at hr;subst hr;rfl,fun r hr=>by rw [List.mem_singleton.1 hr];exact ⟨Int.le_refl _,by show (0:Int)≤_;omega,hb⟩,by simpa [bsz] using ht⟩
theorem LP.two {B I:Nat}:LP B I [⟨0,⟨#[]⟩⟩,⟨0,⟨#[]⟩⟩] :=
  ⟨by simp,fun r hr=>by simp at hr;subst hr;rfl,fun r hr=>by
    have:r=⟨0,⟨#[]⟩⟩:=by simpa using hr
    rw [this]
    exact ⟨Int.le_refl _,by show (0:Int)≤_;omega,rfl⟩,by show 0+(0+0)≤B;omega⟩
theorem specCat_of {B B' I:Nat} {a b:List SRow} (ha:LP B I a) (hb:LP B' I b) (hB:B+B'≤1000000) (hl:a.length+b.length≤1000000):spec_l2Cat.f a b=some (catO a b):=by
  obtain ⟨_,_,pre,r,s,t,e1,e2,e3⟩:=ha.cat hb
  have h1:=ha.sizes r (by rw [e1];simp)
  have h2:=hb.sizes s (by rw [e2];simp)
  rw [e3]
  subst e1 e2
  simp at hl
  exact specCat_eq pre t r s (by omega) (by omega)
theorem implCat_of {B B' I:Nat} {a b:List SRow} (ha:LP B I a) (hb:LP B' I b) (hB:B+B'≤1000000) (hl:a.length+b.length≤1000000):impl_catRows.f a b=some (catO a b):=by
  obtain ⟨_,_,pre,r,s,t,e1,e2,e3⟩:=ha.cat hb
  have h1:=ha.sizes r (by rw [e1];simp)
  have h2:=hb.sizes s (by rw [e2];simp)
  rw [e3]
  subst e1 e2
  simp at hl
  exact implCat_eq pre t r s (by omega) (by omega)
theorem rowB_good {b:UInt8} (h:goodB b=true):rowB b=true:=by simp [rowB,h]
theorem tv_rows {t:ByteArray} (h:tv t=true):t.data.toList.all rowB=true∧t.size≤12:=by
  simp only [tv,Bool.and_eq_true,decide_eq_true_eq] at h
  exact ⟨List.all_eq_true.2 fun b hb=>rowB_good (List.all_eq_true.1 h.2.2 b hb),h.2.1⟩
end Go.Proofs.Ytdhdfmmefghijab.Pure
namespace Go.Proofs.Ytdhdfmmefghijab.Pure
open Go.RowKit Go.Proofs.Ytdhdfmmefghijab.P Go.Proofs.YtdhdfmmefghijabW.PrintWords Go.Proofs.YtdhdfmmefghijabW.PrintLast Go.Proofs.YtdhdfmmefghijabW.PrintMore
set_option linter.unusedVariables false
set_option linter.unusedSimpArgs false
def eR:SRow:=⟨0,⟨#[]⟩⟩
def openN (o n:Int) (t:ByteArray) (rs:List (List SRow)):List SRow :=
  if o=2 then [⟨0,t⟩] else if o=3 ∨ o=4 ∨ o=5 then [eR,eR] else if o=6 then nestO n (rs.getD 0 []) else if o=7 then catO (rs.getD 0 []) (rs.getD 1 []) else if o=8 then rs.getD 0 [] else [eR]
mutual
def openO:SDoc→List SRow
  | ⟨o,n,t,ks⟩=>openN o n t (openL ks)
def openL:List SDoc→List (List SRow)
  | []=>[]
  | k :: ks=>openO k :: openL ks
end
def nl (d:SDoc):Nat:=cnt 3 d+cnt 4 d+cnt 5 d
def nlL (l:List SDoc):Nat:=cntL 3 l+cntL 4 l+cntL 5 l
theorem op_kids1 {ks:List SDoc} (h:(ks.length:Int)=1):∃ y,ks=[y]:=by
  match ks,h with
  | [y],_=>exact ⟨y,rfl⟩
  | [],h=>simp at h
  | _ :: _ :: _,h=>simp only [List.length_cons] at h;omega
theorem op_kids2 {ks:List SDoc} (h:(ks.length:Int)=2):∃ x y,ks=[x,y]:=by
  match ks,h with
  | [x,y],_=>exact ⟨x,y,rfl⟩
  | [],h=>simp at h
  | [_],h=>simp at h
  | _ :: _ :: _ :: _,h=>simp only [List.length_cons] at h;omega
theorem op_rd0 (y:SDoc) (l:List SDoc):rd_TDoc (y :: l) 0=y:=by simp [rd_TDoc]
theorem op_rd1 (x y:SDoc) (l:List SDoc):rd_TDoc (x :: y :: l) 1=y:=by simp [rd_TDoc]
theorem wf_cases {o n:Int} {t:ByteArray} {ks:List SDoc} {deep:Nat} (h:wf ⟨o,n,t,ks⟩ deep=true) :
    0 < deep∧0≤n∧n≤9∧(((o=1 ∨ o=3 ∨ o=4 ∨ o=5)∧ks=[]∧t=⟨#[]⟩∧n=0) ∨ (o=2∧ks=[]∧tv t=true∧n=0) ∨ ((o=6 ∨ (o=8∧n=0))∧t=⟨#[]⟩∧∃ y,ks=[y]∧wf y (deep - 1)=true) ∨ (o=7∧n=0∧t=⟨#[]⟩∧∃ x y,ks=[x,y]∧wf x (deep - 1)=true∧wf y (deep - 1)=true)):=by
  obtain ⟨h1,h8,hk,hn0,hn9,hn,ht,ht'⟩:=wf_node h
  have hks:=wf_kids h
  have hdp:0 < deep:=by rw [wf_mk] at h;omega
  refine ⟨hdp,hn0,hn9,?_⟩
  have hcase:(o=1 ∨ o=3 ∨ o=4 ∨ o=5) ∨ o=2 ∨ o=6 ∨ o=7 ∨ o=8:=by omega
  rcases hcase with c | c | c | c | c
  · refine .inl ⟨c,List.length_eq_zero_iff.1 ?_,ht' (by omega),by omega⟩
    have:docKids o=0:=by unfold docKids;(repeat' split) <;> omega
    omega
  · subst c
    exact .inr (.inl ⟨rfl,List.length_eq_zero_iff.1 (by have:docKids 2=0:=rfl;omega),ht rfl,by omega⟩)
  · subst c
    obtain ⟨y,rfl⟩:=op_kids1 (hk.trans rfl)
    exact .inr (.inr (.inl ⟨.inl rfl,ht' (by omega),y,rfl,hks y (by simp)⟩))
  · subst c
    obtain ⟨x,y,rfl⟩:=op_kids2 (hk.trans rfl)
    exact .inr (.inr (.inr ⟨rfl,by omega,ht' (by omega),x,y,rfl,hks x (by simp),hks y (by simp)⟩))
  · subst c
    obtain ⟨y,rfl⟩:=op_kids1 (hk.trans rfl)
    exact .inr (.inr (.inl ⟨.inr ⟨rfl,by omega⟩,ht' (by omega),y,rfl,hks y (by simp)⟩))
theorem open_keeps:∀ (d:SDoc) (deep:Nat),deep≤40→wf d deep=true→LP (msz d) deep (openO d)∧(openO d).length=nl d+1:=by
  intro d
  induction d using SDoc.ind with
  | h o n t ks ih =>
    intro deep hdp hw
    obtain ⟨hd0,hn0,hn9,hc⟩:=wf_cases hw
    rcases hc with ⟨ho,rfl,rfl,rfl⟩ | ⟨rfl,rfl,ht,rfl⟩ | ⟨ho,rfl,y,rfl,hy⟩ | ⟨rfl,rfl,rfl,x,y,rfl,hx,hy⟩
    · rcases ho with rfl | rfl | rfl | rfl
      · exact ⟨LP.one (Nat.zero_le _) rfl,rfl⟩
      · exact ⟨LP.two,rfl⟩
      · exact ⟨LP.two,rfl⟩
      · exact ⟨LP.two,rfl⟩
    · have:=tv_rows ht
      exact ⟨LP.one (by simp only [msz];omega) this.1,rfl⟩
    · obtain ⟨k1,k2⟩:=ih y (by simp) (deep - 1) (by omega) hy
      rcases ho with rfl | ⟨rfl,rfl⟩
      · have hn:=k1.nest n hn0 hn9 (by omega)
        have e:openO ⟨6,n,⟨#[]⟩,[y]⟩=nestO n (openO y):=by simp [openO,openN,openL]
        rw [e]
        refine ⟨hn.1.mono (by simp only [msz,mszL];omega) (by omega),?_⟩
        rw [hn.2,k2]
        simp [nl,cnt,cntL]
      · have e:openO ⟨8,0,⟨#[]⟩,[y]⟩=openO y:=by simp [openO,openN,openL]
        rw [e]
        refine ⟨k1.mono (by simp only [msz,mszL];omega) (by omega),?_⟩
        rw [k2]
        simp [nl,cnt,cntL]
    · obtain ⟨k1,k2⟩:=ih x (by simp) (deep - 1) (by omega) hx
      obtain ⟨j1,j2⟩:=ih y (by simp) (deep - 1) (by omega) hy
      have hc:=k1.cat j1
      have e:openO ⟨7,0,⟨#[]⟩,[x,y]⟩=catO (openO x) (openO y):=by simp [openO,openN,openL]
      rw [e]
      refine ⟨hc.1.mono (by simp only [msz,mszL];omega) (by omega),?_⟩
      have:=hc.2.1
      have e2:nl ⟨7,0,⟨#[]⟩,[x,y]⟩=nl x+nl y:=by
        simp only [nl,cnt,cntL,if_neg (show ¬ (7:Int)=3 by omega),if_neg (show ¬ (7:Int)=4 by omega),if_neg (show ¬ (7:Int)=5 by omega)]
        omega
      omega
theorem nl_le (d:SDoc):nl d≤dsz d:=by
  have key:∀ d:SDoc,nl d≤dsz d:=by
    intro d
    induction d using SDoc.ind with
    | h o n t ks ih =>
      have:∀ l:List SDoc,(∀ y,y ∈ l→nl y≤dsz y)→nlL l≤dszL l:=by
        intro l
        induction l with
        | nil=>intro _;simp [nlL,cntL,dszL]
        | cons y l ihl =>
          intro hl
          have h1:=hl y List.mem_cons_self
          have h2:=ihl (fun z hz=>hl z (List.mem_cons_of_mem _ hz))
          simp only [nlL,nl,cntL,dszL] at *
          omega
      have:=this ks ih
      simp only [nl,nlL,cnt,dsz] at *
      split <;> split <;> split <;> omega
  exact key d
theorem open_valid {d:SDoc} (h:docV d=true):layV (openO d)=true∧LP (msz d) 40 (openO d)∧(openO d).length≤81:=by
  obtain ⟨h1,h2⟩:=(docV_iff d).1 h
  obtain ⟨k1,k2⟩:=open_keeps d 40 (Nat.le_refl _) h1
  have hn:=nl_le d
  have hm:msz d≤13 * dsz d:=by
    have key:∀ (d:SDoc) (m:Nat),wf d m=true→msz d≤13 * dsz d:=by
      intro d
      induction d using SDoc.ind with
      | h o n t ks ih =>
        intro m h
        obtain ⟨_,_,_,_,_,_,h2,h3⟩:=wf_node h
        have hk:=wf_kids h
        have key:∀ l:List SDoc,(∀ y,y ∈ l→msz y≤13 * dsz y)→mszL l≤13 * dszL l:=by
          intro l
          induction l with
          | nil=>intro _;simp [mszL,dszL]
          | cons y l ihl =>
            intro hl
            have h1:=hl y List.mem_cons_self
            have h2:=ihl (fun z hz=>hl z (List.mem_cons_of_mem _ hz))
            simp only [mszL,dszL]
            omega
        have:=key ks (fun y hy=>ih y hy (m - 1) (hk y hy))
        have ht:t.size≤12:=by
          by_cases c:o=2
          · exact (tv_rows (h2 c)).2
          · rw [h3 c];show 0≤12;omega
        simp only [msz,dsz]
        omega
    exact key d 40 h1
  exact ⟨k1.lay (by omega) (by omega) (by omega),k1,by omega⟩
theorem specOpen_ev:∀ (d:SDoc) (deep:Nat),deep≤40→wf d deep=true→msz d≤100000→dsz d≤100000→Ev (fun k=>spec_l2Open.f k d.f0 d.f1 d.f2 d.f3) (openO d):=by
  intro d
  induction d using SDoc.ind with
  | h o n t ks ih =>
    intro deep hdp hw hm hs
    obtain ⟨hd0,hn0,hn9,hc⟩:=wf_cases hw
    have keeps:=fun (y:SDoc) (hy:wf y (deep - 1)=true)=>open_keeps y (deep - 1) (by omega) hy
    have J:∀ (w:Bool) (R:List SRow),o ≠ 2→w=(decide (o=3) || (decide (o=4) || decide (o=5)))→Ev (fun k=>spec_l2Open.j0 k o w o n t ks) R→Ev (fun k=>spec_l2Open.f k o n t ks) R:=by
      intro w R h2 hw h
      refine Ev.step (fun k=>by rw [spec_l2Open.f]) ?_
      simp only [if_neg h2]
      refine Ev.iff (fun c=>?_) (fun c=>Ev.iff (fun c'=>?_) (fun c'=>?_))
      · rw [show (o == 3)=w by rw [hw,decide_eq_true (show o=3 from c),show o=3 from c];rfl]
        exact h
      · rw [show (o == 4)=w by rw [hw,decide_eq_false (show ¬ o=3 from c),decide_eq_true (show o=4 from c'),show o=4 from c'];rfl]
        exact h
      · rw [show (o == 5)=w by rw [hw,decide_eq_false (show ¬ o=3 from c),decide_eq_false (show ¬ o=4 from c')];rfl]
        exact h
    rcases hc with ⟨ho,rfl,rfl,rfl⟩ | ⟨rfl,rfl,ht,rfl⟩ | ⟨ho,rfl,y,rfl,hy⟩ | ⟨rfl,rfl,rfl,x,y,rfl,hx,hy⟩
    · rcases ho with rfl | rfl | rfl | rfl
      · refine J false _ (by omega) rfl (Ev.step (fun k=>by rw [spec_l2Open.j0]) ?_)
        simp only [Bool.false_eq_true,if_false,if_neg (show ¬ (1:Int)=6 by omega),if_neg (show ¬ (1:Int)=7 by omega),if_neg (show ¬ (1:Int)=8 by omega)]
        exact Ev.now _
      · refine J true _ (by omega) rfl (Ev.step (fun k=>by rw [spec_l2Open.j0]) ?_)
        simp only [if_true]
        exact Ev.now _
      · refine J true _ (by omega) rfl (Ev.step (fun k=>by rw [spec_l2Open.j0]) ?_)
        simp only [if_true]
        exact Ev.now _
      · refine J true _ (by omega) rfl (Ev.step (fun k=>by rw [spec_l2Open.j0]) ?_)
        simp only [if_true]
        exact Ev.now _
    · refine Ev.step (fun k=>by rw [spec_l2Open.f]) ?_
      simp only [if_true]
      exact Ev.now _
    · simp only [msz,mszL,dsz,dszL] at hm hs
      obtain ⟨k1,k2⟩:=keeps y hy
      have hnl:=nl_le y
      have hev:=ih y (by simp) (deep - 1) (by omega) hy (by omega) (by omega)
      rcases ho with rfl | ⟨rfl,rfl⟩
      · refine J false _ (by omega) rfl (Ev.step (fun k=>by rw [spec_l2Open.j0]) ?_)
        have e:openO ⟨6,n,⟨#[]⟩,[y]⟩=nestO n (openO y):=by simp [openO,openN,openL]
        rw [e]
        simp only [Bool.false_eq_true,if_false,if_true,if_pos (show (0:Int) < (([y]:List SDoc).length:Int) by simp),op_rd0]
        exact Ev.bind hev (Ev.bind (specNest_ev n _ k1.ne (by omega)) (Ev.now _))
      · refine J false _ (by omega) rfl (Ev.step (fun k=>by rw [spec_l2Open.j0]) ?_)
        have e:openO ⟨8,0,⟨#[]⟩,[y]⟩=openO y:=by simp [openO,openN,openL]
        rw [e]
        simp only [Bool.false_eq_true,if_false,if_neg (show ¬ (8:Int)=6 by omega),if_neg (show ¬ (8:Int)=7 by omega),if_true,if_pos (show (0:Int) < (([y]:List SDoc).length:Int) by simp),op_rd0]
        exact Ev.bind hev (Ev.now _)
    · simp only [msz,mszL,dsz,dszL] at hm hs
      obtain ⟨k1,k2⟩:=keeps x hx
      obtain ⟨j1,j2⟩:=keeps y hy
      have hnx:=nl_le x
      have hny:=nl_le y
      have hx':=ih x (by simp) (deep - 1) (by omega) hx (by omega) (by omega)
      have hy':=ih y (by simp) (deep - 1) (by omega) hy (by omega) (by omega)
      refine J false _ (by omega) rfl (Ev.step (fun k=>by rw [spec_l2Open.j0]) ?_)
      have e:openO ⟨7,0,⟨#[]⟩,[x,y]⟩=catO (openO x) (openO y):=by simp [openO,openN,openL]
      rw [e]
      simp only [Bool.false_eq_true,if_false,if_neg (show ¬ (7:Int)=6 by omega),if_true,if_pos (show (0:Int) < (([x,y]:List SDoc).length:Int) by simp),if_pos (show (1:Int) < (([x,y]:List SDoc).length:Int) by simp),op_rd0,op_rd1]
      refine Ev.bind hx' (Ev.bind hy' ?_)
      rw [specCat_of k1 j1 (by omega) (by omega)]
      exact Ev.now _
theorem implOpen_ev:∀ (d:SDoc) (deep:Nat),deep≤40→wf d deep=true→msz d≤100000→dsz d≤100000→Ev (fun k=>impl_openRows.f k d.f0 d.f1 d.f2 d.f3) (openO d):=by
  intro d
  induction d using SDoc.ind with
  | h o n t ks ih =>
    intro deep hdp hw hm hs
    obtain ⟨hd0,hn0,hn9,hc⟩:=wf_cases hw
    have keeps:=fun (y:SDoc) (hy:wf y (deep - 1)=true)=>open_keeps y (deep - 1) (by omega) hy
    have J:∀ (w:Bool) (R:List SRow),o ≠ 2→w=(decide (o=3) || (decide (o=4) || decide (o=5)))→Ev (fun k=>impl_openRows.j0 k o w o n t ks) R→Ev (fun k=>impl_openRows.f k o n t ks) R:=by
      intro w R h2 hw h
      refine Ev.step (fun k=>by rw [impl_openRows.f]) ?_
      simp only [if_neg h2]
      refine Ev.iff (fun c=>?_) (fun c=>Ev.iff (fun c'=>?_) (fun c'=>?_))
      · rw [show (o == 3)=w by rw [hw,decide_eq_true (show o=3 from c),show o=3 from c];rfl]
        exact h
      · rw [show (o == 4)=w by rw [hw,decide_eq_false (show ¬ o=3 from c),decide_eq_true (show o=4 from c'),show o=4 from c'];rfl]
        exact h
      · rw [show (o == 5)=w by rw [hw,decide_eq_false (show ¬ o=3 from c),decide_eq_false (show ¬ o=4 from c')];rfl]
        exact h
    rcases hc with ⟨ho,rfl,rfl,rfl⟩ | ⟨rfl,rfl,ht,rfl⟩ | ⟨ho,rfl,y,rfl,hy⟩ | ⟨rfl,rfl,rfl,x,y,rfl,hx,hy⟩
    · rcases ho with rfl | rfl | rfl | rfl
      · refine J false _ (by omega) rfl (Ev.step (fun k=>by rw [impl_openRows.j0]) ?_)
        simp only [Bool.false_eq_true,if_false,if_neg (show ¬ (1:Int)=6 by omega),if_neg (show ¬ (1:Int)=7 by omega),if_neg (show ¬ (1:Int)=8 by omega)]
        exact Ev.now _
      · refine J true _ (by omega) rfl (Ev.step (fun k=>by rw [impl_openRows.j0]) ?_)
        simp only [if_true]
        exact Ev.now _
      · refine J true _ (by omega) rfl (Ev.step (fun k=>by rw [impl_openRows.j0]) ?_)
        simp only [if_true]
        exact Ev.now _
      · refine J true _ (by omega) rfl (Ev.step (fun k=>by rw [impl_openRows.j0]) ?_)
        simp only [if_true]
        exact Ev.now _
    · refine Ev.step (fun k=>by rw [impl_openRows.f]) ?_
      simp only [if_true]
      exact Ev.now _
    · simp only [msz,mszL,dsz,dszL] at hm hs
      obtain ⟨k1,k2⟩:=keeps y hy
      have hnl:=nl_le y
      have hev:=ih y (by simp) (deep - 1) (by omega) hy (by omega) (by omega)
      rcases ho with rfl | ⟨rfl,rfl⟩
      · refine J false _ (by omega) rfl (Ev.step (fun k=>by rw [impl_openRows.j0]) ?_)
        have e:openO ⟨6,n,⟨#[]⟩,[y]⟩=nestO n (openO y):=by simp [openO,openN,openL]
        rw [e]
        simp only [Bool.false_eq_true,if_false,if_true,if_pos (show (0:Int) < (([y]:List SDoc).length:Int) by simp),op_rd0]
        exact Ev.bind hev (Ev.bind (implNest_ev n _ k1.ne (by omega)) (Ev.now _))
      · refine J false _ (by omega) rfl (Ev.step (fun k=>by rw [impl_openRows.j0]) ?_)
        have e:openO ⟨8,0,⟨#[]⟩,[y]⟩=openO y:=by simp [openO,openN,openL]
        rw [e]
        simp only [Bool.false_eq_true,if_false,if_neg (show ¬ (8:Int)=6 by omega),if_neg (show ¬ (8:Int)=7 by omega),if_true,if_pos (show (0:Int) < (([y]:List SDoc).length:Int) by simp),op_rd0]
        exact Ev.bind hev (Ev.now _)
    · simp only [msz,mszL,dsz,dszL] at hm hs
      obtain ⟨k1,k2⟩:=keeps x hx
      obtain ⟨j1,j2⟩:=keeps y hy
      have hnx:=nl_le x
      have hny:=nl_le y
      have hx':=ih x (by simp) (deep - 1) (by omega) hx (by omega) (by omega)
      have hy':=ih y (by simp) (deep - 1) (by omega) hy (by omega) (by omega)
      refine J false _ (by omega) rfl (Ev.step (fun k=>by rw [impl_openRows.j0]) ?_)
      have e:openO ⟨7,0,⟨#[]⟩,[x,y]⟩=catO (openO x) (openO y):=by simp [openO,openN,openL]
      rw [e]
      simp only [Bool.false_eq_true,if_false,if_neg (show ¬ (7:Int)=6 by omega),if_true,if_pos (show (0:Int) < (([x,y]:List SDoc).length:Int) by simp),if_pos (show (1:Int) < (([x,y]:List SDoc).length:Int) by simp),op_rd0,op_rd1]
      refine Ev.bind hx' (Ev.bind hy' ?_)
      rw [implCat_of k1 j1 (by omega) (by omega)]
      exact Ev.now _
end Go.Proofs.Ytdhdfmmefghijab.Pure
namespace Go.Proofs.Ytdhdfmmefghijab.P
open Go.RowKit Go.Proofs.YtdhdfmmefghijabW.PrintWords Go.Proofs.YtdhdfmmefghijabW.PrintLast Go.Proofs.YtdhdfmmefghijabW.PrintMore
attribute [local go_sem] max2_int min2_int max_two min_two max_three min_three max_four min_four
set_option linter.unusedVariables false
set_option linter.unusedSimpArgs false
def spec_DrawCatLayouts.f (k:Nat) (l0:List Int):Option ((List (SRow))×(List (SRow))):=(spec_l15Open.f l0).bind fun bt417=>((spec_l2Draw.f k bt417.1 bt417.2).bind fun bt420=>((spec_l2Draw.f k bt417.1 bt420.2).bind fun bt424=>(some (bt420.1,bt424.1))))
end Go.Proofs.Ytdhdfmmefghijab.P
namespace Go.Proofs.Ytdhdfmmefghijab.P
open Go.RowKit Go.Proofs.YtdhdfmmefghijabW.PrintWords Go.Proofs.YtdhdfmmefghijabW.PrintLast Go.Proofs.YtdhdfmmefghijabW.PrintMore
attribute [local go_sem] max2_int min2_int max_two min_two max_three min_three max_four min_four
set_option linter.unusedVariables false
set_option linter.unusedSimpArgs false
def spec_DrawNestLayout.f (k:Nat) (l0:List Int):Option (Int×(List (SRow))):=(spec_l15Open.f l0).bind fun bt581=>((spec_l15Rd_num.f k bt581.1 bt581.2 (([2,1,4,0,(-1),200]:List Int))).bind fun bt587=>((spec_l2Draw.f k bt581.1 bt587.2).bind fun bt589=>(some (bt587.1,bt589.1))))
end Go.Proofs.Ytdhdfmmefghijab.P
namespace Go.Proofs.Ytdhdfmmefghijab.Pure
open Go.RowKit Go.Proofs.Ytdhdfmmefghijab.P Go.Proofs.YtdhdfmmefghijabW.PrintWords Go.Proofs.YtdhdfmmefghijabW.PrintLast Go.Proofs.YtdhdfmmefghijabW.PrintMore
set_option linter.unusedVariables false
set_option linter.unusedSimpArgs false
def Rows (l:List SRow):Prop:=l.length≤1048576∧∀ y ∈ l,y.f1.size≤1048576
end Go.Proofs.Ytdhdfmmefghijab.Pure
namespace Go.Proofs.Ytdhdfmmefghijab.Pure
open Go.RowKit Go.Proofs.Ytdhdfmmefghijab.P Go.Proofs.YtdhdfmmefghijabW.PrintWords Go.Proofs.YtdhdfmmefghijabW.PrintLast Go.Proofs.YtdhdfmmefghijabW.PrintMore
set_option linter.unusedVariables false
set_option linter.unusedSimpArgs false
theorem rsame_eq:∀ {a b:List SRow},a.length=b.length→(rsame a b=true ↔ a=b)
  | [],[],_=>by simp [rsame]
  | [],_ :: _,h=>by simp at h
  | _ :: _,[],h=>by simp at h
  | r :: a,s :: b,h=>by
    have ih:=rsame_eq (a:=a) (b:=b) (by simpa using h)
    rw [rsame,Bool.and_eq_true,ih,rowEq,Bool.and_eq_true]
    constructor
    · rintro ⟨⟨h1,h2⟩,rfl⟩
      have e1:r.f0=s.f0:=by simpa using h1
      have e2:r.f1=s.f1:=toList_inj.1 (by simpa using h2)
      cases r;cases s
      simp only at e1 e2
      subst e1 e2
      rfl
    · intro h
      injection h with h1 h2
      subst h1 h2
      exact ⟨⟨by simp,by simp⟩,rfl⟩
theorem laySame_iff {a b:List SRow}:laySame a b=true ↔ a=b:=by
  rw [laySame,Bool.and_eq_true,decide_eq_true_eq]
  constructor
  · rintro ⟨h1,h2⟩;exact (rsame_eq h1).1 h2
  · rintro rfl;exact ⟨rfl,(rsame_eq rfl).2 rfl⟩
theorem laySame_refl (a:List SRow):laySame a a=true:=laySame_iff.2 rfl
theorem same_ev {a:List SRow} (h:Rows a):Ev (fun k=>impl_LayoutSame.f k a a) true:=by
  have:=implLay_ev a a (by have:=h.1;omega)
  rwa [laySame_refl] at this
theorem rows_nil:Rows []:=⟨by simp,fun y hy=>by cases hy⟩
theorem layV_rows {l:List SRow} (h:layV l=true):Rows l:=by
  obtain ⟨h1,h2,h3⟩:=layV_ok h
  refine ⟨by omega,fun y hy=>?_⟩
  have h4:=h3 y hy
  simp only [rowOk,rowT,Bool.and_eq_true,decide_eq_true_eq] at h4
  omega
theorem catL_of {a b:List SRow} (ha:layV a=true) (hb:layV b=true) (hc:layV (catO a b)=true):catL a b=(catO a b,true):=by
  unfold catL
  rw [if_pos (by rw [ha,hb];rfl),if_pos hc]
theorem catI_ev {a b:List SRow} (ha:Rows a) (hb:Rows b):Ev (fun k=>impl_CatLayouts.f k a b) (catL a b):=implCatL_ev a b ha.1 hb.1 ha.2 hb.2
theorem big_or {l:List Int} {f:Nat→Option Bool} (h:Ev f true):Ev (fun k=>if (l.length:Int) > 1048576 then (some true) else f k) true:=Ev.iff (fun _=>Ev.now _) (fun _=>h)
end Go.Proofs.Ytdhdfmmefghijab.Pure
namespace Go.Proofs.Ytdhdfmmefghijab.Pure
open Go.RowKit Go.Proofs.Ytdhdfmmefghijab.P Go.Proofs.YtdhdfmmefghijabW.PrintWords Go.Proofs.YtdhdfmmefghijabW.PrintLast Go.Proofs.YtdhdfmmefghijabW.PrintMore
set_option linter.unusedVariables false
set_option linter.unusedSimpArgs false
theorem mszL_set:∀ (ks:List SDoc) (i:Nat) (y:SDoc) (h:i < ks.length),mszL (ks.set i y)+msz ks[i]=mszL ks+msz y
  | k :: ks,0,y,_=>by simp [mszL];omega
  | k :: ks,i+1,y,h=>by
    have:=mszL_set ks i y (by simpa using h)
    simp [mszL]
    omega
theorem mutate_ev {b:List Int} (hb:Code b):∀ (d:SDoc) (p:Int),0≤p→p+4 * dsz d≤800000000→msz d≤1000000→∃ (d':SDoc) (q:Int),Ev (fun k=>spec_l1Mutate.f k b p d.f0 d.f1 d.f2 d.f3) (d'.f0,d'.f1,d'.f2,d'.f3,q)∧msz d'≤msz d+13∧p≤q∧q≤p+4 * dsz d:=by
  intro d
  induction d using SDoc.ind with
  | h o n t ks ih =>
    intro p hp0 hp hm
    have hcp:=specCopy_ev ⟨o,n,t,ks⟩ (by omega)
    simp only [dsz] at hp ⊢
    have hml:=mszL_len ks
    simp only [msz] at hm
    have J0:∀ p':Int,0≤p'→p≤p'→p'≤p+1→∃ (d':SDoc) (q:Int),Ev (fun k=>spec_l1Mutate.j0 k false b p' o n t ks) (d'.f0,d'.f1,d'.f2,d'.f3,q)∧msz d'≤msz ⟨o,n,t,ks⟩+13∧p≤q∧q≤p+3:=by
      intro p' h0 h1 h2
      obtain ⟨r,g1,_,_⟩:=pick_ev hb p' 14 h0 (by omega)
      have S:∀ R,Ev (fun k=>(spec_l15Rd_pick.f k b p' 14).bind fun bt729=>(if bt729.1=0 then ((spec_l15Rd_num.f k b bt729.2 (([0,9,1,3,7]:List Int))).bind fun bt734=>(some (bt734.1,n,t,ks,bt734.2))) else (if bt729.1=1 then ((spec_l15Rd_num.f k b bt729.2 (([10,(-1),1]:List Int))).bind fun bt739=>(some (o,bt739.1,t,ks,bt739.2))) else (if bt729.1=2 then ((spec_l15Rd_of.f k b bt729.2 (([(⟨#[]⟩:ByteArray),(⟨#[65]⟩:ByteArray),(⟨#[97,98,99,100,101,102,103,104,105,106,107,108,109]⟩:ByteArray),(⟨#[120,32,121]⟩:ByteArray),(⟨#[122]⟩:ByteArray)]:List ByteArray))).bind fun bt744=>(some (o,n,bt744.1,ks,bt744.2))) else (if bt729.1=3 then (if ks.length < 2513169434916 then (some (o,n,t,(ks ++ [(⟨1,0,(⟨#[]⟩:ByteArray),([]:List (SDoc))⟩:SDoc)]),bt729.2)) else (none)) else (some (o,n,t,ks,bt729.2))))))) R→Ev (fun k=>spec_l1Mutate.j0 k false b p' o n t ks) R:=by
        intro R h
        refine Ev.step (fun k=>by rw [spec_l1Mutate.j0]) ?_
        simp only [Bool.false_eq_true,if_false]
        exact h
      by_cases c0:r=0
      · obtain ⟨s,_,g2⟩:=num_ev hb (p'+1) [0,9,1,3,7] (by simp) (by omega) (by omega)
        refine ⟨⟨s,n,t,ks⟩,p'+1+1,S _ (Ev.bind g1 ?_),by simp only [msz];omega,by omega,by omega⟩
        simp only [if_pos c0]
        exact Ev.bind g2 (Ev.now _)
      by_cases c1:r=1
      · obtain ⟨s,_,g2⟩:=num_ev hb (p'+1) [10,(-1),1] (by simp) (by omega) (by omega)
        refine ⟨⟨o,s,t,ks⟩,p'+1+1,S _ (Ev.bind g1 ?_),by simp only [msz];omega,by omega,by omega⟩
        simp only [if_neg c0,if_pos c1]
        exact Ev.bind g2 (Ev.now _)
      by_cases c2:r=2
      · obtain ⟨s,hs,g2⟩:=of_ev hb (p'+1) [(⟨#[]⟩:ByteArray),(⟨#[65]⟩:ByteArray),(⟨#[97,98,99,100,101,102,103,104,105,106,107,108,109]⟩:ByteArray),(⟨#[120,32,121]⟩:ByteArray),(⟨#[122]⟩:ByteArray)] (by simp) (by omega) (by omega)
        have hz:s.size≤13:=by
          have:∀ s ∈ [(⟨#[]⟩:ByteArray),(⟨#[65]⟩:ByteArray),(⟨#[97,98,99,100,101,102,103,104,105,106,107,108,109]⟩:ByteArray),(⟨#[120,32,121]⟩:ByteArray),(⟨#[122]⟩:ByteArray)],s.size≤13:=by decide +kernel
          exact this s hs
        refine ⟨⟨o,n,s,ks⟩,p'+1+1,S _ (Ev.bind g1 ?_),by simp only [msz];omega,by omega,by omega⟩
        simp only [if_neg c0,if_neg c1,if_pos c2]
        exact Ev.bind g2 (Ev.now _)
      by_cases c3:r=3
      · refine ⟨⟨o,n,t,ks ++ [⟨1,0,⟨#[]⟩,[]⟩]⟩,p'+1,S _ (Ev.bind g1 ?_),?_,by omega,by omega⟩
        · simp only [if_neg c0,if_neg c1,if_neg c2,if_pos c3,if_pos (show ks.length < 2513169434916 by omega)]
          exact Ev.now _
        · simp only [msz,mszL_app,mszL]
          show 1+t.size+(mszL ks+(1+0+0+0))≤_
          omega
      · refine ⟨⟨o,n,t,ks⟩,p'+1,S _ (Ev.bind g1 ?_),by simp only [msz];omega,by omega,by omega⟩
        simp only [if_neg c0,if_neg c1,if_neg c2,if_neg c3]
        exact Ev.now _
    by_cases c:(ks.length:Int) > 0
    · obtain ⟨r,g1,hr0,hr⟩:=pick_ev hb p 2 hp0 (by omega)
      by_cases cr:r > 0
      · obtain ⟨j,g2,hj0,hj⟩:=pick_ev hb (p+1) (ks.length:Int) (by omega) (by omega)
        have hj:=hj (by omega)
        have hjl:j.toNat < ks.length:=by omega
        have hmem:ks[j.toNat] ∈ ks:=List.getElem_mem hjl
        have hd:=dszL_mem hmem
        have hz:=mszL_mem hmem
        have hrd:rd_TDoc ks j=ks[j.toNat]:=by
          unfold rd_TDoc
          rw [List.getD_eq_getElem?_getD,List.getElem?_eq_getElem hjl]
          rfl
        obtain ⟨y,q,h,h1,h2,h3⟩:=ih _ hmem (p+1+1) (by omega) (by omega) (by omega)
        refine ⟨⟨o,n,t,ks.set j.toNat y⟩,q,Ev.step (fun k=>by rw [spec_l1Mutate.f]) (Ev.bind hcp ?_),?_,by omega,by omega⟩
        · simp only [if_pos c]
          refine Ev.bind g1 ?_
          rw [decide_eq_true cr]
          refine Ev.step (fun k=>by rw [spec_l1Mutate.j0]) ?_
          simp only [if_true]
          refine Ev.bind g2 ?_
          simp only [if_pos hj0,if_pos hj,hrd]
          refine Ev.bind h ?_
          simp only [SDoc_eta]
          exact Ev.now _
        · have:=mszL_set ks j.toNat y hjl
          simp only [msz]
          omega
      · obtain ⟨d',q,h,h1,h2,h3⟩:=J0 (p+1) (by omega) (by omega) (by omega)
        refine ⟨d',q,Ev.step (fun k=>by rw [spec_l1Mutate.f]) (Ev.bind hcp ?_),h1,h2,by omega⟩
        simp only [if_pos c]
        refine Ev.bind g1 ?_
        rw [decide_eq_false cr]
        exact h
    · obtain ⟨d',q,h,h1,h2,h3⟩:=J0 p hp0 (by omega) (by omega)
      refine ⟨d',q,Ev.step (fun k=>by rw [spec_l1Mutate.f]) (Ev.bind hcp ?_),h1,h2,by omega⟩
      simp only [if_neg c]
      exact h
theorem mutate2_ev {b:List Int} (hb:Code b) (d:SDoc) (p:Int) (hp0:0≤p) (hp:p≤700000000) (hm:msz d≤100000):∃ (d1 d2:SDoc) (q q2:Int),Ev (fun k=>spec_l1Mutate.f k b p d.f0 d.f1 d.f2 d.f3) (d1.f0,d1.f1,d1.f2,d1.f3,q)∧Ev (fun k=>spec_l1Mutate.f k b q d1.f0 d1.f1 d1.f2 d1.f3) (d2.f0,d2.f1,d2.f2,d2.f3,q2)∧msz d1≤msz d+13∧msz d2≤msz d+26∧p≤q∧q≤q2∧q2≤p+900000:=by
  have e:=dsz_msz d
  obtain ⟨d1,q,h,h1,h2,h3⟩:=mutate_ev hb d p hp0 (by omega) (by omega)
  have e1:=dsz_msz d1
  obtain ⟨d2,q2,k,k1,k2,k3⟩:=mutate_ev hb d1 q (by omega) (by omega) (by omega)
  exact ⟨d1,d2,q,q2,h,k,h1,by omega,h2,k2,by omega⟩
end Go.Proofs.Ytdhdfmmefghijab.Pure
namespace Go.Proofs.Ytdhdfmmefghijab.Pure
open Go.RowKit Go.Proofs.Ytdhdfmmefghijab.P Go.Proofs.YtdhdfmmefghijabW.PrintWords Go.Proofs.YtdhdfmmefghijabW.PrintLast Go.Proofs.YtdhdfmmefghijabW.PrintMore
set_option linter.unusedVariables false
set_option linter.unusedSimpArgs false
theorem drawFlat_ev (l:List Int) (hl:l.length≤maxLen) (h:∀ x ∈ l,(Lit.int .u8 x).wf=true):∃ d:SDoc,Ev (fun k=>spec_DrawFlatText.f k l) (d.f0,d.f1,d.f2,d.f3)∧msz d≤1066:=by
  obtain ⟨b,hb,e⟩:=open_ev l hl h
  obtain ⟨d,q,h1,h2,h3,h4⟩:=draw_ev hb 0 (by omega) (by omega)
  have hm:=h2.2
  obtain ⟨i,g,_,_⟩:=pick_ev hb q 12 (by omega) (by omega)
  by_cases c0:i=0
  · obtain ⟨d1,d2,q1,q2,i1,i2,i3,i4,i5,i6,i7⟩:=mutate2_ev hb d (q+1) (by omega) (by omega) (by omega)
    refine ⟨d2,Ev.congr (fun k=>by rw [spec_DrawFlatText.f,e]) ?_,by omega⟩
    simp only [Option.bind_some]
    refine Ev.bind h1 (Ev.bind g ?_)
    simp only [if_pos c0]
    exact Ev.bind i1 (Ev.bind i2 (Ev.now _))
  · refine ⟨d,Ev.congr (fun k=>by rw [spec_DrawFlatText.f,e]) ?_,by omega⟩
    simp only [Option.bind_some]
    refine Ev.bind h1 (Ev.bind g ?_)
    simp only [if_neg c0]
    exact Ev.now _
theorem drawOpen_ev (l:List Int) (hl:l.length≤maxLen) (h:∀ x ∈ l,(Lit.int .u8 x).wf=true):∃ d:SDoc,Ev (fun k=>spec_DrawOpenLayout.f k l) (d.f0,d.f1,d.f2,d.f3)∧msz d≤1066:=by
  obtain ⟨d,h1,h2⟩:=drawFlat_ev l hl h
  exact ⟨d,Ev.congr (fun k=>by rw [spec_DrawOpenLayout.f]) (Ev.bind h1 (Ev.now _)),h2⟩
end Go.Proofs.Ytdhdfmmefghijab.Pure
namespace Go.Proofs.Ytdhdfmmefghijab.Pure
open Go.RowKit Go.Proofs.Ytdhdfmmefghijab.P Go.Proofs.YtdhdfmmefghijabW.PrintWords Go.Proofs.YtdhdfmmefghijabW.PrintLast Go.Proofs.YtdhdfmmefghijabW.PrintMore
set_option linter.unusedVariables false
set_option linter.unusedSimpArgs false
def opL (d:SDoc):List SRow × Bool:=if docV d=true then (openO d,true) else ([],false)
theorem opI_ev (d:SDoc) (h:msz d≤2000):Ev (fun k=>impl_OpenLayout.f k d.f0 d.f1 d.f2 d.f3) (opL d):=by
  have hz:=dsz_msz d
  refine Ev.congr (fun k=>by rw [impl_OpenLayout.f]) (Ev.bind (implValid_ev d (by omega)) ?_)
  unfold opL
  refine Ev.iff (fun c=>?_) (fun c=>?_)
  · rw [if_pos c]
    exact Ev.bind (implOpen_ev d 40 (Nat.le_refl _) (docV_wf c) (by omega) (by omega)) (Ev.now _)
  · rw [if_neg c];exact Ev.now _
theorem opS_ev (d:SDoc) (h:msz d≤2000):Ev (fun k=>spec_OpenLayout.f k d.f0 d.f1 d.f2 d.f3) (opL d):=by
  have hz:=dsz_msz d
  refine Ev.congr (fun k=>by rw [spec_OpenLayout.f]) (Ev.bind (specValid_ev d (by omega)) ?_)
  unfold opL
  refine Ev.iff (fun c=>?_) (fun c=>?_)
  · rw [if_pos c]
    exact Ev.bind (specOpen_ev d 40 (Nat.le_refl _) (docV_wf c) (by omega) (by omega)) (Ev.now _)
  · rw [if_neg c];exact Ev.now _
theorem kid_docV {o n:Int} {t:ByteArray} {ks:List SDoc} {y:SDoc} (h:docV ⟨o,n,t,ks⟩=true) (hy:y ∈ ks):docV y=true:=by
  obtain ⟨h1,h2⟩:=(docV_iff _).1 h
  have:=dszL_mem hy
  rw [dsz_mk] at h2
  exact (docV_iff y).2 ⟨wf_mono y (40 - 1) 40 (by omega) (wf_kids h1 y hy),by omega⟩
theorem opw (a b c:Nat) (ha:a≤100) (hb:b≤100) (hc:c≤100):((a+b+c+1:Nat):Int)=wrap64 (wrap64 (wrap64 ((a:Int)+(b:Int))+(c:Int))+1):=by
  have e1:wrap64 ((a:Int)+(b:Int))=(a:Int)+(b:Int):=w64 (by omega) (by omega)
  have e2:wrap64 ((a:Int)+(b:Int)+(c:Int))=(a:Int)+(b:Int)+(c:Int):=w64 (by omega) (by omega)
  rw [e1,e2,w64 (by omega) (by omega)]
  omega
theorem FnOpenLayout:laws_FnOpenLayout.Pure:=by
  intro l hl _ hw
  refine Ev.rounds (g:=fun k=>laws_FnOpenLayout.f k l) (Ev.congr (fun k=>by rw [laws_FnOpenLayout.f]) (big_or ?_))
  obtain ⟨d,hd,hm⟩:=drawOpen_ev l hl hw
  have hR:Rows (opL d).1:=by
    unfold opL
    by_cases c:docV d=true
    · rw [if_pos c];exact layV_rows (open_valid c).1
    · rw [if_neg c];exact rows_nil
  refine Ev.bind hd (Ev.bind (opI_ev d (by omega)) (Ev.bind (opS_ev d (by omega)) (Ev.bind (same_ev hR) ?_)))
  simp only [if_true,bne_self_eq_false,Bool.false_eq_true,if_false]
  refine Ev.step (fun k=>by rw [laws_FnOpenLayout.j0]) ?_
  by_cases hv:docV d=true
  · have e:opL d=(openO d,true):=by unfold opL;rw [if_pos hv]
    rw [e] at hR ⊢
    obtain ⟨v1,v2,v3⟩:=open_valid hv
    obtain ⟨hwf,hdz⟩:=(docV_iff d).1 hv
    have hn:=(open_keeps d 40 (Nat.le_refl _) hwf).2
    have b3:=cnt_le 3 d
    have b4:=cnt_le 4 d
    have b5:=cnt_le 5 d
    have hlen:((openO d).length:Int)=wrap64 (wrap64 (wrap64 ((cnt 3 d:Int)+(cnt 4 d:Int))+(cnt 5 d:Int))+1):=by
      rw [hn,nl]
      exact opw _ _ _ (by omega) (by omega) (by omega)
    simp only [Bool.not_true,Bool.false_eq_true,if_false]
    refine Ev.bind (implCnt_ev 3 d (by omega)) (Ev.bind (implCnt_ev 4 d (by omega)) (Ev.bind (implCnt_ev 5 d (by omega)) ?_))
    simp only [if_pos hlen]
    refine Ev.bind (implLV_ev (openO d) (by have:=hR.1;omega) (fun y hy=>by have:=hR.2 y hy;omega)) ?_
    rw [v1]
    simp only [Bool.not_true]
    refine Ev.step (fun k=>by rw [laws_FnOpenLayout.j1]) ?_
    simp only [Bool.false_eq_true,if_false]
    obtain ⟨o,n,t,ks⟩:=d
    refine Ev.iff (fun c7=>?_) (fun _=>Ev.now _)
    have c7:o=7:=c7
    subst c7
    obtain ⟨_,_,hk,_⟩:=wf_node hwf
    obtain ⟨x,y,rfl⟩:=op_kids2 (hk.trans rfl)
    have hvx:=kid_docV hv (y:=x) (by simp)
    have hvy:=kid_docV hv (y:=y) (by simp)
    simp only [msz,mszL] at hm
    have ex:opL x=(openO x,true):=by unfold opL;rw [if_pos hvx]
    have ey:opL y=(openO y,true):=by unfold opL;rw [if_pos hvy]
    have gx:=opI_ev x (by omega)
    have gy:=opI_ev y (by omega)
    rw [ex] at gx
    rw [ey] at gy
    have eo:openO ⟨7,n,t,[x,y]⟩=catO (openO x) (openO y):=by simp [openO,openL,openN]
    have l2:([x,y]:List SDoc).length=2:=rfl
    simp only [l2,if_pos (show (0:Int) < ((2:Nat):Int) by omega),if_pos (show (1:Int) < ((2:Nat):Int) by omega),op_rd0,op_rd1]
    refine Ev.bind gx (Ev.bind gy (Ev.bind (catI_ev (layV_rows (open_valid hvx).1) (layV_rows (open_valid hvy).1)) ?_))
    rw [eo] at v1 hR ⊢
    rw [catL_of (open_valid hvx).1 (open_valid hvy).1 v1]
    simp only [if_true]
    exact Ev.bind (same_ev hR) (Ev.now _)
  · have e:opL d=([],false):=by unfold opL;rw [if_neg hv]
    rw [e]
    simp only [Bool.not_false,if_true]
    refine Ev.bind (same_ev rows_nil) ?_
    simp only [if_true,beq_self_eq_true]
    exact Ev.now _
end Go.Proofs.Ytdhdfmmefghijab.Pure
namespace Go.Proofs.Ytdhdfmmefghijab
theorem closed3:laidOutB Try.prog=true∧mapsRowed Try.prog=true∧Try.prog.plainKeys=true:=Go.ClosedOfChecked.closed_of_checked Try.checked (by kernel_rfl) (by kernel_rfl) (by kernel_rfl)
def edgesL:List (List Nat):=[[],[],[1],[15,16,17,18,16,16,19,18,18],[15,15,16,17,18,18,16,16,16,18],[15,16,17,18,18,19,18,18],[20,21,22,18,18,21,21,18],[20,21,22,18,18,21,18,18],[15,16,17,18,18,21,21,21,16,18],[23,24,25,24,18,18,21,18],[23,24,25,18,18,26,26,26,19,24,24,16,18],[27,18,28,18,18,19,29,30,30,19,19],[31,32,33,19,33,30,32],[31,32,34,30,33,35,36,19,33,35,36],[37,38,39,26],[40,41,41],[19,19,42,19],[29,29,43,29],[44],[45],[40,46,41],[19,47,19],[29,48,29],[49],[50,51],[52,53],[26],[40,41,54,54,41],[],[55],[19,56,57],[40,41,46],[19,58],[29,59],[19,58],[29,60,60],[29,61],[62],[50,63],[52,64],[],[65,53,54,54,46,66],[67],[],[],[68],[54],[67],[],[40,65,54,69,69],[70],[51,47,51,51,42,51],[71,72],[53,48,53,53,43,53],[],[73],[74],[75,76,76,76,77],[],[60],[78],[60],[40,54,65,69,69,65,79],[63,26],[64,64,64,64,80],[54,54,81,46,82,52,72,82],[54],[],[83],[84,54,54,69,54,46,46,66],[68,70],[85,73,71],[72],[],[86,87,87,87,87,87,75,76,88,88,88,77,76,77],[89,90],[89],[],[],[65,64,81],[80],[91,52],[54,92,54,82,46,82,82,54,82,82,93,93,82,82,93,93,82,82,93],[94],[84],[],[95,96],[97],[],[98],[99],[100,101,101,101],[66],[],[102],[],[],[],[],[],[],[91],[],[],[],[],[],[],[],[],[],[],[],[],[],[],[],[],[],[],[]]
theorem edges:Try.prog.funcs.toList.map Try.prog.leadsTo=edgesL:=by kernel_rfl
def clo (E:List (List Nat)):Nat→List Nat→List Nat→List Nat
 | 0,_,seen=>seen.reverse
 | _,[],seen=>seen.reverse
 | n+1,f :: todo,seen=>if seen.contains f then clo E n todo seen else clo E n ((E[f]?).getD []++todo) (f :: seen)
set_option maxRecDepth 100000 in
theorem elim_edges (f:Nat):(Try.prog.funcs[f]?).elim [] Try.prog.leadsTo=(edgesL[f]?).getD []:=by
 rw [← edges,List.getElem?_map,Array.getElem?_toList]
 cases Try.prog.funcs[f]? <;> rfl
theorem closureVia_clo:∀ (n:Nat) (todo seen:List Nat),Try.prog.closureVia n todo seen=clo edgesL n todo seen
 | 0,_,_=>by simp [Program.closureVia,clo]
 | n+1,[],_=>by simp [Program.closureVia,clo]
 | n+1,f :: todo,seen=>by
  rw [Program.closureVia,clo,elim_edges,closureVia_clo n,closureVia_clo n]
def fuelE:Nat:=1+(edgesL.map fun l=>l.length+1).sum
set_option maxRecDepth 100000 in
theorem fuel_eq:1+(Try.prog.funcs.toList.map fun g=>(Try.prog.leadsTo g).length+1).sum=fuelE:=by
 rw [fuelE,← edges,List.map_map]
 rfl
theorem closure_clo (f:Nat):Try.prog.closure f=clo edgesL fuelE [f] []:=by
 rw [Program.closure,fuel_eq,closureVia_clo]
noncomputable def unfB (fn:Func):Bool:=match fn.body with|some c=>c.unfollowed|none=>entryCalls fn
noncomputable def unfL:List Bool:=Try.prog.funcs.toList.map unfB
set_option maxRecDepth 100000 in
theorem any_unf (f:Nat):((Try.prog.funcs[f]?).any fun fn=>match fn.body with|some c=>c.unfollowed|none=>entryCalls fn)=(unfL[f]?).getD false:=by
 rw [unfL,List.getElem?_map,Array.getElem?_toList]
 cases Try.prog.funcs[f]? <;> rfl
set_option maxRecDepth 100000 in
theorem unfollowed_of {f:Nat} {L:List Nat} (h:clo edgesL fuelE [f] []=L):Try.prog.unfollowed f=L.any fun g=>(unfL[g]?).getD false:=by
 rw [Program.unfollowed,closure_clo,h]
 congr 1
 funext g
 exact any_unf g
set_option maxRecDepth 100000 in
theorem recurses_of {f:Nat} {L:List Nat} (h:clo edgesL fuelE [f] []=L):Try.prog.recurses f=((L.any fun g=>(unfL[g]?).getD false) || L.any fun g=>((edgesL[g]?).getD []).any fun h=>(clo edgesL fuelE [h] []).contains g):=by
 rw [Program.recurses,unfollowed_of h,closure_clo,h]
 congr 1
 congr 1
 funext g
 rw [elim_edges]
 congr 1
 funext h
 rw [closure_clo]
def signs:List Char:=([104,97,114,110,101,115,115,32,55,54,56,99,97,49,97,102,102,49,51,102,102,53,98,56,101,49,51,49,48,100,52,48,54,57,51,99,52,57,49,51,56,51,50,50,102,48,48,49,55,54,100,98,100,48,101,52,101,50,48,97,52,51,54,97,98,55,99,102,56,57,98,55,32,99,117,116,32,97,116,32,108,111,111,112,46,101,120,97,109,112,108,101,47,100,111,99,97,108,103,101,98,114,97,47,108,97,119,115,46,70,110,67,97,116,69,109,112,116,121,32,108,111,111,112,46,101,120,97,109,112,108,101,47,100,111,99,97,108,103,101,98,114,97,47,108,97,119,115,46,70,110,67,97,116,71,114,111,117,112,115,32,108,111,111,112,46,101,120,97,109,112,108,101,47,100,111,99,97,108,103,101,98,114,97,47,108,97,119,115,46,70,110,67,97,116,76,97,121,111,117,116,115,32,108,111,111,112,46,101,120,97,109,112,108,101,47,100,111,99,97,108,103,101,98,114,97,47,108,97,119,115,46,70,110,78,101,115,116,76,97,121,111,117,116,32,108,111,111,112,46,101,120,97,109,112,108,101,47,100,111,99,97,108,103,101,98,114,97,47,108,97,119,115,46,70,110,78,101,115,116,90,101,114,111,32,108,111,111,112,46,101,120,97,109,112,108,101,47,100,111,99,97,108,103,101,98,114,97,47,108,97,119,115,46,70,110,78,101,115,116,67,97,116,32,108,111,111,112,46,101,120,97,109,112,108,101,47,100,111,99,97,108,103,101,98,114,97,47,108,97,119,115,46,70,110,79,112,101,110,78,101,115,116,32,108,111,111,112,46,101,120,97,109,112,108,101,47,100,111,99,97,108,103,101,98,114,97,47,108,97,119,115,46,70,110,79,112,101,110,76,97,121,111,117,116,32,108,111,111,112,46,101,120,97,109,112,108,101,47,100,111,99,97,108,103,101,98,114,97,47,108,97,119,115,46,70,110,76,97,121,111,117,116,83,97,109,101,32,108,111,111,112,46,101,120,97,109,112,108,101,47,100,111,99,97,108,103,101,98,114,97,47,108,97,119,115,46,70,110,79,118,101,114,102,108,111,119,83,117,109,32,108,111,111,112,46,101,120,97,109,112,108,101,47,100,111,99,97,108,103,101,98,114,97,47,108,97,119,115,46,70,110,76,97,121,111,117,116,87,105,100,116,104,32,108,111,111,112,46,101,120,97,109,112,108,101,47,100,111,99,97,108,103,101,98,114,97,47,108,97,119,115,46,70,110,67,111,117,110,116,71,114,111,117,112,115]:List Nat).map Char.ofNat
def wordsL:List (List Char):=([[104,97,114,110,101,115,115],[55,54,56,99,97,49,97,102,102,49,51,102,102,53,98,56,101,49,51,49,48,100,52,48,54,57,51,99,52,57,49,51,56,51,50,50,102,48,48,49,55,54,100,98,100,48,101,52,101,50,48,97,52,51,54,97,98,55,99,102,56,57,98,55],[99,117,116],[97,116],[108,111,111,112,46,101,120,97,109,112,108,101,47,100,111,99,97,108,103,101,98,114,97,47,108,97,119,115,46,70,110,67,97,116,69,109,112,116,121],[108,111,111,112,46,101,120,97,109,112,108,101,47,100,111,99,97,108,103,101,98,114,97,47,108,97,119,115,46,70,110,67,97,116,71,114,111,117,112,115],[108,111,111,112,46,101,120,97,109,112,108,101,47,100,111,99,97,108,103,101,98,114,97,47,108,97,119,115,46,70,110,67,97,116,76,97,121,111,117,116,115],[108,111,111,112,46,101,120,97,109,112,108,101,47,100,111,99,97,108,103,101,98,114,97,47,108,97,119,115,46,70,110,78,101,115,116,76,97,121,111,117,116],[108,111,111,112,46,101,120,97,109,112,108,101,47,100,111,99,97,108,103,101,98,114,97,47,108,97,119,115,46,70,110,78,101,115,116,90,101,114,111],[108,111,111,112,46,101,120,97,109,112,108,101,47,100,111,99,97,108,103,101,98,114,97,47,108,97,119,115,46,70,110,78,101,115,116,67,97,116],[108,111,111,112,46,101,120,97,109,112,108,101,47,100,111,99,97,108,103,101,98,114,97,47,108,97,119,115,46,70,110,79,112,101,110,78,101,115,116],[108,111,111,112,46,101,120,97,109,112,108,101,47,100,111,99,97,108,103,101,98,114,97,47,108,97,119,115,46,70,110,79,112,101,110,76,97,121,111,117,116],[108,111,111,112,46,101,120,97,109,112,108,101,47,100,111,99,97,108,103,101,98,114,97,47,108,97,119,115,46,70,110,76,97,121,111,117,116,83,97,109,101],[108,111,111,112,46,101,120,97,109,112,108,101,47,100,111,99,97,108,103,101,98,114,97,47,108,97,119,115,46,70,110,79,118,101,114,102,108,111,119,83,117,109],[108,111,111,112,46,101,120,97,109,112,108,101,47,100,111,99,97,108,103,101,98,114,97,47,108,97,119,115,46,70,110,76,97,121,111,117,116,87,105,100,116,104],[108,111,111,112,46,101,120,97,109,112,108,101,47,100,111,99,97,108,103,101,98,114,97,47,108,97,119,115,46,70,110,67,111,117,110,116,71,114,111,117,112,115]]:List (List Nat)).map (List.map Char.ofNat)
theorem headI:Try.prog.initOrder=String.ofList signs:=by kernel_rfl
theorem headS:wordsSigns Try.prog.initOrder.toList=wordsL:=by
 rw [headI,String.toList_ofList]
 kernel_rfl
theorem headLifts_of {P : Program} {ws} (h : wordsSigns P.initOrder.toList = ws) : P.headLifts = if ((stripLifts liftWords (behindMainWord ws)).2.head? == some "cut".toList) = true then (stripLifts liftWords (behindMainWord ws)).1 else [] := by
 subst h;rfl
theorem headL:Try.prog.headLifts=[]:=(headLifts_of headS).trans (by kernel_rfl)
theorem liftsFinal_of {P : Program} {ws l} (h : wordsSigns P.initOrder.toList = ws) (hl : P.headLifts = l) : P.liftsFinal = (((behindMainWord ws).head? == some "carried".toList && (behindMainWord ws).take 3 != ["carried".toList, "gc".toList, "cut".toList]) || l.contains "finals") := by
 subst h;subst hl;rfl
theorem liftsF:Try.prog.liftsFinal=false:=(liftsFinal_of headS headL).trans (by kernel_rfl)
theorem mayEnter_of {P:Program} (h:wordsSigns P.initOrder.toList=wordsL) (h1:P.laysLater=false) (h2:P.bearsReflect=false):P.mayEnter=P.doorFits []:=by
 delta Program.mayEnter
 rw [h,h1,h2]
 kernel_rfl
theorem mayE:Try.prog.mayEnter=true:=(mayEnter_of headS (by kernel_rfl) (by kernel_rfl)).trans (by kernel_rfl)
theorem make_of {P:Program} (h:wordsSigns P.initOrder.toList=wordsL):P.make=some .cut:=by
 delta Program.make
 rw [h]
 kernel_rfl
theorem makeC:Try.prog.make=some .cut:=make_of headS
end Go.Proofs.Ytdhdfmmefghijab
