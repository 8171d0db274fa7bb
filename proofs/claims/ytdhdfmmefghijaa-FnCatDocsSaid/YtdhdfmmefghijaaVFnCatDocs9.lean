/- CONTRACTS and lemmas: each contract says that a Go function of the program, called over the translation under the theorem's own hypotheses, returns what the Lean function beside it computes. -/
import Derived.Test.YtdhdfmmefghijaaVFnCatDocs8
import Derived.Test.YtdhdfmmefghijaaRows
import Derived.ClosedOfChecked
import Derived.KernelRfl
namespace Go.Proofs.Ytdhdfmmefghijaa.P
open Go.RowKit Go.Proofs.YtdhdfmmefghijaaW.PrintWords Go.Proofs.YtdhdfmmefghijaaW.PrintLast Go.Proofs.YtdhdfmmefghijaaW.PrintMore
attribute [local go_sem] max2_int min2_int max_two min_two max_three min_three max_four min_four
set_option linter.unusedVariables false
set_option linter.unusedSimpArgs false
mutual
def spec_DocSame.j0:Nat→Bool→Int→Int→ByteArray→List (SDoc)→Int→Int→ByteArray→List (SDoc)→Option (Bool)
 | 0,_,_,_,_,_,_,_,_,_=>none
 | k+1,x33,x602000,x602001,x602002,x602003,x603000,x603001,x603002,x603003=>if x33=true then (some false) else (spec_DocSame.l0 k 0 x602000 x602001 x602002 x602003 x603000 x603001 x603002 x603003)
def spec_DocSame.l0:Nat→Int→Int→Int→ByteArray→List (SDoc)→Int→Int→ByteArray→List (SDoc)→Option (Bool)
 | 0,_,_,_,_,_,_,_,_,_=>none
 | k+1,x5,x602000,x602001,x602002,x602003,x603000,x603001,x603002,x603003=>if x5 < (x602003.length:Int) then (if 0≤x5 then (if x5 < (x603003.length:Int) then ((spec_DocSame.f k ((rd_TDoc x602003 x5).f0) ((rd_TDoc x602003 x5).f1) ((rd_TDoc x602003 x5).f2) ((rd_TDoc x602003 x5).f3) ((rd_TDoc x603003 x5).f0) ((rd_TDoc x603003 x5).f1) ((rd_TDoc x603003 x5).f2) ((rd_TDoc x603003 x5).f3)).bind fun t605=>(if t605=true then (spec_DocSame.l0 k (wrap64 (x5+1)) x602000 x602001 x602002 x602003 x603000 x603001 x603002 x603003) else (some false))) else (none)) else (none)) else (some true)
def spec_DocSame.f:Nat→Int→Int→ByteArray→List (SDoc)→Int→Int→ByteArray→List (SDoc)→Option (Bool)
 | 0,_,_,_,_,_,_,_,_=>none
 | k+1,a0_0,a0_1,a0_2,l0_3,a1_0,a1_1,a1_2,l1_3=>if a0_0=a1_0 then (if a0_1=a1_1 then (if a0_2.toList=a1_2.toList then (spec_DocSame.j0 k ((l0_3.length:Int) != (l1_3.length:Int)) a0_0 a0_1 a0_2 l0_3 a1_0 a1_1 a1_2 l1_3) else (spec_DocSame.j0 k true a0_0 a0_1 a0_2 l0_3 a1_0 a1_1 a1_2 l1_3)) else (spec_DocSame.j0 k true a0_0 a0_1 a0_2 l0_3 a1_0 a1_1 a1_2 l1_3)) else (spec_DocSame.j0 k true a0_0 a0_1 a0_2 l0_3 a1_0 a1_1 a1_2 l1_3)
end
def spec_DocSame.T6:Bool × List (List Nat × List Nat):=(true,[([],[]),([0],[0]),([],[]),([1,2],[1,2]),([3],[3]),([],[]),([5],[5]),([],[]),([6,7],[6,7]),([8],[8]),([4,9],[4,9]),([10],[10])])
def spec_DocSame.B6:List Nat:=[0,1,0,7,15,0,32,0,224,480,1023,2047]
theorem spec_DocSame.tab6:rtab .any (opsOf Try.f35 6)=spec_DocSame.T6:=by kernel_rfl
theorem spec_DocSame.bits6:waitsOk spec_DocSame.T6.2 spec_DocSame.B6=true:=by kernel_rfl
end Go.Proofs.Ytdhdfmmefghijaa.P
namespace Go.Proofs.Ytdhdfmmefghijaa.Pure
open Go.RowKit Go.Proofs.Ytdhdfmmefghijaa.P Go.Proofs.YtdhdfmmefghijaaW.PrintWords Go.Proofs.YtdhdfmmefghijaaW.PrintLast Go.Proofs.YtdhdfmmefghijaaW.PrintMore
set_option linter.unusedVariables false
set_option linter.unusedSimpArgs false
mutual
def dsame : SDoc → SDoc → Bool
  | ⟨o, n, t, ks⟩, e => decide (o = e.f0) && (decide (n = e.f1) && (decide (t.toList = e.f2.toList) && (decide (ks.length = e.f3.length) && dsameL ks e.f3)))
def dsameL : List SDoc → List SDoc → Bool
  | [], _ => true
  | _ :: _, [] => true
  | k :: ks, e :: es => dsame k e && dsameL ks es
end
theorem implSame_loop (o n o' n' : Int) (t t' : ByteArray) (suf : List SDoc) : ∀ (pre pre' suf' : List SDoc),
    (∀ y, y ∈ suf → ∀ e, Ev (fun k => impl_DocSame.f k y.f0 y.f1 y.f2 y.f3 e.f0 e.f1 e.f2 e.f3) (dsame y e)) → pre.length = pre'.length → suf.length = suf'.length → pre.length + suf.length ≤ 4611686018427387904 →
    Ev (fun k => impl_DocSame.l0 k ((pre ++ suf).length : Int) (pre.length : Int) o n t (pre ++ suf) o' n' t' (pre' ++ suf')) (dsameL suf suf') := by
  induction suf with
  | nil =>
    intro pre pre' suf' _ hp hs hm
    refine Ev.step (fun k => by rw [impl_DocSame.l0]) ?_
    simp only [List.append_nil, Int.lt_irrefl, if_false, dsameL]
    exact Ev.now _
  | cons y suf ih =>
    intro pre pre' suf' hy hp hs hm
    cases suf' with
    | nil => simp at hs
    | cons e suf' =>
      simp only [List.length_cons] at hm hs
      refine Ev.step (fun k => by rw [impl_DocSame.l0]) ?_
      have c1 : (pre.length : Int) < ((pre ++ y :: suf).length : Int) := by simp; omega
      have c2 : (0 : Int) ≤ (pre.length : Int) := by omega
      have c3 : (pre.length : Int) < ((pre' ++ e :: suf').length : Int) := by simp; omega
      have r' : rd_TDoc (pre' ++ e :: suf') (pre.length : Int) = e := by rw [hp]; exact rdD pre' suf' e
      simp only [if_pos c1, if_pos c2, if_pos c3, rdD, r']
      refine Ev.bind (hy y List.mem_cons_self e) ?_
      rw [w64 (by omega) (by omega)]
      have := ih (pre ++ [y]) (pre' ++ [e]) suf' (fun z hz => hy z (List.mem_cons_of_mem _ hz)) (by simp; omega) (by omega) (by simp; omega)
      rw [List.append_assoc, List.append_assoc, show ((pre ++ [y]).length : Int) = (pre.length : Int) + 1 by simp] at this
      rw [dsameL]
      cases dsame y e
      · exact Ev.now _
      · simpa using this
theorem implSame_ev : ∀ (d e : SDoc), dsz d ≤ 4611686018427387904 → Ev (fun k => impl_DocSame.f k d.f0 d.f1 d.f2 d.f3 e.f0 e.f1 e.f2 e.f3) (dsame d e) := by
  intro d
  induction d using SDoc.ind with
  | h o n t ks ih =>
    intro e hd
    simp only [dsz] at hd
    have hl := dszL_len ks
    have F : Ev (fun k => impl_DocSame.j0 k true o n t ks e.f0 e.f1 e.f2 e.f3) false := by
      refine Ev.step (fun k => by rw [impl_DocSame.j0]) ?_
      exact Ev.now _
    refine Ev.step (fun k => by rw [impl_DocSame.f]) ?_
    refine Ev.iff (fun h0 => ?_) (fun h0 => by simpa [dsame, h0] using F)
    refine Ev.iff (fun h1 => ?_) (fun h1 => by simpa [dsame, h1] using F)
    refine Ev.iff (fun h2 => ?_) (fun h2 => by simpa [dsame, h2] using F)
    have h0 : o = e.f0 := h0
    have h1 : n = e.f1 := h1
    have h2 : t.toList = e.f2.toList := h2
    by_cases h3 : ks.length = e.f3.length
    · have := implSame_loop o n e.f0 e.f1 t e.f2 ks [] [] e.f3 (fun y hy e => ih y hy e (by have := dszL_mem hy; omega)) rfl h3 (by simp; omega)
      refine Ev.step (fun k => by rw [impl_DocSame.j0]) ?_
      simpa [dsame, h0, h1, h2, h3] using this
    · have h4 : ((ks.length : Int) != (e.f3.length : Int)) = true := by simp; omega
      simpa [dsame, h3, h4] using F
end Go.Proofs.Ytdhdfmmefghijaa.Pure
namespace Go.Proofs.Ytdhdfmmefghijaa.Pure
open Go.RowKit Go.Proofs.Ytdhdfmmefghijaa.P Go.Proofs.YtdhdfmmefghijaaW.PrintWords Go.Proofs.YtdhdfmmefghijaaW.PrintLast Go.Proofs.YtdhdfmmefghijaaW.PrintMore
set_option linter.unusedVariables false
set_option linter.unusedSimpArgs false
theorem dsameL_iff : ∀ (ks es : List SDoc), ks.length = es.length → (∀ k ∈ ks, ∀ e, dsame k e = true ↔ k = e) → (dsameL ks es = true ↔ ks = es)
  | [], [], _, _ => by simp [dsameL]
  | k :: ks, e :: es, hl, h => by
    rw [dsameL, Bool.and_eq_true, h k List.mem_cons_self e, dsameL_iff ks es (by simpa using hl) (fun z hz => h z (List.mem_cons_of_mem _ hz)), List.cons.injEq]
theorem dsame_iff : ∀ d e : SDoc, dsame d e = true ↔ d = e := by
  intro d
  induction d using SDoc.ind with
  | h o n t ks ih =>
    intro e
    obtain ⟨o', n', t', ks'⟩ := e
    rw [dsame]
    simp only [Bool.and_eq_true, decide_eq_true_eq, SDoc.mk.injEq]
    constructor
    · intro ⟨h1, h2, h3, h4, h5⟩
      exact ⟨h1, h2, toList_inj.1 h3, (dsameL_iff ks ks' h4 (fun k hk e => ih k hk e)).1 h5⟩
    · intro ⟨h1, h2, h3, h4⟩
      subst h4
      exact ⟨h1, h2, toList_inj.2 h3, rfl, (dsameL_iff ks ks rfl (fun k hk e => ih k hk e)).2 rfl⟩
theorem dsame_refl (d : SDoc) : dsame d d = true := (dsame_iff d d).2 rfl
end Go.Proofs.Ytdhdfmmefghijaa.Pure
namespace Go.Proofs.Ytdhdfmmefghijaa.Pure
open Go.RowKit Go.Proofs.Ytdhdfmmefghijaa.P Go.Proofs.YtdhdfmmefghijaaW.PrintWords Go.Proofs.YtdhdfmmefghijaaW.PrintLast Go.Proofs.YtdhdfmmefghijaaW.PrintMore
set_option linter.unusedVariables false
set_option linter.unusedSimpArgs false
theorem implSize_loop (suf : List SDoc) : ∀ (pre : List SDoc) (acc : Int) (N : Int), N = ((pre ++ suf).length : Int) →
    (∀ y, y ∈ suf → Ev (fun k => impl_DocSize.f k y.f0 y.f1 y.f2 y.f3) (dsz y : Int)) → 0 ≤ acc → acc + dszL suf ≤ 9223372036854775807 → pre.length + suf.length ≤ 4611686018427387904 →
    Ev (fun k => impl_DocSize.l0 k acc (pre ++ suf) N (pre.length : Int)) (acc + dszL suf) := by
  induction suf with
  | nil =>
    intro pre acc N hN _ h0 hs hm
    subst hN
    refine Ev.step (fun k => by rw [impl_DocSize.l0]) ?_
    simp only [List.append_nil, Int.lt_irrefl, if_false, dszL, Int.natCast_zero, Int.add_zero]
    exact Ev.now _
  | cons y suf ih =>
    intro pre acc N hN hy h0 hs hm
    simp only [List.length_cons, dszL] at hm hs
    refine Ev.step (fun k => by rw [impl_DocSize.l0]) ?_
    have c1 : (pre.length : Int) < ((pre ++ y :: suf).length : Int) := by simp; omega
    have c0 : (pre.length : Int) < N := by omega
    have c2 : (0 : Int) ≤ (pre.length : Int) := by omega
    simp only [if_pos c0, if_pos c1, if_pos c2, rdD]
    refine Ev.bind (hy y List.mem_cons_self) ?_
    rw [w64 (i := acc + dsz y) (by omega) (by omega), w64 (by omega) (by omega)]
    have := ih (pre ++ [y]) (acc + dsz y) N (by rw [hN]; simp) (fun z hz => hy z (List.mem_cons_of_mem _ hz)) (by omega) (by omega) (by simp; omega)
    rw [List.append_assoc, show ((pre ++ [y]).length : Int) = (pre.length : Int) + 1 by simp] at this
    rw [show acc + (dszL (y :: suf) : Int) = acc + dsz y + dszL suf by simp [dszL]; omega]
    exact this
theorem implSize_ev : ∀ (d : SDoc), dsz d ≤ 4611686018427387904 → Ev (fun k => impl_DocSize.f k d.f0 d.f1 d.f2 d.f3) (dsz d : Int) := by
  intro d
  induction d using SDoc.ind with
  | h o n t ks ih =>
    intro hd
    simp only [dsz] at hd
    refine Ev.step (fun k => by rw [impl_DocSize.f]) ?_
    have := implSize_loop ks [] 1 (ks.length : Int) (by simp) (fun y hy => ih y hy (by have := dszL_mem hy; omega)) (by omega) (by omega) (by have := dszL_len ks; simp; omega)
    rw [show ((dsz ⟨o, n, t, ks⟩ : Nat) : Int) = 1 + (dszL ks : Int) by simp [dsz]]
    simpa using this
end Go.Proofs.Ytdhdfmmefghijaa.Pure
namespace Go.Proofs.Ytdhdfmmefghijaa.Pure
open Go.RowKit Go.Proofs.Ytdhdfmmefghijaa.P Go.Proofs.YtdhdfmmefghijaaW.PrintWords Go.Proofs.YtdhdfmmefghijaaW.PrintLast Go.Proofs.YtdhdfmmefghijaaW.PrintMore
set_option linter.unusedVariables false
set_option linter.unusedSimpArgs false
def catR (d e : SDoc) : SDoc := ⟨7, 0, ⟨#[]⟩, [d, e]⟩
def catT (d e : SDoc) : Int × Int × ByteArray × List SDoc × Bool := if docV (catR d e) = true then (7, 0, ⟨#[]⟩, [d, e], true) else (0, 0, ⟨#[]⟩, [], false)
theorem catI_ev (d e : SDoc) (h : msz (catR d e) ≤ 1099511627776) : Ev (fun k => impl_CatDocs.f k d.f0 d.f1 d.f2 d.f3 e.f0 e.f1 e.f2 e.f3) (catT d e) := by
  refine Ev.congr (fun k => by rw [impl_CatDocs.f, impl_cat.f]) ?_
  simp only [Option.bind_some, SDoc_eta]
  have e0 : Ev (fun k => impl_checked.f k 7 0 (⟨#[]⟩ : ByteArray) [d, e]) (catT d e) := by
    refine Ev.congr (fun k => by rw [impl_checked.f]) ?_
    refine Ev.bind (implValid_ev (catR d e) h) ?_
    unfold catT
    refine Ev.iff (fun c => ?_) (fun c => ?_)
    · rw [if_pos c]
      exact Ev.bind (implCopy_ev (catR d e) h) (Ev.now _)
    · rw [if_neg c]
      exact Ev.now _
  exact Ev.bind e0 (Ev.now _)
theorem catS_ev (d e : SDoc) (h : msz (catR d e) ≤ 1099511627776) : Ev (fun k => spec_CatDocs.f k d.f0 d.f1 d.f2 d.f3 e.f0 e.f1 e.f2 e.f3) (catT d e) := by
  refine Ev.congr (fun k => by rw [spec_CatDocs.f, spec_l1Cat.f]) ?_
  simp only [Option.bind_some, SDoc_eta]
  refine Ev.bind (specValid_ev (catR d e) h) ?_
  unfold catT
  refine Ev.iff (fun c => ?_) (fun c => ?_)
  · rw [if_pos c]
    exact Ev.bind (specCopy_ev (catR d e) h) (Ev.now _)
  · rw [if_neg c]
    exact Ev.now _
theorem FnCatDocs : laws_FnCatDocs.Pure := by
  intro l hl _ hw
  refine Ev.rounds (g := fun k => laws_FnCatDocs.f k l) (Ev.congr (fun k => by rw [laws_FnCatDocs.f]) (big_or ?_))
  obtain ⟨d, e, hd, hm, hm'⟩ := drawCatD_ev l hl hw
  have hz := dsz_msz d
  have hz' := dsz_msz e
  have hc : msz (catR d e) ≤ 1099511627776 := by simp only [catR, msz, mszL]; show 1 + 0 + (msz d + (msz e + 0)) ≤ _; omega
  refine Ev.bind hd (Ev.bind (catI_ev d e hc) (Ev.bind (catS_ev d e hc) ?_))
  unfold catT
  by_cases c : docV (catR d e) = true
  · rw [if_pos c]
    have hs := implSame_ev (catR d e) (catR d e) (by have := dsz_msz (catR d e); omega)
    rw [dsame_refl] at hs
    refine Ev.bind hs ?_
    simp only [if_true, bne_self_eq_false, Bool.false_eq_true, if_false]
    refine Ev.step (fun k => by rw [laws_FnCatDocs.j0]) ?_
    simp only [Bool.not_true, Bool.false_eq_true, if_false]
    refine Ev.bind (implValid_ev (catR d e) hc) ?_
    simp only [if_pos c]
    have hq : dsz (catR d e) = 1 + (dsz d + dsz e) := by simp [catR, dsz, dszL]
    refine Ev.bind (implSize_ev (catR d e) (by omega)) (Ev.bind (implSize_ev d (by omega)) (Ev.bind (implSize_ev e (by omega)) ?_))
    have e1 : wrap64 ((dsz d : Int) + (dsz e : Int)) = (dsz d : Int) + (dsz e : Int) := w64 (by omega) (by omega)
    have e2 : wrap64 ((dsz d : Int) + (dsz e : Int) + 1) = (dsz d : Int) + (dsz e : Int) + 1 := w64 (by omega) (by omega)
    rw [hq, e1, e2]
    refine Ev.iff (fun _ => ?_) (fun c => absurd (by omega) c)
    refine Ev.bind (implCan_ev (catR d e) hc) (Ev.bind (implCan_ev d (by omega)) ?_)
    have hk : canF (catR d e) = (canF d && canF e) := by rw [canF_kids c]; simp [catR]
    rw [hk]
    cases hd : canF d with
    | true =>
      simp only [if_true, Bool.true_and]
      refine Ev.bind (implCan_ev e (by omega)) ?_
      rw [beq_self_eq_true]
      exact Ev.now _
    | false =>
      simp only [Bool.false_eq_true, if_false, Bool.false_and, beq_self_eq_true]
      exact Ev.now _
  · rw [if_neg c]
    have hs := implSame_ev (⟨0, 0, ⟨#[]⟩, []⟩ : SDoc) ⟨0, 0, ⟨#[]⟩, []⟩ (by simp [dsz, dszL])
    rw [dsame_refl] at hs
    refine Ev.bind hs ?_
    simp only [if_true, bne_self_eq_false, Bool.false_eq_true, if_false]
    refine Ev.step (fun k => by rw [laws_FnCatDocs.j0]) ?_
    simp only [Bool.not_false, if_true]
    refine Ev.bind hs ?_
    simp only [if_true, beq_self_eq_true]
    exact Ev.now _
end Go.Proofs.Ytdhdfmmefghijaa.Pure
namespace Go.Proofs.Ytdhdfmmefghijaa
theorem closed3:laidOutB Try.prog=true∧mapsRowed Try.prog=true∧Try.prog.plainKeys=true:=Go.ClosedOfChecked.closed_of_checked Try.checked (by kernel_rfl) (by kernel_rfl) (by kernel_rfl)
def edgesL:List (List Nat):=[[],[],[1],[15,16,17,18],[19,20,21,20,22,22],[23,24,25,25,24,22,22,26,26],[27,26,28,24,28,26],[19,20,21,22,29,24,21,22,29,20,22],[30,31,32,33,34,34,32,34,34,34],[31,34,35,34,34,24,24,36,36],[30,32,33,34,34,24,22,22,22,26,26,26],[37,38,39,38],[40,36,41,41,22,20],[42,17,43,34,34,17,17,24],[40,36,17,24,41,25,34,42,17,43,34,36],[44,46,45],[47],[48,24],[],[23,44,49],[20],[21],[22],[44,51,50,50],[52],[53,54],[24,20],[23],[25,21],[54],[44,51,50,51,50],[44,51,55,51,50,50],[57,56],[58,25,59],[34],[35],[24,60],[44,51,55,50,50],[26,61],[28,62],[23],[25,63],[44,51,63,45],[64,25],[],[55,55,65,55],[65],[66],[47,67,68,69,70,48,71],[55],[59,55,55,50,55,49,49,65],[55,55,43,49,72,25,54,72],[16,52],[73,18,53],[54],[],[24,74],[],[],[59],[60,60,60,60],[61],[62],[75,63,63,63,63],[76,77,77,77],[55],[78],[],[79],[],[80],[81],[55,46,55,72,49,72,72,55,72,72,58,58,72,72,58,58,72,72,58],[],[74],[75],[],[64],[],[82],[],[80],[66,83,66,84,83,85],[],[],[86],[],[],[],[],[],[],[],[],[],[],[],[],[],[],[],[],[],[]]
theorem edges:Try.prog.funcs.toList.map Try.prog.leadsTo=edgesL:=by kernel_rfl
def clo (E:List (List Nat)):Nat→List Nat→List Nat→List Nat
 | 0,_,seen=>seen.reverse
 | _,[],seen=>seen.reverse
 | n+1,f :: todo,seen=>if seen.contains f then clo E n todo seen else clo E n ((E[f]?).getD []++todo) (f :: seen)
set_option maxRecDepth 100000 in
theorem elim_edges (f:Nat):(Try.prog.funcs[f]?).elim [] Try.prog.leadsTo=(edgesL[f]?).getD []:=by
 rw [← edges,List.getElem?_map,Array.getElem?_toList]
 cases Try.prog.funcs[f]? <;> rfl
theorem closureVia_clo:∀ (n:Nat) (todo seen:List Nat),Try.prog.closureVia n todo seen=clo edgesL n todo seen
 | 0,_,_=>by simp [Program.closureVia,clo]
 | n+1,[],_=>by simp [Program.closureVia,clo]
 | n+1,f :: todo,seen=>by
  rw [Program.closureVia,clo,elim_edges,closureVia_clo n,closureVia_clo n]
def fuelE:Nat:=1+(edgesL.map fun l=>l.length+1).sum
set_option maxRecDepth 100000 in
theorem fuel_eq:1+(Try.prog.funcs.toList.map fun g=>(Try.prog.leadsTo g).length+1).sum=fuelE:=by
 rw [fuelE,← edges,List.map_map]
 rfl
theorem closure_clo (f:Nat):Try.prog.closure f=clo edgesL fuelE [f] []:=by
 rw [Program.closure,fuel_eq,closureVia_clo]
noncomputable def unfB (fn:Func):Bool:=match fn.body with|some c=>c.unfollowed|none=>entryCalls fn
noncomputable def unfL:List Bool:=Try.prog.funcs.toList.map unfB
set_option maxRecDepth 100000 in
theorem any_unf (f:Nat):((Try.prog.funcs[f]?).any fun fn=>match fn.body with|some c=>c.unfollowed|none=>entryCalls fn)=(unfL[f]?).getD false:=by
 rw [unfL,List.getElem?_map,Array.getElem?_toList]
 cases Try.prog.funcs[f]? <;> rfl
set_option maxRecDepth 100000 in
theorem unfollowed_of {f:Nat} {L:List Nat} (h:clo edgesL fuelE [f] []=L):Try.prog.unfollowed f=L.any fun g=>(unfL[g]?).getD false:=by
 rw [Program.unfollowed,closure_clo,h]
 congr 1
 funext g
 exact any_unf g
set_option maxRecDepth 100000 in
theorem recurses_of {f:Nat} {L:List Nat} (h:clo edgesL fuelE [f] []=L):Try.prog.recurses f=((L.any fun g=>(unfL[g]?).getD false) || L.any fun g=>((edgesL[g]?).getD []).any fun h=>(clo edgesL fuelE [h] []).contains g):=by
 rw [Program.recurses,unfollowed_of h,closure_clo,h]
 congr 1
 congr 1
 funext g
 rw [elim_edges]
 congr 1
 funext h
 rw [closure_clo]
def signs:List Char:=([104,97,114,110,101,115,115,32,50,54,100,52,101,52,102,53,97,56,53,54,57,100,98,57,98,55,99,101,48,57,101,101,51,49,51,101,50,53,49,57,55,102,56,55,99,52,55,52,53,50,49,49,99,101,55,101,101,51,100,102,53,102,102,53,52,98,98,54,51,49,102,55,32,99,117,116,32,97,116,32,108,111,111,112,46,101,120,97,109,112,108,101,47,100,111,99,97,108,103,101,98,114,97,47,108,97,119,115,46,70,110,84,101,120,116,86,97,108,105,100,32,108,111,111,112,46,101,120,97,109,112,108,101,47,100,111,99,97,108,103,101,98,114,97,47,108,97,119,115,46,70,110,67,111,117,110,116,80,97,114,116,115,32,108,111,111,112,46,101,120,97,109,112,108,101,47,100,111,99,97,108,103,101,98,114,97,47,108,97,119,115,46,70,110,68,111,99,80,97,114,116,115,32,108,111,111,112,46,101,120,97,109,112,108,101,47,100,111,99,97,108,103,101,98,114,97,47,108,97,119,115,46,70,110,70,108,97,116,116,101,110,80,97,114,116,115,32,108,111,111,112,46,101,120,97,109,112,108,101,47,100,111,99,97,108,103,101,98,114,97,47,108,97,119,115,46,70,110,67,111,117,110,116,79,112,115,32,108,111,111,112,46,101,120,97,109,112,108,101,47,100,111,99,97,108,103,101,98,114,97,47,108,97,119,115,46,70,110,67,97,116,83,97,109,101,32,108,111,111,112,46,101,120,97,109,112,108,101,47,100,111,99,97,108,103,101,98,114,97,47,108,97,119,115,46,70,110,68,111,99,83,97,109,101,32,108,111,111,112,46,101,120,97,109,112,108,101,47,100,111,99,97,108,103,101,98,114,97,47,108,97,119,115,46,70,110,67,97,116,68,111,99,115,32,108,111,111,112,46,101,120,97,109,112,108,101,47,100,111,99,97,108,103,101,98,114,97,47,108,97,119,115,46,70,110,70,108,97,116,84,101,120,116,32,108,111,111,112,46,101,120,97,109,112,108,101,47,100,111,99,97,108,103,101,98,114,97,47,108,97,119,115,46,70,110,68,111,99,66,121,116,101,115,32,108,111,111,112,46,101,120,97,109,112,108,101,47,100,111,99,97,108,103,101,98,114,97,47,108,97,119,115,46,70,110,80,97,114,115,101,83,105,122,101,32,108,111,111,112,46,101,120,97,109,112,108,101,47,100,111,99,97,108,103,101,98,114,97,47,108,97,119,115,46,70,110,68,111,99,84,101,120,116]:List Nat).map Char.ofNat
def wordsL:List (List Char):=([[104,97,114,110,101,115,115],[50,54,100,52,101,52,102,53,97,56,53,54,57,100,98,57,98,55,99,101,48,57,101,101,51,49,51,101,50,53,49,57,55,102,56,55,99,52,55,52,53,50,49,49,99,101,55,101,101,51,100,102,53,102,102,53,52,98,98,54,51,49,102,55],[99,117,116],[97,116],[108,111,111,112,46,101,120,97,109,112,108,101,47,100,111,99,97,108,103,101,98,114,97,47,108,97,119,115,46,70,110,84,101,120,116,86,97,108,105,100],[108,111,111,112,46,101,120,97,109,112,108,101,47,100,111,99,97,108,103,101,98,114,97,47,108,97,119,115,46,70,110,67,111,117,110,116,80,97,114,116,115],[108,111,111,112,46,101,120,97,109,112,108,101,47,100,111,99,97,108,103,101,98,114,97,47,108,97,119,115,46,70,110,68,111,99,80,97,114,116,115],[108,111,111,112,46,101,120,97,109,112,108,101,47,100,111,99,97,108,103,101,98,114,97,47,108,97,119,115,46,70,110,70,108,97,116,116,101,110,80,97,114,116,115],[108,111,111,112,46,101,120,97,109,112,108,101,47,100,111,99,97,108,103,101,98,114,97,47,108,97,119,115,46,70,110,67,111,117,110,116,79,112,115],[108,111,111,112,46,101,120,97,109,112,108,101,47,100,111,99,97,108,103,101,98,114,97,47,108,97,119,115,46,70,110,67,97,116,83,97,109,101],[108,111,111,112,46,101,120,97,109,112,108,101,47,100,111,99,97,108,103,101,98,114,97,47,108,97,119,115,46,70,110,68,111,99,83,97,109,101],[108,111,111,112,46,101,120,97,109,112,108,101,47,100,111,99,97,108,103,101,98,114,97,47,108,97,119,115,46,70,110,67,97,116,68,111,99,115],[108,111,111,112,46,101,120,97,109,112,108,101,47,100,111,99,97,108,103,101,98,114,97,47,108,97,119,115,46,70,110,70,108,97,116,84,101,120,116],[108,111,111,112,46,101,120,97,109,112,108,101,47,100,111,99,97,108,103,101,98,114,97,47,108,97,119,115,46,70,110,68,111,99,66,121,116,101,115],[108,111,111,112,46,101,120,97,109,112,108,101,47,100,111,99,97,108,103,101,98,114,97,47,108,97,119,115,46,70,110,80,97,114,115,101,83,105,122,101],[108,111,111,112,46,101,120,97,109,112,108,101,47,100,111,99,97,108,103,101,98,114,97,47,108,97,119,115,46,70,110,68,111,99,84,101,120,116]]:List (List Nat)).map (List.map Char.ofNat)
theorem headI:Try.prog.initOrder=String.ofList signs:=by kernel_rfl
theorem headS:wordsSigns Try.prog.initOrder.toList=wordsL:=by
 rw [headI,String.toList_ofList]
 kernel_rfl
theorem headLifts_of {P : Program} {ws} (h : wordsSigns P.initOrder.toList = ws) : P.headLifts = if ((stripLifts liftWords (behindMainWord ws)).2.head? == some "cut".toList) = true then (stripLifts liftWords (behindMainWord ws)).1 else [] := by
 subst h;rfl
theorem headL:Try.prog.headLifts=[]:=(headLifts_of headS).trans (by kernel_rfl)
theorem liftsFinal_of {P : Program} {ws l} (h : wordsSigns P.initOrder.toList = ws) (hl : P.headLifts = l) : P.liftsFinal = (((behindMainWord ws).head? == some "carried".toList && (behindMainWord ws).take 3 != ["carried".toList, "gc".toList, "cut".toList]) || l.contains "finals") := by
 subst h;subst hl;rfl
theorem liftsF:Try.prog.liftsFinal=false:=(liftsFinal_of headS headL).trans (by kernel_rfl)
theorem mayEnter_of {P:Program} (h:wordsSigns P.initOrder.toList=wordsL) (h1:P.laysLater=false) (h2:P.bearsReflect=false):P.mayEnter=P.doorFits []:=by
 delta Program.mayEnter
 rw [h,h1,h2]
 kernel_rfl
theorem mayE:Try.prog.mayEnter=true:=(mayEnter_of headS (by kernel_rfl) (by kernel_rfl)).trans (by kernel_rfl)
theorem make_of {P:Program} (h:wordsSigns P.initOrder.toList=wordsL):P.make=some .cut:=by
 delta Program.make
 rw [h]
 kernel_rfl
theorem makeC:Try.prog.make=some .cut:=make_of headS
end Go.Proofs.Ytdhdfmmefghijaa
