/- CONTRACTS and lemmas: each contract says that a Go function of the program, called over the translation under the theorem's own hypotheses, returns what the Lean function beside it computes. -/
import Derived.Test.YtdhdfmmefghijabVFnCatLayouts6
namespace Go.Proofs.Ytdhdfmmefghijab.P
open Go.RowKit Go.Proofs.YtdhdfmmefghijabW.PrintWords Go.Proofs.YtdhdfmmefghijabW.PrintLast Go.Proofs.YtdhdfmmefghijabW.PrintMore
attribute [local go_sem] max2_int min2_int max_two min_two max_three min_three max_four min_four
set_option linter.unusedVariables false
set_option linter.unusedSimpArgs false
mutual
def spec_LayoutValid.l0:Nat→List (SRow)→Int→Option (Bool)
 | 0,_,_=>none
 | k+1,x0,x3=>if x3 < (x0.length:Int) then (spec_LayoutValid.j1 k x0 x3 (decide (x3≤200))) else (spec_LayoutValid.j1 k x0 x3 false)
def spec_LayoutValid.j1:Nat→List (SRow)→Int→Bool→Option (Bool)
 | 0,_,_,_=>none
 | k+1,x0,x3,x11=>if x11=true then (if 0≤x3 then (if x3 < (x0.length:Int) then (if ((rd_TRow x0 x3).f0) < 0 then (spec_LayoutValid.j2 k x0 x3 true) else (if ((rd_TRow x0 x3).f0) > 400 then (spec_LayoutValid.j2 k x0 x3 true) else (if x3=0 then (if ((rd_TRow x0 x3).f0)=0 then ((spec_l2Text.f k ((rd_TRow x0 x3).f1)).bind fun t461=>(spec_LayoutValid.j2 k x0 x3 (!t461))) else (spec_LayoutValid.j2 k x0 x3 true)) else ((spec_l2Text.f k ((rd_TRow x0 x3).f1)).bind fun t463=>(spec_LayoutValid.j2 k x0 x3 (!t463)))))) else (none)) else (none)) else (if (x0.length:Int) > 0 then (some (decide ((x0.length:Int)≤200))) else (some false))
def spec_LayoutValid.j2:Nat→List (SRow)→Int→Bool→Option (Bool)
 | 0,_,_,_=>none
 | k+1,x0,x3,x48=>if x48=true then (some false) else (spec_LayoutValid.l0 k x0 (wrap64 (x3+1)))
end
def spec_LayoutValid.f (k:Nat) (l0:List (SRow)):Option (Bool):=spec_LayoutValid.l0 k l0 0
set_option maxHeartbeats 8000000 in
set_option maxRecDepth 100000 in
theorem spec_LayoutValid.calls (k:Nat) (A0:Option Addr) (c0:Nat) (l0:List (SRow)) (r:Bool) (w:World) (hr0:Kd.C k30 w A0 l0.length l0) (hc0:l0.length≤c0) (h:spec_LayoutValid.f k l0=some r) :
  Calls Try.prog 29 #[.slice A0 l0.length c0] w fun e w'=>e=.returned (.bool r)∧Drawn0 w w':=by
 have HR0:=Aside0.mk hr0
 have HC0:=Aside0.mk hc0
 clear hr0 hc0
 have H:(spec_LayoutValid.l0 k l0 0)=some r:=h
 clear h
 have H':=Aside0.mk H
 clear H
 go_enter Try.func29,Try.ntmps29
 go_wp2
 go_loopg [3] k (fun kq v3 w'=>∃ (x3_1:Int),v3=.int .i64 x3_1∧Aside0 (spec_LayoutValid.l0 kq l0 x3_1=some r)∧Aside0 (kq≤k)∧Drawn0 w w')
 case atStart=>exact ⟨(0),(by first|rfl|(simp;done)|(simp [*];done)),H',⟨Nat.le_refl _⟩,by repeat (first|exact Drawn0.refl _|apply Drawn0.step)⟩
 case round =>
  clear H'
  obtain ⟨x3_1,rfl,HA,HK1,⟨m1,rfl⟩⟩:=hrel
  cases gk with
  | zero=>exact absurd HA.out (by simp [spec_LayoutValid.l0])
  | succ k1 =>
   have H:=HA.out
   clear HA
   simp only [spec_LayoutValid.l0] at H
   have HC2:=Aside0.mk H
   clear H
   go_upto_region 2 with (fail)
   go_cut [11] (fun v11 wc=>∃ (kq:Nat) (x11_1:Bool),v11=.bool x11_1∧Aside0 (spec_LayoutValid.j1 kq l0 x3_1 x11_1=some r)∧Aside0 (kq≤k1)∧Drawn0 w wc)
   case first =>
    have H:=HC2.out
    clear HC2
    by_cases c3:x3_1 < (l0.length:Int)
    ·rw [if_pos c3] at H
     have c3b0:decide (x3_1 < (l0.length:Int))=true:=decide_eq_true c3
     clear c3
     (first|rw [c3b0]|(simp only [i64_w,i32_w];rw [c3b0])|skip)
     have H':=Aside0.mk H
     clear H
     go_wp2
     go_meet
     case rel=>exact ⟨_,(decide (x3_1≤200)),(by first|rfl|(simp;done)|(simp [*];done)),H',⟨by have:=HK1.out;first|omega|exact Nat.le_refl _⟩,by repeat (first|exact Drawn0.refl _|apply Drawn0.step)⟩
    ·rw [if_neg c3] at H
     have c3b0:decide (x3_1 < (l0.length:Int))=false:=decide_eq_false c3
     clear c3
     (first|rw [c3b0]|(simp only [i64_w,i32_w];rw [c3b0])|skip)
     have H':=Aside0.mk H
     clear H
     go_wp2
     go_meet
     case rel=>exact ⟨_,(false),(by first|rfl|(simp;done)|(simp [*];done)),H',⟨by have:=HK1.out;first|omega|exact Nat.le_refl _⟩,by repeat (first|exact Drawn0.refl _|apply Drawn0.step)⟩
   case rest =>
    clear HC2
    try clear c2 p2 c3 c3b0
    obtain ⟨kq,x11_1,rfl,HA,HJ1,⟨mc1,rfl⟩⟩:=hcut
    cases kq with
    | zero=>exact absurd HA.out (by simp [spec_LayoutValid.j1])
    | succ kj1 =>
     have H:=HA.out
     clear HA
     simp only [spec_LayoutValid.j1] at H
     by_cases c4:x11_1=true
     ·subst c4
      have H1:(if 0≤x3_1 then (if x3_1 < (l0.length:Int) then (if ((rd_TRow l0 x3_1).f0) < 0 then (spec_LayoutValid.j2 kj1 l0 x3_1 true) else (if ((rd_TRow l0 x3_1).f0) > 400 then (spec_LayoutValid.j2 kj1 l0 x3_1 true) else (if x3_1=0 then (if ((rd_TRow l0 x3_1).f0)=0 then ((spec_l2Text.f kj1 ((rd_TRow l0 x3_1).f1)).bind fun t461=>(spec_LayoutValid.j2 kj1 l0 x3_1 (!t461))) else (spec_LayoutValid.j2 kj1 l0 x3_1 true)) else ((spec_l2Text.f kj1 ((rd_TRow l0 x3_1).f1)).bind fun t463=>(spec_LayoutValid.j2 kj1 l0 x3_1 (!t463)))))) else (none)) else (none))=some r:=by rw [if_pos rfl] at H;exact H
      clear H
      have H:=H1
      clear H1
      have HC5:=Aside0.mk H
      clear H
      go_upto_region 4 with (fail)
      go_cut [48] (fun v48 wc=>∃ (kq:Nat) (x48_4:Bool),v48=.bool x48_4∧Aside0 (spec_LayoutValid.j2 kq l0 x3_1 x48_4=some r)∧Aside0 (kq≤kj1)∧Drawn0 w wc)
      case first =>
       have H:=HC5.out
       clear HC5
       by_cases c6:0≤x3_1
       ·rw [if_pos c6] at H
        have c6b0:decide (0≤x3_1)=true:=decide_eq_true c6
        clear c6
        (first|rw [c6b0]|(simp only [i64_w,i32_w];rw [c6b0])|skip)
        by_cases c7:x3_1 < (l0.length:Int)
        ·rw [if_pos c7] at H
         have c7b0:decide (x3_1 < (l0.length:Int))=true:=decide_eq_true c7
         clear c7
         by_cases c8:((rd_TRow l0 x3_1).f0) < 0
         ·rw [if_pos c8] at H
          have c8b0:decide (((rd_TRow l0 x3_1).f0) < 0)=true:=decide_eq_true c8
          clear c8
          have H':=Aside0.mk H
          clear H
          have p457:0≤(x3_1:Int):=of_decide_eq_true (by first|(with_reducible assumption)|assumption)
          have q457:x3_1 < (l0.length:Int):=of_decide_eq_true (by first|(with_reducible assumption)|assumption)
          obtain ⟨ad457,e457,hx457_0,hx457_1⟩:=at_TRow HR0.out x3_1 p457 q457
          cases e457
          replace p457:=eq_true p457
          replace q457:=eq_true q457
          go_wp2
          go_meet
          case rel=>exact ⟨_,(true),(by first|rfl|(simp;done)|(simp [*];done)),H',⟨by have:=HK1.out;have:=HJ1.out;first|omega|exact Nat.le_refl _⟩,by repeat (first|exact Drawn0.refl _|apply Drawn0.step)⟩
         ·rw [if_neg c8] at H
          have c8b0:decide (((rd_TRow l0 x3_1).f0) < 0)=false:=decide_eq_false c8
          clear c8
          by_cases c9:((rd_TRow l0 x3_1).f0) > 400
          ·rw [if_pos c9] at H
           have c9b0:decide (400 < ((rd_TRow l0 x3_1).f0))=true:=decide_eq_true c9
           clear c9
           have H':=Aside0.mk H
           clear H
           have p457:0≤(x3_1:Int):=of_decide_eq_true (by first|(with_reducible assumption)|assumption)
           have q457:x3_1 < (l0.length:Int):=of_decide_eq_true (by first|(with_reducible assumption)|assumption)
           obtain ⟨ad457,e457,hx457_0,hx457_1⟩:=at_TRow HR0.out x3_1 p457 q457
           cases e457
           replace p457:=eq_true p457
           replace q457:=eq_true q457
           have p458:0≤(x3_1:Int):=of_decide_eq_true (by first|(with_reducible assumption)|assumption)
           have q458:x3_1 < (l0.length:Int):=of_decide_eq_true (by first|(with_reducible assumption)|assumption)
           obtain ⟨ad458,e458,hx458_0,hx458_1⟩:=at_TRow HR0.out x3_1 p458 q458
           obtain rfl:ad457=ad458:=(by injection e458)
           replace p458:=eq_true p458
           replace q458:=eq_true q458
           go_wp2
           go_meet
           case rel=>exact ⟨_,(true),(by first|rfl|(simp;done)|(simp [*];done)),H',⟨by have:=HK1.out;have:=HJ1.out;first|omega|exact Nat.le_refl _⟩,by repeat (first|exact Drawn0.refl _|apply Drawn0.step)⟩
          ·rw [if_neg c9] at H
           have c9b0:decide (400 < ((rd_TRow l0 x3_1).f0))=false:=decide_eq_false c9
           clear c9
           by_cases c10:x3_1=0
           ·rw [if_pos c10] at H
            have c10b0:(x3_1 == 0)=true:=beq_iff_eq.mpr c10
            have c10b1:(x3_1 != 0)=false:=bne_eq_false_iff_eq.mpr c10
            clear c10
            by_cases c11:((rd_TRow l0 x3_1).f0)=0
            ·rw [if_pos c11] at H
             have c11b0:(((rd_TRow l0 x3_1).f0) == 0)=true:=beq_iff_eq.mpr c11
             have c11b1:(((rd_TRow l0 x3_1).f0) != 0)=false:=bne_eq_false_iff_eq.mpr c11
             clear c11
             replace H:=Option.bind_eq_some_iff.mp H
             obtain ⟨t461,A120,H⟩:=H
             replace H:(spec_LayoutValid.j2 kj1 l0 x3_1 (!t461))=some r:=H
             have A12:=Aside0.mk A120
             clear A120
             have H':=Aside0.mk H
             clear H
             have p457:0≤(x3_1:Int):=of_decide_eq_true (by first|(with_reducible assumption)|assumption)
             have q457:x3_1 < (l0.length:Int):=of_decide_eq_true (by first|(with_reducible assumption)|assumption)
             obtain ⟨ad457,e457,hx457_0,hx457_1⟩:=at_TRow HR0.out x3_1 p457 q457
             cases e457
             replace p457:=eq_true p457
             replace q457:=eq_true q457
             have p458:0≤(x3_1:Int):=of_decide_eq_true (by first|(with_reducible assumption)|assumption)
             have q458:x3_1 < (l0.length:Int):=of_decide_eq_true (by first|(with_reducible assumption)|assumption)
             obtain ⟨ad458,e458,hx458_0,hx458_1⟩:=at_TRow HR0.out x3_1 p458 q458
             obtain rfl:ad457=ad458:=(by injection e458)
             replace p458:=eq_true p458
             replace q458:=eq_true q458
             have p459:0≤(x3_1:Int):=of_decide_eq_true (by first|(with_reducible assumption)|assumption)
             have q459:x3_1 < (l0.length:Int):=of_decide_eq_true (by first|(with_reducible assumption)|assumption)
             obtain ⟨ad459,e459,hx459_0,hx459_1⟩:=at_TRow HR0.out x3_1 p459 q459
             obtain rfl:ad457=ad459:=(by injection e459)
             replace p459:=eq_true p459
             replace q459:=eq_true q459
             have p460:0≤(x3_1:Int):=of_decide_eq_true (by first|(with_reducible assumption)|assumption)
             have q460:x3_1 < (l0.length:Int):=of_decide_eq_true (by first|(with_reducible assumption)|assumption)
             obtain ⟨ad460,e460,hx460_0,hx460_1⟩:=at_TRow HR0.out x3_1 p460 q460
             obtain rfl:ad457=ad460:=(by injection e460)
             replace p460:=eq_true p460
             replace q460:=eq_true q460
             go_wp2_with (first|(go_at_call 55;(with_reducible refine (spec_l2Text.calls kj1 ((rd_TRow l0 x3_1).f1) t461 _ A12.out).mono ?_);rintro e w' ⟨rfl,⟨nd,rfl⟩⟩))
             go_meet
             case rel=>exact ⟨_,(!t461),(by first|rfl|(simp;done)|(simp [*];done)),H',⟨by have:=HK1.out;have:=HJ1.out;first|omega|exact Nat.le_refl _⟩,by repeat (first|exact Drawn0.refl _|apply Drawn0.step)⟩
            ·rw [if_neg c11] at H
             have c11b0:(((rd_TRow l0 x3_1).f0) == 0)=false:=beq_eq_false_iff_ne.mpr c11
             have c11b1:(((rd_TRow l0 x3_1).f0) != 0)=true:=bne_iff_ne.mpr c11
             have H':=Aside0.mk H
             clear H
             have p457:0≤(x3_1:Int):=of_decide_eq_true (by first|(with_reducible assumption)|assumption)
             have q457:x3_1 < (l0.length:Int):=of_decide_eq_true (by first|(with_reducible assumption)|assumption)
             obtain ⟨ad457,e457,hx457_0,hx457_1⟩:=at_TRow HR0.out x3_1 p457 q457
             cases e457
             replace p457:=eq_true p457
             replace q457:=eq_true q457
             have p458:0≤(x3_1:Int):=of_decide_eq_true (by first|(with_reducible assumption)|assumption)
             have q458:x3_1 < (l0.length:Int):=of_decide_eq_true (by first|(with_reducible assumption)|assumption)
             obtain ⟨ad458,e458,hx458_0,hx458_1⟩:=at_TRow HR0.out x3_1 p458 q458
             obtain rfl:ad457=ad458:=(by injection e458)
             replace p458:=eq_true p458
             replace q458:=eq_true q458
             have p459:0≤(x3_1:Int):=of_decide_eq_true (by first|(with_reducible assumption)|assumption)
             have q459:x3_1 < (l0.length:Int):=of_decide_eq_true (by first|(with_reducible assumption)|assumption)
             obtain ⟨ad459,e459,hx459_0,hx459_1⟩:=at_TRow HR0.out x3_1 p459 q459
             obtain rfl:ad457=ad459:=(by injection e459)
             replace p459:=eq_true p459
             replace q459:=eq_true q459
             go_wp2
             go_meet
             case rel=>exact ⟨_,(true),(by first|rfl|(simp;done)|(simp [*];done)),H',⟨by have:=HK1.out;have:=HJ1.out;first|omega|exact Nat.le_refl _⟩,by repeat (first|exact Drawn0.refl _|apply Drawn0.step)⟩
           ·rw [if_neg c10] at H
            have c10b0:(x3_1 == 0)=false:=beq_eq_false_iff_ne.mpr c10
            have c10b1:(x3_1 != 0)=true:=bne_iff_ne.mpr c10
            replace H:=Option.bind_eq_some_iff.mp H
            obtain ⟨t463,A130,H⟩:=H
            replace H:(spec_LayoutValid.j2 kj1 l0 x3_1 (!t463))=some r:=H
            have A13:=Aside0.mk A130
            clear A130
            have H':=Aside0.mk H
            clear H
            have p457:0≤(x3_1:Int):=of_decide_eq_true (by first|(with_reducible assumption)|assumption)
            have q457:x3_1 < (l0.length:Int):=of_decide_eq_true (by first|(with_reducible assumption)|assumption)
            obtain ⟨ad457,e457,hx457_0,hx457_1⟩:=at_TRow HR0.out x3_1 p457 q457
            cases e457
            replace p457:=eq_true p457
            replace q457:=eq_true q457
            have p458:0≤(x3_1:Int):=of_decide_eq_true (by first|(with_reducible assumption)|assumption)
            have q458:x3_1 < (l0.length:Int):=of_decide_eq_true (by first|(with_reducible assumption)|assumption)
            obtain ⟨ad458,e458,hx458_0,hx458_1⟩:=at_TRow HR0.out x3_1 p458 q458
            obtain rfl:ad457=ad458:=(by injection e458)
            replace p458:=eq_true p458
            replace q458:=eq_true q458
            have p462:0≤(x3_1:Int):=of_decide_eq_true (by first|(with_reducible assumption)|assumption)
            have q462:x3_1 < (l0.length:Int):=of_decide_eq_true (by first|(with_reducible assumption)|assumption)
            obtain ⟨ad462,e462,hx462_0,hx462_1⟩:=at_TRow HR0.out x3_1 p462 q462
            obtain rfl:ad457=ad462:=(by injection e462)
            replace p462:=eq_true p462
            replace q462:=eq_true q462
            go_wp2_with (first|(go_at_call 55;(with_reducible refine (spec_l2Text.calls kj1 ((rd_TRow l0 x3_1).f1) t463 _ A13.out).mono ?_);rintro e w' ⟨rfl,⟨nd,rfl⟩⟩))
            go_meet
            case rel=>exact ⟨_,(!t463),(by first|rfl|(simp;done)|(simp [*];done)),H',⟨by have:=HK1.out;have:=HJ1.out;first|omega|exact Nat.le_refl _⟩,by repeat (first|exact Drawn0.refl _|apply Drawn0.step)⟩
        ·rw [if_neg c7] at H
         exact absurd H (by simp)
       ·rw [if_neg c6] at H
        exact absurd H (by simp)
      case rest =>
       clear HC5
       try clear c1 c2 p2 c3 c3b0 c4 p4 q4 hx4 c6 c6b0 c7 c7b0 c8 c8b0 c9 c9b0 c10 c10b0 c10b1 c11 c11b0 c11b1 hx457_0 hx457_1 hx458_0 hx458_1 hx459_0 hx459_1 hx460_0 hx460_1 hx462_0 hx462_1 p2 p457 p458 p459 p460 p462 q457 q458 q459 q460 q462
       obtain ⟨kq,x48_4,rfl,HA,HJ4,⟨mc4,rfl⟩⟩:=hcut
       cases kq with
       | zero=>exact absurd HA.out (by simp [spec_LayoutValid.j2])
       | succ kj4 =>
        have H:=HA.out
        clear HA
        simp only [spec_LayoutValid.j2] at H
        by_cases c14:x48_4=true
        ·subst c14
         have H1:(some false)=some r:=by rw [if_pos rfl] at H;exact H
         clear H
         have H:=H1
         clear H1
         obtain rfl:=Option.some.inj H
         go_wp2
         go_ret
         exact ⟨by first|rfl|(simp;done)|(simp [*];done),by repeat (first|exact Drawn0.refl _|apply Drawn0.step)⟩
        ·replace c14:=Bool.eq_false_iff.mpr c14
         subst c14
         have H1:(spec_LayoutValid.l0 kj4 l0 (wrap64 (x3_1+1)))=some r:=by rw [if_neg (show ¬ (false=true) by decide)] at H;exact H
         clear H
         have H:=H1
         clear H1
         have H':=Aside0.mk H
         clear H
         go_wp2
         go_roundg kj4
         case measure=>have:=HK1.out;have:=HJ1.out;have:=HJ4.out;omega
         case rel=>exact ⟨(wrap64 (x3_1+1)),(by first|rfl|(simp;done)|(simp [*];done)),H',⟨by have:=HK1.out;have:=HJ1.out;have:=HJ4.out;omega⟩,by repeat (first|exact Drawn0.refl _|apply Drawn0.step)⟩
     ·replace c4:=Bool.eq_false_iff.mpr c4
      subst c4
      have H1:(if (l0.length:Int) > 0 then (some (decide ((l0.length:Int)≤200))) else (some false))=some r:=by rw [if_neg (show ¬ (false=true) by decide)] at H;exact H
      clear H
      have H:=H1
      clear H1
      by_cases c15:(l0.length:Int) > 0
      ·rw [if_pos c15] at H
       have c15b0:decide (0 < (l0.length:Int))=true:=decide_eq_true c15
       have c15b1:decide (0 < l0.length)=true:=decide_eq_true (by omega)
       clear c15
       obtain rfl:=Option.some.inj H
       go_wp2
       go_ret
       exact ⟨by first|rfl|(simp;done)|(simp [*];done),by repeat (first|exact Drawn0.refl _|apply Drawn0.step)⟩
      ·rw [if_neg c15] at H
       have c15b0:decide (0 < (l0.length:Int))=false:=decide_eq_false c15
       have c15b1:decide (0 < l0.length)=false:=decide_eq_false (by omega)
       clear c15
       obtain rfl:=Option.some.inj H
       go_wp2
       go_ret
       exact ⟨by first|rfl|(simp;done)|(simp [*];done),by repeat (first|exact Drawn0.refl _|apply Drawn0.step)⟩
end Go.Proofs.Ytdhdfmmefghijab.P
namespace Go.Proofs.Ytdhdfmmefghijab.P
open Go.RowKit Go.Proofs.YtdhdfmmefghijabW.PrintWords Go.Proofs.YtdhdfmmefghijabW.PrintLast Go.Proofs.YtdhdfmmefghijabW.PrintMore
attribute [local go_sem] max2_int min2_int max_two min_two max_three min_three max_four min_four
set_option linter.unusedVariables false
set_option linter.unusedSimpArgs false
def spec_CatLayouts.j0:Nat→List (SRow)→List (SRow)→Bool→Option ((List (SRow)) × Bool)
 | 0,_,_,_=>none
 | k+1,x0,x1,x14=>if x14=true then (some ((([]:List (SRow))),false)) else ((spec_l2Cat.f x0 x1).bind fun t469=>((spec_LayoutValid.f k t469).bind fun t472=>(if t472=true then (some (t469,true)) else (some ((([]:List (SRow))),false)))))
def spec_CatLayouts.f (k:Nat) (l0:List (SRow)) (l1:List (SRow)):Option ((List (SRow)) × Bool):=(spec_LayoutValid.f k l0).bind fun t464=>(if t464=true then ((spec_LayoutValid.f k l1).bind fun t465=>(spec_CatLayouts.j0 k l0 l1 (!t465))) else (spec_CatLayouts.j0 k l0 l1 true))
set_option maxHeartbeats 8000000 in
set_option maxRecDepth 100000 in
theorem spec_CatLayouts.calls (k:Nat) (A0:Option Addr) (c0:Nat) (l0:List (SRow)) (A1:Option Addr) (c1:Nat) (l1:List (SRow)) (r1:List (SRow)) (r2:Bool) (w:World) (hr0:Kd.C k30 w A0 l0.length l0) (hc0:l0.length≤c0) (hr1:Kd.C k30 w A1 l1.length l1) (hc1:l1.length≤c1) (h:spec_CatLayouts.f k l0 l1=some (r1,r2)) :
  Calls Try.prog 17 #[.slice A0 l0.length c0,.slice A1 l1.length c1] w fun e w'=>∃ v0_:Value,e=.returned (.tuple #[v0_,.bool r2])∧Kd.R k30 30 w' w.heap.size (fun _=>True) v0_ r1∧Below w.heap.size w w':=by
 have HR0:=Aside0.mk hr0
 have HC0:=Aside0.mk hc0
 clear hr0 hc0
 have HR1:=Aside0.mk hr1
 have HC1:=Aside0.mk hc1
 clear hr1 hc1
 have HB:=Aside0.mk (Below.refl w.heap.size w)
 have H:((spec_LayoutValid.f k l0).bind fun t464=>(if t464=true then ((spec_LayoutValid.f k l1).bind fun t465=>(spec_CatLayouts.j0 k l0 l1 (!t465))) else (spec_CatLayouts.j0 k l0 l1 true)))=some (r1,r2):=h
 clear h
 have HC3:=Aside0.mk H
 clear H
 go_enter Try.func17,Try.ntmps17
 go_upto_region 1 with (fail)
 go_cut [14] (fun v14 wc=>∃ (kq:Nat) (x14_2:Bool),v14=.bool x14_2∧Aside0 (spec_CatLayouts.j0 kq l0 l1 x14_2=some (r1,r2))∧Aside0 (kq≤k)∧Aside0 (Below w.heap.size w wc))
 case first =>
  have H:=HC3.out
  clear HC3
  replace H:=Option.bind_eq_some_iff.mp H
  obtain ⟨t464,A40,H⟩:=H
  replace H:(if t464=true then ((spec_LayoutValid.f k l1).bind fun t465=>(spec_CatLayouts.j0 k l0 l1 (!t465))) else (spec_CatLayouts.j0 k l0 l1 true))=some (r1,r2):=H
  have A4:=Aside0.mk A40
  clear A40
  by_cases c5:t464=true
  ·subst c5
   have H1:((spec_LayoutValid.f k l1).bind fun t465=>(spec_CatLayouts.j0 k l0 l1 (!t465)))=some (r1,r2):=by rw [if_pos rfl] at H;exact H
   clear H
   have H:=H1
   clear H1
   replace H:=Option.bind_eq_some_iff.mp H
   obtain ⟨t465,A60,H⟩:=H
   replace H:(spec_CatLayouts.j0 k l0 l1 (!t465))=some (r1,r2):=H
   have A6:=Aside0.mk A60
   clear A60
   have H':=Aside0.mk H
   clear H
   go_wp2_with (first|((with_reducible refine gate_callee (f:=29) rfl ?_);refine goesL_ (some 8) rfl rfl Try.func29 (by kernel_rfl) rfl #[.slice A0 l0.length c0] rfl (by (try simp only [List.map_toArray,List.map_cons,List.map_nil]);first|done|rfl|(simp only [List.length_drop,List.length_take];rfl)) ?_;(with_reducible refine (spec_LayoutValid.calls k _ _ l0 true _ ?side1 ?side2 A4.out).mono ?_);(case side1=>repeat (first|exact (Kd.C_below HR0.out HB.out)|(with_reducible refine Kd.C_alloc ?_ _)|(with_reducible refine Kd.C_drewN ?_ _)|(with_reducible refine Kd.C_drew ?_)));(case side2=>exact HC0.out);rintro e w' ⟨rfl,⟨nd,rfl⟩⟩;refine ⟨_,rfl,?_⟩)|(go_at_call 29;(with_reducible refine (spec_LayoutValid.calls k _ _ l1 t465 _ ?side1 ?side2 A6.out).mono ?_);(case side1=>repeat (first|exact (Kd.C_below HR1.out (by repeat (first|(with_reducible first|exact HB.out|apply below_alloc|apply pw_below_drewN|apply below_drew1)|exact HB.out)))|(with_reducible refine Kd.C_alloc ?_ _)|(with_reducible refine Kd.C_drewN ?_ _)|(with_reducible refine Kd.C_drew ?_)));(case side2=>exact HC1.out);rintro e w' ⟨rfl,⟨nd,rfl⟩⟩))
   go_meet
   case rel=>exact ⟨_,(!t465),(by first|rfl|(simp;done)|(simp [*];done)),H',⟨by first|omega|exact Nat.le_refl _⟩,⟨by repeat (first|(with_reducible first|exact HB.out|apply below_alloc|apply pw_below_drewN|apply below_drew1)|exact HB.out)⟩⟩
  ·replace c5:=Bool.eq_false_iff.mpr c5
   subst c5
   have H1:(spec_CatLayouts.j0 k l0 l1 true)=some (r1,r2):=by rw [if_neg (show ¬ (false=true) by decide)] at H;exact H
   clear H
   have H:=H1
   clear H1
   have H':=Aside0.mk H
   clear H
   go_wp2_with (first|((with_reducible refine gate_callee (f:=29) rfl ?_);refine goesL_ (some 8) rfl rfl Try.func29 (by kernel_rfl) rfl #[.slice A0 l0.length c0] rfl (by (try simp only [List.map_toArray,List.map_cons,List.map_nil]);first|done|rfl|(simp only [List.length_drop,List.length_take];rfl)) ?_;(with_reducible refine (spec_LayoutValid.calls k _ _ l0 false _ ?side1 ?side2 A4.out).mono ?_);(case side1=>repeat (first|exact (Kd.C_below HR0.out HB.out)|(with_reducible refine Kd.C_alloc ?_ _)|(with_reducible refine Kd.C_drewN ?_ _)|(with_reducible refine Kd.C_drew ?_)));(case side2=>exact HC0.out);rintro e w' ⟨rfl,⟨nd,rfl⟩⟩;refine ⟨_,rfl,?_⟩))
   go_meet
   case rel=>exact ⟨_,(true),(by first|rfl|(simp;done)|(simp [*];done)),H',⟨by first|omega|exact Nat.le_refl _⟩,⟨by repeat (first|(with_reducible first|exact HB.out|apply below_alloc|apply pw_below_drewN|apply below_drew1)|exact HB.out)⟩⟩
 case rest =>
  clear HC3
  try clear c1 c2 p2 c5
  obtain ⟨kq,x14_2,rfl,HA,HJ2,HB⟩:=hcut
  cases kq with
  | zero=>exact absurd HA.out (by simp [spec_CatLayouts.j0])
  | succ kj2 =>
   have H:=HA.out
   clear HA
   simp only [spec_CatLayouts.j0] at H
   by_cases c7:x14_2=true
   ·subst c7
    have H1:(some ((([]:List (SRow))),false))=some (r1,r2):=by rw [if_pos rfl] at H;exact H
    clear H
    have H:=H1
    clear H1
    obtain ⟨y466,hy466⟩:∃ y_:List (SRow),y_=(([]:List (SRow))):=⟨_,rfl⟩
    replace H:(some (y466,false))=some (r1,r2):=by first|(rw [hy466];with_reducible exact H)|(have H2_:=(Option.bind_some _ _).symm.trans H;rw [hy466];with_reducible exact H2_)|(have H2_:=(Option.bind_some _ _).symm.trans H;with_reducible exact H2_)|with_reducible exact H|(rw [hy466];exact H)|exact H
    have Ny466:=Aside0.mk hy466
    clear hy466
    simp only [Option.some.injEq,Prod.mk.injEq] at H
    obtain ⟨rfl,rfl⟩:=H
    go_wp2_with (first|((with_reducible refine gate_dst (N:=15) rfl ?_);refine Kd.R_lit k30 _ 30 ?hg (N:=15) ?hd (xs:=([]:List (SRow))) (inner:=[]) (ok:=fun _=>True) (okp:=fun _=>True) ?hr ?hp (fun _ hk=>hk) trivial (Below.refl _ _) (Nat.le_refl _) (by simp) ?_;(case hd=>rfl);(case hg=>rfl);(case hr=>first|(go_simp;done)|(go_simp;rfl));(case hp=>exact (Reps.none _ _));intro v467 w8 ho9 hb hg_ hnew_;clear hg_ hnew_;(first|rw [← Ny466.out] at ho9|(simp only [Int.reduceToNat] at ho9;rw [← Ny466.out] at ho9));have n0_:=Aside0.mk (Kd.R_lower ho9 (below_size (by repeat (first|(with_reducible first|exact HB.out|apply below_alloc|apply pw_below_drewN|apply below_drew1)|exact HB.out))));have n1_:=Aside0.mk (below_step (by repeat (first|(with_reducible first|exact HB.out|apply below_alloc|apply pw_below_drewN|apply below_drew1)|exact HB.out)) hb);clear HB;have HO468:=n0_;have HB:=n1_;clear n0_ n1_;clear hb ho9))
    go_ret2
    exact ⟨_,by first|rfl|(simp [errW_none,errW_some] <;> rfl)|(simp [*,errW_none,errW_some] <;> rfl),by (with_reducible repeat (first|apply Kd.R_alloc|apply Kd.R_drewN|apply Kd.R_drew));exact HO468.out,by repeat (first|(with_reducible first|exact HB.out|apply below_alloc|apply pw_below_drewN|apply below_drew1)|exact HB.out)⟩
   ·replace c7:=Bool.eq_false_iff.mpr c7
    subst c7
    have H1:((spec_l2Cat.f l0 l1).bind fun t469=>((spec_LayoutValid.f kj2 t469).bind fun t472=>(if t472=true then (some (t469,true)) else (some ((([]:List (SRow))),false)))))=some (r1,r2):=by rw [if_neg (show ¬ (false=true) by decide)] at H;exact H
    clear H
    have H:=H1
    clear H1
    replace H:=Option.bind_eq_some_iff.mp H
    obtain ⟨t469,A100,H⟩:=H
    replace H:((spec_LayoutValid.f kj2 t469).bind fun t472=>(if t472=true then (some (t469,true)) else (some ((([]:List (SRow))),false))))=some (r1,r2):=H
    have A10:=Aside0.mk A100
    clear A100
    replace H:=Option.bind_eq_some_iff.mp H
    obtain ⟨t472,A110,H⟩:=H
    replace H:(if t472=true then (some (t469,true)) else (some ((([]:List (SRow))),false)))=some (r1,r2):=H
    have A11:=Aside0.mk A110
    clear A110
    by_cases c12:t472=true
    ·subst c12
     have H1:(some (t469,true))=some (r1,r2):=by rw [if_pos rfl] at H;exact H
     clear H
     have H:=H1
     clear H1
     simp only [Option.some.injEq,Prod.mk.injEq] at H
     obtain ⟨rfl,rfl⟩:=H
     go_wp2_with (first|((with_reducible refine gate_callee (f:=43) rfl ?_);refine goesL_ (some 18) rfl rfl Try.func43 (by kernel_rfl) rfl #[.slice A0 l0.length c0,.slice A1 l1.length c1] rfl (by (try simp only [List.map_toArray,List.map_cons,List.map_nil]);first|done|rfl|(simp only [List.length_drop,List.length_take];rfl)) ?_;(with_reducible refine (spec_l2Cat.calls _ _ l0 _ _ l1 t469 _ ?side1 ?side2 ?side3 ?side4 A10.out).mono ?_);(case side1=>repeat (first|exact (Kd.C_below HR0.out HB.out)|(with_reducible refine Kd.C_alloc ?_ _)|(with_reducible refine Kd.C_drewN ?_ _)|(with_reducible refine Kd.C_drew ?_)));(case side2=>exact HC0.out);(case side3=>repeat (first|exact (Kd.C_below HR1.out HB.out)|(with_reducible refine Kd.C_alloc ?_ _)|(with_reducible refine Kd.C_drewN ?_ _)|(with_reducible refine Kd.C_drew ?_)));(case side4=>exact HC1.out);rintro e w13 ⟨v470,rfl,ho0,hb⟩;refine ⟨_,rfl,?_⟩;have n0_:=Aside0.mk (Kd.R_lower ho0 (below_size (by repeat (first|(with_reducible first|exact HB.out|apply below_alloc|apply pw_below_drewN|apply below_drew1)|exact HB.out))));have n1_:=Aside0.mk (below_step (by repeat (first|(with_reducible first|exact HB.out|apply below_alloc|apply pw_below_drewN|apply below_drew1)|exact HB.out)) hb);clear HB;have HO471:=n0_;have HB:=n1_;clear n0_ n1_;(try clear hb);(try clear hb2);(try clear hk);(try clear hi);(try clear ho0);obtain ⟨Ao14,co14,eo14⟩:=Kd.R_slice HO471.out;subst eo14)|((with_reducible refine gate_callee (f:=29) rfl ?_);refine goesL_ (some 20) rfl rfl Try.func29 (by kernel_rfl) rfl #[.slice Ao14 t469.length co14] rfl (by (try simp only [List.map_toArray,List.map_cons,List.map_nil]);first|done|rfl|(simp only [List.length_drop,List.length_take];rfl)) ?_;(with_reducible refine (spec_LayoutValid.calls kj2 _ _ t469 true _ ?side1 ?side2 A11.out).mono ?_);(case side1=>repeat (first|exact (Kd.R_reads' HO471.out).2.2|(with_reducible refine Kd.C_alloc ?_ _)|(with_reducible refine Kd.C_drewN ?_ _)|(with_reducible refine Kd.C_drew ?_)));(case side2=>exact (Kd.R_reads' HO471.out).2.1);rintro e w' ⟨rfl,⟨nd,rfl⟩⟩;refine ⟨_,rfl,?_⟩))
     go_ret2
     exact ⟨_,by first|rfl|(simp [errW_none,errW_some] <;> rfl)|(simp [*,errW_none,errW_some] <;> rfl),by (with_reducible repeat (first|apply Kd.R_alloc|apply Kd.R_drewN|apply Kd.R_drew));exact HO471.out,by repeat (first|(with_reducible first|exact HB.out|apply below_alloc|apply pw_below_drewN|apply below_drew1)|exact HB.out)⟩
    ·replace c12:=Bool.eq_false_iff.mpr c12
     subst c12
     have H1:(some ((([]:List (SRow))),false))=some (r1,r2):=by rw [if_neg (show ¬ (false=true) by decide)] at H;exact H
     clear H
     have H:=H1
     clear H1
     obtain ⟨y473,hy473⟩:∃ y_:List (SRow),y_=(([]:List (SRow))):=⟨_,rfl⟩
     replace H:(some (y473,false))=some (r1,r2):=by first|(rw [hy473];with_reducible exact H)|(have H2_:=(Option.bind_some _ _).symm.trans H;rw [hy473];with_reducible exact H2_)|(have H2_:=(Option.bind_some _ _).symm.trans H;with_reducible exact H2_)|with_reducible exact H|(rw [hy473];exact H)|exact H
     have Ny473:=Aside0.mk hy473
     clear hy473
     simp only [Option.some.injEq,Prod.mk.injEq] at H
     obtain ⟨rfl,rfl⟩:=H
     go_wp2_with (first|((with_reducible refine gate_callee (f:=43) rfl ?_);refine goesL_ (some 18) rfl rfl Try.func43 (by kernel_rfl) rfl #[.slice A0 l0.length c0,.slice A1 l1.length c1] rfl (by (try simp only [List.map_toArray,List.map_cons,List.map_nil]);first|done|rfl|(simp only [List.length_drop,List.length_take];rfl)) ?_;(with_reducible refine (spec_l2Cat.calls _ _ l0 _ _ l1 t469 _ ?side1 ?side2 ?side3 ?side4 A10.out).mono ?_);(case side1=>repeat (first|exact (Kd.C_below HR0.out HB.out)|(with_reducible refine Kd.C_alloc ?_ _)|(with_reducible refine Kd.C_drewN ?_ _)|(with_reducible refine Kd.C_drew ?_)));(case side2=>exact HC0.out);(case side3=>repeat (first|exact (Kd.C_below HR1.out HB.out)|(with_reducible refine Kd.C_alloc ?_ _)|(with_reducible refine Kd.C_drewN ?_ _)|(with_reducible refine Kd.C_drew ?_)));(case side4=>exact HC1.out);rintro e w15 ⟨v470,rfl,ho0,hb⟩;refine ⟨_,rfl,?_⟩;have n0_:=Aside0.mk (Kd.R_lower ho0 (below_size (by repeat (first|(with_reducible first|exact HB.out|apply below_alloc|apply pw_below_drewN|apply below_drew1)|exact HB.out))));have n1_:=Aside0.mk (below_step (by repeat (first|(with_reducible first|exact HB.out|apply below_alloc|apply pw_below_drewN|apply below_drew1)|exact HB.out)) hb);clear HB;have HO471:=n0_;have HB:=n1_;clear n0_ n1_;(try clear hb);(try clear hb2);(try clear hk);(try clear hi);(try clear ho0);obtain ⟨Ao16,co16,eo16⟩:=Kd.R_slice HO471.out;subst eo16)|((with_reducible refine gate_callee (f:=29) rfl ?_);refine goesL_ (some 20) rfl rfl Try.func29 (by kernel_rfl) rfl #[.slice Ao16 t469.length co16] rfl (by (try simp only [List.map_toArray,List.map_cons,List.map_nil]);first|done|rfl|(simp only [List.length_drop,List.length_take];rfl)) ?_;(with_reducible refine (spec_LayoutValid.calls kj2 _ _ t469 false _ ?side1 ?side2 A11.out).mono ?_);(case side1=>repeat (first|exact (Kd.R_reads' HO471.out).2.2|(with_reducible refine Kd.C_alloc ?_ _)|(with_reducible refine Kd.C_drewN ?_ _)|(with_reducible refine Kd.C_drew ?_)));(case side2=>exact (Kd.R_reads' HO471.out).2.1);rintro e w' ⟨rfl,⟨nd,rfl⟩⟩;refine ⟨_,rfl,?_⟩)|((with_reducible refine gate_dst (N:=22) rfl ?_);refine Kd.R_lit k30 _ 30 ?hg (N:=22) ?hd (xs:=([]:List (SRow))) (inner:=[]) (ok:=fun _=>True) (okp:=fun _=>True) ?hr ?hp (fun _ hk=>hk) trivial (Below.refl _ _) (Nat.le_refl _) (by simp) ?_;(case hd=>rfl);(case hg=>rfl);(case hr=>first|(go_simp;done)|(go_simp;rfl));(case hp=>exact (Reps.none _ _));intro v474 w17 ho18 hb hg_ hnew_;clear hg_ hnew_;(first|rw [← Ny473.out] at ho18|(simp only [Int.reduceToNat] at ho18;rw [← Ny473.out] at ho18));have n0_:=Aside0.mk (Kd.R_elder' (by (with_reducible repeat (first|apply Kd.R_alloc|apply Kd.R_drewN|apply Kd.R_drew));exact HO471.out) (Kd.R_base ho18) hb);have n1_:=Aside0.mk (Kd.R_lower (Kd.R_new' ho18 (Kd.R_lt (by (with_reducible repeat (first|apply Kd.R_alloc|apply Kd.R_drewN|apply Kd.R_drew));exact HO471.out))) (below_size (by repeat (first|(with_reducible first|exact HB.out|apply below_alloc|apply pw_below_drewN|apply below_drew1)|exact HB.out))));have n2_:=Aside0.mk (below_step (by repeat (first|(with_reducible first|exact HB.out|apply below_alloc|apply pw_below_drewN|apply below_drew1)|exact HB.out)) hb);clear HO471;clear HB;have HO471:=n0_;have HO475:=n1_;have HB:=n2_;clear n0_ n1_ n2_;clear hb ho18))
     go_ret2
     exact ⟨_,by first|rfl|(simp [errW_none,errW_some] <;> rfl)|(simp [*,errW_none,errW_some] <;> rfl),by (with_reducible repeat (first|apply Kd.R_alloc|apply Kd.R_drewN|apply Kd.R_drew));exact Kd.R_mono HO475.out (fun _ hk=>trivial),by repeat (first|(with_reducible first|exact HB.out|apply below_alloc|apply pw_below_drewN|apply below_drew1)|exact HB.out)⟩
end Go.Proofs.Ytdhdfmmefghijab.P
namespace Go.Proofs.Ytdhdfmmefghijab.P
open Go.RowKit Go.Proofs.YtdhdfmmefghijabW.PrintWords Go.Proofs.YtdhdfmmefghijabW.PrintLast Go.Proofs.YtdhdfmmefghijabW.PrintMore
attribute [local go_sem] max2_int min2_int max_two min_two max_three min_three max_four min_four
set_option linter.unusedVariables false
set_option linter.unusedSimpArgs false
theorem eqA30 (d:Nat) (w:World) (x0 y0:Int) (x1 y1:ByteArray) :
  (Op.equalIn (d+2) 30 (.agg #[.int .i64 x0,.string x1]) (.agg #[.int .i64 y0,.string y1])).run Try.prog w=.ok (x0 == y0 && (x1.toList == y1.toList)) w:=by
 refine eqA_of Try.underlying30 (by kernel_rfl) ?_
 refine eqf_cons (by rfl) (by go_simp;rfl) (by go_simp;rfl) (by go_simp) ?_
 exact eqf_last (by rfl) (by go_simp;rfl) (by go_simp;rfl) (by go_simp)
end Go.Proofs.Ytdhdfmmefghijab.P
namespace Go.Proofs.Ytdhdfmmefghijab.P
open Go.RowKit Go.Proofs.YtdhdfmmefghijabW.PrintWords Go.Proofs.YtdhdfmmefghijabW.PrintLast Go.Proofs.YtdhdfmmefghijabW.PrintMore
attribute [local go_sem] max2_int min2_int max_two min_two max_three min_three max_four min_four
set_option linter.unusedVariables false
set_option linter.unusedSimpArgs false
attribute [local go_sem high] eqA30
def slices_Equal_Llimpl_Row.l0:Nat→List (SRow)→List (SRow)→Int→Int→Option (Bool)
 | 0,_,_,_,_=>none
 | k+1,x0,x1,x12,x13=>if x13 < x12 then (if 0≤x13 then (if x13 < (x0.length:Int) then (if x13 < (x1.length:Int) then (if (!(((rd_TRow x0 x13).f0) == ((rd_TRow x1 x13).f0)) || (!((((rd_TRow x0 x13).f1).toList) == (((rd_TRow x1 x13).f1).toList))))=true then (some false) else (slices_Equal_Llimpl_Row.l0 k x0 x1 x12 (wrap64 (x13+1)))) else (none)) else (none)) else (none)) else (some true)
def slices_Equal_Llimpl_Row.f (k:Nat) (l0:List (SRow)) (l1:List (SRow)):Option (Bool):=if (l0.length:Int)=(l1.length:Int) then (slices_Equal_Llimpl_Row.l0 k l0 l1 (l0.length:Int) 0) else (some false)
set_option maxHeartbeats 8000000 in
set_option maxRecDepth 100000 in
theorem slices_Equal_Llimpl_Row.calls (k:Nat) (A0:Option Addr) (c0:Nat) (l0:List (SRow)) (A1:Option Addr) (c1:Nat) (l1:List (SRow)) (r:Bool) (w:World) (hr0:Kd.C k30 w A0 l0.length l0) (hc0:l0.length≤c0) (hr1:Kd.C k30 w A1 l1.length l1) (hc1:l1.length≤c1) (h:slices_Equal_Llimpl_Row.f k l0 l1=some r) :
  Calls Try.prog 44 #[.slice A0 l0.length c0,.slice A1 l1.length c1] w fun e w'=>e=.returned (.bool r)∧Drawn0 w w':=by
 have hu30:=Try.underlying30
 have HR0:=Aside0.mk hr0
 have HC0:=Aside0.mk hc0
 clear hr0 hc0
 have HR1:=Aside0.mk hr1
 have HC1:=Aside0.mk hc1
 clear hr1 hc1
 have H:(if (l0.length:Int)=(l1.length:Int) then (slices_Equal_Llimpl_Row.l0 k l0 l1 (l0.length:Int) 0) else (some false))=some r:=h
 clear h
 by_cases c3:(l0.length:Int)=(l1.length:Int)
 ·rw [if_pos c3] at H
  have c3b0:((l0.length:Int) == (l1.length:Int))=true:=beq_iff_eq.mpr c3
  have c3b1:((l0.length:Int) != (l1.length:Int))=false:=bne_eq_false_iff_eq.mpr c3
  have c3b2:(l0.length == l1.length)=true:=by first|simpa using c3|(simp at c3 ⊢;omega)
  clear c3
  have H':=Aside0.mk H
  clear H
  go_enter Try.func44,Try.ntmps44
  go_wp2
  repeat (go_quiet (fail);try go_wp2)
  go_loopg [13] k (fun kq v13 w'=>∃ (x13_1:Int),v13=.int .i64 x13_1∧Aside0 (slices_Equal_Llimpl_Row.l0 kq l0 l1 (l0.length:Int) x13_1=some r)∧Aside0 (kq≤k)∧Drawn0 w w')
  case atStart=>exact ⟨(0),(by first|rfl|(simp;done)|(simp [*];done)),H',⟨Nat.le_refl _⟩,by repeat (first|exact Drawn0.refl _|apply Drawn0.step)⟩
  case round =>
   clear H'
   try clear c1 p2 c3 c3b0 c3b1 c3b2
   obtain ⟨x13_1,rfl,HA,HK1,⟨m1,rfl⟩⟩:=hrel
   cases gk with
   | zero=>exact absurd HA.out (by simp [slices_Equal_Llimpl_Row.l0])
   | succ k1 =>
    have H:=HA.out
    clear HA
    simp only [slices_Equal_Llimpl_Row.l0] at H
    by_cases c4:x13_1 < (l0.length:Int)
    ·rw [if_pos c4] at H
     have c4b0:decide (x13_1 < (l0.length:Int))=true:=decide_eq_true c4
     clear c4
     by_cases c5:0≤x13_1
     ·rw [if_pos c5] at H
      have c5b0:decide (0≤x13_1)=true:=decide_eq_true c5
      clear c5
      by_cases c6:x13_1 < (l0.length:Int)
      ·rw [if_pos c6] at H
       have c6b0:decide (x13_1 < (l0.length:Int))=true:=decide_eq_true c6
       clear c6
       by_cases c7:x13_1 < (l1.length:Int)
       ·rw [if_pos c7] at H
        have c7b0:decide (x13_1 < (l1.length:Int))=true:=decide_eq_true c7
        clear c7
        by_cases c8:(!(((rd_TRow l0 x13_1).f0) == ((rd_TRow l1 x13_1).f0)) || (!((((rd_TRow l0 x13_1).f1).toList) == (((rd_TRow l1 x13_1).f1).toList))))=true
        ·rw [if_pos c8] at H
         have c8b0:(!(((rd_TRow l0 x13_1).f0) == ((rd_TRow l1 x13_1).f0)) || (!((((rd_TRow l0 x13_1).f1).toList) == (((rd_TRow l1 x13_1).f1).toList))))=true:=c8
         clear c8
         obtain rfl:=Option.some.inj H
         have p476:0≤(x13_1:Int):=of_decide_eq_true (by first|(with_reducible assumption)|assumption)
         have q476:x13_1 < (l0.length:Int):=of_decide_eq_true (by first|(with_reducible assumption)|assumption)
         obtain ⟨ad476,e476,hx476_0,hx476_1⟩:=at_TRow HR0.out x13_1 p476 q476
         cases e476
         replace p476:=eq_true p476
         replace q476:=eq_true q476
         have p477:0≤(x13_1:Int):=of_decide_eq_true (by first|(with_reducible assumption)|assumption)
         have q477:x13_1 < (l1.length:Int):=of_decide_eq_true (by first|(with_reducible assumption)|assumption)
         obtain ⟨ad477,e477,hx477_0,hx477_1⟩:=at_TRow HR1.out x13_1 p477 q477
         cases e477
         replace p477:=eq_true p477
         replace q477:=eq_true q477
         go_wp2
         repeat (go_quiet (fail);try go_wp2)
         go_ret
         exact ⟨by first|rfl|(simp;done)|(simp [*];done),by repeat (first|exact Drawn0.refl _|apply Drawn0.step)⟩
        ·rw [if_neg c8] at H
         have c8b0:(!(((rd_TRow l0 x13_1).f0) == ((rd_TRow l1 x13_1).f0)) || (!((((rd_TRow l0 x13_1).f1).toList) == (((rd_TRow l1 x13_1).f1).toList))))=false:=by simpa using c8
         clear c8
         have H':=Aside0.mk H
         clear H
         have p476:0≤(x13_1:Int):=of_decide_eq_true (by first|(with_reducible assumption)|assumption)
         have q476:x13_1 < (l0.length:Int):=of_decide_eq_true (by first|(with_reducible assumption)|assumption)
         obtain ⟨ad476,e476,hx476_0,hx476_1⟩:=at_TRow HR0.out x13_1 p476 q476
         cases e476
         replace p476:=eq_true p476
         replace q476:=eq_true q476
         have p477:0≤(x13_1:Int):=of_decide_eq_true (by first|(with_reducible assumption)|assumption)
         have q477:x13_1 < (l1.length:Int):=of_decide_eq_true (by first|(with_reducible assumption)|assumption)
         obtain ⟨ad477,e477,hx477_0,hx477_1⟩:=at_TRow HR1.out x13_1 p477 q477
         cases e477
         replace p477:=eq_true p477
         replace q477:=eq_true q477
         go_wp2
         repeat (go_quiet (fail);try go_wp2)
         go_roundg k1
         case measure=>have:=HK1.out;omega
         case rel=>exact ⟨(wrap64 (x13_1+1)),(by first|rfl|(simp;done)|(simp [*];done)),H',⟨by have:=HK1.out;omega⟩,by repeat (first|exact Drawn0.refl _|apply Drawn0.step)⟩
       ·rw [if_neg c7] at H
        exact absurd H (by simp)
      ·rw [if_neg c6] at H
       exact absurd H (by simp)
     ·rw [if_neg c5] at H
      exact absurd H (by simp)
    ·rw [if_neg c4] at H
     have c4b0:decide (x13_1 < (l0.length:Int))=false:=decide_eq_false c4
     clear c4
     obtain rfl:=Option.some.inj H
     go_wp2
     repeat (go_quiet (fail);try go_wp2)
     go_ret
     exact ⟨by first|rfl|(simp;done)|(simp [*];done),by repeat (first|exact Drawn0.refl _|apply Drawn0.step)⟩
 ·rw [if_neg c3] at H
  have c3b0:((l0.length:Int) == (l1.length:Int))=false:=beq_eq_false_iff_ne.mpr c3
  have c3b1:((l0.length:Int) != (l1.length:Int))=true:=bne_iff_ne.mpr c3
  have c3b2:(l0.length == l1.length)=false:=by first|simpa using c3|(simp at c3 ⊢;omega)
  obtain rfl:=Option.some.inj H
  go_enter Try.func44,Try.ntmps44
  go_wp2
  repeat (go_quiet (fail);try go_wp2)
  go_ret
  exact ⟨by first|rfl|(simp;done)|(simp [*];done),by repeat (first|exact Drawn0.refl _|apply Drawn0.step)⟩
end Go.Proofs.Ytdhdfmmefghijab.P
namespace Go.Proofs.Ytdhdfmmefghijab.P
open Go.RowKit Go.Proofs.YtdhdfmmefghijabW.PrintWords Go.Proofs.YtdhdfmmefghijabW.PrintLast Go.Proofs.YtdhdfmmefghijabW.PrintMore
attribute [local go_sem] max2_int min2_int max_two min_two max_three min_three max_four min_four
set_option linter.unusedVariables false
set_option linter.unusedSimpArgs false
def impl_LayoutSame.f (k:Nat) (l0:List (SRow)) (l1:List (SRow)):Option (Bool):=(slices_Equal_Llimpl_Row.f k l0 l1).bind fun t478=>(some t478)
set_option maxHeartbeats 8000000 in
set_option maxRecDepth 100000 in
theorem impl_LayoutSame.calls (k:Nat) (A0:Option Addr) (c0:Nat) (l0:List (SRow)) (A1:Option Addr) (c1:Nat) (l1:List (SRow)) (r:Bool) (w:World) (hr0:Kd.C k30 w A0 l0.length l0) (hc0:l0.length≤c0) (hr1:Kd.C k30 w A1 l1.length l1) (hc1:l1.length≤c1) (h:impl_LayoutSame.f k l0 l1=some r) :
  Calls Try.prog 18 #[.slice A0 l0.length c0,.slice A1 l1.length c1] w fun e w'=>e=.returned (.bool r)∧Drawn0 w w':=by
 have HR0:=Aside0.mk hr0
 have HC0:=Aside0.mk hc0
 clear hr0 hc0
 have HR1:=Aside0.mk hr1
 have HC1:=Aside0.mk hc1
 clear hr1 hc1
 have H:((slices_Equal_Llimpl_Row.f k l0 l1).bind fun t478=>(some t478))=some r:=h
 clear h
 replace H:=Option.bind_eq_some_iff.mp H
 obtain ⟨t478,A30,H⟩:=H
 replace H:(some t478)=some r:=H
 have A3:=Aside0.mk A30
 clear A30
 obtain rfl:=Option.some.inj H
 go_enter Try.func18,Try.ntmps18
 go_wp2_with (first|((with_reducible refine gate_callee (f:=44) rfl ?_);refine goesL_ (some 7) rfl rfl Try.func44 (by kernel_rfl) rfl #[.slice A0 l0.length c0,.slice A1 l1.length c1] rfl (by (try simp only [List.map_toArray,List.map_cons,List.map_nil]);first|done|rfl|(simp only [List.length_drop,List.length_take];rfl)) ?_;(with_reducible refine (slices_Equal_Llimpl_Row.calls k _ _ l0 _ _ l1 t478 _ ?side1 ?side2 ?side3 ?side4 A3.out).mono ?_);(case side1=>repeat (first|exact HR0.out|(with_reducible refine Kd.C_alloc ?_ _)|(with_reducible refine Kd.C_drewN ?_ _)|(with_reducible refine Kd.C_drew ?_)));(case side2=>exact HC0.out);(case side3=>repeat (first|exact HR1.out|(with_reducible refine Kd.C_alloc ?_ _)|(with_reducible refine Kd.C_drewN ?_ _)|(with_reducible refine Kd.C_drew ?_)));(case side4=>exact HC1.out);rintro e w' ⟨rfl,⟨nd,rfl⟩⟩;refine ⟨_,rfl,?_⟩))
 go_ret
 exact ⟨by first|rfl|(simp;done)|(simp [*];done),by repeat (first|exact Drawn0.refl _|apply Drawn0.step)⟩
end Go.Proofs.Ytdhdfmmefghijab.P
namespace Go.Proofs.Ytdhdfmmefghijab.P
open Go.RowKit Go.Proofs.YtdhdfmmefghijabW.PrintWords Go.Proofs.YtdhdfmmefghijabW.PrintLast Go.Proofs.YtdhdfmmefghijabW.PrintMore
attribute [local go_sem] max2_int min2_int max_two min_two max_three min_three max_four min_four
set_option linter.unusedVariables false
set_option linter.unusedSimpArgs false
def laws_FnCatLayouts.j0:Nat→List (SRow)→List (SRow)→List (SRow)→Bool→List (SRow)→Bool→Bool→Option (Bool)
 | 0,_,_,_,_,_,_,_=>none
 | k+1,x3,x4,x5,x6,x7,x8,x42=>if x42=true then ((impl_LayoutSame.f k x5 x7).bind fun t558=>(if t558=true then (some (x6 == x8)) else (none))) else ((impl_LayoutValid.f k x5).bind fun t559=>(if t559=true then (if (x5.length:Int)=(wrap64 ((wrap64 ((x3.length:Int)+(x4.length:Int))) - 1)) then (if 0≤(wrap64 ((x3.length:Int) - 1)) then (if (wrap64 ((x3.length:Int) - 1)) < (x5.length:Int) then (if (wrap64 ((x3.length:Int) - 1)) < (x3.length:Int) then (if 0 < (x4.length:Int) then (if ((rd_TRow x3 (wrap64 ((x3.length:Int) - 1))).f1).size+((rd_TRow x4 0).f1).size≤9223372036854775807 then (if ((rd_TRow x5 (wrap64 ((x3.length:Int) - 1))).f1).toList=(((rd_TRow x3 (wrap64 ((x3.length:Int) - 1))).f1)++((rd_TRow x4 0).f1)).toList then (if (wrap64 ((x3.length:Int) - 1))≤(x5.length:Int) then (if (wrap64 ((x3.length:Int) - 1))≤(x3.length:Int) then ((impl_LayoutSame.f k (x5.take ((wrap64 ((x3.length:Int) - 1)):Int).toNat) (x3.take ((wrap64 ((x3.length:Int) - 1)):Int).toNat)).bind fun t571=>(if t571=true then (if 0≤(x3.length:Int) then (if (x3.length:Int)≤(x5.length:Int) then (if 1≤(x4.length:Int) then ((impl_LayoutSame.f k (x5.drop ((x3.length:Int):Int).toNat) (x4.drop 1)).bind fun t580=>(some t580)) else (none)) else (none)) else (none)) else (none))) else (none)) else (none)) else (none)) else (none)) else (none)) else (none)) else (none)) else (none)) else (none)) else (none)))
def laws_FnCatLayouts.f (k:Nat) (l0:List Int):Option (Bool):=if (l0.length:Int) > 1048576 then (some true) else ((spec_DrawCatLayouts.f k l0).bind fun bt543=>((impl_CatLayouts.f k bt543.1 bt543.2).bind fun bt549=>((spec_CatLayouts.f k bt543.1 bt543.2).bind fun bt553=>((impl_LayoutSame.f k bt549.1 bt553.1).bind fun t557=>(if t557=true then (if (bt549.2 != bt553.2)=true then (laws_FnCatLayouts.j0 k bt543.1 bt543.2 bt549.1 bt549.2 bt553.1 bt553.2 true) else (laws_FnCatLayouts.j0 k bt543.1 bt543.2 bt549.1 bt549.2 bt553.1 bt553.2 (!bt549.2))) else (laws_FnCatLayouts.j0 k bt543.1 bt543.2 bt549.1 bt549.2 bt553.1 bt553.2 true))))))
def laws_FnCatLayouts.T9:Bool × List (List Nat × List Nat):=(true,[([],[]),([0],[0]),([1,1],[1]),([2],[2]),([3,2],[2,3]),([2],[2]),([5,2],[2,5]),([2],[2]),([7,2],[2,7]),([6,8,2],[2,6,8]),([9,2],[2,9]),([4,10,2],[2,4,10]),([2,11],[2,11]),([12,2],[12]),([13],[13]),([13],[13]),([14,15,13],[13,14,15]),([16,13],[13,16]),([17,13],[13,17]),([13],[13]),([13],[13]),([19,20,13],[13,19,20]),([21,13],[13,21]),([22,13],[13,22]),([13],[13]),([24,13],[13,24]),([25,13],[13,25]),([26,13],[13,26]),([23,27,13],[13,23,27]),([18,28,13],[13,18,28]),([13,29],[13,29]),([30,13],[30]),([31],[31]),([31],[31]),([32,33,31],[31,32,33]),([31],[31]),([31],[31]),([35,36,31],[31,35,36]),([34,37,31,31],[31,34,37]),([31,38],[31,38]),([39,38],[39]),([40],[40]),([40],[40]),([42,40],[40,42]),([41,43,40],[40,41,43]),([40],[40]),([45,40],[40,45]),([44,46,40,40],[40,44,46]),([40,47],[40,47]),([48,47,0,1,2,3,4,5,6,7,8,9,10,11,12,13,14,15,16,17,18,19,20,21,22,23,24,25,26,27,28,29,30,31,32,33,34,35,36,37,38,39,40,41,42,43,44,45,46,47,48],[48])])
def laws_FnCatLayouts.B9:List Nat:=[0,1,3,7,15,7,39,7,135,487,999,2047,4095,8191,16383,16383,65535,131071,262143,16383,16383,1589247,3686399,7880703,16383,16793599,50348031,117456895,267927551,536870911,1073741823,2147483647,4294967295,4294967295,17179869183,4294967295,4294967295,107374182399,274877906943,549755813887,1099511627775,2199023255551,2199023255551,6597069766655,17592186044415,2199023255551,37383395344383,140737488355327,281474976710655,562949953421311]
theorem laws_FnCatLayouts.tab9:rtab .any (opsOf Try.f5 9)=laws_FnCatLayouts.T9:=by kernel_rfl
theorem laws_FnCatLayouts.bits9:waitsOk laws_FnCatLayouts.T9.2 laws_FnCatLayouts.B9=true:=by kernel_rfl
set_option maxHeartbeats 8000000 in
set_option maxRecDepth 100000 in
theorem laws_FnCatLayouts.calls (k:Nat) (A0:Option Addr) (c0:Nat) (l0:List Int) (r:Bool) (w:World) (hr0:Kd.C (Kd.int .u8) w A0 l0.length l0) (hc0:l0.length≤c0) (h:laws_FnCatLayouts.f k l0=some r) :
  Calls Try.prog 5 #[.slice A0 l0.length c0] w fun e w'=>e=.returned (.bool r)∧Below w.heap.size w w':=by
 have HR0:=Aside0.mk hr0
 have HC0:=Aside0.mk hc0
 clear hr0 hc0
 have HB:=Aside0.mk (Below.refl w.heap.size w)
 have H:(if (l0.length:Int) > 1048576 then (some true) else ((spec_DrawCatLayouts.f k l0).bind fun bt543=>((impl_CatLayouts.f k bt543.1 bt543.2).bind fun bt549=>((spec_CatLayouts.f k bt543.1 bt543.2).bind fun bt553=>((impl_LayoutSame.f k bt549.1 bt553.1).bind fun t557=>(if t557=true then (if (bt549.2 != bt553.2)=true then (laws_FnCatLayouts.j0 k bt543.1 bt543.2 bt549.1 bt549.2 bt553.1 bt553.2 true) else (laws_FnCatLayouts.j0 k bt543.1 bt543.2 bt549.1 bt549.2 bt553.1 bt553.2 (!bt549.2))) else (laws_FnCatLayouts.j0 k bt543.1 bt543.2 bt549.1 bt549.2 bt553.1 bt553.2 true)))))))=some r:=h
 clear h
 by_cases c2:(l0.length:Int) > 1048576
 ·rw [if_pos c2] at H
  have c2b0:decide (1048576 < (l0.length:Int))=true:=decide_eq_true c2
  have c2b1:decide (1048576 < l0.length)=true:=decide_eq_true (by omega)
  clear c2
  obtain rfl:=Option.some.inj H
  go_enter Try.func5,Try.ntmps5
  go_wp2
  go_ret
  exact ⟨by first|rfl|(simp [errW_none,errW_some] <;> rfl)|(simp [*,errW_none,errW_some] <;> rfl),gB HB⟩
 ·rw [if_neg c2] at H
  have c2b0:decide (1048576 < (l0.length:Int))=false:=decide_eq_false c2
  have c2b1:decide (1048576 < l0.length)=false:=decide_eq_false (by omega)
  clear c2
  replace H:=Option.bind_eq_some_iff.mp H
  obtain ⟨⟨t543,t544⟩,A30,H⟩:=H
  replace H:((impl_CatLayouts.f k t543 t544).bind fun bt549=>((spec_CatLayouts.f k t543 t544).bind fun bt553=>((impl_LayoutSame.f k bt549.1 bt553.1).bind fun t557=>(if t557=true then (if (bt549.2 != bt553.2)=true then (laws_FnCatLayouts.j0 k t543 t544 bt549.1 bt549.2 bt553.1 bt553.2 true) else (laws_FnCatLayouts.j0 k t543 t544 bt549.1 bt549.2 bt553.1 bt553.2 (!bt549.2))) else (laws_FnCatLayouts.j0 k t543 t544 bt549.1 bt549.2 bt553.1 bt553.2 true)))))=some r:=H
  have A3:=Aside0.mk A30
  clear A30
  replace H:=Option.bind_eq_some_iff.mp H
  obtain ⟨⟨t549,t550⟩,A40,H⟩:=H
  replace H:((spec_CatLayouts.f k t543 t544).bind fun bt553=>((impl_LayoutSame.f k t549 bt553.1).bind fun t557=>(if t557=true then (if (t550 != bt553.2)=true then (laws_FnCatLayouts.j0 k t543 t544 t549 t550 bt553.1 bt553.2 true) else (laws_FnCatLayouts.j0 k t543 t544 t549 t550 bt553.1 bt553.2 (!t550))) else (laws_FnCatLayouts.j0 k t543 t544 t549 t550 bt553.1 bt553.2 true))))=some r:=H
  have A4:=Aside0.mk A40
  clear A40
  replace H:=Option.bind_eq_some_iff.mp H
  obtain ⟨⟨t553,t554⟩,A50,H⟩:=H
  replace H:((impl_LayoutSame.f k t549 t553).bind fun t557=>(if t557=true then (if (t550 != t554)=true then (laws_FnCatLayouts.j0 k t543 t544 t549 t550 t553 t554 true) else (laws_FnCatLayouts.j0 k t543 t544 t549 t550 t553 t554 (!t550))) else (laws_FnCatLayouts.j0 k t543 t544 t549 t550 t553 t554 true)))=some r:=H
  have A5:=Aside0.mk A50
  clear A50
  have HC6:=Aside0.mk H
  clear H
  go_enter Try.func5,Try.ntmps5
  go_upto_region 6 with (first|((with_reducible refine gate_callee (f:=15) rfl ?_);refine goesL_ (some 15) rfl rfl Try.func15 (by kernel_rfl) rfl #[.slice A0 l0.length c0] rfl (by (try simp only [List.map_toArray,List.map_cons,List.map_nil]);first|done|rfl|(simp only [List.length_drop,List.length_take];rfl)) ?_;(with_reducible refine (spec_DrawCatLayouts.calls k _ _ l0 t543 t544 _ ?side1 ?side2 A3.out).mono ?_);(case side1=>repeat (first|exact HR0.out|(with_reducible refine Kd.C_alloc ?_ _)|(with_reducible refine Kd.C_drewN ?_ _)|(with_reducible refine Kd.C_drew ?_)));(case side2=>exact HC0.out);rintro e w7 ⟨v545,v547,rfl,ho0,ho1,hb⟩;refine ⟨_,rfl,?_⟩;have n0_:=Aside0.mk (Kd.R_lower ho0 (below_size (gB HB)));have n1_:=Aside0.mk (Kd.R_lower ho1 (below_size (gB HB)));have n2_:=Aside0.mk (below_step (gB HB) hb);clear HB;have HO546:=n0_;have HO548:=n1_;have HB:=n2_;clear n0_ n1_ n2_;(try clear hb);(try clear hb2);(try clear hk);(try clear hi);(try clear ho0);(try clear ho1);obtain ⟨Ao8,co8,eo8⟩:=Kd.R_slice HO546.out;subst eo8;obtain ⟨Ao9,co9,eo9⟩:=Kd.R_slice HO548.out;subst eo9)|((with_reducible refine gate_callee (f:=16) rfl ?_);refine goesL_ (some 21) rfl rfl Try.func16 (by kernel_rfl) rfl #[.slice Ao8 t543.length co8,.slice Ao9 t544.length co9] rfl (by (try simp only [List.map_toArray,List.map_cons,List.map_nil]);first|done|rfl|(simp only [List.length_drop,List.length_take];rfl)) ?_;(with_reducible refine (impl_CatLayouts.calls k _ _ t543 _ _ t544 t549 t550 _ ?side1 ?side2 ?side3 ?side4 A4.out).mono ?_);(case side1=>exact gC ((Kd.R_reads' HO546.out).2.2));(case side2=>exact (Kd.R_reads' HO546.out).2.1);(case side3=>exact gC ((Kd.R_reads' HO548.out).2.2));(case side4=>exact (Kd.R_reads' HO548.out).2.1);rintro e w10 ⟨v551,rfl,ho0,hb⟩;refine ⟨_,rfl,?_⟩;have n0_:=Aside0.mk (Kd.R_elder' (gR HO546) (Kd.R_base ho0) hb);have n1_:=Aside0.mk (Kd.R_elder' (gR HO548) (Kd.R_base ho0) hb);have n2_:=Aside0.mk (Kd.R_lower (Kd.R_new' (Kd.R_new' ho0 (Kd.R_lt (gR HO546))) (Kd.R_lt (gR HO548))) (below_size (gB HB)));have n3_:=Aside0.mk (below_step (gB HB) hb);clear HO546;clear HO548;clear HB;have HO546:=n0_;have HO548:=n1_;have HO552:=n2_;have HB:=n3_;clear n0_ n1_ n2_ n3_;(try clear hb);(try clear hb2);(try clear hk);(try clear hi);(try clear ho0))|((with_reducible refine gate_callee (f:=17) rfl ?_);refine goesL_ (some 27) rfl rfl Try.func17 (by kernel_rfl) rfl #[.slice Ao8 t543.length co8,.slice Ao9 t544.length co9] rfl (by (try simp only [List.map_toArray,List.map_cons,List.map_nil]);first|done|rfl|(simp only [List.length_drop,List.length_take];rfl)) ?_;(with_reducible refine (spec_CatLayouts.calls k _ _ t543 _ _ t544 t553 t554 _ ?side1 ?side2 ?side3 ?side4 A5.out).mono ?_);(case side1=>exact gC ((Kd.R_reads' HO546.out).2.2));(case side2=>exact (Kd.R_reads' HO546.out).2.1);(case side3=>exact gC ((Kd.R_reads' HO548.out).2.2));(case side4=>exact (Kd.R_reads' HO548.out).2.1);rintro e w11 ⟨v555,rfl,ho0,hb⟩;refine ⟨_,rfl,?_⟩;have n0_:=Aside0.mk (Kd.R_elder' (gR HO546) (Kd.R_base ho0) hb);have n1_:=Aside0.mk (Kd.R_elder' (gR HO548) (Kd.R_base ho0) hb);have n2_:=Aside0.mk (Kd.R_elder' (gR HO552) (Kd.R_base ho0) hb);have n3_:=Aside0.mk (Kd.R_lower (Kd.R_new' (Kd.R_new' (Kd.R_new' ho0 (Kd.R_lt (gR HO546))) (Kd.R_lt (gR HO548))) (Kd.R_lt (gR HO552))) (below_size (gB HB)));have n4_:=Aside0.mk (below_step (gB HB) hb);clear HO546;clear HO548;clear HO552;clear HB;have HO546:=n0_;have HO548:=n1_;have HO552:=n2_;have HO556:=n3_;have HB:=n4_;clear n0_ n1_ n2_ n3_ n4_;(try clear hb);(try clear hb2);(try clear hk);(try clear hi);(try clear ho0)))
  (try simp only [Act.put,List.setIfInBounds_toArray,List.set_cons_zero,List.set_cons_succ])
  go_cut [42] (fun v42 wc=>∃ (kq:Nat) (x42_5:Bool),v42=.bool x42_5∧Aside0 (laws_FnCatLayouts.j0 kq t543 t544 t549 t550 t553 t554 x42_5=some r)∧Aside0 (kq≤k)∧Aside0 (Kd.R k30 30 wc w.heap.size (fun k_=>some k_ ≠ ((.slice Ao9 t544.length co9):Value).ownBlock∧some k_ ≠ (v551:Value).ownBlock∧some k_ ≠ (v555:Value).ownBlock) (.slice Ao8 t543.length co8) t543)∧Aside0 (Kd.R k30 30 wc w.heap.size (fun k_=>some k_ ≠ ((.slice Ao8 t543.length co8):Value).ownBlock∧some k_ ≠ (v551:Value).ownBlock∧some k_ ≠ (v555:Value).ownBlock) (.slice Ao9 t544.length co9) t544)∧Aside0 (Kd.R k30 30 wc w.heap.size (fun k_=>some k_ ≠ ((.slice Ao8 t543.length co8):Value).ownBlock∧some k_ ≠ ((.slice Ao9 t544.length co9):Value).ownBlock∧some k_ ≠ (v555:Value).ownBlock) v551 t549)∧Aside0 (Kd.R k30 30 wc w.heap.size (fun k_=>some k_ ≠ ((.slice Ao8 t543.length co8):Value).ownBlock∧some k_ ≠ ((.slice Ao9 t544.length co9):Value).ownBlock∧some k_ ≠ (v551:Value).ownBlock) v555 t553)∧Aside0 (Below w.heap.size w wc))
  case first =>
   have H:=HC6.out
   clear HC6
   replace H:=Option.bind_eq_some_iff.mp H
   obtain ⟨t557,A120,H⟩:=H
   replace H:(if t557=true then (if (t550 != t554)=true then (laws_FnCatLayouts.j0 k t543 t544 t549 t550 t553 t554 true) else (laws_FnCatLayouts.j0 k t543 t544 t549 t550 t553 t554 (!t550))) else (laws_FnCatLayouts.j0 k t543 t544 t549 t550 t553 t554 true))=some r:=H
   have A12:=Aside0.mk A120
   clear A120
   by_cases c13:t557=true
   ·subst c13
    have H1:(if (t550 != t554)=true then (laws_FnCatLayouts.j0 k t543 t544 t549 t550 t553 t554 true) else (laws_FnCatLayouts.j0 k t543 t544 t549 t550 t553 t554 (!t550)))=some r:=by rw [if_pos rfl] at H;exact H
    clear H
    have H:=H1
    clear H1
    by_cases c14:(t550 != t554)=true
    ·rw [if_pos c14] at H
     have c14b0:(t550 != t554)=true:=c14
     (try (have c14b1:decide (t550=t554)=false:=by simpa using c14))
     (try (have c14b2:(t550 == t554)=false:=by simpa using c14))
     (try (have c14b3:¬ (t550=t554):=by simpa using c14))
     clear c14
     (first|rw [c14b0]|(simp only [i64_w,i32_w];rw [c14b0])|skip)
     have H':=Aside0.mk H
     clear H
     obtain ⟨Ao15,co15,eo15⟩:=Kd.R_slice HO552.out
     subst eo15
     obtain ⟨Ao16,co16,eo16⟩:=Kd.R_slice HO556.out
     subst eo16
     go_wp2_with (first|((with_reducible refine gate_callee (f:=18) rfl ?_);refine goesL_ (some 32) rfl rfl Try.func18 (by kernel_rfl) rfl #[.slice Ao15 t549.length co15,.slice Ao16 t553.length co16] rfl (by (try simp only [List.map_toArray,List.map_cons,List.map_nil]);first|done|rfl|(simp only [List.length_drop,List.length_take];rfl)) ?_;(with_reducible refine (impl_LayoutSame.calls k _ _ t549 _ _ t553 true _ ?side1 ?side2 ?side3 ?side4 A12.out).mono ?_);(case side1=>exact gC ((Kd.R_reads' HO552.out).2.2));(case side2=>exact (Kd.R_reads' HO552.out).2.1);(case side3=>exact gC ((Kd.R_reads' HO556.out).2.2));(case side4=>exact (Kd.R_reads' HO556.out).2.1);rintro e w' ⟨rfl,⟨nd,rfl⟩⟩;refine ⟨_,rfl,?_⟩))
     go_meet
     case rel=>exact ⟨_,(true),(by first|rfl|(simp;done)|(simp [*];done)),H',⟨by first|omega|exact Nat.le_refl _⟩,⟨by (with_reducible repeat (first|apply Kd.R_alloc|apply Kd.R_drewN|apply Kd.R_drew));exact Kd.R_mono HO546.out (fun _ hk=>⟨hk.1.1,⟨hk.1.2,hk.2⟩⟩)⟩,⟨by (with_reducible repeat (first|apply Kd.R_alloc|apply Kd.R_drewN|apply Kd.R_drew));exact Kd.R_mono HO548.out (fun _ hk=>⟨hk.1.1,⟨hk.1.2,hk.2⟩⟩)⟩,⟨by (with_reducible repeat (first|apply Kd.R_alloc|apply Kd.R_drewN|apply Kd.R_drew));exact Kd.R_mono HO552.out (fun _ hk=>⟨hk.1.1.2,⟨hk.1.2,hk.2⟩⟩)⟩,⟨by (with_reducible repeat (first|apply Kd.R_alloc|apply Kd.R_drewN|apply Kd.R_drew));exact Kd.R_mono HO556.out (fun _ hk=>⟨hk.1.1.2,⟨hk.1.2,hk.2⟩⟩)⟩,⟨gB HB⟩⟩
    ·rw [if_neg c14] at H
     have c14b0:(t550 != t554)=false:=by simpa using c14
     (try (have c14b1:decide (t550=t554)=true:=by simpa using c14))
     (try (have c14b2:(t550 == t554)=true:=by simpa using c14))
     clear c14
     (first|rw [c14b0]|(simp only [i64_w,i32_w];rw [c14b0])|skip)
     have H':=Aside0.mk H
     clear H
     obtain ⟨Ao17,co17,eo17⟩:=Kd.R_slice HO552.out
     subst eo17
     obtain ⟨Ao18,co18,eo18⟩:=Kd.R_slice HO556.out
     subst eo18
     go_wp2_with (first|((with_reducible refine gate_callee (f:=18) rfl ?_);refine goesL_ (some 32) rfl rfl Try.func18 (by kernel_rfl) rfl #[.slice Ao17 t549.length co17,.slice Ao18 t553.length co18] rfl (by (try simp only [List.map_toArray,List.map_cons,List.map_nil]);first|done|rfl|(simp only [List.length_drop,List.length_take];rfl)) ?_;(with_reducible refine (impl_LayoutSame.calls k _ _ t549 _ _ t553 true _ ?side1 ?side2 ?side3 ?side4 A12.out).mono ?_);(case side1=>exact gC ((Kd.R_reads' HO552.out).2.2));(case side2=>exact (Kd.R_reads' HO552.out).2.1);(case side3=>exact gC ((Kd.R_reads' HO556.out).2.2));(case side4=>exact (Kd.R_reads' HO556.out).2.1);rintro e w' ⟨rfl,⟨nd,rfl⟩⟩;refine ⟨_,rfl,?_⟩))
     go_meet
     case rel=>exact ⟨_,(!t550),(by first|rfl|(simp;done)|(simp [*];done)),H',⟨by first|omega|exact Nat.le_refl _⟩,⟨by (with_reducible repeat (first|apply Kd.R_alloc|apply Kd.R_drewN|apply Kd.R_drew));exact Kd.R_mono HO546.out (fun _ hk=>⟨hk.1.1,⟨hk.1.2,hk.2⟩⟩)⟩,⟨by (with_reducible repeat (first|apply Kd.R_alloc|apply Kd.R_drewN|apply Kd.R_drew));exact Kd.R_mono HO548.out (fun _ hk=>⟨hk.1.1,⟨hk.1.2,hk.2⟩⟩)⟩,⟨by (with_reducible repeat (first|apply Kd.R_alloc|apply Kd.R_drewN|apply Kd.R_drew));exact Kd.R_mono HO552.out (fun _ hk=>⟨hk.1.1.2,⟨hk.1.2,hk.2⟩⟩)⟩,⟨by (with_reducible repeat (first|apply Kd.R_alloc|apply Kd.R_drewN|apply Kd.R_drew));exact Kd.R_mono HO556.out (fun _ hk=>⟨hk.1.1.2,⟨hk.1.2,hk.2⟩⟩)⟩,⟨gB HB⟩⟩
   ·replace c13:=Bool.eq_false_iff.mpr c13
    subst c13
    have H1:(laws_FnCatLayouts.j0 k t543 t544 t549 t550 t553 t554 true)=some r:=by rw [if_neg (show ¬ (false=true) by decide)] at H;exact H
    clear H
    have H:=H1
    clear H1
    have H':=Aside0.mk H
    clear H
    obtain ⟨Ao19,co19,eo19⟩:=Kd.R_slice HO552.out
    subst eo19
    obtain ⟨Ao20,co20,eo20⟩:=Kd.R_slice HO556.out
    subst eo20
    go_wp2_with (first|((with_reducible refine gate_callee (f:=18) rfl ?_);refine goesL_ (some 32) rfl rfl Try.func18 (by kernel_rfl) rfl #[.slice Ao19 t549.length co19,.slice Ao20 t553.length co20] rfl (by (try simp only [List.map_toArray,List.map_cons,List.map_nil]);first|done|rfl|(simp only [List.length_drop,List.length_take];rfl)) ?_;(with_reducible refine (impl_LayoutSame.calls k _ _ t549 _ _ t553 false _ ?side1 ?side2 ?side3 ?side4 A12.out).mono ?_);(case side1=>exact gC ((Kd.R_reads' HO552.out).2.2));(case side2=>exact (Kd.R_reads' HO552.out).2.1);(case side3=>exact gC ((Kd.R_reads' HO556.out).2.2));(case side4=>exact (Kd.R_reads' HO556.out).2.1);rintro e w' ⟨rfl,⟨nd,rfl⟩⟩;refine ⟨_,rfl,?_⟩))
    go_meet
    case rel=>exact ⟨_,(true),(by first|rfl|(simp;done)|(simp [*];done)),H',⟨by first|omega|exact Nat.le_refl _⟩,⟨by (with_reducible repeat (first|apply Kd.R_alloc|apply Kd.R_drewN|apply Kd.R_drew));exact Kd.R_mono HO546.out (fun _ hk=>⟨hk.1.1,⟨hk.1.2,hk.2⟩⟩)⟩,⟨by (with_reducible repeat (first|apply Kd.R_alloc|apply Kd.R_drewN|apply Kd.R_drew));exact Kd.R_mono HO548.out (fun _ hk=>⟨hk.1.1,⟨hk.1.2,hk.2⟩⟩)⟩,⟨by (with_reducible repeat (first|apply Kd.R_alloc|apply Kd.R_drewN|apply Kd.R_drew));exact Kd.R_mono HO552.out (fun _ hk=>⟨hk.1.1.2,⟨hk.1.2,hk.2⟩⟩)⟩,⟨by (with_reducible repeat (first|apply Kd.R_alloc|apply Kd.R_drewN|apply Kd.R_drew));exact Kd.R_mono HO556.out (fun _ hk=>⟨hk.1.1.2,⟨hk.1.2,hk.2⟩⟩)⟩,⟨gB HB⟩⟩
  case rest =>
   clear HC6
   try clear c1 c2 c2b0 c2b1 p2 c5 c13 c14 c14b0 c14b1 c14b2 c15 c16 c17 c18
   obtain ⟨kq,x42_5,rfl,HA,HJ5,HO_3,HO_4,HO_5,HO_7,HB⟩:=hcut
   cases kq with
   | zero=>exact absurd HA.out (by simp [laws_FnCatLayouts.j0])
   | succ kj5 =>
    have H:=HA.out
    clear HA
    simp only [laws_FnCatLayouts.j0] at H
    by_cases c21:x42_5=true
    ·subst c21
     have H1:((impl_LayoutSame.f kj5 t549 t553).bind fun t558=>(if t558=true then (some (t550 == t554)) else (none)))=some r:=by rw [if_pos rfl] at H;exact H
     clear H
     have H:=H1
     clear H1
     replace H:=Option.bind_eq_some_iff.mp H
     obtain ⟨t558,A220,H⟩:=H
     replace H:(if t558=true then (some (t550 == t554)) else (none))=some r:=H
     have A22:=Aside0.mk A220
     clear A220
     by_cases c23:t558=true
     ·subst c23
      have H1:(some (t550 == t554))=some r:=by rw [if_pos rfl] at H;exact H
      clear H
      have H:=H1
      clear H1
      obtain rfl:=Option.some.inj H
      obtain ⟨Ao24,co24,eo24⟩:=Kd.R_slice HO_5.out
      subst eo24
      obtain ⟨Ao25,co25,eo25⟩:=Kd.R_slice HO_7.out
      subst eo25
      go_wp2_with (first|((with_reducible refine gate_callee (f:=18) rfl ?_);refine goesL_ (some 45) rfl rfl Try.func18 (by kernel_rfl) rfl #[.slice Ao24 t549.length co24,.slice Ao25 t553.length co25] rfl (by (try simp only [List.map_toArray,List.map_cons,List.map_nil]);first|done|rfl|(simp only [List.length_drop,List.length_take];rfl)) ?_;(with_reducible refine (impl_LayoutSame.calls kj5 _ _ t549 _ _ t553 true _ ?side1 ?side2 ?side3 ?side4 A22.out).mono ?_);(case side1=>exact gC ((Kd.R_reads' HO_5.out).2.2));(case side2=>exact (Kd.R_reads' HO_5.out).2.1);(case side3=>exact gC ((Kd.R_reads' HO_7.out).2.2));(case side4=>exact (Kd.R_reads' HO_7.out).2.1);rintro e w' ⟨rfl,⟨nd,rfl⟩⟩;refine ⟨_,rfl,?_⟩))
      go_ret
      exact ⟨by first|rfl|(simp [errW_none,errW_some] <;> rfl)|(simp [*,errW_none,errW_some] <;> rfl),gB HB⟩
     ·replace c23:=Bool.eq_false_iff.mpr c23
      subst c23
      have H1:(none)=some r:=by rw [if_neg (show ¬ (false=true) by decide)] at H;exact H
      clear H
      have H:=H1
      clear H1
      exact absurd H (by simp)
    ·replace c21:=Bool.eq_false_iff.mpr c21
     subst c21
     have H1:((impl_LayoutValid.f kj5 t549).bind fun t559=>(if t559=true then (if (t549.length:Int)=(wrap64 ((wrap64 ((t543.length:Int)+(t544.length:Int))) - 1)) then (if 0≤(wrap64 ((t543.length:Int) - 1)) then (if (wrap64 ((t543.length:Int) - 1)) < (t549.length:Int) then (if (wrap64 ((t543.length:Int) - 1)) < (t543.length:Int) then (if 0 < (t544.length:Int) then (if ((rd_TRow t543 (wrap64 ((t543.length:Int) - 1))).f1).size+((rd_TRow t544 0).f1).size≤9223372036854775807 then (if ((rd_TRow t549 (wrap64 ((t543.length:Int) - 1))).f1).toList=(((rd_TRow t543 (wrap64 ((t543.length:Int) - 1))).f1)++((rd_TRow t544 0).f1)).toList then (if (wrap64 ((t543.length:Int) - 1))≤(t549.length:Int) then (if (wrap64 ((t543.length:Int) - 1))≤(t543.length:Int) then ((impl_LayoutSame.f kj5 (t549.take ((wrap64 ((t543.length:Int) - 1)):Int).toNat) (t543.take ((wrap64 ((t543.length:Int) - 1)):Int).toNat)).bind fun t571=>(if t571=true then (if 0≤(t543.length:Int) then (if (t543.length:Int)≤(t549.length:Int) then (if 1≤(t544.length:Int) then ((impl_LayoutSame.f kj5 (t549.drop ((t543.length:Int):Int).toNat) (t544.drop 1)).bind fun t580=>(some t580)) else (none)) else (none)) else (none)) else (none))) else (none)) else (none)) else (none)) else (none)) else (none)) else (none)) else (none)) else (none)) else (none)) else (none)))=some r:=by rw [if_neg (show ¬ (false=true) by decide)] at H;exact H
     clear H
     have H:=H1
     clear H1
     replace H:=Option.bind_eq_some_iff.mp H
     obtain ⟨t559,A260,H⟩:=H
     replace H:(if t559=true then (if (t549.length:Int)=(wrap64 ((wrap64 ((t543.length:Int)+(t544.length:Int))) - 1)) then (if 0≤(wrap64 ((t543.length:Int) - 1)) then (if (wrap64 ((t543.length:Int) - 1)) < (t549.length:Int) then (if (wrap64 ((t543.length:Int) - 1)) < (t543.length:Int) then (if 0 < (t544.length:Int) then (if ((rd_TRow t543 (wrap64 ((t543.length:Int) - 1))).f1).size+((rd_TRow t544 0).f1).size≤9223372036854775807 then (if ((rd_TRow t549 (wrap64 ((t543.length:Int) - 1))).f1).toList=(((rd_TRow t543 (wrap64 ((t543.length:Int) - 1))).f1)++((rd_TRow t544 0).f1)).toList then (if (wrap64 ((t543.length:Int) - 1))≤(t549.length:Int) then (if (wrap64 ((t543.length:Int) - 1))≤(t543.length:Int) then ((impl_LayoutSame.f kj5 (t549.take ((wrap64 ((t543.length:Int) - 1)):Int).toNat) (t543.take ((wrap64 ((t543.length:Int) - 1)):Int).toNat)).bind fun t571=>(if t571=true then (if 0≤(t543.length:Int) then (if (t543.length:Int)≤(t549.length:Int) then (if 1≤(t544.length:Int) then ((impl_LayoutSame.f kj5 (t549.drop ((t543.length:Int):Int).toNat) (t544.drop 1)).bind fun t580=>(some t580)) else (none)) else (none)) else (none)) else (none))) else (none)) else (none)) else (none)) else (none)) else (none)) else (none)) else (none)) else (none)) else (none)) else (none))=some r:=H
     have A26:=Aside0.mk A260
     clear A260
     by_cases c27:t559=true
     ·subst c27
      have H1:(if (t549.length:Int)=(wrap64 ((wrap64 ((t543.length:Int)+(t544.length:Int))) - 1)) then (if 0≤(wrap64 ((t543.length:Int) - 1)) then (if (wrap64 ((t543.length:Int) - 1)) < (t549.length:Int) then (if (wrap64 ((t543.length:Int) - 1)) < (t543.length:Int) then (if 0 < (t544.length:Int) then (if ((rd_TRow t543 (wrap64 ((t543.length:Int) - 1))).f1).size+((rd_TRow t544 0).f1).size≤9223372036854775807 then (if ((rd_TRow t549 (wrap64 ((t543.length:Int) - 1))).f1).toList=(((rd_TRow t543 (wrap64 ((t543.length:Int) - 1))).f1)++((rd_TRow t544 0).f1)).toList then (if (wrap64 ((t543.length:Int) - 1))≤(t549.length:Int) then (if (wrap64 ((t543.length:Int) - 1))≤(t543.length:Int) then ((impl_LayoutSame.f kj5 (t549.take ((wrap64 ((t543.length:Int) - 1)):Int).toNat) (t543.take ((wrap64 ((t543.length:Int) - 1)):Int).toNat)).bind fun t571=>(if t571=true then (if 0≤(t543.length:Int) then (if (t543.length:Int)≤(t549.length:Int) then (if 1≤(t544.length:Int) then ((impl_LayoutSame.f kj5 (t549.drop ((t543.length:Int):Int).toNat) (t544.drop 1)).bind fun t580=>(some t580)) else (none)) else (none)) else (none)) else (none))) else (none)) else (none)) else (none)) else (none)) else (none)) else (none)) else (none)) else (none)) else (none))=some r:=by rw [if_pos rfl] at H;exact H
      clear H
      have H:=H1
      clear H1
      by_cases c28:(t549.length:Int)=(wrap64 ((wrap64 ((t543.length:Int)+(t544.length:Int))) - 1))
      ·rw [if_pos c28] at H
       have c28b0:((t549.length:Int) == (wrap64 ((wrap64 ((t543.length:Int)+(t544.length:Int))) - 1)))=true:=beq_iff_eq.mpr c28
       have c28b1:((t549.length:Int) != (wrap64 ((wrap64 ((t543.length:Int)+(t544.length:Int))) - 1)))=false:=bne_eq_false_iff_eq.mpr c28
       clear c28
       obtain ⟨ji29,hji29⟩:∃ j_:Int,(wrap64 ((t543.length:Int) - 1))=j_:=⟨_,rfl⟩
       replace H:(if 0≤(ji29) then (if (ji29) < (t549.length:Int) then (if (ji29) < (t543.length:Int) then (if 0 < (t544.length:Int) then (if ((rd_TRow t543 (ji29)).f1).size+((rd_TRow t544 0).f1).size≤9223372036854775807 then (if ((rd_TRow t549 (ji29)).f1).toList=(((rd_TRow t543 (ji29)).f1)++((rd_TRow t544 0).f1)).toList then (if (ji29)≤(t549.length:Int) then (if (ji29)≤(t543.length:Int) then ((impl_LayoutSame.f kj5 (t549.take ((ji29):Int).toNat) (t543.take ((ji29):Int).toNat)).bind fun t571=>(if t571=true then (if 0≤(t543.length:Int) then (if (t543.length:Int)≤(t549.length:Int) then (if 1≤(t544.length:Int) then ((impl_LayoutSame.f kj5 (t549.drop ((t543.length:Int):Int).toNat) (t544.drop 1)).bind fun t580=>(some t580)) else (none)) else (none)) else (none)) else (none))) else (none)) else (none)) else (none)) else (none)) else (none)) else (none)) else (none)) else (none))=some r:=by first|(rw [hji29] at H;exact H)|(simp only [hji29] at H ⊢;exact H)
       (try rw [hji29] at A26)
       have hji29w:(IntKind.i64.wrap ((t543.length:Int) - 1))=ji29:=(i64_w _).trans hji29
       by_cases c30:0≤(ji29)
       ·rw [if_pos c30] at H
        have c30b0:decide (0≤(ji29))=true:=decide_eq_true c30
        clear c30
        by_cases c31:(ji29) < (t549.length:Int)
        ·rw [if_pos c31] at H
         have c31b0:decide ((ji29) < (t549.length:Int))=true:=decide_eq_true c31
         clear c31
         by_cases c32:(ji29) < (t543.length:Int)
         ·rw [if_pos c32] at H
          have c32b0:decide ((ji29) < (t543.length:Int))=true:=decide_eq_true c32
          clear c32
          by_cases c33:0 < (t544.length:Int)
          ·rw [if_pos c33] at H
           have c33b0:decide (0 < (t544.length:Int))=true:=decide_eq_true c33
           have c33b1:decide (0 < t544.length)=true:=decide_eq_true (by omega)
           clear c33
           by_cases c34:((rd_TRow t543 (ji29)).f1).size+((rd_TRow t544 0).f1).size≤9223372036854775807
           ·rw [if_pos c34] at H
            have c34b0:=eq_true c34
            have c34b1:decide (((rd_TRow t543 (ji29)).f1).size+((rd_TRow t544 0).f1).size≤9223372036854775807)=true:=decide_eq_true c34
            try have c34b2:(9223372036854775807 < ((rd_TRow t543 (ji29)).f1).size+((rd_TRow t544 0).f1).size)=False:=eq_false (Nat.not_lt.2 c34)
            by_cases c35:((rd_TRow t549 (ji29)).f1).toList=(((rd_TRow t543 (ji29)).f1)++((rd_TRow t544 0).f1)).toList
            ·rw [if_pos c35] at H
             have c35b0:(((rd_TRow t549 (ji29)).f1).toList == (((rd_TRow t543 (ji29)).f1)++((rd_TRow t544 0).f1)).toList)=true:=beq_iff_eq.mpr c35
             have c35b1:(((rd_TRow t549 (ji29)).f1).toList != (((rd_TRow t543 (ji29)).f1)++((rd_TRow t544 0).f1)).toList)=false:=bne_eq_false_iff_eq.mpr c35
             clear c35
             have c36b0:=eq_true (of_decide_eq_true (by first|(with_reducible assumption)|assumption):0≤(ji29))
             by_cases c37:(ji29)≤(t549.length:Int)
             ·rw [if_pos c37] at H
              have c37b0:=eq_true c37
              have c37b1:decide ((ji29)≤(t549.length:Int))=true:=decide_eq_true c37
              clear c37
              obtain ⟨y563,hy563⟩:∃ y_:List (SRow),y_=(t549.take ((ji29):Int).toNat):=⟨_,rfl⟩
              replace H:(if (ji29)≤(t543.length:Int) then ((impl_LayoutSame.f kj5 y563 (t543.take ((ji29):Int).toNat)).bind fun t571=>(if t571=true then (if 0≤(t543.length:Int) then (if (t543.length:Int)≤(t549.length:Int) then (if 1≤(t544.length:Int) then ((impl_LayoutSame.f kj5 (t549.drop ((t543.length:Int):Int).toNat) (t544.drop 1)).bind fun t580=>(some t580)) else (none)) else (none)) else (none)) else (none))) else (none))=some r:=by first|(rw [hy563];with_reducible exact H)|(have H2_:=(Option.bind_some _ _).symm.trans H;rw [hy563];with_reducible exact H2_)|(have H2_:=(Option.bind_some _ _).symm.trans H;with_reducible exact H2_)|with_reducible exact H|(rw [hy563];exact H)|exact H
              have Ny563:=Aside0.mk hy563
              clear hy563
              have c38b0:=eq_true (of_decide_eq_true (by first|(with_reducible assumption)|assumption):0≤(ji29))
              by_cases c39:(ji29)≤(t543.length:Int)
              ·rw [if_pos c39] at H
               have c39b0:=eq_true c39
               have c39b1:decide ((ji29)≤(t543.length:Int))=true:=decide_eq_true c39
               clear c39
               obtain ⟨y567,hy567⟩:∃ y_:List (SRow),y_=(t543.take ((ji29):Int).toNat):=⟨_,rfl⟩
               replace H:((impl_LayoutSame.f kj5 y563 y567).bind fun t571=>(if t571=true then (if 0≤(t543.length:Int) then (if (t543.length:Int)≤(t549.length:Int) then (if 1≤(t544.length:Int) then ((impl_LayoutSame.f kj5 (t549.drop ((t543.length:Int):Int).toNat) (t544.drop 1)).bind fun t580=>(some t580)) else (none)) else (none)) else (none)) else (none)))=some r:=by first|(rw [hy567];with_reducible exact H)|(have H2_:=(Option.bind_some _ _).symm.trans H;rw [hy567];with_reducible exact H2_)|(have H2_:=(Option.bind_some _ _).symm.trans H;with_reducible exact H2_)|with_reducible exact H|(rw [hy567];exact H)|exact H
               have Ny567:=Aside0.mk hy567
               clear hy567
               replace H:=Option.bind_eq_some_iff.mp H
               obtain ⟨t571,A400,H⟩:=H
               replace H:(if t571=true then (if 0≤(t543.length:Int) then (if (t543.length:Int)≤(t549.length:Int) then (if 1≤(t544.length:Int) then ((impl_LayoutSame.f kj5 (t549.drop ((t543.length:Int):Int).toNat) (t544.drop 1)).bind fun t580=>(some t580)) else (none)) else (none)) else (none)) else (none))=some r:=H
               have A40:=Aside0.mk A400
               clear A400
               by_cases c41:t571=true
               ·subst c41
                have H1:(if 0≤(t543.length:Int) then (if (t543.length:Int)≤(t549.length:Int) then (if 1≤(t544.length:Int) then ((impl_LayoutSame.f kj5 (t549.drop ((t543.length:Int):Int).toNat) (t544.drop 1)).bind fun t580=>(some t580)) else (none)) else (none)) else (none))=some r:=by rw [if_pos rfl] at H;exact H
                clear H
                have H:=H1
                clear H1
                by_cases c42:0≤(t543.length:Int)
                ·rw [if_pos c42] at H
                 have c42b0:=eq_true c42
                 have c42b1:decide (0≤(t543.length:Int))=true:=decide_eq_true c42
                 clear c42
                 by_cases c43:(t543.length:Int)≤(t549.length:Int)
                 ·rw [if_pos c43] at H
                  have c43b0:=eq_true c43
                  have c43b1:decide ((t543.length:Int)≤(t549.length:Int))=true:=decide_eq_true c43
                  clear c43
                  obtain ⟨y572,hy572⟩:∃ y_:List (SRow),y_=(t549.drop ((t543.length:Int):Int).toNat):=⟨_,rfl⟩
                  replace H:(if 1≤(t544.length:Int) then ((impl_LayoutSame.f kj5 y572 (t544.drop 1)).bind fun t580=>(some t580)) else (none))=some r:=by first|(rw [hy572];with_reducible exact H)|(have H2_:=(Option.bind_some _ _).symm.trans H;rw [hy572];with_reducible exact H2_)|(have H2_:=(Option.bind_some _ _).symm.trans H;with_reducible exact H2_)|with_reducible exact H|(rw [hy572];exact H)|exact H
                  have Ny572:=Aside0.mk hy572
                  clear hy572
                  by_cases c44:1≤(t544.length:Int)
                  ·rw [if_pos c44] at H
                   have c44b0:=eq_true c44
                   have c44b1:decide (1≤(t544.length:Int))=true:=decide_eq_true c44
                   clear c44
                   obtain ⟨y576,hy576⟩:∃ y_:List (SRow),y_=(t544.drop 1):=⟨_,rfl⟩
                   replace H:((impl_LayoutSame.f kj5 y572 y576).bind fun t580=>(some t580))=some r:=by first|(rw [hy576];with_reducible exact H)|(have H2_:=(Option.bind_some _ _).symm.trans H;rw [hy576];with_reducible exact H2_)|(have H2_:=(Option.bind_some _ _).symm.trans H;with_reducible exact H2_)|with_reducible exact H|(rw [hy576];exact H)|exact H
                   have Ny576:=Aside0.mk hy576
                   clear hy576
                   replace H:=Option.bind_eq_some_iff.mp H
                   obtain ⟨t580,A450,H⟩:=H
                   replace H:(some t580)=some r:=H
                   have A45:=Aside0.mk A450
                   clear A450
                   obtain rfl:=Option.some.inj H
                   try go_wp2
                   have n0_:=Aside0.mk (Kd.R_drew HO_3.out)
                   have n1_:=Aside0.mk (Kd.R_drew HO_4.out)
                   have n2_:=Aside0.mk (Kd.R_drew HO_5.out)
                   have n3_:=Aside0.mk (Kd.R_drew HO_7.out)
                   have n4_:=Aside0.mk (below_drew1 HB.out)
                   clear HO_3
                   clear HO_4
                   clear HO_5
                   clear HO_7
                   clear HB
                   have HO_3:=n0_
                   have HO_4:=n1_
                   have HO_5:=n2_
                   have HO_7:=n3_
                   have HB:=n4_
                   clear n0_ n1_ n2_ n3_ n4_
                   obtain ⟨Ao47,co47,eo47⟩:=Kd.R_slice HO_5.out
                   (first|subst eo47|(injection eo47 with f1_ f2_ f3_;have f4_:=f1_.symm;have f5_:=f3_.symm;clear f1_ f2_ f3_;subst f4_;subst f5_))
                   have p560:0≤((ji29):Int):=of_decide_eq_true (by first|(with_reducible assumption)|assumption)
                   have q560:(ji29) < (t549.length:Int):=of_decide_eq_true (by first|(with_reducible assumption)|assumption)
                   obtain ⟨ad560,e560,hx560_0,hx560_1⟩:=at_TRow (Kd.R_reads' HO_5.out).2.2 (ji29) p560 q560
                   cases e560
                   replace p560:=eq_true p560
                   replace q560:=eq_true q560
                   have p561:0≤((ji29):Int):=of_decide_eq_true (by first|(with_reducible assumption)|assumption)
                   have q561:(ji29) < (t543.length:Int):=of_decide_eq_true (by first|(with_reducible assumption)|assumption)
                   obtain ⟨ad561,e561,hx561_0,hx561_1⟩:=at_TRow (Kd.R_reads' HO_3.out).2.2 (ji29) p561 q561
                   cases e561
                   replace p561:=eq_true p561
                   replace q561:=eq_true q561
                   have p562:0≤(0:Int):=(by omega)
                   have q562:0 < (t544.length:Int):=of_decide_eq_true (by first|(with_reducible assumption)|assumption)
                   obtain ⟨ad562,e562,hx562_0,hx562_1⟩:=at_TRow (Kd.R_reads' HO_4.out).2.2 0 p562 q562
                   cases e562
                   have qi562:(0 < t544.length)=True:=eq_true (by omega)
                   (try rw [show ((0:Int)).toNat=0 from rfl] at hx562_0)
                   (try rw [show 0 * 2=0 from rfl] at hx562_0)
                   (try rw [Addr.add_zero'] at hx562_0)
                   (try rw [show ((0:Int)).toNat=0 from rfl] at hx562_1)
                   (try rw [show 0 * 2=0 from rfl] at hx562_1)
                   (try rw [Addr.add_zero'] at hx562_1)
                   replace p562:=eq_true p562
                   replace q562:=eq_true q562
                   refine start_ (n:=50) (S:=fun w'=>w'.cell? (ad560.add (((ji29)).toNat * 2))=some (.int .i64 ((rd_TRow t549 (ji29)).f0))∧w'.cell? ⟨(ad560.add (((ji29)).toNat * 2)).block,(ad560.add (((ji29)).toNat * 2)).off+1,none⟩=some (.string ((rd_TRow t549 (ji29)).f1))∧w'.cell? (ad561.add (((ji29)).toNat * 2))=some (.int .i64 ((rd_TRow t543 (ji29)).f0))∧w'.cell? ⟨(ad561.add (((ji29)).toNat * 2)).block,(ad561.add (((ji29)).toNat * 2)).off+1,none⟩=some (.string ((rd_TRow t543 (ji29)).f1))∧w'.cell? ad562=some (.int .i64 ((rd_TRow t544 0).f0))∧w'.cell? ⟨ad562.block,ad562.off+1,none⟩=some (.string ((rd_TRow t544 0).f1))) (ds:=[]) #[false,false,false,false,false,false,false,false,false,false,false,false,false,false,false,false,false,false,false,false,false,false,false,false,false,false,false,false,false,false,false,false,false,false,false,false,false,false,false,false,false,false,false,false,false,false,false,false,false,false] (by kernel_rfl) rfl rfl ⟨hx560_0,hx560_1,hx561_0,hx561_1,hx562_0,hx562_1⟩ (fun hHeld=>?_);refine with_tabW laws_FnCatLayouts.tab9 laws_FnCatLayouts.bits9 (fun HT_ HW_=>?_)
                   generalize wc.drew=w46 at HO_3 HO_4 HO_5 HO_7 HB hx560_0 hx560_1 hx561_0 hx561_1 hx562_0 hx562_1 hHeld ⊢
                   refine pure_ (i:=0) (N:=some 54) (v:=?_) (a':=?_) #[true,false,false,false,false,false,false,false,false,false,false,false,false,false,false,false,false,false,false,false,false,false,false,false,false,false,false,false,false,false,false,false,false,false,false,false,false,false,false,false,false,false,false,false,false,false,false,false,false,false] rfl rfl (any_of HT_.out (by kernel_rfl)) (fun _ _ _ h=>h) (Or.inl ⟨by rfl,?_⟩) ?_ ?_
                   rotate_left
                   ·intro w'
                    go_simp
                    with_reducible rfl
                   rotate_left
                   ·simp only [Act.put,List.setIfInBounds_toArray,List.set_cons_zero,List.set_cons_succ,i64_w,i32_w]
                    rfl
                   refine one_ (i:=1) (N:=some 55) #[true,true,false,false,false,false,false,false,false,false,false,false,false,false,false,false,false,false,false,false,false,false,false,false,false,false,false,false,false,false,false,false,false,false,false,false,false,false,false,false,false,false,false,false,false,false,false,false,false,false] rfl rfl (one_of HT_.out (by kernel_rfl)) (by decide) (fun K hK=>?_)
                   refine goes_ Try.func19 (by kernel_rfl) rfl #[.slice (some ad560) t549.length co47] (by rfl) rfl rfl (by (try simp only [List.map_toArray,List.map_cons,List.map_nil]);first|done|rfl|(simp only [List.length_drop,List.length_take];rfl)) ?_
                   with_reducible refine (impl_LayoutValid.calls kj5 _ _ t549 true _ ?side1 ?side2 A26.out).mono ?_
                   (case side1=>exact gC ((Kd.R_reads' HO_5.out).2.2))
                   (case side2=>exact (Kd.R_reads' HO_5.out).2.1)
                   rintro e w48 ⟨rfl,hb⟩
                   have HS0_:=(hb.cell (World.block_lt_of_cell? _ _ (hHeld.1))).trans (hHeld.1)
                   have HS1_:=(hb.cell (World.block_lt_of_cell? _ _ (hHeld.2.1))).trans (hHeld.2.1)
                   have HS2_:=(hb.cell (World.block_lt_of_cell? _ _ (hHeld.2.2.1))).trans (hHeld.2.2.1)
                   have HS3_:=(hb.cell (World.block_lt_of_cell? _ _ (hHeld.2.2.2.1))).trans (hHeld.2.2.2.1)
                   have HS4_:=(hb.cell (World.block_lt_of_cell? _ _ (hHeld.2.2.2.2.1))).trans (hHeld.2.2.2.2.1)
                   have HS5_:=(hb.cell (World.block_lt_of_cell? _ _ (hHeld.2.2.2.2.2))).trans (hHeld.2.2.2.2.2)
                   refine ⟨_,rfl,?_⟩
                   have n0_:=Aside0.mk (Kd.R_below (gR HO_3) hb)
                   have n1_:=Aside0.mk (Kd.R_below (gR HO_4) hb)
                   have n2_:=Aside0.mk (Kd.R_below (gR HO_5) hb)
                   have n3_:=Aside0.mk (Kd.R_below (gR HO_7) hb)
                   have n4_:=Aside0.mk (below_step (gB HB) hb)
                   clear HO_3
                   clear HO_4
                   clear HO_5
                   clear HO_7
                   clear HB
                   have HO_3:=n0_
                   have HO_4:=n1_
                   have HO_5:=n2_
                   have HO_7:=n3_
                   have HB:=n4_
                   clear n0_ n1_ n2_ n3_ n4_
                   (try clear hb)
                   (try clear hb2)
                   (try clear hk)
                   (try clear hi)
                   have q49:((ji29):Int)≤((t549.length:Int):Int):=of_decide_eq_true (by first|(with_reducible assumption)|assumption)
                   obtain ⟨i049,hi049,_,hsz49,_⟩:=info_parts info30
                   have hroom49:t549.length≤co47:=(Kd.R_reads' HO_5.out).2.1
                   have hC49:Kd.C k30 _ (some ad560) t549.length t549:=(Kd.R_reads' HO_5.out).2.2
                   have hcut49:=cut_to (P:=Try.prog) 23 30 .i64 Try.underlying23 hi049 (some ad560) t549.length co47 (ji29) (of_decide_eq_true (by first|(with_reducible assumption)|assumption)) q49 hroom49
                   have hr49:=Kd.C_take (m:=((ji29):Int).toNat) hC49 (by omega)
                   have hy49:y563.length=((ji29):Int).toNat:=(by rw [Ny563.out,List.length_take];omega)
                   rw [← Ny563.out] at hr49
                   rw [← hy49] at hcut49
                   have HR566:=Aside0.mk hr49
                   have HC566:=Aside0.mk (show y563.length≤co47 from by omega)
                   clear hr49 hC49 hroom49 hi049 hsz49
                   have KY49:=Aside0.mk hy49
                   clear hy49
                   have KL49:=Aside0.mk (show ((ji29):Int).toNat≤t549.length from by omega)
                   replace q49:=eq_true q49
                   have q50:((ji29):Int)≤((t543.length:Int):Int):=of_decide_eq_true (by first|(with_reducible assumption)|assumption)
                   obtain ⟨i050,hi050,_,hsz50,_⟩:=info_parts info30
                   have hroom50:t543.length≤co8:=(Kd.R_reads' HO_3.out).2.1
                   have hC50:Kd.C k30 _ (some ad561) t543.length t543:=(Kd.R_reads' HO_3.out).2.2
                   have hcut50:=cut_to (P:=Try.prog) 23 30 .i64 Try.underlying23 hi050 (some ad561) t543.length co8 (ji29) (of_decide_eq_true (by first|(with_reducible assumption)|assumption)) q50 hroom50
                   have hr50:=Kd.C_take (m:=((ji29):Int).toNat) hC50 (by omega)
                   have hy50:y567.length=((ji29):Int).toNat:=(by rw [Ny567.out,List.length_take];omega)
                   rw [← Ny567.out] at hr50
                   rw [← hy50] at hcut50
                   have HR570:=Aside0.mk hr50
                   have HC570:=Aside0.mk (show y567.length≤co8 from by omega)
                   clear hr50 hC50 hroom50 hi050 hsz50
                   have KY50:=Aside0.mk hy50
                   clear hy50
                   have KL50:=Aside0.mk (show ((ji29):Int).toNat≤t543.length from by omega)
                   replace q50:=eq_true q50
                   refine hK.out _ _ ⟨HS0_,HS1_,HS2_,HS3_,HS4_,HS5_⟩ (fun hHeld=>?_)
                   clear hK K
                   refine norm_ (a':=?_) ?_ ?_
                   rotate_left
                   ·show Act.put _ (some 55) _=_
                    simp only [Act.put,List.setIfInBounds_toArray,List.set_cons_zero,List.set_cons_succ,i64_w,i32_w]
                    rfl
                   refine pure_ (i:=2) (N:=some 56) (v:=?_) (a':=?_) #[true,true,true,false,false,false,false,false,false,false,false,false,false,false,false,false,false,false,false,false,false,false,false,false,false,false,false,false,false,false,false,false,false,false,false,false,false,false,false,false,false,false,false,false,false,false,false,false,false,false] rfl rfl (any_of HT_.out (by kernel_rfl)) (fun _ _ _ h=>h) (Or.inl ⟨by rfl,?_⟩) ?_ ?_
                   rotate_left
                   ·intro w'
                    go_simp
                    with_reducible rfl
                   rotate_left
                   ·simp only [Act.put,List.setIfInBounds_toArray,List.set_cons_zero,List.set_cons_succ,i64_w,i32_w]
                    rfl
                   refine pure_ (i:=3) (N:=some 57) (v:=?_) (a':=?_) #[true,true,true,true,false,false,false,false,false,false,false,false,false,false,false,false,false,false,false,false,false,false,false,false,false,false,false,false,false,false,false,false,false,false,false,false,false,false,false,false,false,false,false,false,false,false,false,false,false,false] rfl rfl (any_of HT_.out (by kernel_rfl)) (fun _ _ _ h=>h) (Or.inl ⟨by rfl,?_⟩) ?_ ?_
                   rotate_left
                   ·intro w'
                    go_simp
                    with_reducible rfl
                   rotate_left
                   ·simp only [Act.put,List.setIfInBounds_toArray,List.set_cons_zero,List.set_cons_succ,i64_w,i32_w]
                    rfl
                   refine pure_ (i:=4) (N:=some 58) (v:=?_) (a':=?_) #[true,true,true,true,true,false,false,false,false,false,false,false,false,false,false,false,false,false,false,false,false,false,false,false,false,false,false,false,false,false,false,false,false,false,false,false,false,false,false,false,false,false,false,false,false,false,false,false,false,false] rfl rfl (any_of HT_.out (by kernel_rfl)) (fun _ _ _ h=>h) (Or.inl ⟨by rfl,?_⟩) ?_ ?_
                   rotate_left
                   ·intro w'
                    go_simp
                    with_reducible rfl
                   rotate_left
                   ·simp only [Act.put,List.setIfInBounds_toArray,List.set_cons_zero,List.set_cons_succ,i64_w,i32_w]
                    rfl
                   refine pure_ (i:=5) (N:=some 59) (v:=?_) (a':=?_) #[true,true,true,true,true,true,false,false,false,false,false,false,false,false,false,false,false,false,false,false,false,false,false,false,false,false,false,false,false,false,false,false,false,false,false,false,false,false,false,false,false,false,false,false,false,false,false,false,false,false] rfl rfl (any_of HT_.out (by kernel_rfl)) (fun _ _ _ h=>h) (Or.inl ⟨by rfl,?_⟩) ?_ ?_
                   rotate_left
                   ·intro w'
                    go_simp
                    with_reducible rfl
                   rotate_left
                   ·simp only [Act.put,List.setIfInBounds_toArray,List.set_cons_zero,List.set_cons_succ,i64_w,i32_w]
                    rfl
                   refine pure_ (i:=6) (N:=some 60) (v:=?_) (a':=?_) #[true,true,true,true,true,true,true,false,false,false,false,false,false,false,false,false,false,false,false,false,false,false,false,false,false,false,false,false,false,false,false,false,false,false,false,false,false,false,false,false,false,false,false,false,false,false,false,false,false,false] rfl rfl (any_of HT_.out (by kernel_rfl)) (fun _ _ _ h=>h) (Or.inl ⟨by rfl,?_⟩) ?_ ?_
                   rotate_left
                   ·intro w'
                    go_simp
                    with_reducible rfl
                   rotate_left
                   ·simp only [Act.put,List.setIfInBounds_toArray,List.set_cons_zero,List.set_cons_succ,i64_w,i32_w]
                    rfl
                   refine pure_ (i:=7) (N:=some 61) (v:=?_) (a':=?_) #[true,true,true,true,true,true,true,true,false,false,false,false,false,false,false,false,false,false,false,false,false,false,false,false,false,false,false,false,false,false,false,false,false,false,false,false,false,false,false,false,false,false,false,false,false,false,false,false,false,false] rfl rfl (any_of HT_.out (by kernel_rfl)) (fun _ _ _ h=>h) (Or.inl ⟨by rfl,?_⟩) ?_ ?_
                   rotate_left
                   ·intro w'
                    go_simp
                    with_reducible rfl
                   rotate_left
                   ·simp only [Act.put,List.setIfInBounds_toArray,List.set_cons_zero,List.set_cons_succ,i64_w,i32_w]
                    rfl
                   refine pure_ (i:=8) (N:=some 62) (v:=?_) (a':=?_) #[true,true,true,true,true,true,true,true,true,false,false,false,false,false,false,false,false,false,false,false,false,false,false,false,false,false,false,false,false,false,false,false,false,false,false,false,false,false,false,false,false,false,false,false,false,false,false,false,false,false] rfl rfl (any_of HT_.out (by kernel_rfl)) (fun _ _ _ h=>h) (Or.inl ⟨by rfl,?_⟩) ?_ ?_
                   rotate_left
                   ·intro w'
                    go_simp
                    with_reducible rfl
                   rotate_left
                   ·simp only [Act.put,List.setIfInBounds_toArray,List.set_cons_zero,List.set_cons_succ,i64_w,i32_w]
                    rfl
                   refine pure_ (i:=9) (N:=some 63) (v:=?_) (a':=?_) #[true,true,true,true,true,true,true,true,true,true,false,false,false,false,false,false,false,false,false,false,false,false,false,false,false,false,false,false,false,false,false,false,false,false,false,false,false,false,false,false,false,false,false,false,false,false,false,false,false,false] rfl rfl (any_of HT_.out (by kernel_rfl)) (fun _ _ _ h=>h) (Or.inl ⟨by rfl,?_⟩) ?_ ?_
                   rotate_left
                   ·intro w'
                    go_simp
                    with_reducible rfl
                   rotate_left
                   ·simp only [Act.put,List.setIfInBounds_toArray,List.set_cons_zero,List.set_cons_succ,i64_w,i32_w]
                    rfl
                   refine pure_ (i:=10) (N:=some 64) (v:=?_) (a':=?_) #[true,true,true,true,true,true,true,true,true,true,true,false,false,false,false,false,false,false,false,false,false,false,false,false,false,false,false,false,false,false,false,false,false,false,false,false,false,false,false,false,false,false,false,false,false,false,false,false,false,false] rfl rfl (any_of HT_.out (by kernel_rfl)) (fun _ _ _ h=>h) (Or.inl ⟨by rfl,?_⟩) ?_ ?_
                   rotate_left
                   ·intro w'
                    go_simp
                    with_reducible rfl
                   rotate_left
                   ·simp only [Act.put,List.setIfInBounds_toArray,List.set_cons_zero,List.set_cons_succ,i64_w,i32_w]
                    rfl
                   refine pure_ (i:=11) (N:=some 65) (v:=?_) (a':=?_) #[true,true,true,true,true,true,true,true,true,true,true,true,false,false,false,false,false,false,false,false,false,false,false,false,false,false,false,false,false,false,false,false,false,false,false,false,false,false,false,false,false,false,false,false,false,false,false,false,false,false] rfl rfl (any_of HT_.out (by kernel_rfl)) (fun _ _ _ h=>h) (Or.inl ⟨by rfl,?_⟩) ?_ ?_
                   rotate_left
                   ·intro w'
                    go_simp
                    with_reducible rfl
                   rotate_left
                   ·simp only [Act.put,List.setIfInBounds_toArray,List.set_cons_zero,List.set_cons_succ,i64_w,i32_w]
                    rfl
                   refine pure_ (i:=12) (N:=some 66) (v:=?_) (a':=?_) #[true,true,true,true,true,true,true,true,true,true,true,true,true,false,false,false,false,false,false,false,false,false,false,false,false,false,false,false,false,false,false,false,false,false,false,false,false,false,false,false,false,false,false,false,false,false,false,false,false,false] rfl rfl (any_of HT_.out (by kernel_rfl)) (fun _ _ _ h=>h) (Or.inl ⟨by rfl,?_⟩) ?_ ?_
                   rotate_left
                   ·intro w'
                    go_simp
                    with_reducible rfl
                   rotate_left
                   ·simp only [Act.put,List.setIfInBounds_toArray,List.set_cons_zero,List.set_cons_succ,i64_w,i32_w]
                    rfl
                   refine pure_ (i:=13) (N:=some 67) (v:=?_) (a':=?_) #[true,true,true,true,true,true,true,true,true,true,true,true,true,true,false,false,false,false,false,false,false,false,false,false,false,false,false,false,false,false,false,false,false,false,false,false,false,false,false,false,false,false,false,false,false,false,false,false,false,false] rfl rfl (any_of HT_.out (by kernel_rfl)) (fun _ _ _ h=>h) (Or.inl ⟨by rfl,?_⟩) ?_ ?_
                   rotate_left
                   ·intro w'
                    go_simp
                    with_reducible rfl
                   rotate_left
                   ·simp only [Act.put,List.setIfInBounds_toArray,List.set_cons_zero,List.set_cons_succ,i64_w,i32_w]
                    rfl
                   refine pure_ (i:=14) (N:=some 68) (v:=?_) (a':=?_) #[true,true,true,true,true,true,true,true,true,true,true,true,true,true,true,false,false,false,false,false,false,false,false,false,false,false,false,false,false,false,false,false,false,false,false,false,false,false,false,false,false,false,false,false,false,false,false,false,false,false] rfl rfl (any_of HT_.out (by kernel_rfl)) (fun _ _ _ h=>h) (Or.inl ⟨by rfl,?_⟩) ?_ ?_
                   rotate_left
                   ·intro w'
                    go_simp
                    with_reducible rfl
                   rotate_left
                   ·simp only [Act.put,List.setIfInBounds_toArray,List.set_cons_zero,List.set_cons_succ,i64_w,i32_w]
                    rfl
                   refine pure_ (i:=15) (N:=some 69) (v:=?_) (a':=?_) #[true,true,true,true,true,true,true,true,true,true,true,true,true,true,true,true,false,false,false,false,false,false,false,false,false,false,false,false,false,false,false,false,false,false,false,false,false,false,false,false,false,false,false,false,false,false,false,false,false,false] rfl rfl (any_of HT_.out (by kernel_rfl)) (fun _ _ _ h=>h) (Or.inl ⟨by rfl,?_⟩) ?_ ?_
                   rotate_left
                   ·intro w'
                    go_simp
                    with_reducible rfl
                   rotate_left
                   ·simp only [Act.put,List.setIfInBounds_toArray,List.set_cons_zero,List.set_cons_succ,i64_w,i32_w]
                    rfl
                   refine pure_ (i:=16) (N:=some 70) (v:=?_) (a':=?_) #[true,true,true,true,true,true,true,true,true,true,true,true,true,true,true,true,true,false,false,false,false,false,false,false,false,false,false,false,false,false,false,false,false,false,false,false,false,false,false,false,false,false,false,false,false,false,false,false,false,false] rfl rfl (any_of HT_.out (by kernel_rfl)) (fun _ _ _ h=>h) (Or.inl ⟨by rfl,?_⟩) ?_ ?_
                   rotate_left
                   ·intro w'
                    go_simp
                    with_reducible rfl
                   rotate_left
                   ·simp only [Act.put,List.setIfInBounds_toArray,List.set_cons_zero,List.set_cons_succ,i64_w,i32_w]
                    rfl
                   refine pure_ (i:=17) (N:=some 71) (v:=?_) (a':=?_) #[true,true,true,true,true,true,true,true,true,true,true,true,true,true,true,true,true,true,false,false,false,false,false,false,false,false,false,false,false,false,false,false,false,false,false,false,false,false,false,false,false,false,false,false,false,false,false,false,false,false] rfl rfl (any_of HT_.out (by kernel_rfl)) (fun _ _ _ h=>h) (Or.inl ⟨by rfl,?_⟩) ?_ ?_
                   rotate_left
                   ·intro w'
                    go_simp
                    with_reducible rfl
                   rotate_left
                   ·simp only [Act.put,List.setIfInBounds_toArray,List.set_cons_zero,List.set_cons_succ,i64_w,i32_w]
                    rfl
                   refine pure_ (i:=19) (N:=some 73) (v:=?_) (a':=?_) #[true,true,true,true,true,true,true,true,true,true,true,true,true,true,true,true,true,true,false,true,false,false,false,false,false,false,false,false,false,false,false,false,false,false,false,false,false,false,false,false,false,false,false,false,false,false,false,false,false,false] rfl rfl (any_of HT_.out (by kernel_rfl)) (fun _ _ _ h=>h) (Or.inl ⟨by rfl,?_⟩) ?_ ?_
                   rotate_left
                   ·intro w'
                    go_simp
                    with_reducible rfl
                   rotate_left
                   ·simp only [Act.put,List.setIfInBounds_toArray,List.set_cons_zero,List.set_cons_succ,i64_w,i32_w]
                    rfl
                   refine pure_ (i:=20) (N:=some 74) (v:=?_) (a':=?_) #[true,true,true,true,true,true,true,true,true,true,true,true,true,true,true,true,true,true,false,true,true,false,false,false,false,false,false,false,false,false,false,false,false,false,false,false,false,false,false,false,false,false,false,false,false,false,false,false,false,false] rfl rfl (any_of HT_.out (by kernel_rfl)) (fun _ _ _ h=>h) (Or.inl ⟨by rfl,?_⟩) ?_ ?_
                   rotate_left
                   ·intro w'
                    go_simp
                    with_reducible rfl
                   rotate_left
                   ·simp only [Act.put,List.setIfInBounds_toArray,List.set_cons_zero,List.set_cons_succ,i64_w,i32_w]
                    rfl
                   refine pure_ (i:=21) (N:=some 75) (v:=?_) (a':=?_) #[true,true,true,true,true,true,true,true,true,true,true,true,true,true,true,true,true,true,false,true,true,true,false,false,false,false,false,false,false,false,false,false,false,false,false,false,false,false,false,false,false,false,false,false,false,false,false,false,false,false] rfl rfl (any_of HT_.out (by kernel_rfl)) (fun _ _ _ h=>h) (Or.inl ⟨by rfl,?_⟩) ?_ ?_
                   rotate_left
                   ·intro w'
                    go_simp
                    with_reducible rfl
                   rotate_left
                   ·simp only [Act.put,List.setIfInBounds_toArray,List.set_cons_zero,List.set_cons_succ,i64_w,i32_w]
                    rfl
                   refine pure_ (i:=22) (N:=some 76) (v:=?_) (a':=?_) #[true,true,true,true,true,true,true,true,true,true,true,true,true,true,true,true,true,true,false,true,true,true,true,false,false,false,false,false,false,false,false,false,false,false,false,false,false,false,false,false,false,false,false,false,false,false,false,false,false,false] rfl rfl (any_of HT_.out (by kernel_rfl)) (fun _ _ _ h=>h) (Or.inl ⟨by rfl,?_⟩) ?_ ?_
                   rotate_left
                   ·intro w'
                    go_simp
                    with_reducible rfl
                   rotate_left
                   ·simp only [Act.put,List.setIfInBounds_toArray,List.set_cons_zero,List.set_cons_succ,i64_w,i32_w]
                    rfl
                   refine pure_ (i:=24) (N:=some 78) (v:=?_) (a':=?_) #[true,true,true,true,true,true,true,true,true,true,true,true,true,true,true,true,true,true,false,true,true,true,true,false,true,false,false,false,false,false,false,false,false,false,false,false,false,false,false,false,false,false,false,false,false,false,false,false,false,false] rfl rfl (any_of HT_.out (by kernel_rfl)) (fun _ _ _ h=>h) (Or.inl ⟨by rfl,?_⟩) ?_ ?_
                   rotate_left
                   ·intro w'
                    go_simp
                    with_reducible rfl
                   rotate_left
                   ·simp only [Act.put,List.setIfInBounds_toArray,List.set_cons_zero,List.set_cons_succ,i64_w,i32_w]
                    rfl
                   refine pure_ (i:=25) (N:=some 79) (v:=?_) (a':=?_) #[true,true,true,true,true,true,true,true,true,true,true,true,true,true,true,true,true,true,false,true,true,true,true,false,true,true,false,false,false,false,false,false,false,false,false,false,false,false,false,false,false,false,false,false,false,false,false,false,false,false] rfl rfl (any_of HT_.out (by kernel_rfl)) (fun _ _ _ h=>h) (Or.inl ⟨by rfl,?_⟩) ?_ ?_
                   rotate_left
                   ·intro w'
                    go_simp
                    with_reducible rfl
                   rotate_left
                   ·simp only [Act.put,List.setIfInBounds_toArray,List.set_cons_zero,List.set_cons_succ,i64_w,i32_w]
                    rfl
                   refine pure_ (i:=26) (N:=some 80) (v:=?_) (a':=?_) #[true,true,true,true,true,true,true,true,true,true,true,true,true,true,true,true,true,true,false,true,true,true,true,false,true,true,true,false,false,false,false,false,false,false,false,false,false,false,false,false,false,false,false,false,false,false,false,false,false,false] rfl rfl (any_of HT_.out (by kernel_rfl)) (fun _ _ _ h=>h) (Or.inl ⟨by rfl,?_⟩) ?_ ?_
                   rotate_left
                   ·intro w'
                    go_simp
                    with_reducible rfl
                   rotate_left
                   ·simp only [Act.put,List.setIfInBounds_toArray,List.set_cons_zero,List.set_cons_succ,i64_w,i32_w]
                    rfl
                   refine take_ (i:=18) (N:=some 72) (v:=?_) (a':=?_) #[true,true,true,true,true,true,true,true,true,true,true,true,true,true,true,true,true,true,true,true,true,true,true,false,true,true,true,false,false,false,false,false,false,false,false,false,false,false,false,false,false,false,false,false,false,false,false,false,false,false] rfl rfl (take_ofW HT_.out HW_.out (by kernel_rfl)) (fun _ _ _ h=>h) (Or.inl ⟨by rfl,?_⟩) hHeld ?_ ?_
                   rotate_left
                   ·rintro w' ⟨s0,s1,s2,s3,s4,s5⟩
                    go_simp
                    with_reducible rfl
                   rotate_left
                   ·simp only [Act.put,List.setIfInBounds_toArray,List.set_cons_zero,List.set_cons_succ,i64_w,i32_w]
                    rfl
                   refine take_ (i:=23) (N:=some 77) (v:=?_) (a':=?_) #[true,true,true,true,true,true,true,true,true,true,true,true,true,true,true,true,true,true,true,true,true,true,true,true,true,true,true,false,false,false,false,false,false,false,false,false,false,false,false,false,false,false,false,false,false,false,false,false,false,false] rfl rfl (take_ofW HT_.out HW_.out (by kernel_rfl)) (fun _ _ _ h=>h) (Or.inl ⟨by rfl,?_⟩) hHeld ?_ ?_
                   rotate_left
                   ·rintro w' ⟨s0,s1,s2,s3,s4,s5⟩
                    go_simp
                    with_reducible rfl
                   rotate_left
                   ·simp only [Act.put,List.setIfInBounds_toArray,List.set_cons_zero,List.set_cons_succ,i64_w,i32_w]
                    rfl
                   refine take_ (i:=27) (N:=some 81) (v:=?_) (a':=?_) #[true,true,true,true,true,true,true,true,true,true,true,true,true,true,true,true,true,true,true,true,true,true,true,true,true,true,true,true,false,false,false,false,false,false,false,false,false,false,false,false,false,false,false,false,false,false,false,false,false,false] rfl rfl (take_ofW HT_.out HW_.out (by kernel_rfl)) (fun _ _ _ h=>h) (Or.inl ⟨by rfl,?_⟩) hHeld ?_ ?_
                   rotate_left
                   ·rintro w' ⟨s0,s1,s2,s3,s4,s5⟩
                    go_simp
                    with_reducible rfl
                   rotate_left
                   ·simp only [Act.put,List.setIfInBounds_toArray,List.set_cons_zero,List.set_cons_succ,i64_w,i32_w]
                    rfl
                   refine pure_ (i:=28) (N:=some 82) (v:=?_) (a':=?_) #[true,true,true,true,true,true,true,true,true,true,true,true,true,true,true,true,true,true,true,true,true,true,true,true,true,true,true,true,true,false,false,false,false,false,false,false,false,false,false,false,false,false,false,false,false,false,false,false,false,false] rfl rfl (any_of HT_.out (by kernel_rfl)) (fun _ _ _ h=>h) (Or.inl ⟨by rfl,?_⟩) ?_ ?_
                   rotate_left
                   ·intro w'
                    go_simp
                    with_reducible rfl
                   rotate_left
                   ·simp only [Act.put,List.setIfInBounds_toArray,List.set_cons_zero,List.set_cons_succ,i64_w,i32_w]
                    rfl
                   refine pure_ (i:=29) (N:=some 83) (v:=?_) (a':=?_) #[true,true,true,true,true,true,true,true,true,true,true,true,true,true,true,true,true,true,true,true,true,true,true,true,true,true,true,true,true,true,false,false,false,false,false,false,false,false,false,false,false,false,false,false,false,false,false,false,false,false] rfl rfl (any_of HT_.out (by kernel_rfl)) (fun _ _ _ h=>h) (Or.inl ⟨by rfl,?_⟩) ?_ ?_
                   rotate_left
                   ·intro w'
                    go_simp
                    with_reducible rfl
                   rotate_left
                   ·simp only [Act.put,List.setIfInBounds_toArray,List.set_cons_zero,List.set_cons_succ,i64_w,i32_w]
                    rfl
                   refine pure_ (i:=30) (N:=some 84) (v:=?_) (a':=?_) #[true,true,true,true,true,true,true,true,true,true,true,true,true,true,true,true,true,true,true,true,true,true,true,true,true,true,true,true,true,true,true,false,false,false,false,false,false,false,false,false,false,false,false,false,false,false,false,false,false,false] rfl rfl (any_of HT_.out (by kernel_rfl)) (fun _ _ _ h=>h) (Or.inl ⟨by rfl,?_⟩) ?_ ?_
                   rotate_left
                   ·intro w'
                    go_simp
                    with_reducible rfl
                   rotate_left
                   ·simp only [Act.put,List.setIfInBounds_toArray,List.set_cons_zero,List.set_cons_succ,i64_w,i32_w]
                    rfl
                   refine pure_ (i:=31) (N:=some 85) (v:=?_) (a':=?_) #[true,true,true,true,true,true,true,true,true,true,true,true,true,true,true,true,true,true,true,true,true,true,true,true,true,true,true,true,true,true,true,true,false,false,false,false,false,false,false,false,false,false,false,false,false,false,false,false,false,false] rfl rfl (any_of HT_.out (by kernel_rfl)) (fun _ _ _ h=>h) (Or.inl ⟨by rfl,?_⟩) ?_ ?_
                   rotate_left
                   ·intro w'
                    go_simp
                    with_reducible rfl
                   rotate_left
                   ·simp only [Act.put,List.setIfInBounds_toArray,List.set_cons_zero,List.set_cons_succ,i64_w,i32_w]
                    rfl
                   refine pure_ (i:=32) (N:=some 86) (v:=?_) (a':=?_) #[true,true,true,true,true,true,true,true,true,true,true,true,true,true,true,true,true,true,true,true,true,true,true,true,true,true,true,true,true,true,true,true,true,false,false,false,false,false,false,false,false,false,false,false,false,false,false,false,false,false] rfl rfl (any_of HT_.out (by kernel_rfl)) (fun _ _ _ h=>h) (Or.inl ⟨by rfl,?_⟩) ?_ ?_
                   rotate_left
                   ·intro w'
                    go_simp
                    with_reducible rfl
                   rotate_left
                   ·simp only [Act.put,List.setIfInBounds_toArray,List.set_cons_zero,List.set_cons_succ,i64_w,i32_w]
                    rfl
                   refine pure_ (i:=33) (N:=some 87) (v:=?_) (a':=?_) #[true,true,true,true,true,true,true,true,true,true,true,true,true,true,true,true,true,true,true,true,true,true,true,true,true,true,true,true,true,true,true,true,true,true,false,false,false,false,false,false,false,false,false,false,false,false,false,false,false,false] rfl rfl (any_of HT_.out (by kernel_rfl)) (fun _ _ _ h=>h) (Or.inl ⟨by rfl,?_⟩) ?_ ?_
                   rotate_left
                   ·intro w'
                    go_simp
                    with_reducible rfl
                   rotate_left
                   ·simp only [Act.put,List.setIfInBounds_toArray,List.set_cons_zero,List.set_cons_succ,i64_w,i32_w]
                    rfl
                   refine pure_ (i:=34) (N:=some 88) (v:=?_) (a':=?_) #[true,true,true,true,true,true,true,true,true,true,true,true,true,true,true,true,true,true,true,true,true,true,true,true,true,true,true,true,true,true,true,true,true,true,true,false,false,false,false,false,false,false,false,false,false,false,false,false,false,false] rfl rfl (any_of HT_.out (by kernel_rfl)) (fun _ _ _ h=>h) (Or.inl ⟨by rfl,?_⟩) ?_ ?_
                   rotate_left
                   ·intro w'
                    go_simp
                    with_reducible rfl
                   rotate_left
                   ·simp only [Act.put,List.setIfInBounds_toArray,List.set_cons_zero,List.set_cons_succ,i64_w,i32_w]
                    rfl
                   refine pure_ (i:=35) (N:=some 89) (v:=?_) (a':=?_) #[true,true,true,true,true,true,true,true,true,true,true,true,true,true,true,true,true,true,true,true,true,true,true,true,true,true,true,true,true,true,true,true,true,true,true,true,false,false,false,false,false,false,false,false,false,false,false,false,false,false] rfl rfl (any_of HT_.out (by kernel_rfl)) (fun _ _ _ h=>h) (Or.inl ⟨by rfl,?_⟩) ?_ ?_
                   rotate_left
                   ·intro w'
                    go_simp
                    with_reducible rfl
                   rotate_left
                   ·simp only [Act.put,List.setIfInBounds_toArray,List.set_cons_zero,List.set_cons_succ,i64_w,i32_w]
                    rfl
                   refine pure_ (i:=36) (N:=some 90) (v:=?_) (a':=?_) #[true,true,true,true,true,true,true,true,true,true,true,true,true,true,true,true,true,true,true,true,true,true,true,true,true,true,true,true,true,true,true,true,true,true,true,true,true,false,false,false,false,false,false,false,false,false,false,false,false,false] rfl rfl (any_of HT_.out (by kernel_rfl)) (fun _ _ _ h=>h) (Or.inl ⟨by rfl,?_⟩) ?_ ?_
                   rotate_left
                   ·intro w'
                    go_simp
                    with_reducible rfl
                   rotate_left
                   ·simp only [Act.put,List.setIfInBounds_toArray,List.set_cons_zero,List.set_cons_succ,i64_w,i32_w]
                    rfl
                   refine pure_ (i:=37) (N:=some 91) (v:=?_) (a':=?_) #[true,true,true,true,true,true,true,true,true,true,true,true,true,true,true,true,true,true,true,true,true,true,true,true,true,true,true,true,true,true,true,true,true,true,true,true,true,true,false,false,false,false,false,false,false,false,false,false,false,false] rfl rfl (any_of HT_.out (by kernel_rfl)) (fun _ _ _ h=>h) (Or.inl ⟨by rfl,?_⟩) ?_ ?_
                   rotate_left
                   ·intro w'
                    go_simp
                    with_reducible rfl
                   rotate_left
                   ·simp only [Act.put,List.setIfInBounds_toArray,List.set_cons_zero,List.set_cons_succ,i64_w,i32_w]
                    rfl
                   refine one_ (i:=38) (N:=some 92) #[true,true,true,true,true,true,true,true,true,true,true,true,true,true,true,true,true,true,true,true,true,true,true,true,true,true,true,true,true,true,true,true,true,true,true,true,true,true,true,false,false,false,false,false,false,false,false,false,false,false] rfl rfl (one_of HT_.out (by kernel_rfl)) (by decide) (fun K hK=>?_)
                   refine goes_ Try.func18 (by kernel_rfl) rfl #[.slice (some ad560) y563.length co47,.slice (some ad561) y567.length co8] (by rfl) rfl rfl (by (try simp only [List.map_toArray,List.map_cons,List.map_nil]);first|done|rfl|(simp only [List.length_drop,List.length_take];rfl)) ?_
                   with_reducible refine (impl_LayoutSame.calls kj5 _ _ y563 _ _ y567 true _ ?side1 ?side2 ?side3 ?side4 A40.out).mono ?_
                   (case side1=>exact gC (by repeat (first|(with_reducible exact HR566.out)|(with_reducible refine Kd.C_alloc ?_ _)|(with_reducible refine Kd.C_drewN ?_ _)|(with_reducible refine Kd.C_drew ?_)|exact HR566.out)))
                   (case side2=>exact HC566.out)
                   (case side3=>exact gC (by repeat (first|(with_reducible exact HR570.out)|(with_reducible refine Kd.C_alloc ?_ _)|(with_reducible refine Kd.C_drewN ?_ _)|(with_reducible refine Kd.C_drew ?_)|exact HR570.out)))
                   (case side4=>exact HC570.out)
                   rintro e w' ⟨rfl,⟨nd,rfl⟩⟩
                   refine ⟨_,rfl,?_⟩
                   have q51:((t543.length:Int):Int)≤((t549.length:Int):Int):=of_decide_eq_true (by first|(with_reducible assumption)|assumption)
                   obtain ⟨i051,hi051,_,hsz51,_⟩:=info_parts info30
                   have hroom51:t549.length≤co47:=(Kd.R_reads' HO_5.out).2.1
                   have hC51:Kd.C k30 _ (some ad560) t549.length t549:=(Kd.R_reads' HO_5.out).2.2
                   have q051:(0:Int)≤((t543.length:Int):Int):=of_decide_eq_true (by first|(with_reducible assumption)|assumption)
                   have hcut51:=cut_from (P:=Try.prog) 23 30 .i64 Try.underlying23 hi051 2 hsz51 (some ad560) t549.length co47 (t543.length:Int) q051 q51
                   have hr51:=Kd.C_drop (m:=((t543.length:Int):Int).toNat) (c:=co47) hC51 (by omega) hroom51
                   obtain ⟨A51,hA51⟩:∃ Az_,Az_=(if co47=((t543.length:Int):Int).toNat then (some ad560) else ((some ad560):Option Addr).map (·.add (((t543.length:Int):Int).toNat * 2))):=⟨_,rfl⟩
                   obtain ⟨c51,hc51⟩:∃ cz_,cz_=co47 - ((t543.length:Int):Int).toNat:=⟨_,rfl⟩
                   have hy51:y572.length=t549.length - ((t543.length:Int):Int).toNat:=(by rw [Ny572.out,List.length_drop] <;> omega)
                   rw [show (t549).drop ((t543.length:Int):Int).toNat=y572 from Ny572.out.symm] at hr51
                   replace hr51:Kd.C k30 _ A51 y572.length y572:=(by rw [hA51];exact hr51)
                   rw [← hy51,← hA51,← hc51] at hcut51
                   have HR575:=Aside0.mk hr51
                   have HC575:=Aside0.mk (show y572.length≤c51 from by rw [hy51,hc51];exact Nat.sub_le_sub_right hroom51 _)
                   clear hr51 hC51 hroom51 hi051 hsz51 hc51
                   have KY51:=Aside0.mk hy51
                   have KA51:=Aside0.mk hA51
                   clear hy51 hA51
                   have KL51:=Aside0.mk (show ((t543.length:Int):Int).toNat≤t549.length from by omega)
                   replace q51:=eq_true q51
                   have q52:(1:Int)≤((t544.length:Int):Int):=of_decide_eq_true (by first|(with_reducible assumption)|assumption)
                   obtain ⟨i052,hi052,_,hsz52,_⟩:=info_parts info30
                   have hroom52:t544.length≤co9:=(Kd.R_reads' HO_4.out).2.1
                   have hC52:Kd.C k30 _ (some ad562) t544.length t544:=(Kd.R_reads' HO_4.out).2.2
                   have hcut52:=cut_from (P:=Try.prog) 23 30 .i64 Try.underlying23 hi052 2 hsz52 (some ad562) t544.length co9 1 (by omega) q52
                   have hr52:=Kd.C_drop (m:=(1:Int).toNat) (c:=co9) hC52 (by omega) hroom52
                   obtain ⟨A52,hA52⟩:∃ Az_,Az_=(if co9=(1:Int).toNat then (some ad562) else ((some ad562):Option Addr).map (·.add ((1:Int).toNat * 2))):=⟨_,rfl⟩
                   obtain ⟨c52,hc52⟩:∃ cz_,cz_=co9 - (1:Int).toNat:=⟨_,rfl⟩
                   have hy52:y576.length=t544.length - (1:Int).toNat:=(by rw [Ny576.out,List.length_drop] <;> omega)
                   rw [show (t544).drop (1:Int).toNat=y576 from Ny576.out.symm] at hr52
                   replace hr52:Kd.C k30 _ A52 y576.length y576:=(by rw [hA52];exact hr52)
                   rw [← hy52,← hA52,← hc52] at hcut52
                   have HR579:=Aside0.mk hr52
                   have HC579:=Aside0.mk (show y576.length≤c52 from by rw [hy52,hc52];exact Nat.sub_le_sub_right hroom52 _)
                   clear hr52 hC52 hroom52 hi052 hsz52 hc52
                   have KY52:=Aside0.mk hy52
                   have KA52:=Aside0.mk hA52
                   clear hy52 hA52
                   have KL52:=Aside0.mk (show 1≤t544.length from by omega)
                   replace q52:=eq_true q52
                   refine hK.out _ _ ⟨hHeld.1,hHeld.2.1,hHeld.2.2.1,hHeld.2.2.2.1,hHeld.2.2.2.2.1,hHeld.2.2.2.2.2⟩ (fun hHeld=>?_)
                   clear hK K
                   refine norm_ (a':=?_) ?_ ?_
                   rotate_left
                   ·show Act.put _ (some 92) _=_
                    simp only [Act.put,List.setIfInBounds_toArray,List.set_cons_zero,List.set_cons_succ,i64_w,i32_w]
                    rfl
                   refine pure_ (i:=39) (N:=some 93) (v:=?_) (a':=?_) #[true,true,true,true,true,true,true,true,true,true,true,true,true,true,true,true,true,true,true,true,true,true,true,true,true,true,true,true,true,true,true,true,true,true,true,true,true,true,true,true,false,false,false,false,false,false,false,false,false,false] rfl rfl (any_of HT_.out (by kernel_rfl)) (fun _ _ _ h=>h) (Or.inl ⟨by rfl,?_⟩) ?_ ?_
                   rotate_left
                   ·intro w'
                    go_simp
                    with_reducible rfl
                   rotate_left
                   ·simp only [Act.put,List.setIfInBounds_toArray,List.set_cons_zero,List.set_cons_succ,i64_w,i32_w]
                    rfl
                   refine pure_ (i:=40) (N:=some 94) (v:=?_) (a':=?_) #[true,true,true,true,true,true,true,true,true,true,true,true,true,true,true,true,true,true,true,true,true,true,true,true,true,true,true,true,true,true,true,true,true,true,true,true,true,true,true,true,true,false,false,false,false,false,false,false,false,false] rfl rfl (any_of HT_.out (by kernel_rfl)) (fun _ _ _ h=>h) (Or.inl ⟨by rfl,?_⟩) ?_ ?_
                   rotate_left
                   ·intro w'
                    go_simp
                    with_reducible rfl
                   rotate_left
                   ·simp only [Act.put,List.setIfInBounds_toArray,List.set_cons_zero,List.set_cons_succ,i64_w,i32_w]
                    rfl
                   refine pure_ (i:=41) (N:=some 95) (v:=?_) (a':=?_) #[true,true,true,true,true,true,true,true,true,true,true,true,true,true,true,true,true,true,true,true,true,true,true,true,true,true,true,true,true,true,true,true,true,true,true,true,true,true,true,true,true,true,false,false,false,false,false,false,false,false] rfl rfl (any_of HT_.out (by kernel_rfl)) (fun _ _ _ h=>h) (Or.inl ⟨by rfl,?_⟩) ?_ ?_
                   rotate_left
                   ·intro w'
                    go_simp
                    with_reducible rfl
                   rotate_left
                   ·simp only [Act.put,List.setIfInBounds_toArray,List.set_cons_zero,List.set_cons_succ,i64_w,i32_w]
                    rfl
                   refine pure_ (i:=42) (N:=some 96) (v:=?_) (a':=?_) #[true,true,true,true,true,true,true,true,true,true,true,true,true,true,true,true,true,true,true,true,true,true,true,true,true,true,true,true,true,true,true,true,true,true,true,true,true,true,true,true,true,true,true,false,false,false,false,false,false,false] rfl rfl (any_of HT_.out (by kernel_rfl)) (fun _ _ _ h=>h) (Or.inl ⟨by rfl,?_⟩) ?_ ?_
                   rotate_left
                   ·intro w'
                    go_simp
                    with_reducible rfl
                   rotate_left
                   ·simp only [Act.put,List.setIfInBounds_toArray,List.set_cons_zero,List.set_cons_succ,i64_w,i32_w]
                    rfl
                   refine pure_ (i:=43) (N:=some 97) (v:=?_) (a':=?_) #[true,true,true,true,true,true,true,true,true,true,true,true,true,true,true,true,true,true,true,true,true,true,true,true,true,true,true,true,true,true,true,true,true,true,true,true,true,true,true,true,true,true,true,true,false,false,false,false,false,false] rfl rfl (any_of HT_.out (by kernel_rfl)) (fun _ _ _ h=>h) (Or.inl ⟨by rfl,?_⟩) ?_ ?_
                   rotate_left
                   ·intro w'
                    go_simp
                    with_reducible rfl
                   rotate_left
                   ·simp only [Act.put,List.setIfInBounds_toArray,List.set_cons_zero,List.set_cons_succ,i64_w,i32_w]
                    rfl
                   refine pure_ (i:=44) (N:=some 98) (v:=?_) (a':=?_) #[true,true,true,true,true,true,true,true,true,true,true,true,true,true,true,true,true,true,true,true,true,true,true,true,true,true,true,true,true,true,true,true,true,true,true,true,true,true,true,true,true,true,true,true,true,false,false,false,false,false] rfl rfl (any_of HT_.out (by kernel_rfl)) (fun _ _ _ h=>h) (Or.inl ⟨by rfl,?_⟩) ?_ ?_
                   rotate_left
                   ·intro w'
                    go_simp
                    with_reducible rfl
                   rotate_left
                   ·simp only [Act.put,List.setIfInBounds_toArray,List.set_cons_zero,List.set_cons_succ,i64_w,i32_w]
                    rfl
                   refine pure_ (i:=45) (N:=some 99) (v:=?_) (a':=?_) #[true,true,true,true,true,true,true,true,true,true,true,true,true,true,true,true,true,true,true,true,true,true,true,true,true,true,true,true,true,true,true,true,true,true,true,true,true,true,true,true,true,true,true,true,true,true,false,false,false,false] rfl rfl (any_of HT_.out (by kernel_rfl)) (fun _ _ _ h=>h) (Or.inl ⟨by rfl,?_⟩) ?_ ?_
                   rotate_left
                   ·intro w'
                    go_simp
                    with_reducible rfl
                   rotate_left
                   ·simp only [Act.put,List.setIfInBounds_toArray,List.set_cons_zero,List.set_cons_succ,i64_w,i32_w]
                    rfl
                   refine pure_ (i:=46) (N:=some 100) (v:=?_) (a':=?_) #[true,true,true,true,true,true,true,true,true,true,true,true,true,true,true,true,true,true,true,true,true,true,true,true,true,true,true,true,true,true,true,true,true,true,true,true,true,true,true,true,true,true,true,true,true,true,true,false,false,false] rfl rfl (any_of HT_.out (by kernel_rfl)) (fun _ _ _ h=>h) (Or.inl ⟨by rfl,?_⟩) ?_ ?_
                   rotate_left
                   ·intro w'
                    go_simp
                    with_reducible rfl
                   rotate_left
                   ·simp only [Act.put,List.setIfInBounds_toArray,List.set_cons_zero,List.set_cons_succ,i64_w,i32_w]
                    rfl
                   refine one_ (i:=47) (N:=some 101) #[true,true,true,true,true,true,true,true,true,true,true,true,true,true,true,true,true,true,true,true,true,true,true,true,true,true,true,true,true,true,true,true,true,true,true,true,true,true,true,true,true,true,true,true,true,true,true,true,false,false] rfl rfl (one_of HT_.out (by kernel_rfl)) (by decide) (fun K hK=>?_)
                   refine goes_ Try.func18 (by kernel_rfl) rfl #[.slice A51 y572.length c51,.slice A52 y576.length c52] (by rfl) rfl rfl (by (try simp only [List.map_toArray,List.map_cons,List.map_nil]);first|done|rfl|(simp only [List.length_drop,List.length_take];rfl)) ?_
                   with_reducible refine (impl_LayoutSame.calls kj5 _ _ y572 _ _ y576 t580 _ ?side1 ?side2 ?side3 ?side4 A45.out).mono ?_
                   (case side1=>exact gC (by repeat (first|(with_reducible exact HR575.out)|(with_reducible refine Kd.C_alloc ?_ _)|(with_reducible refine Kd.C_drewN ?_ _)|(with_reducible refine Kd.C_drew ?_)|exact HR575.out)))
                   (case side2=>exact HC575.out)
                   (case side3=>exact gC (by repeat (first|(with_reducible exact HR579.out)|(with_reducible refine Kd.C_alloc ?_ _)|(with_reducible refine Kd.C_drewN ?_ _)|(with_reducible refine Kd.C_drew ?_)|exact HR579.out)))
                   (case side4=>exact HC579.out)
                   rintro e w' ⟨rfl,⟨nd,rfl⟩⟩
                   refine ⟨_,rfl,?_⟩
                   refine hK.out _ _ ⟨hHeld.1,hHeld.2.1,hHeld.2.2.1,hHeld.2.2.2.1,hHeld.2.2.2.2.1,hHeld.2.2.2.2.2⟩ (fun hHeld=>?_)
                   clear hK K
                   refine norm_ (a':=?_) ?_ ?_
                   rotate_left
                   ·show Act.put _ (some 101) _=_
                    simp only [Act.put,List.setIfInBounds_toArray,List.set_cons_zero,List.set_cons_succ,i64_w,i32_w]
                    rfl
                   refine pure_ (i:=48) (N:=some 102) (v:=?_) (a':=?_) #[true,true,true,true,true,true,true,true,true,true,true,true,true,true,true,true,true,true,true,true,true,true,true,true,true,true,true,true,true,true,true,true,true,true,true,true,true,true,true,true,true,true,true,true,true,true,true,true,true,false] rfl rfl (any_of HT_.out (by kernel_rfl)) (fun _ _ _ h=>h) (Or.inl ⟨by rfl,?_⟩) ?_ ?_
                   rotate_left
                   ·intro w'
                    go_simp
                    with_reducible rfl
                   rotate_left
                   ·simp only [Act.put,List.setIfInBounds_toArray,List.set_cons_zero,List.set_cons_succ,i64_w,i32_w]
                    rfl
                   refine pure_ (i:=49) (N:=some 2) (v:=?_) (a':=?_) #[true,true,true,true,true,true,true,true,true,true,true,true,true,true,true,true,true,true,true,true,true,true,true,true,true,true,true,true,true,true,true,true,true,true,true,true,true,true,true,true,true,true,true,true,true,true,true,true,true,true] rfl rfl (any_of HT_.out (by kernel_rfl)) (fun _ _ _ h=>h) (Or.inl ⟨by rfl,?_⟩) ?_ ?_
                   rotate_left
                   ·intro w'
                    go_simp
                    with_reducible rfl
                   rotate_left
                   ·simp only [Act.put,List.setIfInBounds_toArray,List.set_cons_zero,List.set_cons_succ,i64_w,i32_w]
                    rfl
                   refine done_ (done_of HT_.out (by kernel_rfl)) ?_
                   try go_wp2
                   go_ret
                   exact ⟨by first|rfl|(simp [errW_none,errW_some] <;> rfl)|(simp only [← hji29];first|rfl|(simp [errW_none,errW_some] <;> rfl))|(simp [*,errW_none,errW_some] <;> rfl),gB HB⟩
                  ·rw [if_neg c44] at H
                   exact absurd H (by simp)
                 ·rw [if_neg c43] at H
                  exact absurd H (by simp)
                ·rw [if_neg c42] at H
                 exact absurd H (by simp)
               ·replace c41:=Bool.eq_false_iff.mpr c41
                subst c41
                have H1:(none)=some r:=by rw [if_neg (show ¬ (false=true) by decide)] at H;exact H
                clear H
                have H:=H1
                clear H1
                exact absurd H (by simp)
              ·rw [if_neg c39] at H
               exact absurd H (by simp)
             ·rw [if_neg c37] at H
              exact absurd H (by simp)
            ·rw [if_neg c35] at H
             have c35b0:(((rd_TRow t549 (ji29)).f1).toList == (((rd_TRow t543 (ji29)).f1)++((rd_TRow t544 0).f1)).toList)=false:=beq_eq_false_iff_ne.mpr c35
             have c35b1:(((rd_TRow t549 (ji29)).f1).toList != (((rd_TRow t543 (ji29)).f1)++((rd_TRow t544 0).f1)).toList)=true:=bne_iff_ne.mpr c35
             exact absurd H (by simp)
           ·rw [if_neg c34] at H
            exact absurd H (by simp)
          ·rw [if_neg c33] at H
           exact absurd H (by simp)
         ·rw [if_neg c32] at H
          exact absurd H (by simp)
        ·rw [if_neg c31] at H
         exact absurd H (by simp)
       ·rw [if_neg c30] at H
        exact absurd H (by simp)
      ·rw [if_neg c28] at H
       have c28b0:((t549.length:Int) == (wrap64 ((wrap64 ((t543.length:Int)+(t544.length:Int))) - 1)))=false:=beq_eq_false_iff_ne.mpr c28
       have c28b1:((t549.length:Int) != (wrap64 ((wrap64 ((t543.length:Int)+(t544.length:Int))) - 1)))=true:=bne_iff_ne.mpr c28
       exact absurd H (by simp)
     ·replace c27:=Bool.eq_false_iff.mpr c27
      subst c27
      have H1:(none)=some r:=by rw [if_neg (show ¬ (false=true) by decide)] at H;exact H
      clear H
      have H:=H1
      clear H1
      exact absurd H (by simp)
def laws_FnCatLayouts.Pure:Prop:=∀ (l0:List Int),l0.length≤maxLen→l0.length * 1≤140737488351232→(∀ x ∈ l0,(Lit.int .u8 x).wf=true)→∃ k,laws_FnCatLayouts.f k l0=some true
theorem laws_FnCatLayouts.walk (P:laws_FnCatLayouts.Pure) (a0:Option Addr) (len0 cap0:Nat) (z0:List Int) (w:World) (w0:(a0=none∧len0=0∧cap0=0∧z0=[]) ∨ ∃ x,a0=some x∧len0≤cap0∧cap0≤maxLen∧z0.length=cap0∧(∀ i,i < z0.length→w.cell? (x.add i)=some (.int .u8 (z0.getD i 0)))∧∀ n ∈ z0,(Lit.int .u8 n).wf=true) (y0:len0 * 1≤140737488351232) :
  Calls Try.prog 5 #[.slice a0 len0 cap0] w fun e w'=>e=.returned (.bool true)∧Below w.heap.size w w':=by
 obtain ⟨l0,rfl,hr0,hm0,hw0,hc0⟩:=ReadsInt.ofRowC w0
 obtain ⟨k,h⟩:=P l0 hm0 y0 hw0
 refine (laws_FnCatLayouts.calls k _ _ l0 true w (Kd.C_of_reads (d:=(0:Int)) (h1:=fun _=>rfl) hr0) hc0 h).mono ?_
 rintro e w' ⟨rfl,hd⟩
 exact ⟨rfl,hd⟩
end Go.Proofs.Ytdhdfmmefghijab.P
namespace Go.Proofs.Ytdhdfmmefghijab.Pure
open Go.RowKit Go.Proofs.Ytdhdfmmefghijab.P Go.Proofs.YtdhdfmmefghijabW.PrintWords Go.Proofs.YtdhdfmmefghijabW.PrintLast Go.Proofs.YtdhdfmmefghijabW.PrintMore
set_option linter.unusedVariables false
set_option linter.unusedSimpArgs false
theorem w64 {i : Int} (h0 : -9223372036854775808 ≤ i) (h : i ≤ 9223372036854775807) : wrap64 i = i := by unfold wrap64; omega
theorem Ev.iff {α : Type} {c : Prop} [Decidable c] {f g : Nat → Option α} {r : α} (h1 : c → Ev f r) (h2 : ¬ c → Ev g r) : Ev (fun k => if c then f k else g k) r := by
  by_cases h : c
  · simp only [if_pos h]; exact h1 h
  · simp only [if_neg h]; exact h2 h
theorem SDoc.ind {P : SDoc → Prop} (h : ∀ o n t ks, (∀ k, k ∈ ks → P k) → P ⟨o, n, t, ks⟩) : ∀ d, P d
  | ⟨o, n, t, ks⟩ => h o n t ks (fun k hk => SDoc.ind h k)
termination_by d => SizeOf.sizeOf d
decreasing_by
  have := List.sizeOf_lt_of_mem hk
  simp
  omega
mutual
def dsz : SDoc → Nat
  | ⟨_, _, _, ks⟩ => 1 + dszL ks
def dszL : List SDoc → Nat
  | [] => 0
  | k :: ks => dsz k + dszL ks
end
theorem dszL_len : ∀ (a : List SDoc), a.length ≤ dszL a
  | [] => by simp [dszL]
  | ⟨_, _, _, ks⟩ :: a => by have := dszL_len a; simp [dszL, dsz]; omega
theorem dszL_mem : ∀ {a : List SDoc} {d : SDoc}, d ∈ a → dsz d ≤ dszL a
  | k :: a, d, h => by
    rcases List.mem_cons.1 h with rfl | h
    · simp [dszL]
    · have := dszL_mem h; simp [dszL]; omega
theorem rdD (a b : List SDoc) (d : SDoc) : rd_TDoc (a ++ d :: b) (a.length : Int) = d := by simp [rd_TDoc]
theorem SDoc_eta (d : SDoc) : (⟨d.f0, d.f1, d.f2, d.f3⟩ : SDoc) = d := by cases d; rfl
theorem dec_eq {p q : Prop} [Decidable p] [Decidable q] (h : p ↔ q) : decide p = decide q := by
  by_cases hq : q
  · rw [decide_eq_true hq, decide_eq_true (h.2 hq)]
  · rw [decide_eq_false hq, decide_eq_false (fun hp => hq (h.1 hp))]
end Go.Proofs.Ytdhdfmmefghijab.Pure
namespace Go.Proofs.Ytdhdfmmefghijab.Pure
open Go.RowKit Go.Proofs.Ytdhdfmmefghijab.P Go.Proofs.YtdhdfmmefghijabW.PrintWords Go.Proofs.YtdhdfmmefghijabW.PrintLast Go.Proofs.YtdhdfmmefghijabW.PrintMore
set_option linter.unusedVariables false
set_option linter.unusedSimpArgs false
end Go.Proofs.Ytdhdfmmefghijab.Pure
namespace Go.Proofs.Ytdhdfmmefghijab.Pure
open Go.RowKit Go.Proofs.Ytdhdfmmefghijab.P Go.Proofs.YtdhdfmmefghijabW.PrintWords Go.Proofs.YtdhdfmmefghijabW.PrintLast Go.Proofs.YtdhdfmmefghijabW.PrintMore
set_option linter.unusedVariables false
set_option linter.unusedSimpArgs false
theorem rdR (a b : List SRow) (d : SRow) : rd_TRow (a ++ d :: b) (a.length : Int) = d := by simp [rd_TRow]
def bsz : List SRow → Nat
  | [] => 0
  | r :: l => r.f1.size + bsz l
theorem bsz_mem : ∀ {l : List SRow} {r : SRow}, r ∈ l → r.f1.size ≤ bsz l
  | a :: l, r, h => by
    rcases List.mem_cons.1 h with rfl | h
    · simp [bsz]
    · have := bsz_mem h; simp [bsz]; omega
end Go.Proofs.Ytdhdfmmefghijab.Pure
namespace Go.Proofs.Ytdhdfmmefghijab.P
open Go.RowKit Go.Proofs.YtdhdfmmefghijabW.PrintWords Go.Proofs.YtdhdfmmefghijabW.PrintLast Go.Proofs.YtdhdfmmefghijabW.PrintMore
attribute [local go_sem] max2_int min2_int max_two min_two max_three min_three max_four min_four
set_option linter.unusedVariables false
set_option linter.unusedSimpArgs false
attribute [local go_sem high] eqA30
def spec_LayoutSame.l0:Nat→List (SRow)→List (SRow)→Int→Option (Bool)
 | 0,_,_,_=>none
 | k+1,x0,x1,x5=>if x5 < (x0.length:Int) then (if 0≤x5 then (if x5 < (x1.length:Int) then (if (!(((rd_TRow x0 x5).f0) == ((rd_TRow x1 x5).f0)) || (!((((rd_TRow x0 x5).f1).toList) == (((rd_TRow x1 x5).f1).toList))))=true then (some false) else (spec_LayoutSame.l0 k x0 x1 (wrap64 (x5+1)))) else (none)) else (none)) else (some true)
def spec_LayoutSame.f (k:Nat) (l0:List (SRow)) (l1:List (SRow)):Option (Bool):=if (l0.length:Int)=(l1.length:Int) then (spec_LayoutSame.l0 k l0 l1 0) else (some false)
end Go.Proofs.Ytdhdfmmefghijab.P
namespace Go.Proofs.Ytdhdfmmefghijab.Pure
open Go.RowKit Go.Proofs.Ytdhdfmmefghijab.P Go.Proofs.YtdhdfmmefghijabW.PrintWords Go.Proofs.YtdhdfmmefghijabW.PrintLast Go.Proofs.YtdhdfmmefghijabW.PrintMore
set_option linter.unusedVariables false
set_option linter.unusedSimpArgs false
def rowEq (r s : SRow) : Bool := (r.f0 == s.f0) && (r.f1.toList == s.f1.toList)
def rsame : List SRow → List SRow → Bool
  | [], _ => true
  | _ :: _, [] => true
  | r :: a, s :: b => rowEq r s && rsame a b
def laySame (a b : List SRow) : Bool := decide (a.length = b.length) && rsame a b
theorem implLay_loop (suf : List SRow) : ∀ (pre pre' suf' : List SRow), pre.length = pre'.length → suf.length = suf'.length → pre.length + suf.length ≤ 4611686018427387904 →
    Ev (fun k => slices_Equal_Llimpl_Row.l0 k (pre ++ suf) (pre' ++ suf') ((pre ++ suf).length : Int) (pre.length : Int)) (rsame suf suf') := by
  induction suf with
  | nil =>
    intro pre pre' suf' hp hs hm
    refine Ev.step (fun k => by rw [slices_Equal_Llimpl_Row.l0]) ?_
    simp only [List.append_nil, Int.lt_irrefl, if_false, rsame]
    exact Ev.now _
  | cons y suf ih =>
    intro pre pre' suf' hp hs hm
    cases suf' with
    | nil => simp at hs
    | cons e suf' =>
      simp only [List.length_cons] at hm hs
      refine Ev.step (fun k => by rw [slices_Equal_Llimpl_Row.l0]) ?_
      have c1 : (pre.length : Int) < ((pre ++ y :: suf).length : Int) := by simp; omega
      have c2 : (0 : Int) ≤ (pre.length : Int) := by omega
      have c3 : (pre.length : Int) < ((pre' ++ e :: suf').length : Int) := by simp; omega
      have r' : rd_TRow (pre' ++ e :: suf') (pre.length : Int) = e := by rw [hp]; exact rdR pre' suf' e
      have e0 : (!(y.f0 == e.f0) || !(y.f1.toList == e.f1.toList)) = !rowEq y e := by rw [rowEq, Bool.not_and]
      simp only [if_pos c1, if_pos c2, if_pos c3, rdR, r', e0]
      rw [w64 (by omega) (by omega), rsame]
      have := ih (pre ++ [y]) (pre' ++ [e]) suf' (by simp; omega) (by omega) (by simp; omega)
      rw [List.append_assoc, List.append_assoc, show ((pre ++ [y]).length : Int) = (pre.length : Int) + 1 by simp] at this
      cases rowEq y e
      · exact Ev.now _
      · simpa using this
theorem implLay_ev (a b : List SRow) (h : a.length ≤ 4611686018427387904) : Ev (fun k => impl_LayoutSame.f k a b) (laySame a b) := by
  refine Ev.congr (fun k => by rw [impl_LayoutSame.f]) ?_
  refine Ev.bind (r := laySame a b) ?_ (Ev.now _)
  refine Ev.congr (fun k => by rw [slices_Equal_Llimpl_Row.f]) ?_
  refine Ev.iff (fun hc => ?_) (fun hc => ?_)
  · have hc : a.length = b.length := by omega
    have := implLay_loop a [] [] b rfl hc (by simpa using h)
    simpa [laySame, hc] using this
  · have hc : ¬ a.length = b.length := by omega
    rw [laySame, decide_eq_false hc]
    exact Ev.now _
end Go.Proofs.Ytdhdfmmefghijab.Pure
namespace Go.Proofs.Ytdhdfmmefghijab.Pure
open Go.RowKit Go.Proofs.Ytdhdfmmefghijab.P Go.Proofs.YtdhdfmmefghijabW.PrintWords Go.Proofs.YtdhdfmmefghijabW.PrintLast Go.Proofs.YtdhdfmmefghijabW.PrintMore
set_option linter.unusedVariables false
set_option linter.unusedSimpArgs false
theorem size_data (s : ByteArray) : s.size = s.data.toList.length := by rw [Array.length_toList]; rfl
theorem bt_mid {s : ByteArray} {pre suf : List UInt8} {b : UInt8} (h : s.data.toList = pre ++ b :: suf) : bt s (pre.length : Int) = (b.toNat : Int) := by
  have hl : pre.length < s.size := by
    have := congrArg List.length h
    rw [List.length_append, List.length_cons] at this
    rw [size_data]; omega
  unfold bt
  rw [dif_pos (by simpa using hl)]
  have : s[(pre.length : Int).toNat]'(by simpa using hl) = b := by
    show s.data[(pre.length : Int).toNat]'(by simpa using hl) = b
    rw [← Array.getElem_toList]
    simp [h]
  rw [this]
def signC (c : Int) : Bool := c == 44 || (c == 58 || (c == 61 || (c == 123 || (c == 125 || (c == 40 || (c == 41 || (c == 91 || c == 93)))))))
def letC (c : Int) : Bool := (decide (97 ≤ c) && decide (c ≤ 122)) || (decide (48 ≤ c) && decide (c ≤ 57))
def goodC (c : Int) : Bool := letC c || signC c
def goodB (b : UInt8) : Bool := goodC (b.toNat : Int)
def tv (s : ByteArray) : Bool := decide (1 ≤ s.size) && (decide (s.size ≤ 12) && s.data.toList.all goodB)
theorem specText_j3 {s : ByteArray} {i : Int} {l g R : Bool} (h : Ev (fun k => spec_TextValid.l0 k s (wrap64 (i + 1))) R) : Ev (fun k => spec_TextValid.j3 k s i l g) ((l || g) && R) := by
  refine Ev.step (fun k => by rw [spec_TextValid.j3]) ?_
  cases l <;> cases g <;> simp
  · exact Ev.now _
  · exact h
  · exact h
  · exact h
theorem specText_j2 {s : ByteArray} {i c : Int} {l R : Bool} (h : Ev (fun k => spec_TextValid.l0 k s (wrap64 (i + 1))) R) : Ev (fun k => spec_TextValid.j2 k s i c l) ((l || signC c) && R) := by
  refine Ev.step (fun k => by rw [spec_TextValid.j2]) ?_
  have h3 : ∀ g, Ev (fun k => spec_TextValid.j3 k s i l g) ((l || g) && R) := fun g => specText_j3 h
  repeat' refine Ev.iff (fun hc => ?_) (fun hc => ?_)
  · subst hc; exact h3 true
  · subst hc; exact h3 true
  · subst hc; exact h3 true
  · subst hc; exact h3 true
  · subst hc; exact h3 true
  · subst hc; exact h3 true
  · subst hc; exact h3 true
  · subst hc; exact h3 true
  · have e : signC c = (c == 93) := by rw [Bool.eq_iff_iff]; simp [signC]; omega
    rw [e]; exact h3 _
theorem specText_l0 {s : ByteArray} (hs : s.size ≤ 4611686018427387904) : ∀ (suf pre : List UInt8), s.data.toList = pre ++ suf → Ev (fun k => spec_TextValid.l0 k s (pre.length : Int)) (suf.all goodB) := by
  intro suf
  induction suf with
  | nil =>
    intro pre h
    refine Ev.step (fun k => by rw [spec_TextValid.l0]) ?_
    have c1 : ¬ ((pre.length : Int) < (s.size : Int)) := by rw [size_data, h]; simp
    simp only [if_neg c1]
    exact Ev.now _
  | cons b suf ih =>
    intro pre h
    have hl : pre.length < s.size := by rw [size_data, h]; simp
    refine Ev.step (fun k => by rw [spec_TextValid.l0]) ?_
    have c1 : (pre.length : Int) < (s.size : Int) := by omega
    have c2 : (0 : Int) ≤ (pre.length : Int) := by omega
    simp only [if_pos c1, if_pos c2, bt_mid h]
    have hn : Ev (fun k => spec_TextValid.l0 k s (wrap64 ((pre.length : Int) + 1))) (suf.all goodB) := by
      rw [w64 (by omega) (by omega)]
      have := ih (pre ++ [b]) (by rw [h]; simp)
      rw [show ((pre ++ [b]).length : Int) = (pre.length : Int) + 1 by simp] at this
      exact this
    have h2 : ∀ l, l = letC (b.toNat : Int) → Ev (fun k => spec_TextValid.j2 k s (pre.length : Int) (b.toNat : Int) l) ((b :: suf).all goodB) := by
      intro l hl
      rw [List.all_cons, goodB, goodC, ← hl]
      exact specText_j2 hn
    repeat' refine Ev.iff (fun hc => ?_) (fun hc => ?_)
    all_goals refine h2 _ ?_
    all_goals simp [letC, *]
    all_goals omega
theorem specText_ev (s : ByteArray) (hs : s.size ≤ 4611686018427387904) : Ev (fun k => spec_TextValid.f k s) (tv s) := by
  refine Ev.congr (fun k => by rw [spec_TextValid.f]) ?_
  have hl := specText_l0 hs s.data.toList [] rfl
  have h0 : ∀ b, Ev (fun k => spec_TextValid.j0 k s b) (!b && s.data.toList.all goodB) := by
    intro b
    refine Ev.step (fun k => by rw [spec_TextValid.j0]) ?_
    cases b
    · simpa using hl
    · exact Ev.now _
  refine Ev.iff (fun hc => ?_) (fun hc => ?_)
  · have := h0 true
    rwa [show (!true && s.data.toList.all goodB) = tv s from by simp [tv]; omega] at this
  · have := h0 (decide ((s.size : Int) > 12))
    rwa [show (!decide ((s.size : Int) > 12) && s.data.toList.all goodB) = tv s from by
      have e1 : decide (1 ≤ s.size) = true := by simp; omega
      by_cases h12 : s.size ≤ 12
      · have : ¬ ((s.size : Int) > 12) := by omega
        simp [tv, e1, h12, this]
      · have : (s.size : Int) > 12 := by omega
        simp [tv, h12, this]] at this
theorem sign_idx : ∀ n : Nat, n < 256 → (decide (Lib.indexByte [44, 58, 61, 123, 125, 40, 41, 91, 93] (UInt8.ofNat n) ≥ 0)) = signC (n : Int) := by decide +kernel
theorem implText_j1 {s : ByteArray} {i : Int} {g R : Bool} (h : Ev (fun k => impl_TextValid.l0 k s (wrap64 (i + 1))) R) : Ev (fun k => impl_TextValid.j1 k s i (!g)) (g && R) := by
  refine Ev.step (fun k => by rw [impl_TextValid.j1]) ?_
  cases g <;> simp
  · exact Ev.now _
  · exact h
theorem implText_l0 {s : ByteArray} (hs : s.size ≤ 4611686018427387904) : ∀ (suf pre : List UInt8), s.data.toList = pre ++ suf → Ev (fun k => impl_TextValid.l0 k s (pre.length : Int)) (suf.all goodB && (decide (1 ≤ s.size) && decide (s.size ≤ 12))) := by
  intro suf
  induction suf with
  | nil =>
    intro pre h
    refine Ev.step (fun k => by rw [impl_TextValid.l0]) ?_
    have c1 : ¬ ((pre.length : Int) < (s.size : Int)) := by rw [size_data, h]; simp
    simp only [if_neg c1]
    refine Ev.iff (fun hc => ?_) (fun hc => ?_)
    · rw [show (([] : List UInt8).all goodB && (decide (1 ≤ s.size) && decide (s.size ≤ 12))) = decide ((s.size : Int) ≤ 12) from by
        have : 1 ≤ s.size := by omega
        simp [this]; omega]
      exact Ev.now _
    · rw [show (([] : List UInt8).all goodB && (decide (1 ≤ s.size) && decide (s.size ≤ 12))) = false from by
        have : ¬ 1 ≤ s.size := by omega
        simp [this]]
      exact Ev.now _
  | cons b suf ih =>
    intro pre h
    have hl : pre.length < s.size := by rw [size_data, h]; simp
    refine Ev.step (fun k => by rw [impl_TextValid.l0]) ?_
    have c1 : (pre.length : Int) < (s.size : Int) := by omega
    have c2 : (0 : Int) ≤ (pre.length : Int) := by omega
    simp only [if_pos c1, if_pos c2, bt_mid h]
    have hn : Ev (fun k => impl_TextValid.l0 k s (wrap64 ((pre.length : Int) + 1))) (suf.all goodB && (decide (1 ≤ s.size) && decide (s.size ≤ 12))) := by
      rw [w64 (by omega) (by omega)]
      have := ih (pre ++ [b]) (by rw [h]; simp)
      rw [show ((pre ++ [b]).length : Int) = (pre.length : Int) + 1 by simp] at this
      exact this
    have h2 : ∀ g, g = goodC (b.toNat : Int) → Ev (fun k => impl_TextValid.j1 k s (pre.length : Int) (!g)) ((b :: suf).all goodB && (decide (1 ≤ s.size) && decide (s.size ≤ 12))) := by
      intro g hg
      rw [List.all_cons, goodB, ← hg, Bool.and_assoc]
      exact implText_j1 hn
    have hb : b.toNat < 256 := b.toNat_lt
    have hi : strings_IndexByte.f (⟨#[44, 58, 61, 123, 125, 40, 41, 91, 93]⟩ : ByteArray) (b.toNat : Int) = some (Lib.indexByte [44, 58, 61, 123, 125, 40, 41, 91, 93] (UInt8.ofNat b.toNat)) := by
      simp [strings_IndexByte.f]
    have hsg := sign_idx b.toNat hb
    simp only [hi, Option.bind_some, hsg]
    repeat' refine Ev.iff (fun hc => ?_) (fun hc => ?_)
    all_goals refine h2 _ ?_
    all_goals
      have e : letC (b.toNat : Int) = true ∨ letC (b.toNat : Int) = false := by cases letC (b.toNat : Int) <;> simp
      rcases e with e | e <;> simp [goodC, e] <;> (simp [letC] at e; omega)
theorem implText_ev (s : ByteArray) (hs : s.size ≤ 4611686018427387904) : Ev (fun k => impl_TextValid.f k s) (tv s) := by
  refine Ev.congr (fun k => by rw [impl_TextValid.f]) ?_
  have hl := implText_l0 hs s.data.toList [] rfl
  rwa [show (s.data.toList.all goodB && (decide (1 ≤ s.size) && decide (s.size ≤ 12))) = tv s from by
    simp only [tv]
    cases s.data.toList.all goodB <;> simp] at hl
end Go.Proofs.Ytdhdfmmefghijab.Pure
namespace Go.Proofs.Ytdhdfmmefghijab.Pure
open Go.RowKit Go.Proofs.Ytdhdfmmefghijab.P Go.Proofs.YtdhdfmmefghijabW.PrintWords Go.Proofs.YtdhdfmmefghijabW.PrintLast Go.Proofs.YtdhdfmmefghijabW.PrintMore
set_option linter.unusedVariables false
set_option linter.unusedSimpArgs false
def rowB (b : UInt8) : Bool := (b == 32) || goodB b
def rowT (s : ByteArray) : Bool := s.data.toList.all rowB && decide (s.size < 2000)
theorem bt_32 {s : ByteArray} {pre suf : List UInt8} {b : UInt8} (h : s.data.toList = pre ++ b :: suf) : (bt s (pre.length : Int) = 32) ↔ (b == 32) = true := by
  rw [bt_mid h, beq_iff_eq]
  constructor
  · intro h; exact UInt8.toNat_inj.1 (by show b.toNat = 32; omega)
  · intro h; rw [h]; rfl
theorem one_data {s : ByteArray} {pre suf : List UInt8} {b : UInt8} (h : s.data.toList = pre ++ b :: suf) : (s.extract pre.length (pre.length + 1)).data.toList = [b] := by
  rw [ByteArray.data_extract, Array.toList_extract, List.extract_eq_take_drop, h]
  simp
theorem tv_one {s : ByteArray} {pre suf : List UInt8} {b : UInt8} (h : s.data.toList = pre ++ b :: suf) : tv (s.extract pre.length (pre.length + 1)) = goodB b ∧ (s.extract pre.length (pre.length + 1)).size = 1 := by
  have e := one_data h
  have z : (s.extract pre.length (pre.length + 1)).size = 1 := by rw [size_data, e]; rfl
  refine ⟨?_, z⟩
  rw [tv, z, e]
  simp
theorem specL2_loop {s : ByteArray} (hs : s.size ≤ 4611686018427387904) : ∀ (suf pre : List UInt8), s.data.toList = pre ++ suf → pre.length ≤ 2000 → Ev (fun k => spec_l2Text.l0 k s (pre.length : Int)) (suf.all rowB && decide (s.size < 2000)) := by
  intro suf
  induction suf with
  | nil =>
    intro pre h hp
    refine Ev.step (fun k => by rw [spec_l2Text.l0]) ?_
    have c1 : ¬ ((pre.length : Int) < (s.size : Int)) := by rw [size_data, h]; simp
    simp only [if_neg c1]
    refine Ev.step (fun k => by rw [spec_l2Text.j1]) ?_
    simp only [Bool.false_eq_true, if_false]
    rw [show (([] : List UInt8).all rowB && decide (s.size < 2000)) = decide ((s.size : Int) < 2000) from by simp; omega]
    exact Ev.now _
  | cons b suf ih =>
    intro pre h hp
    have hl : pre.length < s.size := by rw [size_data, h]; simp
    refine Ev.step (fun k => by rw [spec_l2Text.l0]) ?_
    have c1 : (pre.length : Int) < (s.size : Int) := by omega
    have c2 : (0 : Int) ≤ (pre.length : Int) := by omega
    simp only [if_pos c1]
    refine Ev.step (fun k => by rw [spec_l2Text.j1]) ?_
    by_cases hq : pre.length < 2000
    · have hq' : decide ((pre.length : Int) < 2000) = true := by simp; omega
      simp only [hq', if_true, if_pos c1, if_pos c2]
      rw [w64 (by omega) (by omega)]
      have hn : Ev (fun k => spec_l2Text.l0 k s ((pre.length : Int) + 1)) (suf.all rowB && decide (s.size < 2000)) := by
        have := ih (pre ++ [b]) (by rw [h]; simp) (by simp; omega)
        rw [show ((pre ++ [b]).length : Int) = (pre.length : Int) + 1 by simp] at this
        exact this
      have hb := bt_32 h
      by_cases h32 : (b == 32) = true
      · simp only [if_pos (hb.2 h32)]
        simpa [rowB, h32] using hn
      · have c3 : (pre.length : Int) ≤ (pre.length : Int) + 1 := by omega
        have c4 : (pre.length : Int) + 1 ≤ (s.size : Int) := by omega
        simp only [if_neg (fun h => h32 (hb.1 h)), if_pos c3, if_pos c4]
        have e := tv_one h
        rw [show ((pre.length : Int) + 1 : Int).toNat = pre.length + 1 by omega, Int.toNat_natCast]
        refine Ev.bind (specText_ev _ (by omega)) ?_
        rw [e.1]
        have h32' : (b == 32) = false := by simpa using h32
        rw [List.all_cons, rowB, h32', Bool.false_or]
        cases goodB b
        · exact Ev.now _
        · simpa using hn
    · have hq' : decide ((pre.length : Int) < 2000) = false := by simp; omega
      simp only [hq', Bool.false_eq_true, if_false]
      rw [show ((b :: suf).all rowB && decide (s.size < 2000)) = decide ((s.size : Int) < 2000) from by
        have e1 : decide (s.size < 2000) = false := by simp; omega
        have e2 : decide ((s.size : Int) < 2000) = false := by simp; omega
        rw [e1, e2, Bool.and_false]]
      exact Ev.now _
theorem specL2_ev (s : ByteArray) (hs : s.size ≤ 4611686018427387904) : Ev (fun k => spec_l2Text.f k s) (rowT s) := by
  refine Ev.congr (fun k => by rw [spec_l2Text.f]) ?_
  exact specL2_loop hs s.data.toList [] rfl (by simp)
theorem implRB_loop {s : ByteArray} (hs : s.size ≤ 4611686018427387904) : ∀ (suf pre : List UInt8), s.data.toList = pre ++ suf → Ev (fun k => impl_rowBytes.l0 k s (pre.length : Int)) (suf.all rowB) := by
  intro suf
  induction suf with
  | nil =>
    intro pre h
    refine Ev.step (fun k => by rw [impl_rowBytes.l0]) ?_
    have c1 : ¬ ((pre.length : Int) < (s.size : Int)) := by rw [size_data, h]; simp
    simp only [if_neg c1]
    exact Ev.now _
  | cons b suf ih =>
    intro pre h
    have hl : pre.length < s.size := by rw [size_data, h]; simp
    refine Ev.step (fun k => by rw [impl_rowBytes.l0]) ?_
    have c1 : (pre.length : Int) < (s.size : Int) := by omega
    have c2 : (0 : Int) ≤ (pre.length : Int) := by omega
    simp only [if_pos c1, if_pos c2]
    rw [w64 (by omega) (by omega)]
    have hn : Ev (fun k => impl_rowBytes.l0 k s ((pre.length : Int) + 1)) (suf.all rowB) := by
      have := ih (pre ++ [b]) (by rw [h]; simp)
      rw [show ((pre ++ [b]).length : Int) = (pre.length : Int) + 1 by simp] at this
      exact this
    have hb := bt_32 h
    by_cases h32 : (b == 32) = true
    · simp only [if_pos (hb.2 h32)]
      simpa [rowB, h32] using hn
    · have c3 : (pre.length : Int) ≤ (pre.length : Int) + 1 := by omega
      have c4 : (pre.length : Int) + 1 ≤ (s.size : Int) := by omega
      simp only [if_neg (fun h => h32 (hb.1 h)), if_pos c3, if_pos c4]
      have e := tv_one h
      rw [show ((pre.length : Int) + 1 : Int).toNat = pre.length + 1 by omega, Int.toNat_natCast]
      refine Ev.bind (implText_ev _ (by omega)) ?_
      rw [e.1]
      have h32' : (b == 32) = false := by simpa using h32
      rw [List.all_cons, rowB, h32', Bool.false_or]
      cases goodB b
      · exact Ev.now _
      · simpa using hn
theorem implRB_ev (s : ByteArray) (hs : s.size ≤ 4611686018427387904) : Ev (fun k => impl_rowBytes.f k s) (s.data.toList.all rowB) := by
  refine Ev.congr (fun k => by rw [impl_rowBytes.f]) ?_
  exact implRB_loop hs s.data.toList [] rfl
def rowOk (r : SRow) : Bool := decide (0 ≤ r.f0) && (decide (r.f0 ≤ 400) && rowT r.f1)
def rowsOk : Nat → List SRow → Bool
  | _, [] => true
  | i, r :: l => ((i != 0 || r.f0 == 0) && rowOk r) && rowsOk (i + 1) l
def layV (l : List SRow) : Bool := rowsOk 0 l && (decide (0 < l.length) && decide (l.length ≤ 200))
theorem rowsOk_all : ∀ (l : List SRow) (i : Nat), rowsOk (i + 1) l = l.all rowOk
  | [], _ => rfl
  | r :: l, i => by rw [rowsOk, rowsOk_all l (i + 1)]; simp
theorem layV_ok {l : List SRow} (h : layV l = true) : 0 < l.length ∧ l.length ≤ 200 ∧ ∀ r ∈ l, rowOk r = true := by
  simp only [layV, Bool.and_eq_true, decide_eq_true_eq] at h
  refine ⟨h.2.1, h.2.2, ?_⟩
  cases l with
  | nil => intro r hr; cases hr
  | cons a l =>
    have h1 := h.1
    rw [rowsOk, rowsOk_all] at h1
    simp only [Bool.and_eq_true, List.all_eq_true] at h1
    intro r hr
    rcases List.mem_cons.1 hr with rfl | hr
    · exact h1.1.2
    · exact h1.2 r hr
theorem specLV_j2 {l : List SRow} {i : Int} {b R : Bool} (h : Ev (fun k => spec_LayoutValid.l0 k l (wrap64 (i + 1))) R) : Ev (fun k => spec_LayoutValid.j2 k l i (!b)) (b && R) := by
  refine Ev.step (fun k => by rw [spec_LayoutValid.j2]) ?_
  cases b
  · exact Ev.now _
  · simpa using h
theorem specLV_loop (suf : List SRow) : ∀ (pre : List SRow), (∀ y, y ∈ suf → y.f1.size ≤ 4611686018427387904) → pre.length ≤ 201 → pre.length + suf.length ≤ 4611686018427387904 →
    Ev (fun k => spec_LayoutValid.l0 k (pre ++ suf) (pre.length : Int)) (rowsOk pre.length suf && (decide (0 < (pre ++ suf).length) && decide ((pre ++ suf).length ≤ 200))) := by
  induction suf with
  | nil =>
    intro pre _ hp hm
    refine Ev.step (fun k => by rw [spec_LayoutValid.l0]) ?_
    simp only [List.append_nil, Int.lt_irrefl, if_false]
    refine Ev.step (fun k => by rw [spec_LayoutValid.j1]) ?_
    simp only [Bool.false_eq_true, if_false]
    refine Ev.iff (fun hc => ?_) (fun hc => ?_)
    · rw [show (rowsOk pre.length [] && (decide (0 < pre.length) && decide (pre.length ≤ 200))) = decide ((pre.length : Int) ≤ 200) from by
        have : 0 < pre.length := by omega
        simp [rowsOk, this]; omega]
      exact Ev.now _
    · rw [show (rowsOk pre.length [] && (decide (0 < pre.length) && decide (pre.length ≤ 200))) = false from by
        have : ¬ 0 < pre.length := by omega
        simp [this]]
      exact Ev.now _
  | cons y suf ih =>
    intro pre hy hp hm
    simp only [List.length_cons] at hm
    have hs := hy y List.mem_cons_self
    have c1 : (pre.length : Int) < ((pre ++ y :: suf).length : Int) := by simp; omega
    have c2 : (0 : Int) ≤ (pre.length : Int) := by omega
    refine Ev.step (fun k => by rw [spec_LayoutValid.l0]) ?_
    simp only [if_pos c1]
    refine Ev.step (fun k => by rw [spec_LayoutValid.j1]) ?_
    by_cases hq : pre.length ≤ 200
    · have hq' : decide ((pre.length : Int) ≤ 200) = true := by simp; omega
      simp only [hq', if_true, if_pos c1, if_pos c2, rdR]
      have hn : Ev (fun k => spec_LayoutValid.l0 k (pre ++ y :: suf) (wrap64 ((pre.length : Int) + 1))) (rowsOk (pre.length + 1) suf && (decide (0 < (pre ++ y :: suf).length) && decide ((pre ++ y :: suf).length ≤ 200))) := by
        rw [w64 (by omega) (by omega)]
        have := ih (pre ++ [y]) (fun z hz => hy z (List.mem_cons_of_mem _ hz)) (by simp; omega) (by simp; omega)
        rw [List.append_assoc, show ((pre ++ [y]).length : Int) = (pre.length : Int) + 1 by simp, show (pre ++ [y]).length = pre.length + 1 by simp] at this
        exact this
      have J := fun b => specLV_j2 (b := b) hn
      rw [rowsOk, Bool.and_assoc]
      refine Ev.iff (fun h0 => ?_) (fun h0 => ?_)
      · have e : rowOk y = false := by simp [rowOk]; omega
        have := J false
        simpa [e] using this
      refine Ev.iff (fun h1 => ?_) (fun h1 => ?_)
      · have e : rowOk y = false := by
          have : ¬ y.f0 ≤ 400 := by omega
          simp [rowOk, this]
        have := J false
        simpa [e] using this
      have e : rowOk y = rowT y.f1 := by
        have h0 : 0 ≤ y.f0 := by omega
        have h1 : y.f0 ≤ 400 := by omega
        simp [rowOk, h0, h1]
      rw [e]
      refine Ev.iff (fun h2 => ?_) (fun h2 => ?_)
      · refine Ev.iff (fun h3 => ?_) (fun h3 => ?_)
        · refine Ev.bind (specL2_ev _ hs) ?_
          have := J (rowT y.f1)
          simpa [h3] using this
        · have := J false
          have h2 : pre.length = 0 := by omega
          have h3 : (y.f0 == 0) = false := by simpa using h3
          simpa [h3, h2] using this
      · refine Ev.bind (specL2_ev _ hs) ?_
        have := J (rowT y.f1)
        have h2 : (pre.length != 0) = true := bne_iff_ne.2 (by omega)
        simpa [h2] using this
    · have hq' : decide ((pre.length : Int) ≤ 200) = false := by simp; omega
      simp only [hq', Bool.false_eq_true, if_false]
      have c3 : ((pre ++ y :: suf).length : Int) > 0 := by omega
      have c4 : decide ((pre ++ y :: suf).length ≤ 200) = false := by simp; omega
      have c5 : decide (((pre ++ y :: suf).length : Int) ≤ 200) = false := by simp; omega
      simp only [if_pos c3, c4, c5, Bool.and_false]
      exact Ev.now _
theorem specLV_ev (l : List SRow) (hl : l.length ≤ 4611686018427387904) (hs : ∀ y ∈ l, y.f1.size ≤ 4611686018427387904) : Ev (fun k => spec_LayoutValid.f k l) (layV l) := by
  refine Ev.congr (fun k => by rw [spec_LayoutValid.f]) ?_
  have := specLV_loop l [] hs (by simp) (by simpa using hl)
  simpa [layV] using this
theorem implLV_j2 {l : List SRow} {m i : Int} {b R : Bool} (h : Ev (fun k => impl_LayoutValid.l0 k l m (wrap64 (i + 1))) R) : Ev (fun k => impl_LayoutValid.j2 k l m i (!b)) (b && R) := by
  refine Ev.step (fun k => by rw [impl_LayoutValid.j2]) ?_
  cases b
  · exact Ev.now _
  · simpa using h
theorem implLV_loop (suf : List SRow) : ∀ (pre : List SRow), (∀ y, y ∈ suf → y.f1.size ≤ 4611686018427387904) → pre.length + suf.length ≤ 4611686018427387904 →
    Ev (fun k => impl_LayoutValid.l0 k (pre ++ suf) ((pre ++ suf).length : Int) (pre.length : Int)) (suf.all rowOk) := by
  induction suf with
  | nil =>
    intro pre _ hm
    refine Ev.step (fun k => by rw [impl_LayoutValid.l0]) ?_
    simp only [List.append_nil, Int.lt_irrefl, if_false]
    exact Ev.now _
  | cons y suf ih =>
    intro pre hy hm
    simp only [List.length_cons] at hm
    have hs := hy y List.mem_cons_self
    have c1 : (pre.length : Int) < ((pre ++ y :: suf).length : Int) := by simp; omega
    have c2 : (0 : Int) ≤ (pre.length : Int) := by omega
    refine Ev.step (fun k => by rw [impl_LayoutValid.l0]) ?_
    simp only [if_pos c1, if_pos c2, rdR]
    have hn : Ev (fun k => impl_LayoutValid.l0 k (pre ++ y :: suf) ((pre ++ y :: suf).length : Int) (wrap64 ((pre.length : Int) + 1))) (suf.all rowOk) := by
      rw [w64 (by omega) (by omega)]
      have := ih (pre ++ [y]) (fun z hz => hy z (List.mem_cons_of_mem _ hz)) (by simp; omega)
      rw [List.append_assoc, show ((pre ++ [y]).length : Int) = (pre.length : Int) + 1 by simp] at this
      exact this
    have J := fun b => implLV_j2 (b := b) hn
    rw [List.all_cons]
    refine Ev.iff (fun h0 => ?_) (fun h0 => ?_)
    · have e : rowOk y = false := by simp [rowOk]; omega
      have := J false
      simpa [e] using this
    refine Ev.iff (fun h1 => ?_) (fun h1 => ?_)
    · have e : rowOk y = false := by
        have : ¬ y.f0 ≤ 400 := by omega
        simp [rowOk, this]
      have := J false
      simpa [e] using this
    have e : rowOk y = rowT y.f1 := by
      have h0 : 0 ≤ y.f0 := by omega
      have h1 : y.f0 ≤ 400 := by omega
      simp [rowOk, h0, h1]
    rw [e]
    refine Ev.bind (implRB_ev _ hs) ?_
    have e2 : decide ((y.f1.size : Int) ≥ 2000) = !decide (y.f1.size < 2000) := by
      by_cases h : y.f1.size < 2000
      · have : ¬ (y.f1.size : Int) ≥ 2000 := by omega
        simp [h, this]
      · have : (y.f1.size : Int) ≥ 2000 := by omega
        simp [h, this]
    rw [e2]
    have J1 := J (rowT y.f1)
    have J0 := J false
    rw [rowT] at J1 ⊢
    generalize y.f1.data.toList.all rowB = A at J1 ⊢
    cases A
    · simpa using J0
    · simpa using J1
theorem implLV_ev (l : List SRow) (hl : l.length ≤ 4611686018427387904) (hs : ∀ y ∈ l, y.f1.size ≤ 4611686018427387904) : Ev (fun k => impl_LayoutValid.f k l) (layV l) := by
  refine Ev.congr (fun k => by rw [impl_LayoutValid.f]) ?_
  have F : Ev (fun k => impl_LayoutValid.j0 k l true) false := by
    refine Ev.step (fun k => by rw [impl_LayoutValid.j0]) ?_
    exact Ev.now _
  refine Ev.iff (fun h0 => ?_) (fun h0 => ?_)
  · have : ¬ 0 < l.length := by omega
    simpa [layV, this] using F
  refine Ev.iff (fun h1 => ?_) (fun h1 => ?_)
  · have : ¬ l.length ≤ 200 := by omega
    simpa [layV, this] using F
  have c : (0 : Int) < (l.length : Int) := by omega
  simp only [if_pos c]
  have h0' : 0 < l.length := by omega
  have h1' : l.length ≤ 200 := by omega
  cases l with
  | nil => simp at h0'
  | cons r l =>
    have e0 : rd_TRow (r :: l) 0 = r := by simp [rd_TRow]
    rw [e0]
    have L := implLV_loop (r :: l) [] hs (by simpa using hl)
    by_cases hr : r.f0 = 0
    · have e1 : (r.f0 != 0) = false := by simp [hr]
      rw [e1]
      refine Ev.step (fun k => by rw [impl_LayoutValid.j0]) ?_
      have e2 : layV (r :: l) = (r :: l).all rowOk := by
        simp only [layV, rowsOk, rowsOk_all, hr, h0', h1']
        simp
      rw [e2]
      simpa using L
    · have e1 : (r.f0 != 0) = true := by simp [hr]
      rw [e1]
      have e2 : layV (r :: l) = false := by
        simp [layV, rowsOk, hr]
      rw [e2]
      exact F
end Go.Proofs.Ytdhdfmmefghijab.Pure
namespace Go.Proofs.Ytdhdfmmefghijab.Pure
open Go.RowKit Go.Proofs.Ytdhdfmmefghijab.P Go.Proofs.YtdhdfmmefghijabW.PrintWords Go.Proofs.YtdhdfmmefghijabW.PrintLast Go.Proofs.YtdhdfmmefghijabW.PrintMore
set_option linter.unusedVariables false
set_option linter.unusedSimpArgs false
def catO : List SRow → List SRow → List SRow
  | [], b => b
  | [r], [] => [r]
  | [r], s :: t => ⟨r.f0, r.f1 ++ s.f1⟩ :: t
  | r :: r' :: a, b => r :: catO (r' :: a) b
theorem catO_eq (r s : SRow) (t : List SRow) : ∀ pre : List SRow, catO (pre ++ [r]) (s :: t) = pre ++ ⟨r.f0, r.f1 ++ s.f1⟩ :: t
  | [] => rfl
  | [a] => rfl
  | a :: a' :: pre => by
    have := catO_eq r s t (a' :: pre)
    simp only [List.cons_append] at this ⊢
    rw [catO, this]
theorem setL (a b : List SRow) (d z : SRow) : (a ++ d :: b).set (a.length : Int).toNat z = a ++ z :: b := by
  rw [Int.toNat_natCast, List.set_append_right _ _ (Nat.le_refl _), Nat.sub_self, List.set_cons_zero]
theorem specCat_eq (pre t : List SRow) (r s : SRow) (h1 : pre.length + t.length ≤ 1099511627776) (h2 : r.f1.size + s.f1.size ≤ 9223372036854775807) :
    spec_l2Cat.f (pre ++ [r]) (s :: t) = some (pre ++ ⟨r.f0, r.f1 ++ s.f1⟩ :: t) := by
  have hl : (pre ++ [r]).length = pre.length + 1 := by simp
  have e0 : wrap64 (((pre ++ [r]).length : Int) - 1) = (pre.length : Int) := by rw [hl, w64 (by omega) (by omega)]; omega
  have r0 : rd_TRow (pre ++ [r]) (pre.length : Int) = r := rdR pre [] r
  have r1 : rd_TRow (s :: t) 0 = s := by simp [rd_TRow]
  rw [spec_l2Cat.f]
  simp only [Option.bind_some, List.nil_append, List.length_nil, Nat.zero_add, if_pos (show (pre ++ [r]).length < 5864062014805 by omega), e0, if_pos (show (0 : Int) ≤ (pre.length : Int) by omega),
    if_pos (show (pre.length : Int) < ((pre ++ [r]).length : Int) by omega), if_pos (show (0 : Int) < ((s :: t).length : Int) by rw [List.length_cons]; omega), r0, r1, if_pos h2, setL, if_pos (show (1 : Int) ≤ ((s :: t).length : Int) by rw [List.length_cons]; omega), List.drop_one, List.tail_cons]
  rw [if_pos (by simp; omega)]
  simp
theorem implCat_eq (pre t : List SRow) (r s : SRow) (h1 : pre.length + t.length ≤ 1099511627776) (h2 : r.f1.size + s.f1.size ≤ 9223372036854775807) :
    impl_catRows.f (pre ++ [r]) (s :: t) = some (pre ++ ⟨r.f0, r.f1 ++ s.f1⟩ :: t) := by
  have hl : (pre ++ [r]).length = pre.length + 1 := by simp
  have e0 : wrap64 (((pre ++ [r]).length : Int) - 1) = (pre.length : Int) := by rw [hl, w64 (by omega) (by omega)]; omega
  have r0 : rd_TRow (pre ++ r :: t) (pre.length : Int) = r := rdR pre t r
  have r1 : rd_TRow (s :: t) 0 = s := by simp [rd_TRow]
  rw [impl_catRows.f, slices_Clone_Llimpl_Row.f, if_pos (show (pre ++ [r]).length < 5864062014805 by omega)]
  simp only [Option.bind_some, if_pos (show (1 : Int) ≤ ((s :: t).length : Int) by rw [List.length_cons]; omega), List.drop_one, List.tail_cons, if_pos (show (pre ++ [r]).length + t.length < 5864062014805 by omega), List.append_assoc, List.cons_append, List.nil_append]
  rw [show ((pre ++ [r]).length : Int) - 1 = (pre.length : Int) by omega, w64 (by omega) (by omega)]
  simp only [if_pos (show (0 : Int) ≤ (pre.length : Int) by omega), if_pos (show (pre.length : Int) < ((pre ++ r :: t).length : Int) by simp; omega), if_pos (show (0 : Int) < ((s :: t).length : Int) by rw [List.length_cons]; omega), r0, r1, if_pos h2, setL]
def catL (a b : List SRow) : List SRow × Bool := if (layV a && layV b) = true then (if layV (catO a b) = true then (catO a b, true) else ([], false)) else ([], false)
theorem cat_split {a b : List SRow} (ha : layV a = true) (hb : layV b = true) : ∃ pre r s t, a = pre ++ [r] ∧ b = s :: t ∧ catO a b = pre ++ ⟨r.f0, r.f1 ++ s.f1⟩ :: t ∧ pre.length ≤ 199 ∧ t.length ≤ 199 := by
  have h1 := layV_ok ha
  have h2 := layV_ok hb
  rcases List.eq_nil_or_concat a with rfl | ⟨pre, r, e⟩
  · simp at h1
  · cases b with
    | nil => simp at h2
    | cons s t =>
      rw [List.concat_eq_append] at e
      refine ⟨pre, r, s, t, e, rfl, by rw [e]; exact catO_eq r s t pre, ?_, ?_⟩
      · have := h1.2.1; rw [e] at this; simp at this; omega
      · have := h2.2.1; simp at this; omega
theorem catO_sizes {a b : List SRow} (ha : ∀ y ∈ a, y.f1.size ≤ 1048576) (hb : ∀ y ∈ b, y.f1.size ≤ 1048576) (hv : layV a = true) (hw : layV b = true) : (catO a b).length ≤ 400 ∧ ∀ y ∈ catO a b, y.f1.size ≤ 4611686018427387904 := by
  obtain ⟨pre, r, s, t, e1, e2, e3, h1, h2⟩ := cat_split hv hw
  rw [e3]
  refine ⟨by simp; omega, fun y hy => ?_⟩
  have hr := ha r (by rw [e1]; simp)
  have hs := hb s (by rw [e2]; simp)
  rcases List.mem_append.1 hy with h | h
  · have := ha y (by rw [e1]; simp [h]); omega
  · rcases List.mem_cons.1 h with rfl | h
    · show (r.f1 ++ s.f1).size ≤ _
      rw [ByteArray.size_append]; omega
    · have := hb y (by rw [e2]; simp [h]); omega
theorem specCatL_ev (a b : List SRow) (hla : a.length ≤ 1048576) (hlb : b.length ≤ 1048576) (ha : ∀ y ∈ a, y.f1.size ≤ 1048576) (hb : ∀ y ∈ b, y.f1.size ≤ 1048576) : Ev (fun k => spec_CatLayouts.f k a b) (catL a b) := by
  refine Ev.congr (fun k => by rw [spec_CatLayouts.f]) ?_
  refine Ev.bind (specLV_ev a (by omega) (fun y hy => by have := ha y hy; omega)) ?_
  have F : Ev (fun k => spec_CatLayouts.j0 k a b true) ([], false) := Ev.step (fun k => by rw [spec_CatLayouts.j0]) (by simp only [if_true]; exact Ev.now _)
  by_cases hv : layV a = true
  · simp only [if_pos hv]
    refine Ev.bind (specLV_ev b (by omega) (fun y hy => by have := hb y hy; omega)) ?_
    by_cases hw : layV b = true
    · obtain ⟨pre, r, s, t, e1, e2, e3, h1, h2⟩ := cat_split hv hw
      have hz := catO_sizes ha hb hv hw
      have hr := ha r (by rw [e1]; simp)
      have hs := hb s (by rw [e2]; simp)
      have e4 : spec_l2Cat.f a b = some (catO a b) := by rw [e3, e1, e2]; exact specCat_eq pre t r s (by omega) (by omega)
      refine Ev.step (fun k => by rw [spec_CatLayouts.j0]) ?_
      simp only [hw, Bool.not_true, Bool.false_eq_true, if_false, e4, Option.bind_some]
      refine Ev.bind (specLV_ev _ (by omega) hz.2) ?_
      rw [catL, hv, hw]
      simp only [Bool.and_self, if_true]
      by_cases ho : layV (catO a b) = true
      · simp only [if_pos ho]; exact Ev.now _
      · simp only [if_neg ho]; exact Ev.now _
    · have hw : layV b = false := by simpa using hw
      have e : catL a b = ([], false) := by simp [catL, hw]
      rw [e, hw]
      exact F
  · have hv : layV a = false := by simpa using hv
    have e : catL a b = ([], false) := by simp [catL, hv]
    rw [e, hv]
    exact F
theorem implCatL_ev (a b : List SRow) (hla : a.length ≤ 1048576) (hlb : b.length ≤ 1048576) (ha : ∀ y ∈ a, y.f1.size ≤ 1048576) (hb : ∀ y ∈ b, y.f1.size ≤ 1048576) : Ev (fun k => impl_CatLayouts.f k a b) (catL a b) := by
  refine Ev.congr (fun k => by rw [impl_CatLayouts.f]) ?_
  refine Ev.bind (implLV_ev a (by omega) (fun y hy => by have := ha y hy; omega)) ?_
  have F : Ev (fun k => impl_CatLayouts.j0 k a b true) ([], false) := Ev.step (fun k => by rw [impl_CatLayouts.j0]) (by simp only [if_true]; exact Ev.now _)
  by_cases hv : layV a = true
  · simp only [if_pos hv]
    refine Ev.bind (implLV_ev b (by omega) (fun y hy => by have := hb y hy; omega)) ?_
    by_cases hw : layV b = true
    · obtain ⟨pre, r, s, t, e1, e2, e3, h1, h2⟩ := cat_split hv hw
      have hz := catO_sizes ha hb hv hw
      have hr := ha r (by rw [e1]; simp)
      have hs := hb s (by rw [e2]; simp)
      have e4 : impl_catRows.f a b = some (catO a b) := by rw [e3, e1, e2]; exact implCat_eq pre t r s (by omega) (by omega)
      refine Ev.step (fun k => by rw [impl_CatLayouts.j0]) ?_
      simp only [hw, Bool.not_true, Bool.false_eq_true, if_false, e4, Option.bind_some]
      refine Ev.bind (implLV_ev _ (by omega) hz.2) ?_
      rw [catL, hv, hw]
      simp only [Bool.and_self, if_true]
      by_cases ho : layV (catO a b) = true
      · simp only [if_pos ho]; exact Ev.now _
      · simp only [if_neg ho]; exact Ev.now _
    · have hw : layV b = false := by simpa using hw
      have e : catL a b = ([], false) := by simp [catL, hw]
      rw [e, hw]
      exact F
  · have hv : layV a = false := by simpa using hv
    have e : catL a b = ([], false) := by simp [catL, hv]
    rw [e, hv]
    exact F
end Go.Proofs.Ytdhdfmmefghijab.Pure
namespace Go.Proofs.Ytdhdfmmefghijab.P
open Go.RowKit Go.Proofs.YtdhdfmmefghijabW.PrintWords Go.Proofs.YtdhdfmmefghijabW.PrintLast Go.Proofs.YtdhdfmmefghijabW.PrintMore
attribute [local go_sem] max2_int min2_int max_two min_two max_three min_three max_four min_four
set_option linter.unusedVariables false
set_option linter.unusedSimpArgs false
def impl_nestRows.l0:Nat→Int→List (SRow)→Int→Option ((List (SRow)))
 | 0,_,_,_=>none
 | k+1,x0,x5,x6=>if x6 < (x5.length:Int) then (if 0≤x6 then (impl_nestRows.l0 k x0 (x5.set (x6:Int).toNat (⟨wrap64 (((rd_TRow x5 x6).f0)+x0),(rd_TRow x5 x6).f1⟩:SRow)) (wrap64 (x6+1))) else (none)) else (some x5)
def impl_nestRows.f (k:Nat) (a0:Int) (l1:List (SRow)):Option ((List (SRow))):=(slices_Clone_Llimpl_Row.f l1).bind fun t593=>(impl_nestRows.l0 k a0 t593 1)
end Go.Proofs.Ytdhdfmmefghijab.P
namespace Go.Proofs.Ytdhdfmmefghijab.P
open Go.RowKit Go.Proofs.YtdhdfmmefghijabW.PrintWords Go.Proofs.YtdhdfmmefghijabW.PrintLast Go.Proofs.YtdhdfmmefghijabW.PrintMore
attribute [local go_sem] max2_int min2_int max_two min_two max_three min_three max_four min_four
set_option linter.unusedVariables false
set_option linter.unusedSimpArgs false
def spec_NestLayout.j0:Nat→Int→List (SRow)→Bool→Option ((List (SRow)) × Bool)
 | 0,_,_,_=>none
 | k+1,x0,x1,x17=>if x17=true then (some ((([]:List (SRow))),false)) else ((spec_l2Nest.f k x0 x1).bind fun t607=>((spec_LayoutValid.f k t607).bind fun t610=>(if t610=true then (some (t607,true)) else (some ((([]:List (SRow))),false)))))
def spec_NestLayout.f (k:Nat) (a0:Int) (l1:List (SRow)):Option ((List (SRow)) × Bool):=(spec_LayoutValid.f k l1).bind fun t603=>(if t603=true then (if a0 < 0 then (spec_NestLayout.j0 k a0 l1 true) else (spec_NestLayout.j0 k a0 l1 (decide (a0 > 200)))) else (spec_NestLayout.j0 k a0 l1 true))
end Go.Proofs.Ytdhdfmmefghijab.P
namespace Go.Proofs.Ytdhdfmmefghijab.P
open Go.RowKit Go.Proofs.YtdhdfmmefghijabW.PrintWords Go.Proofs.YtdhdfmmefghijabW.PrintLast Go.Proofs.YtdhdfmmefghijabW.PrintMore
attribute [local go_sem] max2_int min2_int max_two min_two max_three min_three max_four min_four
set_option linter.unusedVariables false
set_option linter.unusedSimpArgs false
def impl_NestLayout.j0:Nat→Int→List (SRow)→Bool→Option ((List (SRow)) × Bool)
 | 0,_,_,_=>none
 | k+1,x0,x1,x17=>if x17=true then (some (([]:List (SRow)),false)) else ((impl_nestRows.f k x0 x1).bind fun t599=>((impl_LayoutValid.f k t599).bind fun t602=>(if t602=true then (some (t599,true)) else (some (([]:List (SRow)),false)))))
def impl_NestLayout.f (k:Nat) (a0:Int) (l1:List (SRow)):Option ((List (SRow)) × Bool):=(impl_LayoutValid.f k l1).bind fun t598=>(if t598=true then (if a0 < 0 then (impl_NestLayout.j0 k a0 l1 true) else (impl_NestLayout.j0 k a0 l1 (decide (a0 > 200)))) else (impl_NestLayout.j0 k a0 l1 true))
end Go.Proofs.Ytdhdfmmefghijab.P
namespace Go.Proofs.Ytdhdfmmefghijab.Pure
open Go.RowKit Go.Proofs.Ytdhdfmmefghijab.P Go.Proofs.YtdhdfmmefghijabW.PrintWords Go.Proofs.YtdhdfmmefghijabW.PrintLast Go.Proofs.YtdhdfmmefghijabW.PrintMore
set_option linter.unusedVariables false
set_option linter.unusedSimpArgs false
def inR (n : Int) (r : SRow) : SRow := ⟨wrap64 (r.f0 + n), r.f1⟩
def nestO (n : Int) : List SRow → List SRow
  | [] => []
  | r :: t => r :: t.map (inR n)
theorem setN (a b : List SRow) (d z : SRow) : (a ++ d :: b).set (a.length : Int).toNat z = a ++ z :: b := by
  rw [Int.toNat_natCast, List.set_append_right _ _ (Nat.le_refl _), Nat.sub_self, List.set_cons_zero]
theorem specNest_loop (n : Int) (suf : List SRow) : ∀ pre : List SRow, pre.length + suf.length ≤ 1099511627776 →
    Ev (fun k => spec_l2Nest.l0 k n (pre ++ suf) (pre.length : Int)) (pre ++ suf.map (inR n)) := by
  induction suf with
  | nil =>
    intro pre hm
    refine Ev.step (fun k => by rw [spec_l2Nest.l0]) ?_
    simp only [List.append_nil, Int.lt_irrefl, if_false, List.map_nil]
    exact Ev.now _
  | cons y suf ih =>
    intro pre hm
    simp only [List.length_cons] at hm
    refine Ev.step (fun k => by rw [spec_l2Nest.l0]) ?_
    have c1 : (pre.length : Int) < ((pre ++ y :: suf).length : Int) := by simp; omega
    have c2 : (0 : Int) ≤ (pre.length : Int) := by omega
    simp only [if_pos c1, if_pos c2, rdR, setN]
    rw [w64 (i := (pre.length : Int) + 1) (by omega) (by omega)]
    have := ih (pre ++ [inR n y]) (by simp; omega)
    rw [List.append_assoc, List.append_assoc, show ((pre ++ [inR n y]).length : Int) = (pre.length : Int) + 1 by simp] at this
    exact this
theorem specNest_ev (n : Int) (l : List SRow) (h0 : 0 < l.length) (h1 : l.length ≤ 1048576) : Ev (fun k => spec_l2Nest.f k n l) (nestO n l) := by
  refine Ev.congr (fun k => by rw [spec_l2Nest.f]) ?_
  simp only [Option.bind_some, List.nil_append, List.length_nil, Nat.zero_add, if_pos (show l.length < 5864062014805 by omega)]
  cases l with
  | nil => simp at h0
  | cons r t => exact specNest_loop n t [r] (by simp at h1 ⊢; omega)
end Go.Proofs.Ytdhdfmmefghijab.Pure
namespace Go.Proofs.Ytdhdfmmefghijab.Pure
open Go.RowKit Go.Proofs.Ytdhdfmmefghijab.P Go.Proofs.YtdhdfmmefghijabW.PrintWords Go.Proofs.YtdhdfmmefghijabW.PrintLast Go.Proofs.YtdhdfmmefghijabW.PrintMore
set_option linter.unusedVariables false
set_option linter.unusedSimpArgs false
def Code (b : List Int) : Prop := b.length ≤ 2000 ∧ ∀ x ∈ b, 0 ≤ x ∧ x < 256
theorem open_ev (l : List Int) (hl : l.length ≤ maxLen) (h : ∀ x ∈ l, (Lit.int .u8 x).wf = true) : ∃ b, Code b ∧ spec_l15Open.f l = some (b, 0) := by
  have hx : ∀ x ∈ l, 0 ≤ x ∧ x < 256 := by
    intro x hx
    have := h x hx
    have e1 : IntKind.u8.min = 0 := rfl
    have e2 : IntKind.u8.max = 255 := rfl
    simp [Lit.wf, e1, e2] at this
    omega
  rw [spec_l15Open.f]
  by_cases c : (l.length : Int) > 2000
  · rw [if_pos c, if_pos (by omega)]
    exact ⟨l.take 2000, ⟨by rw [List.length_take]; omega, fun x hx' => hx x (List.mem_of_mem_take hx')⟩, rfl⟩
  · rw [if_neg c]
    exact ⟨l, ⟨by omega, hx⟩, rfl⟩
theorem rd_in {b : List Int} (hb : Code b) (i : Int) : 0 ≤ rd b i ∧ rd b i < 256 := by
  unfold rd
  rw [List.getD_eq_getElem?_getD]
  cases h : b[i.toNat]? with
  | none => simp
  | some x =>
    have := hb.2 x (List.mem_of_getElem? h)
    simpa using this
theorem xor_nonneg (x y : Int) (hx0 : 0 ≤ x) (hx : x < 4611686018427387904) (hy0 : 0 ≤ y) (hy : y < 4611686018427387904) : 0 ≤ Go.bits .xor .i64 x y := by
  obtain ⟨n, rfl⟩ := Int.eq_ofNat_of_zero_le hx0
  obtain ⟨m, rfl⟩ := Int.eq_ofNat_of_zero_le hy0
  have hn : n < 2 ^ 62 := by omega
  have hm : m < 2 ^ 62 := by omega
  have hxm : n ^^^ m < 2 ^ 62 := Nat.xor_lt_two_pow hn hm
  have e1 : (BitVec.ofInt 64 (n : Int)).toNat = n := by
    rw [BitVec.ofInt_natCast, BitVec.toNat_ofNat]
    exact Nat.mod_eq_of_lt (by omega)
  have e2 : (BitVec.ofInt 64 (m : Int)).toNat = m := by
    rw [BitVec.ofInt_natCast, BitVec.toNat_ofNat]
    exact Nat.mod_eq_of_lt (by omega)
  have e : Go.bits .xor .i64 (n : Int) (m : Int) = IntKind.i64.wrap ((n ^^^ m : Nat) : Int) := by
    show IntKind.i64.wrap ((BitVec.ofInt 64 (n : Int) ^^^ BitVec.ofInt 64 (m : Int)).toNat : Int) = _
    rw [BitVec.toNat_xor, e1, e2]
  rw [e]
  have w : IntKind.i64.wrap ((n ^^^ m : Nat) : Int) = ((n ^^^ m : Nat) : Int) := by
    simp [IntKind.wrap, IntKind.bits, IntKind.signed]
    omega
  rw [w]
  omega
theorem tm_in (x : Int) {n : Int} (h0 : 0 ≤ x) (hn : 0 < n) : 0 ≤ Int.tmod x n ∧ Int.tmod x n < n := ⟨Int.tmod_nonneg n h0, Int.tmod_lt_of_pos x hn⟩
theorem pick_ev {b : List Int} (hb : Code b) (p n : Int) (hp0 : 0 ≤ p) (hp : p ≤ 1000000000) : ∃ r, Ev (fun k => spec_l15Rd_pick.f k b p n) (r, p + 1) ∧ 0 ≤ r ∧ (1 ≤ n → r < n) := by
  have w1 : wrap64 (p + 1) = p + 1 := w64 (by omega) (by omega)
  have w2 : wrap64 (p + 1 - 1) = p := by rw [w64 (by omega) (by omega)]; omega
  have hl := hb.1
  have J0 : Ev (fun k => spec_l15Rd_pick.j0 k n true b (p + 1)) (0, p + 1) := by
    refine Ev.step (fun k => by rw [spec_l15Rd_pick.j0]) ?_
    simp only [if_true]
    exact Ev.now _
  by_cases c1 : n < 1
  · refine ⟨0, Ev.congr (fun k => by rw [spec_l15Rd_pick.f, if_pos c1, w1]) J0, Int.le_refl _, fun h => by omega⟩
  by_cases c2 : (b.length : Int) = 0
  · refine ⟨0, Ev.congr (fun k => by rw [spec_l15Rd_pick.f, if_neg c1, w1, show (((b.length : Int)) == 0) = true by simpa using c2]) J0, Int.le_refl _, fun h => by omega⟩
  have hn0 : n ≠ 0 := by omega
  have start : ∀ R, Ev (fun k => spec_l15Rd_pick.j0 k n false b (p + 1)) R → Ev (fun k => spec_l15Rd_pick.f k b p n) R := by
    intro R h
    exact Ev.congr (fun k => by rw [spec_l15Rd_pick.f, if_neg c1, w1, show (((b.length : Int)) == 0) = false by simpa using c2]) h
  by_cases c3 : p < (b.length : Int)
  · have hr := rd_in hb p
    have w3 : wrap64 (rd b p) = rd b p := w64 (by omega) (by omega)
    have ht := tm_in (rd b p) (n := n) hr.1 (by omega)
    refine ⟨Int.tmod (rd b p) n, start _ (Ev.step (fun k => by rw [spec_l15Rd_pick.j0]) ?_), ht.1, fun _ => ht.2⟩
    simp only [Bool.false_eq_true, if_false, w2, if_pos c3, if_pos hp0, if_neg hn0, w3]
    exact Ev.now _
  · have hlp : 0 < (b.length : Int) := by omega
    have t1 := tm_in p hp0 hlp
    have w3 : wrap64 (p * 7) = p * 7 := w64 (by omega) (by omega)
    have w4 : wrap64 (p * 7 + 3) = p * 7 + 3 := w64 (by omega) (by omega)
    have t2 := tm_in (p * 7 + 3) (by omega) hlp
    have r1 := rd_in hb (Int.tmod p (b.length : Int))
    have r2 := rd_in hb (Int.tmod (p * 7 + 3) (b.length : Int))
    have d0 : 0 ≤ Int.tdiv p (b.length : Int) := Int.tdiv_nonneg hp0 (by omega)
    have d1 : Int.tdiv p (b.length : Int) ≤ p := by
      obtain ⟨m, rfl⟩ := Int.eq_ofNat_of_zero_le hp0
      have : Int.tdiv (m : Int) (b.length : Int) = ((m / b.length : Nat) : Int) := rfl
      rw [this]
      exact Int.ofNat_le.2 (Nat.div_le_self _ _)
    generalize hA : rd b (Int.tmod p (b.length : Int)) = A at r1
    generalize hB : rd b (Int.tmod (p * 7 + 3) (b.length : Int)) = B at r2
    generalize hD : Int.tdiv p (b.length : Int) = D at d0 d1
    have e1 : wrap64 (wrap64 A * 131) = A * 131 := by rw [w64 (i := A) (by omega) (by omega), w64 (by omega) (by omega)]
    have e2 : wrap64 (wrap64 B * 1117) = B * 1117 := by rw [w64 (i := B) (by omega) (by omega), w64 (by omega) (by omega)]
    have e3 : wrap64 (p * 29) = p * 29 := w64 (by omega) (by omega)
    have e4 : wrap64 (wrap64 D * 53) = D * 53 := by rw [w64 (i := D) (by omega) (by omega), w64 (by omega) (by omega)]
    have e5 : wrap64 (A * 131 + B * 1117) = A * 131 + B * 1117 := w64 (by omega) (by omega)
    have e6 : wrap64 (A * 131 + B * 1117 + p * 29) = A * 131 + B * 1117 + p * 29 := w64 (by omega) (by omega)
    have e7 : wrap64 (A * 131 + B * 1117 + p * 29 + D * 53) = A * 131 + B * 1117 + p * 29 + D * 53 := w64 (by omega) (by omega)
    generalize hX : A * 131 + B * 1117 + p * 29 + D * 53 = X at e7
    have hX0 : 0 ≤ X := by omega
    have hX1 : X ≤ 1000000000000 := by omega
    have q0 : 0 ≤ Int.tdiv X 64 := Int.tdiv_nonneg hX0 (by omega)
    have q1 : Int.tdiv X 64 ≤ X := by
      obtain ⟨m, rfl⟩ := Int.eq_ofNat_of_zero_le hX0
      have : Int.tdiv (m : Int) 64 = ((m / 64 : Nat) : Int) := rfl
      rw [this]
      exact Int.ofNat_le.2 (Nat.div_le_self _ _)
    have e8 : wrap64 (Int.tdiv X 64) = Int.tdiv X 64 := w64 (by omega) (by omega)
    have hx := xor_nonneg X (Int.tdiv X 64) hX0 (by omega) q0 (by omega)
    have ht := tm_in (Go.bits .xor .i64 X (Int.tdiv X 64)) (n := n) hx (by omega)
    refine ⟨Int.tmod (Go.bits .xor .i64 X (Int.tdiv X 64)) n, start _ (Ev.step (fun k => by rw [spec_l15Rd_pick.j0]) ?_), ht.1, fun _ => ht.2⟩
    simp only [Bool.false_eq_true, if_false, w2, if_neg c3, if_neg c2, w3, w4, if_pos t1.1, if_pos t1.2, if_pos t2.1, if_pos t2.2, if_neg hn0, hA, hB, hD, e1, e2, e3, e4, e5, e6, e7, hX, e8]
    exact Ev.now _
theorem of_ev {b : List Int} (hb : Code b) (p : Int) (l : List ByteArray) (hl : 0 < l.length) (hp0 : 0 ≤ p) (hp : p ≤ 1000000000) : ∃ s, s ∈ l ∧ Ev (fun k => spec_l15Rd_of.f k b p l) (s, p + 1) := by
  obtain ⟨r, h, h0, h1⟩ := pick_ev hb p (l.length : Int) hp0 hp
  have h1 := h1 (by omega)
  have hr : r.toNat < l.length := by omega
  refine ⟨rdOf ByteArray.empty l r, ?_, Ev.congr (fun k => by rw [spec_l15Rd_of.f]) (Ev.bind h ?_)⟩
  · unfold rdOf
    rw [List.getD_eq_getElem?_getD, List.getElem?_eq_getElem hr]
    exact List.getElem_mem hr
  · simp only [if_pos h0, if_pos h1]
    exact Ev.now _
theorem num_ev {b : List Int} (hb : Code b) (p : Int) (l : List Int) (hl : 0 < l.length) (hp0 : 0 ≤ p) (hp : p ≤ 1000000000) : ∃ s, s ∈ l ∧ Ev (fun k => spec_l15Rd_num.f k b p l) (s, p + 1) := by
  obtain ⟨r, h, h0, h1⟩ := pick_ev hb p (l.length : Int) hp0 hp
  have h1 := h1 (by omega)
  have hr : r.toNat < l.length := by omega
  refine ⟨rd l r, ?_, Ev.congr (fun k => by rw [spec_l15Rd_num.f]) (Ev.bind h ?_)⟩
  · unfold rd
    rw [List.getD_eq_getElem?_getD, List.getElem?_eq_getElem hr]
    exact List.getElem_mem hr
  · simp only [if_pos h0, if_pos h1]
    exact Ev.now _
end Go.Proofs.Ytdhdfmmefghijab.Pure
namespace Go.Proofs.Ytdhdfmmefghijab.P
open Go.RowKit Go.Proofs.YtdhdfmmefghijabW.PrintWords Go.Proofs.YtdhdfmmefghijabW.PrintLast Go.Proofs.YtdhdfmmefghijabW.PrintMore
attribute [local go_sem] max2_int min2_int max_two min_two max_three min_three max_four min_four
set_option linter.unusedVariables false
set_option linter.unusedSimpArgs false
def docKids (o:Int):Int:=if o=7 then 2 else if o=6 then 1 else if o=8 then 1 else 0
mutual
def impl_docOk.l0:Nat→List (SDoc)→Int→Int→Int→Option (Bool × Int)
 | 0,_,_,_,_=>none
 | k+1,ks,i,deep,left=>if i < (ks.length:Int) then (if 0≤i then ((impl_docOk.f k ((rd_TDoc ks i).f0) ((rd_TDoc ks i).f1) ((rd_TDoc ks i).f2) ((rd_TDoc ks i).f3) (wrap64 (deep - 1)) left).bind fun b=>(if b.1=true then (impl_docOk.l0 k ks (wrap64 (i+1)) deep b.2) else (some (false,b.2)))) else (none)) else (some (true,left))
def impl_docOk.f:Nat→Int→Int→ByteArray→List (SDoc)→Int→Int→Option (Bool × Int)
 | 0,_,_,_,_,_,_=>none
 | k+1,o,n,t,ks,deep,left=>if deep=0 ∨ (wrap64 (left - 1)) < 0 ∨ o < 1 ∨ 8 < o then (some (false,(wrap64 (left - 1)))) else (if ¬ ((ks.length:Int)=docKids o) ∨ n < 0 ∨ 9 < n ∨ (0 < n∧¬ (o=6)) then (some (false,(wrap64 (left - 1)))) else (if o=2 then ((impl_TextValid.f k t).bind fun b=>(if b=true then (impl_docOk.l0 k ks 0 deep (wrap64 (left - 1))) else (some (false,(wrap64 (left - 1)))))) else (if t.toList=[] then (impl_docOk.l0 k ks 0 deep (wrap64 (left - 1))) else (some (false,(wrap64 (left - 1)))))))
end
def impl_DocValid.f (k:Nat) (a0_0:Int) (a0_1:Int) (a0_2:ByteArray) (l0_3:List (SDoc)):Option (Bool):=(impl_docOk.f k a0_0 a0_1 a0_2 l0_3 40 80).bind fun b=>(some b.1)
end Go.Proofs.Ytdhdfmmefghijab.P
namespace Go.Proofs.Ytdhdfmmefghijab.Pure
open Go.RowKit Go.Proofs.Ytdhdfmmefghijab.P Go.Proofs.YtdhdfmmefghijabW.PrintWords Go.Proofs.YtdhdfmmefghijabW.PrintLast Go.Proofs.YtdhdfmmefghijabW.PrintMore
set_option linter.unusedVariables false
set_option linter.unusedSimpArgs false
mutual
/-- nodes and bytes of texts -/
def msz : SDoc → Nat
  | ⟨_, _, t, ks⟩ => 1 + t.size + mszL ks
def mszL : List SDoc → Nat
  | [] => 0
  | k :: ks => msz k + mszL ks
end
theorem mszL_len : ∀ (a : List SDoc), a.length ≤ mszL a
  | [] => by simp [mszL]
  | ⟨_, _, _, ks⟩ :: a => by have := mszL_len a; simp [mszL, msz]; omega
theorem mszL_mem : ∀ {a : List SDoc} {d : SDoc}, d ∈ a → msz d ≤ mszL a
  | k :: a, d, h => by
    rcases List.mem_cons.1 h with rfl | h
    · simp [mszL]
    · have := mszL_mem h; simp [mszL]; omega
theorem dsz_msz : ∀ d : SDoc, dsz d ≤ msz d := by
  intro d
  induction d using SDoc.ind with
  | h o n t ks ih =>
    have key : ∀ l : List SDoc, (∀ k, k ∈ l → dsz k ≤ msz k) → dszL l ≤ mszL l := by
      intro l
      induction l with
      | nil => intro _; simp [dszL, mszL]
      | cons y l ihl =>
        intro hl
        have h1 := hl y List.mem_cons_self
        have h2 := ihl (fun k hk => hl k (List.mem_cons_of_mem _ hk))
        simp only [dszL, mszL]
        omega
    have := key ks ih
    simp only [dsz, msz]
    omega
theorem specCount_loop (o n : Int) (t : ByteArray) (suf : List SDoc) : ∀ (pre : List SDoc) (acc : Int),
    (∀ y, y ∈ suf → Ev (fun k => spec_l1Count.f k y.f0 y.f1 y.f2 y.f3) (dsz y : Int)) → 0 ≤ acc → acc + dszL suf ≤ 9223372036854775807 → pre.length + suf.length ≤ 4611686018427387904 →
    Ev (fun k => spec_l1Count.l0 k acc (pre.length : Int) o n t (pre ++ suf)) (acc + dszL suf) := by
  induction suf with
  | nil =>
    intro pre acc _ h0 hs hm
    refine Ev.step (fun k => by rw [spec_l1Count.l0]) ?_
    simp only [List.append_nil, Int.lt_irrefl, if_false, dszL, Int.natCast_zero, Int.add_zero]
    exact Ev.now _
  | cons y suf ih =>
    intro pre acc hy h0 hs hm
    simp only [List.length_cons, dszL] at hm hs
    refine Ev.step (fun k => by rw [spec_l1Count.l0]) ?_
    have c1 : (pre.length : Int) < ((pre ++ y :: suf).length : Int) := by simp; omega
    have c2 : (0 : Int) ≤ (pre.length : Int) := by omega
    simp only [if_pos c1, if_pos c2, rdD]
    refine Ev.bind (hy y List.mem_cons_self) ?_
    rw [w64 (i := acc + dsz y) (by omega) (by omega), w64 (by omega) (by omega)]
    have := ih (pre ++ [y]) (acc + dsz y) (fun z hz => hy z (List.mem_cons_of_mem _ hz)) (by omega) (by omega) (by simp; omega)
    rw [List.append_assoc, show ((pre ++ [y]).length : Int) = (pre.length : Int) + 1 by simp] at this
    rw [show acc + (dszL (y :: suf) : Int) = acc + dsz y + dszL suf by simp [dszL]; omega]
    exact this
theorem specCount_ev : ∀ (d : SDoc), dsz d ≤ 4611686018427387904 → Ev (fun k => spec_l1Count.f k d.f0 d.f1 d.f2 d.f3) (dsz d : Int) := by
  intro d
  induction d using SDoc.ind with
  | h o n t ks ih =>
    intro hd
    simp only [dsz] at hd
    refine Ev.step (fun k => by rw [spec_l1Count.f]) ?_
    have := specCount_loop o n t ks [] 1 (fun y hy => ih y hy (by have := dszL_mem hy; omega)) (by omega) (by omega) (by have := dszL_len ks; simp; omega)
    rw [show ((dsz ⟨o, n, t, ks⟩ : Nat) : Int) = 1 + (dszL ks : Int) by simp [dsz]]
    simpa using this
end Go.Proofs.Ytdhdfmmefghijab.Pure
namespace Go.Proofs.Ytdhdfmmefghijab.Pure
open Go.RowKit Go.Proofs.Ytdhdfmmefghijab.P Go.Proofs.YtdhdfmmefghijabW.PrintWords Go.Proofs.YtdhdfmmefghijabW.PrintLast Go.Proofs.YtdhdfmmefghijabW.PrintMore
set_option linter.unusedVariables false
set_option linter.unusedSimpArgs false
theorem toList_data (bs : ByteArray) : bs.toList = bs.data.toList := by
  have key : ∀ (n i : Nat) (r : List UInt8), bs.size - i = n → ByteArray.toList.loop bs i r = r.reverse ++ bs.data.toList.drop i := by
    intro n
    induction n with
    | zero =>
      intro i r h
      rw [ByteArray.toList.loop]
      have : ¬ i < bs.size := by omega
      simp [this]
      omega
    | succ n ih =>
      intro i r h
      rw [ByteArray.toList.loop]
      have hi : i < bs.size := by omega
      simp only [hi, if_true]
      rw [ih (i+1) _ (by omega)]
      have h2 : i < bs.data.toList.length := by rw [Array.length_toList]; exact hi
      rw [List.drop_eq_getElem_cons h2]
      have h3 : i < bs.data.size := hi
      have : bs.get! i = bs.data.toList[i] := by
        simp [ByteArray.get!, Array.getElem!_eq_getD, Array.getD, hi]
      simp [this]
  unfold ByteArray.toList
  rw [key bs.size 0 [] (by omega)]
  simp
theorem toList_inj {a b : ByteArray} : a.toList = b.toList ↔ a = b := by
  rw [toList_data, toList_data]
  constructor
  · intro h
    obtain ⟨⟨a⟩⟩ := a
    obtain ⟨⟨b⟩⟩ := b
    simp at h
    subst h
    rfl
  · rintro rfl; rfl
theorem toList_nil {a : ByteArray} : a.toList = [] ↔ a.size = 0 := by
  rw [toList_data, size_data, List.length_eq_zero_iff]
def nodeOk (o n : Int) (t : ByteArray) (len : Nat) : Bool :=
  decide (1 ≤ o) && (decide (o ≤ 8) && (decide ((len : Int) = docKids o) && (decide (0 ≤ n) && (decide (n ≤ 9) && (decide (n = 0 ∨ o = 6) && (if o = 2 then tv t else decide (t.size = 0)))))))
mutual
def wf : SDoc → Nat → Bool
  | ⟨o, n, t, ks⟩, deep => decide (deep ≠ 0) && (nodeOk o n t ks.length && wfL ks (deep - 1))
def wfL : List SDoc → Nat → Bool
  | [], _ => true
  | k :: ks, deep => wf k deep && wfL ks deep
end
def docV (d : SDoc) : Bool := wf d 40 && decide (dsz d ≤ 80)
theorem wfL_all : ∀ (ks : List SDoc) (deep : Nat), wfL ks deep = ks.all fun k => wf k deep
  | [], _ => rfl
  | k :: ks, deep => by rw [wfL, wfL_all ks deep, List.all_cons]
theorem wf_mk (o n : Int) (t : ByteArray) (ks : List SDoc) (deep : Nat) : wf ⟨o, n, t, ks⟩ deep = true ↔ deep ≠ 0 ∧ nodeOk o n t ks.length = true ∧ wfL ks (deep - 1) = true := by rw [wf, Bool.and_eq_true, Bool.and_eq_true, decide_eq_true_eq]
theorem nodeOk_iff (o n : Int) (t : ByteArray) (len : Nat) : nodeOk o n t len = true ↔ 1 ≤ o ∧ o ≤ 8 ∧ (len : Int) = docKids o ∧ 0 ≤ n ∧ n ≤ 9 ∧ (n = 0 ∨ o = 6) ∧ (if o = 2 then tv t else decide (t.size = 0)) = true := by
  simp only [nodeOk, Bool.and_eq_true, decide_eq_true_eq]
theorem docV_iff (d : SDoc) : docV d = true ↔ wf d 40 = true ∧ dsz d ≤ 80 := by rw [docV, Bool.and_eq_true, decide_eq_true_eq]
theorem specKids_ev (o : Int) : Ev (fun k => spec_l1Kids.f k o) (if o < 1 ∨ 8 < o then -1 else docKids o) := by
  have j1 : ∀ b, Ev (fun k => spec_l1Kids.j1 k o b) (if b = true then 1 else if o = 7 then 2 else -1) := by
    intro b
    refine Ev.step (fun k => by rw [spec_l1Kids.j1]) ?_
    cases b
    · simp only [Bool.false_eq_true, if_false]
      by_cases h : o = 7
      · simp only [if_pos h]; exact Ev.now _
      · simp only [if_neg h]; exact Ev.now _
    · exact Ev.now _
  have j0 : ∀ b, Ev (fun k => spec_l1Kids.j0 k o b) (if b = true then 0 else if o = 6 ∨ o = 8 then 1 else if o = 7 then 2 else -1) := by
    intro b
    refine Ev.step (fun k => by rw [spec_l1Kids.j0]) ?_
    cases b
    · simp only [Bool.false_eq_true, if_false]
      by_cases h : o = 6
      · simp only [if_pos h]
        have := j1 (o == 6)
        rw [h] at this ⊢
        simpa using this
      · simp only [if_neg h]
        have := j1 (o == 8)
        by_cases h8 : o = 8
        · rw [h8] at this ⊢
          simpa using this
        · rw [show (o == 8) = false by simpa using h8] at this ⊢
          simpa [h, h8] using this
    · exact Ev.now _
  refine Ev.congr (fun k => by rw [spec_l1Kids.f]) ?_
  have fin : ∀ x b, (o = x → b = true) → (b = true → 1 ≤ o ∧ o ≤ 5) → (b = false → ¬ (1 ≤ o ∧ o ≤ 5)) → Ev (fun k => spec_l1Kids.j0 k o b) (if o < 1 ∨ 8 < o then -1 else docKids o) := by
    intro x b _ h1 h2
    have := j0 b
    cases b
    · have := h2 rfl
      rename_i this'
      rw [show (if o < 1 ∨ 8 < o then -1 else docKids o) = (if (false : Bool) = true then 0 else if o = 6 ∨ o = 8 then 1 else if o = 7 then 2 else -1) from by
        by_cases q : o < 1 ∨ 8 < o
        · have : ¬ (o = 6 ∨ o = 8) := by omega
          have : ¬ o = 7 := by omega
          simp [*]
        · have : o = 6 ∨ o = 7 ∨ o = 8 := by omega
          rcases this with rfl | rfl | rfl <;> simp [docKids]]
      exact this'
    · have := h1 rfl
      rename_i this'
      rw [show (if o < 1 ∨ 8 < o then -1 else docKids o) = 0 from by
        have q : ¬ (o < 1 ∨ 8 < o) := by omega
        rw [if_neg q]
        have : o = 1 ∨ o = 2 ∨ o = 3 ∨ o = 4 ∨ o = 5 := by omega
        rcases this with rfl | rfl | rfl | rfl | rfl <;> rfl]
      exact this'
  repeat' refine Ev.iff (fun hc => ?_) (fun hc => ?_)
  · subst hc; exact fin 1 _ (fun _ => rfl) (fun _ => by omega) (fun h => by cases h)
  · subst hc; exact fin 2 _ (fun _ => rfl) (fun _ => by omega) (fun h => by cases h)
  · subst hc; exact fin 3 _ (fun _ => rfl) (fun _ => by omega) (fun h => by cases h)
  · subst hc; exact fin 4 _ (fun _ => rfl) (fun _ => by omega) (fun h => by cases h)
  · refine fin 5 _ (fun h => by simp [h]) (fun h => by have : o = 5 := by simpa using h
                                                       omega) (fun h => by have : ¬ o = 5 := by simpa using h
                                                                           omega)
theorem specIs_loop (o n : Int) (t : ByteArray) (deep : Nat) (suf : List SDoc) : ∀ (pre : List SDoc),
    (∀ y, y ∈ suf → Ev (fun k => spec_l1Is.f k y.f0 y.f1 y.f2 y.f3 (wrap64 ((deep : Int) - 1))) (wf y (deep - 1))) → pre.length + suf.length ≤ 4611686018427387904 →
    Ev (fun k => spec_l1Is.l0 k (deep : Int) (pre.length : Int) o n t (pre ++ suf)) (wfL suf (deep - 1)) := by
  induction suf with
  | nil =>
    intro pre _ hm
    refine Ev.step (fun k => by rw [spec_l1Is.l0]) ?_
    simp only [List.append_nil, Int.lt_irrefl, if_false]
    exact Ev.now _
  | cons y suf ih =>
    intro pre hy hm
    simp only [List.length_cons] at hm
    have c1 : (pre.length : Int) < ((pre ++ y :: suf).length : Int) := by simp; omega
    have c2 : (0 : Int) ≤ (pre.length : Int) := by omega
    refine Ev.step (fun k => by rw [spec_l1Is.l0]) ?_
    simp only [if_pos c1, if_pos c2, rdD]
    refine Ev.bind (hy y List.mem_cons_self) ?_
    cases hw : wf y (deep - 1) with
    | false =>
      simp only [Bool.false_eq_true, if_false]
      rw [show wfL (y :: suf) (deep - 1) = false from by rw [wfL, hw, Bool.false_and]]
      exact Ev.now _
    | true =>
      simp only [if_true]
      rw [w64 (by omega) (by omega), show wfL (y :: suf) (deep - 1) = wfL suf (deep - 1) from by rw [wfL, hw, Bool.true_and]]
      have := ih (pre ++ [y]) (fun z hz => hy z (List.mem_cons_of_mem _ hz)) (by simp; omega)
      rw [List.append_assoc, show ((pre ++ [y]).length : Int) = (pre.length : Int) + 1 by simp] at this
      exact this
theorem specIs_ev : ∀ (d : SDoc), msz d ≤ 1099511627776 → ∀ (deep : Nat), deep ≤ 40 → Ev (fun k => spec_l1Is.f k d.f0 d.f1 d.f2 d.f3 (deep : Int)) (wf d deep) := by
  intro d
  induction d using SDoc.ind with
  | h o n t ks ih =>
    intro hd deep hdp
    simp only [msz] at hd
    have hkl := mszL_len ks
    have hloop : deep ≠ 0 → Ev (fun k => spec_l1Is.l0 k (deep : Int) 0 o n t ks) (wfL ks (deep - 1)) := fun h0 => by
      have := specIs_loop o n t deep ks [] (fun y hy => by
        have hym := mszL_mem hy
        rw [w64 (by omega) (by omega), show ((deep : Int) - 1) = ((deep - 1 : Nat) : Int) by omega]
        exact ih y hy (by omega) (deep - 1) (by omega)) (by simp; omega)
      simpa using this
    -- the tests, from the last one on
    have j2 : deep ≠ 0 → ∀ b, Ev (fun k => spec_l1Is.j2 k (deep : Int) b o n t ks) (!b && wfL ks (deep - 1)) := fun h0 b => by
      refine Ev.step (fun k => by rw [spec_l1Is.j2]) ?_
      cases b
      · simpa using hloop h0
      · exact Ev.now _
    have j1 : deep ≠ 0 → ∀ b, Ev (fun k => spec_l1Is.j1 k (deep : Int) b o n t ks) (!b && (decide ((o = 6 ∧ 0 ≤ n ∧ n ≤ 9) ∨ (o ≠ 6 ∧ n = 0)) && wfL ks (deep - 1))) := fun h0 b => by
      refine Ev.step (fun k => by rw [spec_l1Is.j1]) ?_
      cases b
      · simp only [Bool.false_eq_true, if_false, Bool.not_false, Bool.true_and]
        have fin : ∀ b, (b = true ↔ ¬ ((o = 6 ∧ 0 ≤ n ∧ n ≤ 9) ∨ (o ≠ 6 ∧ n = 0))) → Ev (fun k => spec_l1Is.j2 k (deep : Int) b o n t ks) (decide ((o = 6 ∧ 0 ≤ n ∧ n ≤ 9) ∨ (o ≠ 6 ∧ n = 0)) && wfL ks (deep - 1)) := fun b hb => by
          have := j2 h0 b
          rwa [show (!b) = decide ((o = 6 ∧ 0 ≤ n ∧ n ≤ 9) ∨ (o ≠ 6 ∧ n = 0)) from by
            rw [Bool.eq_iff_iff, decide_eq_true_eq]
            cases b
            · have : (o = 6 ∧ 0 ≤ n ∧ n ≤ 9) ∨ (o ≠ 6 ∧ n = 0) := Decidable.not_not.1 (fun h => by have := hb.2 h; cases this)
              simpa using this
            · have := hb.1 rfl
              simpa using this] at this
        repeat' refine Ev.iff (fun hc => ?_) (fun hc => ?_)
        · exact fin true ⟨fun _ => by omega, fun _ => rfl⟩
        · exact fin true ⟨fun _ => by omega, fun _ => rfl⟩
        · exact fin false ⟨fun h => (by cases h), fun h => absurd (by omega) h⟩
        · refine fin (n != 0) ⟨fun h => ?_, fun h => ?_⟩
          · have : ¬ n = 0 := by simpa using h
            omega
          · have : ¬ n = 0 := by omega
            simpa using this
      · exact Ev.now _
    have j0 : deep ≠ 0 → ∀ b, Ev (fun k => spec_l1Is.j0 k (deep : Int) b o n t ks) (!b && ((if o = 2 then tv t else decide (t.size = 0)) && (decide ((o = 6 ∧ 0 ≤ n ∧ n ≤ 9) ∨ (o ≠ 6 ∧ n = 0)) && wfL ks (deep - 1)))) := fun h0 b => by
      refine Ev.step (fun k => by rw [spec_l1Is.j0]) ?_
      cases b
      · simp only [Bool.false_eq_true, if_false, Bool.not_false, Bool.true_and]
        by_cases h2 : o = 2
        · simp only [if_pos h2]
          refine Ev.bind (specText_ev t (by omega)) ?_
          cases tv t
          · simp only [Bool.false_eq_true, if_false]
            exact j1 h0 true
          · simp only [if_true]
            exact j1 h0 false
        · simp only [if_neg h2]
          have := j1 h0 (t.toList != ([] : List UInt8))
          rwa [show (!(t.toList != ([] : List UInt8))) = decide (t.size = 0) from by
            rw [Bool.eq_iff_iff, decide_eq_true_eq, ← toList_nil]; simp] at this
      · exact Ev.now _
    refine Ev.step (fun k => by rw [spec_l1Is.f]) ?_
    by_cases h0 : deep = 0
    · subst h0
      simp only [Int.natCast_zero, if_true]
      rw [show wf ⟨o, n, t, ks⟩ 0 = false from by rw [wf]; simp]
      refine Ev.step (fun k => by rw [spec_l1Is.j0]) ?_
      exact Ev.now _
    · have c0 : ¬ (deep : Int) = 0 := by omega
      simp only [if_neg c0]
      refine Ev.bind (specKids_ev o) ?_
      have := j0 h0 ((ks.length : Int) != (if o < 1 ∨ 8 < o then -1 else docKids o))
      rwa [show (!((ks.length : Int) != (if o < 1 ∨ 8 < o then -1 else docKids o)) && ((if o = 2 then tv t else decide (t.size = 0)) && (decide ((o = 6 ∧ 0 ≤ n ∧ n ≤ 9) ∨ (o ≠ 6 ∧ n = 0)) && wfL ks (deep - 1)))) = wf ⟨o, n, t, ks⟩ deep from by
        rw [Bool.eq_iff_iff, wf_mk, nodeOk_iff]
        simp only [Bool.and_eq_true, decide_eq_true_eq, Bool.not_eq_true', bne_eq_false_iff_eq]
        generalize (if o = 2 then tv t else decide (t.size = 0)) = tt
        constructor
        · rintro ⟨h1, h2, h3, h4⟩
          by_cases q : o < 1 ∨ 8 < o
          · rw [if_pos q] at h1; omega
          · rw [if_neg q] at h1
            exact ⟨h0, ⟨by omega, by omega, h1, by omega, by omega, by omega, h2⟩, h4⟩
        · rintro ⟨_, ⟨h1, h2, h3, h4, h5, h6, h7⟩, h8⟩
          have q : ¬ (o < 1 ∨ 8 < o) := by omega
          rw [if_neg q]
          exact ⟨h3, h7, by omega, h8⟩] at this
theorem specValid_ev (d : SDoc) (hd : msz d ≤ 1099511627776) : Ev (fun k => spec_DocValid.f k d.f0 d.f1 d.f2 d.f3) (docV d) := by
  refine Ev.congr (fun k => by rw [spec_DocValid.f]) ?_
  refine Ev.bind (specIs_ev d hd 40 (by omega)) ?_
  cases hw : wf d 40 with
  | false =>
    simp only [Bool.false_eq_true, if_false]
    rw [show docV d = false from by rw [docV, hw, Bool.false_and]]
    exact Ev.now _
  | true =>
    simp only [if_true]
    have := dsz_msz d
    refine Ev.bind (specCount_ev d (by omega)) ?_
    rw [show docV d = decide ((dsz d : Int) ≤ 80) from by rw [docV, hw, Bool.true_and]; exact dec_eq (by omega)]
    exact Ev.now _
end Go.Proofs.Ytdhdfmmefghijab.Pure
namespace Go.Proofs.Ytdhdfmmefghijab.Pure
open Go.RowKit Go.Proofs.Ytdhdfmmefghijab.P Go.Proofs.YtdhdfmmefghijabW.PrintWords Go.Proofs.YtdhdfmmefghijabW.PrintLast Go.Proofs.YtdhdfmmefghijabW.PrintMore
set_option linter.unusedVariables false
set_option linter.unusedSimpArgs false
def ba (l : List UInt8) : ByteArray := ⟨l.toArray⟩
theorem ba_size (l : List UInt8) : (ba l).size = l.length := by simp [ba, ByteArray.size]
theorem ba_data (l : List UInt8) : (ba l).data.toList = l := by simp [ba]
theorem ba_of (s : ByteArray) : ba s.data.toList = s := by
  obtain ⟨⟨l⟩⟩ := s
  rfl
theorem ba_extract (l : List UInt8) (i j : Nat) : (ba l).extract i j = ba ((l.drop i).take (j - i)) := by
  apply ByteArray.ext
  apply Array.ext'
  simp [ba, List.take_drop]
def pW : List UInt8 → Option (List UInt8 × List UInt8)
  | [] => none
  | c :: s => if (c.toNat : Int) = 34 then some ([], s) else (pW s).map fun q => (c :: q.1, q.2)
def pK (f : List UInt8 → Option (SDoc × List UInt8)) : Nat → Int → List UInt8 → Option (List SDoc × List UInt8)
  | 0, _, [] => none
  | 0, e, c :: r => if (c.toNat : Int) = e then some ([], r) else none
  | m + 1, e, s => (f s).bind fun q => (pK f m e q.2).map fun p => (q.1 :: p.1, p.2)
def hd60 : List UInt8 → Bool
  | [] => false
  | c :: _ => (c.toNat : Int) == 60
def pN (f : List UInt8 → Option (SDoc × List UInt8)) : List UInt8 → Option (SDoc × List UInt8)
  | [] => none
  | c :: s =>
    if (c.toNat : Int) = 126 then some (⟨1, 0, ba [], []⟩, s) else if (c.toNat : Int) = 95 then some (⟨3, 0, ba [], []⟩, s)
    else if (c.toNat : Int) = 46 then some (⟨4, 0, ba [], []⟩, s) else if (c.toNat : Int) = 33 then some (⟨5, 0, ba [], []⟩, s)
    else if (c.toNat : Int) = 34 then (pW s).map fun q => (⟨2, 0, ba q.1, []⟩, q.2)
    else if (c.toNat : Int) = 40 then (pK f 2 41 s).map fun q => (⟨7, 0, ba [], q.1⟩, q.2)
    else if (c.toNat : Int) = 91 then (pK f 1 93 s).map fun q => (⟨8, 0, ba [], q.1⟩, q.2)
    else if 48 ≤ (c.toNat : Int) ∧ (c.toNat : Int) ≤ 57 ∧ hd60 s = true then (pK f 1 62 s.tail).map fun q => (⟨6, (c.toNat : Int) - 48, ba [], q.1⟩, q.2)
    else none
def pD : Nat → List UInt8 → Option (SDoc × List UInt8)
  | 0 => fun _ => none
  | n + 1 => pN (pD n)
theorem pW_is : ∀ {s a r : List UInt8}, pW s = some (a, r) → ∃ c : UInt8, (c.toNat : Int) = 34 ∧ s = a ++ c :: r
  | c :: s, a, r, h => by
    rw [pW] at h
    by_cases e : (c.toNat : Int) = 34
    · rw [if_pos e] at h
      obtain ⟨rfl, rfl⟩ := Prod.mk.inj (Option.some.inj h)
      exact ⟨c, e, rfl⟩
    · rw [if_neg e] at h
      obtain ⟨⟨a', r'⟩, h1, h2⟩ := Option.map_eq_some_iff.1 h
      obtain ⟨rfl, rfl⟩ := Prod.mk.inj h2
      obtain ⟨c', hc, hs⟩ := pW_is h1
      exact ⟨c', hc, by rw [hs]; rfl⟩
def Good (f : List UInt8 → Option (SDoc × List UInt8)) : Prop := ∀ s d r, f s = some (d, r) → msz d + r.length ≤ s.length ∧ ∃ u, s = u ++ r
theorem pK_good {f} (hf : Good f) : ∀ (m : Nat) (e : Int) (s : List UInt8) (ks : List SDoc) (r : List UInt8), pK f m e s = some (ks, r) → ks.length = m ∧ mszL ks + 1 + r.length ≤ s.length ∧ ∃ u, s = u ++ r
  | 0, e, [], ks, r, h => by simp [pK] at h
  | 0, e, c :: s, ks, r, h => by
    rw [pK] at h
    by_cases e' : (c.toNat : Int) = e
    · rw [if_pos e'] at h
      obtain ⟨rfl, rfl⟩ := Prod.mk.inj (Option.some.inj h)
      exact ⟨rfl, by simp [mszL]; omega, [c], rfl⟩
    · rw [if_neg e'] at h; cases h
  | m + 1, e, s, ks, r, h => by
    rw [pK] at h
    obtain ⟨⟨d, r1⟩, h1, h⟩ := Option.bind_eq_some_iff.1 h
    obtain ⟨⟨l, r2⟩, h2, h⟩ := Option.map_eq_some_iff.1 h
    obtain ⟨rfl, rfl⟩ := Prod.mk.inj h
    obtain ⟨g1, u1, e1⟩ := hf _ _ _ h1
    obtain ⟨g2, g3, u2, e2⟩ := pK_good hf m e _ _ _ h2
    simp only at g3 e2
    refine ⟨by simp [g2], ?_, u1 ++ u2, by rw [e1, e2, List.append_assoc]⟩
    simp only [mszL]
    have : r1.length = u2.length + r2.length := by rw [e2, List.length_append]
    omega
theorem pN_good {f} (hf : Good f) : Good (pN f) := by
  intro s d r h
  match s, h with
  | c :: s, h =>
    rw [pN] at h
    by_cases c1 : (c.toNat : Int) = 126
    · rw [if_pos c1] at h; obtain ⟨rfl, rfl⟩ := Prod.mk.inj (Option.some.inj h)
      exact ⟨by simp [msz, mszL, ba_size]; omega, [c], rfl⟩
    rw [if_neg c1] at h
    by_cases c2 : (c.toNat : Int) = 95
    · rw [if_pos c2] at h; obtain ⟨rfl, rfl⟩ := Prod.mk.inj (Option.some.inj h)
      exact ⟨by simp [msz, mszL, ba_size]; omega, [c], rfl⟩
    rw [if_neg c2] at h
    by_cases c3 : (c.toNat : Int) = 46
    · rw [if_pos c3] at h; obtain ⟨rfl, rfl⟩ := Prod.mk.inj (Option.some.inj h)
      exact ⟨by simp [msz, mszL, ba_size]; omega, [c], rfl⟩
    rw [if_neg c3] at h
    by_cases c4 : (c.toNat : Int) = 33
    · rw [if_pos c4] at h; obtain ⟨rfl, rfl⟩ := Prod.mk.inj (Option.some.inj h)
      exact ⟨by simp [msz, mszL, ba_size]; omega, [c], rfl⟩
    rw [if_neg c4] at h
    by_cases c5 : (c.toNat : Int) = 34
    · rw [if_pos c5] at h
      obtain ⟨⟨a, r'⟩, h1, h2⟩ := Option.map_eq_some_iff.1 h
      obtain ⟨rfl, rfl⟩ := Prod.mk.inj h2
      obtain ⟨q, _, rfl⟩ := pW_is h1
      exact ⟨by simp [msz, mszL, ba_size]; omega, c :: a ++ [q], by simp⟩
    rw [if_neg c5] at h
    by_cases c6 : (c.toNat : Int) = 40
    · rw [if_pos c6] at h
      obtain ⟨⟨a, r'⟩, h1, h2⟩ := Option.map_eq_some_iff.1 h
      obtain ⟨rfl, rfl⟩ := Prod.mk.inj h2
      obtain ⟨_, g, u, rfl⟩ := pK_good hf _ _ _ _ _ h1
      exact ⟨by simp [msz, ba_size] at g ⊢; omega, c :: u, by simp⟩
    rw [if_neg c6] at h
    by_cases c7 : (c.toNat : Int) = 91
    · rw [if_pos c7] at h
      obtain ⟨⟨a, r'⟩, h1, h2⟩ := Option.map_eq_some_iff.1 h
      obtain ⟨rfl, rfl⟩ := Prod.mk.inj h2
      obtain ⟨_, g, u, rfl⟩ := pK_good hf _ _ _ _ _ h1
      exact ⟨by simp [msz, ba_size] at g ⊢; omega, c :: u, by simp⟩
    rw [if_neg c7] at h
    by_cases c8 : 48 ≤ (c.toNat : Int) ∧ (c.toNat : Int) ≤ 57 ∧ hd60 s = true
    · rw [if_pos c8] at h
      obtain ⟨⟨a, r'⟩, h1, h2⟩ := Option.map_eq_some_iff.1 h
      obtain ⟨rfl, rfl⟩ := Prod.mk.inj h2
      obtain ⟨_, g, u, e⟩ := pK_good hf _ _ _ _ _ h1
      match s, c8, e, g with
      | [], c8, _, _ => simp [hd60] at c8
      | q :: s, _, e, g =>
        simp only [List.tail_cons] at e g
        subst e
        exact ⟨by simp [msz, ba_size] at g ⊢; omega, c :: q :: u, by simp⟩
    · rw [if_neg c8] at h; cases h
theorem pD_good : ∀ n, Good (pD n)
  | 0 => fun s d r h => by simp [pD] at h
  | n + 1 => pN_good (pD_good n)
def endAt (N : Nat) {α : Type} : Option (α × List UInt8) → Int
  | some q => (N : Int) - (q.2.length : Int)
  | none => -1
end Go.Proofs.Ytdhdfmmefghijab.Pure
namespace Go.Proofs.Ytdhdfmmefghijab.Pure
open Go.RowKit Go.Proofs.Ytdhdfmmefghijab.P Go.Proofs.YtdhdfmmefghijabW.PrintWords Go.Proofs.YtdhdfmmefghijabW.PrintLast Go.Proofs.YtdhdfmmefghijabW.PrintMore
set_option linter.unusedVariables false
set_option linter.unusedSimpArgs false
theorem bt_at {L pre suf : List UInt8} {c : UInt8} (h : L = pre ++ c :: suf) : bt (ba L) (pre.length : Int) = (c.toNat : Int) := bt_mid (s := ba L) (by rw [ba_data]; exact h)
def wordR (N : Nat) (mid : List UInt8) : Option (List UInt8 × List UInt8) → Int × Int × ByteArray × List SDoc × Int
  | some q => (2, 0, ba (mid ++ q.1), [], (N : Int) - (q.2.length : Int))
  | none => (0, 0, ⟨#[]⟩, [], -1)
theorem specWord_loop {L pre : List UInt8} {c0 : UInt8} (hL : L.length ≤ 1099511627776) : ∀ (suf mid : List UInt8), L = pre ++ c0 :: (mid ++ suf) →
    Ev (fun k => spec_l1Word.l0 k (ba L) (pre.length : Int) ((pre.length + 1 + mid.length : Nat) : Int)) (wordR L.length mid (pW suf)) := by
  intro suf
  induction suf with
  | nil =>
    intro mid h
    have hl : L.length = pre.length + 1 + mid.length := by rw [h]; simp; omega
    refine Ev.step (fun k => by rw [spec_l1Word.l0]) ?_
    simp only [ba_size, if_neg (show ¬ (((pre.length + 1 + mid.length : Nat) : Int) < (L.length : Int)) by omega)]
    refine Ev.step (fun k => by rw [spec_l1Word.j1]) ?_
    simp only [ba_size, if_pos (show ((pre.length + 1 + mid.length : Nat) : Int) ≥ (L.length : Int) by omega)]
    exact Ev.now _
  | cons c suf ih =>
    intro mid h
    have hl : L.length = pre.length + 1 + mid.length + 1 + suf.length := by rw [h]; simp; omega
    have hb : bt (ba L) ((pre.length + 1 + mid.length : Nat) : Int) = (c.toNat : Int) := by
      have := bt_at (L := L) (pre := pre ++ c0 :: mid) (suf := suf) (c := c) (by rw [h]; simp)
      rw [show ((pre.length + 1 + mid.length : Nat) : Int) = (((pre ++ c0 :: mid).length : Nat) : Int) by simp; omega]
      exact this
    refine Ev.step (fun k => by rw [spec_l1Word.l0]) ?_
    simp only [ba_size, if_pos (show ((pre.length + 1 + mid.length : Nat) : Int) < (L.length : Int) by omega), if_pos (show (0 : Int) ≤ ((pre.length + 1 + mid.length : Nat) : Int) by omega), hb]
    rw [pW]
    by_cases e : (c.toNat : Int) = 34
    · simp only [if_pos e]
      refine Ev.step (fun k => by rw [spec_l1Word.j1]) ?_
      have w1 : wrap64 ((pre.length : Int) + 1) = ((pre.length + 1 : Nat) : Int) := by rw [w64 (by omega) (by omega)]; omega
      have w2 : wrap64 (((pre.length + 1 + mid.length : Nat) : Int) + 1) = (L.length : Int) - (suf.length : Int) := by rw [w64 (by omega) (by omega)]; omega
      have hx : (ba L).extract (((pre.length + 1 : Nat) : Int).toNat) (((pre.length + 1 + mid.length : Nat) : Int).toNat) = ba mid := by
        rw [ba_extract, Int.toNat_natCast, Int.toNat_natCast, h, show pre ++ c0 :: (mid ++ c :: suf) = (pre ++ [c0]) ++ (mid ++ c :: suf) by simp, List.drop_left' (by simp), List.take_left' (by omega)]
      simp only [ba_size, if_neg (show ¬ (((pre.length + 1 + mid.length : Nat) : Int) ≥ (L.length : Int)) by omega), w1, w2, if_pos (show (0 : Int) ≤ ((pre.length + 1 : Nat) : Int) by omega),
        if_pos (show ((pre.length + 1 : Nat) : Int) ≤ ((pre.length + 1 + mid.length : Nat) : Int) by omega), if_pos (show ((pre.length + 1 + mid.length : Nat) : Int) ≤ (L.length : Int) by omega), hx]
      simp only [wordR, List.append_nil]
      exact Ev.now _
    · simp only [if_neg e]
      have w1 : wrap64 (((pre.length + 1 + mid.length : Nat) : Int) + 1) = ((pre.length + 1 + (mid ++ [c]).length : Nat) : Int) := by rw [w64 (by omega) (by omega)]; simp; omega
      rw [w1]
      have := ih (mid ++ [c]) (by rw [h]; simp)
      have e2 : wordR L.length (mid ++ [c]) (pW suf) = wordR L.length mid ((pW suf).map fun q => (c :: q.1, q.2)) := by
        cases pW suf <;> simp [wordR]
      rw [← e2]
      exact this
def RdS (L : List UInt8) (n : Nat) : Prop := ∀ pre suf : List UInt8, L = pre ++ suf → ∃ d : SDoc, Ev (fun k => spec_l1Read.f k (ba L) (pre.length : Int) (n : Int)) (d.f0, d.f1, d.f2, d.f3, endAt L.length (pD n suf)) ∧ ∀ d' r, pD n suf = some (d', r) → d' = d
theorem specInner_loop {L : List UInt8} (hL : L.length ≤ 1099511627776) {n : Nat} (hn : n + 1 ≤ 40) (IH : RdS L n) (e : Int) (x2 : Nat) (hx2 : x2 ≤ 2) : ∀ (m : Nat), m ≤ x2 → ∀ (pre suf : List UInt8) (out : List SDoc), L = pre ++ suf → out.length + m = x2 →
    ∃ l : List SDoc, Ev (fun k => spec_l1Inner.l0 k (ba L) (pre.length : Int) (x2 : Int) e ((n + 1 : Nat) : Int) out (out.length : Int)) (l, endAt L.length (pK (pD n) m e suf)) ∧ ∀ ks r, pK (pD n) m e suf = some (ks, r) → l = out ++ ks := by
  intro m
  induction m with
  | zero =>
    intro _ pre suf out h ho
    refine ⟨out, Ev.step (fun k => by rw [spec_l1Inner.l0]) ?_, ?_⟩
    · simp only [if_neg (show ¬ ((out.length : Int) < (x2 : Int)) by omega), ba_size]
      match suf, h with
      | [], h =>
        have hl : L.length = pre.length := by rw [h]; simp
        simp only [if_pos (show (pre.length : Int) ≥ (L.length : Int) by omega)]
        exact Ev.now _
      | c :: suf, h =>
        have hl : L.length = pre.length + 1 + suf.length := by rw [h]; simp; omega
        simp only [if_neg (show ¬ ((pre.length : Int) ≥ (L.length : Int)) by omega), if_pos (show (0 : Int) ≤ (pre.length : Int) by omega), if_pos (show (pre.length : Int) < (L.length : Int) by omega), bt_at h, pK]
        by_cases c1 : (c.toNat : Int) = e
        · simp only [if_pos c1]
          rw [w64 (by omega) (by omega), show endAt L.length (some (([] : List SDoc), suf)) = (pre.length : Int) + 1 by simp [endAt]; omega]
          exact Ev.now _
        · simp only [if_neg c1]
          exact Ev.now _
    · intro ks r hk
      match suf, hk with
      | [], hk => simp [pK] at hk
      | c :: suf, hk =>
        rw [pK] at hk
        by_cases c1 : (c.toNat : Int) = e
        · rw [if_pos c1] at hk
          obtain ⟨rfl, rfl⟩ := Prod.mk.inj (Option.some.inj hk)
          simp
        · rw [if_neg c1] at hk; cases hk
  | succ m ih =>
    intro hm pre suf out h ho
    obtain ⟨d, hd, hd'⟩ := IH pre suf h
    have w1 : wrap64 (((n + 1 : Nat) : Int) - 1) = (n : Int) := by rw [w64 (by omega) (by omega)]; omega
    have c1 : (out.length : Int) < (x2 : Int) := by omega
    cases hp : pD n suf with
    | none =>
      rw [hp] at hd
      refine ⟨out, Ev.step (fun k => by rw [spec_l1Inner.l0]) ?_, ?_⟩
      · simp only [if_pos c1, w1]
        refine Ev.bind hd ?_
        simp only [endAt, show ((-1 : Int) < 0) = True by simp, if_true]
        rw [pK, hp]
        exact Ev.now _
      · intro ks r hk
        rw [pK, hp] at hk
        cases hk
    | some q =>
      obtain ⟨d1, r1⟩ := q
      obtain rfl := hd' d1 r1 hp
      obtain ⟨_, u, rfl⟩ := pD_good n _ _ _ hp
      have hl : L.length = pre.length + u.length + r1.length := by rw [h]; simp; omega
      obtain ⟨l, hl1, hl2⟩ := ih (by omega) (pre ++ u) r1 (out ++ [d1]) (by rw [h]; simp) (by simp; omega)
      rw [hp] at hd
      have e1 : endAt L.length (some (d1, r1)) = (((pre ++ u).length : Nat) : Int) := by simp [endAt]; omega
      rw [e1] at hd
      refine ⟨l, Ev.step (fun k => by rw [spec_l1Inner.l0]) ?_, ?_⟩
      · simp only [if_pos c1, w1]
        refine Ev.bind hd ?_
        simp only [if_neg (show ¬ ((((pre ++ u).length : Nat) : Int) < 0) by omega), if_pos (show out.length < 2513169434916 by omega), SDoc_eta]
        rw [w64 (by omega) (by omega), show (out.length : Int) + 1 = ((out ++ [d1]).length : Int) by simp]
        rw [pK, hp]
        have e2 : endAt L.length (((some (d1, r1)).bind fun q => (pK (pD n) m e q.2).map fun p => (q.1 :: p.1, p.2)) : Option (List SDoc × List UInt8)) = endAt L.length (pK (pD n) m e r1) := by
          simp only [Option.bind_some]
          cases pK (pD n) m e r1 <;> rfl
        rw [e2]
        exact hl1
      · intro ks r hk
        rw [pK, hp] at hk
        simp only [Option.bind_some] at hk
        obtain ⟨⟨l2, r2⟩, h1, h2⟩ := Option.map_eq_some_iff.1 hk
        obtain ⟨rfl, rfl⟩ := Prod.mk.inj h2
        rw [hl2 l2 r2 h1]
        simp
theorem specRead_ev {L : List UInt8} (hL : L.length ≤ 1099511627776) : ∀ n : Nat, n ≤ 40 → RdS L n := by
  intro n
  induction n with
  | zero =>
    intro _ pre suf h
    refine ⟨⟨0, 0, ⟨#[]⟩, []⟩, Ev.step (fun k => by rw [spec_l1Read.f]) ?_, fun d' r hp => by simp [pD] at hp⟩
    have J : Ev (fun k => spec_l1Read.j0 k (ba L) (pre.length : Int) ((0 : Nat) : Int) true) (0, 0, (⟨#[]⟩ : ByteArray), ([] : List SDoc), -1) := by
      refine Ev.step (fun k => by rw [spec_l1Read.j0]) ?_
      simp only [if_true]
      exact Ev.now _
    exact Ev.iff (fun _ => J) (fun _ => J)
  | succ n ih =>
    intro hn pre suf h
    have IH := ih (by omega)
    match suf, h with
    | [], h =>
      have hl : L.length = pre.length := by rw [h]; simp
      refine ⟨⟨0, 0, ⟨#[]⟩, []⟩, Ev.step (fun k => by rw [spec_l1Read.f]) ?_, fun d' r hp => by simp [pD, pN] at hp⟩
      simp only [ba_size, if_pos (show (pre.length : Int) ≥ (L.length : Int) by omega)]
      refine Ev.step (fun k => by rw [spec_l1Read.j0]) ?_
      simp only [if_true]
      exact Ev.now _
    | c :: suf, h =>
      have hl : L.length = pre.length + 1 + suf.length := by rw [h]; simp; omega
      have h' : L = (pre ++ [c]) ++ suf := by rw [h]; simp
      have w1 : wrap64 ((pre.length : Int) + 1) = (((pre ++ [c]).length : Nat) : Int) := by rw [w64 (by omega) (by omega)]; simp
      have start : ∀ R, Ev (fun k => spec_l1Read.j0 k (ba L) (pre.length : Int) ((n + 1 : Nat) : Int) false) R → Ev (fun k => spec_l1Read.f k (ba L) (pre.length : Int) ((n + 1 : Nat) : Int)) R := by
        intro R hR
        refine Ev.step (fun k => by rw [spec_l1Read.f]) ?_
        simp only [ba_size, if_neg (show ¬ ((pre.length : Int) ≥ (L.length : Int)) by omega)]
        rw [show (((n + 1 : Nat) : Int) == 0) = false by simp; omega]
        exact hR
      have inner : ∀ (pre' suf' : List UInt8) (m : Nat) (e : Int), L = pre' ++ suf' → m ≤ 2 → ∃ l : List SDoc, Ev (fun k => spec_l1Inner.f k (ba L) (pre'.length : Int) (m : Int) e ((n + 1 : Nat) : Int)) (l, endAt L.length (pK (pD n) m e suf')) ∧ ∀ ks r, pK (pD n) m e suf' = some (ks, r) → l = ks := by
        intro pre' suf' m e hp hm
        obtain ⟨l, h1, h2⟩ := specInner_loop hL (by omega) IH e m hm m (Nat.le_refl _) pre' suf' [] hp (by simp)
        exact ⟨l, Ev.step (fun k => by rw [spec_l1Inner.f]; rfl) h1, fun ks r hk => by rw [h2 ks r hk]; rfl⟩
      have leafs : ∀ o : Int, pD (n + 1) (c :: suf) = some (⟨o, 0, ba [], []⟩, suf) → Ev (fun k => spec_l1Read.j0 k (ba L) (pre.length : Int) ((n + 1 : Nat) : Int) false) (o, 0, (⟨#[]⟩ : ByteArray), ([] : List SDoc), (((pre ++ [c]).length : Nat) : Int)) →
          ∃ d : SDoc, Ev (fun k => spec_l1Read.f k (ba L) (pre.length : Int) ((n + 1 : Nat) : Int)) (d.f0, d.f1, d.f2, d.f3, endAt L.length (pD (n + 1) (c :: suf))) ∧ ∀ d' r, pD (n + 1) (c :: suf) = some (d', r) → d' = d := by
        intro o hp hR
        refine ⟨⟨o, 0, ba [], []⟩, start _ ?_, fun d' r hd => by rw [hp] at hd; exact (Prod.mk.inj (Option.some.inj hd)).1.symm⟩
        rw [hp, show endAt L.length (some ((⟨o, 0, ba [], []⟩ : SDoc), suf)) = (((pre ++ [c]).length : Nat) : Int) by simp [endAt]; omega]
        exact hR
      have J : ∀ R, (Ev (fun k => if (c.toNat : Int) = 126 then (some ((1 : Int), (0 : Int), (⟨#[]⟩ : ByteArray), ([] : List SDoc), (((pre ++ [c]).length : Nat) : Int))) else (if (c.toNat : Int) = 95 then (some (3, 0, (⟨#[]⟩ : ByteArray), ([] : List SDoc), (((pre ++ [c]).length : Nat) : Int))) else (if (c.toNat : Int) = 46 then (some (4, 0, (⟨#[]⟩ : ByteArray), ([] : List SDoc), (((pre ++ [c]).length : Nat) : Int))) else (if (c.toNat : Int) = 33 then (some (5, 0, (⟨#[]⟩ : ByteArray), ([] : List SDoc), (((pre ++ [c]).length : Nat) : Int))) else (if (c.toNat : Int) = 34 then ((spec_l1Word.f k (ba L) (pre.length : Int)).bind fun b => (some (b.1, b.2.1, b.2.2.1, b.2.2.2.1, b.2.2.2.2))) else (if (c.toNat : Int) = 40 then ((spec_l1Inner.f k (ba L) (((pre ++ [c]).length : Nat) : Int) 2 41 ((n + 1 : Nat) : Int)).bind fun b => (some (7, 0, (⟨#[]⟩ : ByteArray), b.1, b.2))) else (if (c.toNat : Int) = 91 then ((spec_l1Inner.f k (ba L) (((pre ++ [c]).length : Nat) : Int) 1 93 ((n + 1 : Nat) : Int)).bind fun b => (some (8, 0, (⟨#[]⟩ : ByteArray), b.1, b.2))) else (if (c.toNat : Int) ≥ 48 then (if (c.toNat : Int) ≤ 57 then (if (((pre ++ [c]).length : Nat) : Int) < (L.length : Int) then (if 0 ≤ (((pre ++ [c]).length : Nat) : Int) then (spec_l1Read.j1 k (ba L) (pre.length : Int) ((n + 1 : Nat) : Int) ((bt (ba L) (((pre ++ [c]).length : Nat) : Int)) == 60)) else (none)) else (spec_l1Read.j1 k (ba L) (pre.length : Int) ((n + 1 : Nat) : Int) false)) else (spec_l1Read.j1 k (ba L) (pre.length : Int) ((n + 1 : Nat) : Int) false)) else (spec_l1Read.j1 k (ba L) (pre.length : Int) ((n + 1 : Nat) : Int) false))))))))) R) →
          Ev (fun k => spec_l1Read.j0 k (ba L) (pre.length : Int) ((n + 1 : Nat) : Int) false) R := by
        intro R hR
        refine Ev.step (fun k => by rw [spec_l1Read.j0]) ?_
        simp only [Bool.false_eq_true, if_false, if_pos (show (0 : Int) ≤ (pre.length : Int) by omega), ba_size, if_pos (show (pre.length : Int) < (L.length : Int) by omega), bt_at h, w1]
        exact hR
      by_cases c1 : (c.toNat : Int) = 126
      · refine leafs 1 (by rw [pD, pN, if_pos c1]) (J _ ?_)
        simp only [if_pos c1]; exact Ev.now _
      by_cases c2 : (c.toNat : Int) = 95
      · refine leafs 3 (by rw [pD, pN, if_neg c1, if_pos c2]) (J _ ?_)
        simp only [if_neg c1, if_pos c2]; exact Ev.now _
      by_cases c3 : (c.toNat : Int) = 46
      · refine leafs 4 (by rw [pD, pN, if_neg c1, if_neg c2, if_pos c3]) (J _ ?_)
        simp only [if_neg c1, if_neg c2, if_pos c3]; exact Ev.now _
      by_cases c4 : (c.toNat : Int) = 33
      · refine leafs 5 (by rw [pD, pN, if_neg c1, if_neg c2, if_neg c3, if_pos c4]) (J _ ?_)
        simp only [if_neg c1, if_neg c2, if_neg c3, if_pos c4]; exact Ev.now _
      by_cases c5 : (c.toNat : Int) = 34
      · have hp : pD (n + 1) (c :: suf) = (pW suf).map fun q => (⟨2, 0, ba q.1, []⟩, q.2) := by rw [pD, pN, if_neg c1, if_neg c2, if_neg c3, if_neg c4, if_pos c5]
        have hw := specWord_loop (L := L) (pre := pre) (c0 := c) hL suf [] h
        have hw' : Ev (fun k => spec_l1Word.f k (ba L) (pre.length : Int)) (wordR L.length [] (pW suf)) := by
          refine Ev.congr (fun k => by rw [spec_l1Word.f]) ?_
          rw [w64 (by omega) (by omega), show (pre.length : Int) + 1 = ((pre.length + 1 + ([] : List UInt8).length : Nat) : Int) by simp]
          exact hw
        rw [hp]
        cases hq : pW suf with
        | none =>
          rw [hq] at hw'
          refine ⟨⟨0, 0, ⟨#[]⟩, []⟩, start _ (J _ ?_), fun d' r hd => by cases hd⟩
          simp only [if_neg c1, if_neg c2, if_neg c3, if_neg c4, if_pos c5]
          exact Ev.bind hw' (Ev.now _)
        | some q =>
          rw [hq] at hw'
          refine ⟨⟨2, 0, ba q.1, []⟩, start _ (J _ ?_), fun d' r hd => (Prod.mk.inj (Option.some.inj hd)).1.symm⟩
          simp only [if_neg c1, if_neg c2, if_neg c3, if_neg c4, if_pos c5]
          exact Ev.bind hw' (Ev.now _)
      by_cases c6 : (c.toNat : Int) = 40
      · have hp : pD (n + 1) (c :: suf) = (pK (pD n) 2 41 suf).map fun q => (⟨7, 0, ba [], q.1⟩, q.2) := by rw [pD, pN, if_neg c1, if_neg c2, if_neg c3, if_neg c4, if_neg c5, if_pos c6]
        obtain ⟨l, h1, h2⟩ := inner (pre ++ [c]) suf 2 41 h' (by omega)
        refine ⟨⟨7, 0, ba [], l⟩, start _ (J _ ?_), fun d' r hd => ?_⟩
        · simp only [if_neg c1, if_neg c2, if_neg c3, if_neg c4, if_neg c5, if_pos c6]
          refine Ev.bind h1 ?_
          rw [hp, show endAt L.length ((pK (pD n) 2 41 suf).map fun q => ((⟨7, 0, ba [], q.1⟩ : SDoc), q.2)) = endAt L.length (pK (pD n) 2 41 suf) by cases pK (pD n) 2 41 suf <;> rfl]
          exact Ev.now _
        · rw [hp] at hd
          obtain ⟨⟨ks, r'⟩, e1, e2⟩ := Option.map_eq_some_iff.1 hd
          obtain ⟨rfl, rfl⟩ := Prod.mk.inj e2
          rw [h2 ks r' e1]
      by_cases c7 : (c.toNat : Int) = 91
      · have hp : pD (n + 1) (c :: suf) = (pK (pD n) 1 93 suf).map fun q => (⟨8, 0, ba [], q.1⟩, q.2) := by rw [pD, pN, if_neg c1, if_neg c2, if_neg c3, if_neg c4, if_neg c5, if_neg c6, if_pos c7]
        obtain ⟨l, h1, h2⟩ := inner (pre ++ [c]) suf 1 93 h' (by omega)
        refine ⟨⟨8, 0, ba [], l⟩, start _ (J _ ?_), fun d' r hd => ?_⟩
        · simp only [if_neg c1, if_neg c2, if_neg c3, if_neg c4, if_neg c5, if_neg c6, if_pos c7]
          refine Ev.bind h1 ?_
          rw [hp, show endAt L.length ((pK (pD n) 1 93 suf).map fun q => ((⟨8, 0, ba [], q.1⟩ : SDoc), q.2)) = endAt L.length (pK (pD n) 1 93 suf) by cases pK (pD n) 1 93 suf <;> rfl]
          exact Ev.now _
        · rw [hp] at hd
          obtain ⟨⟨ks, r'⟩, e1, e2⟩ := Option.map_eq_some_iff.1 hd
          obtain ⟨rfl, rfl⟩ := Prod.mk.inj e2
          rw [h2 ks r' e1]
      have bad : (¬ (48 ≤ (c.toNat : Int) ∧ (c.toNat : Int) ≤ 57 ∧ hd60 suf = true)) → Ev (fun k => spec_l1Read.j1 k (ba L) (pre.length : Int) ((n + 1 : Nat) : Int) false) ((0 : Int), (0 : Int), (⟨#[]⟩ : ByteArray), ([] : List SDoc), (-1 : Int)) := by
        intro _
        refine Ev.step (fun k => by rw [spec_l1Read.j1]) ?_
        simp only [Bool.false_eq_true, if_false]
        exact Ev.now _
      by_cases c8 : 48 ≤ (c.toNat : Int) ∧ (c.toNat : Int) ≤ 57 ∧ hd60 suf = true
      · have hp : pD (n + 1) (c :: suf) = (pK (pD n) 1 62 suf.tail).map fun q => (⟨6, (c.toNat : Int) - 48, ba [], q.1⟩, q.2) := by rw [pD, pN, if_neg c1, if_neg c2, if_neg c3, if_neg c4, if_neg c5, if_neg c6, if_neg c7, if_pos c8]
        obtain ⟨c80, c81, c82⟩ := c8
        match suf, h, h', c82, hp, hl with
        | [], _, _, c82, _, _ => simp [hd60] at c82
        | q :: suf, h, h', c82, hp, hl =>
          have hq : (q.toNat : Int) = 60 := by simpa [hd60] using c82
          simp only [List.length_cons] at hl
          obtain ⟨l, h1, h2⟩ := inner (pre ++ [c] ++ [q]) suf 1 62 (by rw [h]; simp) (by omega)
          have w2 : wrap64 ((pre.length : Int) + 2) = (((pre ++ [c] ++ [q]).length : Nat) : Int) := by rw [w64 (by omega) (by omega)]; simp
          refine ⟨⟨6, (c.toNat : Int) - 48, ba [], l⟩, start _ (J _ ?_), fun d' r hd => ?_⟩
          · simp only [if_neg c1, if_neg c2, if_neg c3, if_neg c4, if_neg c5, if_neg c6, if_neg c7, if_pos (show (c.toNat : Int) ≥ 48 from c80), if_pos c81]
            rw [bt_at (L := L) (pre := pre ++ [c]) (suf := suf) (c := q) h']
            simp only [if_pos (show (((pre ++ [c]).length : Nat) : Int) < (L.length : Int) by simp; omega), if_pos (show (0 : Int) ≤ (((pre ++ [c]).length : Nat) : Int) by omega), hq, beq_self_eq_true]
            refine Ev.step (fun k => by rw [spec_l1Read.j1]) ?_
            simp only [if_true, w2]
            refine Ev.bind h1 ?_
            simp only [ba_size, if_pos (show (0 : Int) ≤ (pre.length : Int) by omega), if_pos (show (pre.length : Int) < (L.length : Int) by omega), bt_at h]
            rw [show ((c.toNat : Int) - 48) % 256 = (c.toNat : Int) - 48 by omega, hp]
            simp only [List.tail_cons]
            rw [show endAt L.length ((pK (pD n) 1 62 suf).map fun p => ((⟨6, (c.toNat : Int) - 48, ba [], p.1⟩ : SDoc), p.2)) = endAt L.length (pK (pD n) 1 62 suf) by cases pK (pD n) 1 62 suf <;> rfl]
            exact Ev.now _
          · rw [hp] at hd
            simp only [List.tail_cons] at hd
            obtain ⟨⟨ks, r'⟩, e1, e2⟩ := Option.map_eq_some_iff.1 hd
            obtain ⟨rfl, rfl⟩ := Prod.mk.inj e2
            rw [h2 ks r' e1]
      · have hp : pD (n + 1) (c :: suf) = none := by rw [pD, pN, if_neg c1, if_neg c2, if_neg c3, if_neg c4, if_neg c5, if_neg c6, if_neg c7, if_neg c8]
        rw [hp]
        refine ⟨⟨0, 0, ⟨#[]⟩, []⟩, start _ (J _ ?_), fun d' r hd => by cases hd⟩
        simp only [if_neg c1, if_neg c2, if_neg c3, if_neg c4, if_neg c5, if_neg c6, if_neg c7]
        refine Ev.iff (fun c80 => Ev.iff (fun c81 => ?_) (fun _ => bad c8)) (fun _ => bad c8)
        match suf, h, h', c8 with
        | [], h, _, c8 =>
          simp only [List.length_append, List.length_cons, List.length_nil] at hl
          simp only [if_neg (show ¬ ((((pre ++ [c]).length : Nat) : Int) < (L.length : Int)) by simp; omega)]
          exact bad c8
        | q :: suf, h, h', c8 =>
          have hq : ((q.toNat : Int) == 60) = false := by
            cases hb : ((q.toNat : Int) == 60) with
            | false => rfl
            | true => exact absurd ⟨c80, c81, by simpa [hd60] using hb⟩ c8
          simp only [List.length_cons] at hl
          simp only [if_pos (show (((pre ++ [c]).length : Nat) : Int) < (L.length : Int) by simp; omega), if_pos (show (0 : Int) ≤ (((pre ++ [c]).length : Nat) : Int) by omega), bt_at (L := L) (pre := pre ++ [c]) (suf := suf) (c := q) h', hq]
          exact bad c8
def parseR (L : List UInt8) : Option SDoc := match pD 40 L with
  | some (d, []) => if docV d = true then some d else none
  | _ => none
def docR : Option SDoc → Int × Int × ByteArray × List SDoc × Bool
  | some d => (d.f0, d.f1, d.f2, d.f3, true)
  | none => (0, 0, ⟨#[]⟩, [], false)
theorem specParse_ev (s : ByteArray) (hs : s.size ≤ 1099511627776) : Ev (fun k => spec_ParseDoc.f k s) (docR (parseR s.data.toList)) := by
  have hs' : s.data.toList.length ≤ 1099511627776 := by rw [← size_data]; exact hs
  obtain ⟨d, h1, h2⟩ := specRead_ev hs' 40 (Nat.le_refl _) [] s.data.toList rfl
  rw [ba_of] at h1
  have h1 : Ev (fun k => spec_l1Read.f k s 0 40) (d.f0, d.f1, d.f2, d.f3, endAt s.data.toList.length (pD 40 s.data.toList)) := h1
  refine Ev.congr (fun k => by rw [spec_ParseDoc.f]) (Ev.bind h1 ?_)
  rw [size_data]
  unfold parseR
  cases hp : pD 40 s.data.toList with
  | none =>
    simp only [endAt, if_neg (show ¬ ((-1 : Int) = (s.data.toList.length : Int)) by omega)]
    exact Ev.now _
  | some q =>
    obtain ⟨d', r⟩ := q
    obtain rfl := h2 d' r hp
    obtain ⟨hm, u, hu⟩ := pD_good 40 _ _ _ hp
    match r, hp, hm, hu with
    | [], hp, hm, hu =>
      simp only [endAt, List.length_nil, if_pos (show ((s.data.toList.length : Int) - ((0 : Nat) : Int) = (s.data.toList.length : Int)) by omega)]
      refine Ev.bind (specValid_ev d' (by omega)) ?_
      by_cases hv : docV d' = true
      · simp only [if_pos hv, docR]; exact Ev.now _
      · simp only [if_neg hv, docR]; exact Ev.now _
    | c :: r, hp, hm, hu =>
      simp only [endAt, List.length_cons, if_neg (show ¬ ((s.data.toList.length : Int) - ((r.length + 1 : Nat) : Int) = (s.data.toList.length : Int)) by omega)]
      exact Ev.now _
end Go.Proofs.Ytdhdfmmefghijab.Pure
namespace Go.Proofs.Ytdhdfmmefghijab.P
open Go.RowKit Go.Proofs.YtdhdfmmefghijabW.PrintWords Go.Proofs.YtdhdfmmefghijabW.PrintLast Go.Proofs.YtdhdfmmefghijabW.PrintMore
attribute [local go_sem] max2_int min2_int max_two min_two max_three min_three max_four min_four
set_option linter.unusedVariables false
set_option linter.unusedSimpArgs false
mutual
def spec_CountOps.j0:Nat→Int→Int→Int→Int→ByteArray→List (SDoc)→Option (Int)
 | 0,_,_,_,_,_,_=>none
 | k+1,x1,x5,x1012000,x1012001,x1012002,x1012003=>spec_CountOps.l0 k x1 x5 0 x1012000 x1012001 x1012002 x1012003
def spec_CountOps.l0:Nat→Int→Int→Int→Int→Int→ByteArray→List (SDoc)→Option (Int)
 | 0,_,_,_,_,_,_,_=>none
 | k+1,x1,x5,x6,x1012000,x1012001,x1012002,x1012003=>if x6 < (x1012003.length:Int) then (if 0≤x6 then ((spec_CountOps.f k ((rd_TDoc x1012003 x6).f0) ((rd_TDoc x1012003 x6).f1) ((rd_TDoc x1012003 x6).f2) ((rd_TDoc x1012003 x6).f3) x1).bind fun t1013=>(spec_CountOps.l0 k x1 (wrap64 (x5+t1013)) (wrap64 (x6+1)) x1012000 x1012001 x1012002 x1012003)) else (none)) else (some x5)
def spec_CountOps.f:Nat→Int→Int→ByteArray→List (SDoc)→Int→Option (Int)
 | 0,_,_,_,_,_=>none
 | k+1,a0_0,a0_1,a0_2,l0_3,a1=>if a0_0=a1 then (spec_CountOps.j0 k a1 1 a0_0 a0_1 a0_2 l0_3) else (spec_CountOps.j0 k a1 0 a0_0 a0_1 a0_2 l0_3)
end
end Go.Proofs.Ytdhdfmmefghijab.P
namespace Go.Proofs.Ytdhdfmmefghijab.P
open Go.RowKit Go.Proofs.YtdhdfmmefghijabW.PrintWords Go.Proofs.YtdhdfmmefghijabW.PrintLast Go.Proofs.YtdhdfmmefghijabW.PrintMore
attribute [local go_sem] max2_int min2_int max_two min_two max_three min_three max_four min_four
set_option linter.unusedVariables false
set_option linter.unusedSimpArgs false
mutual
def impl_CountOps.j0:Nat→Int→Int→Int→Int→ByteArray→List (SDoc)→Option (Int)
 | 0,_,_,_,_,_,_=>none
 | k+1,x1,x5,x860000,x860001,x860002,x860003=>impl_CountOps.l0 k x1 x5 x860003 (x860003.length:Int) 0
def impl_CountOps.l0:Nat→Int→Int→List (SDoc)→Int→Int→Option (Int)
 | 0,_,_,_,_,_=>none
 | k+1,x1,x5,x13,x14,x15=>if x15 < x14 then (if 0≤x15 then (if x15 < (x13.length:Int) then ((impl_CountOps.f k ((rd_TDoc x13 x15).f0) ((rd_TDoc x13 x15).f1) ((rd_TDoc x13 x15).f2) ((rd_TDoc x13 x15).f3) x1).bind fun t862=>(impl_CountOps.l0 k x1 (wrap64 (x5+t862)) x13 x14 (wrap64 (x15+1)))) else (none)) else (none)) else (some x5)
def impl_CountOps.f:Nat→Int→Int→ByteArray→List (SDoc)→Int→Option (Int)
 | 0,_,_,_,_,_=>none
 | k+1,a0_0,a0_1,a0_2,l0_3,a1=>if a0_0=a1 then (impl_CountOps.j0 k a1 1 a0_0 a0_1 a0_2 l0_3) else (impl_CountOps.j0 k a1 0 a0_0 a0_1 a0_2 l0_3)
end
end Go.Proofs.Ytdhdfmmefghijab.P
namespace Go.Proofs.Ytdhdfmmefghijab.Pure
open Go.RowKit Go.Proofs.Ytdhdfmmefghijab.P Go.Proofs.YtdhdfmmefghijabW.PrintWords Go.Proofs.YtdhdfmmefghijabW.PrintLast Go.Proofs.YtdhdfmmefghijabW.PrintMore
set_option linter.unusedVariables false
set_option linter.unusedSimpArgs false
mutual
def cnt (op : Int) : SDoc → Nat
  | ⟨o, _, _, ks⟩ => (if o = op then 1 else 0) + cntL op ks
def cntL (op : Int) : List SDoc → Nat
  | [] => 0
  | k :: ks => cnt op k + cntL op ks
end
end Go.Proofs.Ytdhdfmmefghijab.Pure
namespace Go.Proofs.Ytdhdfmmefghijab.Pure
open Go.RowKit Go.Proofs.Ytdhdfmmefghijab.P Go.Proofs.YtdhdfmmefghijabW.PrintWords Go.Proofs.YtdhdfmmefghijabW.PrintLast Go.Proofs.YtdhdfmmefghijabW.PrintMore
set_option linter.unusedVariables false
set_option linter.unusedSimpArgs false
theorem wf_kids {o n : Int} {t : ByteArray} {ks : List SDoc} {deep : Nat} (h : wf ⟨o, n, t, ks⟩ deep = true) : ∀ y, y ∈ ks → wf y (deep - 1) = true := by
  have h3 := ((wf_mk o n t ks deep).1 h).2.2
  rw [wfL_all, List.all_eq_true] at h3
  exact h3
theorem wf_node {o n : Int} {t : ByteArray} {ks : List SDoc} {deep : Nat} (h : wf ⟨o, n, t, ks⟩ deep = true) : 1 ≤ o ∧ o ≤ 8 ∧ (ks.length : Int) = docKids o ∧ 0 ≤ n ∧ n ≤ 9 ∧ (n = 0 ∨ o = 6) ∧ (o = 2 → tv t = true) ∧ (o ≠ 2 → t = ⟨#[]⟩) := by
  have h2 := (nodeOk_iff o n t ks.length).1 ((wf_mk o n t ks deep).1 h).2.1
  obtain ⟨a, b, c, d, e, f, g⟩ := h2
  refine ⟨a, b, c, d, e, f, fun h => by rwa [if_pos h] at g, fun h => ?_⟩
  rw [if_neg h, decide_eq_true_eq, size_data, List.length_eq_zero_iff] at g
  obtain ⟨⟨l⟩⟩ := t
  simp at g
  subst g
  rfl
end Go.Proofs.Ytdhdfmmefghijab.Pure
namespace Go.Proofs.Ytdhdfmmefghijab.P
open Go.RowKit Go.Proofs.YtdhdfmmefghijabW.PrintWords Go.Proofs.YtdhdfmmefghijabW.PrintLast Go.Proofs.YtdhdfmmefghijabW.PrintMore
attribute [local go_sem] max2_int min2_int max_two min_two max_three min_three max_four min_four
set_option linter.unusedVariables false
set_option linter.unusedSimpArgs false
mutual
def spec_l1Copy.l0:Nat→Int→Int→Int→ByteArray→List (SDoc)→Int→Int→ByteArray→List (SDoc)→Option (Int × Int × ByteArray × (List (SDoc)))
 | 0,_,_,_,_,_,_,_,_,_=>none
 | k+1,x4,x695000,x695001,x695002,x695003,x697000,x697001,x697002,x697003=>if x4 < (x695003.length:Int) then (if 0≤x4 then ((spec_l1Copy.f k ((rd_TDoc x695003 x4).f0) ((rd_TDoc x695003 x4).f1) ((rd_TDoc x695003 x4).f2) ((rd_TDoc x695003 x4).f3)).bind fun bt698=>(if x697003.length < 2513169434916 then (spec_l1Copy.l0 k (wrap64 (x4+1)) x695000 x695001 x695002 x695003 x697000 x697001 x697002 (x697003++[(⟨bt698.1,bt698.2.1,bt698.2.2.1,bt698.2.2.2⟩:SDoc)])) else (none))) else (none)) else (some (x697000,x697001,x697002,x697003))
def spec_l1Copy.f:Nat→Int→Int→ByteArray→List (SDoc)→Option (Int × Int × ByteArray × (List (SDoc)))
 | 0,_,_,_,_=>none
 | k+1,a0_0,a0_1,a0_2,l0_3=>spec_l1Copy.l0 k 0 a0_0 a0_1 a0_2 l0_3 a0_0 a0_1 a0_2 ([]:List (SDoc))
end
end Go.Proofs.Ytdhdfmmefghijab.P
namespace Go.Proofs.Ytdhdfmmefghijab.Pure
open Go.RowKit Go.Proofs.Ytdhdfmmefghijab.P Go.Proofs.YtdhdfmmefghijabW.PrintWords Go.Proofs.YtdhdfmmefghijabW.PrintLast Go.Proofs.YtdhdfmmefghijabW.PrintMore
set_option linter.unusedVariables false
set_option linter.unusedSimpArgs false
end Go.Proofs.Ytdhdfmmefghijab.Pure
namespace Go.Proofs.Ytdhdfmmefghijab.Pure
open Go.RowKit Go.Proofs.Ytdhdfmmefghijab.P Go.Proofs.YtdhdfmmefghijabW.PrintWords Go.Proofs.YtdhdfmmefghijabW.PrintLast Go.Proofs.YtdhdfmmefghijabW.PrintMore
set_option linter.unusedVariables false
set_option linter.unusedSimpArgs false
theorem word2_ev {b : List Int} (hb : Code b) (p : Int) (hp0 : 0 ≤ p) (hp : p ≤ 1000000000) : ∃ s, tv s = true ∧ Ev (fun k => spec_l1Word2.f k b p) (s, p + 1) := by
  obtain ⟨s, hs, h⟩ := of_ev hb p [(⟨#[97]⟩ : ByteArray), (⟨#[98, 98]⟩ : ByteArray), (⟨#[99, 99, 99]⟩ : ByteArray), (⟨#[100, 100, 100, 100]⟩ : ByteArray), (⟨#[102, 40]⟩ : ByteArray), (⟨#[41]⟩ : ByteArray), (⟨#[44]⟩ : ByteArray), (⟨#[120, 61, 49]⟩ : ByteArray), (⟨#[97, 98, 99, 100, 101, 102, 103, 104]⟩ : ByteArray), (⟨#[101]⟩ : ByteArray)] (by simp) hp0 hp
  refine ⟨s, ?_, Ev.congr (fun k => by rw [spec_l1Word2.f]) (Ev.bind h (Ev.now _))⟩
  have : ∀ s ∈ [(⟨#[97]⟩ : ByteArray), (⟨#[98, 98]⟩ : ByteArray), (⟨#[99, 99, 99]⟩ : ByteArray), (⟨#[100, 100, 100, 100]⟩ : ByteArray), (⟨#[102, 40]⟩ : ByteArray), (⟨#[41]⟩ : ByteArray), (⟨#[44]⟩ : ByteArray), (⟨#[120, 61, 49]⟩ : ByteArray), (⟨#[97, 98, 99, 100, 101, 102, 103, 104]⟩ : ByteArray), (⟨#[101]⟩ : ByteArray)], tv s = true := by decide +kernel
  exact this s hs
theorem tv_size {s : ByteArray} (h : tv s = true) : 1 ≤ s.size ∧ s.size ≤ 12 := by
  simp only [tv, Bool.and_eq_true, decide_eq_true_eq] at h
  exact ⟨h.1, h.2.1⟩
theorem wf_mono : ∀ (d : SDoc) (m m' : Nat), m ≤ m' → wf d m = true → wf d m' = true := by
  intro d
  induction d using SDoc.ind with
  | h o n t ks ih =>
    intro m m' hm h
    rw [wf_mk] at h ⊢
    refine ⟨by omega, h.2.1, ?_⟩
    rw [wfL_all, List.all_eq_true] at h ⊢
    exact fun y hy => ih y hy (m - 1) (m' - 1) (by omega) (h.2.2 y hy)
theorem wf_msz : ∀ (d : SDoc) (m : Nat), wf d m = true → msz d ≤ 13 * dsz d := by
  intro d
  induction d using SDoc.ind with
  | h o n t ks ih =>
    intro m h
    obtain ⟨_, _, _, _, _, _, h2, h3⟩ := wf_node h
    have hk := wf_kids h
    have key : ∀ l : List SDoc, (∀ y, y ∈ l → msz y ≤ 13 * dsz y) → mszL l ≤ 13 * dszL l := by
      intro l
      induction l with
      | nil => intro _; simp [mszL, dszL]
      | cons y l ihl =>
        intro hl
        have h1 := hl y List.mem_cons_self
        have h2 := ihl (fun z hz => hl z (List.mem_cons_of_mem _ hz))
        simp only [mszL, dszL]
        omega
    have := key ks (fun y hy => ih y hy (m - 1) (hk y hy))
    have ht : t.size ≤ 12 := by
      by_cases c : o = 2
      · exact (tv_size (h2 c)).2
      · rw [h3 c]; show 0 ≤ 12; omega
    simp only [msz, dsz]
    omega
theorem wf_of {o n : Int} {t : ByteArray} {ks : List SDoc} {m : Nat} (h1 : 1 ≤ o) (h8 : o ≤ 8) (hk : (ks.length : Int) = docKids o) (hn0 : 0 ≤ n) (hn9 : n ≤ 9) (hn : n = 0 ∨ o = 6) (ht : o = 2 → tv t = true) (ht' : o ≠ 2 → t = ⟨#[]⟩) (hks : ∀ y, y ∈ ks → wf y m = true) : wf ⟨o, n, t, ks⟩ (m + 1) = true := by
  rw [wf_mk]
  refine ⟨by omega, (nodeOk_iff _ _ _ _).2 ⟨h1, h8, hk, hn0, hn9, hn, ?_⟩, ?_⟩
  · by_cases c : o = 2
    · rw [if_pos c]; exact ht c
    · rw [if_neg c, ht' c]; rfl
  · rw [wfL_all, List.all_eq_true]
    exact hks
theorem three_pos (n : Nat) : 1 ≤ 3 ^ n := by
  induction n with
  | zero => exact Nat.le_refl 1
  | succ n ih => rw [Nat.pow_succ]; omega
theorem dr_leaf (o : Int) (h : o = 1 ∨ o = 3 ∨ o = 4 ∨ o = 5) (m : Nat) : wf ⟨o, 0, ⟨#[]⟩, []⟩ (m + 1) = true := wf_of (by omega) (by omega) (by rcases h with rfl | rfl | rfl | rfl <;> rfl) (by omega) (by omega) (.inl rfl) (by omega) (fun _ => rfl) (fun y hy => by cases hy)
theorem some0_ev {b : List Int} (hb : Code b) (p : Int) (hp0 : 0 ≤ p) (hp : p ≤ 900000000) : ∃ (d : SDoc) (q : Int), Ev (fun k => spec_l1Some.f k b p 0) (d.f0, d.f1, d.f2, d.f3, q) ∧ wf d 1 = true ∧ dsz d = 1 ∧ p ≤ q ∧ q ≤ p + 2 := by
  obtain ⟨r, h1, hr0, hr⟩ := pick_ev hb p 8 hp0 (by omega)
  obtain ⟨s, hs, h2⟩ := word2_ev hb (p + 1) (by omega) (by omega)
  have J : ∀ R, Ev (fun k => (spec_l15Rd_pick.f k b p 8).bind fun bt237 => (if bt237.1 = 0 then (some ((1 : Int), (0 : Int), (⟨#[]⟩ : ByteArray), ([] : List SDoc), bt237.2)) else (if bt237.1 = 1 then (spec_l1Some.j0 k bt237.1 (bt237.1 == 1) b bt237.2) else (spec_l1Some.j0 k bt237.1 (bt237.1 == 2) b bt237.2)))) R → Ev (fun k => spec_l1Some.f k b p 0) R := by
    intro R h
    refine Ev.step (fun k => by rw [spec_l1Some.f]) ?_
    simp only [if_true]
    exact h
  by_cases c0 : r = 0
  · refine ⟨⟨1, 0, ⟨#[]⟩, []⟩, p + 1, J _ (Ev.bind h1 ?_), dr_leaf 1 (by omega) 0, rfl, by omega, by omega⟩
    simp only [if_pos c0]
    exact Ev.now _
  have J2 : ∀ (R : Int × Int × ByteArray × List SDoc × Int) (w : Bool), w = (decide (r = 1) || decide (r = 2)) → Ev (fun k => spec_l1Some.j0 k r w b (p + 1)) R → Ev (fun k => spec_l1Some.f k b p 0) R := by
    intro R w hw h
    refine J _ (Ev.bind h1 ?_)
    simp only [if_neg c0]
    refine Ev.iff (fun c => ?_) (fun c => ?_)
    · rw [show (r == 1) = w by rw [hw]; simp [c]]
      exact h
    · rw [show (r == 2) = w by rw [hw, decide_eq_false (show ¬ r = 1 from c), Bool.false_or]; rfl]
      exact h
  by_cases c1 : r = 1 ∨ r = 2
  · refine ⟨⟨3, 0, ⟨#[]⟩, []⟩, p + 1, J2 _ true (by rcases c1 with rfl | rfl <;> rfl) (Ev.step (fun k => by rw [spec_l1Some.j0]) ?_), dr_leaf 3 (by omega) 0, rfl, by omega, by omega⟩
    simp only [if_true]
    exact Ev.now _
  have hw : false = (decide (r = 1) || decide (r = 2)) := by
    rw [decide_eq_false (fun e => c1 (.inl e)), decide_eq_false (fun e => c1 (.inr e))]; rfl
  by_cases c3 : r = 3
  · refine ⟨⟨4, 0, ⟨#[]⟩, []⟩, p + 1, J2 _ false hw (Ev.step (fun k => by rw [spec_l1Some.j0]) ?_), dr_leaf 4 (by omega) 0, rfl, by omega, by omega⟩
    simp only [Bool.false_eq_true, if_false, if_pos c3]
    exact Ev.now _
  · refine ⟨⟨2, 0, s, []⟩, p + 1 + 1, J2 _ false hw (Ev.step (fun k => by rw [spec_l1Some.j0]) ?_), ?_, rfl, by omega, by omega⟩
    · simp only [Bool.false_eq_true, if_false, if_neg c3]
      exact Ev.bind h2 (Ev.now _)
    · exact wf_of (by omega) (by omega) rfl (by omega) (by omega) (.inl rfl) (fun _ => hs) (fun h => absurd rfl h) (fun y hy => by cases hy)
theorem some_ev {b : List Int} (hb : Code b) : ∀ (n : Nat), n ≤ 5 → ∀ (p : Int), 0 ≤ p → p + 12 * 3 ^ n ≤ 800000000 → ∃ (d : SDoc) (q : Int), Ev (fun k => spec_l1Some.f k b p (n : Int)) (d.f0, d.f1, d.f2, d.f3, q) ∧ wf d (n + 3) = true ∧ dsz d ≤ 5 * 3 ^ n - 4 ∧ p ≤ q ∧ q ≤ p + 12 * 3 ^ n := by
  intro n
  induction n with
  | zero =>
    intro _ p hp0 hp
    obtain ⟨d, q, h, h1, h2, h3, h4⟩ := some0_ev hb p hp0 (by omega)
    exact ⟨d, q, h, wf_mono d 1 3 (by omega) h1, by omega, h3, by omega⟩
  | succ n ih =>
    intro hn p hp0 hp
    have ih := ih (by omega)
    have h3 := three_pos n
    have h3b : 3 ^ n ≤ 3 ^ 5 := Nat.pow_le_pow_right (by omega) (by omega)
    have h3c : (3 : Nat) ^ 5 = 243 := rfl
    have e3 : 3 ^ (n + 1) = 3 * 3 ^ n := by rw [Nat.pow_succ]; omega
    have e3i : ((3 : Int) ^ (n + 1)) = 3 * ((3 ^ n : Nat) : Int) := by rw [Int.pow_succ]; simp; omega
    have e3j : ((3 : Int) ^ n) = ((3 ^ n : Nat) : Int) := by simp
    rw [e3i] at hp ⊢
    rw [e3j] at ih
    rw [e3]
    generalize 3 ^ n = T at *
    obtain ⟨r, g1, hr0, hr⟩ := pick_ev hb p 12 hp0 (by omega)
    have hr := hr (by omega)
    have w1 : wrap64 (((n + 1 : Nat) : Int) - 1) = (n : Int) := by rw [w64 (by omega) (by omega)]; omega
    have J : ∀ R, Ev (fun k => (spec_l15Rd_pick.f k b p 12).bind fun bt241 => (if bt241.1 = 0 then ((spec_l1Some.f k b bt241.2 0).bind fun bt243 => (some (bt243.1, bt243.2.1, bt243.2.2.1, bt243.2.2.2.1, bt243.2.2.2.2))) else (if bt241.1 = 1 then (spec_l1Some.j1 k ((n + 1 : Nat) : Int) bt241.1 (bt241.1 == 1) b bt241.2) else (spec_l1Some.j1 k ((n + 1 : Nat) : Int) bt241.1 (bt241.1 == 2) b bt241.2)))) R → Ev (fun k => spec_l1Some.f k b p ((n + 1 : Nat) : Int)) R := by
      intro R h
      refine Ev.step (fun k => by rw [spec_l1Some.f]) ?_
      simp only [if_neg (show ¬ ((n + 1 : Nat) : Int) = 0 by omega)]
      exact h
    by_cases c0 : r = 0
    · obtain ⟨d, q, h, h1, h2, h4, h5⟩ := some0_ev hb (p + 1) (by omega) (by omega)
      refine ⟨d, q, J _ (Ev.bind g1 ?_), wf_mono d 1 _ (by omega) h1, by omega, by omega, by omega⟩
      simp only [if_pos c0]
      exact Ev.bind h (Ev.now _)
    have J2 : ∀ (R : Int × Int × ByteArray × List SDoc × Int) (w : Bool), w = (decide (r = 1) || decide (r = 2)) → Ev (fun k => spec_l1Some.j1 k ((n + 1 : Nat) : Int) r w b (p + 1)) R → Ev (fun k => spec_l1Some.f k b p ((n + 1 : Nat) : Int)) R := by
      intro R w hw h
      refine J _ (Ev.bind g1 ?_)
      simp only [if_neg c0]
      refine Ev.iff (fun c => ?_) (fun c => ?_)
      · rw [show (r == 1) = w by rw [hw]; simp [c]]
        exact h
      · rw [show (r == 2) = w by rw [hw, decide_eq_false (show ¬ r = 1 from c), Bool.false_or]; rfl]
        exact h
    by_cases c1 : r = 1 ∨ r = 2
    · obtain ⟨m, hm, g2⟩ := num_ev hb (p + 1) [2, 1, 4, 0, 9] (by simp) (by omega) (by omega)
      have hm9 : 0 ≤ m ∧ m ≤ 9 := by
        simp only [List.mem_cons, List.not_mem_nil, or_false] at hm
        omega
      obtain ⟨d, q, h, h1, h2, h4, h5⟩ := ih (p + 1 + 1) (by omega) (by omega)
      refine ⟨⟨6, m, ⟨#[]⟩, [d]⟩, q, J2 _ true (by rcases c1 with rfl | rfl <;> rfl) (Ev.step (fun k => by rw [spec_l1Some.j1]) ?_), ?_, ?_, by omega, by omega⟩
      · simp only [if_true, w1]
        refine Ev.bind g2 (Ev.bind h ?_)
        simp only [SDoc_eta]
        exact Ev.now _
      · exact wf_of (by omega) (by omega) rfl hm9.1 hm9.2 (.inr rfl) (by omega) (fun _ => rfl) (fun y hy => by rw [List.mem_singleton.1 hy]; exact h1)
      · simp only [dsz, dszL]; omega
    have hw : false = (decide (r = 1) || decide (r = 2)) := by
      rw [decide_eq_false (fun e => c1 (.inl e)), decide_eq_false (fun e => c1 (.inr e))]; rfl
    have J3 : ∀ (R : Int × Int × ByteArray × List SDoc × Int) (w : Bool), w = (decide (r = 3) || (decide (r = 4) || decide (r = 5))) → Ev (fun k => spec_l1Some.j2 k ((n + 1 : Nat) : Int) r w b (p + 1)) R → Ev (fun k => spec_l1Some.f k b p ((n + 1 : Nat) : Int)) R := by
      intro R w hw' h
      refine J2 _ false hw (Ev.step (fun k => by rw [spec_l1Some.j1]) ?_)
      simp only [Bool.false_eq_true, if_false]
      refine Ev.iff (fun c => ?_) (fun c => Ev.iff (fun c' => ?_) (fun c' => ?_))
      · rw [show (r == 3) = w by rw [hw']; simp [c]]
        exact h
      · rw [show (r == 4) = w by rw [hw', decide_eq_false (show ¬ r = 3 from c), Bool.false_or, decide_eq_true (show r = 4 from c'), show (r == 4) = true by rw [show r = 4 from c']; rfl]; rfl]
        exact h
      · rw [show (r == 5) = w by rw [hw', decide_eq_false (show ¬ r = 3 from c), Bool.false_or, decide_eq_false (show ¬ r = 4 from c'), Bool.false_or]; rfl]
        exact h
    by_cases c3 : r = 3 ∨ r = 4 ∨ r = 5
    · obtain ⟨d, q, h, h1, h2, h4, h5⟩ := ih (p + 1) (by omega) (by omega)
      refine ⟨⟨8, 0, ⟨#[]⟩, [d]⟩, q, J3 _ true (by rcases c3 with rfl | rfl | rfl <;> rfl) (Ev.step (fun k => by rw [spec_l1Some.j2]) ?_), ?_, ?_, by omega, by omega⟩
      · simp only [if_true, w1]
        refine Ev.bind h ?_
        simp only [SDoc_eta]
        exact Ev.now _
      · exact wf_of (by omega) (by omega) rfl (by omega) (by omega) (.inl rfl) (by omega) (fun _ => rfl) (fun y hy => by rw [List.mem_singleton.1 hy]; exact h1)
      · simp only [dsz, dszL]; omega
    have hw3 : false = (decide (r = 3) || (decide (r = 4) || decide (r = 5))) := by
      rw [decide_eq_false (fun e => c3 (.inl e)), decide_eq_false (fun e => c3 (.inr (.inl e))), decide_eq_false (fun e => c3 (.inr (.inr e)))]; rfl
    have cat : ∀ (x y : SDoc) (m : Nat), wf x m = true → wf y m = true → wf ⟨7, 0, ⟨#[]⟩, [x, y]⟩ (m + 1) = true := by
      intro x y m hx hy
      refine wf_of (by omega) (by omega) rfl (by omega) (by omega) (.inl rfl) (by omega) (fun _ => rfl) (fun z hz => ?_)
      simp only [List.mem_cons, List.not_mem_nil, or_false] at hz
      rcases hz with rfl | rfl
      · exact hx
      · exact hy
    by_cases c6 : r = 6
    · obtain ⟨s, g2, hs0, hs⟩ := pick_ev hb (p + 1) 3 (by omega) (by omega)
      obtain ⟨d, q, h, h1, h2, h4, h5⟩ := ih (p + 1 + 1) (by omega) (by omega)
      obtain ⟨d0, q0, i, i1, i2, i4, i5⟩ := some0_ev hb q (by omega) (by omega)
      have hd0 := wf_mono d0 1 (n + 1) (by omega) i1
      have fin : ∀ o : Int, (o = 5 ∨ o = 3) → wf ⟨7, 0, ⟨#[]⟩, [d, ⟨7, 0, ⟨#[]⟩, [⟨o, 0, ⟨#[]⟩, []⟩, d0]⟩]⟩ (n + 1 + 3) = true ∧ dsz ⟨7, 0, ⟨#[]⟩, [d, ⟨7, 0, ⟨#[]⟩, [⟨o, 0, ⟨#[]⟩, []⟩, d0]⟩]⟩ ≤ 5 * (3 * T) - 4 := by
        intro o ho
        refine ⟨cat _ _ (n + 3) h1 (wf_mono _ (n + 1 + 1) _ (by omega) (cat _ _ (n + 1) (dr_leaf o (by omega) n) hd0)), ?_⟩
        simp only [dsz, dszL]
        omega
      by_cases cs : s = 0
      · refine ⟨⟨7, 0, ⟨#[]⟩, [d, ⟨7, 0, ⟨#[]⟩, [⟨5, 0, ⟨#[]⟩, []⟩, d0]⟩]⟩, q0, J3 _ false hw3 (Ev.step (fun k => by rw [spec_l1Some.j2]) ?_), (fin 5 (.inl rfl)).1, (fin 5 (.inl rfl)).2, by omega, by omega⟩
        simp only [Bool.false_eq_true, if_false, if_pos c6, w1]
        refine Ev.bind g2 ?_
        simp only [if_pos cs]
        refine Ev.bind h (Ev.bind i ?_)
        simp only [spec_l1Cat.f, Option.bind_some, SDoc_eta]
        exact Ev.now _
      · refine ⟨⟨7, 0, ⟨#[]⟩, [d, ⟨7, 0, ⟨#[]⟩, [⟨3, 0, ⟨#[]⟩, []⟩, d0]⟩]⟩, q0, J3 _ false hw3 (Ev.step (fun k => by rw [spec_l1Some.j2]) ?_), (fin 3 (.inr rfl)).1, (fin 3 (.inr rfl)).2, by omega, by omega⟩
        simp only [Bool.false_eq_true, if_false, if_pos c6, w1]
        refine Ev.bind g2 ?_
        simp only [if_neg cs]
        refine Ev.bind h (Ev.bind i ?_)
        simp only [spec_l1Cat.f, Option.bind_some, SDoc_eta]
        exact Ev.now _
    · obtain ⟨d, q, h, h1, h2, h4, h5⟩ := ih (p + 1) (by omega) (by omega)
      obtain ⟨d', q', i, i1, i2, i4, i5⟩ := ih q (by omega) (by omega)
      refine ⟨⟨7, 0, ⟨#[]⟩, [d, d']⟩, q', J3 _ false hw3 (Ev.step (fun k => by rw [spec_l1Some.j2]) ?_), cat _ _ (n + 3) h1 i1, ?_, by omega, by omega⟩
      · simp only [Bool.false_eq_true, if_false, if_neg c6, w1]
        refine Ev.bind h (Ev.bind i ?_)
        simp only [spec_l1Cat.f, Option.bind_some, SDoc_eta]
        exact Ev.now _
      · simp only [dsz, dszL]; omega
def VDoc (d : SDoc) : Prop := docV d = true ∧ msz d ≤ 1040
theorem vdoc_of {d : SDoc} (h : docV d = true) : VDoc d := by
  obtain ⟨h1, h2⟩ := (docV_iff d).1 h
  have := wf_msz d 40 h1
  exact ⟨h, by omega⟩
theorem draw_loop {b : List Int} (hb : Code b) (L : List ByteArray) (hL0 : 0 < L.length) (hL : ∀ s ∈ L, s.size ≤ 1000) : ∀ (m : Nat) (i : Nat), i + m = 3 → ∀ p : Int, 0 ≤ p → p ≤ 100000000 + 10000 * i →
    ∃ (d : SDoc) (q : Int), Ev (fun k => spec_l1Draw.l0 k L (i : Int) b p) (d.f0, d.f1, d.f2, d.f3, q) ∧ VDoc d ∧ p ≤ q ∧ q ≤ p + 5000 * (m + 1) := by
  intro m
  induction m with
  | zero =>
    intro i hi p hp0 hp
    obtain ⟨d, q, h, h1, h2, h3, h4⟩ := some_ev hb 2 (by omega) p hp0 (by omega)
    refine ⟨d, q, Ev.step (fun k => by rw [spec_l1Draw.l0]) ?_, vdoc_of ((docV_iff d).2 ⟨wf_mono d 5 40 (by omega) h1, by omega⟩), h3, by omega⟩
    simp only [if_neg (show ¬ (i : Int) < 3 by omega)]
    exact Ev.bind h (Ev.now _)
  | succ m ih =>
    intro i hi p hp0 hp
    have c : (i : Int) < 3 := by omega
    have w1 : wrap64 ((i : Int) + 1) = ((i + 1 : Nat) : Int) := by rw [w64 (by omega) (by omega)]; omega
    obtain ⟨r, g1, hr0, hr⟩ := pick_ev hb p 3 hp0 (by omega)
    have J1 : ∀ p' : Int, p + 1 ≤ p' → p' ≤ p + 2 → ∃ (d : SDoc) (q : Int), Ev (fun k => spec_l1Draw.j1 k L (i : Int) b p') (d.f0, d.f1, d.f2, d.f3, q) ∧ VDoc d ∧ p ≤ q ∧ q ≤ p + 5000 * (m + 1 + 1) := by
      intro p' h1 h2
      obtain ⟨n, hn, g2⟩ := num_ev hb p' [4, 3, 5, 2] (by simp) (by omega) (by omega)
      simp only [List.mem_cons, List.not_mem_nil, or_false] at hn
      obtain ⟨n', hn', rfl⟩ : ∃ n' : Nat, n' ≤ 5 ∧ n = (n' : Int) := ⟨n.toNat, by omega, by omega⟩
      obtain ⟨d, q, h, k1, k2, k3, k4⟩ := some_ev hb n' hn' (p' + 1) (by omega) (by
        have h3b : 3 ^ n' ≤ 3 ^ 5 := Nat.pow_le_pow_right (by omega) hn'
        have h3c : (3 : Nat) ^ 5 = 243 := rfl
        have e3j : ((3 : Int) ^ n') = ((3 ^ n' : Nat) : Int) := by simp
        rw [e3j]
        omega)
      have h3b : 3 ^ n' ≤ 3 ^ 5 := Nat.pow_le_pow_right (by omega) hn'
      have h3c : (3 : Nat) ^ 5 = 243 := rfl
      have e3j : ((3 : Int) ^ n') = ((3 ^ n' : Nat) : Int) := by simp
      rw [e3j] at k4
      generalize 3 ^ n' = T at *
      have km := wf_msz d _ k1
      obtain ⟨d2, q2, h2', v2, m2, m3⟩ := ih (i + 1) (by omega) q (by omega) (by omega)
      by_cases cv : docV d = true
      · by_cases c4 : (dsz d : Int) ≤ 40
        · refine ⟨d, q, Ev.step (fun k => by rw [spec_l1Draw.j1]) (Ev.bind g2 (Ev.bind h (Ev.bind (specValid_ev d (by omega)) ?_))), vdoc_of cv, by omega, by omega⟩
          simp only [if_pos cv]
          refine Ev.bind (specCount_ev d (by omega)) ?_
          simp only [if_pos c4]
          exact Ev.now _
        · refine ⟨d2, q2, Ev.step (fun k => by rw [spec_l1Draw.j1]) (Ev.bind g2 (Ev.bind h (Ev.bind (specValid_ev d (by omega)) ?_))), v2, by omega, by omega⟩
          simp only [if_pos cv]
          refine Ev.bind (specCount_ev d (by omega)) ?_
          simp only [if_neg c4, w1]
          exact h2'
      · refine ⟨d2, q2, Ev.step (fun k => by rw [spec_l1Draw.j1]) (Ev.bind g2 (Ev.bind h (Ev.bind (specValid_ev d (by omega)) ?_))), v2, by omega, by omega⟩
        simp only [if_neg cv, w1]
        exact h2'
    by_cases c0 : r = 0
    · obtain ⟨j, g2, hj0, hj⟩ := pick_ev hb (p + 1) (L.length : Int) (by omega) (by omega)
      have hj := hj (by omega)
      have hjl : j.toNat < L.length := by omega
      have hsz : (rdOf ByteArray.empty L j).size ≤ 1000 := by
        unfold rdOf
        rw [List.getD_eq_getElem?_getD, List.getElem?_eq_getElem hjl]
        exact hL _ (List.getElem_mem hjl)
      have hp := specParse_ev (rdOf ByteArray.empty L j) (by omega)
      cases hd : parseR (rdOf ByteArray.empty L j).data.toList with
      | none =>
        rw [hd] at hp
        obtain ⟨d, q, h1, h2, h3, h4⟩ := J1 (p + 1 + 1) (by omega) (by omega)
        refine ⟨d, q, Ev.step (fun k => by rw [spec_l1Draw.l0]) ?_, h2, h3, h4⟩
        simp only [if_pos c]
        refine Ev.bind g1 ?_
        simp only [if_pos c0]
        refine Ev.bind g2 ?_
        simp only [if_pos hj0, if_pos hj]
        refine Ev.bind hp ?_
        simp only [docR, Bool.false_eq_true, if_false]
        exact h1
      | some d =>
        rw [hd] at hp
        have hv : docV d = true := by
          unfold parseR at hd
          split at hd
          · split at hd
            · rename_i hv
              obtain rfl := Option.some.inj hd
              exact hv
            · cases hd
          · cases hd
        refine ⟨d, p + 1 + 1, Ev.step (fun k => by rw [spec_l1Draw.l0]) ?_, vdoc_of hv, by omega, by omega⟩
        simp only [if_pos c]
        refine Ev.bind g1 ?_
        simp only [if_pos c0]
        refine Ev.bind g2 ?_
        simp only [if_pos hj0, if_pos hj]
        refine Ev.bind hp ?_
        simp only [docR, if_true]
        exact Ev.now _
    · obtain ⟨d, q, h1, h2, h3, h4⟩ := J1 (p + 1) (by omega) (by omega)
      refine ⟨d, q, Ev.step (fun k => by rw [spec_l1Draw.l0]) ?_, h2, h3, h4⟩
      simp only [if_pos c]
      refine Ev.bind g1 ?_
      simp only [if_neg c0]
      exact h1
theorem draw_ev {b : List Int} (hb : Code b) (p : Int) (hp0 : 0 ≤ p) (hp : p ≤ 100000000) : ∃ (d : SDoc) (q : Int), Ev (fun k => spec_l1Draw.f k b p) (d.f0, d.f1, d.f2, d.f3, q) ∧ VDoc d ∧ p ≤ q ∧ q ≤ p + 20000 := by
  have key : ∀ L : List ByteArray, 0 < L.length → (∀ s ∈ L, s.size ≤ 1000) → ∃ (d : SDoc) (q : Int), Ev (fun k => spec_l1Draw.l0 k L 0 b p) (d.f0, d.f1, d.f2, d.f3, q) ∧ VDoc d ∧ p ≤ q ∧ q ≤ p + 20000 := by
    intro L h1 h2
    obtain ⟨d, q, h, v, m1, m2⟩ := draw_loop hb L h1 h2 3 0 (by omega) p hp0 (by omega)
    exact ⟨d, q, h, v, m1, by omega⟩
  have : ∀ L : List ByteArray, (0 < L.length ∧ ∀ s ∈ L, s.size ≤ 1000) → (∀ k, spec_l1Draw.f k b p = spec_l1Draw.l0 k L 0 b p) → ∃ (d : SDoc) (q : Int), Ev (fun k => spec_l1Draw.f k b p) (d.f0, d.f1, d.f2, d.f3, q) ∧ VDoc d ∧ p ≤ q ∧ q ≤ p + 20000 := by
    intro L hL hf
    obtain ⟨d, q, h, v⟩ := key L hL.1 hL.2
    exact ⟨d, q, Ev.congr hf h, v⟩
  refine this _ ?_ (fun k => rfl)
  decide +kernel
end Go.Proofs.Ytdhdfmmefghijab.Pure
namespace Go.Proofs.Ytdhdfmmefghijab.Pure
open Go.RowKit Go.Proofs.Ytdhdfmmefghijab.P Go.Proofs.YtdhdfmmefghijabW.PrintWords Go.Proofs.YtdhdfmmefghijabW.PrintLast Go.Proofs.YtdhdfmmefghijabW.PrintMore
set_option linter.unusedVariables false
set_option linter.unusedSimpArgs false
structure LP (B I : Nat) (l : List SRow) : Prop where
  ne : 0 < l.length
  hd : ∀ r, l.head? = some r → r.f0 = 0
  rows : ∀ r ∈ l, 0 ≤ r.f0 ∧ r.f0 ≤ 9 * (I : Int) ∧ r.f1.data.toList.all rowB = true
  bz : bsz l ≤ B
theorem bsz_app : ∀ a b : List SRow, bsz (a ++ b) = bsz a + bsz b
  | [], b => by simp [bsz]
  | r :: a, b => by simp [bsz, bsz_app a b]; omega
theorem bsz_map {f : SRow → SRow} (hf : ∀ r, (f r).f1 = r.f1) : ∀ a : List SRow, bsz (a.map f) = bsz a
  | [] => rfl
  | r :: a => by simp [bsz, bsz_map hf a, hf]
theorem LP.mono {B B' I I' : Nat} {l : List SRow} (h : LP B I l) (hB : B ≤ B') (hI : I ≤ I') : LP B' I' l := ⟨h.ne, h.hd, fun r hr => by have := h.rows r hr; exact ⟨this.1, by omega, this.2.2⟩, Nat.le_trans h.bz hB⟩
theorem data_app (a b : ByteArray) : (a ++ b).data.toList = a.data.toList ++ b.data.toList := by simp
theorem LP.cat {B B' I : Nat} {a b : List SRow} (ha : LP B I a) (hb : LP B' I b) : LP (B + B') I (catO a b) ∧ (catO a b).length + 1 = a.length + b.length ∧ ∃ pre r s t, a = pre ++ [r] ∧ b = s :: t ∧ catO a b = pre ++ ⟨r.f0, r.f1 ++ s.f1⟩ :: t := by
  rcases List.eq_nil_or_concat a with rfl | ⟨pre, r, e⟩
  · have := ha.ne; simp at this
  · rw [List.concat_eq_append] at e
    cases b with
    | nil => have := hb.ne; simp at this
    | cons s t =>
      subst e
      have e := catO_eq r s t pre
      refine ⟨?_, by rw [e]; simp; omega, pre, r, s, t, rfl, rfl, e⟩
      rw [e]
      have hr := ha.rows r (by simp)
      have hs := hb.rows s (by simp)
      have z1 := ha.bz
      have z2 := hb.bz
      rw [bsz_app] at z1
      simp only [bsz] at z1 z2
      refine ⟨by simp; omega, ?_, ?_, ?_⟩
      · intro x hx
        cases pre with
        | nil =>
          simp only [List.nil_append, List.head?_cons, Option.some.injEq] at hx
          subst hx
          exact ha.hd r rfl
        | cons p pre =>
          simp only [List.cons_append, List.head?_cons, Option.some.injEq] at hx
          subst hx
          exact ha.hd p rfl
      · intro x hx
        rcases List.mem_append.1 hx with hx | hx
        · exact ha.rows x (by simp [hx])
        · rcases List.mem_cons.1 hx with rfl | hx
          · refine ⟨hr.1, hr.2.1, ?_⟩
            show ((r.f1 ++ s.f1).data.toList).all rowB = true
            rw [data_app, List.all_append, hr.2.2, hs.2.2]
            rfl
          · exact hb.rows x (by simp [hx])
      · rw [bsz_app]
        simp only [bsz]
        rw [ByteArray.size_append]
        omega
theorem LP.nest {B I : Nat} {l : List SRow} (h : LP B I l) (n : Int) (h0 : 0 ≤ n) (h9 : n ≤ 9) (hI : I ≤ 1000) : LP B (I + 1) (nestO n l) ∧ (nestO n l).length = l.length := by
  cases l with
  | nil => have := h.ne; simp at this
  | cons r t =>
    refine ⟨⟨by simp [nestO], ?_, ?_, ?_⟩, by simp [nestO]⟩
    · intro x hx
      simp only [nestO, List.head?_cons, Option.some.injEq] at hx
      subst hx
      exact h.hd r rfl
    · intro x hx
      rcases List.mem_cons.1 hx with rfl | hx
      · have := h.rows x (by simp); exact ⟨this.1, by omega, this.2.2⟩
      · obtain ⟨y, hy, rfl⟩ := List.mem_map.1 hx
        have := h.rows y (by simp [hy])
        simp only [inR]
        rw [w64 (by omega) (by omega)]
        exact ⟨by omega, by omega, this.2.2⟩
    · simp only [nestO, bsz]
      rw [bsz_map (f := inR n) (fun _ => rfl)]
      exact h.bz
theorem rowsOk_of {l : List SRow} (h : ∀ r ∈ l, rowOk r = true) : ∀ i, (i = 0 → ∀ r, l.head? = some r → r.f0 = 0) → rowsOk i l = true := by
  cases l with
  | nil => intro i _; rfl
  | cons r t =>
    intro i hi
    rw [rowsOk, rowsOk_all, h r (by simp), Bool.and_true, Bool.and_eq_true]
    refine ⟨?_, List.all_eq_true.2 fun x hx => h x (by simp [hx])⟩
    by_cases c : i = 0
    · have := hi c r rfl; simp [this]
    · simp [c]
theorem LP.lay {B I : Nat} {l : List SRow} (h : LP B I l) (hI : I ≤ 44) (hB : B < 2000) (hl : l.length ≤ 200) : layV l = true := by
  rw [layV, Bool.and_eq_true, Bool.and_eq_true]
  refine ⟨rowsOk_of (fun r hr => ?_) 0 (fun _ => h.hd), by simpa using h.ne, by simpa using hl⟩
  have := h.rows r hr
  have hz := bsz_mem hr
  have hz2 := h.bz
  rw [rowOk, Bool.and_eq_true, Bool.and_eq_true, rowT, Bool.and_eq_true]
  exact ⟨decide_eq_true this.1, decide_eq_true (by omega), this.2.2, decide_eq_true (by omega)⟩
theorem LP.sizes {B I : Nat} {l : List SRow} (h : LP B I l) : ∀ r ∈ l, r.f1.size ≤ B := fun r hr => Nat.le_trans (bsz_mem hr) h.bz
theorem LP.one {B I : Nat} {t : ByteArray} (ht : t.size ≤ B) (hb : t.data.toList.all rowB = true) : LP B I [⟨0, t⟩] :=
  ⟨by simp, fun r hr => by simp at hr; subst hr; rfl, fun r hr => by rw [List.mem_singleton.1 hr]; exact ⟨Int.le_refl _, by show (0 : Int) ≤ _; omega, hb⟩, by simpa [bsz] using ht⟩
theorem LP.two {B I : Nat} : LP B I [⟨0, ⟨#[]⟩⟩, ⟨0, ⟨#[]⟩⟩] :=
  ⟨by simp, fun r hr => by simp at hr; subst hr; rfl, fun r hr => by
    have : r = ⟨0, ⟨#[]⟩⟩ := by simpa using hr
    rw [this]
    exact ⟨Int.le_refl _, by show (0 : Int) ≤ _; omega, rfl⟩, by show 0 + (0 + 0) ≤ B; omega⟩
theorem specCat_of {B B' I : Nat} {a b : List SRow} (ha : LP B I a) (hb : LP B' I b) (hB : B + B' ≤ 1000000) (hl : a.length + b.length ≤ 1000000) : spec_l2Cat.f a b = some (catO a b) := by
  obtain ⟨_, _, pre, r, s, t, e1, e2, e3⟩ := ha.cat hb
  have h1 := ha.sizes r (by rw [e1]; simp)
  have h2 := hb.sizes s (by rw [e2]; simp)
  rw [e3]
  subst e1 e2
  simp at hl
  exact specCat_eq pre t r s (by omega) (by omega)
theorem rowB_good {b : UInt8} (h : goodB b = true) : rowB b = true := by simp [rowB, h]
theorem tv_rows {t : ByteArray} (h : tv t = true) : t.data.toList.all rowB = true ∧ t.size ≤ 12 := by
  simp only [tv, Bool.and_eq_true, decide_eq_true_eq] at h
  exact ⟨List.all_eq_true.2 fun b hb => rowB_good (List.all_eq_true.1 h.2.2 b hb), h.2.1⟩
end Go.Proofs.Ytdhdfmmefghijab.Pure
namespace Go.Proofs.Ytdhdfmmefghijab.P
open Go.RowKit Go.Proofs.YtdhdfmmefghijabW.PrintWords Go.Proofs.YtdhdfmmefghijabW.PrintLast Go.Proofs.YtdhdfmmefghijabW.PrintMore
attribute [local go_sem] max2_int min2_int max_two min_two max_three min_three max_four min_four
set_option linter.unusedVariables false
set_option linter.unusedSimpArgs false
mutual
def impl_openRows.j0:Nat→Int→Bool→Int→Int→ByteArray→List (SDoc)→Option ((List (SRow)))
 | 0,_,_,_,_,_,_=>none
 | k+1,x4,x11,x785000,x785001,x785002,x785003=>if x11=true then (some (([(⟨0,(⟨#[]⟩:ByteArray)⟩:SRow),(⟨0,(⟨#[]⟩:ByteArray)⟩:SRow)]:List (SRow)))) else (if x4=6 then (if 0 < (x785003.length:Int) then ((impl_openRows.f k ((rd_TDoc x785003 0).f0) ((rd_TDoc x785003 0).f1) ((rd_TDoc x785003 0).f2) ((rd_TDoc x785003 0).f3)).bind fun t792=>((impl_nestRows.f k x785001 t792).bind fun t795=>(some t795))) else (none)) else (if x4=7 then (if 0 < (x785003.length:Int) then ((impl_openRows.f k ((rd_TDoc x785003 0).f0) ((rd_TDoc x785003 0).f1) ((rd_TDoc x785003 0).f2) ((rd_TDoc x785003 0).f3)).bind fun t799=>(if 1 < (x785003.length:Int) then ((impl_openRows.f k ((rd_TDoc x785003 1).f0) ((rd_TDoc x785003 1).f1) ((rd_TDoc x785003 1).f2) ((rd_TDoc x785003 1).f3)).bind fun t803=>((impl_catRows.f t799 t803).bind fun t806=>(some t806))) else (none))) else (none)) else (if x4=8 then (if 0 < (x785003.length:Int) then ((impl_openRows.f k ((rd_TDoc x785003 0).f0) ((rd_TDoc x785003 0).f1) ((rd_TDoc x785003 0).f2) ((rd_TDoc x785003 0).f3)).bind fun t810=>(some t810)) else (none)) else (some (([(⟨0,(⟨#[]⟩:ByteArray)⟩:SRow)]:List (SRow)))))))
def impl_openRows.f:Nat→Int→Int→ByteArray→List (SDoc)→Option ((List (SRow)))
 | 0,_,_,_,_=>none
 | k+1,a0_0,a0_1,a0_2,l0_3=>if a0_0=2 then (some (([(⟨0,a0_2⟩:SRow)]:List (SRow)))) else (if a0_0=3 then (impl_openRows.j0 k a0_0 (a0_0 == 3) a0_0 a0_1 a0_2 l0_3) else (if a0_0=4 then (impl_openRows.j0 k a0_0 (a0_0 == 4) a0_0 a0_1 a0_2 l0_3) else (impl_openRows.j0 k a0_0 (a0_0 == 5) a0_0 a0_1 a0_2 l0_3)))
end
def impl_openRows.T9:Bool × List (List Nat × List Nat):=(true,[([],[]),([0],[0]),([],[]),([2],[2]),([3],[3]),([4],[4]),([5],[5]),([1,6,6],[1,6]),([7,7,0,1,2,3,4,5,6,7],[7])])
def impl_openRows.B9:List Nat:=[0,1,0,4,12,28,60,127,255]
theorem impl_openRows.tab9:rtab .any (opsOf Try.f51 9)=impl_openRows.T9:=by kernel_rfl
theorem impl_openRows.bits9:waitsOk impl_openRows.T9.2 impl_openRows.B9=true:=by kernel_rfl
def impl_openRows.T11:Bool × List (List Nat × List Nat):=(true,[([],[]),([0],[0]),([1],[1]),([2],[2]),([3],[3]),([],[]),([5],[5]),([6],[6]),([7],[7]),([8,4],[8]),([4,9,9],[4,9]),([10,10,0,1,2,3,4,5,6,7,8,9,10],[10])])
def impl_openRows.B11:List Nat:=[0,1,3,7,15,0,32,96,224,511,1023,2047]
theorem impl_openRows.tab11:rtab .any (opsOf Try.f51 11)=impl_openRows.T11:=by kernel_rfl
theorem impl_openRows.bits11:waitsOk impl_openRows.T11.2 impl_openRows.B11=true:=by kernel_rfl
end Go.Proofs.Ytdhdfmmefghijab.P
