/- Written for this claim by a program of this session (a turned copy of the print): Go functions as Lean functions, and that the Go code comes to just these answers; or a statement proved out of them. No condition. -/
import Derived.Test.YtbonkedecfjmdaaZ2
import Derived.Test.YtbonkedecfjmdaaZ3

namespace Go.Proofs.Ytbonkedecfjmdaa.P
open Go.RowKit Go.Proofs.YtbonkedecfjmdaaW.PrintWords Go.Proofs.YtbonkedecfjmdaaW.PrintLast Go.Proofs.YtbonkedecfjmdaaW.PrintMore Go.Proofs.Ytbonkedecfjmdaa.X
attribute [local go_sem] Q2a Q2b Q2s Q2q Q1z Q1y Q19 Q2c Q2r Q2p add64
set_option linter.unusedVariables false
set_option linter.unusedSimpArgs false
attribute [local go_sem high] eqA27
mutual
def Q0l.l0:Nat→List (List (S27))→Int→Int→Option (Int)
 | 0,_,_,_=>none
 | k+1,x0,x3,x4=>if x4<(x0.length:Int) then (if 0≤x4 then (Q0l.l0 k x0 (wrap64 (x3+((Q0e x0 x4).length:Int))) (wrap64 (x4+1))) else (none)) else (if (x0.length:Int)>2000 then (Q0l.j1 k x0 true) else (Q0l.j1 k x0 (decide (x3>20000))))
def Q0l.j1:Nat→List (List (S27))→Bool→Option (Int)
 | 0,_,_=>none
 | k+1,x0,x26=>if x26=true then (some 3) else (Q0l.l1 k x0 0)
def Q0l.l1:Nat→List (List (S27))→Int→Option (Int)
 | 0,_,_=>none
 | k+1,x0,x5=>if x5<(x0.length:Int) then (if 0≤x5 then (if ((Q0e x0 x5).length:Int)<2 then (Q0l.j3 k x0 x5 true) else ((Q0s.f k (Q0e x0 x5)).bind fun yB=>(Q0l.j3 k x0 x5 (!yB)))) else (none)) else (some 0)
def Q0l.j3:Nat→List (List (S27))→Int→Bool→Option (Int)
 | 0,_,_,_=>none
 | k+1,x0,x5,x46=>if x46=true then (some 2) else (Q0l.l2 k x0 x5 1)
def Q0l.l2:Nat→List (List (S27))→Int→Int→Option (Int)
 | 0,_,_,_=>none
 | k+1,x0,x5,x6=>if 0≤x5 then (if x5<(x0.length:Int) then (if x6<((Q0e x0 x5).length:Int) then (if 0≤x6 then (if 0≤(wrap64 (x6 - 1)) then (if (wrap64 (x6 - 1))<((Q0e x0 x5).length:Int) then (if (((Q0a (Q0e x0 x5) x6).f0)==((Q0a (Q0e x0 x5) (wrap64 (x6 - 1))).f0)&&(((Q0a (Q0e x0 x5) x6).f1)==((Q0a (Q0e x0 x5) (wrap64 (x6 - 1))).f1)&&(((Q0a (Q0e x0 x5) x6).f2)==((Q0a (Q0e x0 x5) (wrap64 (x6 - 1))).f2))))=true then (some 2) else (Q0l.l2 k x0 x5 (wrap64 (x6+1)))) else (none)) else (none)) else (none)) else (Q0l.l1 k x0 (wrap64 (x5+1)))) else (none)) else (none)
end
def Q0l.f (k:Nat) (l0:List (List (S27))):Option (Int):=Q0l.l0 k l0 0 0
theorem Q0l.Q1a:∀ k,(∀ y0 y1 y2,LeO (Q0l.l0 k y0 y1 y2) (Q0l.l0 (k+1) y0 y1 y2))∧(∀ y0 y1,LeO (Q0l.j1 k y0 y1) (Q0l.j1 (k+1) y0 y1))∧(∀ y0 y1,LeO (Q0l.l1 k y0 y1) (Q0l.l1 (k+1) y0 y1))∧(∀ y0 y1 y2,LeO (Q0l.j3 k y0 y1 y2) (Q0l.j3 (k+1) y0 y1 y2))∧(∀ y0 y1 y2,LeO (Q0l.l2 k y0 y1 y2) (Q0l.l2 (k+1) y0 y1 y2))
 | 0=>⟨fun _ _ _ r h=>by simp [Q0l.l0] at h,fun _ _ r h=>by simp [Q0l.j1] at h,fun _ _ r h=>by simp [Q0l.l1] at h,fun _ _ _ r h=>by simp [Q0l.j3] at h,fun _ _ _ r h=>by simp [Q0l.l2] at h⟩
 | k+1=>by
  obtain ⟨xD,yD,zD,aE,bE⟩:=Q0l.Q1a k
  refine ⟨?_,?_,?_,?_,?_⟩
  all_goals
   intros
   first|unfold Q0l.l0|unfold Q0l.j1|unfold Q0l.l1|unfold Q0l.j3|unfold Q0l.l2
   repeat' with_reducible first|exact xD _ _ _|exact yD _ _|exact zD _ _|exact aE _ _ _|exact bE _ _ _|exact Q0s.mono _ _|exact LeO.refl _|exact LeO.none _|refine LeO.ite ?_ ?_|refine LeO.bind ?_ (fun _ => ?_)
theorem Q0l.mono:∀ a0 k,LeO (Q0l.f k a0) (Q0l.f (k+1) a0):=by
 intro a0 k
 obtain ⟨xD,yD,zD,aE,bE⟩:=Q0l.Q1a k
 unfold Q0l.f
 repeat' with_reducible first|exact xD _ _ _|exact yD _ _|exact zD _ _|exact aE _ _ _|exact bE _ _ _|exact Q0s.mono _ _|exact LeO.refl _|exact LeO.none _|refine LeO.ite ?_ ?_|refine LeO.bind ?_ (fun _ => ?_)
set_option maxHeartbeats 8000000 in
set_option maxRecDepth 100000 in
theorem Q0l.calls (k:Nat) (A0:Option Addr) (c0:Nat) (l0:List (List (S27))) (r:Int) (w:World) (pE:Kd.C (Kd.slice 27 k27) w A0 l0.length l0) (qE:l0.length≤c0) (h:Q0l.f k l0=some r) :
  Calls Try.prog 27 #[.slice A0 l0.length c0] w fun e w'=>e=.returned (.int .i64 r)∧Below w.heap.size w w':=by
 have bF:=Try.underlying27
 have zB:=AM pE
 have fF:=AM qE
 clear pE qE
 have HB:=AM (Below.refl w.heap.size w)
 have H:(Q0l.l0 k l0 0 0)=some r:=h
 clear h
 have H':=AM H
 clear H
 go_enter Try.func27,Try.ntmps27
 go_wp2
 repeat (go_quiet (fail);try go_wp2)
 go_loopg [3,4] k (fun kq v3 v4 w'=>∃ (aC:Int) (dB:Int),v3=.int .i64 aC∧v4=.int .i64 dB∧Aside0 (Q0l.l0 kq l0 aC dB=some r)∧Aside0 (kq≤k)∧Aside0 (Below w.heap.size w w'))
 case atStart=>exact ⟨(0),(0),rS,rS,H',⟨Nat.le_refl _⟩,⟨ bH HB⟩⟩
 case round =>
  clear H'
  obtain ⟨aC,dB,rfl,rfl,HA,jC,HB⟩:=hrel
  cases gk with
  | zero=>exact absurd HA.out (by simp [Q0l.l0])
  | succ k1 =>
   have H:=HA.out;clear HA
   simp only [Q0l.l0] at H
   apply iC H<;>clear H<;>intro cE H
   ·apply iN H;clear H;intro cF H
    ·have H':=AM H
     clear H
     have pC:0≤(dB:Int):=pD
     have qC:dB<(l0.length:Int):=pD
     obtain ⟨sE,dE,eE,fE,oB,pB,qB⟩:=Q30 zB.out dB pC qC
     cases fE
     replace oB:=hW HB oB
     have sD:=AM qB
     have tD:=AM pB
     clear qB pB;replace pC:=eq_true pC;replace qC:=eq_true qC
     go_wp2
     repeat (go_quiet (fail);try go_wp2)
     go_roundg k1
     case measure=>have:=jC.out;omega
     case rel=>exact ⟨(wrap64 (aC+((Q0e l0 dB).length:Int))),(wrap64 (dB+1)),rS,rS,H',⟨by have:=jC.out;omega⟩,⟨ bH HB⟩⟩
   ·have gE:=AM H
    clear H
    go_upto_region 6 with (fail)
    repeat (go_quiet (fail);go_upto_region 6 with (fail))
    go_cut [26] (fun dF wc=>∃ (kq:Nat) (rB:Bool),dF=.bool rB∧Aside0 (Q0l.j1 kq l0 rB=some r)∧Aside0 (kq≤k1)∧Aside0 (Below w.heap.size w wc))
    case first =>
     have H:=gE.out;clear gE
     by_cases c5:(l0.length:Int)>2000
     ·rw [if_pos c5] at H
      have bC:=decide_eq_true c5
      have hE:decide (2000<l0.length)=true:=decide_eq_true (by omega)
      clear c5
      (first|rw [bC]|(simp only [Q1r,Q13];rw [bC])|skip)
      have H':=AM H
      clear H
      go_wp2
      repeat (go_quiet (fail);try go_wp2)
      go_meet
      case rel=>exact ⟨_,(true),rS,H',⟨by have:=jC.out;first|omega|exact Nat.le_refl _⟩,⟨ bH HB⟩⟩
     ·rw [if_neg c5] at H
      have bC:=decide_eq_false c5
      have hE:decide (2000<l0.length)=false:=decide_eq_false (by omega)
      clear c5
      (first|rw [bC]|(simp only [Q1r,Q13];rw [bC])|skip)
      have H':=AM H
      clear H
      go_wp2
      repeat (go_quiet (fail);try go_wp2)
      go_meet
      case rel=>exact ⟨_,(decide (aC>20000)),rS,H',⟨by have:=jC.out;first|omega|exact Nat.le_refl _⟩,⟨ bH HB⟩⟩
    case rest =>
     clear gE cE
     obtain ⟨kq,rB,rfl,HA,fD,HB⟩:=hcut
     cases kq with
     | zero=>exact absurd HA.out (by simp [Q0l.j1])
     | succ kj3 =>
      have H:=HA.out;clear HA
      simp only [Q0l.j1] at H
      by_cases c6:rB=true
      ·subst c6
       replace H:=iT H
       obtain rfl:=Option.some.inj H
       go_wp2
       repeat (go_quiet (fail);try go_wp2)
       go_ret
       exact ⟨rE,bH HB⟩
      ·replace c6:=Bool.eq_false_iff.mpr c6
       subst c6
       replace H:=iF H
       have H':=AM H
       clear H
       go_wp2
       repeat (go_quiet (fail);try go_wp2)
       go_loopg [5] kj3 (fun kq v5 w'=>∃ (aA:Int),v5=.int .i64 aA∧Aside0 (Q0l.l1 kq l0 aA=some r)∧Aside0 (kq≤kj3)∧Aside0 (Below w.heap.size w w'))
       case atStart=>exact ⟨(0),rS,H',⟨Nat.le_refl _⟩,⟨ bH HB⟩⟩
       case round =>
        clear H'
        obtain ⟨aA,rfl,HA,gD,HB⟩:=hrel
        cases gk with
        | zero=>exact absurd HA.out (by simp [Q0l.l1])
        | succ k3 =>
         have H:=HA.out;clear HA
         simp only [Q0l.l1] at H
         apply iC H<;>clear H<;>intro iE H
         ·have jE:=AM H
          clear H
          go_upto_region 11 with (fail)
          repeat (go_quiet (fail);go_upto_region 11 with (fail))
          go_cut [46] (fun eF wc=>∃ (kq:Nat) (sB:Bool),eF=.bool sB∧Aside0 (Q0l.j3 kq l0 aA sB=some r)∧Aside0 (kq≤k3)∧Aside0 (Below w.heap.size w wc))
          case first =>
           have H:=jE.out;clear jE
           apply iN H;clear H;intro iD H
           ·(first|rw [iD]|(simp only [Q1r,Q13];rw [iD])|skip)
            by_cases hD:((Q0e l0 aA).length:Int)<2
            ·rw [if_pos hD] at H
             have jD:=decide_eq_true hD
             have kD:decide ((Q0e l0 aA).length<2)=true:=decide_eq_true (by omega)
             clear hD
             have H':=AM H
             clear H
             have eB:0≤(aA:Int):=pD
             have fB:aA<(l0.length:Int):=pD
             obtain ⟨oC,rC,tC,uC,iA,jA,kA⟩:=Q30 zB.out aA eB fB
             cases uC
             replace iA:=hW HB iA
             have kC:=AM kA
             have lC:=AM jA
             clear kA jA;replace eB:=eq_true eB;replace fB:=eq_true fB
             go_wp2
             repeat (go_quiet (fail);try go_wp2)
             go_meet
             case rel=>exact ⟨_,(true),rS,H',⟨by have:=jC.out;have:=fD.out;have:=gD.out;first|omega|exact Nat.le_refl _⟩,⟨ bH HB⟩⟩
            ·rw [if_neg hD] at H
             have jD:=decide_eq_false hD
             have kD:decide ((Q0e l0 aA).length<2)=false:=decide_eq_false (by omega)
             clear hD
             obtain ⟨yB,kE,H⟩:=bS H
             have H':=AM H
             clear H
             have eB:0≤(aA:Int):=pD
             have fB:aA<(l0.length:Int):=pD
             obtain ⟨oC,rC,tC,uC,iA,jA,kA⟩:=Q30 zB.out aA eB fB
             cases uC
             replace iA:=hW HB iA
             have kC:=AM kA
             have lC:=AM jA
             clear kA jA;replace eB:=eq_true eB;replace fB:=eq_true fB
             have vC:0≤(aA:Int):=pD
             have wC:aA<(l0.length:Int):=pD
             obtain ⟨lD,lE,mE,nE,yA,tB,uB⟩:=Q30 zB.out aA vC wC
             obtain rfl:oC=lD:=(by injection nE)
             replace yA:=hW HB yA
             have zA:=AM uB
             have aB:=AM tB
             clear uB tB;replace vC:=eq_true vC;replace wC:=eq_true wC
             have ea_:=Option.some.inj (iA.symm.trans yA)
             injection ea_ with ea_ en_ ec_
             subst ea_
             subst ec_
             clear en_
             go_wp2_with (first|(go_at_call 22;(with_reducible refine (Q0s.calls k3 _ _ (Q0e l0 aA) yB _ ?side1 ?side2 kE.out).mono ?_);(case side1=>exact sC zA HB);(case side2=>exact aB.out);rintro e tE ⟨rfl,hb⟩;replace HB:=kH HB hb;clear hb))
             repeat (go_quiet (first|(go_at_call 22;(with_reducible refine (Q0s.calls k3 _ _ (Q0e l0 aA) yB _ ?side1 ?side2 kE.out).mono ?_);(case side1=>exact sC zA HB);(case side2=>exact aB.out);rintro e tE ⟨rfl,hb⟩;replace HB:=kH HB hb;(try clear hb);(try clear hb2);(try clear hk);(try clear hi)));try go_wp2_with (first|(go_at_call 22;(with_reducible refine (Q0s.calls k3 _ _ (Q0e l0 aA) yB _ ?side1 ?side2 kE.out).mono ?_);(case side1=>exact sC zA HB);(case side2=>exact aB.out);rintro e tE ⟨rfl,hb⟩;replace HB:=kH HB hb;(try clear hb);(try clear hb2);(try clear hk);(try clear hi))))
             go_meet
             case rel=>exact ⟨_,(!yB),rS,H',⟨by have:=jC.out;have:=fD.out;have:=gD.out;first|omega|exact Nat.le_refl _⟩,⟨ bH HB⟩⟩
          case rest =>
           clear jE iE
           obtain ⟨kq,sB,rfl,HA,uD,HB⟩:=hcut
           cases kq with
           | zero=>exact absurd HA.out (by simp [Q0l.j3])
           | succ kj7 =>
            have H:=HA.out;clear HA
            simp only [Q0l.j3] at H
            by_cases vD:sB=true
            ·subst vD
             replace H:=iT H
             obtain rfl:=Option.some.inj H
             go_wp2
             repeat (go_quiet (fail);try go_wp2)
             go_ret
             exact ⟨rE,bH HB⟩
            ·replace vD:=Bool.eq_false_iff.mpr vD
             subst vD
             replace H:=iF H
             have H':=AM H
             clear H
             go_wp2
             repeat (go_quiet (fail);try go_wp2)
             go_loopg [6] kj7 (fun kq v6 w'=>∃ (bA:Int),v6=.int .i64 bA∧Aside0 (Q0l.l2 kq l0 aA bA=some r)∧Aside0 (kq≤kj7)∧Aside0 (Below w.heap.size w w'))
             case atStart=>exact ⟨(1),rS,H',⟨Nat.le_refl _⟩,⟨ bH HB⟩⟩
             case round =>
              clear H'
              obtain ⟨bA,rfl,HA,wD,HB⟩:=hrel
              cases gk with
              | zero=>exact absurd HA.out (by simp [Q0l.l2])
              | succ k5 =>
               have H:=HA.out;clear HA
               simp only [Q0l.l2] at H
               apply iN H;clear H;intro uE H
               ·apply iN H;clear H;intro vE H
                ·apply iC H<;>clear H<;>intro wE H
                 ·apply iN H;clear H;intro xE H
                  ·obtain ⟨cA,vB⟩:∃ j_:Int,(wrap64 (bA - 1))=j_:=⟨_,rfl⟩
                   replace H:(if 0≤(cA) then (if (cA)<((Q0e l0 aA).length:Int) then (if (((Q0a (Q0e l0 aA) bA).f0)==((Q0a (Q0e l0 aA) (cA)).f0)&&(((Q0a (Q0e l0 aA) bA).f1)==((Q0a (Q0e l0 aA) (cA)).f1)&&(((Q0a (Q0e l0 aA) bA).f2)==((Q0a (Q0e l0 aA) (cA)).f2))))=true then (some 2) else (Q0l.l2 k5 l0 aA (wrap64 (bA+1)))) else (none)) else (none))=some r:=by first|(rw [vB] at H;exact H)|(simp only [vB] at H ⊢;exact H)
                   have oE:(IntKind.i64.wrap (bA - 1))=cA:=(Q1r _).trans vB
                   apply iN H;clear H;intro yE H
                   ·apply iN H;clear H;intro zE H
                    ·by_cases cC:(((Q0a (Q0e l0 aA) bA).f0)==((Q0a (Q0e l0 aA) (cA)).f0)&&(((Q0a (Q0e l0 aA) bA).f1)==((Q0a (Q0e l0 aA) (cA)).f1)&&(((Q0a (Q0e l0 aA) bA).f2)==((Q0a (Q0e l0 aA) (cA)).f2))))=true
                     ·rw [if_pos cC] at H
                      have mD:(((Q0a (Q0e l0 aA) bA).f0)==((Q0a (Q0e l0 aA) (cA)).f0)&&(((Q0a (Q0e l0 aA) bA).f1)==((Q0a (Q0e l0 aA) (cA)).f1)&&(((Q0a (Q0e l0 aA) bA).f2)==((Q0a (Q0e l0 aA) (cA)).f2))))=true:=cC
                      (try (have nD:decide (((Q0a (Q0e l0 aA) bA).f0)=((Q0a (Q0e l0 aA) (cA)).f0)&&(((Q0a (Q0e l0 aA) bA).f1)==((Q0a (Q0e l0 aA) (cA)).f1)&&(((Q0a (Q0e l0 aA) bA).f2)==((Q0a (Q0e l0 aA) (cA)).f2))))=true:=by simpa using cC))
                      (try (have oD:(((Q0a (Q0e l0 aA) bA).f0)==((Q0a (Q0e l0 aA) (cA)).f0)&&(((Q0a (Q0e l0 aA) bA).f1)==((Q0a (Q0e l0 aA) (cA)).f1)&&(((Q0a (Q0e l0 aA) bA).f2)==((Q0a (Q0e l0 aA) (cA)).f2))))=true:=by simpa using cC))
                      clear cC
                      obtain rfl:=Option.some.inj H
                      have vA:0≤(aA:Int):=pD
                      have wA:aA<(l0.length:Int):=pD
                      obtain ⟨xA,dC,eC,fC,dA,eA,fA⟩:=Q30 zB.out aA vA wA
                      cases fC
                      replace dA:=hW HB dA
                      have wB:=AM fA
                      have xB:=AM eA
                      clear fA eA;replace vA:=eq_true vA;replace wA:=eq_true wA
                      have gB:0≤(aA:Int):=pD
                      have hB:aA<(l0.length:Int):=pD
                      obtain ⟨gC,xC,yC,zC,gA,lA,mA⟩:=Q30 zB.out aA gB hB
                      obtain rfl:xA=gC:=(by injection zC)
                      replace gA:=hW HB gA
                      have bB:=AM mA
                      have mC:=AM lA
                      clear mA lA;replace gB:=eq_true gB;replace hB:=eq_true hB
                      have ea_:=Option.some.inj (dA.symm.trans gA)
                      injection ea_ with ea_ en_ ec_
                      subst ea_
                      subst ec_
                      clear en_
                      have iB:0≤(bA:Int):=pD
                      have jB:bA<((Q0e l0 aA).length:Int):=pD
                      obtain ⟨qD,aD,nA,oA,pA⟩:=Q2i bB.out bA iB jB
                      cases aD
                      replace nA:=hW HB nA;replace oA:=hW HB oA;replace pA:=hW HB pA;replace iB:=eq_true iB;replace jB:=eq_true jB
                      have kB:0≤(aA:Int):=pD
                      have lB:aA<(l0.length:Int):=pD
                      obtain ⟨hC,bD,cD,dD,hA,qA,rA⟩:=Q30 zB.out aA kB lB
                      obtain rfl:xA=hC:=(by injection dD)
                      replace hA:=hW HB hA
                      have cB:=AM rA
                      have nC:=AM qA
                      clear rA qA;replace kB:=eq_true kB;replace lB:=eq_true lB
                      have ea_:=Option.some.inj (dA.symm.trans hA)
                      injection ea_ with ea_ en_ ec_
                      subst ea_
                      subst ec_
                      clear en_
                      have mB:0≤((cA):Int):=pD
                      have nB:(cA)<((Q0e l0 aA).length:Int):=pD
                      obtain ⟨rD,eD,sA,tA,uA⟩:=Q2i cB.out (cA) mB nB
                      cases eD
                      replace sA:=hW HB sA;replace tA:=hW HB tA;replace uA:=hW HB uA;replace mB:=eq_true mB;replace nB:=eq_true nB
                      go_wp2
                      repeat (go_quiet (fail);try go_wp2)
                      go_ret
                      exact ⟨by first|rfl|(simp [Q24,Q23]<;>rfl)|(simp only [← vB];first|rfl|(simp [Q24,Q23]<;>rfl))|(simp [*,Q24,Q23]<;>rfl),bH HB⟩
                     ·rw [if_neg cC] at H
                      have mD:(((Q0a (Q0e l0 aA) bA).f0)==((Q0a (Q0e l0 aA) (cA)).f0)&&(((Q0a (Q0e l0 aA) bA).f1)==((Q0a (Q0e l0 aA) (cA)).f1)&&(((Q0a (Q0e l0 aA) bA).f2)==((Q0a (Q0e l0 aA) (cA)).f2))))=false:=by simpa using cC
                      (try (have nD:decide (((Q0a (Q0e l0 aA) bA).f0)=((Q0a (Q0e l0 aA) (cA)).f0)&&(((Q0a (Q0e l0 aA) bA).f1)==((Q0a (Q0e l0 aA) (cA)).f1)&&(((Q0a (Q0e l0 aA) bA).f2)==((Q0a (Q0e l0 aA) (cA)).f2))))=false:=by simpa using cC))
                      (try (have oD:(((Q0a (Q0e l0 aA) bA).f0)==((Q0a (Q0e l0 aA) (cA)).f0)&&(((Q0a (Q0e l0 aA) bA).f1)==((Q0a (Q0e l0 aA) (cA)).f1)&&(((Q0a (Q0e l0 aA) bA).f2)==((Q0a (Q0e l0 aA) (cA)).f2))))=false:=by simpa using cC))
                      (try (have aF:¬ (((Q0a (Q0e l0 aA) bA).f0)=((Q0a (Q0e l0 aA) (cA)).f0)&&(((Q0a (Q0e l0 aA) bA).f1)==((Q0a (Q0e l0 aA) (cA)).f1)&&(((Q0a (Q0e l0 aA) bA).f2)==((Q0a (Q0e l0 aA) (cA)).f2)))):=by simpa using cC))
                      clear cC
                      have H':=AM H
                      clear H
                      have vA:0≤(aA:Int):=pD
                      have wA:aA<(l0.length:Int):=pD
                      obtain ⟨xA,dC,eC,fC,dA,eA,fA⟩:=Q30 zB.out aA vA wA
                      cases fC
                      replace dA:=hW HB dA
                      have wB:=AM fA
                      have xB:=AM eA
                      clear fA eA;replace vA:=eq_true vA;replace wA:=eq_true wA
                      have gB:0≤(aA:Int):=pD
                      have hB:aA<(l0.length:Int):=pD
                      obtain ⟨gC,xC,yC,zC,gA,lA,mA⟩:=Q30 zB.out aA gB hB
                      obtain rfl:xA=gC:=(by injection zC)
                      replace gA:=hW HB gA
                      have bB:=AM mA
                      have mC:=AM lA
                      clear mA lA;replace gB:=eq_true gB;replace hB:=eq_true hB
                      have ea_:=Option.some.inj (dA.symm.trans gA)
                      injection ea_ with ea_ en_ ec_
                      subst ea_
                      subst ec_
                      clear en_
                      have iB:0≤(bA:Int):=pD
                      have jB:bA<((Q0e l0 aA).length:Int):=pD
                      obtain ⟨qD,aD,nA,oA,pA⟩:=Q2i bB.out bA iB jB
                      cases aD
                      replace nA:=hW HB nA;replace oA:=hW HB oA;replace pA:=hW HB pA;replace iB:=eq_true iB;replace jB:=eq_true jB
                      have kB:0≤(aA:Int):=pD
                      have lB:aA<(l0.length:Int):=pD
                      obtain ⟨hC,bD,cD,dD,hA,qA,rA⟩:=Q30 zB.out aA kB lB
                      obtain rfl:xA=hC:=(by injection dD)
                      replace hA:=hW HB hA
                      have cB:=AM rA
                      have nC:=AM qA
                      clear rA qA;replace kB:=eq_true kB;replace lB:=eq_true lB
                      have ea_:=Option.some.inj (dA.symm.trans hA)
                      injection ea_ with ea_ en_ ec_
                      subst ea_
                      subst ec_
                      clear en_
                      have mB:0≤((cA):Int):=pD
                      have nB:(cA)<((Q0e l0 aA).length:Int):=pD
                      obtain ⟨rD,eD,sA,tA,uA⟩:=Q2i cB.out (cA) mB nB
                      cases eD
                      replace sA:=hW HB sA;replace tA:=hW HB tA;replace uA:=hW HB uA;replace mB:=eq_true mB;replace nB:=eq_true nB
                      go_wp2
                      repeat (go_quiet (fail);try go_wp2)
                      go_roundg k5
                      case measure=>have:=jC.out;have:=fD.out;have:=gD.out;have:=uD.out;have:=wD.out;omega
                      case rel=>exact ⟨(wrap64 (bA+1)),rS,H',⟨by have:=jC.out;have:=fD.out;have:=gD.out;have:=uD.out;have:=wD.out;omega⟩,⟨ bH HB⟩⟩
                 ·have H':=AM H
                  clear H
                  have vA:0≤(aA:Int):=pD
                  have wA:aA<(l0.length:Int):=pD
                  obtain ⟨xA,dC,eC,fC,dA,eA,fA⟩:=Q30 zB.out aA vA wA
                  cases fC
                  replace dA:=hW HB dA
                  have wB:=AM fA
                  have xB:=AM eA
                  clear fA eA;replace vA:=eq_true vA;replace wA:=eq_true wA
                  go_wp2
                  repeat (go_quiet (fail);try go_wp2)
                  go_roundg k5
                  case measure=>have:=jC.out;have:=fD.out;have:=gD.out;have:=uD.out;have:=wD.out;omega
                  case rel=>exact ⟨(wrap64 (aA+1)),rS,H',⟨by have:=jC.out;have:=fD.out;have:=gD.out;have:=uD.out;have:=wD.out;omega⟩,⟨ bH HB⟩⟩
         ·obtain rfl:=Option.some.inj H
          go_wp2
          repeat (go_quiet (fail);try go_wp2)
          go_ret
          exact ⟨rE,bH HB⟩
end Go.Proofs.Ytbonkedecfjmdaa.P

namespace Go.Proofs.Ytbonkedecfjmdaa.P
open Go.RowKit Go.Proofs.YtbonkedecfjmdaaW.PrintWords Go.Proofs.YtbonkedecfjmdaaW.PrintLast Go.Proofs.YtbonkedecfjmdaaW.PrintMore Go.Proofs.Ytbonkedecfjmdaa.X
attribute [local go_sem] Q2a Q2b Q2s Q2q Q1z Q1y Q19 Q2c Q2r Q2p add64
set_option linter.unusedVariables false
set_option linter.unusedSimpArgs false
def Q15.l0:Nat→List (List Int)→Int→Int→Option (Int)
 | 0,_,_,_=>none
 | k+1,x0,x3,x4=>if x4<(x0.length:Int) then (if 0≤x4 then (Q15.l0 k x0 (wrap64 (x3+((Q06 x0 x4).length:Int))) (wrap64 (x4+1))) else (none)) else (some x3)
def Q15.f (k:Nat) (l0:List (List Int)):Option (Int):=Q15.l0 k l0 0 0
theorem Q15.Q1a:∀ k,(∀ y0 y1 y2,LeO (Q15.l0 k y0 y1 y2) (Q15.l0 (k+1) y0 y1 y2))
 | 0=>fun _ _ _ r h=>by simp [Q15.l0] at h
 | k+1=>by
  have jA:=Q15.Q1a k
  ·intro y0 y1 y2
   unfold Q15.l0
   repeat' with_reducible first|exact jA _ _ _|exact LeO.refl _|exact LeO.none _|refine LeO.ite ?_ ?_|refine LeO.bind ?_ (fun _ => ?_)
theorem Q15.mono:∀ a0 k,LeO (Q15.f k a0) (Q15.f (k+1) a0):=by
 intro a0 k
 have jA:=Q15.Q1a k
 unfold Q15.f
 repeat' with_reducible first|exact jA _ _ _|exact LeO.refl _|exact LeO.none _|refine LeO.ite ?_ ?_|refine LeO.bind ?_ (fun _ => ?_)
set_option maxHeartbeats 8000000 in
set_option maxRecDepth 100000 in
theorem Q15.calls (k:Nat) (A0:Option Addr) (c0:Nat) (l0:List (List Int)) (r:Int) (w:World) (nA:Kd.C (Kd.slice 3 (Kd.int .i64)) w A0 l0.length l0) (oA:l0.length≤c0) (h:Q15.f k l0=some r) :
  Calls Try.prog 28 #[.slice A0 l0.length c0] w fun e w'=>e=.returned (.int .i64 r)∧Drawn0 w w':=by
 have rA:=AM nA
 have uA:=AM oA
 clear nA oA
 have H:(Q15.l0 k l0 0 0)=some r:=h
 clear h
 have H':=AM H
 clear H
 go_enter Try.func28,Try.ntmps28
 go_wp2
 go_loopg [3,4] k (fun kq v3 v4 w'=>∃ (dA:Int) (aA:Int),v3=.int .i64 dA∧v4=.int .i64 aA∧Aside0 (Q15.l0 kq l0 dA aA=some r)∧Aside0 (kq≤k)∧Drawn0 w w')
 case atStart=>exact ⟨(0),(0),rS,rS,H',⟨Nat.le_refl _⟩,by repeat (first|exact Drawn0.refl _|apply Drawn0.step)⟩
 case round =>
  clear H'
  obtain ⟨dA,aA,rfl,rfl,HA,pA,⟨m1,rfl⟩⟩:=hrel
  cases gk with
  | zero=>exact absurd HA.out (by simp [Q15.l0])
  | succ k1 =>
   have H:=HA.out;clear HA
   simp only [Q15.l0] at H
   apply iC H<;>clear H<;>intro sA H
   ·apply iN H;clear H;intro tA H
    ·have H':=AM H
     clear H
     have eA:0≤(aA:Int):=pD
     have fA:aA<(l0.length:Int):=pD
     obtain ⟨qA,kA,lA,mA,gA,bA,cA⟩:=Q3c rA.out aA eA fA
     cases mA
     have hA:=AM cA
     have iA:=AM bA
     clear cA bA;replace eA:=eq_true eA;replace fA:=eq_true fA
     go_wp2
     go_roundg k1
     case measure=>have:=pA.out;omega
     case rel=>exact ⟨(wrap64 (dA+((Q06 l0 aA).length:Int))),(wrap64 (aA+1)),rS,rS,H',⟨by have:=pA.out;omega⟩,by repeat (first|exact Drawn0.refl _|apply Drawn0.step)⟩
   ·obtain rfl:=Option.some.inj H
    go_wp2
    go_ret
    exact ⟨by first|rfl|(simp;done)|(simp [*];done),by repeat (first|exact Drawn0.refl _|apply Drawn0.step)⟩

def Q4a.f (dA:Int) (eA:Int) (aA:Int):Option (Bool):=if aA=0 then (if dA≥(-2147483648) then (if dA≤2147483647 then (if eA≥(-2147483648) then (some (decide (eA≤2147483647))) else (some false)) else (some false)) else (some false)) else (some false)
set_option maxHeartbeats 8000000 in
set_option maxRecDepth 100000 in
theorem Q4a.calls (dA:Int) (eA:Int) (aA:Int) (r:Bool) (w:World) (h:Q4a.f dA eA aA=some r) :
  Calls Try.prog 75 #[.agg #[.int .i64 dA,.int .i64 eA,.int .i64 aA]] w fun e w'=>e=.returned (.bool r)∧Below w.heap.size w w':=by
 have nB:=Try.underlying27
 have HB:=AM (Below.refl w.heap.size w)
 have H:(if aA=0 then (if dA≥(-2147483648) then (if dA≤2147483647 then (if eA≥(-2147483648) then (some (decide (eA≤2147483647))) else (some false)) else (some false)) else (some false)) else (some false))=some r:=h
 clear h
 by_cases c2:aA=0
 ·rw [if_pos c2] at H
  have zA:(aA==0)=true:=beq_iff_eq.mpr c2
  have aB:(aA != 0)=false:=bne_eq_false_iff_eq.mpr c2
  clear c2
  apply iC H<;>clear H<;>intro oB H
  ·apply iC H<;>clear H<;>intro pB H
   ·apply iC H<;>clear H<;>intro qB H
    ·obtain rfl:=Option.some.inj H
     go_enter Try.func75,Try.ntmps75
     go_wp2_with (first|((with_reducible refine Q0i (N:=1) rfl ?_);refine bE 1 #[.int .i64 dA,.int .i64 eA,.int .i64 aA] 27 ?_;intro fA hg w6 hbox hb;have bA:=AM hbox;have cA:=kG HB hg;replace HB:=kH HB hb;have gA:=cA;clear hb hbox hg;obtain ⟨bB,cB,dB,eB,fB,gB⟩:=c3 bA))
     go_ret
     exact ⟨rE,bH HB⟩
    ·obtain rfl:=Option.some.inj H
     go_enter Try.func75,Try.ntmps75
     go_wp2_with (first|((with_reducible refine Q0i (N:=1) rfl ?_);refine bE 1 #[.int .i64 dA,.int .i64 eA,.int .i64 aA] 27 ?_;intro fA hg w8 hbox hb;have bA:=AM hbox;have cA:=kG HB hg;replace HB:=kH HB hb;have gA:=cA;clear hb hbox hg;obtain ⟨hB,iB,jB,kB,lB,mB⟩:=c3 bA))
     go_ret
     exact ⟨rE,bH HB⟩
   ·obtain rfl:=Option.some.inj H
    go_enter Try.func75,Try.ntmps75
    go_wp2_with (first|((with_reducible refine Q0i (N:=1) rfl ?_);refine bE 1 #[.int .i64 dA,.int .i64 eA,.int .i64 aA] 27 ?_;intro fA hg rB hbox hb;have bA:=AM hbox;have cA:=kG HB hg;replace HB:=kH HB hb;have gA:=cA;clear hb hbox hg;obtain ⟨hA,iA,jA,kA,lA,mA⟩:=c3 bA))
    go_ret
    exact ⟨rE,bH HB⟩
  ·obtain rfl:=Option.some.inj H
   go_enter Try.func75,Try.ntmps75
   go_wp2_with (first|((with_reducible refine Q0i (N:=1) rfl ?_);refine bE 1 #[.int .i64 dA,.int .i64 eA,.int .i64 aA] 27 ?_;intro fA hg sB hbox hb;have bA:=AM hbox;have cA:=kG HB hg;replace HB:=kH HB hb;have gA:=cA;clear hb hbox hg;obtain ⟨nA,oA,pA,qA,rA,sA⟩:=c3 bA))
   go_ret
   exact ⟨rE,bH HB⟩
 ·rw [if_neg c2] at H
  have zA:(aA==0)=false:=beq_eq_false_iff_ne.mpr c2
  have aB:(aA != 0)=true:=bne_iff_ne.mpr c2
  obtain rfl:=Option.some.inj H
  go_enter Try.func75,Try.ntmps75
  go_wp2_with (first|((with_reducible refine Q0i (N:=1) rfl ?_);refine bE 1 #[.int .i64 dA,.int .i64 eA,.int .i64 aA] 27 ?_;intro fA hg tB hbox hb;have bA:=AM hbox;have cA:=kG HB hg;replace HB:=kH HB hb;have gA:=cA;clear hb hbox hg;obtain ⟨tA,uA,vA,wA,xA,yA⟩:=c3 bA))
  go_ret
  exact ⟨rE,bH HB⟩
end Go.Proofs.Ytbonkedecfjmdaa.P
