/- Written for this claim by a program of this session (a turned copy of the print): Go functions as Lean functions, and that the Go code comes to just these answers; or a statement proved out of them. No condition. -/
import Derived.Test.YtbonkedecfjmdaaZ2
import Derived.Test.YtbonkedecfjmdaaZ3
import Derived.Test.YtbonkedecfjmdaaZ11

namespace Go.Proofs.Ytbonkedecfjmdaa.P
open Go.RowKit Go.Proofs.YtbonkedecfjmdaaW.PrintWords Go.Proofs.YtbonkedecfjmdaaW.PrintLast Go.Proofs.YtbonkedecfjmdaaW.PrintMore Go.Proofs.Ytbonkedecfjmdaa.X
attribute [local go_sem] Q2a Q2b Q2s Q2q Q1z Q1y Q19 Q2c Q2r Q2p add64
set_option linter.unusedVariables false
set_option linter.unusedSimpArgs false
attribute [local go_sem high] eqA27
mutual
def Q0o.l0:Nat→List (List (S27))→Int→List (List (S27))→Int→Int→Option (Int)
 | 0,_,_,_,_,_=>none
 | k+1,x0,x3,x10,x11,x12=>if x12<x11 then (if 0≤x12 then (if x12<(x10.length:Int) then (Q0o.l0 k x0 (wrap64 (x3+((Q0e x10 x12).length:Int))) x10 x11 (wrap64 (x12+1))) else (none)) else (none)) else (if (x0.length:Int)>2000 then (Q0o.j1 k x0 true) else (Q0o.j1 k x0 (decide (x3>20000))))
def Q0o.j1:Nat→List (List (S27))→Bool→Option (Int)
 | 0,_,_=>none
 | k+1,x0,x27=>if x27=true then (some 3) else (Q0o.l1 k x0 (x0.length:Int) 0)
def Q0o.l1:Nat→List (List (S27))→Int→Int→Option (Int)
 | 0,_,_,_=>none
 | k+1,x28,x29,x30=>if x30<x29 then (if 0≤x30 then (if x30<(x28.length:Int) then (if ((Q0e x28 x30).length:Int)<2 then (some 2) else (Q0o.l2 k (Q0e x28 x30) x28 x29 x30 (Q0e x28 x30) ((Q0e x28 x30).length:Int) 0)) else (none)) else (none)) else (some 0)
def Q0o.l2:Nat→List (S27)→List (List (S27))→Int→Int→List (S27)→Int→Int→Option (Int)
 | 0,_,_,_,_,_,_,_=>none
 | k+1,x7,x28,x29,x30,x37,x38,x39=>if x39<x38 then (if 0≤x39 then (if x39<(x37.length:Int) then ((Q4a.f ((Q0a x37 x39).f0) ((Q0a x37 x39).f1) ((Q0a x37 x39).f2)).bind fun sB=>(if sB=true then (if x39>0 then (if 0≤(wrap64 (x39 - 1)) then (if (wrap64 (x39 - 1))<(x7.length:Int) then (if (((Q0a x37 x39).f0)==((Q0a x7 (wrap64 (x39 - 1))).f0)&&(((Q0a x37 x39).f1)==((Q0a x7 (wrap64 (x39 - 1))).f1)&&(((Q0a x37 x39).f2)==((Q0a x7 (wrap64 (x39 - 1))).f2))))=true then (some 2) else (Q0o.l2 k x7 x28 x29 x30 x37 x38 (wrap64 (x39+1)))) else (none)) else (none)) else (Q0o.l2 k x7 x28 x29 x30 x37 x38 (wrap64 (x39+1)))) else (some 2))) else (none)) else (none)) else (Q0o.l1 k x28 x29 (wrap64 (x30+1)))
end
def Q0o.f (k:Nat) (l0:List (List (S27))):Option (Int):=Q0o.l0 k l0 0 l0 (l0.length:Int) 0
theorem Q0o.Q1a:∀ k,(∀ y0 y1 y2 y3 y4,LeO (Q0o.l0 k y0 y1 y2 y3 y4) (Q0o.l0 (k+1) y0 y1 y2 y3 y4))∧(∀ y0 y1,LeO (Q0o.j1 k y0 y1) (Q0o.j1 (k+1) y0 y1))∧(∀ y0 y1 y2,LeO (Q0o.l1 k y0 y1 y2) (Q0o.l1 (k+1) y0 y1 y2))∧(∀ y0 y1 y2 y3 y4 y5 y6,LeO (Q0o.l2 k y0 y1 y2 y3 y4 y5 y6) (Q0o.l2 (k+1) y0 y1 y2 y3 y4 y5 y6))
 | 0=>⟨fun _ _ _ _ _ r h=>by simp [Q0o.l0] at h,fun _ _ r h=>by simp [Q0o.j1] at h,fun _ _ _ r h=>by simp [Q0o.l1] at h,fun _ _ _ _ _ _ _ r h=>by simp [Q0o.l2] at h⟩
 | k+1=>by
  obtain ⟨iD,jD,kD,lD⟩:=Q0o.Q1a k
  refine ⟨?_,?_,?_,?_⟩
  all_goals
   intros
   first|unfold Q0o.l0|unfold Q0o.j1|unfold Q0o.l1|unfold Q0o.l2
   repeat' with_reducible first|exact iD _ _ _ _ _|exact jD _ _|exact kD _ _ _|exact lD _ _ _ _ _ _ _|exact LeO.refl _|exact LeO.none _|refine LeO.ite ?_ ?_|refine LeO.bind ?_ (fun _ => ?_)
theorem Q0o.mono:∀ a0 k,LeO (Q0o.f k a0) (Q0o.f (k+1) a0):=by
 intro a0 k
 obtain ⟨iD,jD,kD,lD⟩:=Q0o.Q1a k
 unfold Q0o.f
 repeat' with_reducible first|exact iD _ _ _ _ _|exact jD _ _|exact kD _ _ _|exact lD _ _ _ _ _ _ _|exact LeO.refl _|exact LeO.none _|refine LeO.ite ?_ ?_|refine LeO.bind ?_ (fun _ => ?_)
def Q0o.T17:Bool×List (List Nat×List Nat):=(true,[([],[]),([0],[0]),([1],[1]),([2,1],[2]),([3],[3]),([4,3],[3,4]),([5,3,3],[3,5]),([6],[6]),([6],[6]),([6],[6]),([9,6],[6,9]),([8,10,6],[6,8,10]),([11,6],[6,11]),([7,12,6],[6,7,12]),([6,13,3],[3,6,13]),([3,14],[3,14])])
def Q0o.B17:List Nat:=[0,1,3,7,15,31,63,127,127,127,639,1919,3967,8191,16383,32767]
theorem Q0o.tab17:rtab .any (opsOf Try.f56 17)=Q0o.T17:=by kernel_rfl
theorem Q0o.bits17:waitsOk Q0o.T17.2 Q0o.B17=true:=by kernel_rfl
set_option maxHeartbeats 8000000 in
set_option maxRecDepth 100000 in
theorem Q0o.calls (k:Nat) (A0:Option Addr) (c0:Nat) (l0:List (List (S27))) (r:Int) (w:World) (cE:Kd.C (Kd.slice 27 k27) w A0 l0.length l0) (dE:l0.length≤c0) (h:Q0o.f k l0=some r) :
  Calls Try.prog 56 #[.slice A0 l0.length c0] w fun e w'=>e=.returned (.int .i64 r)∧Below w.heap.size w w':=by
 have mE:=Try.underlying27
 have mD:=AM cE
 have uE:=AM dE
 clear cE dE
 have HB:=AM (Below.refl w.heap.size w)
 have H:(Q0o.l0 k l0 0 l0 (l0.length:Int) 0)=some r:=h
 clear h
 have H':=AM H
 clear H
 go_enter Try.func56,Try.ntmps56
 go_wp2
 go_loopg [3,12] k (fun kq v3 nE w'=>∃ (gB:Int) (mA:Int),v3=.int .i64 gB∧nE=.int .i64 mA∧Aside0 (Q0o.l0 kq l0 gB l0 (l0.length:Int) mA=some r)∧Aside0 (kq≤k)∧Aside0 (Below w.heap.size w w'))
 case atStart=>exact ⟨(0),(0),rS,rS,H',⟨Nat.le_refl _⟩,⟨ bH HB⟩⟩
 case round =>
  clear H'
  obtain ⟨gB,mA,rfl,rfl,HA,nB,HB⟩:=hrel
  cases gk with
  | zero=>exact absurd HA.out (by simp [Q0o.l0])
  | succ k1 =>
   have H:=HA.out;clear HA
   simp only [Q0o.l0] at H
   apply iC H<;>clear H<;>intro nD H
   ·apply iN H;clear H;intro oE H
    ·apply iN H;clear H;intro pE H
     ·have H':=AM H
      clear H
      have tB:0≤(mA:Int):=pD
      have uB:mA<(l0.length:Int):=pD
      obtain ⟨eE,oD,qD,rD,yA,zA,aB⟩:=Q30 mD.out mA tB uB
      cases rD
      replace yA:=hW HB yA
      have mC:=AM aB
      have nC:=AM zA
      clear aB zA;replace tB:=eq_true tB;replace uB:=eq_true uB
      go_wp2
      go_roundg k1
      case measure=>have:=nB.out;omega
      case rel=>exact ⟨(wrap64 (gB+((Q0e l0 mA).length:Int))),(wrap64 (mA+1)),rS,rS,H',⟨by have:=nB.out;omega⟩,⟨ bH HB⟩⟩
   ·have sD:=AM H
    clear H
    go_upto_region 7 with (fail)
    go_cut [27] (fun qE wc=>∃ (kq:Nat) (bB:Bool),qE=.bool bB∧Aside0 (Q0o.j1 kq l0 bB=some r)∧Aside0 (kq≤k1)∧Aside0 (Below w.heap.size w wc))
    case first =>
     have H:=sD.out;clear sD
     by_cases c6:(l0.length:Int)>2000
     ·rw [if_pos c6] at H
      have hB:=decide_eq_true c6
      have tD:decide (2000<l0.length)=true:=decide_eq_true (by omega)
      clear c6
      (first|rw [hB]|(simp only [Q1r,Q13];rw [hB])|skip)
      have H':=AM H
      clear H
      go_wp2
      go_meet
      case rel=>exact ⟨_,(true),rS,H',⟨by have:=nB.out;first|omega|exact Nat.le_refl _⟩,⟨ bH HB⟩⟩
     ·rw [if_neg c6] at H
      have hB:=decide_eq_false c6
      have tD:decide (2000<l0.length)=false:=decide_eq_false (by omega)
      clear c6
      (first|rw [hB]|(simp only [Q1r,Q13];rw [hB])|skip)
      have H':=AM H
      clear H
      go_wp2
      go_meet
      case rel=>exact ⟨_,(decide (gB>20000)),rS,H',⟨by have:=nB.out;first|omega|exact Nat.le_refl _⟩,⟨ bH HB⟩⟩
    case rest =>
     clear sD nD
     obtain ⟨kq,bB,rfl,HA,aC,HB⟩:=hcut
     cases kq with
     | zero=>exact absurd HA.out (by simp [Q0o.j1])
     | succ kj4 =>
      have H:=HA.out;clear HA
      simp only [Q0o.j1] at H
      by_cases c7:bB=true
      ·subst c7
       replace H:=iT H
       obtain rfl:=Option.some.inj H
       go_wp2
       go_ret
       exact ⟨rE,bH HB⟩
      ·replace c7:=Bool.eq_false_iff.mpr c7
       subst c7
       replace H:=iF H
       have H':=AM H
       clear H
       go_wp2
       go_loopg [30] kj4 (fun kq sE w'=>∃ (aA:Int),sE=.int .i64 aA∧Aside0 (Q0o.l1 kq l0 (l0.length:Int) aA=some r)∧Aside0 (kq≤kj4)∧Aside0 (Below w.heap.size w w'))
       case atStart=>exact ⟨(0),rS,H',⟨Nat.le_refl _⟩,⟨ bH HB⟩⟩
       case round =>
        clear H'
        obtain ⟨aA,rfl,HA,cC,HB⟩:=hrel
        cases gk with
        | zero=>exact absurd HA.out (by simp [Q0o.l1])
        | succ k3 =>
         have H:=HA.out;clear HA
         simp only [Q0o.l1] at H
         apply iC H<;>clear H<;>intro uD H
         ·apply iN H;clear H;intro vD H
          ·apply iN H;clear H;intro fC H
           ·by_cases dC:((Q0e l0 aA).length:Int)<2
            ·rw [if_pos dC] at H
             have pB:=decide_eq_true dC
             have qB:decide ((Q0e l0 aA).length<2)=true:=decide_eq_true (by omega)
             clear dC
             obtain rfl:=Option.some.inj H
             have tA:0≤(aA:Int):=pD
             have uA:aA<(l0.length:Int):=pD
             obtain ⟨gC,vB,wB,xB,iA,jA,kA⟩:=Q30 mD.out aA tA uA
             cases xB
             replace iA:=hW HB iA
             have lA:=AM kA
             have oB:=AM jA
             clear kA jA;replace tA:=eq_true tA;replace uA:=eq_true uA
             go_wp2
             go_ret
             exact ⟨rE,bH HB⟩
            ·rw [if_neg dC] at H
             have pB:=decide_eq_false dC
             have qB:decide ((Q0e l0 aA).length<2)=false:=decide_eq_false (by omega)
             clear dC
             have H':=AM H
             clear H
             have tA:0≤(aA:Int):=pD
             have uA:aA<(l0.length:Int):=pD
             obtain ⟨gC,vB,wB,xB,iA,jA,kA⟩:=Q30 mD.out aA tA uA
             cases xB
             replace iA:=hW HB iA
             have lA:=AM kA
             have oB:=AM jA
             clear kA jA;replace tA:=eq_true tA;replace uA:=eq_true uA
             go_wp2
             go_loopg [39] k3 (fun kq tE w'=>∃ (bA:Int),tE=.int .i64 bA∧Aside0 (Q0o.l2 kq (Q0e l0 aA) l0 (l0.length:Int) aA (Q0e l0 aA) ((Q0e l0 aA).length:Int) bA=some r)∧Aside0 (kq≤k3)∧Aside0 (Below w.heap.size w w'))
             case atStart=>exact ⟨(0),rS,H',⟨Nat.le_refl _⟩,⟨ bH HB⟩⟩
             case round =>
              clear H'
              clear uD vD fC pB qB iA tA uA
              obtain ⟨bA,rfl,HA,eC,HB⟩:=hrel
              cases gk with
              | zero=>exact absurd HA.out (by simp [Q0o.l2])
              | succ k4 =>
               have H:=HA.out;clear HA
               simp only [Q0o.l2] at H
               apply iC H<;>clear H<;>intro fE H
               ·apply iN H;clear H;intro gE H
                ·apply iN H;clear H;intro hE H
                 ·obtain ⟨sB,oC,H⟩:=bS H
                  by_cases pC:sB=true
                  ·subst pC
                   replace H:=iT H
                   apply iC H<;>clear H<;>intro iE H
                   ·obtain ⟨eA,vA⟩:∃ j_:Int,(wrap64 (bA - 1))=j_:=⟨_,rfl⟩
                    replace H:(if 0≤(eA) then (if (eA)<((Q0e l0 aA).length:Int) then (if (((Q0a (Q0e l0 aA) bA).f0)==((Q0a (Q0e l0 aA) (eA)).f0)&&(((Q0a (Q0e l0 aA) bA).f1)==((Q0a (Q0e l0 aA) (eA)).f1)&&(((Q0a (Q0e l0 aA) bA).f2)==((Q0a (Q0e l0 aA) (eA)).f2))))=true then (some 2) else (Q0o.l2 k4 (Q0e l0 aA) l0 (l0.length:Int) aA (Q0e l0 aA) ((Q0e l0 aA).length:Int) (wrap64 (bA+1)))) else (none)) else (none))=some r:=by first|(rw [vA] at H;exact H)|(simp only [vA] at H ⊢;exact H)
                    (try rw [vA] at oC)
                    have wD:(IntKind.i64.wrap (bA - 1))=eA:=(Q1r _).trans vA
                    apply iN H;clear H;intro jE H
                    ·apply iN H;clear H;intro kE H
                     ·have hC:=AM H
                      clear H
                      have rA:0≤(bA:Int):=pD
                      have sA:bA<((Q0e l0 aA).length:Int):=pD
                      obtain ⟨nA,iB,fA,gA,hA⟩:=Q2i lA.out bA rA sA
                      cases iB
                      replace fA:=hW HB fA;replace gA:=hW HB gA;replace hA:=hW HB hA;replace rA:=eq_true rA;replace sA:=eq_true sA
                      try go_wp2_with (first|((with_reducible refine Q0i (N:=9) rfl ?_);refine bE 9 #[.int .i64 0,.int .i64 0,.int .i64 0] 27 ?_;intro dA hg xD hbox hb;have cA:=AM hbox;have wA:=kG HB hg;replace HB:=kH HB hb;have rB:=wA;clear hb hbox hg;obtain ⟨qC,rC,sC,tC,uC,vC⟩:=c3 cA))
                      have jB:Aside0 ((((xD.setCell ⟨dA,0,none⟩ (.int .i64 ((Q0a (Q0e l0 aA) bA).f0))).setCell ⟨dA,1,none⟩ (.int .i64 ((Q0a (Q0e l0 aA) bA).f1))).setCell ⟨dA,2,none⟩ (.int .i64 ((Q0a (Q0e l0 aA) bA).f2))).heap[dA]? = some (.cells #[.int .i64 ((Q0a (Q0e l0 aA) bA).f0),.int .i64 ((Q0a (Q0e l0 aA) bA).f1),.int .i64 ((Q0a (Q0e l0 aA) bA).f2)] 27 (0,0))):=⟨by (with_reducible repeat (first|refine Q0c ?_ _|refine Q0d ?_|refine Q0b ?_ _));refine Q0u (cs:=#[.int .i64 ((Q0a (Q0e l0 aA) bA).f0),.int .i64 ((Q0a (Q0e l0 aA) bA).f1),.int .i64 0]) ?_ 2 _ rfl;(with_reducible repeat (first|refine Q0c ?_ _|refine Q0d ?_|refine Q0b ?_ _));refine Q0u (cs:=#[.int .i64 ((Q0a (Q0e l0 aA) bA).f0),.int .i64 0,.int .i64 0]) ?_ 1 _ rfl;(with_reducible repeat (first|refine Q0c ?_ _|refine Q0d ?_|refine Q0b ?_ _));refine Q0u (cs:=#[.int .i64 0,.int .i64 0,.int .i64 0]) ?_ 0 _ rfl;(with_reducible repeat (first|refine Q0c ?_ _|refine Q0d ?_|refine Q0b ?_ _));exact cA.out⟩
                      have lB:Aside0 (Below w.heap.size w (((xD.setCell ⟨dA,0,none⟩ (.int .i64 ((Q0a (Q0e l0 aA) bA).f0))).setCell ⟨dA,1,none⟩ (.int .i64 ((Q0a (Q0e l0 aA) bA).f1))).setCell ⟨dA,2,none⟩ (.int .i64 ((Q0a (Q0e l0 aA) bA).f2)))):=⟨ bH HB⟩
                      clear cA HB
                      generalize (((xD.setCell ⟨dA,0,none⟩ (.int .i64 ((Q0a (Q0e l0 aA) bA).f0))).setCell ⟨dA,1,none⟩ (.int .i64 ((Q0a (Q0e l0 aA) bA).f1))).setCell ⟨dA,2,none⟩ (.int .i64 ((Q0a (Q0e l0 aA) bA).f2)))=w24 at jB lB ⊢
                      have cA:=jB;have HB:=lB;clear jB lB;replace cA:=dB cA;replace HB:=dH HB
                      have yB:0≤((eA):Int):=pD
                      have zB:(eA)<((Q0e l0 aA).length:Int):=pD
                      obtain ⟨jC,yD,oA,pA,qA⟩:=Q2i lA.out (eA) yB zB
                      have cB:=qA;have eB:=pA;have fB:=oA
                      obtain rfl:nA=jC:=(by injection yD)
                      replace oA:=hW HB oA;replace pA:=hW HB pA;replace qA:=hW HB qA;replace yB:=eq_true yB;replace zB:=eq_true zB
                      refine sP 16 (S:=fun w'=>w'.cell? ⟨dA,0,none⟩=some (.int .i64 ((Q0a (Q0e l0 aA) bA).f0))∧w'.cell? ⟨dA,1,none⟩=some (.int .i64 ((Q0a (Q0e l0 aA) bA).f1))∧w'.cell? ⟨dA,2,none⟩=some (.int .i64 ((Q0a (Q0e l0 aA) bA).f2))∧w'.cell? (nA.add (((eA)).toNat*3))=some (.int .i64 ((Q0a (Q0e l0 aA) (eA)).f0))∧w'.cell? ⟨(nA.add (((eA)).toNat*3)).block,(nA.add (((eA)).toNat*3)).off+1,none⟩=some (.int .i64 ((Q0a (Q0e l0 aA) (eA)).f1))∧w'.cell? ⟨(nA.add (((eA)).toNat*3)).block,(nA.add (((eA)).toNat*3)).off+2,none⟩=some (.int .i64 ((Q0a (Q0e l0 aA) (eA)).f2))) (ds:=[]) ⟨bC cA,bC cA,bC cA,(hW HB fB :),(hW HB eB :),(hW HB cB :)⟩ fun hHeld => ?_;refine Q1m Q0o.tab17 Q0o.bits17 (fun HT_ HW_ => ?_)
                      generalize w24.drew=w25 at cA HB oA pA qA hHeld ⊢
                      refine tQ 0 (some 44) HT_ HW_ hHeld ?_
                      refine oQ 1 (some 45) HT_ rfl fun K hK => ?_
                      refine gO Try.func75 #[.agg #[.int .i64 ((Q0a (Q0e l0 aA) bA).f0),.int .i64 ((Q0a (Q0e l0 aA) bA).f1),.int .i64 ((Q0a (Q0e l0 aA) bA).f2)]] ?_
                      with_reducible refine (Q4a.calls ((Q0a (Q0e l0 aA) bA).f0) ((Q0a (Q0e l0 aA) bA).f1) ((Q0a (Q0e l0 aA) bA).f2) true _ oC.out).mono ?_
                      rintro e vE ⟨rfl,hb⟩
                      refine ⟨_,rfl,?_⟩
                      replace cA:=kB cA hb;replace HB:=kH HB hb;clear hb
                      refine hK.out _ _ ⟨bC cA,bC cA,bC cA,(hW HB fB :),(hW HB eB :),(hW HB cB :)⟩ (fun hHeld => ?_)
                      clear hK K;refine nP (some 45) ?_;refine pQ 2 (some 46) HT_ ?_;refine pQ 3 (some 47) HT_ ?_;refine pQ 4 (some 48) HT_ ?_;refine pQ 5 (some 49) HT_ ?_;refine pQ 6 (some 50) HT_ ?_;refine pQ 8 (some 52) HT_ ?_;refine pQ 9 (some 53) HT_ ?_;refine pQ 10 (some 54) HT_ ?_;refine pQ 11 (some 55) HT_ ?_;refine tQ 7 (some 51) HT_ HW_ hHeld ?_;refine tQ 12 (some 56) HT_ HW_ hHeld ?_;refine pQ 13 (some 57) HT_ ?_;refine pQ 14 (some 58) HT_ ?_;refine pQ 15 (some 59) HT_ ?_
                      refine done_ (Q2d HT_.out (by kernel_rfl)) ?_
                      go_upto_if 59 with (fail)
                      have H:=hC.out;clear hC
                      by_cases mB:(((Q0a (Q0e l0 aA) bA).f0)==((Q0a (Q0e l0 aA) (eA)).f0)&&(((Q0a (Q0e l0 aA) bA).f1)==((Q0a (Q0e l0 aA) (eA)).f1)&&(((Q0a (Q0e l0 aA) bA).f2)==((Q0a (Q0e l0 aA) (eA)).f2))))=true
                      ·rw [if_pos mB] at H
                       have xA:(((Q0a (Q0e l0 aA) bA).f0)==((Q0a (Q0e l0 aA) (eA)).f0)&&(((Q0a (Q0e l0 aA) bA).f1)==((Q0a (Q0e l0 aA) (eA)).f1)&&(((Q0a (Q0e l0 aA) bA).f2)==((Q0a (Q0e l0 aA) (eA)).f2))))=true:=mB
                       (try (have kC:decide (((Q0a (Q0e l0 aA) bA).f0)=((Q0a (Q0e l0 aA) (eA)).f0)&&(((Q0a (Q0e l0 aA) bA).f1)==((Q0a (Q0e l0 aA) (eA)).f1)&&(((Q0a (Q0e l0 aA) bA).f2)==((Q0a (Q0e l0 aA) (eA)).f2))))=true:=by simpa using mB))
                       (try (have lC:(((Q0a (Q0e l0 aA) bA).f0)==((Q0a (Q0e l0 aA) (eA)).f0)&&(((Q0a (Q0e l0 aA) bA).f1)==((Q0a (Q0e l0 aA) (eA)).f1)&&(((Q0a (Q0e l0 aA) bA).f2)==((Q0a (Q0e l0 aA) (eA)).f2))))=true:=by simpa using mB))
                       clear mB
                       (first|rw [xA]|(simp only [Q1r,Q13];rw [xA])|skip)
                       obtain rfl:=Option.some.inj H
                       go_wp2
                       go_ret
                       exact ⟨by first|rfl|(simp [Q24,Q23]<;>rfl)|(simp only [← vA];first|rfl|(simp [Q24,Q23]<;>rfl))|(simp [*,Q24,Q23]<;>rfl),bH HB⟩
                      ·rw [if_neg mB] at H
                       have xA:(((Q0a (Q0e l0 aA) bA).f0)==((Q0a (Q0e l0 aA) (eA)).f0)&&(((Q0a (Q0e l0 aA) bA).f1)==((Q0a (Q0e l0 aA) (eA)).f1)&&(((Q0a (Q0e l0 aA) bA).f2)==((Q0a (Q0e l0 aA) (eA)).f2))))=false:=by simpa using mB
                       (try (have kC:decide (((Q0a (Q0e l0 aA) bA).f0)=((Q0a (Q0e l0 aA) (eA)).f0)&&(((Q0a (Q0e l0 aA) bA).f1)==((Q0a (Q0e l0 aA) (eA)).f1)&&(((Q0a (Q0e l0 aA) bA).f2)==((Q0a (Q0e l0 aA) (eA)).f2))))=false:=by simpa using mB))
                       (try (have lC:(((Q0a (Q0e l0 aA) bA).f0)==((Q0a (Q0e l0 aA) (eA)).f0)&&(((Q0a (Q0e l0 aA) bA).f1)==((Q0a (Q0e l0 aA) (eA)).f1)&&(((Q0a (Q0e l0 aA) bA).f2)==((Q0a (Q0e l0 aA) (eA)).f2))))=false:=by simpa using mB))
                       (try (have lE:¬ (((Q0a (Q0e l0 aA) bA).f0)=((Q0a (Q0e l0 aA) (eA)).f0)&&(((Q0a (Q0e l0 aA) bA).f1)==((Q0a (Q0e l0 aA) (eA)).f1)&&(((Q0a (Q0e l0 aA) bA).f2)==((Q0a (Q0e l0 aA) (eA)).f2)))):=by simpa using mB))
                       clear mB
                       (first|rw [xA]|(simp only [Q1r,Q13];rw [xA])|skip)
                       have H':=AM H
                       clear H
                       go_wp2
                       go_roundg k4
                       case measure=>have:=nB.out;have:=aC.out;have:=cC.out;have:=eC.out;omega
                       case rel=>exact ⟨(wrap64 (bA+1)),rS,H',⟨by have:=nB.out;have:=aC.out;have:=cC.out;have:=eC.out;omega⟩,⟨ bH HB⟩⟩
                   ·have H':=AM H
                    clear H
                    have rA:0≤(bA:Int):=pD
                    have sA:bA<((Q0e l0 aA).length:Int):=pD
                    obtain ⟨nA,iB,fA,gA,hA⟩:=Q2i lA.out bA rA sA
                    cases iB
                    replace fA:=hW HB fA;replace gA:=hW HB gA;replace hA:=hW HB hA;replace rA:=eq_true rA;replace sA:=eq_true sA
                    try go_wp2_with (first|((with_reducible refine Q0i (N:=9) rfl ?_);refine bE 9 #[.int .i64 0,.int .i64 0,.int .i64 0] 27 ?_;intro dA hg zD hbox hb;have cA:=AM hbox;have wA:=kG HB hg;replace HB:=kH HB hb;have rB:=wA;clear hb hbox hg;obtain ⟨wC,xC,yC,zC,aD,bD⟩:=c3 cA))
                    have jB:Aside0 ((((zD.setCell ⟨dA,0,none⟩ (.int .i64 ((Q0a (Q0e l0 aA) bA).f0))).setCell ⟨dA,1,none⟩ (.int .i64 ((Q0a (Q0e l0 aA) bA).f1))).setCell ⟨dA,2,none⟩ (.int .i64 ((Q0a (Q0e l0 aA) bA).f2))).heap[dA]? = some (.cells #[.int .i64 ((Q0a (Q0e l0 aA) bA).f0),.int .i64 ((Q0a (Q0e l0 aA) bA).f1),.int .i64 ((Q0a (Q0e l0 aA) bA).f2)] 27 (0,0))):=⟨by (with_reducible repeat (first|refine Q0c ?_ _|refine Q0d ?_|refine Q0b ?_ _));refine Q0u (cs:=#[.int .i64 ((Q0a (Q0e l0 aA) bA).f0),.int .i64 ((Q0a (Q0e l0 aA) bA).f1),.int .i64 0]) ?_ 2 _ rfl;(with_reducible repeat (first|refine Q0c ?_ _|refine Q0d ?_|refine Q0b ?_ _));refine Q0u (cs:=#[.int .i64 ((Q0a (Q0e l0 aA) bA).f0),.int .i64 0,.int .i64 0]) ?_ 1 _ rfl;(with_reducible repeat (first|refine Q0c ?_ _|refine Q0d ?_|refine Q0b ?_ _));refine Q0u (cs:=#[.int .i64 0,.int .i64 0,.int .i64 0]) ?_ 0 _ rfl;(with_reducible repeat (first|refine Q0c ?_ _|refine Q0d ?_|refine Q0b ?_ _));exact cA.out⟩
                    have lB:Aside0 (Below w.heap.size w (((zD.setCell ⟨dA,0,none⟩ (.int .i64 ((Q0a (Q0e l0 aA) bA).f0))).setCell ⟨dA,1,none⟩ (.int .i64 ((Q0a (Q0e l0 aA) bA).f1))).setCell ⟨dA,2,none⟩ (.int .i64 ((Q0a (Q0e l0 aA) bA).f2)))):=⟨ bH HB⟩
                    clear cA HB
                    generalize (((zD.setCell ⟨dA,0,none⟩ (.int .i64 ((Q0a (Q0e l0 aA) bA).f0))).setCell ⟨dA,1,none⟩ (.int .i64 ((Q0a (Q0e l0 aA) bA).f1))).setCell ⟨dA,2,none⟩ (.int .i64 ((Q0a (Q0e l0 aA) bA).f2)))=w30 at jB lB ⊢
                    have cA:=jB;have HB:=lB;clear jB lB;replace cA:=dB cA;replace HB:=dH HB
                    refine sP 16 (S:=fun w'=>w'.cell? ⟨dA,0,none⟩=some (.int .i64 ((Q0a (Q0e l0 aA) bA).f0))∧w'.cell? ⟨dA,1,none⟩=some (.int .i64 ((Q0a (Q0e l0 aA) bA).f1))∧w'.cell? ⟨dA,2,none⟩=some (.int .i64 ((Q0a (Q0e l0 aA) bA).f2))) (ds:=[]) ⟨bC cA,bC cA,bC cA⟩ fun hHeld => ?_;refine Q1m Q0o.tab17 Q0o.bits17 (fun HT_ HW_ => ?_)
                    generalize w30.drew=w31 at cA HB hHeld ⊢
                    refine tQ 0 (some 44) HT_ HW_ hHeld ?_
                    refine oQ 1 (some 45) HT_ rfl fun K hK => ?_
                    refine gO Try.func75 #[.agg #[.int .i64 ((Q0a (Q0e l0 aA) bA).f0),.int .i64 ((Q0a (Q0e l0 aA) bA).f1),.int .i64 ((Q0a (Q0e l0 aA) bA).f2)]] ?_
                    with_reducible refine (Q4a.calls ((Q0a (Q0e l0 aA) bA).f0) ((Q0a (Q0e l0 aA) bA).f1) ((Q0a (Q0e l0 aA) bA).f2) true _ oC.out).mono ?_
                    rintro e wE ⟨rfl,hb⟩
                    refine ⟨_,rfl,?_⟩
                    replace cA:=kB cA hb;replace HB:=kH HB hb;clear hb
                    refine hK.out _ _ ⟨bC cA,bC cA,bC cA⟩ (fun hHeld => ?_)
                    clear hK K;refine nP (some 45) ?_;refine pQ 2 (some 46) HT_ ?_;refine pQ 3 (some 47) HT_ ?_;refine pQ 4 (some 48) HT_ ?_;refine pQ 5 (some 49) HT_ ?_;refine pQ 6 (some 50) HT_ ?_;refine uQ 7 (some 51) HT_ ?_;refine uQ 8 (some 52) HT_ ?_;refine uQ 9 (some 53) HT_ ?_;refine uQ 10 (some 54) HT_ ?_;refine uQ 11 (some 55) HT_ ?_;refine uQ 12 (some 56) HT_ ?_;refine uQ 13 (some 57) HT_ ?_;refine pQ 14 (some 58) HT_ ?_;refine pQ 15 (some 59) HT_ ?_
                    refine done_ (Q2d HT_.out (by kernel_rfl)) ?_
                    try go_wp2
                    go_roundg k4
                    case measure=>have:=nB.out;have:=aC.out;have:=cC.out;have:=eC.out;omega
                    case rel=>exact ⟨(wrap64 (bA+1)),rS,H',⟨by have:=nB.out;have:=aC.out;have:=cC.out;have:=eC.out;omega⟩,⟨ bH HB⟩⟩
                  ·replace pC:=Bool.eq_false_iff.mpr pC
                   subst pC
                   replace H:=iF H
                   obtain rfl:=Option.some.inj H
                   have rA:0≤(bA:Int):=pD
                   have sA:bA<((Q0e l0 aA).length:Int):=pD
                   obtain ⟨nA,iB,fA,gA,hA⟩:=Q2i lA.out bA rA sA
                   cases iB
                   replace fA:=hW HB fA;replace gA:=hW HB gA;replace hA:=hW HB hA;replace rA:=eq_true rA;replace sA:=eq_true sA
                   try go_wp2_with (first|((with_reducible refine Q0i (N:=9) rfl ?_);refine bE 9 #[.int .i64 0,.int .i64 0,.int .i64 0] 27 ?_;intro dA hg aE hbox hb;have cA:=AM hbox;have wA:=kG HB hg;replace HB:=kH HB hb;have rB:=wA;clear hb hbox hg;obtain ⟨cD,dD,eD,fD,gD,hD⟩:=c3 cA))
                   have jB:Aside0 ((((aE.setCell ⟨dA,0,none⟩ (.int .i64 ((Q0a (Q0e l0 aA) bA).f0))).setCell ⟨dA,1,none⟩ (.int .i64 ((Q0a (Q0e l0 aA) bA).f1))).setCell ⟨dA,2,none⟩ (.int .i64 ((Q0a (Q0e l0 aA) bA).f2))).heap[dA]? = some (.cells #[.int .i64 ((Q0a (Q0e l0 aA) bA).f0),.int .i64 ((Q0a (Q0e l0 aA) bA).f1),.int .i64 ((Q0a (Q0e l0 aA) bA).f2)] 27 (0,0))):=⟨by (with_reducible repeat (first|refine Q0c ?_ _|refine Q0d ?_|refine Q0b ?_ _));refine Q0u (cs:=#[.int .i64 ((Q0a (Q0e l0 aA) bA).f0),.int .i64 ((Q0a (Q0e l0 aA) bA).f1),.int .i64 0]) ?_ 2 _ rfl;(with_reducible repeat (first|refine Q0c ?_ _|refine Q0d ?_|refine Q0b ?_ _));refine Q0u (cs:=#[.int .i64 ((Q0a (Q0e l0 aA) bA).f0),.int .i64 0,.int .i64 0]) ?_ 1 _ rfl;(with_reducible repeat (first|refine Q0c ?_ _|refine Q0d ?_|refine Q0b ?_ _));refine Q0u (cs:=#[.int .i64 0,.int .i64 0,.int .i64 0]) ?_ 0 _ rfl;(with_reducible repeat (first|refine Q0c ?_ _|refine Q0d ?_|refine Q0b ?_ _));exact cA.out⟩
                   have lB:Aside0 (Below w.heap.size w (((aE.setCell ⟨dA,0,none⟩ (.int .i64 ((Q0a (Q0e l0 aA) bA).f0))).setCell ⟨dA,1,none⟩ (.int .i64 ((Q0a (Q0e l0 aA) bA).f1))).setCell ⟨dA,2,none⟩ (.int .i64 ((Q0a (Q0e l0 aA) bA).f2)))):=⟨ bH HB⟩
                   clear cA HB
                   generalize (((aE.setCell ⟨dA,0,none⟩ (.int .i64 ((Q0a (Q0e l0 aA) bA).f0))).setCell ⟨dA,1,none⟩ (.int .i64 ((Q0a (Q0e l0 aA) bA).f1))).setCell ⟨dA,2,none⟩ (.int .i64 ((Q0a (Q0e l0 aA) bA).f2)))=w35 at jB lB ⊢
                   have cA:=jB;have HB:=lB;clear jB lB;replace cA:=dB cA;replace HB:=dH HB
                   refine sP 16 (S:=fun w'=>w'.cell? ⟨dA,0,none⟩=some (.int .i64 ((Q0a (Q0e l0 aA) bA).f0))∧w'.cell? ⟨dA,1,none⟩=some (.int .i64 ((Q0a (Q0e l0 aA) bA).f1))∧w'.cell? ⟨dA,2,none⟩=some (.int .i64 ((Q0a (Q0e l0 aA) bA).f2))) (ds:=[]) ⟨bC cA,bC cA,bC cA⟩ fun hHeld => ?_;refine Q1m Q0o.tab17 Q0o.bits17 (fun HT_ HW_ => ?_)
                   generalize w35.drew=w36 at cA HB hHeld ⊢
                   refine tQ 0 (some 44) HT_ HW_ hHeld ?_
                   refine oQ 1 (some 45) HT_ rfl fun K hK => ?_
                   refine gO Try.func75 #[.agg #[.int .i64 ((Q0a (Q0e l0 aA) bA).f0),.int .i64 ((Q0a (Q0e l0 aA) bA).f1),.int .i64 ((Q0a (Q0e l0 aA) bA).f2)]] ?_
                   with_reducible refine (Q4a.calls ((Q0a (Q0e l0 aA) bA).f0) ((Q0a (Q0e l0 aA) bA).f1) ((Q0a (Q0e l0 aA) bA).f2) false _ oC.out).mono ?_
                   rintro e xE ⟨rfl,hb⟩
                   refine ⟨_,rfl,?_⟩
                   replace cA:=kB cA hb;replace HB:=kH HB hb;clear hb
                   refine hK.out _ _ ⟨bC cA,bC cA,bC cA⟩ (fun hHeld => ?_)
                   clear hK K;refine nP (some 45) ?_;refine pQ 2 (some 46) HT_ ?_;refine pQ 3 (some 47) HT_ ?_;refine uQ 4 (some 48) HT_ ?_;refine uQ 5 (some 49) HT_ ?_;refine uQ 6 (some 50) HT_ ?_;refine uQ 7 (some 51) HT_ ?_;refine uQ 8 (some 52) HT_ ?_;refine uQ 9 (some 53) HT_ ?_;refine uQ 10 (some 54) HT_ ?_;refine uQ 11 (some 55) HT_ ?_;refine uQ 12 (some 56) HT_ ?_;refine uQ 13 (some 57) HT_ ?_;refine uQ 14 (some 58) HT_ ?_;refine pQ 15 (some 59) HT_ ?_
                   refine done_ (Q2d HT_.out (by kernel_rfl)) ?_
                   try go_wp2
                   go_ret
                   exact ⟨rE,bH HB⟩
               ·have H':=AM H
                clear H
                go_wp2
                go_roundg k4
                case measure=>have:=nB.out;have:=aC.out;have:=cC.out;have:=eC.out;omega
                case rel=>exact ⟨(wrap64 (aA+1)),rS,H',⟨by have:=nB.out;have:=aC.out;have:=cC.out;have:=eC.out;omega⟩,⟨ bH HB⟩⟩
         ·obtain rfl:=Option.some.inj H
          go_wp2
          go_ret
          exact ⟨rE,bH HB⟩
end Go.Proofs.Ytbonkedecfjmdaa.P

namespace Go.Proofs.Ytbonkedecfjmdaa.P
open Go.RowKit Go.Proofs.YtbonkedecfjmdaaW.PrintWords Go.Proofs.YtbonkedecfjmdaaW.PrintLast Go.Proofs.YtbonkedecfjmdaaW.PrintMore Go.Proofs.Ytbonkedecfjmdaa.X
attribute [local go_sem] Q2a Q2b Q2s Q2q Q1z Q1y Q19 Q2c Q2r Q2p add64
set_option linter.unusedVariables false
set_option linter.unusedSimpArgs false
mutual
def Q05.l0:Nat→List (S109)→List (List (S27))→Int→Int→Option ((List (S109)))
 | 0,_,_,_,_=>none
 | k+1,x3,x8,x9,x10=>if x10<x9 then (if 0≤x10 then (if x10<(x8.length:Int) then (Q05.l1 k x3 x10 (Q0e x8 x10) 1 x8 x9 x10) else (none)) else (none)) else (some x3)
def Q05.l1:Nat→List (S109)→Int→List (S27)→Int→List (List (S27))→Int→Int→Option ((List (S109)))
 | 0,_,_,_,_,_,_,_=>none
 | k+1,x3,x4,x5,x6,x8,x9,x10=>if x6<(x5.length:Int) then (if 0≤(wrap64 (x6 - 1)) then (if (wrap64 (x6 - 1))<(x5.length:Int) then (if 0≤x6 then (if x3.length<1954687338268 then (Q05.l1 k (x3++[(⟨(⟨(Q0a x5 (wrap64 (x6 - 1))).f0,(Q0a x5 (wrap64 (x6 - 1))).f1,(Q0a x5 (wrap64 (x6 - 1))).f2⟩:S27),(⟨(Q0a x5 x6).f0,(Q0a x5 x6).f1,(Q0a x5 x6).f2⟩:S27),x4,x6,(x6==1),(x6==(wrap64 ((x5.length:Int) - 1)))⟩:S109)]) x4 x5 (wrap64 (x6+1)) x8 x9 x10) else (none)) else (none)) else (none)) else (none)) else (Q05.l0 k x3 x8 x9 (wrap64 (x10+1)))
end
def Q05.f (k:Nat) (bA:List (List (S27))) (sA:List (List Int)) (tA:List (List Int)):Option ((List (S109))):=Q05.l0 k ([]:List (S109)) bA (bA.length:Int) 0
theorem Q05.Q1a:∀ k,(∀ y0 y1 y2 y3,LeO (Q05.l0 k y0 y1 y2 y3) (Q05.l0 (k+1) y0 y1 y2 y3))∧(∀ y0 y1 y2 y3 y4 y5 y6,LeO (Q05.l1 k y0 y1 y2 y3 y4 y5 y6) (Q05.l1 (k+1) y0 y1 y2 y3 y4 y5 y6))
 | 0=>⟨fun _ _ _ _ r h=>by simp [Q05.l0] at h,fun _ _ _ _ _ _ _ r h=>by simp [Q05.l1] at h⟩
 | k+1=>by
  obtain ⟨qC,rC⟩:=Q05.Q1a k
  refine ⟨?_,?_⟩
  all_goals
   intros
   first|unfold Q05.l0|unfold Q05.l1
   repeat' with_reducible first|exact qC _ _ _ _|exact rC _ _ _ _ _ _ _|exact LeO.refl _|exact LeO.none _|refine LeO.ite ?_ ?_|refine LeO.bind ?_ (fun _ => ?_)
theorem Q05.mono:∀ a0 a1 a2 k,LeO (Q05.f k a0 a1 a2) (Q05.f (k+1) a0 a1 a2):=by
 intro a0 a1 a2 k
 obtain ⟨qC,rC⟩:=Q05.Q1a k
 unfold Q05.f
 repeat' with_reducible first|exact qC _ _ _ _|exact rC _ _ _ _ _ _ _|exact LeO.refl _|exact LeO.none _|refine LeO.ite ?_ ?_|refine LeO.bind ?_ (fun _ => ?_)
def Q05.T8:Bool×List (List Nat×List Nat):=(true,[([],[]),([],[]),([],[]),([2],[2]),([1,3],[1,3]),([4],[4]),([],[]),([],[]),([6,7],[6,7]),([8],[8]),([],[]),([],[]),([],[]),([12],[12]),([],[]),([],[]),([15],[15]),([16],[16]),([14,17],[14,17]),([5,9,10,11,13,18],[5,9,10,11,13,18]),([19],[19]),([0,20],[0,20]),([21,21,0,1,2,3,4,5,6,7,8,9,10,11,12,13,14,15,16,17,18,19,20,21],[0,21])])
def Q05.B8:List Nat:=[0,0,0,4,14,30,0,0,192,448,0,0,0,4096,0,0,32768,98304,245760,524286,1048574,2097151,4194303]
theorem Q05.tab8:rtab .any (opsOf Try.f76 8)=Q05.T8:=by kernel_rfl
theorem Q05.bits8:waitsOk Q05.T8.2 Q05.B8=true:=by kernel_rfl
set_option maxHeartbeats 8000000 in
set_option maxRecDepth 100000 in
theorem Q05.calls (k:Nat) (iB:Option Addr) (bB:Nat) (bA:List (List (S27))) (cB:Option Addr) (eB:Nat) (sA:List (List Int)) (fB:Option Addr) (gB:Nat) (tA:List (List Int)) (r:List (S109)) (w:World) (mB:Kd.C (Kd.slice 27 k27) w iB bA.length bA) (nB:bA.length≤bB) (oB:Kd.C (Kd.slice 3 (Kd.int .i64)) w cB sA.length sA) (pB:sA.length≤eB) (qB:Kd.C (Kd.slice 3 (Kd.int .i64)) w fB tA.length tA) (rB:tA.length≤gB) (h:Q05.f k bA sA tA=some r) :
  Calls Try.prog 76 #[.agg #[.slice iB bA.length bB,.slice cB sA.length eB,.slice fB tA.length gB]] w fun e w'=>∃ v0_:Value,e=.returned (v0_)∧Kd.R k109 109 w' w.heap.size (fun _=>True) v0_ r∧Below w.heap.size w w':=by
 have lD:=Try.underlying25
 have mD:=Try.underlying27
 have bD:=Try.underlying109
 have eC:=AM mB
 have cD:=AM nB
 clear mB nB
 have dD:=AM oB
 have eD:=AM pB
 clear oB pB
 have fD:=AM qB
 have gD:=AM rB
 clear qB rB
 have HB:=AM (Below.refl w.heap.size w)
 have H:(Q05.l0 k ([]:List (S109)) bA (bA.length:Int) 0)=some r:=h
 clear h
 have H':=AM H
 clear H
 go_enter Try.func76,Try.ntmps76
 go_wp2_with (first|((with_reducible refine Q0i (N:=1) rfl ?_);refine bE 1 #[.slice iB bA.length bB,.slice cB sA.length eB,.slice fB tA.length gB] 25 ?_;intro hB hg w2 hbox hb;have dA:=AM hbox;have fC:=kG HB hg;replace HB:=kH HB hb;have hD:=fC;clear hb hbox hg;obtain ⟨tB,uB,vB,wB,xB,yB⟩:=c3 dA))
 go_loopg [3,10] k (fun kq v3 nD w'=>∃ (jB:List (S109)) (aA:Int),nD=.int .i64 aA∧Aside0 (Q05.l0 kq jB bA (bA.length:Int) aA=some r)∧Aside0 (kq≤k)∧Aside0 (Kd.R k109 109 w' w.heap.size (fun _=>True) v3 jB)∧Aside0 (w'.heap[hB]? = some (.cells #[(.slice iB bA.length bB),(.slice cB sA.length eB),(.slice fB tA.length gB)] 25 (0,0)))∧Aside0 (Below w.heap.size w w'))
 case atStart=>exact ⟨(([]:List (S109))),(0),rS,H',⟨Nat.le_refl _⟩,⟨by first|exact Kd.Q3k _ _ _ _ _|exact Kd.Q3t _ _ _ _ _|exact Kd.Q3x _ _ _ _ _|exact Kd.Q3v _ _ _ _ _|exact Kd.Q3y _ _ _ _ _⟩,⟨bK dA⟩,⟨ bH HB⟩⟩
 case round =>
  clear H'
  clear tB uB vB wB xB yB
  obtain ⟨jB,aA,rfl,HA,mC,HO_3,dA,HB⟩:=hrel
  cases gk with
  | zero=>exact absurd HA.out (by simp [Q05.l0])
  | succ k1 =>
   have H:=HA.out;clear HA
   simp only [Q05.l0] at H
   apply iC H<;>clear H<;>intro sC H
   ·apply iN H;clear H;intro tC H
    ·apply iN H;clear H;intro uC H
     ·have H':=AM H
      clear H
      have kB:0≤(aA:Int):=pD
      have lB:aA<(bA.length:Int):=pD
      obtain ⟨sB,vC,wC,xC,uA,xA,yA⟩:=Q30 eC.out aA kB lB
      cases xC
      replace uA:=hW HB uA
      have zA:=AM yA
      have nC:=AM xA
      clear yA xA;replace kB:=eq_true kB;replace lB:=eq_true lB
      go_wp2
      go_loopg [3,6] k1 (fun kq v3 v6 w'=>∃ (vA:List (S109)) (cA:Int),v6=.int .i64 cA∧Aside0 (Q05.l1 kq vA aA (Q0e bA aA) cA bA (bA.length:Int) aA=some r)∧Aside0 (kq≤k1)∧Aside0 (Kd.R k109 109 w' w.heap.size (fun _=>True) v3 vA)∧Aside0 (w'.heap[hB]? = some (.cells #[(.slice (some sB) bA.length bB),(.slice cB sA.length eB),(.slice fB tA.length gB)] 25 (0,0)))∧Aside0 (Below w.heap.size w w'))
      case atStart=>exact ⟨(jB),(1),rS,H',⟨Nat.le_refl _⟩,⟨rK HO_3⟩,⟨bK dA⟩,⟨ bH HB⟩⟩
      case round =>
       clear H'
       clear sC tC uC uA kB lB
       obtain ⟨vA,cA,rfl,HA,oC,HO_3,dA,HB⟩:=hrel
       cases gk with
       | zero=>exact absurd HA.out (by simp [Q05.l1])
       | succ k2 =>
        have H:=HA.out;clear HA
        simp only [Q05.l1] at H
        apply iC H<;>clear H<;>intro oD H
        ·obtain ⟨fA,zB⟩:∃ j_:Int,(wrap64 (cA - 1))=j_:=⟨_,rfl⟩
         replace H:(if 0≤(fA) then (if (fA)<((Q0e bA aA).length:Int) then (if 0≤cA then (if vA.length<1954687338268 then (Q05.l1 k2 (vA++[(⟨(⟨(Q0a (Q0e bA aA) (fA)).f0,(Q0a (Q0e bA aA) (fA)).f1,(Q0a (Q0e bA aA) (fA)).f2⟩:S27),(⟨(Q0a (Q0e bA aA) cA).f0,(Q0a (Q0e bA aA) cA).f1,(Q0a (Q0e bA aA) cA).f2⟩:S27),aA,cA,(cA==1),(cA==(wrap64 (((Q0e bA aA).length:Int) - 1)))⟩:S109)]) aA (Q0e bA aA) (wrap64 (cA+1)) bA (bA.length:Int) aA) else (none)) else (none)) else (none)) else (none))=some r:=by first|(rw [zB] at H;exact H)|(simp only [zB] at H ⊢;exact H)
         have iD:(IntKind.i64.wrap (cA - 1))=fA:=(Q1r _).trans zB
         apply iN H;clear H;intro qD H
         ·apply iN H;clear H;intro jD H
          ·apply iN H;clear H;intro kD H
           ·by_cases pC:vA.length<1954687338268
            ·rw [if_pos pC] at H
             have gC:=AM pC
             clear pC
             obtain ⟨hC,wA⟩:∃ y_:List (S109),y_=(vA++[(⟨(⟨(Q0a (Q0e bA aA) (fA)).f0,(Q0a (Q0e bA aA) (fA)).f1,(Q0a (Q0e bA aA) (fA)).f2⟩:S27),(⟨(Q0a (Q0e bA aA) cA).f0,(Q0a (Q0e bA aA) cA).f1,(Q0a (Q0e bA aA) cA).f2⟩:S27),aA,cA,(cA==1),(cA==(wrap64 (((Q0e bA aA).length:Int) - 1)))⟩:S109)]):=⟨_,rfl⟩
             replace H:(Q05.l1 k2 hC aA (Q0e bA aA) (wrap64 (cA+1)) bA (bA.length:Int) aA)=some r:=by first|(rw [wA];with_reducible exact H)|(have yC:=(Option.bind_some _ _).symm.trans H;rw [wA];with_reducible exact yC)|(have yC:=(Option.bind_some _ _).symm.trans H;with_reducible exact yC)|with_reducible exact H|(rw [wA];exact H)|exact H
             have jC:=AM wA
             clear wA
             have H':=AM H
             clear H
             try go_wp2
             replace HO_3:=dR HO_3;replace dA:=dB dA;replace HB:=dH HB
             have aC:0≤((fA):Int):=pD
             have bC:(fA)<((Q0e bA aA).length:Int):=pD
             obtain ⟨eA,zC,gA,hA,iA⟩:=Q2i zA.out (fA) aC bC
             have jA:=iA;have kA:=hA;have lA:=gA
             cases zC
             replace gA:=hW HB gA;replace hA:=hW HB hA;replace iA:=hW HB iA;replace aC:=eq_true aC;replace bC:=eq_true bC
             have cC:0≤(cA:Int):=pD
             have dC:cA<((Q0e bA aA).length:Int):=pD
             obtain ⟨kC,aD,mA,nA,oA⟩:=Q2i zA.out cA cC dC
             have pA:=oA;have qA:=nA;have rA:=mA
             obtain rfl:eA=kC:=(by injection aD)
             replace mA:=hW HB mA;replace nA:=hW HB nA;replace oA:=hW HB oA;replace cC:=eq_true cC;replace dC:=eq_true dC
             refine sP 23 (S:=fun w'=>w'.cell? (eA.add (((fA)).toNat*3))=some (.int .i64 ((Q0a (Q0e bA aA) (fA)).f0))∧w'.cell? ⟨(eA.add (((fA)).toNat*3)).block,(eA.add (((fA)).toNat*3)).off+1,none⟩=some (.int .i64 ((Q0a (Q0e bA aA) (fA)).f1))∧w'.cell? ⟨(eA.add (((fA)).toNat*3)).block,(eA.add (((fA)).toNat*3)).off+2,none⟩=some (.int .i64 ((Q0a (Q0e bA aA) (fA)).f2))∧w'.cell? (eA.add ((cA).toNat*3))=some (.int .i64 ((Q0a (Q0e bA aA) cA).f0))∧w'.cell? ⟨(eA.add ((cA).toNat*3)).block,(eA.add ((cA).toNat*3)).off+1,none⟩=some (.int .i64 ((Q0a (Q0e bA aA) cA).f1))∧w'.cell? ⟨(eA.add ((cA).toNat*3)).block,(eA.add ((cA).toNat*3)).off+2,none⟩=some (.int .i64 ((Q0a (Q0e bA aA) cA).f2))) (ds:=[]) ⟨(hW HB lA :),(hW HB kA :),(hW HB jA :),(hW HB rA :),(hW HB qA :),(hW HB pA :)⟩ fun hHeld => ?_;refine Q1m Q05.tab8 Q05.bits8 (fun HT_ HW_ => ?_)
             generalize wr.drew=w13 at HO_3 dA HB gA hA iA mA nA oA hHeld ⊢
             refine pQ 0 (some 21) HT_ ?_;refine pQ 1 (some 22) HT_ ?_;refine pQ 2 (some 23) HT_ ?_;refine pQ 3 (some 24) HT_ ?_;refine pQ 4 (some 25) HT_ ?_;refine pQ 6 (some 27) HT_ ?_;refine pQ 7 (some 28) HT_ ?_;refine pQ 8 (some 29) HT_ ?_;refine pQ 10 (some 31) HT_ ?_;refine pQ 11 (some 32) HT_ ?_;refine pQ 12 (some 33) HT_ ?_;refine pQ 13 (some 34) HT_ ?_;refine pQ 14 (some 35) HT_ ?_;refine pQ 15 (some 36) HT_ ?_;refine pQ 16 (some 37) HT_ ?_;refine pQ 17 (some 38) HT_ ?_;refine pQ 18 (some 39) HT_ ?_;refine tQ 5 (some 26) HT_ HW_ hHeld ?_;refine tQ 9 (some 30) HT_ HW_ hHeld ?_;refine pQ 19 (some 40) HT_ ?_
             refine oQ 20 (some 41) HT_ rfl fun K hK => ?_
             refine value_ (w1 := ?_) (v := ?_) (by rfl) rfl ?_ ?_
             rotate_left 2
             ·go_simp
              constructor
              ·rfl
              ·rfl
             refine hK.out _ _ ⟨(World.cell?_alloc_lt _ _ _ (World.block_lt_of_cell? _ _ ((hW HB lA :)))).trans ((hW HB lA :)),(World.cell?_alloc_lt _ _ _ (World.block_lt_of_cell? _ _ ((hW HB kA :)))).trans ((hW HB kA :)),(World.cell?_alloc_lt _ _ _ (World.block_lt_of_cell? _ _ ((hW HB jA :)))).trans ((hW HB jA :)),(World.cell?_alloc_lt _ _ _ (World.block_lt_of_cell? _ _ ((hW HB rA :)))).trans ((hW HB rA :)),(World.cell?_alloc_lt _ _ _ (World.block_lt_of_cell? _ _ ((hW HB qA :)))).trans ((hW HB qA :)),(World.cell?_alloc_lt _ _ _ (World.block_lt_of_cell? _ _ ((hW HB pA :)))).trans ((hW HB pA :))⟩ (fun hHeld => ?_)
             clear hK K;refine nP (some 41) ?_
             refine oQ 21 (some 42) HT_ rfl fun K hK => ?_
             refine Kd.Q5y k109 (w0:=w) w.heap.size (by rfl) (.tmp 21) (.tmp 41) 106 109 (.agg #[(.int .i64 0),(.int .i64 0),(.int .i64 0),(.int .i64 0),(.int .i64 0),(.int .i64 0),(.int .i64 0),(.int .i64 0),(.bool false),(.bool false)]) 72 rfl Try.underlying106 info109 rfl (by decide) (by omega) u3 vA (⟨(⟨(Q0a (Q0e bA aA) (fA)).f0,(Q0a (Q0e bA aA) (fA)).f1,(Q0a (Q0e bA aA) (fA)).f2⟩:S27),(⟨(Q0a (Q0e bA aA) cA).f0,(Q0a (Q0e bA aA) cA).f1,(Q0a (Q0e bA aA) cA).f2⟩:S27),aA,cA,(cA==1),(cA==(wrap64 (((Q0e bA aA).length:Int) - 1)))⟩:S109) [.int .i64 ((Q0a (Q0e bA aA) (fA)).f0),.int .i64 ((Q0a (Q0e bA aA) (fA)).f1),.int .i64 ((Q0a (Q0e bA aA) (fA)).f2),.int .i64 ((Q0a (Q0e bA aA) cA).f0),.int .i64 ((Q0a (Q0e bA aA) cA).f1),.int .i64 ((Q0a (Q0e bA aA) cA).f2),.int .i64 aA,.int .i64 cA,.bool (cA==1),.bool (cA==(wrap64 (((Q0e bA aA).length:Int) - 1)))] (fun _=>True) (fun _=>False) rfl rfl ?aP (fun _ hk=>hk.elim) ?aF ?aO ?aB ?aS ?aL ?_
             (case aP=>exact Qc7 _ _ _ (⟨(⟨(Q0a (Q0e bA aA) (fA)).f0,(Q0a (Q0e bA aA) (fA)).f1,(Q0a (Q0e bA aA) (fA)).f2⟩:S27),(⟨(Q0a (Q0e bA aA) cA).f0,(Q0a (Q0e bA aA) cA).f1,(Q0a (Q0e bA aA) cA).f2⟩:S27),aA,cA,(cA==1),(cA==(wrap64 (((Q0e bA aA).length:Int) - 1)))⟩:S109))
             (case aB=>exact (bH HB))
             (case aF=>exact (fun _ _=>trivial))
             (case aO=>exact (rK HO_3))
             (case aS=>exact (Q0h (bH HB)))
             (case aL=>have:=gC.out;omega)
             intro rD sD ho hb hg hat
             rw [← jC.out] at ho
             replace dA:=AM (Q1w (g:=hB) (o:=.cells #[.slice (some sB) bA.length bB,.slice cB sA.length eB,.slice fB tA.length gB] 25 (0,0)) (bK dA) hg (Kd.R_ne HO_3.out dA.out (by decide)))
             replace HB:=AM hb;have lC:=AM ho;clear HO_3;clear ho hb hg hat
             refine hK.out _ _ ⟨(hW HB lA :),(hW HB kA :),(hW HB jA :),(hW HB rA :),(hW HB qA :),(hW HB pA :)⟩ (fun hHeld => ?_)
             clear hK K;refine nP (some 42) ?_;refine pQ 22 (some 3) HT_ ?_
             refine done_ (Q2d HT_.out (by kernel_rfl)) ?_
             try go_wp2
             go_roundg k2
             case measure=>have:=mC.out;have:=oC.out;omega
             case rel=>exact ⟨(hC),(wrap64 (cA+1)),rS,H',⟨by have:=mC.out;have:=oC.out;omega⟩,⟨rK lC⟩,⟨bK dA⟩,⟨ bH HB⟩⟩
            ·rw [if_neg pC] at H
             exact absurd H (by simp)
        ·have H':=AM H
         clear H
         go_wp2
         go_roundg k2
         case measure=>have:=mC.out;have:=oC.out;omega
         case rel=>exact ⟨(vA),(wrap64 (aA+1)),rS,H',⟨by have:=mC.out;have:=oC.out;omega⟩,⟨rK HO_3⟩,⟨bK dA⟩,⟨ bH HB⟩⟩
   ·obtain rfl:=Option.some.inj H
    go_wp2
    go_ret
    exact ⟨_,rE,rK HO_3,bH HB⟩
end Go.Proofs.Ytbonkedecfjmdaa.P
