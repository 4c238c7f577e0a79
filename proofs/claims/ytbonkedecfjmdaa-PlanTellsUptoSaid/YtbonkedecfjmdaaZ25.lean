/- Written for this claim by a program of this session (a turned copy of the print): Go functions as Lean functions, and that the Go code comes to just these answers; or a statement proved out of them. No condition. slices.IndexFunc and slices.ContainsFunc with a function that is handed in. No condition. -/
import Derived.Test.YtbonkedecfjmdaaZ24
import Derived.Test.YtbonkedecfjmdaaZ2
import Derived.Test.YtbonkedecfjmdaaZ11
import Derived.Test.YtbonkedecfjmdaaZ7
import Derived.Test.YtbonkedecfjmdaaZ10
import Derived.Test.YtbonkedecfjmdaaZ19
import Derived.WalkMore
import Derived.Shelf.SlicesQ.IndexFunc

namespace Go.Proofs.Ytbonkedecfjmdaa.P
open Go.RowKit Go.Proofs.YtbonkedecfjmdaaW.PrintWords Go.Proofs.YtbonkedecfjmdaaW.PrintLast Go.Proofs.YtbonkedecfjmdaaW.PrintMore Go.Proofs.Ytbonkedecfjmdaa.X
attribute [local go_sem] Q2a Q2b Q2s Q2q Q1z Q1y Q19 Q2c Q2r Q2p add64
set_option linter.unusedVariables false
set_option linter.unusedSimpArgs false
def Q3z.f (l0:List (S27)) (a1:Int) (l2:List (S27)) (a3:Int) (a4:Bool):Option (Bool):=if 0≤a1∧a1+1<(l0.length:Int)∧0≤a3∧a3+1<(l2.length:Int)∧l0.length≤1048576∧l2.length≤1048576 then (some (Pl.commonV l0 a1.toNat l2 a3.toNat a4)) else (none)
set_option maxHeartbeats 8000000 in
set_option maxRecDepth 100000 in
theorem Q3z.calls (A0:Option Addr) (c0:Nat) (l0:List (S27)) (a1:Int) (A2:Option Addr) (c2:Nat) (l2:List (S27)) (a3:Int) (a4:Bool) (r:Bool) (w:World) (aA:Kd.C k27 w A0 l0.length l0) (bA:l0.length≤c0) (cA:Kd.C k27 w A2 l2.length l2) (dA:l2.length≤c2) (h:Q3z.f l0 a1 l2 a3 a4=some r) :
  Calls Try.prog 55 #[.slice A0 l0.length c0,.int .i64 a1,.slice A2 l2.length c2,.int .i64 a3,.bool a4] w fun e w'=>e=.returned (.bool r)∧Below w.heap.size w w':=by
 unfold Q3z.f at h
 by_cases hl:0≤a1∧a1+1<(l0.length:Int)∧0≤a3∧a3+1<(l2.length:Int)∧l0.length≤1048576∧l2.length≤1048576
 ·rw [if_pos hl] at h
  obtain rfl:=Option.some.inj h
  exact (by obtain ⟨h0,h1,h2,h3,h4,h5⟩:=hl;obtain ⟨i,rfl⟩:=Int.eq_ofNat_of_zero_le h0;obtain ⟨k,rfl⟩:=Int.eq_ofNat_of_zero_le h2;simp only [Int.toNat_natCast];exact Pl.Q8j A0 A2 c0 c2 l0 l2 i k a4 w aA bA cA dA (by omega) (by omega) h4 h5)
 ·rw [if_neg hl] at h;cases h

mutual
def Q0m.l0:Nat→Int→List (List (S27))→List (List Int)→List (List Int)→Option (Bool)
 | 0,_,_,_,_=>none
 | k+1,x3,x358000,x358001,x358002=>if x3<(x358000.length:Int) then (Q0m.l1 k x3 0 x358000 x358001 x358002) else (some false)
def Q0m.l1:Nat→Int→Int→List (List (S27))→List (List Int)→List (List Int)→Option (Bool)
 | 0,_,_,_,_,_=>none
 | k+1,x3,x4,x358000,x358001,x358002=>if x4<(x358000.length:Int) then (Q0m.l2 k x3 x4 0 x358000 x358001 x358002) else (Q0m.l0 k (wrap64 (x3+1)) x358000 x358001 x358002)
def Q0m.l2:Nat→Int→Int→Int→List (List (S27))→List (List Int)→List (List Int)→Option (Bool)
 | 0,_,_,_,_,_,_=>none
 | k+1,x3,x4,x5,x358000,x358001,x358002=>if 0≤x3 then (if x3<(x358000.length:Int) then (if (wrap64 (x5+1))<((Q0e x358000 x3).length:Int) then (Q0m.l3 k x3 x4 x5 0 x358000 x358001 x358002) else (Q0m.l1 k x3 (wrap64 (x4+1)) x358000 x358001 x358002)) else (none)) else (none)
def Q0m.l3:Nat→Int→Int→Int→Int→List (List (S27))→List (List Int)→List (List Int)→Option (Bool)
 | 0,_,_,_,_,_,_,_=>none
 | k+1,x3,x4,x5,x6,x358000,x358001,x358002=>if 0≤x4 then (if x4<(x358000.length:Int) then (if (wrap64 (x6+1))<((Q0e x358000 x4).length:Int) then (if x3=x4 then (Q0m.j4 k x3 x4 x5 x6 (x5==x6) x358000 x358001 x358002) else (Q0m.j4 k x3 x4 x5 x6 false x358000 x358001 x358002)) else (Q0m.l2 k x3 x4 (wrap64 (x5+1)) x358000 x358001 x358002)) else (none)) else (none)
def Q0m.j4:Nat→Int→Int→Int→Int→Bool→List (List (S27))→List (List Int)→List (List Int)→Option (Bool)
 | 0,_,_,_,_,_,_,_,_=>none
 | k+1,x3,x4,x5,x6,x54,x358000,x358001,x358002=>if x54=true then (Q0m.l3 k x3 x4 x5 (wrap64 (x6+1)) x358000 x358001 x358002) else (if 0≤x3 then (if x3<(x358000.length:Int) then (if 0≤x4 then (if x4<(x358000.length:Int) then ((Q3z.f (Q0e x358000 x3) x5 (Q0e x358000 x4) x6 (x3==x4)).bind fun cD=>(if cD=true then (Q0m.l3 k x3 x4 x5 (wrap64 (x6+1)) x358000 x358001 x358002) else (some true))) else (none)) else (none)) else (none)) else (none))
end
def Q0m.f (k:Nat) (bA:List (List (S27))) (eA:List (List Int)) (fA:List (List Int)):Option (Bool):=(Q0l.f k bA).bind fun xA=>(if xA=0 then (Q0m.l0 k 0 bA eA fA) else (some false))
theorem Q0m.Q1a:∀ k,(∀ y0 y1 y2 y3,LeO (Q0m.l0 k y0 y1 y2 y3) (Q0m.l0 (k+1) y0 y1 y2 y3))∧(∀ y0 y1 y2 y3 y4,LeO (Q0m.l1 k y0 y1 y2 y3 y4) (Q0m.l1 (k+1) y0 y1 y2 y3 y4))∧(∀ y0 y1 y2 y3 y4 y5,LeO (Q0m.l2 k y0 y1 y2 y3 y4 y5) (Q0m.l2 (k+1) y0 y1 y2 y3 y4 y5))∧(∀ y0 y1 y2 y3 y4 y5 y6,LeO (Q0m.l3 k y0 y1 y2 y3 y4 y5 y6) (Q0m.l3 (k+1) y0 y1 y2 y3 y4 y5 y6))∧(∀ y0 y1 y2 y3 y4 y5 y6 y7,LeO (Q0m.j4 k y0 y1 y2 y3 y4 y5 y6 y7) (Q0m.j4 (k+1) y0 y1 y2 y3 y4 y5 y6 y7))
 | 0=>⟨fun _ _ _ _ r h=>by simp [Q0m.l0] at h,fun _ _ _ _ _ r h=>by simp [Q0m.l1] at h,fun _ _ _ _ _ _ r h=>by simp [Q0m.l2] at h,fun _ _ _ _ _ _ _ r h=>by simp [Q0m.l3] at h,fun _ _ _ _ _ _ _ _ r h=>by simp [Q0m.j4] at h⟩
 | k+1=>by
  obtain ⟨aG,bG,cG,dG,eG⟩:=Q0m.Q1a k
  refine ⟨?_,?_,?_,?_,?_⟩
  all_goals
   intros
   first|unfold Q0m.l0|unfold Q0m.l1|unfold Q0m.l2|unfold Q0m.l3|unfold Q0m.j4
   repeat' with_reducible first|exact aG _ _ _ _|exact bG _ _ _ _ _|exact cG _ _ _ _ _ _|exact dG _ _ _ _ _ _ _|exact eG _ _ _ _ _ _ _ _|exact Q0l.mono _ _|exact LeO.refl _|exact LeO.none _|refine LeO.ite ?_ ?_|refine LeO.bind ?_ (fun _ => ?_)
theorem Q0m.mono:∀ a0 a1 a2 k,LeO (Q0m.f k a0 a1 a2) (Q0m.f (k+1) a0 a1 a2):=by
 intro a0 a1 a2 k
 obtain ⟨aG,bG,cG,dG,eG⟩:=Q0m.Q1a k
 unfold Q0m.f
 repeat' with_reducible first|exact aG _ _ _ _|exact bG _ _ _ _ _|exact cG _ _ _ _ _ _|exact dG _ _ _ _ _ _ _|exact eG _ _ _ _ _ _ _ _|exact Q0l.mono _ _|exact LeO.refl _|exact LeO.none _|refine LeO.ite ?_ ?_|refine LeO.bind ?_ (fun _ => ?_)
def Q0m.T16:Bool×List (List Nat×List Nat):=(true,[([],[]),([0],[0]),([],[]),([1,2],[1,2]),([3],[3]),([],[]),([],[]),([6],[6]),([],[]),([7,8],[7,8]),([9],[9]),([],[]),([],[]),([],[]),([12,13],[12,13]),([4,5,10,11,14],[4,5,10,11,14]),([15],[15])])
def Q0m.B16:List Nat:=[0,1,0,7,15,0,0,64,0,448,960,0,0,0,12288,32767,65535]
theorem Q0m.tab16:rtab .any (opsOf Try.f29 16)=Q0m.T16:=by kernel_rfl
theorem Q0m.bits16:waitsOk Q0m.T16.2 Q0m.B16=true:=by kernel_rfl
set_option maxHeartbeats 8000000 in
set_option maxRecDepth 100000 in
theorem Q0m.calls (k:Nat) (cC:Option Addr) (yA:Nat) (bA:List (List (S27))) (aB:Option Addr) (bB:Nat) (eA:List (List Int)) (cB:Option Addr) (eB:Nat) (fA:List (List Int)) (r:Bool) (w:World) (sD:Kd.C (Kd.slice 27 k27) w cC bA.length bA) (tD:bA.length≤yA) (uD:Kd.C (Kd.slice 3 (Kd.int .i64)) w aB eA.length eA) (vD:eA.length≤bB) (wD:Kd.C (Kd.slice 3 (Kd.int .i64)) w cB fA.length fA) (xD:fA.length≤eB) (h:Q0m.f k bA eA fA=some r) :
  Calls Try.prog 29 #[.agg #[.slice cC bA.length yA,.slice aB eA.length bB,.slice cB fA.length eB]] w fun e w'=>e=.returned (.bool r)∧Below w.heap.size w w':=by
 have sG:=Try.underlying25
 have qA:=AM sD
 have qE:=AM tD
 clear sD tD
 have hG:=AM uD
 have iG:=AM vD
 clear uD vD
 have jG:=AM wD
 have lG:=AM xD
 clear wD xD
 have HB:=AM (Below.refl w.heap.size w)
 have H:((Q0l.f k bA).bind fun xA=>(if xA=0 then (Q0m.l0 k 0 bA eA fA) else (some false)))=some r:=h
 clear h
 obtain ⟨xA,A2,H⟩:=bS H
 have mG:=AM H
 clear H
 go_enter Try.func29,Try.ntmps29
 go_upto_if 10 with (first|((with_reducible refine Q0i (N:=1) rfl ?_);refine bE 1 #[.slice cC bA.length yA,.slice aB eA.length bB,.slice cB fA.length eB] 25 ?_;intro nA hg w4 hbox hb;have aA:=AM hbox;have sE:=kG HB hg;replace HB:=kH HB hb;have nG:=sE;clear hb hbox hg;obtain ⟨rA,sA,tA,uA,vA,wA⟩:=c3 aA)|((with_reducible refine Q0n (f:=27) rfl ?_);refine gL (some 9) Try.func27 #[.slice cC bA.length yA] ?_;(with_reducible refine (Q0l.calls k _ _ bA xA _ ?side1 ?side2 A2.out).mono ?_);(case side1=>exact sC qA HB);(case side2=>exact qE.out);rintro e w6 ⟨rfl,hb⟩;refine ⟨_,rfl,?_⟩;replace aA:=kB aA hb;replace HB:=kH HB hb;(try clear hb);(try clear hb2);(try clear hk);(try clear hi)))
 (try simp only [Act.put,List.setIfInBounds_toArray,List.set_cons_zero,List.set_cons_succ])
 have H:=mG.out;clear mG
 by_cases c7:xA=0
 ·rw [if_pos c7] at H
  have xB:(xA==0)=true:=beq_iff_eq.mpr c7
  have yB:(xA != 0)=false:=bne_eq_false_iff_eq.mpr c7
  clear c7
  (first|rw [yB]|rw [xB])
  have H':=AM H
  clear H
  go_wp2
  go_loopg [3] k (fun kq v3 w'=>∃ (cA:Int),v3=.int .i64 cA∧Aside0 (Q0m.l0 kq cA bA eA fA=some r)∧Aside0 (kq≤k)∧Aside0 (w'.heap[nA]? = some (.cells #[(.slice cC bA.length yA),(.slice aB eA.length bB),(.slice cB fA.length eB)] 25 (0,0)))∧Aside0 (Below w.heap.size w w'))
  case atStart=>exact ⟨(0),rS,H',⟨Nat.le_refl _⟩,⟨bK aA⟩,⟨ bH HB⟩⟩
  case round =>
   clear H'
   (try clear c2);(try clear p2);(try clear c7);(try clear xB);(try clear yB);(try clear rA);(try clear sA);(try clear tA);(try clear uA);(try clear vA);(try clear wA)
   obtain ⟨cA,rfl,HA,tC,aA,HB⟩:=hrel
   cases gk with
   | zero=>exact absurd HA.out (by simp [Q0m.l0])
   | succ k1 =>
    have H:=HA.out;clear HA
    simp only [Q0m.l0] at H
    apply iC H<;>clear H<;>intro dD H
    ·have H':=AM H
     clear H;obtain ⟨fB,gB,hB,iB,jB,lB⟩:=c3 aA
     go_wp2
     go_loopg [4] k1 (fun kq v4 w'=>∃ (dA:Int),v4=.int .i64 dA∧Aside0 (Q0m.l1 kq cA dA bA eA fA=some r)∧Aside0 (kq≤k1)∧Aside0 (w'.heap[nA]? = some (.cells #[(.slice cC bA.length yA),(.slice aB eA.length bB),(.slice cB fA.length eB)] 25 (0,0)))∧Aside0 (Below w.heap.size w w'))
     case atStart=>exact ⟨(0),rS,H',⟨Nat.le_refl _⟩,⟨bK aA⟩,⟨ bH HB⟩⟩
     case round =>
      clear H'
      (try clear c2);(try clear p2);(try clear c7);(try clear xB);(try clear yB);(try clear c8);(try clear dD);(try clear rA);(try clear sA);(try clear tA);(try clear fB);(try clear gB);(try clear hB);(try clear uA);(try clear vA);(try clear wA);(try clear iB);(try clear jB);(try clear lB);(try clear p2)
      obtain ⟨dA,rfl,HA,uC,aA,HB⟩:=hrel
      cases gk with
      | zero=>exact absurd HA.out (by simp [Q0m.l1])
      | succ k2 =>
       have H:=HA.out;clear HA
       simp only [Q0m.l1] at H
       apply iC H<;>clear H<;>intro vC H
       ·have H':=AM H
        clear H;obtain ⟨mB,nB,oB,pB,qB,rB⟩:=c3 aA
        go_wp2
        go_loopg [5] k2 (fun kq v5 w'=>∃ (sB:Int),v5=.int .i64 sB∧Aside0 (Q0m.l2 kq cA dA sB bA eA fA=some r)∧Aside0 (kq≤k2)∧Aside0 (w'.heap[nA]? = some (.cells #[(.slice cC bA.length yA),(.slice aB eA.length bB),(.slice cB fA.length eB)] 25 (0,0)))∧Aside0 (Below w.heap.size w w'))
        case atStart=>exact ⟨(0),rS,H',⟨Nat.le_refl _⟩,⟨bK aA⟩,⟨ bH HB⟩⟩
        case round =>
         clear H'
         (try clear c1);(try clear c2);(try clear p2);(try clear c7);(try clear xB);(try clear yB);(try clear c8);(try clear dD);(try clear c10);(try clear vC);(try clear mB);(try clear nB);(try clear oB);(try clear rA);(try clear sA);(try clear tA);(try clear fB);(try clear gB);(try clear hB);(try clear pB);(try clear qB);(try clear rB);(try clear uA);(try clear vA);(try clear wA);(try clear iB);(try clear jB);(try clear lB);(try clear p2)
         obtain ⟨sB,rfl,HA,bD,aA,HB⟩:=hrel
         cases gk with
         | zero=>exact absurd HA.out (by simp [Q0m.l2])
         | succ k3 =>
          have H:=HA.out;clear HA
          simp only [Q0m.l2] at H
          apply iN H;clear H;intro yD H
          ·apply iN H;clear H;intro zD H
           ·apply iC H<;>clear H<;>intro aE H
            ·have H':=AM H
             clear H;obtain ⟨dC,eC,fC,gC,hC,jC⟩:=c3 aA
             have tB:0≤(cA:Int):=pD
             have uB:cA<(bA.length:Int):=pD
             obtain ⟨iA,fE,gE,hE,gA,jA,kA⟩:=Q30 qA.out cA tB uB
             cases hE
             replace gA:=hW HB gA
             have eD:=AM kA
             have fD:=AM jA
             clear kA jA;replace tB:=eq_true tB;replace uB:=eq_true uB
             go_wp2
             go_loopg [6] k3 (fun kq v6 w'=>∃ (vB:Int),v6=.int .i64 vB∧Aside0 (Q0m.l3 kq cA dA sB vB bA eA fA=some r)∧Aside0 (kq≤k3)∧Aside0 (w'.heap[nA]? = some (.cells #[(.slice (some iA) bA.length yA),(.slice aB eA.length bB),(.slice cB fA.length eB)] 25 (0,0)))∧Aside0 (Below w.heap.size w w'))
             case atStart=>exact ⟨(0),rS,H',⟨Nat.le_refl _⟩,⟨bK aA⟩,⟨ bH HB⟩⟩
             case round =>
              clear H'
              (try clear c1);(try clear c2);(try clear p2);(try clear c3);(try clear p3);(try clear q3);(try clear hx3);(try clear p6);(try clear c7);(try clear xB);(try clear yB);(try clear c8);(try clear dD);(try clear c10);(try clear vC);(try clear c12);(try clear yD);(try clear c13);(try clear zD);(try clear c14);(try clear aE);(try clear mB);(try clear nB);(try clear oB);(try clear dC);(try clear eC);(try clear fC);(try clear rA);(try clear sA);(try clear tA);(try clear fB);(try clear gB);(try clear hB);(try clear pB);(try clear qB);(try clear rB);(try clear gC);(try clear hC);(try clear jC);(try clear uA);(try clear vA);(try clear wA);(try clear iB);(try clear jB);(try clear lB);(try clear gA);(try clear p2);(try clear tB);(try clear uB)
              obtain ⟨vB,rfl,HA,cE,aA,HB⟩:=hrel
              cases gk with
              | zero=>exact absurd HA.out (by simp [Q0m.l3])
              | succ k4 =>
               have H:=HA.out;clear HA
               simp only [Q0m.l3] at H
               apply iN H;clear H;intro tE H
               ·apply iN H;clear H;intro uE H
                ·apply iC H<;>clear H<;>intro vE H
                 ·have iE:=AM H
                  clear H;obtain ⟨gD,hD,iD,jD,kD,lD⟩:=c3 aA
                  have zB:0≤(dA:Int):=pD
                  have aC:dA<(bA.length:Int):=pD
                  obtain ⟨wC,jE,kE,lE,hA,lA,mA⟩:=Q30 qA.out dA zB aC
                  obtain rfl:iA=wC:=(by injection lE)
                  replace hA:=hW HB hA
                  have mD:=AM mA
                  have nD:=AM lA
                  clear mA lA;replace zB:=eq_true zB;replace aC:=eq_true aC
                  go_upto_region 15 with (fail)
                  go_cut [54] (fun tG wc=>∃ (kq:Nat) (wB:Bool),tG=.bool wB∧Aside0 (Q0m.j4 kq cA dA sB vB wB bA eA fA=some r)∧Aside0 (kq≤k4)∧Aside0 (wc.heap[nA]? = some (.cells #[(.slice (some iA) bA.length yA),(.slice aB eA.length bB),(.slice cB fA.length eB)] 25 (0,0)))∧Aside0 (Below w.heap.size w wc))
                  case first =>
                   have H:=iE.out;clear iE
                   by_cases dE:cA=dA
                   ·rw [if_pos dE] at H
                    have zA:(cA==dA)=true:=beq_iff_eq.mpr dE
                    have eE:(cA != dA)=false:=bne_eq_false_iff_eq.mpr dE
                    clear dE
                    (first|rw [zA]|(simp only [Q1r,Q13];rw [zA])|skip)
                    have H':=AM H
                    clear H
                    go_wp2
                    go_meet
                    case rel=>exact ⟨_,((sB==vB)),rS,H',⟨by have:=tC.out;have:=uC.out;have:=bD.out;have:=cE.out;first|omega|exact Nat.le_refl _⟩,⟨bK aA⟩,⟨ bH HB⟩⟩
                   ·rw [if_neg dE] at H
                    have zA:(cA==dA)=false:=beq_eq_false_iff_ne.mpr dE
                    have eE:(cA != dA)=true:=bne_iff_ne.mpr dE
                    (first|rw [zA]|(simp only [Q1r,Q13];rw [zA])|skip)
                    have H':=AM H
                    clear H
                    go_wp2
                    go_meet
                    case rel=>exact ⟨_,(false),rS,H',⟨by have:=tC.out;have:=uC.out;have:=bD.out;have:=cE.out;first|omega|exact Nat.le_refl _⟩,⟨bK aA⟩,⟨ bH HB⟩⟩
                  case rest =>
                   clear iE;(try clear c1);(try clear c2);(try clear p2);(try clear c3);(try clear p3);(try clear q3);(try clear hx3);(try clear p6);(try clear c7);(try clear xB);(try clear yB);(try clear c8);(try clear dD);(try clear c10);(try clear vC);(try clear c12);(try clear yD);(try clear c13);(try clear zD);(try clear c14);(try clear aE);(try clear c16);(try clear tE);(try clear c17);(try clear uE);(try clear c18);(try clear vE);(try clear dE);(try clear zA);(try clear eE);(try clear mB);(try clear nB);(try clear oB);(try clear dC);(try clear eC);(try clear fC);(try clear gD);(try clear hD);(try clear iD);(try clear rA);(try clear sA);(try clear tA);(try clear fB);(try clear gB);(try clear hB);(try clear pB);(try clear qB);(try clear rB);(try clear gC);(try clear hC);(try clear jC);(try clear jD);(try clear kD)
                   (try clear lD);(try clear uA);(try clear vA);(try clear wA);(try clear iB);(try clear jB);(try clear lB);(try clear gA);(try clear hA);(try clear p2);(try clear p3);(try clear tB);(try clear zB);(try clear p6);(try clear q3);(try clear uB);(try clear aC)
                   obtain ⟨kq,wB,rfl,HA,oD,aA,HB⟩:=hcut
                   cases kq with
                   | zero=>exact absurd HA.out (by simp [Q0m.j4])
                   | succ kj18 =>
                    have H:=HA.out;clear HA
                    simp only [Q0m.j4] at H
                    by_cases zE:wB=true
                    ·subst zE
                     replace H:=iT H
                     have H':=AM H
                     clear H
                     go_wp2
                     go_roundg kj18
                     case measure=>have:=tC.out;have:=uC.out;have:=bD.out;have:=cE.out;have:=oD.out;omega
                     case rel=>exact ⟨(wrap64 (vB+1)),rS,H',⟨by have:=tC.out;have:=uC.out;have:=bD.out;have:=cE.out;have:=oD.out;omega⟩,⟨bK aA⟩,⟨ bH HB⟩⟩
                    ·replace zE:=Bool.eq_false_iff.mpr zE
                     subst zE
                     replace H:=iF H
                     apply iN H;clear H;intro oG H
                     ·apply iN H;clear H;intro pG H
                      ·apply iN H;clear H;intro qG H
                       ·apply iN H;clear H;intro rG H
                        ·obtain ⟨cD,uG,H⟩:=bS H
                         have wE:=AM H
                         clear H
                         try go_wp2
                         replace aA:=dB aA;replace HB:=dH HB
                         have mE:0≤(cA:Int):=pD
                         have nE:cA<(bA.length:Int):=pD
                         obtain ⟨xE,xC,yC,fG,oA,kC,lC⟩:=Q30 qA.out cA mE nE
                         have mC:=oA
                         obtain rfl:iA=xE:=(by injection fG)
                         replace oA:=hW HB oA
                         have nC:=AM lC
                         have qD:=AM kC
                         clear lC kC;replace mE:=eq_true mE;replace nE:=eq_true nE
                         have oE:0≤(dA:Int):=pD
                         have pE:dA<(bA.length:Int):=pD
                         obtain ⟨yE,zC,aD,gG,pA,oC,pC⟩:=Q30 qA.out dA oE pE
                         have qC:=pA
                         obtain rfl:iA=yE:=(by injection gG)
                         replace pA:=hW HB pA
                         have rC:=AM pC
                         have rD:=AM oC
                         clear pC oC;replace oE:=eq_true oE;replace pE:=eq_true pE
                         refine sP 17 (S:=fun w'=>w'.cell? ⟨nA,0,none⟩=some (.slice (some iA) bA.length yA)∧w'.cell? ⟨nA,1,none⟩=some (.slice aB eA.length bB)∧w'.cell? ⟨nA,2,none⟩=some (.slice cB fA.length eB)∧w'.cell? (iA.add (cA).toNat)=some (.slice xC (Q0e bA cA).length yC)∧w'.cell? (iA.add (dA).toNat)=some (.slice zC (Q0e bA dA).length aD)) (ds:=[]) ⟨bC aA,bC aA,bC aA,(hW HB mC :),(hW HB qC :)⟩ fun hHeld => ?_;refine Q1m Q0m.tab16 Q0m.bits16 (fun HT_ HW_ => ?_)
                         generalize wc.drew=w29 at aA HB nC rC oA pA hHeld ⊢
                         refine pQ 0 (some 55) HT_ ?_;refine pQ 2 (some 57) HT_ ?_;refine pQ 5 (some 60) HT_ ?_;refine pQ 6 (some 61) HT_ ?_;refine pQ 8 (some 63) HT_ ?_;refine pQ 11 (some 66) HT_ ?_;refine pQ 12 (some 67) HT_ ?_;refine pQ 13 (some 68) HT_ ?_;refine pQ 14 (some 69) HT_ ?_;refine tQ 1 (some 56) HT_ HW_ hHeld ?_;refine pQ 3 (some 58) HT_ ?_;refine tQ 4 (some 59) HT_ HW_ hHeld ?_;refine tQ 7 (some 62) HT_ HW_ hHeld ?_;refine pQ 9 (some 64) HT_ ?_;refine tQ 10 (some 65) HT_ HW_ hHeld ?_
                         refine oQ 15 (some 70) HT_ rfl fun K hK => ?_
                         refine gO Try.func55 #[.slice xC (Q0e bA cA).length yC,.int .i64 sB,.slice zC (Q0e bA dA).length aD,.int .i64 vB,.bool (cA==dA)] ?_
                         with_reducible refine (Q3z.calls _ _ (Q0e bA cA) sB _ _ (Q0e bA dA) vB (cA==dA) cD _ ?side1 ?side2 ?side3 ?side4 uG.out).mono ?_
                         (case side1=>exact sC nC HB)
                         (case side2=>exact qD.out)
                         (case side3=>exact sC rC HB)
                         (case side4=>exact rD.out)
                         rintro e vG ⟨rfl,hb⟩
                         refine ⟨_,rfl,?_⟩
                         replace aA:=kB aA hb;replace HB:=kH HB hb;(try clear hb);(try clear hb2);(try clear hk);(try clear hi)
                         refine hK.out _ _ ⟨bC aA,bC aA,bC aA,(hW HB mC :),(hW HB qC :)⟩ (fun hHeld => ?_)
                         clear hK K;refine nP (some 70) ?_;refine pQ 16 (some 71) HT_ ?_
                         refine done_ (Q2d HT_.out (by kernel_rfl)) ?_
                         go_upto_if 71 with (fail)
                         have H:=wE.out;clear wE
                         by_cases aF:cD=true
                         ·subst aF
                          replace H:=iT H
                          have H':=AM H
                          clear H
                          go_wp2
                          go_roundg kj18
                          case measure=>have:=tC.out;have:=uC.out;have:=bD.out;have:=cE.out;have:=oD.out;omega
                          case rel=>exact ⟨(wrap64 (vB+1)),rS,H',⟨by have:=tC.out;have:=uC.out;have:=bD.out;have:=cE.out;have:=oD.out;omega⟩,⟨bK aA⟩,⟨ bH HB⟩⟩
                         ·replace aF:=Bool.eq_false_iff.mpr aF
                          subst aF
                          replace H:=iF H
                          obtain rfl:=Option.some.inj H
                          go_wp2
                          go_ret
                          exact ⟨rE,bH HB⟩
                 ·have H':=AM H
                  clear H;obtain ⟨bF,cF,dF,eF,fF,gF⟩:=c3 aA
                  have zB:0≤(dA:Int):=pD
                  have aC:dA<(bA.length:Int):=pD
                  obtain ⟨wC,jE,kE,lE,hA,lA,mA⟩:=Q30 qA.out dA zB aC
                  obtain rfl:iA=wC:=(by injection lE)
                  replace hA:=hW HB hA
                  have mD:=AM mA
                  have nD:=AM lA
                  clear mA lA;replace zB:=eq_true zB;replace aC:=eq_true aC
                  go_wp2
                  go_roundg k4
                  case measure=>have:=tC.out;have:=uC.out;have:=bD.out;have:=cE.out;omega
                  case rel=>exact ⟨(wrap64 (sB+1)),rS,H',⟨by have:=tC.out;have:=uC.out;have:=bD.out;have:=cE.out;omega⟩,⟨bK aA⟩,⟨ bH HB⟩⟩
            ·have H':=AM H
             clear H;obtain ⟨hF,jF,kF,lF,mF,nF⟩:=c3 aA
             have tB:0≤(cA:Int):=pD
             have uB:cA<(bA.length:Int):=pD
             obtain ⟨iA,fE,gE,hE,gA,jA,kA⟩:=Q30 qA.out cA tB uB
             cases hE
             replace gA:=hW HB gA
             have eD:=AM kA
             have fD:=AM jA
             clear kA jA;replace tB:=eq_true tB;replace uB:=eq_true uB
             go_wp2
             go_roundg k3
             case measure=>have:=tC.out;have:=uC.out;have:=bD.out;omega
             case rel=>exact ⟨(wrap64 (dA+1)),rS,H',⟨by have:=tC.out;have:=uC.out;have:=bD.out;omega⟩,⟨bK aA⟩,⟨ bH HB⟩⟩
       ·have H':=AM H
        clear H;obtain ⟨oF,pF,qF,rF,sF,tF⟩:=c3 aA
        go_wp2
        go_roundg k2
        case measure=>have:=tC.out;have:=uC.out;omega
        case rel=>exact ⟨(wrap64 (cA+1)),rS,H',⟨by have:=tC.out;have:=uC.out;omega⟩,⟨bK aA⟩,⟨ bH HB⟩⟩
    ·obtain rfl:=Option.some.inj H
     obtain ⟨uF,vF,wF,xF,yF,zF⟩:=c3 aA
     go_wp2
     go_ret
     exact ⟨rE,bH HB⟩
 ·rw [if_neg c7] at H
  have xB:(xA==0)=false:=beq_eq_false_iff_ne.mpr c7
  have yB:(xA != 0)=true:=bne_iff_ne.mpr c7
  (first|rw [yB]|rw [xB])
  obtain rfl:=Option.some.inj H
  go_wp2
  go_ret
  exact ⟨rE,bH HB⟩

def Q1g.j0:Nat→Int→Bool→List (List (S27))→List (List Int)→List (List Int)→Option (Int)
 | 0,_,_,_,_,_=>none
 | k+1,x3,x32,x365000,x365001,x365002=>if x32=true then (some 3) else (if x3=0 then ((Q0m.f k x365000 x365001 x365002).bind fun vA=>(if vA=true then (some 91) else ((Q00.f k x365000 x365001 x365002).bind fun wA=>(if wA=true then ((Q0p.f k x365000 x365001 x365002).bind fun xA=>(if xA=true then (some 0) else (some 92))) else (some 90))))) else (some x3))
def Q1g.f (k:Nat) (dA:List (List (S27))) (aA:List (List Int)) (cA:List (List Int)):Option (Int):=(Q0l.f k dA).bind fun eA=>(if eA=3 then (Q1g.j0 k eA true dA aA cA) else (if (aA.length:Int)>1000 then (Q1g.j0 k eA true dA aA cA) else (if (cA.length:Int)>1000 then (Q1g.j0 k eA true dA aA cA) else ((Q15.f k aA).bind fun sA=>(if sA>20000 then (Q1g.j0 k eA true dA aA cA) else ((Q15.f k cA).bind fun tA=>(Q1g.j0 k eA (decide (tA>20000)) dA aA cA)))))))
theorem Q1g.Q1a:∀ k,(∀ y0 y1 y2 y3 y4,LeO (Q1g.j0 k y0 y1 y2 y3 y4) (Q1g.j0 (k+1) y0 y1 y2 y3 y4))
 | 0=>fun _ _ _ _ _ r h=>by simp [Q1g.j0] at h
 | k+1=>by
  have wD:=Q1g.Q1a k
  ·intro y0 y1 y2 y3 y4
   unfold Q1g.j0
   repeat' with_reducible first|exact wD _ _ _ _ _|exact Q0l.mono _ _|exact Q00.mono _ _ _ _|exact Q0p.mono _ _ _ _|exact Q0m.mono _ _ _ _|exact Q15.mono _ _|exact LeO.refl _|exact LeO.none _|refine LeO.ite ?_ ?_|refine LeO.bind ?_ (fun _ => ?_)
theorem Q1g.mono:∀ a0 a1 a2 k,LeO (Q1g.f k a0 a1 a2) (Q1g.f (k+1) a0 a1 a2):=by
 intro a0 a1 a2 k
 have wD:=Q1g.Q1a k
 unfold Q1g.f
 repeat' with_reducible first|exact wD _ _ _ _ _|exact Q0l.mono _ _|exact Q00.mono _ _ _ _|exact Q0p.mono _ _ _ _|exact Q0m.mono _ _ _ _|exact Q15.mono _ _|exact LeO.refl _|exact LeO.none _|refine LeO.ite ?_ ?_|refine LeO.bind ?_ (fun _ => ?_)
set_option maxHeartbeats 8000000 in
set_option maxRecDepth 100000 in
theorem Q1g.calls (k:Nat) (fA:Option Addr) (gA:Nat) (dA:List (List (S27))) (jA:Option Addr) (kA:Nat) (aA:List (List Int)) (lA:Option Addr) (mA:Nat) (cA:List (List Int)) (r:Int) (w:World) (rB:Kd.C (Kd.slice 27 k27) w fA dA.length dA) (sB:dA.length≤gA) (tB:Kd.C (Kd.slice 3 (Kd.int .i64)) w jA aA.length aA) (uB:aA.length≤kA) (vB:Kd.C (Kd.slice 3 (Kd.int .i64)) w lA cA.length cA) (wB:cA.length≤mA) (h:Q1g.f k dA aA cA=some r) :
  Calls Try.prog 8 #[.agg #[.slice fA dA.length gA,.slice jA aA.length kA,.slice lA cA.length mA]] w fun e w'=>e=.returned (.int .i64 r)∧Below w.heap.size w w':=by
 have aE:=Try.underlying25
 have nA:=AM rB
 have oA:=AM sB
 clear rB sB
 have hA:=AM tB
 have iA:=AM uB
 clear tB uB
 have pA:=AM vB
 have qA:=AM wB
 clear vB wB
 have HB:=AM (Below.refl w.heap.size w)
 have H:((Q0l.f k dA).bind fun eA=>(if eA=3 then (Q1g.j0 k eA true dA aA cA) else (if (aA.length:Int)>1000 then (Q1g.j0 k eA true dA aA cA) else (if (cA.length:Int)>1000 then (Q1g.j0 k eA true dA aA cA) else ((Q15.f k aA).bind fun sA=>(if sA>20000 then (Q1g.j0 k eA true dA aA cA) else ((Q15.f k cA).bind fun tA=>(Q1g.j0 k eA (decide (tA>20000)) dA aA cA))))))))=some r:=h
 clear h
 obtain ⟨eA,A2,H⟩:=bS H
 have xD:=AM H
 clear H
 go_enter Try.func8,Try.ntmps8
 go_upto_region 2 with (first|((with_reducible refine Q0i (N:=1) rfl ?_);(try (refine Q2e (by rfl) ?_;dsimp only));refine bE 1 #[.slice fA dA.length gA,.slice jA aA.length kA,.slice lA cA.length mA] 25 ?_;intro oC hg w4 hbox hb;have bA:=AM hbox;have pC:=kG HB hg;replace HB:=kH HB hb;have yD:=pC;clear hb hbox hg;obtain ⟨zB,aC,bC,cC,dC,eC⟩:=c3 bA)|((with_reducible refine Q0n (f:=27) rfl ?_);refine gL (some 6) Try.func27 #[.slice fA dA.length gA] ?_;(with_reducible refine (Q0l.calls k _ _ dA eA _ ?side1 ?side2 A2.out).mono ?_);(case side1=>exact sC nA HB);(case side2=>exact oA.out);rintro e w6 ⟨rfl,hb⟩;refine ⟨_,rfl,?_⟩;replace bA:=kB bA hb;replace HB:=kH HB hb;(try clear hb);(try clear hb2);(try clear hk);(try clear hi)))
 (try simp only [Act.put,List.setIfInBounds_toArray,List.set_cons_zero,List.set_cons_succ])
 go_cut [32] (fun cE wc=>∃ (kq:Nat) (rA:Bool),cE=.bool rA∧Aside0 (Q1g.j0 kq eA rA dA aA cA=some r)∧Aside0 (kq≤k)∧Aside0 (wc.heap[oC]? = some (.cells #[(.slice fA dA.length gA),(.slice jA aA.length kA),(.slice lA cA.length mA)] 25 (0,0)))∧Aside0 (Below w.heap.size w wc))
 case first =>
  have H:=xD.out;clear xD
  by_cases c7:eA=3
  ·rw [if_pos c7] at H
   have uA:(eA==3)=true:=beq_iff_eq.mpr c7
   have qC:(eA != 3)=false:=bne_eq_false_iff_eq.mpr c7
   clear c7
   (first|rw [uA]|(simp only [Q1r,Q13];rw [uA])|skip)
   have H':=AM H
   clear H
   go_wp2
   go_meet
   case rel=>exact ⟨_,(true),rS,H',⟨by first|omega|exact Nat.le_refl _⟩,⟨bK bA⟩,⟨ bH HB⟩⟩
  ·rw [if_neg c7] at H
   have uA:(eA==3)=false:=beq_eq_false_iff_ne.mpr c7
   have qC:(eA != 3)=true:=bne_iff_ne.mpr c7
   (first|rw [uA]|(simp only [Q1r,Q13];rw [uA])|skip)
   by_cases c8:(aA.length:Int)>1000
   ·rw [if_pos c8] at H
    have rC:=decide_eq_true c8
    have tC:decide (1000<aA.length)=true:=decide_eq_true (by omega)
    clear c8
    have H':=AM H
    clear H;obtain ⟨fC,gC,hC,jC,kC,lC⟩:=c3 bA
    go_wp2
    go_meet
    case rel=>exact ⟨_,(true),rS,H',⟨by first|omega|exact Nat.le_refl _⟩,⟨bK bA⟩,⟨ bH HB⟩⟩
   ·rw [if_neg c8] at H
    have rC:=decide_eq_false c8
    have tC:decide (1000<aA.length)=false:=decide_eq_false (by omega)
    clear c8
    by_cases mC:(cA.length:Int)>1000
    ·rw [if_pos mC] at H
     have xB:=decide_eq_true mC
     have yB:decide (1000<cA.length)=true:=decide_eq_true (by omega)
     clear mC
     have H':=AM H
     clear H;obtain ⟨yA,zA,aB,bB,cB,dB⟩:=c3 bA
     go_wp2
     go_meet
     case rel=>exact ⟨_,(true),rS,H',⟨by first|omega|exact Nat.le_refl _⟩,⟨bK bA⟩,⟨ bH HB⟩⟩
    ·rw [if_neg mC] at H
     have xB:=decide_eq_false mC
     have yB:decide (1000<cA.length)=false:=decide_eq_false (by omega)
     clear mC
     obtain ⟨sA,zD,H⟩:=bS H
     apply iC H<;>clear H<;>intro uC H
     ·have H':=AM H
      clear H;obtain ⟨eB,fB,gB,hB,iB,jB⟩:=c3 bA
      go_wp2_with (first|(go_at_call 28;(with_reducible refine (Q15.calls k _ _ aA sA _ ?side1 ?side2 zD.out).mono ?_);(case side1=>exact sC hA HB);(case side2=>exact iA.out);rintro e w' ⟨rfl,⟨nd,rfl⟩⟩))
      go_meet
      case rel=>exact ⟨_,(true),rS,H',⟨by first|omega|exact Nat.le_refl _⟩,⟨bK bA⟩,⟨ bH HB⟩⟩
     ·obtain ⟨tA,dE,H⟩:=bS H
      have H':=AM H
      clear H;obtain ⟨lB,mB,nB,oB,pB,qB⟩:=c3 bA
      go_wp2_with (first|(go_at_call 28;(with_reducible refine (Q15.calls k _ _ aA sA _ ?side1 ?side2 zD.out).mono ?_);(case side1=>exact sC hA HB);(case side2=>exact iA.out);rintro e w' ⟨rfl,⟨nd,rfl⟩⟩)|(go_at_call 28;(with_reducible refine (Q15.calls k _ _ cA tA _ ?side1 ?side2 dE.out).mono ?_);(case side1=>repeat (first|exact (Kd.Q12 pA.out (bH HB))|(with_reducible refine Kd.Q3m ?_ _)|(with_reducible refine Kd.Q3n ?_ _)|(with_reducible refine Kd.Q33 ?_)));(case side2=>exact qA.out);rintro e w' ⟨rfl,⟨nd,rfl⟩⟩))
      go_meet
      case rel=>exact ⟨_,(decide (tA>20000)),rS,H',⟨by first|omega|exact Nat.le_refl _⟩,⟨bK bA⟩,⟨ bH HB⟩⟩
 case rest =>
  clear xD;(try clear c1);(try clear c2);(try clear p2);(try clear c7);(try clear uA);(try clear qC);(try clear c8);(try clear rC);(try clear tC);(try clear mC);(try clear xB);(try clear yB);(try clear c13);(try clear uC);(try clear yA);(try clear zA);(try clear aB);(try clear eB);(try clear fB);(try clear gB);(try clear lB);(try clear mB);(try clear nB);(try clear zB);(try clear aC);(try clear bC);(try clear fC);(try clear gC);(try clear hC);(try clear bB);(try clear cB);(try clear dB);(try clear hB);(try clear iB);(try clear jB);(try clear oB);(try clear pB);(try clear qB);(try clear cC);(try clear dC);(try clear eC);(try clear jC);(try clear kC);(try clear lC)
  obtain ⟨kq,rA,rfl,HA,hE,bA,HB⟩:=hcut
  cases kq with
  | zero=>exact absurd HA.out (by simp [Q1g.j0])
  | succ kj2 =>
   have H:=HA.out;clear HA
   simp only [Q1g.j0] at H
   by_cases aD:rA=true
   ·subst aD
    replace H:=iT H
    obtain rfl:=Option.some.inj H
    go_wp2
    go_ret
    exact ⟨rE,bH HB⟩
   ·replace aD:=Bool.eq_false_iff.mpr aD
    subst aD
    replace H:=iF H
    by_cases nC:eA=0
    ·rw [if_pos nC] at H
     have vC:(eA==0)=true:=beq_iff_eq.mpr nC
     have wC:(eA != 0)=false:=bne_eq_false_iff_eq.mpr nC
     clear nC
     obtain ⟨vA,eE,H⟩:=bS H
     have xC:=AM H
     clear H;obtain ⟨bD,cD,dD,eD,fD,gD⟩:=c3 bA
     go_upto_if 37 with (first|((with_reducible refine Q0n (f:=29) rfl ?_);refine gL (some 37) Try.func29 #[.agg #[.slice fA dA.length gA,.slice jA aA.length kA,.slice lA cA.length mA]] ?_;(with_reducible refine (Q0m.calls kj2 _ _ dA _ _ aA _ _ cA vA _ ?side1 ?side2 ?side3 ?side4 ?side5 ?side6 eE.out).mono ?_);(case side1=>exact sC nA HB);(case side2=>exact oA.out);(case side3=>exact sC hA HB);(case side4=>exact iA.out);(case side5=>exact sC pA HB);(case side6=>exact qA.out);rintro e iE ⟨rfl,hb⟩;refine ⟨_,rfl,?_⟩;replace bA:=kB bA hb;replace HB:=kH HB hb;(try clear hb);(try clear hb2);(try clear hk);(try clear hi)))
     (try simp only [Act.put,List.setIfInBounds_toArray,List.set_cons_zero,List.set_cons_succ])
     have H:=xC.out;clear xC
     by_cases hD:vA=true
     ·subst hD
      replace H:=iT H
      obtain rfl:=Option.some.inj H
      go_wp2
      go_ret
      exact ⟨rE,bH HB⟩
     ·replace hD:=Bool.eq_false_iff.mpr hD
      subst hD
      replace H:=iF H
      obtain ⟨wA,fE,H⟩:=bS H
      have yC:=AM H
      clear H;obtain ⟨iD,jD,kD,lD,mD,nD⟩:=c3 bA
      go_upto_if 40 with (first|((with_reducible refine Q0n (f:=14) rfl ?_);refine gL (some 39) Try.func14 #[.agg #[.slice fA dA.length gA,.slice jA aA.length kA,.slice lA cA.length mA]] ?_;(with_reducible refine (Q00.calls kj2 _ _ dA _ _ aA _ _ cA wA _ ?side1 ?side2 ?side3 ?side4 ?side5 ?side6 fE.out).mono ?_);(case side1=>exact sC nA HB);(case side2=>exact oA.out);(case side3=>exact sC hA HB);(case side4=>exact iA.out);(case side5=>exact sC pA HB);(case side6=>exact qA.out);rintro e jE ⟨rfl,hb⟩;refine ⟨_,rfl,?_⟩;replace bA:=kB bA hb;replace HB:=kH HB hb;(try clear hb);(try clear hb2);(try clear hk);(try clear hi)))
      (try simp only [Act.put,List.setIfInBounds_toArray,List.set_cons_zero,List.set_cons_succ])
      have H:=yC.out;clear yC
      by_cases oD:wA=true
      ·subst oD
       replace H:=iT H
       obtain ⟨xA,gE,H⟩:=bS H
       have zC:=AM H
       clear H;obtain ⟨pD,qD,rD,sD,tD,uD⟩:=c3 bA
       go_upto_if 43 with (first|((with_reducible refine Q0n (f:=16) rfl ?_);refine gL (some 42) Try.func16 #[.agg #[.slice fA dA.length gA,.slice jA aA.length kA,.slice lA cA.length mA]] ?_;(with_reducible refine (Q0p.calls kj2 _ _ dA _ _ aA _ _ cA xA _ ?side1 ?side2 ?side3 ?side4 ?side5 ?side6 gE.out).mono ?_);(case side1=>exact sC nA HB);(case side2=>exact oA.out);(case side3=>exact sC hA HB);(case side4=>exact iA.out);(case side5=>exact sC pA HB);(case side6=>exact qA.out);rintro e kE ⟨rfl,hb⟩;refine ⟨_,rfl,?_⟩;replace bA:=kB bA hb;replace HB:=kH HB hb;(try clear hb);(try clear hb2);(try clear hk);(try clear hi)))
       (try simp only [Act.put,List.setIfInBounds_toArray,List.set_cons_zero,List.set_cons_succ])
       have H:=zC.out;clear zC
       by_cases vD:xA=true
       ·subst vD
        replace H:=iT H
        obtain rfl:=Option.some.inj H
        go_wp2
        go_ret
        exact ⟨rE,bH HB⟩
       ·replace vD:=Bool.eq_false_iff.mpr vD
        subst vD
        replace H:=iF H
        obtain rfl:=Option.some.inj H
        go_wp2
        go_ret
        exact ⟨rE,bH HB⟩
      ·replace oD:=Bool.eq_false_iff.mpr oD
       subst oD
       replace H:=iF H
       obtain rfl:=Option.some.inj H
       go_wp2
       go_ret
       exact ⟨rE,bH HB⟩
    ·rw [if_neg nC] at H
     have vC:(eA==0)=false:=beq_eq_false_iff_ne.mpr nC
     have wC:(eA != 0)=true:=bne_iff_ne.mpr nC
     obtain rfl:=Option.some.inj H
     go_wp2
     go_ret
     exact ⟨rE,bH HB⟩

def Q1j.f (l0:List (List Int)):Option (List Int):=if l0.length≤17592186044416∧l0.flatten.length<17592186044416 then (some l0.flatten) else (none)
set_option maxHeartbeats 8000000 in
set_option maxRecDepth 100000 in
theorem Q1j.calls (A0:Option Addr) (c0:Nat) (l0:List (List Int)) (r:List Int) (w:World) (aA:Kd.C (Kd.slice 3 (Kd.int .i64)) w A0 l0.length l0) (bA:l0.length≤c0) (h:Q1j.f l0=some r) :
  Calls Try.prog 39 #[.slice A0 l0.length c0] w fun e w'=>∃ v0_:Value,e=.returned (v0_)∧Kd.R (Kd.int .i64) 3 w' w.heap.size (fun _=>True) v0_ r∧Below w.heap.size w w':=by
 unfold Q1j.f at h
 by_cases hl:l0.length≤17592186044416∧l0.flatten.length<17592186044416
 ·rw [if_pos hl] at h
  obtain rfl:=Option.some.inj h
  exact Pl.Q5d A0 c0 l0 w aA hl.1 hl.2
 ·rw [if_neg hl] at h;cases h
end Go.Proofs.Ytbonkedecfjmdaa.P

namespace Go.Proofs.Ytbonkedecfjmdaa.Pl
set_option linter.unusedVariables false
set_option linter.unusedSimpArgs false
open Go Go.RowKit Go.Proofs.Ytbonkedecfjmdaa.P Go.Proofs.Ytbonkedecfjmdaa.G Go.Proofs.YtbonkedecfjmdaaW.PrintWords Go.Proofs.YtbonkedecfjmdaaW.PrintLast Go.Proofs.YtbonkedecfjmdaaW.PrintMore
def idxF {α:Type} (f:α→Bool):List α→Int→Int
 | [],_ => -1
 | x :: t,i=>if f x=true then i else idxF f t (i+1)
theorem Q6f {α:Type} (f:α→Bool):∀ (l:List α) (i:Int),0≤i→decide (0≤idxF f l i)=l.any f
 | [],i,_=>rfl
 | x :: t,i,h=>by
  unfold idxF
  by_cases hx:f x=true
  ·rw [if_pos hx,List.any_cons,hx,Bool.true_or]
   exact decide_eq_true h
  ·rw [if_neg hx,List.any_cons,Bool.eq_false_iff.2 hx,Bool.false_or]
   exact Q6f f t (i+1) (by omega)
set_option maxHeartbeats 8000000 in
set_option maxRecDepth 100000 in
theorem indexP (g:Nat) (lb:Array Value) (f:Pt→Bool) (A0:Option Addr) (c0:Nat) (l:List Pt) (w:World) (eg:∀ args w,(callFunc g args).run Try.prog w=.ok (.enter g args) w) (hr:Kd.C k27 w A0 l.length l) (hl:l.length≤6000000000000)
  (hp:∀ (W:World) (x:Pt),x∈l→Below w.heap.size w W→Calls Try.prog g (#[(.agg #[.int .i64 x.f0,.int .i64 x.f1,.int .i64 x.f2])]++lb) W fun e w'=>e=.returned (.bool (f x))∧Below W.heap.size W w') :
  Calls Try.prog 80 #[.slice A0 l.length c0,.func (.func g) #[] lb] w fun e w'=>e=.returned (.int .i64 (idxF f l 0))∧Below w.heap.size w w':=by
 have hu27:=Try.underlying27
 go_enter Try.func80,Try.ntmps80
 go_wp2
 go_loopw [8] (fun v wr=>∃ i:Nat,i≤l.length∧v=.int .i64 i∧Aside0 (idxF f l 0=idxF f (l.drop i) (i:Int))∧Below w.heap.size w wr) (fun v _=>l.length - (intV v).toNat)
 case atStart=>exact ⟨0,by omega,rfl,⟨rfl⟩,Below.refl _ _⟩
 case round =>
  obtain ⟨i,hi,rfl,HI,hB⟩:=hrel
  rcases Nat.lt_or_ge i l.length with hlt|hge
  ·have hii:(i:Int)<(l.length:Int):=by omega
   have hib:decide ((i:Int)<(l.length:Int))=true:=decide_eq_true hii
   obtain ⟨ad,eA,y0,y1,y2⟩:=Q2i (Kd.Q12 hr hB) (i:Int) (by omega) hii
   subst eA
   rw [show Q0a l (i:Int)=l[i] by rw [Q60];exact Qal l i hlt,Int.toNat_natCast] at y0 y1 y2
   have hpi:=fun W h=>hp W l[i] (List.getElem_mem hlt) h
   have hd:idxF f (l.drop i) (i:Int)=if f l[i]=true then (i:Int) else idxF f (l.drop (i+1)) ((i+1:Nat):Int):=by rw [List.drop_eq_getElem_cons hlt];rfl
   have HD:=Aside0.mk (HI.out.trans hd)
   clear hd HI
   generalize l[i]=x at *
   cases hf:f x with
   | true =>
    rw [hf] at hpi HD
    clear hf
    go_wp2_with (first|(go_at_fn g;refine (hpi _ hB).mono ?_;rintro e w2 ⟨rfl,hb2⟩)|go_step3)
    go_ret
    exact ⟨by rw [HD.out];rfl,Q0j hB hb2⟩
   | false =>
    rw [hf] at hpi HD
    clear hf
    go_wp2_with (first|(go_at_fn g;refine (hpi _ hB).mono ?_;rintro e w2 ⟨rfl,hb2⟩)|go_step3)
    go_roundw
    case rel=>exact ⟨i+1,by omega,rfl,⟨by rw [HD.out];rfl⟩,Q0j hB hb2⟩
    case measure=>simp [intV];omega
  ·have hii:¬ (i:Int)<(l.length:Int):=by omega
   have hib:decide ((i:Int)<(l.length:Int))=false:=decide_eq_false hii
   have he:idxF f l 0 = -1:=by rw [HI.out,List.drop_of_length_le hge];rfl
   have HE:=Aside0.mk he
   clear he HI
   go_wp2_with (go_step3)
   go_ret
   exact ⟨by rw [HE.out];rfl,hB⟩
set_option maxHeartbeats 8000000 in
set_option maxRecDepth 100000 in
theorem containsP (g:Nat) (lb:Array Value) (f:Pt→Bool) (A0:Option Addr) (c0:Nat) (l:List Pt) (w:World) (eg:∀ args w,(callFunc g args).run Try.prog w=.ok (.enter g args) w) (hr:Kd.C k27 w A0 l.length l) (hl:l.length≤6000000000000)
  (hp:∀ (W:World) (x:Pt),x∈l→Below w.heap.size w W→Calls Try.prog g (#[(.agg #[.int .i64 x.f0,.int .i64 x.f1,.int .i64 x.f2])]++lb) W fun e w'=>e=.returned (.bool (f x))∧Below W.heap.size W w') :
  Calls Try.prog 68 #[.slice A0 l.length c0,.func (.func g) #[] lb] w fun e w'=>e=.returned (.bool (l.any f))∧Below w.heap.size w w':=by
 have hidx:=indexP g lb f A0 c0 l w eg hr hl hp
 have HA:=Aside0.mk (Q6f f l 0 (by omega))
 generalize idxF f l 0=j at *
 go_enter Try.func68,Try.ntmps68
 go_wp2_with (first|(go_at_call 80;refine hidx.mono ?_;rintro e w2 ⟨rfl,hb2⟩)|go_step3)
 go_ret
 exact ⟨by rw [← HA.out];rfl,hb2⟩
set_option maxHeartbeats 8000000 in
set_option maxRecDepth 100000 in
theorem indexI (g:Nat) (lb:Array Value) (f:Int→Bool) (A0:Option Addr) (c0:Nat) (l:List Int) (w:World) (eg:∀ args w,(callFunc g args).run Try.prog w=.ok (.enter g args) w) (hr:Kd.C (Kd.int .i64) w A0 l.length l) (hl:l.length≤6000000000000)
  (hp:∀ (W:World) (x:Int),x∈l→Below w.heap.size w W→Calls Try.prog g (#[(.int .i64 x)]++lb) W fun e w'=>e=.returned (.bool (f x))∧Below W.heap.size W w') :
  Calls Try.prog 65 #[.slice A0 l.length c0,.func (.func g) #[] lb] w fun e w'=>e=.returned (.int .i64 (idxF f l 0))∧Below w.heap.size w w':=by
 have hu27:=Try.underlying27
 go_enter Try.func65,Try.ntmps65
 go_wp2
 go_loopw [8] (fun v wr=>∃ i:Nat,i≤l.length∧v=.int .i64 i∧Aside0 (idxF f l 0=idxF f (l.drop i) (i:Int))∧Below w.heap.size w wr) (fun v _=>l.length - (intV v).toNat)
 case atStart=>exact ⟨0,by omega,rfl,⟨rfl⟩,Below.refl _ _⟩
 case round =>
  obtain ⟨i,hi,rfl,HI,hB⟩:=hrel
  rcases Nat.lt_or_ge i l.length with hlt|hge
  ·have hii:(i:Int)<(l.length:Int):=by omega
   have hib:decide ((i:Int)<(l.length:Int))=true:=decide_eq_true hii
   obtain ⟨ad,eA,y0⟩:=Kd.Q2n (Kd.Q12 hr hB) (i:Int) (by omega) hii
   subst eA
   rw [show rd l (i:Int)=l[i] by simp [rd,List.getD,List.getElem?_eq_getElem hlt],Int.toNat_natCast] at y0
   have hpi:=fun W h=>hp W l[i] (List.getElem_mem hlt) h
   have hd:idxF f (l.drop i) (i:Int)=if f l[i]=true then (i:Int) else idxF f (l.drop (i+1)) ((i+1:Nat):Int):=by rw [List.drop_eq_getElem_cons hlt];rfl
   have HD:=Aside0.mk (HI.out.trans hd)
   clear hd HI
   generalize l[i]=x at *
   cases hf:f x with
   | true =>
    rw [hf] at hpi HD
    clear hf
    go_wp2_with (first|(go_at_fn g;refine (hpi _ hB).mono ?_;rintro e w2 ⟨rfl,hb2⟩)|go_step3)
    go_ret
    exact ⟨by rw [HD.out];rfl,Q0j hB hb2⟩
   | false =>
    rw [hf] at hpi HD
    clear hf
    go_wp2_with (first|(go_at_fn g;refine (hpi _ hB).mono ?_;rintro e w2 ⟨rfl,hb2⟩)|go_step3)
    go_roundw
    case rel=>exact ⟨i+1,by omega,rfl,⟨by rw [HD.out];rfl⟩,Q0j hB hb2⟩
    case measure=>simp [intV];omega
  ·have hii:¬ (i:Int)<(l.length:Int):=by omega
   have hib:decide ((i:Int)<(l.length:Int))=false:=decide_eq_false hii
   have he:idxF f l 0 = -1:=by rw [HI.out,List.drop_of_length_le hge];rfl
   have HE:=Aside0.mk he
   clear he HI
   go_wp2_with (go_step3)
   go_ret
   exact ⟨by rw [HE.out];rfl,hB⟩
set_option maxHeartbeats 8000000 in
set_option maxRecDepth 100000 in
theorem containsI (g:Nat) (lb:Array Value) (f:Int→Bool) (A0:Option Addr) (c0:Nat) (l:List Int) (w:World) (eg:∀ args w,(callFunc g args).run Try.prog w=.ok (.enter g args) w) (hr:Kd.C (Kd.int .i64) w A0 l.length l) (hl:l.length≤6000000000000)
  (hp:∀ (W:World) (x:Int),x∈l→Below w.heap.size w W→Calls Try.prog g (#[(.int .i64 x)]++lb) W fun e w'=>e=.returned (.bool (f x))∧Below W.heap.size W w') :
  Calls Try.prog 40 #[.slice A0 l.length c0,.func (.func g) #[] lb] w fun e w'=>e=.returned (.bool (l.any f))∧Below w.heap.size w w':=by
 have hidx:=indexI g lb f A0 c0 l w eg hr hl hp
 have HA:=Aside0.mk (Q6f f l 0 (by omega))
 generalize idxF f l 0=j at *
 go_enter Try.func40,Try.ntmps40
 go_wp2_with (first|(go_at_call 65;refine hidx.mono ?_;rintro e w2 ⟨rfl,hb2⟩)|go_step3)
 go_ret
 exact ⟨by rw [← HA.out];rfl,hb2⟩
set_option maxHeartbeats 8000000 in
set_option maxRecDepth 100000 in
theorem indexR (g:Nat) (lb:Array Value) (f:List Int→Bool) (A0:Option Addr) (c0:Nat) (l:List (List Int)) (w:World) (eg:∀ args w,(callFunc g args).run Try.prog w=.ok (.enter g args) w) (hr:Kd.C (Kd.slice 3 (Kd.int .i64)) w A0 l.length l) (hl:l.length≤6000000000000)
  (hp:∀ (W:World) (x:List Int) (A1:Option Addr) (c1:Nat),x∈l→Below w.heap.size w W→Kd.C (Kd.int .i64) W A1 x.length x→x.length≤c1→Calls Try.prog g (#[.slice A1 x.length c1]++lb) W fun e w'=>e=.returned (.bool (f x))∧Below W.heap.size W w') :
  Calls Try.prog 66 #[.slice A0 l.length c0,.func (.func g) #[] lb] w fun e w'=>e=.returned (.int .i64 (idxF f l 0))∧Below w.heap.size w w':=by
 have hu27:=Try.underlying27
 go_enter Try.func66,Try.ntmps66
 go_wp2
 go_loopw [8] (fun v wr=>∃ i:Nat,i≤l.length∧v=.int .i64 i∧Aside0 (idxF f l 0=idxF f (l.drop i) (i:Int))∧Below w.heap.size w wr) (fun v _=>l.length - (intV v).toNat)
 case atStart=>exact ⟨0,by omega,rfl,⟨rfl⟩,Below.refl _ _⟩
 case round =>
  obtain ⟨i,hi,rfl,HI,hB⟩:=hrel
  rcases Nat.lt_or_ge i l.length with hlt|hge
  ·have hii:(i:Int)<(l.length:Int):=by omega
   have hib:decide ((i:Int)<(l.length:Int))=true:=decide_eq_true hii
   obtain ⟨ad,A1,c1,eA,y0,hc1,hrow⟩:=Qbx wr A0 l (Kd.Q12 hr hB) i hlt
   subst eA
   have hpi:=fun (W:World) (h:Below w.heap.size w W) (hC:Kd.C (Kd.int .i64) W A1 l[i].length l[i])=>hp W l[i] A1 c1 (List.getElem_mem hlt) h hC hc1
   have hd:idxF f (l.drop i) (i:Int)=if f l[i]=true then (i:Int) else idxF f (l.drop (i+1)) ((i+1:Nat):Int):=by rw [List.drop_eq_getElem_cons hlt];rfl
   have HD:=Aside0.mk (HI.out.trans hd)
   clear hd HI
   generalize l[i]=x at *
   cases hf:f x with
   | true =>
    rw [hf] at hpi HD
    clear hf
    go_wp2_with (first|(go_at_fn g;refine (hpi _ hB hrow).mono ?_;rintro e w2 ⟨rfl,hb2⟩)|go_step3)
    go_ret
    exact ⟨by rw [HD.out];rfl,Q0j hB hb2⟩
   | false =>
    rw [hf] at hpi HD
    clear hf
    go_wp2_with (first|(go_at_fn g;refine (hpi _ hB hrow).mono ?_;rintro e w2 ⟨rfl,hb2⟩)|go_step3)
    go_roundw
    case rel=>exact ⟨i+1,by omega,rfl,⟨by rw [HD.out];rfl⟩,Q0j hB hb2⟩
    case measure=>simp [intV];omega
  ·have hii:¬ (i:Int)<(l.length:Int):=by omega
   have hib:decide ((i:Int)<(l.length:Int))=false:=decide_eq_false hii
   have he:idxF f l 0 = -1:=by rw [HI.out,List.drop_of_length_le hge];rfl
   have HE:=Aside0.mk he
   clear he HI
   go_wp2_with (go_step3)
   go_ret
   exact ⟨by rw [HE.out];rfl,hB⟩
set_option maxHeartbeats 8000000 in
set_option maxRecDepth 100000 in
theorem containsR (g:Nat) (lb:Array Value) (f:List Int→Bool) (A0:Option Addr) (c0:Nat) (l:List (List Int)) (w:World) (eg:∀ args w,(callFunc g args).run Try.prog w=.ok (.enter g args) w) (hr:Kd.C (Kd.slice 3 (Kd.int .i64)) w A0 l.length l) (hl:l.length≤6000000000000)
  (hp:∀ (W:World) (x:List Int) (A1:Option Addr) (c1:Nat),x∈l→Below w.heap.size w W→Kd.C (Kd.int .i64) W A1 x.length x→x.length≤c1→Calls Try.prog g (#[.slice A1 x.length c1]++lb) W fun e w'=>e=.returned (.bool (f x))∧Below W.heap.size W w') :
  Calls Try.prog 42 #[.slice A0 l.length c0,.func (.func g) #[] lb] w fun e w'=>e=.returned (.bool (l.any f))∧Below w.heap.size w w':=by
 have hidx:=indexR g lb f A0 c0 l w eg hr hl hp
 have HA:=Aside0.mk (Q6f f l 0 (by omega))
 generalize idxF f l 0=j at *
 go_enter Try.func42,Try.ntmps42
 go_wp2_with (first|(go_at_call 66;refine hidx.mono ?_;rintro e w2 ⟨rfl,hb2⟩)|go_step3)
 go_ret
 exact ⟨by rw [← HA.out];rfl,hb2⟩
end Go.Proofs.Ytbonkedecfjmdaa.Pl
