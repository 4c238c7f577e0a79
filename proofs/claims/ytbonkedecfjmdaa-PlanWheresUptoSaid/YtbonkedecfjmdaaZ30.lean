/- Written for this claim by a program of this session (a turned copy of the print): Go functions as Lean functions, and that the Go code comes to just these answers; or a statement proved out of them. No condition. Arguments that are structs, slices of structs, slices of slices: what their reading as data says of them, kind by kind, whatever the type. Polygons told in another order: what Fills says stays. plan.Check's value. -/
import Derived.Test.YtbonkedecfjmdaaZ2
import Derived.Test.YtbonkedecfjmdaaZ3
import Derived.Test.YtbonkedecfjmdaaZ25
import Derived.Test.YtbonkedecfjmdaaZ27
import Derived.Test.YtbonkedecfjmdaaZ28
import Derived.Test.YtbonkedecfjmdaaZ29
import Derived.Test.YtbonkedecfjmdaaRows
import Derived.Test.YtbonkedecfjmdaaZ1
import Derived.Deep.Slices
import Derived.Deep.Fields
import Derived.ChangeSame
import Derived.ProofKit
import Derived.KernelRfl
import Derived.Test.YtbonkedecfjmdaaZ26
import Derived.Test.YtbonkedecfjmdaaZ21

namespace Go.Proofs.Ytbonkedecfjmdaa.P
open Go.RowKit Go.Proofs.YtbonkedecfjmdaaW.PrintWords Go.Proofs.YtbonkedecfjmdaaW.PrintLast Go.Proofs.YtbonkedecfjmdaaW.PrintMore Go.Proofs.Ytbonkedecfjmdaa.X
attribute [local go_sem] Q2b Q2a Q2m Q2n Q1y Q1z Q19 Q18 Q2l Q2k add64
set_option linter.unusedVariables false
set_option linter.unusedSimpArgs false
mutual
def Q0l.j0:Nat→Bool→List (List (S27))→List (List Int)→List (List Int)→Int→Int→Int→Option (Bool)
 | 0,_,_,_,_,_,_,_=>none
 | k+1,x17,x619000,x619001,x619002,x620000,x620001,x620002=>if x17=true then ((Q3i.f).bind fun eE=>(some eE)) else (Q0l.l0 k 0 x619000 x619001 x619002 x620000 x620001 x620002)
def Q0l.l0:Nat→Int→List (List (S27))→List (List Int)→List (List Int)→Int→Int→Int→Option (Bool)
 | 0,_,_,_,_,_,_,_=>none
 | k+1,x5,x619000,x619001,x619002,x620000,x620001,x620002=>if x5<(x619000.length:Int) then (Q0l.l1 k x5 0 x619000 x619001 x619002 x620000 x620001 x620002) else ((Q0v.f k x619000 x619001 x619002 x620000 x620001 x620002).bind fun vD=>(if vD.2=0 then ((Q0r.f k x619000 x619001 x619002 x620000 x620001 x620002).bind fun lD=>((Q06.f k vD.1 lD).bind fun fE=>(if fE=true then ((Q3i.f).bind fun gE=>(some gE)) else (none)))) else ((Q3i.f).bind fun hE=>(some hE))))
def Q0l.l1:Nat→Int→Int→List (List (S27))→List (List Int)→List (List Int)→Int→Int→Int→Option (Bool)
 | 0,_,_,_,_,_,_,_,_=>none
 | k+1,x5,x6,x619000,x619001,x619002,x620000,x620001,x620002=>if 0≤x5 then (if x5<(x619000.length:Int) then (if x6<((Q0d x619000 x5).length:Int) then (if 0≤x6 then ((Q0v.f k x619000 x619001 x619002 ((Q0a (Q0d x619000 x5) x6).f0) ((Q0a (Q0d x619000 x5) x6).f1) ((Q0a (Q0d x619000 x5) x6).f2)).bind fun wD=>(if wD.2=0 then ((Q0r.f k x619000 x619001 x619002 ((Q0a (Q0d x619000 x5) x6).f0) ((Q0a (Q0d x619000 x5) x6).f1) ((Q0a (Q0d x619000 x5) x6).f2)).bind fun hD=>((Q06.f k wD.1 hD).bind fun iE=>(if iE=true then (Q0l.l1 k x5 (wrap64 (x6+1)) x619000 x619001 x619002 x620000 x620001 x620002) else (none)))) else (none))) else (none)) else (Q0l.l0 k (wrap64 (x5+1)) x619000 x619001 x619002 x620000 x620001 x620002)) else (none)) else (none)
end
def Q0l.f (k:Nat) (bA:List (List (S27))) (fA:List (List Int)) (gA:List (List Int)) (jA:Int) (kA:Int) (lA:Int):Option (Bool):=(Q1q.f k bA fA gA).bind fun iD=>(if iD=true then (Q0l.j0 k true bA fA gA jA kA lA) else ((Q1g.f k bA fA gA).bind fun gD=>(Q0l.j0 k (gD != 0) bA fA gA jA kA lA)))
theorem Q0l.Q08:∀ k,(∀ y0 y1 y2 y3 y4 y5 y6,LeO (Q0l.j0 k y0 y1 y2 y3 y4 y5 y6) (Q0l.j0 (k+1) y0 y1 y2 y3 y4 y5 y6))∧(∀ y0 y1 y2 y3 y4 y5 y6,LeO (Q0l.l0 k y0 y1 y2 y3 y4 y5 y6) (Q0l.l0 (k+1) y0 y1 y2 y3 y4 y5 y6))∧(∀ y0 y1 y2 y3 y4 y5 y6 y7,LeO (Q0l.l1 k y0 y1 y2 y3 y4 y5 y6 y7) (Q0l.l1 (k+1) y0 y1 y2 y3 y4 y5 y6 y7))
 | 0=>⟨fun _ _ _ _ _ _ _ r h=>by simp [Q0l.j0] at h,fun _ _ _ _ _ _ _ r h=>by simp [Q0l.l0] at h,fun _ _ _ _ _ _ _ _ r h=>by simp [Q0l.l1] at h⟩
 | k+1=>by
  obtain ⟨uH,vH,wH⟩:=Q0l.Q08 k
  refine ⟨?_,?_,?_⟩
  all_goals
   intros
   first|unfold Q0l.j0|unfold Q0l.l0|unfold Q0l.l1
   repeat' with_reducible first|exact uH _ _ _ _ _ _ _|exact vH _ _ _ _ _ _ _|exact wH _ _ _ _ _ _ _ _|exact Q1q.mono _ _ _ _|exact Q06.mono _ _ _|exact Q1g.mono _ _ _ _|exact Q0r.mono _ _ _ _ _ _ _|exact Q0v.mono _ _ _ _ _ _ _|exact LeO.refl _|exact LeO.none _|refine LeO.ite ?_ ?_|refine LeO.bind ?_ (fun _ => ?_)
theorem Q0l.mono:∀ a0 a1 a2 a3 a4 a5 k,LeO (Q0l.f k a0 a1 a2 a3 a4 a5) (Q0l.f (k+1) a0 a1 a2 a3 a4 a5):=by
 intro a0 a1 a2 a3 a4 a5 k
 obtain ⟨uH,vH,wH⟩:=Q0l.Q08 k
 unfold Q0l.f
 repeat' with_reducible first|exact uH _ _ _ _ _ _ _|exact vH _ _ _ _ _ _ _|exact wH _ _ _ _ _ _ _ _|exact Q1q.mono _ _ _ _|exact Q06.mono _ _ _|exact Q1g.mono _ _ _ _|exact Q0r.mono _ _ _ _ _ _ _|exact Q0v.mono _ _ _ _ _ _ _|exact LeO.refl _|exact LeO.none _|refine LeO.ite ?_ ?_|refine LeO.bind ?_ (fun _ => ?_)
def Q0l.T9:Bool×List (List Nat×List Nat):=(true,[([],[]),([],[]),([1],[1]),([],[]),([2,3],[2,3]),([4],[4]),([],[]),([5,6],[5,6]),([7],[7]),([0,8],[0,8]),([9],[9]),([10],[10]),([10],[10]),([11,9,0,1,2,3,4,5,6,7,8,9,10,11],[11]),([12,13,0,1,2,3,4,5,6,7,8,9,10,11,12,13],[12])])
def Q0l.B9:List Nat:=[0,0,2,0,14,30,0,126,254,511,1023,2047,2047,4095,16383]
theorem Q0l.tab9:rtab .any (opsOf Try.f3 9)=Q0l.T9:=by kernel_rfl
theorem Q0l.bits9:waitsOk Q0l.T9.2 Q0l.B9=true:=by kernel_rfl
def Q0l.T10:Bool×List (List Nat×List Nat):=(true,[([],[]),([0],[0]),([1],[1]),([2],[2]),([2],[2]),([2],[2]),([5,2],[2,5]),([2],[2]),([6,7,2],[2,6,7]),([8,2],[2,8]),([2],[2]),([9,10,2],[2,9,10]),([11,2],[2,11]),([4,12,2,2],[2,4,12]),([3,13,13,2],[2,3,13]),([14,2],[2,14]),([2,15],[2,15])])
def Q0l.B10:List Nat:=[0,1,3,7,7,7,39,7,231,487,7,2023,4071,8183,16383,32767,65535]
theorem Q0l.tab10:rtab .any (opsOf Try.f3 10)=Q0l.T10:=by kernel_rfl
theorem Q0l.bits10:waitsOk Q0l.T10.2 Q0l.B10=true:=by kernel_rfl
set_option maxHeartbeats 8000000 in
set_option maxRecDepth 100000 in
theorem Q0l.calls (k:Nat) (oB:Option Addr) (oA:Nat) (bA:List (List (S27))) (pA:Option Addr) (qA:Nat) (fA:List (List Int)) (rA:Option Addr) (sA:Nat) (gA:List (List Int)) (jA:Int) (kA:Int) (lA:Int) (r:Bool) (w:World) (xD:Kd.C (Kd.slice 27 k27) w oB bA.length bA) (yD:bA.length≤oA) (zD:Kd.C (Kd.slice 3 (Kd.int .i64)) w pA fA.length fA) (aE:fA.length≤qA) (cE:Kd.C (Kd.slice 3 (Kd.int .i64)) w rA gA.length gA) (dE:gA.length≤sA) (h:Q0l.f k bA fA gA jA kA lA=some r) :
  Calls Try.prog 3 #[.agg #[.slice oB bA.length oA,.slice pA fA.length qA,.slice rA gA.length sA],.agg #[.int .i64 jA,.int .i64 kA,.int .i64 lA]] w fun e w'=>e=.returned (.bool r)∧Below w.heap.size w w':=by
 have kJ:=Try.underlying25
 have lJ:=Try.underlying27
 have mA:=AM xD
 have zA:=AM yD
 clear xD yD
 have aB:=AM zD
 have bB:=AM aE
 clear zD aE
 have cB:=AM cE
 have eB:=AM dE
 clear cE dE
 have HB:=AM (Below.refl w.heap.size w)
 have H:((Q1q.f k bA fA gA).bind fun iD=>(if iD=true then (Q0l.j0 k true bA fA gA jA kA lA) else ((Q1g.f k bA fA gA).bind fun gD=>(Q0l.j0 k (gD != 0) bA fA gA jA kA lA))))=some r:=h
 clear h
 have xH:=AM H
 clear H
 go_enter Try.func3,Try.ntmps3
 go_upto_region 1 with (first|((with_reducible refine Q0i (N:=2) rfl ?_);refine bE 2 #[.slice oB bA.length oA,.slice pA fA.length qA,.slice rA gA.length sA] 25 ?_;intro tA hg w4 hbox hb;have aA:=AM hbox;have bF:=kG HB hg;replace HB:=kH HB hb;have pI:=bF;clear hb hbox hg)|((with_reducible refine Q0i (N:=3) rfl ?_);refine bE 3 #[.int .i64 jA,.int .i64 kA,.int .i64 lA] 27 ?_;intro jD hg w5 hbox hb;have cA:=AM hbox;have cF:=kG HB hg;replace HB:=kH HB hb;have qI:=cF;have hA:=kN aA hg;have iA:=kM aA hg;replace aA:=kB aA hb;clear hb hbox hg))
 (try simp only [Act.put,List.setIfInBounds_toArray,List.set_cons_zero,List.set_cons_succ])
 go_cut [17] (fun mJ wc=>∃ (kq:Nat) (vC:Bool),mJ=.bool vC∧Aside0 (Q0l.j0 kq vC bA fA gA jA kA lA=some r)∧Aside0 (kq≤k)∧Aside0 (wc.heap[tA]? = some (.cells #[(.slice oB bA.length oA),(.slice pA fA.length qA),(.slice rA gA.length sA)] 25 (0,0)))∧Aside0 (wc.heap[jD]? = some (.cells #[.int .i64 jA,.int .i64 kA,.int .i64 lA] 27 (0,0)))∧Aside0 (Below w.heap.size w wc))
 case first =>
  have H:=xH.out;clear xH
  obtain ⟨iD,A6,H⟩:=bS H
  by_cases c7:iD=true
  ·subst c7
   replace H:=iT H
   have H':=AM H
   clear H;have nJ:=hA.out;have oJ:=iA.out;obtain ⟨lC,mC,nC,oC,pC,qC⟩:=c3 aA
   go_wp2_with (first|((with_reducible refine Q0o (f:=7) rfl ?_);refine gL (some 12) Try.func7 #[.agg #[.slice oB bA.length oA,.slice pA fA.length qA,.slice rA gA.length sA]] ?_;(with_reducible refine (Q1q.calls k _ _ bA _ _ fA _ _ gA true _ ?side1 ?side2 ?side3 ?side4 ?side5 ?side6 A6.out).mono ?_);(case side1=>exact sC mA HB);(case side2=>exact zA.out);(case side3=>exact sC aB HB);(case side4=>exact bB.out);(case side5=>exact sC cB HB);(case side6=>exact eB.out);rintro e iK ⟨rfl,hb⟩;refine ⟨_,rfl,?_⟩;replace aA:=kB aA hb;replace cA:=kB cA hb;replace HB:=kH HB hb;(try clear hb);(try clear hb2);(try clear hk);(try clear hi)))
   go_meet
   case rel=>exact ⟨_,(true),rS,H',⟨by first|omega|exact Nat.le_refl _⟩,⟨bK aA⟩,⟨bK cA⟩,⟨ bH HB⟩⟩
  ·replace c7:=Bool.eq_false_iff.mpr c7
   subst c7
   replace H:=iF H
   obtain ⟨gD,pJ,H⟩:=bS H
   have H':=AM H
   clear H;have rI:=hA.out;have sI:=iA.out;obtain ⟨rB,sB,tB,uB,vB,wB⟩:=c3 aA
   go_wp2_with (first|((with_reducible refine Q0o (f:=7) rfl ?_);refine gL (some 12) Try.func7 #[.agg #[.slice oB bA.length oA,.slice pA fA.length qA,.slice rA gA.length sA]] ?_;(with_reducible refine (Q1q.calls k _ _ bA _ _ fA _ _ gA false _ ?side1 ?side2 ?side3 ?side4 ?side5 ?side6 A6.out).mono ?_);(case side1=>exact sC mA HB);(case side2=>exact zA.out);(case side3=>exact sC aB HB);(case side4=>exact bB.out);(case side5=>exact sC cB HB);(case side6=>exact eB.out);rintro e jK ⟨rfl,hb⟩;refine ⟨_,rfl,?_⟩;replace aA:=kB aA hb;replace cA:=kB cA hb;replace HB:=kH HB hb;(try clear hb);(try clear hb2);(try clear hk);(try clear hi);obtain ⟨xB,yB,zB,aC,cC,dC⟩:=c3 aA)|(go_at_call 8;(with_reducible refine (Q1g.calls k _ _ bA _ _ fA _ _ gA gD _ ?side1 ?side2 ?side3 ?side4 ?side5 ?side6 pJ.out).mono ?_);(case side1=>exact sC mA HB);(case side2=>exact zA.out);(case side3=>exact sC aB HB);(case side4=>exact bB.out);(case side5=>exact sC cB HB);(case side6=>exact eB.out);rintro e kK ⟨rfl,hb⟩;replace aA:=kB aA hb;replace cA:=kB cA hb;replace HB:=kH HB hb;(try clear hb);(try clear hb2);(try clear hk);(try clear hi)))
   go_meet
   case rel=>exact ⟨_,((gD != 0)),rS,H',⟨by first|omega|exact Nat.le_refl _⟩,⟨bK aA⟩,⟨bK cA⟩,⟨ bH HB⟩⟩
 case rest =>
  clear xH;(try clear c1);(try clear p2);(try clear c3);(try clear c7);(try clear c8);(try clear c12);(try clear rB);(try clear sB);(try clear tB);(try clear xB);(try clear yB);(try clear zB);(try clear lC);(try clear mC);(try clear nC);(try clear uB);(try clear vB);(try clear wB);(try clear aC);(try clear cC);(try clear dC);(try clear oC);(try clear pC);(try clear qC)
  obtain ⟨kq,vC,rfl,HA,nF,aA,cA,HB⟩:=hcut
  cases kq with
  | zero=>exact absurd HA.out (by simp [Q0l.j0])
  | succ kj2 =>
   have H:=HA.out;clear HA
   simp only [Q0l.j0] at H
   by_cases aF:vC=true
   ·subst aF
    replace H:=iT H
    obtain ⟨eE,qJ,H⟩:=bS H
    obtain rfl:=Option.some.inj H
    go_wp2_with (first|((with_reducible refine Q0o (f:=9) rfl ?_);refine gL (some 18) Try.func9 #[] ?_;(with_reducible refine (Q3i.calls  eE _ qJ.out).mono ?_);rintro e lK ⟨rfl,hb⟩;refine ⟨_,rfl,?_⟩;replace aA:=kB aA hb;replace cA:=kB cA hb;replace HB:=kH HB hb;(try clear hb);(try clear hb2);(try clear hk);(try clear hi)))
    go_ret
    exact ⟨rE,bH HB⟩
   ·replace aF:=Bool.eq_false_iff.mpr aF
    subst aF
    replace H:=iF H
    have H':=AM H
    clear H
    go_wp2
    go_loopg [5] kj2 (fun kq v5 w'=>∃ (dA:Int),v5=.int .i64 dA∧Aside0 (Q0l.l0 kq dA bA fA gA jA kA lA=some r)∧Aside0 (kq≤kj2)∧Aside0 (w'.heap[tA]? = some (.cells #[(.slice oB bA.length oA),(.slice pA fA.length qA),(.slice rA gA.length sA)] 25 (0,0)))∧Aside0 (w'.heap[jD]? = some (.cells #[.int .i64 jA,.int .i64 kA,.int .i64 lA] 27 (0,0)))∧Aside0 (Below w.heap.size w w'))
    case atStart=>exact ⟨(0),rS,H',⟨Nat.le_refl _⟩,⟨bK aA⟩,⟨bK cA⟩,⟨ bH HB⟩⟩
    case round =>
     clear H'
     (try clear c1);(try clear p2);(try clear c3);(try clear c7);(try clear c8);(try clear c9);(try clear c12);(try clear aF);(try clear rB);(try clear sB);(try clear tB);(try clear xB);(try clear yB);(try clear zB);(try clear lC);(try clear mC);(try clear nC);(try clear uB);(try clear vB);(try clear wB);(try clear aC);(try clear cC);(try clear dC);(try clear oC);(try clear pC);(try clear qC);(try clear p2)
     obtain ⟨dA,rfl,HA,oF,aA,cA,HB⟩:=hrel
     cases gk with
     | zero=>exact absurd HA.out (by simp [Q0l.l0])
     | succ k2 =>
      have H:=HA.out;clear HA
      simp only [Q0l.l0] at H
      apply iC H<;>clear H<;>intro dF H
      ·have H':=AM H
       clear H;have tI:=hA.out;have uI:=iA.out;obtain ⟨mD,nD,oD,qD,rD,sD⟩:=c3 aA
       go_wp2
       go_loopg [6] k2 (fun kq v6 w'=>∃ (eA:Int),v6=.int .i64 eA∧Aside0 (Q0l.l1 kq dA eA bA fA gA jA kA lA=some r)∧Aside0 (kq≤k2)∧Aside0 (w'.heap[tA]? = some (.cells #[(.slice oB bA.length oA),(.slice pA fA.length qA),(.slice rA gA.length sA)] 25 (0,0)))∧Aside0 (w'.heap[jD]? = some (.cells #[.int .i64 jA,.int .i64 kA,.int .i64 lA] 27 (0,0)))∧Aside0 (Below w.heap.size w w'))
       case atStart=>exact ⟨(0),rS,H',⟨Nat.le_refl _⟩,⟨bK aA⟩,⟨bK cA⟩,⟨ bH HB⟩⟩
       case round =>
        clear H'
        (try clear c1);(try clear c2);(try clear p2);(try clear c3);(try clear c7);(try clear c8);(try clear c9);(try clear c12);(try clear aF);(try clear c20);(try clear dF);(try clear c21);(try clear rB);(try clear sB);(try clear tB);(try clear xB);(try clear yB);(try clear zB);(try clear mD);(try clear nD);(try clear oD);(try clear lC);(try clear mC);(try clear nC);(try clear uB);(try clear vB);(try clear wB);(try clear aC);(try clear cC);(try clear dC);(try clear qD);(try clear rD);(try clear sD);(try clear oC);(try clear pC);(try clear qC);(try clear p2)
        obtain ⟨eA,rfl,HA,pF,aA,cA,HB⟩:=hrel
        cases gk with
        | zero=>exact absurd HA.out (by simp [Q0l.l1])
        | succ k3 =>
         have H:=HA.out;clear HA
         simp only [Q0l.l1] at H
         apply iN H;clear H;intro vI H
         ·apply iN H;clear H;intro wI H
          ·apply iC H<;>clear H<;>intro xI H
           ·apply iN H;clear H;intro yI H
            ·obtain ⟨⟨jE,yH⟩,rJ,H⟩:=bS H
             try dsimp only at H
             apply iM H;clear H;intro zI aJ H
             ·obtain ⟨hD,sJ,H⟩:=bS H
              obtain ⟨iE,tJ,H⟩:=bS H
              by_cases qF:iE=true
              ·subst qF
               replace H:=iT H
               have H':=AM H
               clear H;have bJ:=hA.out;have cJ:=iA.out;obtain ⟨rF,sF,tF,uF,vF,wF⟩:=c3 aA
               have rC:0≤(dA:Int):=pD
               have tC:dA<(bA.length:Int):=pD
               obtain ⟨uA,kE,lE,mE,vA,wA,xA⟩:=Q3p mA.out dA rC tC
               cases mE
               replace vA:=hW HB vA
               have tD:=AM xA
               have uD:=AM wA
               clear xA wA;replace rC:=eq_true rC;replace tC:=eq_true tC
               try go_wp2
               replace aA:=dB aA;replace cA:=dB cA;replace HB:=dH HB
               have nE:0≤(dA:Int):=pD
               have oE:dA<(bA.length:Int):=pD
               obtain ⟨eF,zH,pE,aI,fB,wC,xC⟩:=Q3p mA.out dA nE oE
               have yC:=fB
               obtain rfl:uA=eF:=(by injection aI)
               replace fB:=hW HB fB
               have zC:=AM xC
               have xF:=AM wC
               clear xC wC;replace nE:=eq_true nE;replace oE:=eq_true oE
               have qE:0≤(eA:Int):=pD
               have sE:eA<((Q0d bA dA).length:Int):=pD
               obtain ⟨pB,bI,gB,hB,iB⟩:=Q2e zC.out eA qE sE
               have aD:=iB;have bD:=hB;have cD:=gB
               cases bI
               replace gB:=hW HB gB;replace hB:=hW HB hB;replace iB:=hW HB iB;replace qE:=eq_true qE;replace sE:=eq_true sE
               refine sP 15 (S:=fun w'=>w'.cell? ⟨tA,0,none⟩=some (.slice (some uA) bA.length oA)∧w'.cell? ⟨tA,1,none⟩=some (.slice pA fA.length qA)∧w'.cell? ⟨tA,2,none⟩=some (.slice rA gA.length sA)∧w'.cell? (uA.add (dA).toNat)=some (.slice (some pB) (Q0d bA dA).length pE)∧w'.cell? (pB.add ((eA).toNat*3))=some (.int .i64 ((Q0a (Q0d bA dA) eA).f0))∧w'.cell? ⟨(pB.add ((eA).toNat*3)).block,(pB.add ((eA).toNat*3)).off+1,none⟩=some (.int .i64 ((Q0a (Q0d bA dA) eA).f1))∧w'.cell? ⟨(pB.add ((eA).toNat*3)).block,(pB.add ((eA).toNat*3)).off+2,none⟩=some (.int .i64 ((Q0a (Q0d bA dA) eA).f2))) (ds:=[]) ⟨bC aA,bC aA,bC aA,(hW HB yC :),(hW HB cD :),(hW HB bD :),(hW HB aD :)⟩ fun hHeld => ?_;refine Q1l Q0l.tab9 Q0l.bits9 (fun HT_ HW_ => ?_)
               generalize wr.drew=w34 at aA cA HB zC fB gB hB iB hHeld ⊢
               refine pQ 1 (some 38) HT_ ?_;refine pQ 3 (some 40) HT_ ?_;refine pQ 6 (some 43) HT_ ?_;refine tQ 0 (some 37) HT_ HW_ hHeld ?_;refine tQ 2 (some 39) HT_ HW_ hHeld ?_;refine pQ 4 (some 41) HT_ ?_;refine tQ 5 (some 42) HT_ HW_ hHeld ?_;refine pQ 7 (some 44) HT_ ?_;refine tQ 8 (some 45) HT_ HW_ hHeld ?_
               refine oQ 9 (some 46) HT_ rfl fun K hK => ?_
               refine gO Try.func10 #[.agg #[.slice (some uA) bA.length oA,.slice pA fA.length qA,.slice rA gA.length sA],.agg #[.int .i64 ((Q0a (Q0d bA dA) eA).f0),.int .i64 ((Q0a (Q0d bA dA) eA).f1),.int .i64 ((Q0a (Q0d bA dA) eA).f2)]] ?_
               with_reducible refine (Q0v.calls k3 _ _ bA _ _ fA _ _ gA ((Q0a (Q0d bA dA) eA).f0) ((Q0a (Q0d bA dA) eA).f1) ((Q0a (Q0d bA dA) eA).f2) jE yH _ ?side1 ?side2 ?side3 ?side4 ?side5 ?side6 rJ.out).mono ?_
               (case side1=>exact sC mA HB)
               (case side2=>exact zA.out)
               (case side3=>exact sC aB HB)
               (case side4=>exact bB.out)
               (case side5=>exact sC cB HB)
               (case side6=>exact eB.out)
               rintro e uJ ⟨vJ,rfl,kC,hb⟩
               refine ⟨_,rfl,?_⟩
               have yA:=AM (Kd.Q1a kC (Q0h (bH HB)))
               replace aA:=kB aA hb;replace cA:=kB cA hb;replace HB:=kH HB hb;(try clear hb);(try clear hb2);(try clear hk);(try clear hi);(try clear kC)
               refine hK.out _ _ ⟨bC aA,bC aA,bC aA,(hW HB yC :),(hW HB cD :),(hW HB bD :),(hW HB aD :)⟩ (fun hHeld => ?_)
               clear hK K;refine nP (some 46) ?_;refine pQ 10 (some 36) HT_ ?_;refine pQ 11 (some 47) HT_ ?_;refine pQ 12 (some 48) HT_ ?_;refine pQ 13 (some 7) HT_ ?_;refine pQ 14 (some 8) HT_ ?_
               refine done_ (Q2d HT_.out (by kernel_rfl)) ?_
               try go_wp2
               replace yA:=dR yA;replace aA:=dB aA;replace cA:=dB cA;replace HB:=dH HB
               have tE:0≤(dA:Int):=pD
               have uE:dA<(bA.length:Int):=pD
               obtain ⟨fF,cI,vE,dI,jB,dD,eD⟩:=Q3p mA.out dA tE uE
               have eC:=jB
               obtain rfl:uA=fF:=(by injection dI)
               replace jB:=hW HB jB
               have fD:=AM eD
               have yF:=AM dD
               clear eD dD;replace tE:=eq_true tE;replace uE:=eq_true uE
               have wE:0≤(eA:Int):=pD
               have xE:eA<((Q0d bA dA).length:Int):=pD
               obtain ⟨qB,eI,lB,mB,nB⟩:=Q2e fD.out eA wE xE
               have fC:=nB;have gC:=mB;have hC:=lB
               cases eI
               replace lB:=hW HB lB;replace mB:=hW HB mB;replace nB:=hW HB nB;replace wE:=eq_true wE;replace xE:=eq_true xE
               refine sP 17 (S:=fun w'=>w'.cell? ⟨tA,0,none⟩=some (.slice (some uA) bA.length oA)∧w'.cell? ⟨tA,1,none⟩=some (.slice pA fA.length qA)∧w'.cell? ⟨tA,2,none⟩=some (.slice rA gA.length sA)∧w'.cell? (uA.add (dA).toNat)=some (.slice (some qB) (Q0d bA dA).length vE)∧w'.cell? (qB.add ((eA).toNat*3))=some (.int .i64 ((Q0a (Q0d bA dA) eA).f0))∧w'.cell? ⟨(qB.add ((eA).toNat*3)).block,(qB.add ((eA).toNat*3)).off+1,none⟩=some (.int .i64 ((Q0a (Q0d bA dA) eA).f1))∧w'.cell? ⟨(qB.add ((eA).toNat*3)).block,(qB.add ((eA).toNat*3)).off+2,none⟩=some (.int .i64 ((Q0a (Q0d bA dA) eA).f2))) (ds:=[]) ⟨bC aA,bC aA,bC aA,(hW HB eC :),(hW HB hC :),(hW HB gC :),(hW HB fC :)⟩ fun hHeld => ?_;refine Q1l Q0l.tab10 Q0l.bits10 (fun HT_ HW_ => ?_)
               generalize uJ.drew=w36 at yA aA cA HB fD jB lB mB nB hHeld ⊢
               refine pQ 0 (some 49) HT_ ?_;refine pQ 1 (some 50) HT_ ?_;refine pQ 2 (some 51) HT_ ?_;refine pQ 3 (some 52) HT_ ?_;refine pQ 5 (some 54) HT_ ?_;refine pQ 7 (some 56) HT_ ?_;refine pQ 10 (some 59) HT_ ?_;refine tQ 4 (some 53) HT_ HW_ hHeld ?_;refine tQ 6 (some 55) HT_ HW_ hHeld ?_;refine pQ 8 (some 57) HT_ ?_;refine tQ 9 (some 58) HT_ HW_ hHeld ?_;refine pQ 11 (some 60) HT_ ?_;refine tQ 12 (some 61) HT_ HW_ hHeld ?_
               refine oQ 13 (some 62) HT_ rfl fun K hK => ?_
               refine gO Try.func12 #[.agg #[.slice (some uA) bA.length oA,.slice pA fA.length qA,.slice rA gA.length sA],.agg #[.int .i64 ((Q0a (Q0d bA dA) eA).f0),.int .i64 ((Q0a (Q0d bA dA) eA).f1),.int .i64 ((Q0a (Q0d bA dA) eA).f2)]] ?_
               with_reducible refine (Q0r.calls k3 _ _ bA _ _ fA _ _ gA ((Q0a (Q0d bA dA) eA).f0) ((Q0a (Q0d bA dA) eA).f1) ((Q0a (Q0d bA dA) eA).f2) hD _ ?side1 ?side2 ?side3 ?side4 ?side5 ?side6 sJ.out).mono ?_
               (case side1=>exact sC mA HB)
               (case side2=>exact zA.out)
               (case side3=>exact sC aB HB)
               (case side4=>exact bB.out)
               (case side5=>exact sC cB HB)
               (case side6=>exact eB.out)
               rintro e mK ⟨wJ,rfl,kC,hb⟩
               refine ⟨_,rfl,?_⟩
               have kD:=AM (Kd.Q1a (Kd.Q21 kC (Kd.R_lt (rK yA))) (Q0h (bH HB)))
               replace yA:=AM (Kd.Q2c (rK yA) (Kd.Q2q kC) hb)
               replace aA:=kB aA hb;replace cA:=kB cA hb;replace HB:=kH HB hb;(try clear hb);(try clear hb2);(try clear hk);(try clear hi);(try clear kC)
               obtain ⟨fI,gI,gF⟩:=Kd.Q02 yA.out
               (first|subst gF|(injection gF with hF hI jF;have iI:=hF.symm;have jI:=jF.symm;clear hF hI jF;subst iI;subst jI))
               obtain ⟨kI,lI,kF⟩:=Kd.Q02 kD.out
               (first|subst kF|(injection kF with hF hI jF;have iI:=hF.symm;have jI:=jF.symm;clear hF hI jF;subst iI;subst jI))
               refine hK.out _ _ ⟨bC aA,bC aA,bC aA,(hW HB eC :),(hW HB hC :),(hW HB gC :),(hW HB fC :)⟩ (fun hHeld => ?_)
               clear hK K;refine nP (some 62) ?_
               refine oQ 14 (some 63) HT_ rfl fun K hK => ?_
               refine gO Try.func11 #[.slice fI jE.length gI,.slice kI hD.length lI] ?_
               with_reducible refine (Q06.calls k3 _ _ jE _ _ hD true _ ?side1 ?side2 ?side3 ?side4 tJ.out).mono ?_
               (case side1=>exact sR yA)
               (case side2=>exact (Kd.Q0x yA.out).2.1)
               (case side3=>exact sR kD)
               (case side4=>exact (Kd.Q0x kD.out).2.1)
               rintro e w' ⟨rfl,⟨nd,rfl⟩⟩
               refine ⟨_,rfl,?_⟩
               refine hK.out _ _ ⟨bC aA,bC aA,bC aA,(hW HB eC :),(hW HB hC :),(hW HB gC :),(hW HB fC :)⟩ (fun hHeld => ?_)
               clear hK K;refine nP (some 63) ?_;refine pQ 15 (some 64) HT_ ?_;refine pQ 16 (some 65) HT_ ?_
               refine done_ (Q2d HT_.out (by kernel_rfl)) ?_
               try go_wp2
               go_roundg k3
               case measure=>have:=nF.out;have:=oF.out;have:=pF.out;omega
               case rel=>exact ⟨(wrap64 (eA+1)),rS,H',⟨by have:=nF.out;have:=oF.out;have:=pF.out;omega⟩,⟨bK aA⟩,⟨bK cA⟩,⟨ bH HB⟩⟩
              ·replace qF:=Bool.eq_false_iff.mpr qF
               subst qF
               replace H:=iF H
               exact absurd H (by simp)
           ·have H':=AM H
            clear H;have dJ:=hA.out;have eJ:=iA.out;obtain ⟨zF,aG,bG,cG,dG,eG⟩:=c3 aA
            have rC:0≤(dA:Int):=pD
            have tC:dA<(bA.length:Int):=pD
            obtain ⟨uA,kE,lE,mE,vA,wA,xA⟩:=Q3p mA.out dA rC tC
            cases mE
            replace vA:=hW HB vA
            have tD:=AM xA
            have uD:=AM wA
            clear xA wA;replace rC:=eq_true rC;replace tC:=eq_true tC
            go_wp2
            go_roundg k3
            case measure=>have:=nF.out;have:=oF.out;have:=pF.out;omega
            case rel=>exact ⟨(wrap64 (dA+1)),rS,H',⟨by have:=nF.out;have:=oF.out;have:=pF.out;omega⟩,⟨bK aA⟩,⟨bK cA⟩,⟨ bH HB⟩⟩
      ·obtain ⟨⟨yE,uC⟩,fJ,H⟩:=bS H
       try dsimp only at H
       by_cases zE:uC=0
       ·rw [if_pos zE] at H
        have lF:(uC==0)=true:=beq_iff_eq.mpr zE
        have mF:(uC != 0)=false:=bne_eq_false_iff_eq.mpr zE
        clear zE
        obtain ⟨lD,xJ,H⟩:=bS H
        obtain ⟨fE,yJ,H⟩:=bS H
        by_cases fG:fE=true
        ·subst fG
         replace H:=iT H
         obtain ⟨gE,zJ,H⟩:=bS H
         obtain rfl:=Option.some.inj H
         have gJ:=hA.out;have hJ:=iA.out;obtain ⟨gG,hG,iG,jG,lG,mG⟩:=c3 aA;obtain ⟨nG,oG,pG,qG,rG,sG⟩:=c3 cA
         go_wp2_with (first|((with_reducible refine Q0o (f:=10) rfl ?_);refine gL (some 69) Try.func10 #[.agg #[.slice oB bA.length oA,.slice pA fA.length qA,.slice rA gA.length sA],.agg #[.int .i64 jA,.int .i64 kA,.int .i64 lA]] ?_;(with_reducible refine (Q0v.calls k2 _ _ bA _ _ fA _ _ gA jA kA lA yE uC _ ?side1 ?side2 ?side3 ?side4 ?side5 ?side6 fJ.out).mono ?_);(case side1=>exact sC mA HB);(case side2=>exact zA.out);(case side3=>exact sC aB HB);(case side4=>exact bB.out);(case side5=>exact sC cB HB);(case side6=>exact eB.out);rintro e nK ⟨mI,rfl,kC,hb⟩;refine ⟨_,rfl,?_⟩;have nA:=AM (Kd.Q1a kC (Q0h (bH HB)));replace aA:=kB aA hb;replace cA:=kB cA hb;replace HB:=kH HB hb;(try clear hb);(try clear hb2);(try clear hk);(try clear hi);(try clear kC);obtain ⟨tG,uG,vG,wG,xG,yG⟩:=c3 aA;obtain ⟨zG,aH,cH,eH,fH,gH⟩:=c3 cA)|(go_at_call 12;(with_reducible refine (Q0r.calls k2 _ _ bA _ _ fA _ _ gA jA kA lA lD _ ?side1 ?side2 ?side3 ?side4 ?side5 ?side6 xJ.out).mono ?_);(case side1=>exact sC mA HB);(case side2=>exact zA.out);(case side3=>exact sC aB HB);(case side4=>exact bB.out);(case side5=>exact sC cB HB);(case side6=>exact eB.out);rintro e oK ⟨aK,rfl,kC,hb⟩;have jC:=AM (Kd.Q1a (Kd.Q21 kC (Kd.R_lt (rK nA))) (Q0h (bH HB)));replace nA:=AM (Kd.Q2c (rK nA) (Kd.Q2q kC) hb);replace aA:=kB aA hb;replace cA:=kB cA hb;replace HB:=kH HB hb;(try clear hb);(try clear hb2);(try clear hk);(try clear hi);(try clear kC);obtain ⟨cK,dK,nI⟩:=Kd.Q02 nA.out;subst nI;obtain ⟨eK,fK,oI⟩:=Kd.Q02 jC.out;subst oI)|(go_at_call 11;(with_reducible refine (Q06.calls k2 _ _ yE _ _ lD true _ ?side1 ?side2 ?side3 ?side4 yJ.out).mono ?_);(case side1=>exact sR nA);(case side2=>exact (Kd.Q0x nA.out).2.1);(case side3=>exact sR jC);(case side4=>exact (Kd.Q0x jC.out).2.1);rintro e w' ⟨rfl,⟨nd,rfl⟩⟩)|(go_at_call 9;(with_reducible refine (Q3i.calls  gE _ zJ.out).mono ?_);rintro e pK ⟨rfl,hb⟩;replace nA:=kR nA hb;replace jC:=kR jC hb;replace aA:=kB aA hb;replace cA:=kB cA hb;replace HB:=kH HB hb;(try clear hb);(try clear hb2);(try clear hk);(try clear hi)))
         go_ret
         exact ⟨rE,bH HB⟩
        ·replace fG:=Bool.eq_false_iff.mpr fG
         subst fG
         replace H:=iF H
         exact absurd H (by simp)
       ·rw [if_neg zE] at H
        have lF:(uC==0)=false:=beq_eq_false_iff_ne.mpr zE
        have mF:(uC != 0)=true:=bne_iff_ne.mpr zE
        obtain ⟨hE,gK,H⟩:=bS H
        obtain rfl:=Option.some.inj H
        have iJ:=hA.out;have jJ:=iA.out;obtain ⟨hH,iH,jH,lH,mH,nH⟩:=c3 aA;obtain ⟨oH,pH,qH,rH,sH,tH⟩:=c3 cA
        go_wp2_with (first|((with_reducible refine Q0o (f:=10) rfl ?_);refine gL (some 69) Try.func10 #[.agg #[.slice oB bA.length oA,.slice pA fA.length qA,.slice rA gA.length sA],.agg #[.int .i64 jA,.int .i64 kA,.int .i64 lA]] ?_;(with_reducible refine (Q0v.calls k2 _ _ bA _ _ fA _ _ gA jA kA lA yE uC _ ?side1 ?side2 ?side3 ?side4 ?side5 ?side6 fJ.out).mono ?_);(case side1=>exact sC mA HB);(case side2=>exact zA.out);(case side3=>exact sC aB HB);(case side4=>exact bB.out);(case side5=>exact sC cB HB);(case side6=>exact eB.out);rintro e qK ⟨mI,rfl,kC,hb⟩;refine ⟨_,rfl,?_⟩;have nA:=AM (Kd.Q1a kC (Q0h (bH HB)));replace aA:=kB aA hb;replace cA:=kB cA hb;replace HB:=kH HB hb;(try clear hb);(try clear hb2);(try clear hk);(try clear hi);(try clear kC))|(go_at_call 9;(with_reducible refine (Q3i.calls  hE _ gK.out).mono ?_);rintro e sK ⟨rfl,hb⟩;replace nA:=kR nA hb;replace aA:=kB aA hb;replace cA:=kB cA hb;replace HB:=kH HB hb;(try clear hb);(try clear hb2);(try clear hk);(try clear hi)))
        go_ret
        exact ⟨rE,bH HB⟩
end Go.Proofs.Ytbonkedecfjmdaa.P

namespace Go.Proofs.Ytbonkedecfjmdaa.O
set_option linter.unusedVariables false
set_option linter.unusedSimpArgs false
open Go.RowKit Go.Deep Go.ChangeShapes Go.WideShapes Go.Proofs.YtbonkedecfjmdaaW.PrintWords
def Opens {α:Type} (P:Program) (t:TypeId) (d:Kd α) (ok:α→Prop) (mu:α→Nat):Prop :=
 ∀ (H:Type) (enc:TypeId×Value→H) (w:World) (fuel:Nat) (cs:List Value) (x:DataW H×List MemPlace),
  DataW.trod enc P w 0 (fun _=>true) true fuel t cs=some x→∃ y:α,d.K w y cs∧ok y∧mu y≤Rows.uptoBulk x.1
theorem Q6m {H:Type} (d:DataW H):1≤Rows.uptoBulk d:=by
 cases d with
 | lit l=>cases l<;>simp [Rows.uptoBulk]
 | _=>simp [Rows.uptoBulk]
theorem Q5f {P:Program} {t:TypeId} {k:IntKind} (ht:P.underlying t=some (.int k)):Opens P t (Kd.int k) (fun n=>(Lit.int k n).wf=true) (fun _=>1):=by
 intro H enc w fuel cs x h
 obtain ⟨n,rfl,rfl,hw⟩:=DataW.trod_int ht h
 exact ⟨n,rfl,hw,Q6m _⟩
theorem Qax {H:Type} (D:Nat→DataW H) (m:Nat→Nat):∀ n,(∀ i,i<n→m i≤Rows.uptoBulk (D i))→((List.range n).map m).sum≤Rows.uptoBulkAll ((List.range n).map D):=by
 have app:∀ l r:List (DataW H),Rows.uptoBulkAll (l++r)=Rows.uptoBulkAll l+Rows.uptoBulkAll r:=by
  intro l r
  induction l with
  | nil=>simp [Rows.uptoBulkAll]
  | cons x l ih=>simp only [List.cons_append,Rows.uptoBulkAll,ih];omega
 intro n
 induction n with
 | zero=>intro _;simp
 | succ n ih =>
  intro h
  have h1:=ih fun i hi=>h i (by omega)
  have h2:=h n (by omega)
  rw [List.range_succ,List.map_append,List.map_append,app,List.sum_append]
  simp only [List.map_cons,List.map_nil,List.sum_cons,List.sum_nil,Rows.uptoBulkAll]
  omega
theorem Q34 {α:Type} [Inhabited α] {P:Program} {t e:TypeId} {d:Kd α} {ok:α→Prop} {mu:α→Nat} (ht:P.underlying t=some (.slice e)) (hs:d.sz=P.cellsOf e) (h:Opens P e d ok mu) :
  Opens P t (Kd.slice e d) (fun l=>l.length≤maxLen∧∀ x∈l,ok x) (fun l=>1+(l.map mu).sum):=by
 intro H enc w fuel cs x hx
 rcases open_slice ht hx with ⟨rfl,rfl⟩|⟨a,len,cap,m,n,D,Pl,rfl,hb,hl,hm,hmm,rfl,hi⟩
 ·exact ⟨[],⟨none,0,rfl,Nat.le_refl _,rfl,by simp,fun h0=>absurd h0 (by simp)⟩,⟨by simp,by simp⟩,by simpa using Q6m _⟩
 ·have hle:len≤m:=by simp at hmm;omega
  obtain ⟨f,hf⟩:=choose_lt (α:=α) (n:=len) (p:=fun i y=>∃ cs',w.cells? 0 (a.add (i*P.cellsOf e)) (P.cellsOf e)=some cs'∧d.K w y cs'∧ok y∧mu y≤Rows.uptoBulk (D i)) (fun i hil=>by
   obtain ⟨cs',hc,hy⟩:=hi i (by omega)
   obtain ⟨y,hK,ho,hmu⟩:=h H enc w n cs' _ hy
   exact ⟨y,cs',hc,hK,ho,hmu⟩)
  refine ⟨(List.range len).map f,⟨some a,cap,by simp,by simpa using hl,by simp,by (have:maxLen≤9223372036854775807:=by (unfold maxLen;omega));(simp;omega),fun h0=>⟨a,rfl,fun j p hj => ?_⟩⟩,⟨by simp;omega,fun x hx => ?_⟩,?_⟩
  ·rw [List.getElem?_map] at hj
   have hjl:j<len:=by
    by_cases hjl:j<len
    ·exact hjl
    ·rw [List.getElem?_eq_none (by simp;omega)] at hj;simp at hj
   rw [List.getElem?_range hjl] at hj
   simp only [Option.map_some,Option.some.injEq] at hj
   subst hj
   obtain ⟨cs',hc,hK,ho,hmu⟩:=hf j hjl
   obtain ⟨_,hlen,hat⟩:=World.cells?_some hc
   refine ⟨cs',by rw [hs];exact hlen,hK,fun i u hu => ?_⟩
   have hil:i<P.cellsOf e:=by
    have:=(List.getElem?_eq_some_iff.1 hu).1;omega
   rw [hs,← Go.Deep.add_add,hat i hil,hu]
  ·simp only [List.mem_map,List.mem_range] at hx
   obtain ⟨i,hil,rfl⟩:=hx
   obtain ⟨_,_,_,ho,_⟩:=hf i hil
   exact ho
  ·have:=Qax D (fun i=>mu (f i)) len fun i hil=>(hf i hil).choose_spec.2.2.2
   simp only [List.map_map,Rows.uptoBulk]
   have e1:(List.range len).map (mu ∘ f)=(List.range len).map fun i=>mu (f i):=rfl
   rw [e1]
   omega
theorem Q5t {α β γ δ:Type} {P:Program} {t:TypeId} {f0 f1 f2:Field} {d0:Kd α} {d1:Kd β} {d2:Kd γ} {ok0:α→Prop} {ok1:β→Prop} {ok2:γ→Prop} {mu0:α→Nat} {mu1:β→Nat} {mu2:γ→Nat}
  (hs:P.underlying t=some (.struct #[f0,f1,f2])) (hone:oneCellFields P #[f0,f1,f2]=true) (hC:P.cellsOf t=3) (h0:Opens P f0.type d0 ok0 mu0) (h1:Opens P f1.type d1 ok1 mu1) (h2:Opens P f2.type d2 ok2 mu2)
  (mk:α→β→γ→δ) (d:Kd δ) (hd:∀ w y0 y1 y2 c0 c1 c2,d0.K w y0 [c0]→d1.K w y1 [c1]→d2.K w y2 [c2]→d.K w (mk y0 y1 y2) [c0,c1,c2])
  (ok:δ→Prop) (hok:∀ y0 y1 y2,ok0 y0→ok1 y1→ok2 y2→ok (mk y0 y1 y2)) (mu:δ→Nat) (hmu:∀ y0 y1 y2,mu (mk y0 y1 y2)≤1+mu0 y0+mu1 y1+mu2 y2):Opens P t d ok mu:=by
 intro H enc w fuel cs x hx
 obtain ⟨xs,n,_,rfl,hcl,hlen,hg⟩:=DataW.trod_struct hs hx
 rw [hC] at hcl
 match cs,hcl with
 | [c0,c1,c2],_ =>
  obtain ⟨o0,k0⟩:=hone_of hone 0 f0 rfl
  obtain ⟨o1,k1⟩:=hone_of hone 1 f1 rfl
  obtain ⟨o2,k2⟩:=hone_of hone 2 f2 rfl
  match xs,hlen with
  | [y0,y1,y2],_ =>
   have g0:DataW.trod enc P w 0 (fun _=>true) true n f0.type [c0]=some y0:=by simpa [o0,k0] using hg 0 f0 rfl
   have g1:DataW.trod enc P w 0 (fun _=>true) true n f1.type [c1]=some y1:=by simpa [o1,k1] using hg 1 f1 rfl
   have g2:DataW.trod enc P w 0 (fun _=>true) true n f2.type [c2]=some y2:=by simpa [o2,k2] using hg 2 f2 rfl
   obtain ⟨z0,K0,O0,M0⟩:=h0 H enc w n _ _ g0
   obtain ⟨z1,K1,O1,M1⟩:=h1 H enc w n _ _ g1
   obtain ⟨z2,K2,O2,M2⟩:=h2 H enc w n _ _ g2
   refine ⟨mk z0 z1 z2,hd w _ _ _ _ _ _ K0 K1 K2,hok _ _ _ O0 O1 O2,Nat.le_trans (hmu _ _ _) ?_⟩
   simp only [List.map_cons,List.map_nil,Rows.uptoBulk,Rows.uptoBulkAll]
   omega
theorem Qd5 {α β δ:Type} {P:Program} {t:TypeId} {f0 f1:Field} {d0:Kd α} {d1:Kd β} {ok0:α→Prop} {ok1:β→Prop} {mu0:α→Nat} {mu1:β→Nat}
  (hs:P.underlying t=some (.struct #[f0,f1])) (hone:oneCellFields P #[f0,f1]=true) (hC:P.cellsOf t=2) (h0:Opens P f0.type d0 ok0 mu0) (h1:Opens P f1.type d1 ok1 mu1)
  (mk:α→β→δ) (d:Kd δ) (hd:∀ w y0 y1 c0 c1,d0.K w y0 [c0]→d1.K w y1 [c1]→d.K w (mk y0 y1) [c0,c1])
  (ok:δ→Prop) (hok:∀ y0 y1,ok0 y0→ok1 y1→ok (mk y0 y1)) (mu:δ→Nat) (hmu:∀ y0 y1,mu (mk y0 y1)≤1+mu0 y0+mu1 y1):Opens P t d ok mu:=by
 intro H enc w fuel cs x hx
 obtain ⟨xs,n,_,rfl,hcl,hlen,hg⟩:=DataW.trod_struct hs hx
 rw [hC] at hcl
 match cs,hcl with
 | [c0,c1],_ =>
  obtain ⟨o0,k0⟩:=hone_of hone 0 f0 rfl
  obtain ⟨o1,k1⟩:=hone_of hone 1 f1 rfl
  match xs,hlen with
  | [y0,y1],_ =>
   have g0:DataW.trod enc P w 0 (fun _=>true) true n f0.type [c0]=some y0:=by simpa [o0,k0] using hg 0 f0 rfl
   have g1:DataW.trod enc P w 0 (fun _=>true) true n f1.type [c1]=some y1:=by simpa [o1,k1] using hg 1 f1 rfl
   obtain ⟨z0,K0,O0,M0⟩:=h0 H enc w n _ _ g0
   obtain ⟨z1,K1,O1,M1⟩:=h1 H enc w n _ _ g1
   refine ⟨mk z0 z1,hd w _ _ _ _ K0 K1,hok _ _ O0 O1,Nat.le_trans (hmu _ _) ?_⟩
   simp only [List.map_cons,List.map_nil,Rows.uptoBulk,Rows.uptoBulkAll]
   omega
end Go.Proofs.Ytbonkedecfjmdaa.O

namespace Go.Proofs.Ytbonkedecfjmdaa.P
open Go.RowKit Go.Proofs.Ytbonkedecfjmdaa.O Go.Proofs.YtbonkedecfjmdaaW.PrintWords Go.Proofs.YtbonkedecfjmdaaW.PrintLast
instance inh27:Inhabited S27:=⟨z27⟩
def ok27 (x:S27):Prop:=(fun n=>(Lit.int .i64 n).wf=true) x.f0∧(fun n=>(Lit.int .i64 n).wf=true) x.f1∧(fun n=>(Lit.int .i64 n).wf=true) x.f2
def mu27 (x:S27):Nat:=1+(fun _=>1) x.f0+(fun _=>1) x.f1+(fun _=>1) x.f2
theorem op27:Opens Try.prog 27 k27 ok27 mu27 :=
 Q5t Try.underlying27 (by kernel_rfl) (by kernel_rfl) (Q5f Try.underlying3) (Q5f Try.underlying3) (Q5f Try.underlying3) (fun a b c=>⟨a,b,c⟩) k27 (fun w y0 y1 y2 c0 c1 c2 h0 h1 h2=>⟨[c0],[c1,c2],rfl,h0,⟨[c1],[c2],rfl,h1,h2⟩⟩) ok27 (fun _ _ _ a b c=>⟨a,b,c⟩) mu27 (fun _ _ _=>Nat.le_refl _)
instance inh25:Inhabited S25:=⟨z25⟩
def ok25 (x:S25):Prop:=(fun l=>l.length≤maxLen∧∀ x∈l,(fun l=>l.length≤maxLen∧∀ x∈l,ok27 x) x) x.f0∧(fun l=>l.length≤maxLen∧∀ x∈l,(fun l=>l.length≤maxLen∧∀ x∈l,(fun n=>(Lit.int .i64 n).wf=true) x) x) x.f1∧(fun l=>l.length≤maxLen∧∀ x∈l,(fun l=>l.length≤maxLen∧∀ x∈l,(fun n=>(Lit.int .i64 n).wf=true) x) x) x.f2
def mu25 (x:S25):Nat:=1+(fun l=>1+(l.map (fun l=>1+(l.map mu27).sum)).sum) x.f0+(fun l=>1+(l.map (fun l=>1+(l.map (fun _=>1)).sum)).sum) x.f1+(fun l=>1+(l.map (fun l=>1+(l.map (fun _=>1)).sum)).sum) x.f2
theorem op25:Opens Try.prog 25 k25 ok25 mu25 :=
 Q5t Try.underlying25 (by kernel_rfl) (by kernel_rfl) (Q34 (e:=31) Try.underlying22 (by kernel_rfl) (Q34 (e:=27) Try.underlying31 (by kernel_rfl) op27)) (Q34 (e:=32) Try.underlying23 (by kernel_rfl) (Q34 (e:=3) Try.underlying32 (by kernel_rfl) (Q5f Try.underlying3))) (Q34 (e:=32) Try.underlying23 (by kernel_rfl) (Q34 (e:=3) Try.underlying32 (by kernel_rfl) (Q5f Try.underlying3))) (fun a b c=>⟨a,b,c⟩) k25 (fun w y0 y1 y2 c0 c1 c2 h0 h1 h2=>⟨[c0],[c1,c2],rfl,h0,⟨[c1],[c2],rfl,h1,h2⟩⟩) ok25 (fun _ _ _ a b c=>⟨a,b,c⟩) mu25 (fun _ _ _=>Nat.le_refl _)
end Go.Proofs.Ytbonkedecfjmdaa.P

namespace Go.Proofs.Ytbonkedecfjmdaa.Pl
set_option linter.unusedVariables false
set_option linter.unusedSimpArgs false
open Go Go.RowKit Go.Proofs.Ytbonkedecfjmdaa.P Go.Proofs.Ytbonkedecfjmdaa.G Go.Proofs.Ytbonkedecfjmdaa.WL Go.Proofs.YtbonkedecfjmdaaW.PrintWords Go.Proofs.YtbonkedecfjmdaaW.PrintLast Go.Proofs.YtbonkedecfjmdaaW.PrintMore
def turnL {α:Type} (p:List α) (k:Nat):List α:=p.drop k++p.take k
theorem Q58 {α:Type} (p:List α) (k:Nat):(turnL p k).Perm p:=by
 unfold turnL
 refine List.perm_append_comm.trans ?_
 rw [List.take_append_drop]
theorem Q92 {α:Type} {u v:List α} (f:α→Bool) (h:u.Perm v):u.all f=v.all f:=by
 rw [Bool.eq_iff_iff,List.all_eq_true,List.all_eq_true]
 exact ⟨fun a x hx=>a x (h.mem_iff.2 hx),fun a x hx=>a x (h.mem_iff.1 hx)⟩
theorem Q9c (m:List (List Pt)) (r p:List (List Int)) (k:Nat):FillsV m r (turnL p k)=FillsV m r p:=by
 have hp:=Q58 p k
 have hf:(turnL p k).flatten.Perm p.flatten:=hp.flatten
 unfold FillsV
 rw [Q92 (inR r) hf,Q92 (fillsV m r) hp]
 congr 2
 congr 1
 funext j
 rw [hf.count_eq]
theorem Qb2 {α:Type} (p:List α) (k:Nat):(turnL p k).length=p.length:=(Q58 p k).length_eq
theorem Q61 (p:List (List Int)) (k:Nat):(turnL p k).flatten.length=p.flatten.length:=((Q58 p k).flatten).length_eq

def longV (m:List (List Pt)) (r p:List (List Int)):Bool:=decide (r.length>1000) || (decide (p.length>1000) || (decide (r.flatten.length>20000) || decide (p.flatten.length>20000)))
def checkV (m:List (List Pt)) (r p:List (List Int)):Int :=
 if arcsV m=3∨longV m r p=true then 3 else if arcsV m≠0 then arcsV m else if meetsV m=true then 91 else if closesV m r=true then (if FillsV m r p=true then 0 else 92) else 90
theorem Qer (m:List (List Pt)) (r p:List (List Int)) (k:Nat):checkV m r (turnL p k)=checkV m r p:=by
 unfold checkV longV
 rw [Qb2,Q61,Q9c]
theorem Q5h {m:List (List Pt)} (h:arcsV m=0):m.length≤2000∧∀ x∈m,x.length≤20000:=by
 unfold arcsV at h
 split at h
 ·cases h
 ·rename_i hn
  refine ⟨by omega,fun x hx => ?_⟩
  have:x.length≤(m.map List.length).sum:=by
   clear hn h
   induction m with
   | nil=>simp at hx
   | cons y m ih =>
    rw [List.map_cons,List.sum_cons]
    rcases List.mem_cons.1 hx with rfl|hx
    ·omega
    ·have:=ih hx;omega
  omega
theorem Q9z (m:List (List Pt)) (r p:List (List Int)) (e:Int) (b:Bool) (he:e=arcsV m) (hb:b=false→longV m r p=false) (hwf:∀ x∈r,∀ n∈x,wf64 n):Ev (fun k=>Q0y.j1 k e b m r p) (if b=true then 3 else if e≠0 then e else if meetsV m=true then 91 else if closesV m r=true then (if FillsV m r p=true then 0 else 92) else 90):=by
 subst he
 cases b with
 | true=>exact Ev.step (f:=fun _=>some 3) (fun k=>by simp only [Q0y.j1,if_true]) (Ev.now _)
 | false =>
  have hl:=hb rfl
  simp only [Bool.false_eq_true,if_false]
  by_cases h0:arcsV m=0
  ·obtain ⟨hm,hx⟩:=Q5h h0
   unfold longV at hl
   simp only [Bool.or_eq_false_iff,decide_eq_false_iff_not] at hl
   obtain ⟨l1,l2,l3,l4⟩:=hl
   have c1:m.length≤1048576∧∀ x∈m,x.length≤1048576:=⟨by omega,fun x h=>Nat.le_trans (hx x h) (by omega)⟩
   have c2:(∀ x∈m,x.length≤20000)∧r.length≤20000∧r.flatten.length≤20000∧(∀ x∈r,∀ n∈x,-9223372036854775808≤n∧n≤9223372036854775807)∧m.length≤1000000:=⟨hx,by omega,by omega,hwf,by omega⟩
   have c3:(∀ x∈m,x.length≤20000)∧r.length≤20000∧r.flatten.length≤20000∧(∀ x∈r,∀ n∈x,-9223372036854775808≤n∧n≤9223372036854775807)∧p.length≤20000∧p.flatten.length≤20000:=⟨hx,by omega,by omega,hwf,by omega,by omega⟩
   rw [if_neg (by simpa using h0)]
   refine Ev.step (f:=fun _=>some (if meetsV m=true then 91 else if closesV m r=true then (if FillsV m r p=true then 0 else 92) else 90)) (fun k => ?_) (Ev.now _)
   simp only [Q0y.j1,Bool.false_eq_true,if_false,if_pos h0,Q4j.f,Q36.f,Q4i.f,if_pos c1,if_pos c2,if_pos c3,Option.bind_some]
   cases meetsV m<;>cases closesV m r<;>cases FillsV m r p<;>rfl
  ·rw [if_pos h0]
   exact Ev.step (f:=fun _=>some (arcsV m)) (fun k=>by simp only [Q0y.j1,Bool.false_eq_true,if_false,if_neg h0]) (Ev.now _)
theorem Qdr (m:List (List Pt)) (r p:List (List Int)) (b:Bool) (hb:b=longV m r p) (hwf:∀ x∈r,∀ n∈x,wf64 n):Ev (fun k=>Q0y.j0 k (arcsV m) b m r p) (checkV m r p):=by
 subst hb
 by_cases h3:arcsV m=3
 ·have:=Q9z m r p (arcsV m) true rfl (by simp) hwf
  rw [if_pos rfl] at this
  unfold checkV
  rw [if_pos (.inl h3)]
  exact Ev.step (fun k=>by simp only [Q0y.j0,if_pos h3]) this
 ·have:=Q9z m r p (arcsV m) (longV m r p) rfl id hwf
  unfold checkV
  have e:(arcsV m=3∨longV m r p=true)↔longV m r p=true:=⟨fun h=>h.resolve_left h3,.inr⟩
  simp only [e]
  exact Ev.step (fun k=>by simp only [Q0y.j0,if_neg h3]) this
theorem Q91 (m:List (List Pt)) (r p:List (List Int)) (hm:m.length≤1048576) (hx:∀ a∈m,a.length≤1048576) (hr:r.length≤1048576) (hrf:r.flatten.length≤1048576) (hp:p.length≤1048576) (hpf:p.flatten.length≤1048576) (hwf:∀ x∈r,∀ n∈x,wf64 n):Ev (fun k=>Q0y.f k m r p) (checkV m r p):=by
 unfold Q0y.f
 refine Ev.bind (Qcy m hm hx) ?_
 have L:=fun b (h:b=longV m r p)=>Qdr m r p b h hwf
 by_cases h1:r.length>1000
 ·simp only [if_pos (show (r.length:Int)>1000 by omega)]
  exact L true (by simp [longV,h1])
 ·simp only [if_neg (show ¬ (r.length:Int)>1000 by omega)]
  by_cases h2:p.length>1000
  ·simp only [if_pos (show (p.length:Int)>1000 by omega)]
   exact L true (by simp [longV,h2])
  ·simp only [if_neg (show ¬ (p.length:Int)>1000 by omega)]
   have e1:Q1i.f r=some r.flatten:=by unfold Q1i.f;rw [if_pos ⟨by omega,by omega⟩]
   have e2:Q1i.f p=some p.flatten:=by unfold Q1i.f;rw [if_pos ⟨by omega,by omega⟩]
   simp only [e1,e2,Option.bind_some]
   have hl:longV m r p=(decide (r.flatten.length>20000) || decide (p.flatten.length>20000)):=by simp [longV,h1,h2]
   by_cases h3:r.flatten.length>20000
   ·simp only [if_pos (show (r.flatten.length:Int)>20000 by omega)]
    exact L true (by rw [hl];simp only [h3,decide_true,Bool.true_or])
   ·simp only [if_neg (show ¬ (r.flatten.length:Int)>20000 by omega)]
    refine L _ ?_
    rw [hl,decide_eq_false h3,Bool.false_or]
    by_cases h4:p.flatten.length>20000
    ·rw [decide_eq_true h4,decide_eq_true (by omega)]
    ·rw [decide_eq_false h4,decide_eq_false (by omega)]
end Go.Proofs.Ytbonkedecfjmdaa.Pl
