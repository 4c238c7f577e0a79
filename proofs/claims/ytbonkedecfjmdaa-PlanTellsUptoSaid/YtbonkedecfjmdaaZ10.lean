/- Written for this claim by a program of this session (a turned copy of the print): Go functions as Lean functions, and that the Go code comes to just these answers; or a statement proved out of them. No condition. -/
import Derived.Test.YtbonkedecfjmdaaZ2
import Derived.Test.YtbonkedecfjmdaaZ4
import Derived.Test.YtbonkedecfjmdaaZ3
import Derived.Test.YtbonkedecfjmdaaZ6
import Derived.Test.YtbonkedecfjmdaaZ7
import Derived.Test.YtbonkedecfjmdaaZ9

namespace Go.Proofs.Ytbonkedecfjmdaa.P
open Go.RowKit Go.Proofs.YtbonkedecfjmdaaW.PrintWords Go.Proofs.YtbonkedecfjmdaaW.PrintLast Go.Proofs.YtbonkedecfjmdaaW.PrintMore Go.Proofs.Ytbonkedecfjmdaa.X
attribute [local go_sem] Q2a Q2b Q2s Q2q Q1z Q1y Q19 Q2c Q2r Q2p add64
set_option linter.unusedVariables false
set_option linter.unusedSimpArgs false
mutual
def Q0g.l0:Nat→List Int→Int→List (List (S27))→List (List Int)→List (List Int)→Option (Bool)
 | 0,_,_,_,_,_=>none
 | k+1,x1,x5,x291000,x291001,x291002=>if x5<(x1.length:Int) then (if 0≤x5 then (if (rd x1 x5)<0 then (Q0g.j1 k x1 x5 true x291000 x291001 x291002) else (Q0g.j1 k x1 x5 (decide ((rd x1 x5)≥(x291001.length:Int))) x291000 x291001 x291002)) else (none)) else (some (decide ((x1.length:Int)>0)))
def Q0g.j1:Nat→List Int→Int→Bool→List (List (S27))→List (List Int)→List (List Int)→Option (Bool)
 | 0,_,_,_,_,_,_=>none
 | k+1,x1,x5,x32,x291000,x291001,x291002=>if x32=true then (some false) else (if 0≤x5 then (if x5<(x1.length:Int) then (if 0≤(rd x1 x5) then (if (rd x1 x5)<(x291001.length:Int) then ((Q0f.f k x291000 x291001 x291002 (Q06 x291001 (rd x1 x5))).bind fun aB=>(if aB.2=0 then ((Q2g.f k x291000 x291001 x291002 (rd x1 x5)).bind fun jC=>((Q1o.f k 0).bind fun kC=>((Q1i.f k jC kC).bind fun xA=>(if x5=0 then (if xA=1 then (if x5>0 then (Q0g.j2 k x1 x5 aB.1 (xA != (-1)) x291000 x291001 x291002) else (Q0g.j2 k x1 x5 aB.1 false x291000 x291001 x291002)) else (Q0g.j2 k x1 x5 aB.1 true x291000 x291001 x291002)) else (if x5>0 then (Q0g.j2 k x1 x5 aB.1 (xA != (-1)) x291000 x291001 x291002) else (Q0g.j2 k x1 x5 aB.1 false x291000 x291001 x291002)))))) else (some false))) else (none)) else (none)) else (none)) else (none))
def Q0g.j2:Nat→List Int→Int→List (S27)→Bool→List (List (S27))→List (List Int)→List (List Int)→Option (Bool)
 | 0,_,_,_,_,_,_,_=>none
 | k+1,x1,x5,x6,x69,x291000,x291001,x291002=>if x69=true then (some false) else (if 0<(x1.length:Int) then (if 0≤(rd x1 0) then (if (rd x1 0)<(x291001.length:Int) then ((Q0f.f k x291000 x291001 x291002 (Q06 x291001 (rd x1 0))).bind fun iE=>(Q0g.l1 k x1 x5 x6 iE.1 0 x291000 x291001 x291002)) else (none)) else (none)) else (none))
def Q0g.l1:Nat→List Int→Int→List (S27)→List (S27)→Int→List (List (S27))→List (List Int)→List (List Int)→Option (Bool)
 | 0,_,_,_,_,_,_,_,_=>none
 | k+1,x1,x5,x6,x9,x11,x291000,x291001,x291002=>if x11<(x6.length:Int) then (Q0g.j4 k x1 x5 x6 x9 x11 (decide (x5>0)) x291000 x291001 x291002) else (Q0g.j4 k x1 x5 x6 x9 x11 false x291000 x291001 x291002)
def Q0g.j4:Nat→List Int→Int→List (S27)→List (S27)→Int→Bool→List (List (S27))→List (List Int)→List (List Int)→Option (Bool)
 | 0,_,_,_,_,_,_,_,_,_=>none
 | k+1,x1,x5,x6,x9,x11,x89,x291000,x291001,x291002=>if x89=true then (if 0≤x11 then (if x11<(x6.length:Int) then ((Q0z.f k ((Q0a x6 x11).f0) ((Q0a x6 x11).f1) ((Q0a x6 x11).f2) x9).bind fun gB=>(if gB=(-1) then (some false) else (Q0g.l1 k x1 x5 x6 x9 (wrap64 (x11+1)) x291000 x291001 x291002))) else (none)) else (none)) else (Q0g.l0 k x1 (wrap64 (x5+1)) x291000 x291001 x291002)
end
def Q0g.f (k:Nat) (dA:List (List (S27))) (cA:List (List Int)) (eA:List (List Int)) (l1:List Int):Option (Bool):=Q0g.l0 k l1 0 dA cA eA
theorem Q0g.Q1a:∀ k,(∀ y0 y1 y2 y3 y4,LeO (Q0g.l0 k y0 y1 y2 y3 y4) (Q0g.l0 (k+1) y0 y1 y2 y3 y4))∧(∀ y0 y1 y2 y3 y4 y5,LeO (Q0g.j1 k y0 y1 y2 y3 y4 y5) (Q0g.j1 (k+1) y0 y1 y2 y3 y4 y5))∧(∀ y0 y1 y2 y3 y4 y5 y6,LeO (Q0g.j2 k y0 y1 y2 y3 y4 y5 y6) (Q0g.j2 (k+1) y0 y1 y2 y3 y4 y5 y6))∧(∀ y0 y1 y2 y3 y4 y5 y6 y7,LeO (Q0g.l1 k y0 y1 y2 y3 y4 y5 y6 y7) (Q0g.l1 (k+1) y0 y1 y2 y3 y4 y5 y6 y7))∧(∀ y0 y1 y2 y3 y4 y5 y6 y7 y8,LeO (Q0g.j4 k y0 y1 y2 y3 y4 y5 y6 y7 y8) (Q0g.j4 (k+1) y0 y1 y2 y3 y4 y5 y6 y7 y8))
 | 0=>⟨fun _ _ _ _ _ r h=>by simp [Q0g.l0] at h,fun _ _ _ _ _ _ r h=>by simp [Q0g.j1] at h,fun _ _ _ _ _ _ _ r h=>by simp [Q0g.j2] at h,fun _ _ _ _ _ _ _ _ r h=>by simp [Q0g.l1] at h,fun _ _ _ _ _ _ _ _ _ r h=>by simp [Q0g.j4] at h⟩
 | k+1=>by
  obtain ⟨rF,sF,tF,uF,vF⟩:=Q0g.Q1a k
  refine ⟨?_,?_,?_,?_,?_⟩
  all_goals
   intros
   first|unfold Q0g.l0|unfold Q0g.j1|unfold Q0g.j2|unfold Q0g.l1|unfold Q0g.j4
   repeat' with_reducible first|exact rF _ _ _ _ _|exact sF _ _ _ _ _ _|exact tF _ _ _ _ _ _ _|exact uF _ _ _ _ _ _ _ _|exact vF _ _ _ _ _ _ _ _ _|exact Q1i.mono _ _ _|exact Q1o.mono _ _|exact Q0z.mono _ _ _ _ _|exact Q0f.mono _ _ _ _ _|exact Q2g.mono _ _ _ _ _|exact LeO.refl _|exact LeO.none _|refine LeO.ite ?_ ?_|refine LeO.bind ?_ (fun _ => ?_)
theorem Q0g.mono:∀ a0 a1 a2 a3 k,LeO (Q0g.f k a0 a1 a2 a3) (Q0g.f (k+1) a0 a1 a2 a3):=by
 intro a0 a1 a2 a3 k
 obtain ⟨rF,sF,tF,uF,vF⟩:=Q0g.Q1a k
 unfold Q0g.f
 repeat' with_reducible first|exact rF _ _ _ _ _|exact sF _ _ _ _ _ _|exact tF _ _ _ _ _ _ _|exact uF _ _ _ _ _ _ _ _|exact vF _ _ _ _ _ _ _ _ _|exact Q1i.mono _ _ _|exact Q1o.mono _ _|exact Q0z.mono _ _ _ _ _|exact Q0f.mono _ _ _ _ _|exact Q2g.mono _ _ _ _ _|exact LeO.refl _|exact LeO.none _|refine LeO.ite ?_ ?_|refine LeO.bind ?_ (fun _ => ?_)
def Q0g.T4:Bool×List (List Nat×List Nat):=(true,[([],[]),([],[]),([0,1],[0,1]),([2],[2]),([3],[3]),([4],[4]),([5],[5]),([5],[5]),([6,7,5],[5,6,7]),([8,5],[5,8]),([5],[5]),([10,5],[5,10]),([11,5],[5,11]),([9,12,5],[5,9,12]),([5,13],[5,13])])
def Q0g.B4:List Nat:=[0,0,3,7,15,31,63,63,255,511,63,1087,3135,8191,16383]
theorem Q0g.tab4:rtab .any (opsOf Try.f45 4)=Q0g.T4:=by kernel_rfl
theorem Q0g.bits4:waitsOk Q0g.T4.2 Q0g.B4=true:=by kernel_rfl
def Q0g.T6:Bool×List (List Nat×List Nat):=(true,[([],[]),([],[]),([1],[1]),([],[]),([],[]),([3,4],[3,4]),([5],[5]),([2,6],[2,6]),([7],[7]),([0,8],[0,8]),([9],[9]),([10],[10]),([10],[10]),([11,9,0,1,2,3,4,5,6,7,8,9,10,11],[11]),([12,13,0,1,2,3,4,5,6,7,8,9,10,11,12,13],[12])])
def Q0g.B6:List Nat:=[0,0,2,0,0,24,56,126,254,511,1023,2047,2047,4095,16383]
theorem Q0g.tab6:rtab .any (opsOf Try.f45 6)=Q0g.T6:=by kernel_rfl
theorem Q0g.bits6:waitsOk Q0g.T6.2 Q0g.B6=true:=by kernel_rfl
def Q0g.T9:Bool×List (List Nat×List Nat):=(true,[([],[]),([],[]),([],[]),([1,2],[1,2]),([3],[3]),([0,4],[0,4]),([5],[]),([5,6,6],[5,6]),([7,7,0,1,2,3,4,5,6,7],[7])])
def Q0g.B9:List Nat:=[0,0,0,6,14,31,63,127,255]
theorem Q0g.tab9:rtab .any (opsOf Try.f45 9)=Q0g.T9:=by kernel_rfl
theorem Q0g.bits9:waitsOk Q0g.T9.2 Q0g.B9=true:=by kernel_rfl
def Q0g.T12:Bool×List (List Nat×List Nat):=(true,[([],[]),([],[]),([1],[1]),([],[]),([3],[3]),([4],[4]),([2,5],[2,5]),([6],[6]),([0,7],[0,7]),([8],[8]),([9],[9]),([9],[9]),([10,8,0,1,2,3,4,5,6,7,8,9,10],[10]),([11,12,0,1,2,3,4,5,6,7,8,9,10,11,12],[11])])
def Q0g.B12:List Nat:=[0,0,2,0,8,24,62,126,255,511,1023,1023,2047,8191]
theorem Q0g.tab12:rtab .any (opsOf Try.f45 12)=Q0g.T12:=by kernel_rfl
theorem Q0g.bits12:waitsOk Q0g.T12.2 Q0g.B12=true:=by kernel_rfl
set_option maxHeartbeats 8000000 in
set_option maxRecDepth 100000 in
theorem Q0g.calls (k:Nat) (lA:Option Addr) (mA:Nat) (dA:List (List (S27))) (dC:Option Addr) (nA:Nat) (cA:List (List Int)) (oA:Option Addr) (pA:Nat) (eA:List (List Int)) (A1:Option Addr) (c1:Nat) (l1:List Int) (r:Bool) (w:World) (mD:Kd.C (Kd.slice 27 k27) w lA dA.length dA) (nD:dA.length≤mA) (oD:Kd.C (Kd.slice 3 (Kd.int .i64)) w dC cA.length cA) (qD:cA.length≤nA) (rD:Kd.C (Kd.slice 3 (Kd.int .i64)) w oA eA.length eA) (sD:eA.length≤pA) (uG:Kd.C (Kd.int .i64) w A1 l1.length l1) (vG:l1.length≤c1) (h:Q0g.f k dA cA eA l1=some r) :
  Calls Try.prog 45 #[.agg #[.slice lA dA.length mA,.slice dC cA.length nA,.slice oA eA.length pA],.slice A1 l1.length c1] w fun e w'=>e=.returned (.bool r)∧Below w.heap.size w w':=by
 have fH:=Try.underlying25
 have gH:=Try.underlying27
 have lC:=AM mD
 have mC:=AM nD
 clear mD nD
 have hB:=AM oD
 have nC:=AM qD
 clear oD qD
 have oC:=AM rD
 have pC:=AM sD
 clear rD sD
 have gE:=AM uG
 have cI:=AM vG
 clear uG vG
 have HB:=AM (Below.refl w.heap.size w)
 have H:(Q0g.l0 k l1 0 dA cA eA)=some r:=h
 clear h
 have H':=AM H
 clear H
 go_enter Try.func45,Try.ntmps45
 go_wp2_with (first|((with_reducible refine Q0i (N:=2) rfl ?_);(try (refine Q2e (by rfl) ?_;dsimp only));refine bE 2 #[.slice lA dA.length mA,.slice dC cA.length nA,.slice oA eA.length pA] 25 ?_;intro fA hg w3 hbox hb;have aA:=AM hbox;have jE:=kG HB hg;replace HB:=kH HB hb;have wG:=jE;clear hb hbox hg))
 go_loopg [5] k (fun kq v5 w'=>∃ (bA:Int),v5=.int .i64 bA∧Aside0 (Q0g.l0 kq l1 bA dA cA eA=some r)∧Aside0 (kq≤k)∧Aside0 (w'.heap[fA]? = some (.cells #[(.slice lA dA.length mA),(.slice dC cA.length nA),(.slice oA eA.length pA)] 25 (0,0)))∧Aside0 (Below w.heap.size w w'))
 case atStart=>exact ⟨(0),rS,H',⟨Nat.le_refl _⟩,⟨bK aA⟩,⟨ bH HB⟩⟩
 case round =>
  clear H'
  obtain ⟨bA,rfl,HA,eC,aA,HB⟩:=hrel
  cases gk with
  | zero=>exact absurd HA.out (by simp [Q0g.l0])
  | succ k1 =>
   have H:=HA.out;clear HA
   simp only [Q0g.l0] at H
   apply iC H<;>clear H<;>intro wF H
   ·have xF:=AM H
    clear H
    go_upto_region 4 with (fail)
    go_cut [32] (fun hH wc=>∃ (kq:Nat) (rB:Bool),hH=.bool rB∧Aside0 (Q0g.j1 kq l1 bA rB dA cA eA=some r)∧Aside0 (kq≤k1)∧Aside0 (wc.heap[fA]? = some (.cells #[(.slice lA dA.length mA),(.slice dC cA.length nA),(.slice oA eA.length pA)] 25 (0,0)))∧Aside0 (Below w.heap.size w wc))
    case first =>
     have H:=xF.out;clear xF
     apply iN H;clear H;intro kE H
     ·(first|rw [kE]|(simp only [Q1r,Q13];rw [kE])|skip)
      apply iC H<;>clear H<;>intro iH H
      ·have H':=AM H
       clear H
       try go_wp2
       replace aA:=dB aA;replace HB:=dH HB
       have oB:0≤(bA:Int):=pD
       have pB:bA<(l1.length:Int):=pD
       obtain ⟨iB,uD,gA⟩:=Kd.Q2n gE.out bA oB pB
       have cB:=gA
       cases uD
       replace gA:=hW HB gA;replace oB:=eq_true oB;replace pB:=eq_true pB
       refine sP 15 (S:=fun w'=>w'.cell? (iB.add (bA).toNat)=some (.int .i64 (rd l1 bA))) (ds:=[]) ((hW HB cB :)) fun hHeld => ?_;refine Q1m Q0g.tab4 Q0g.bits4 (fun HT_ HW_ => ?_)
       generalize wr.drew=w8 at aA HB gA hHeld ⊢
       refine pQ 0 (some 18) HT_ ?_;refine pQ 1 (some 19) HT_ ?_;refine pQ 2 (some 20) HT_ ?_;refine tQ 3 (some 21) HT_ HW_ hHeld ?_;refine pQ 4 (some 22) HT_ ?_;refine pQ 5 (some 23) HT_ ?_;refine uQ 6 (some 24) HT_ ?_;refine uQ 7 (some 25) HT_ ?_;refine uQ 8 (some 26) HT_ ?_;refine uQ 9 (some 27) HT_ ?_;refine uQ 10 (some 28) HT_ ?_;refine uQ 11 (some 29) HT_ ?_;refine uQ 12 (some 30) HT_ ?_;refine uQ 13 (some 31) HT_ ?_;refine pQ 14 (some 32) HT_ ?_
       refine done_ (Q2d HT_.out (by kernel_rfl)) ?_
       try go_wp2
       go_meet
       case rel=>exact ⟨_,(true),rS,H',⟨by have:=eC.out;first|omega|exact Nat.le_refl _⟩,⟨bK aA⟩,⟨ bH HB⟩⟩
      ·have H':=AM H
       clear H
       try go_wp2
       replace aA:=dB aA;replace HB:=dH HB
       have oB:0≤(bA:Int):=pD
       have pB:bA<(l1.length:Int):=pD
       obtain ⟨iB,uD,gA⟩:=Kd.Q2n gE.out bA oB pB
       have cB:=gA
       cases uD
       replace gA:=hW HB gA;replace oB:=eq_true oB;replace pB:=eq_true pB
       have vD:0≤(bA:Int):=pD
       have wD:bA<(l1.length:Int):=pD
       obtain ⟨lE,yF,yA⟩:=Kd.Q2n gE.out bA vD wD
       have xC:=yA
       obtain rfl:iB=lE:=(by injection yF)
       replace yA:=hW HB yA;replace vD:=eq_true vD;replace wD:=eq_true wD
       refine sP 15 (S:=fun w'=>w'.cell? ⟨fA,0,none⟩=some (.slice lA dA.length mA)∧w'.cell? ⟨fA,1,none⟩=some (.slice dC cA.length nA)∧w'.cell? ⟨fA,2,none⟩=some (.slice oA eA.length pA)∧w'.cell? (iB.add (bA).toNat)=some (.int .i64 (rd l1 bA))∧w'.cell? (iB.add (bA).toNat)=some (.int .i64 (rd l1 bA))) (ds:=[]) ⟨bC aA,bC aA,bC aA,(hW HB cB :),(hW HB xC :)⟩ fun hHeld => ?_;refine Q1m Q0g.tab4 Q0g.bits4 (fun HT_ HW_ => ?_)
       generalize wr.drew=w9 at aA HB gA yA hHeld ⊢
       refine pQ 0 (some 18) HT_ ?_;refine pQ 1 (some 19) HT_ ?_;refine pQ 2 (some 20) HT_ ?_;refine tQ 3 (some 21) HT_ HW_ hHeld ?_;refine pQ 4 (some 22) HT_ ?_;refine pQ 5 (some 23) HT_ ?_;refine pQ 6 (some 24) HT_ ?_;refine pQ 7 (some 25) HT_ ?_;refine pQ 8 (some 26) HT_ ?_;refine pQ 10 (some 28) HT_ ?_;refine tQ 9 (some 27) HT_ HW_ hHeld ?_;refine tQ 11 (some 29) HT_ HW_ hHeld ?_;refine pQ 12 (some 30) HT_ ?_;refine pQ 13 (some 31) HT_ ?_;refine pQ 14 (some 32) HT_ ?_
       refine done_ (Q2d HT_.out (by kernel_rfl)) ?_
       try go_wp2
       go_meet
       case rel=>exact ⟨_,(decide ((rd l1 bA)≥(cA.length:Int))),rS,H',⟨by have:=eC.out;first|omega|exact Nat.le_refl _⟩,⟨bK aA⟩,⟨ bH HB⟩⟩
    case rest =>
     clear xF wF
     obtain ⟨kq,rB,rfl,HA,qC,aA,HB⟩:=hcut
     cases kq with
     | zero=>exact absurd HA.out (by simp [Q0g.j1])
     | succ kj4 =>
      have H:=HA.out;clear HA
      simp only [Q0g.j1] at H
      by_cases kF:rB=true
      ·subst kF
       replace H:=iT H
       obtain rfl:=Option.some.inj H
       go_wp2
       go_ret
       exact ⟨rE,bH HB⟩
      ·replace kF:=Bool.eq_false_iff.mpr kF
       subst kF
       replace H:=iF H
       apply iN H;clear H;intro mE H
       ·apply iN H;clear H;intro nE H
        ·apply iN H;clear H;intro oE H
         ·apply iN H;clear H;intro pE H
          ·obtain ⟨⟨qA,fC⟩,jH,H⟩:=bS H
           try dsimp only at H
           have qE:=AM H
           clear H
           try go_wp2
           replace aA:=dB aA;replace HB:=dH HB
           have yC:0≤(bA:Int):=pD
           have zC:bA<(l1.length:Int):=pD
           obtain ⟨jB,zF,rA⟩:=Kd.Q2n gE.out bA yC zC
           have sB:=rA
           cases zF
           replace rA:=hW HB rA;replace yC:=eq_true yC;replace zC:=eq_true zC
           have aD:0≤((rd l1 bA):Int):=pD
           have bD:(rd l1 bA)<(cA.length:Int):=pD
           obtain ⟨kA,rC,tC,aG,sA,tB,uB⟩:=Q3c hB.out (rd l1 bA) aD bD
           have vB:=sA
           cases aG
           replace sA:=hW HB sA
           have wB:=AM uB
           have cD:=AM tB
           clear uB tB;replace aD:=eq_true aD;replace bD:=eq_true bD
           refine sP 15 (S:=fun w'=>w'.cell? ⟨fA,0,none⟩=some (.slice lA dA.length mA)∧w'.cell? ⟨fA,1,none⟩=some (.slice (some kA) cA.length nA)∧w'.cell? ⟨fA,2,none⟩=some (.slice oA eA.length pA)∧w'.cell? (jB.add (bA).toNat)=some (.int .i64 (rd l1 bA))∧w'.cell? (kA.add ((rd l1 bA)).toNat)=some (.slice rC (Q06 cA (rd l1 bA)).length tC)) (ds:=[]) ⟨bC aA,bC aA,bC aA,(hW HB sB :),(hW HB vB :)⟩ fun hHeld => ?_;refine Q1m Q0g.tab6 Q0g.bits6 (fun HT_ HW_ => ?_)
           generalize wc.drew=w17 at aA HB wB rA sA hHeld ⊢
           refine pQ 1 (some 35) HT_ ?_;refine pQ 3 (some 37) HT_ ?_;refine pQ 4 (some 38) HT_ ?_;refine pQ 5 (some 39) HT_ ?_;refine tQ 0 (some 34) HT_ HW_ hHeld ?_;refine tQ 2 (some 36) HT_ HW_ hHeld ?_;refine tQ 6 (some 40) HT_ HW_ hHeld ?_;refine pQ 7 (some 41) HT_ ?_;refine tQ 8 (some 42) HT_ HW_ hHeld ?_
           refine oQ 9 (some 43) HT_ rfl fun K hK => ?_
           refine gO Try.func35 #[.agg #[.slice lA dA.length mA,.slice (some kA) cA.length nA,.slice oA eA.length pA],.slice rC (Q06 cA (rd l1 bA)).length tC] ?_
           with_reducible refine (Q0f.calls kj4 _ _ dA _ _ cA _ _ eA _ _ (Q06 cA (rd l1 bA)) qA fC _ ?side1 ?side2 ?side3 ?side4 ?side5 ?side6 ?side7 ?side8 jH.out).mono ?_
           (case side1=>exact sC lC HB)
           (case side2=>exact mC.out)
           (case side3=>exact sC hB HB)
           (case side4=>exact nC.out)
           (case side5=>exact sC oC HB)
           (case side6=>exact pC.out)
           (case side7=>exact sC wB HB)
           (case side8=>exact cD.out)
           rintro e lH ⟨uC,rfl,gC,hb⟩
           refine ⟨_,rfl,?_⟩
           have hA:=AM (Kd.Q1b gC (Q0h (bH HB)))
           replace aA:=kB aA hb;replace HB:=kH HB hb;clear hb gC
           refine hK.out _ _ ⟨bC aA,bC aA,bC aA,(hW HB sB :),(hW HB vB :)⟩ (fun hHeld => ?_)
           clear hK K;refine nP (some 43) ?_;refine pQ 10 (some 33) HT_ ?_;refine pQ 11 (some 44) HT_ ?_;refine pQ 12 (some 45) HT_ ?_;refine pQ 13 (some 6) HT_ ?_;refine pQ 14 (some 7) HT_ ?_
           refine done_ (Q2d HT_.out (by kernel_rfl)) ?_
           go_upto_if 47 with (fail)
           have H:=qE.out;clear qE
           by_cases xD:fC=0
           ·rw [if_pos xD] at H
            have bB:(fC==0)=true:=beq_iff_eq.mpr xD
            have tD:(fC != 0)=false:=bne_eq_false_iff_eq.mpr xD
            clear xD
            (first|rw [bB]|(simp only [Q1r,Q13];rw [bB])|skip)
            obtain ⟨jC,mH,H⟩:=bS H
            obtain ⟨kC,nH,H⟩:=bS H
            obtain ⟨xA,oH,H⟩:=bS H
            have yD:=AM H
            clear H
            try go_wp2
            replace hA:=dR hA;replace aA:=dB aA;replace HB:=dH HB
            have dD:0≤(bA:Int):=pD
            have eD:bA<(l1.length:Int):=pD
            obtain ⟨sE,bG,tA⟩:=Kd.Q2n gE.out bA dD eD
            have zA:=tA
            obtain rfl:jB=sE:=(by injection bG)
            replace tA:=hW HB tA;replace dD:=eq_true dD;replace eD:=eq_true eD
            refine sP 9 (S:=fun w'=>w'.cell? ⟨fA,0,none⟩=some (.slice lA dA.length mA)∧w'.cell? ⟨fA,1,none⟩=some (.slice (some kA) cA.length nA)∧w'.cell? ⟨fA,2,none⟩=some (.slice oA eA.length pA)∧w'.cell? (jB.add (bA).toNat)=some (.int .i64 (rd l1 bA))) (ds:=[]) ⟨bC aA,bC aA,bC aA,(hW HB zA :)⟩ fun hHeld => ?_;refine Q1m Q0g.tab9 Q0g.bits9 (fun HT_ HW_ => ?_)
            generalize lH.drew=w24 at hA aA HB tA hHeld ⊢
            refine pQ 1 (some 49) HT_ ?_;refine pQ 2 (some 50) HT_ ?_;refine pQ 3 (some 51) HT_ ?_;refine tQ 0 (some 48) HT_ HW_ hHeld ?_;refine tQ 4 (some 52) HT_ HW_ hHeld ?_
            refine oQ 5 (some 53) HT_ rfl fun K hK => ?_
            refine gO Try.func20 #[.agg #[.slice lA dA.length mA,.slice (some kA) cA.length nA,.slice oA eA.length pA],.int .i64 (rd l1 bA)] ?_
            with_reducible refine (Q2g.calls kj4 _ _ dA _ _ cA _ _ eA (rd l1 bA) jC _ ?side1 ?side2 ?side3 ?side4 ?side5 ?side6 mH.out).mono ?_
            (case side1=>exact sC lC HB)
            (case side2=>exact mC.out)
            (case side3=>exact sC hB HB)
            (case side4=>exact nC.out)
            (case side5=>exact sC oC HB)
            (case side6=>exact pC.out)
            rintro e dI ⟨pH,rfl,gC,hb⟩
            refine ⟨_,rfl,?_⟩
            replace hA:=kR hA hb
            have wA:=AM (Kd.Q1b gC (Q0h (bH HB)))
            replace aA:=kB aA hb;replace HB:=kH HB hb;clear hb gC
            refine hK.out _ _ ⟨bC aA,bC aA,bC aA,(hW HB zA :)⟩ (fun hHeld => ?_)
            clear hK K;refine nP (some 53) ?_
            refine oQ 6 (some 54) HT_ rfl fun K hK => ?_
            refine gO Try.func18 #[.int .i64 0] ?_
            with_reducible refine (Q1o.calls kj4 0 kC _ nH.out).mono ?_
            rintro e eI ⟨qH,rfl,gC,hb⟩
            refine ⟨_,rfl,?_⟩
            replace hA:=kR hA hb
            have lB:=AM (Kd.Q1b (Kd.Q2z gC (Kd.R_lt (rK wA))) (Q0h (bH HB)))
            replace wA:=AM (Kd.Q16 (rK wA) (Kd.Q2l gC) hb)
            replace aA:=kB aA hb;replace HB:=kH HB hb;clear hb gC
            obtain ⟨cG,dG,tE⟩:=Kd.Q01 wA.out
            (first|subst tE|(injection tE with uE eG vE;have fG:=uE.symm;have gG:=vE.symm;clear uE eG vE;subst fG;subst gG))
            obtain ⟨hG,iG,wE⟩:=Kd.Q01 lB.out
            (first|subst wE|(injection wE with uE eG vE;have fG:=uE.symm;have gG:=vE.symm;clear uE eG vE;subst fG;subst gG))
            refine hK.out _ _ ⟨bC aA,bC aA,bC aA,(hW HB zA :)⟩ (fun hHeld => ?_)
            clear hK K;refine nP (some 54) ?_
            refine oQ 7 (some 55) HT_ rfl fun K hK => ?_
            refine gO Try.func49 #[.agg #[.slice cG jC.length dG],.agg #[.slice hG kC.length iG]] ?_
            with_reducible refine (Q1i.calls kj4 _ _ jC _ _ kC xA _ ?side1 ?side2 ?side3 ?side4 oH.out).mono ?_
            (case side1=>exact sR wA)
            (case side2=>exact (Kd.Q0w wA.out).2.1)
            (case side3=>exact sR lB)
            (case side4=>exact (Kd.Q0w lB.out).2.1)
            rintro e fI ⟨rfl,hb⟩
            refine ⟨_,rfl,?_⟩
            replace hA:=kR hA hb;replace wA:=kR wA hb;replace lB:=kR lB hb;replace aA:=kB aA hb;replace HB:=kH HB hb;clear hb
            refine hK.out _ _ ⟨bC aA,bC aA,bC aA,(hW HB zA :)⟩ (fun hHeld => ?_)
            clear hK K;refine nP (some 55) ?_;refine pQ 8 (some 8) HT_ ?_
            refine done_ (Q2d HT_.out (by kernel_rfl)) ?_
            go_upto_region 10 with (fail)
            go_cut [69] (fun rH wc=>∃ (kq:Nat) (eB:Bool),rH=.bool eB∧Aside0 (Q0g.j2 kq l1 bA qA eB dA cA eA=some r)∧Aside0 (kq≤kj4)∧Aside0 (Kd.R k27 27 wc w.heap.size (fun _=>True) uC qA)∧Aside0 (wc.heap[fA]? = some (.cells #[(.slice lA dA.length mA),(.slice (some kA) cA.length nA),(.slice oA eA.length pA)] 25 (0,0)))∧Aside0 (Below w.heap.size w wc))
            case first =>
             have H:=yD.out;clear yD
             by_cases zD:bA=0
             ·rw [if_pos zD] at H
              have mB:(bA==0)=true:=beq_iff_eq.mpr zD
              have xE:(bA != 0)=false:=bne_eq_false_iff_eq.mpr zD
              clear zD
              (first|rw [mB]|(simp only [Q1r,Q13];rw [mB])|skip)
              by_cases aE:xA=1
              ·rw [if_pos aE] at H
               have yE:(xA==1)=true:=beq_iff_eq.mpr aE
               have zE:(xA != 1)=false:=bne_eq_false_iff_eq.mpr aE
               clear aE
               apply iC H<;>clear H<;>intro xG H
               ·have H':=AM H
                clear H
                go_wp2
                go_meet
                case rel=>exact ⟨_,((xA != (-1))),rS,H',⟨by have:=eC.out;have:=qC.out;first|omega|exact Nat.le_refl _⟩,⟨rK hA⟩,⟨bK aA⟩,⟨ bH HB⟩⟩
               ·have H':=AM H
                clear H
                go_wp2
                go_meet
                case rel=>exact ⟨_,(false),rS,H',⟨by have:=eC.out;have:=qC.out;first|omega|exact Nat.le_refl _⟩,⟨rK hA⟩,⟨bK aA⟩,⟨ bH HB⟩⟩
              ·rw [if_neg aE] at H
               have yE:(xA==1)=false:=beq_eq_false_iff_ne.mpr aE
               have zE:(xA != 1)=true:=bne_iff_ne.mpr aE
               have H':=AM H
               clear H
               go_wp2
               go_meet
               case rel=>exact ⟨_,(true),rS,H',⟨by have:=eC.out;have:=qC.out;first|omega|exact Nat.le_refl _⟩,⟨rK hA⟩,⟨bK aA⟩,⟨ bH HB⟩⟩
             ·rw [if_neg zD] at H
              have mB:(bA==0)=false:=beq_eq_false_iff_ne.mpr zD
              have xE:(bA != 0)=true:=bne_iff_ne.mpr zD
              (first|rw [mB]|(simp only [Q1r,Q13];rw [mB])|skip)
              apply iC H<;>clear H<;>intro yG H
              ·have H':=AM H
               clear H
               go_wp2
               go_meet
               case rel=>exact ⟨_,((xA != (-1))),rS,H',⟨by have:=eC.out;have:=qC.out;first|omega|exact Nat.le_refl _⟩,⟨rK hA⟩,⟨bK aA⟩,⟨ bH HB⟩⟩
              ·have H':=AM H
               clear H
               go_wp2
               go_meet
               case rel=>exact ⟨_,(false),rS,H',⟨by have:=eC.out;have:=qC.out;first|omega|exact Nat.le_refl _⟩,⟨rK hA⟩,⟨bK aA⟩,⟨ bH HB⟩⟩
            case rest =>
             clear yD mE nE oE pE bB tD rA sA tA yC aD dD zC bD eD
             obtain ⟨kq,eB,rfl,HA,hC,HO_6,aA,HB⟩:=hcut
             cases kq with
             | zero=>exact absurd HA.out (by simp [Q0g.j2])
             | succ kj22 =>
              have H:=HA.out;clear HA
              simp only [Q0g.j2] at H
              by_cases lF:eB=true
              ·subst lF
               replace H:=iT H
               obtain rfl:=Option.some.inj H
               go_wp2
               go_ret
               exact ⟨rE,bH HB⟩
              ·replace lF:=Bool.eq_false_iff.mpr lF
               subst lF
               replace H:=iF H
               by_cases mF:0<(l1.length:Int)
               ·rw [if_pos mF] at H
                have aF:=decide_eq_true mF
                have bF:decide (0<l1.length)=true:=decide_eq_true (by omega)
                clear mF
                apply iN H;clear H;intro cF H
                ·apply iN H;clear H;intro dF H
                 ·obtain ⟨⟨qB,jG⟩,sH,H⟩:=bS H
                  try dsimp only at H
                  have H':=AM H
                  clear H
                  try go_wp2
                  replace HO_6:=dR HO_6;replace aA:=dB aA;replace HB:=dH HB
                  have fD:0≤(0:Int):=(by omega)
                  have gD:0<(l1.length:Int):=pD
                  obtain ⟨eF,lG,jA⟩:=Kd.Q2n gE.out 0 fD gD
                  have uA:=jA
                  (try rw [show ((0:Int)).toNat=0 from rfl] at uA)
                  (try rw [show 0*1=0 from rfl] at uA)
                  (try rw [Addr.add_zero'] at uA)
                  obtain rfl:jB=eF:=(by injection lG)
                  have zG:(0<l1.length)=True:=eq_true (by omega)
                  (try rw [show ((0:Int)).toNat=0 from rfl] at jA)
                  (try rw [Addr.add_zero'] at jA)
                  replace jA:=hW HB jA;replace fD:=eq_true fD;replace gD:=eq_true gD
                  have hD:0≤((rd l1 0):Int):=pD
                  have iD:(rd l1 0)<(cA.length:Int):=pD
                  obtain ⟨fF,vC,wC,mG,vA,xB,yB⟩:=Q3c hB.out (rd l1 0) hD iD
                  have zB:=vA
                  obtain rfl:kA=fF:=(by injection mG)
                  replace vA:=hW HB vA
                  have aC:=AM yB
                  have jD:=AM xB
                  clear yB xB;replace hD:=eq_true hD;replace iD:=eq_true iD
                  refine sP 14 (S:=fun w'=>w'.cell? ⟨fA,0,none⟩=some (.slice lA dA.length mA)∧w'.cell? ⟨fA,1,none⟩=some (.slice (some kA) cA.length nA)∧w'.cell? ⟨fA,2,none⟩=some (.slice oA eA.length pA)∧w'.cell? jB=some (.int .i64 (rd l1 0))∧w'.cell? (kA.add ((rd l1 0)).toNat)=some (.slice vC (Q06 cA (rd l1 0)).length wC)) (ds:=[]) ⟨bC aA,bC aA,bC aA,(hW HB uA :),(hW HB zB :)⟩ fun hHeld => ?_;refine Q1m Q0g.tab12 Q0g.bits12 (fun HT_ HW_ => ?_)
                  generalize wc.drew=w39 at HO_6 aA HB aC jA vA hHeld ⊢
                  refine pQ 1 (some 72) HT_ ?_;refine pQ 3 (some 74) HT_ ?_;refine pQ 4 (some 75) HT_ ?_;refine tQ 0 (some 71) HT_ HW_ hHeld ?_;refine tQ 2 (some 73) HT_ HW_ hHeld ?_;refine tQ 5 (some 76) HT_ HW_ hHeld ?_;refine pQ 6 (some 77) HT_ ?_;refine tQ 7 (some 78) HT_ HW_ hHeld ?_
                  refine oQ 8 (some 79) HT_ rfl fun K hK => ?_
                  refine gO Try.func35 #[.agg #[.slice lA dA.length mA,.slice (some kA) cA.length nA,.slice oA eA.length pA],.slice vC (Q06 cA (rd l1 0)).length wC] ?_
                  with_reducible refine (Q0f.calls kj22 _ _ dA _ _ cA _ _ eA _ _ (Q06 cA (rd l1 0)) qB jG _ ?side1 ?side2 ?side3 ?side4 ?side5 ?side6 ?side7 ?side8 sH.out).mono ?_
                  (case side1=>exact sC lC HB)
                  (case side2=>exact mC.out)
                  (case side3=>exact sC hB HB)
                  (case side4=>exact nC.out)
                  (case side5=>exact sC oC HB)
                  (case side6=>exact pC.out)
                  (case side7=>exact sC aC HB)
                  (case side8=>exact jD.out)
                  rintro e gI ⟨kD,rfl,gC,hb⟩
                  refine ⟨_,rfl,?_⟩
                  have gF:=AM (Kd.Q1b (Kd.Q2z gC (Kd.R_lt (rK HO_6))) (Q0h (bH HB)))
                  replace HO_6:=AM (Kd.Q16 (rK HO_6) (Kd.Q2l gC) hb)
                  replace aA:=kB aA hb;replace HB:=kH HB hb;clear hb gC
                  refine hK.out _ _ ⟨bC aA,bC aA,bC aA,(hW HB uA :),(hW HB zB :)⟩ (fun hHeld => ?_)
                  clear hK K;refine nP (some 79) ?_;refine pQ 9 (some 70) HT_ ?_;refine pQ 10 (some 80) HT_ ?_;refine pQ 11 (some 81) HT_ ?_;refine pQ 12 (some 9) HT_ ?_;refine pQ 13 (some 10) HT_ ?_
                  refine done_ (Q2d HT_.out (by kernel_rfl)) ?_
                  try go_wp2
                  go_loopg [11] kj22 (fun kq tH w'=>∃ (iA:Int),tH=.int .i64 iA∧Aside0 (Q0g.l1 kq l1 bA qA qB iA dA cA eA=some r)∧Aside0 (kq≤kj22)∧Aside0 (Kd.R k27 27 w' w.heap.size (fun k_=>some k_≠(kD:Value).ownBlock) uC qA)∧Aside0 (Kd.R k27 27 w' w.heap.size (fun k_=>some k_≠(uC:Value).ownBlock) kD qB)∧Aside0 (w'.heap[fA]? = some (.cells #[(.slice lA dA.length mA),(.slice (some kA) cA.length nA),(.slice oA eA.length pA)] 25 (0,0)))∧Aside0 (Below w.heap.size w w'))
                  case atStart=>exact ⟨(0),rS,H',⟨Nat.le_refl _⟩,⟨by (with_reducible repeat (first|apply Kd.Q10|apply Kd.Q11|apply Kd.Q2h));exact Kd.Q1q HO_6.out (fun _ hk=>hk.2)⟩,⟨by (with_reducible repeat (first|apply Kd.Q10|apply Kd.Q11|apply Kd.Q2h));exact Kd.Q1q gF.out (fun _ hk=>hk.2)⟩,⟨bK aA⟩,⟨ bH HB⟩⟩
                  case round =>
                   clear H'
                   clear aF bF cF dF
                   clear jA vA fD hD gD iD
                   obtain ⟨iA,rfl,HA,hE,HO_6,HO_9,aA,HB⟩:=hrel
                   cases gk with
                   | zero=>exact absurd HA.out (by simp [Q0g.l1])
                   | succ k4 =>
                    have H:=HA.out;clear HA
                    simp only [Q0g.l1] at H
                    have cE:=AM H
                    clear H
                    go_upto_region 14 with (fail)
                    go_cut [89] (fun uH wc=>∃ (kq:Nat) (fB:Bool),uH=.bool fB∧Aside0 (Q0g.j4 kq l1 bA qA qB iA fB dA cA eA=some r)∧Aside0 (kq≤k4)∧Aside0 (Kd.R k27 27 wc w.heap.size (fun k_=>some k_≠(kD:Value).ownBlock) uC qA)∧Aside0 (Kd.R k27 27 wc w.heap.size (fun k_=>some k_≠(uC:Value).ownBlock) kD qB)∧Aside0 (wc.heap[fA]? = some (.cells #[(.slice lA dA.length mA),(.slice (some kA) cA.length nA),(.slice oA eA.length pA)] 25 (0,0)))∧Aside0 (Below w.heap.size w wc))
                    case first =>
                     have H:=cE.out;clear cE
                     apply iC H<;>clear H<;>intro cC H
                     ·(first|rw [cC]|(simp only [Q1r,Q13];rw [cC])|skip)
                      have H':=AM H
                      clear H
                      obtain ⟨vH,wH,nG⟩:=Kd.Q01 HO_6.out
                      subst nG
                      go_wp2
                      go_meet
                      case rel=>exact ⟨_,(decide (bA>0)),rS,H',⟨by have:=eC.out;have:=qC.out;have:=hC.out;have:=hE.out;first|omega|exact Nat.le_refl _⟩,⟨rK HO_6⟩,⟨rK HO_9⟩,⟨bK aA⟩,⟨ bH HB⟩⟩
                     ·(first|rw [cC]|(simp only [Q1r,Q13];rw [cC])|skip)
                      have H':=AM H
                      clear H
                      obtain ⟨xH,yH,oG⟩:=Kd.Q01 HO_6.out
                      subst oG
                      go_wp2
                      go_meet
                      case rel=>exact ⟨_,(false),rS,H',⟨by have:=eC.out;have:=qC.out;have:=hC.out;have:=hE.out;first|omega|exact Nat.le_refl _⟩,⟨rK HO_6⟩,⟨rK HO_9⟩,⟨bK aA⟩,⟨ bH HB⟩⟩
                    case rest =>
                     clear cE
                     obtain ⟨kq,fB,rfl,HA,lD,HO_6,HO_9,aA,HB⟩:=hcut
                     cases kq with
                     | zero=>exact absurd HA.out (by simp [Q0g.j4])
                     | succ kj40 =>
                      have H:=HA.out;clear HA
                      simp only [Q0g.j4] at H
                      by_cases nF:fB=true
                      ·subst nF
                       replace H:=iT H
                       apply iN H;clear H;intro aH H
                       ·apply iN H;clear H;intro cH H
                        ·obtain ⟨gB,zH,H⟩:=bS H
                         have hF:=AM H
                         clear H
                         obtain ⟨aI,bI,pG⟩:=Kd.Q01 HO_6.out
                         subst pG
                         have dE:0≤(iA:Int):=pD
                         have eE:iA<(qA.length:Int):=pD
                         obtain ⟨eH,qG,oF,pF,qF⟩:=Q2i (Kd.Q0w HO_6.out).2.2 iA dE eE
                         cases qG
                         replace dE:=eq_true dE;replace eE:=eq_true eE
                         obtain ⟨rG,sG,tG⟩:=Kd.Q01 HO_9.out
                         subst tG
                         go_upto_if 98 with (first|((with_reducible refine Q0n (f:=36) rfl ?_);refine gL (some 97) Try.func36 #[.agg #[.int .i64 ((Q0a qA iA).f0),.int .i64 ((Q0a qA iA).f1),.int .i64 ((Q0a qA iA).f2)],.slice rG qB.length sG] ?_;(with_reducible refine (Q0z.calls kj40 ((Q0a qA iA).f0) ((Q0a qA iA).f1) ((Q0a qA iA).f2) _ _ qB gB _ ?side1 ?side2 zH.out).mono ?_);(case side1=>exact sR HO_9);(case side2=>exact (Kd.Q0w HO_9.out).2.1);rintro e hI ⟨rfl,hb⟩;refine ⟨_,rfl,?_⟩;replace HO_6:=kR HO_6 hb;replace HO_9:=kR HO_9 hb;replace aA:=kB aA hb;replace HB:=kH HB hb;clear hb))
                         (try simp only [Act.put,List.setIfInBounds_toArray,List.set_cons_zero,List.set_cons_succ])
                         have H:=hF.out;clear hF
                         by_cases fE:gB=(-1)
                         ·rw [if_pos fE] at H
                          have nB:(gB==(-1))=true:=beq_iff_eq.mpr fE
                          have jF:(gB != (-1))=false:=bne_eq_false_iff_eq.mpr fE
                          clear fE
                          (first|rw [nB]|(simp only [Q1r,Q13];rw [nB])|skip)
                          obtain rfl:=Option.some.inj H
                          go_wp2
                          go_ret
                          exact ⟨rE,bH HB⟩
                         ·rw [if_neg fE] at H
                          have nB:(gB==(-1))=false:=beq_eq_false_iff_ne.mpr fE
                          have jF:(gB != (-1))=true:=bne_iff_ne.mpr fE
                          (first|rw [nB]|(simp only [Q1r,Q13];rw [nB])|skip)
                          have H':=AM H
                          clear H
                          go_wp2
                          go_roundg kj40
                          case measure=>have:=eC.out;have:=qC.out;have:=hC.out;have:=hE.out;have:=lD.out;omega
                          case rel=>exact ⟨(wrap64 (iA+1)),rS,H',⟨by have:=eC.out;have:=qC.out;have:=hC.out;have:=hE.out;have:=lD.out;omega⟩,⟨rK HO_6⟩,⟨rK HO_9⟩,⟨bK aA⟩,⟨ bH HB⟩⟩
                      ·replace nF:=Bool.eq_false_iff.mpr nF
                       subst nF
                       replace H:=iF H
                       have H':=AM H
                       clear H
                       go_wp2
                       go_roundg kj40
                       case measure=>have:=eC.out;have:=qC.out;have:=hC.out;have:=hE.out;have:=lD.out;omega
                       case rel=>exact ⟨(wrap64 (bA+1)),rS,H',⟨by have:=eC.out;have:=qC.out;have:=hC.out;have:=hE.out;have:=lD.out;omega⟩,⟨bK aA⟩,⟨ bH HB⟩⟩
               ·rw [if_neg mF] at H
                exact absurd H (by simp)
           ·rw [if_neg xD] at H
            have bB:(fC==0)=false:=beq_eq_false_iff_ne.mpr xD
            have tD:(fC != 0)=true:=bne_iff_ne.mpr xD
            (first|rw [bB]|(simp only [Q1r,Q13];rw [bB])|skip)
            obtain rfl:=Option.some.inj H
            go_wp2
            go_ret
            exact ⟨rE,bH HB⟩
   ·obtain rfl:=Option.some.inj H
    go_wp2
    go_ret
    exact ⟨rE,bH HB⟩

mutual
def Q0p.l0:Nat→Int→List (List (S27))→List (List Int)→List (List Int)→Option (Bool)
 | 0,_,_,_,_=>none
 | k+1,x3,x316000,x316001,x316002=>if x3<(x316001.length:Int) then (Q0p.l1 k x3 0 0 x316000 x316001 x316002) else (Q0p.l3 k 0 x316000 x316001 x316002)
def Q0p.l1:Nat→Int→Int→Int→List (List (S27))→List (List Int)→List (List Int)→Option (Bool)
 | 0,_,_,_,_,_,_=>none
 | k+1,x3,x4,x5,x316000,x316001,x316002=>if x5<(x316002.length:Int) then (Q0p.l2 k x3 x4 x5 0 x316000 x316001 x316002) else (if x4=1 then (Q0p.l0 k (wrap64 (x3+1)) x316000 x316001 x316002) else (some false))
def Q0p.l2:Nat→Int→Int→Int→Int→List (List (S27))→List (List Int)→List (List Int)→Option (Bool)
 | 0,_,_,_,_,_,_,_=>none
 | k+1,x3,x4,x5,x6,x316000,x316001,x316002=>if 0≤x5 then (if x5<(x316002.length:Int) then (if x6<((Q06 x316002 x5).length:Int) then (if 0≤x6 then (if (rd (Q06 x316002 x5) x6)=x3 then (Q0p.l2 k x3 (wrap64 (x4+1)) x5 (wrap64 (x6+1)) x316000 x316001 x316002) else (Q0p.l2 k x3 x4 x5 (wrap64 (x6+1)) x316000 x316001 x316002)) else (none)) else (Q0p.l1 k x3 x4 (wrap64 (x5+1)) x316000 x316001 x316002)) else (none)) else (none)
def Q0p.l3:Nat→Int→List (List (S27))→List (List Int)→List (List Int)→Option (Bool)
 | 0,_,_,_,_=>none
 | k+1,x7,x316000,x316001,x316002=>if x7<(x316002.length:Int) then (if 0≤x7 then ((Q0g.f k x316000 x316001 x316002 (Q06 x316002 x7)).bind fun zB=>(if zB=true then (Q0p.l3 k (wrap64 (x7+1)) x316000 x316001 x316002) else (some false))) else (none)) else (some true)
end
def Q0p.f (k:Nat) (gA:List (List (S27))) (hA:List (List Int)) (bA:List (List Int)):Option (Bool):=Q0p.l0 k 0 gA hA bA
theorem Q0p.Q1a:∀ k,(∀ y0 y1 y2 y3,LeO (Q0p.l0 k y0 y1 y2 y3) (Q0p.l0 (k+1) y0 y1 y2 y3))∧(∀ y0 y1 y2 y3 y4 y5,LeO (Q0p.l1 k y0 y1 y2 y3 y4 y5) (Q0p.l1 (k+1) y0 y1 y2 y3 y4 y5))∧(∀ y0 y1 y2 y3 y4 y5 y6,LeO (Q0p.l2 k y0 y1 y2 y3 y4 y5 y6) (Q0p.l2 (k+1) y0 y1 y2 y3 y4 y5 y6))∧(∀ y0 y1 y2 y3,LeO (Q0p.l3 k y0 y1 y2 y3) (Q0p.l3 (k+1) y0 y1 y2 y3))
 | 0=>⟨fun _ _ _ _ r h=>by simp [Q0p.l0] at h,fun _ _ _ _ _ _ r h=>by simp [Q0p.l1] at h,fun _ _ _ _ _ _ _ r h=>by simp [Q0p.l2] at h,fun _ _ _ _ r h=>by simp [Q0p.l3] at h⟩
 | k+1=>by
  obtain ⟨uF,vF,wF,xF⟩:=Q0p.Q1a k
  refine ⟨?_,?_,?_,?_⟩
  all_goals
   intros
   first|unfold Q0p.l0|unfold Q0p.l1|unfold Q0p.l2|unfold Q0p.l3
   repeat' with_reducible first|exact uF _ _ _ _|exact vF _ _ _ _ _ _|exact wF _ _ _ _ _ _ _|exact xF _ _ _ _|exact Q0g.mono _ _ _ _ _|exact LeO.refl _|exact LeO.none _|refine LeO.ite ?_ ?_|refine LeO.bind ?_ (fun _ => ?_)
theorem Q0p.mono:∀ a0 a1 a2 k,LeO (Q0p.f k a0 a1 a2) (Q0p.f (k+1) a0 a1 a2):=by
 intro a0 a1 a2 k
 obtain ⟨uF,vF,wF,xF⟩:=Q0p.Q1a k
 unfold Q0p.f
 repeat' with_reducible first|exact uF _ _ _ _|exact vF _ _ _ _ _ _|exact wF _ _ _ _ _ _ _|exact xF _ _ _ _|exact Q0g.mono _ _ _ _ _|exact LeO.refl _|exact LeO.none _|refine LeO.ite ?_ ?_|refine LeO.bind ?_ (fun _ => ?_)
def Q0p.T18:Bool×List (List Nat×List Nat):=(true,[([],[]),([],[]),([1],[1]),([],[]),([2,3],[2,3]),([4],[4]),([0,5],[0,5]),([6],[6])])
def Q0p.B18:List Nat:=[0,0,2,0,14,30,63,127]
theorem Q0p.tab18:rtab .any (opsOf Try.f16 18)=Q0p.T18:=by kernel_rfl
theorem Q0p.bits18:waitsOk Q0p.T18.2 Q0p.B18=true:=by kernel_rfl
set_option maxHeartbeats 8000000 in
set_option maxRecDepth 100000 in
theorem Q0p.calls (k:Nat) (uA:Option Addr) (vA:Nat) (gA:List (List (S27))) (wA:Option Addr) (xA:Nat) (hA:List (List Int)) (bB:Option Addr) (yA:Nat) (bA:List (List Int)) (r:Bool) (w:World) (kC:Kd.C (Kd.slice 27 k27) w uA gA.length gA) (lC:gA.length≤vA) (mC:Kd.C (Kd.slice 3 (Kd.int .i64)) w wA hA.length hA) (nC:hA.length≤xA) (oC:Kd.C (Kd.slice 3 (Kd.int .i64)) w bB bA.length bA) (pC:bA.length≤yA) (h:Q0p.f k gA hA bA=some r) :
  Calls Try.prog 16 #[.agg #[.slice uA gA.length vA,.slice wA hA.length xA,.slice bB bA.length yA]] w fun e w'=>e=.returned (.bool r)∧Below w.heap.size w w':=by
 have eG:=Try.underlying25
 have mD:=AM kC
 have nD:=AM lC
 clear kC lC
 have oD:=AM mC
 have qD:=AM nC
 clear mC nC
 have oA:=AM oC
 have rD:=AM pC
 clear oC pC
 have HB:=AM (Below.refl w.heap.size w)
 have H:(Q0p.l0 k 0 gA hA bA)=some r:=h
 clear h
 have H':=AM H
 clear H
 go_enter Try.func16,Try.ntmps16
 go_wp2_with (first|((with_reducible refine Q0i (N:=1) rfl ?_);refine bE 1 #[.slice uA gA.length vA,.slice wA hA.length xA,.slice bB bA.length yA] 25 ?_;intro pA hg w2 hbox hb;have aA:=AM hbox;have sD:=kG HB hg;replace HB:=kH HB hb;have aG:=sD;clear hb hbox hg))
 go_loopg [3] k (fun kq v3 w'=>∃ (qA:Int),v3=.int .i64 qA∧Aside0 (Q0p.l0 kq qA gA hA bA=some r)∧Aside0 (kq≤k)∧Aside0 (w'.heap[pA]? = some (.cells #[(.slice uA gA.length vA),(.slice wA hA.length xA),(.slice bB bA.length yA)] 25 (0,0)))∧Aside0 (Below w.heap.size w w'))
 case atStart=>exact ⟨(0),rS,H',⟨Nat.le_refl _⟩,⟨bK aA⟩,⟨ bH HB⟩⟩
 case round =>
  clear H'
  obtain ⟨qA,rfl,HA,yB,aA,HB⟩:=hrel
  cases gk with
  | zero=>exact absurd HA.out (by simp [Q0p.l0])
  | succ k1 =>
   have H:=HA.out;clear HA
   simp only [Q0p.l0] at H
   apply iC H<;>clear H<;>intro tD H
   ·have H':=AM H
    clear H;obtain ⟨qC,rC,tC,uC,vC,wC⟩:=c3 aA
    go_wp2
    go_loopg [4,5] k1 (fun kq v4 v5 w'=>∃ (zA:Int) (cA:Int),v4=.int .i64 zA∧v5=.int .i64 cA∧Aside0 (Q0p.l1 kq qA zA cA gA hA bA=some r)∧Aside0 (kq≤k1)∧Aside0 (w'.heap[pA]? = some (.cells #[(.slice uA gA.length vA),(.slice wA hA.length xA),(.slice bB bA.length yA)] 25 (0,0)))∧Aside0 (Below w.heap.size w w'))
    case atStart=>exact ⟨(0),(0),rS,rS,H',⟨Nat.le_refl _⟩,⟨bK aA⟩,⟨ bH HB⟩⟩
    case round =>
     clear H'
     clear tD qC rC tC uC vC wC
     obtain ⟨zA,cA,rfl,rfl,HA,qB,aA,HB⟩:=hrel
     cases gk with
     | zero=>exact absurd HA.out (by simp [Q0p.l1])
     | succ k2 =>
      have H:=HA.out;clear HA
      simp only [Q0p.l1] at H
      apply iC H<;>clear H<;>intro yF H
      ·have H':=AM H
       clear H;obtain ⟨xC,yC,zC,aD,bD,cD⟩:=c3 aA
       go_wp2
       go_loopg [4,6] k2 (fun kq v4 v6 w'=>∃ (pB:Int) (jA:Int),v4=.int .i64 pB∧v6=.int .i64 jA∧Aside0 (Q0p.l2 kq qA pB cA jA gA hA bA=some r)∧Aside0 (kq≤k2)∧Aside0 (w'.heap[pA]? = some (.cells #[(.slice uA gA.length vA),(.slice wA hA.length xA),(.slice bB bA.length yA)] 25 (0,0)))∧Aside0 (Below w.heap.size w w'))
       case atStart=>exact ⟨(zA),(0),rS,rS,H',⟨Nat.le_refl _⟩,⟨bK aA⟩,⟨ bH HB⟩⟩
       case round =>
        clear H'
        clear yF xC yC zC aD bD cD
        obtain ⟨pB,jA,rfl,rfl,HA,lD,aA,HB⟩:=hrel
        cases gk with
        | zero=>exact absurd HA.out (by simp [Q0p.l2])
        | succ k3 =>
         have H:=HA.out;clear HA
         simp only [Q0p.l2] at H
         apply iN H;clear H;intro fG H
         ·apply iN H;clear H;intro gG H
          ·apply iC H<;>clear H<;>intro hG H
           ·apply iN H;clear H;intro bG H
            ·by_cases dD:(rd (Q06 bA cA) jA)=qA
             ·rw [if_pos dD] at H
              have uD:((rd (Q06 bA cA) jA)==qA)=true:=beq_iff_eq.mpr dD
              have vD:((rd (Q06 bA cA) jA) != qA)=false:=bne_eq_false_iff_eq.mpr dD
              clear dD
              have H':=AM H
              clear H;obtain ⟨aE,cE,dE,eE,fE,gE⟩:=c3 aA
              have rA:0≤(cA:Int):=pD
              have sA:cA<(bA.length:Int):=pD
              obtain ⟨hB,rB,sB,tB,dA,eA,fA⟩:=Q3c oA.out cA rA sA
              cases tB
              replace dA:=hW HB dA
              have iB:=AM fA
              have jB:=AM eA
              clear fA eA;replace rA:=eq_true rA;replace sA:=eq_true sA
              have cB:0≤(cA:Int):=pD
              have eB:cA<(bA.length:Int):=pD
              obtain ⟨uB,eD,fD,gD,iA,kA,lA⟩:=Q3c oA.out cA cB eB
              obtain rfl:hB=uB:=(by injection gD)
              replace iA:=hW HB iA
              have aB:=AM lA
              have aC:=AM kA
              clear lA kA;replace cB:=eq_true cB;replace eB:=eq_true eB
              have ea_:=Option.some.inj (dA.symm.trans iA)
              injection ea_ with ea_ en_ ec_
              subst ea_
              subst ec_
              clear en_
              have fB:0≤(jA:Int):=pD
              have gB:jA<((Q06 bA cA).length:Int):=pD
              obtain ⟨wD,hD,mA⟩:=Kd.Q2n aB.out jA fB gB
              cases hD
              replace mA:=hW HB mA;replace fB:=eq_true fB;replace gB:=eq_true gB
              go_wp2
              go_roundg k3
              case measure=>have:=yB.out;have:=qB.out;have:=lD.out;omega
              case rel=>exact ⟨(wrap64 (pB+1)),(wrap64 (jA+1)),rS,rS,H',⟨by have:=yB.out;have:=qB.out;have:=lD.out;omega⟩,⟨bK aA⟩,⟨ bH HB⟩⟩
             ·rw [if_neg dD] at H
              have uD:((rd (Q06 bA cA) jA)==qA)=false:=beq_eq_false_iff_ne.mpr dD
              have vD:((rd (Q06 bA cA) jA) != qA)=true:=bne_iff_ne.mpr dD
              have H':=AM H
              clear H;obtain ⟨hE,iE,jE,kE,lE,mE⟩:=c3 aA
              have rA:0≤(cA:Int):=pD
              have sA:cA<(bA.length:Int):=pD
              obtain ⟨hB,rB,sB,tB,dA,eA,fA⟩:=Q3c oA.out cA rA sA
              cases tB
              replace dA:=hW HB dA
              have iB:=AM fA
              have jB:=AM eA
              clear fA eA;replace rA:=eq_true rA;replace sA:=eq_true sA
              have cB:0≤(cA:Int):=pD
              have eB:cA<(bA.length:Int):=pD
              obtain ⟨uB,eD,fD,gD,iA,kA,lA⟩:=Q3c oA.out cA cB eB
              obtain rfl:hB=uB:=(by injection gD)
              replace iA:=hW HB iA
              have aB:=AM lA
              have aC:=AM kA
              clear lA kA;replace cB:=eq_true cB;replace eB:=eq_true eB
              have ea_:=Option.some.inj (dA.symm.trans iA)
              injection ea_ with ea_ en_ ec_
              subst ea_
              subst ec_
              clear en_
              have fB:0≤(jA:Int):=pD
              have gB:jA<((Q06 bA cA).length:Int):=pD
              obtain ⟨wD,hD,mA⟩:=Kd.Q2n aB.out jA fB gB
              cases hD
              replace mA:=hW HB mA;replace fB:=eq_true fB;replace gB:=eq_true gB
              go_wp2
              go_roundg k3
              case measure=>have:=yB.out;have:=qB.out;have:=lD.out;omega
              case rel=>exact ⟨(pB),(wrap64 (jA+1)),rS,rS,H',⟨by have:=yB.out;have:=qB.out;have:=lD.out;omega⟩,⟨bK aA⟩,⟨ bH HB⟩⟩
           ·have H':=AM H
            clear H;obtain ⟨nE,oE,pE,qE,sE,tE⟩:=c3 aA
            have rA:0≤(cA:Int):=pD
            have sA:cA<(bA.length:Int):=pD
            obtain ⟨hB,rB,sB,tB,dA,eA,fA⟩:=Q3c oA.out cA rA sA
            cases tB
            replace dA:=hW HB dA
            have iB:=AM fA
            have jB:=AM eA
            clear fA eA;replace rA:=eq_true rA;replace sA:=eq_true sA
            go_wp2
            go_roundg k3
            case measure=>have:=yB.out;have:=qB.out;have:=lD.out;omega
            case rel=>exact ⟨(pB),(wrap64 (cA+1)),rS,rS,H',⟨by have:=yB.out;have:=qB.out;have:=lD.out;omega⟩,⟨bK aA⟩,⟨ bH HB⟩⟩
      ·by_cases iD:zA=1
       ·rw [if_pos iD] at H
        have xD:(zA==1)=true:=beq_iff_eq.mpr iD
        have yD:(zA != 1)=false:=bne_eq_false_iff_eq.mpr iD
        clear iD
        have H':=AM H
        clear H;obtain ⟨uE,vE,wE,xE,yE,zE⟩:=c3 aA
        go_wp2
        go_roundg k2
        case measure=>have:=yB.out;have:=qB.out;omega
        case rel=>exact ⟨(wrap64 (qA+1)),rS,H',⟨by have:=yB.out;have:=qB.out;omega⟩,⟨bK aA⟩,⟨ bH HB⟩⟩
       ·rw [if_neg iD] at H
        have xD:(zA==1)=false:=beq_eq_false_iff_ne.mpr iD
        have yD:(zA != 1)=true:=bne_iff_ne.mpr iD
        obtain rfl:=Option.some.inj H
        obtain ⟨aF,bF,cF,dF,eF,fF⟩:=c3 aA
        go_wp2
        go_ret
        exact ⟨rE,bH HB⟩
   ·have H':=AM H
    clear H;obtain ⟨cC,dC,eC,fC,gC,hC⟩:=c3 aA
    go_wp2
    go_loopg [7] k1 (fun kq v7 w'=>∃ (tA:Int),v7=.int .i64 tA∧Aside0 (Q0p.l3 kq tA gA hA bA=some r)∧Aside0 (kq≤k1)∧Aside0 (w'.heap[pA]? = some (.cells #[(.slice uA gA.length vA),(.slice wA hA.length xA),(.slice bB bA.length yA)] 25 (0,0)))∧Aside0 (Below w.heap.size w w'))
    case atStart=>exact ⟨(0),rS,H',⟨Nat.le_refl _⟩,⟨bK aA⟩,⟨ bH HB⟩⟩
    case round =>
     clear H'
     clear tD cC dC eC
     clear fC gC hC
     obtain ⟨tA,rfl,HA,qB,aA,HB⟩:=hrel
     cases gk with
     | zero=>exact absurd HA.out (by simp [Q0p.l3])
     | succ k2 =>
      have H:=HA.out;clear HA
      simp only [Q0p.l3] at H
      apply iC H<;>clear H<;>intro cG H
      ·apply iN H;clear H;intro dG H
       ·obtain ⟨zB,iG,H⟩:=bS H
        have zD:=AM H
        clear H;obtain ⟨gF,hF,jF,kF,lF,mF⟩:=c3 aA
        try go_wp2
        replace aA:=dB aA;replace HB:=dH HB
        have jD:0≤(tA:Int):=pD
        have kD:tA<(bA.length:Int):=pD
        obtain ⟨vB,wB,xB,zF,nA,lB,mB⟩:=Q3c oA.out tA jD kD
        have nB:=nA
        cases zF
        replace nA:=hW HB nA
        have oB:=AM mB
        have jC:=AM lB
        clear mB lB;replace jD:=eq_true jD;replace kD:=eq_true kD
        refine sP 8 (S:=fun w'=>w'.cell? ⟨pA,0,none⟩=some (.slice uA gA.length vA)∧w'.cell? ⟨pA,1,none⟩=some (.slice wA hA.length xA)∧w'.cell? ⟨pA,2,none⟩=some (.slice (some vB) bA.length yA)∧w'.cell? (vB.add (tA).toNat)=some (.slice wB (Q06 bA tA).length xB)) (ds:=[]) ⟨bC aA,bC aA,bC aA,(hW HB nB :)⟩ fun hHeld => ?_;refine Q1m Q0p.tab18 Q0p.bits18 (fun HT_ HW_ => ?_)
        generalize wr.drew=w24 at aA HB oB nA hHeld ⊢
        refine pQ 1 (some 54) HT_ ?_;refine pQ 3 (some 56) HT_ ?_;refine tQ 0 (some 53) HT_ HW_ hHeld ?_;refine tQ 2 (some 55) HT_ HW_ hHeld ?_;refine pQ 4 (some 57) HT_ ?_;refine tQ 5 (some 58) HT_ HW_ hHeld ?_
        refine oQ 6 (some 59) HT_ rfl fun K hK => ?_
        refine gO Try.func45 #[.agg #[.slice uA gA.length vA,.slice wA hA.length xA,.slice (some vB) bA.length yA],.slice wB (Q06 bA tA).length xB] ?_
        with_reducible refine (Q0g.calls k2 _ _ gA _ _ hA _ _ bA _ _ (Q06 bA tA) zB _ ?side1 ?side2 ?side3 ?side4 ?side5 ?side6 ?side7 ?side8 iG.out).mono ?_
        (case side1=>exact sC mD HB)
        (case side2=>exact nD.out)
        (case side3=>exact sC oD HB)
        (case side4=>exact qD.out)
        (case side5=>exact sC oA HB)
        (case side6=>exact rD.out)
        (case side7=>exact sC oB HB)
        (case side8=>exact jC.out)
        rintro e jG ⟨rfl,hb⟩
        refine ⟨_,rfl,?_⟩
        replace aA:=kB aA hb;replace HB:=kH HB hb;clear hb
        refine hK.out _ _ ⟨bC aA,bC aA,bC aA,(hW HB nB :)⟩ (fun hHeld => ?_)
        clear hK K;refine nP (some 59) ?_;refine pQ 7 (some 60) HT_ ?_
        refine done_ (Q2d HT_.out (by kernel_rfl)) ?_
        go_upto_if 60 with (fail)
        have H:=zD.out;clear zD
        by_cases nF:zB=true
        ·subst nF
         replace H:=iT H
         have H':=AM H
         clear H
         go_wp2
         go_roundg k2
         case measure=>have:=yB.out;have:=qB.out;omega
         case rel=>exact ⟨(wrap64 (tA+1)),rS,H',⟨by have:=yB.out;have:=qB.out;omega⟩,⟨bK aA⟩,⟨ bH HB⟩⟩
        ·replace nF:=Bool.eq_false_iff.mpr nF
         subst nF
         replace H:=iF H
         obtain rfl:=Option.some.inj H
         go_wp2
         go_ret
         exact ⟨rE,bH HB⟩
      ·obtain rfl:=Option.some.inj H
       obtain ⟨oF,pF,qF,rF,sF,tF⟩:=c3 aA
       go_wp2
       go_ret
       exact ⟨rE,bH HB⟩
end Go.Proofs.Ytbonkedecfjmdaa.P
