/- Written for this claim by a program of this session (a turned copy of the print): Go functions as Lean functions, and that the Go code comes to just these answers; or a statement proved out of them. No condition. -/
import Derived.Test.YtbonkedecfjmdaaZ2

namespace Go.Proofs.Ytbonkedecfjmdaa.P
open Go.RowKit Go.Proofs.YtbonkedecfjmdaaW.PrintWords Go.Proofs.YtbonkedecfjmdaaW.PrintLast Go.Proofs.YtbonkedecfjmdaaW.PrintMore Go.Proofs.Ytbonkedecfjmdaa.X
attribute [local go_sem] Q2b Q2a Q2m Q2n Q1y Q1z Q19 Q18 Q2l Q2k add64
set_option linter.unusedVariables false
set_option linter.unusedSimpArgs false
mutual
def Q1q.l0:Nat→Int→Int→List (List (S27))→List (List Int)→List (List Int)→Option (Bool)
 | 0,_,_,_,_,_=>none
 | k+1,x3,x4,x102000,x102001,x102002=>if x4<(x102000.length:Int) then (if 0≤x4 then (Q1q.l0 k (wrap64 ((wrap64 (x3+1))+((Q0d x102000 x4).length:Int))) (wrap64 (x4+1)) x102000 x102001 x102002) else (none)) else (Q1q.l1 k x3 0 x102000 x102001 x102002)
def Q1q.l1:Nat→Int→Int→List (List (S27))→List (List Int)→List (List Int)→Option (Bool)
 | 0,_,_,_,_,_=>none
 | k+1,x3,x5,x102000,x102001,x102002=>if x5<(x102001.length:Int) then (if 0≤x5 then (Q1q.l1 k (wrap64 ((wrap64 (x3+1))+((Q09 x102001 x5).length:Int))) (wrap64 (x5+1)) x102000 x102001 x102002) else (none)) else (Q1q.l2 k x3 0 x102000 x102001 x102002)
def Q1q.l2:Nat→Int→Int→List (List (S27))→List (List Int)→List (List Int)→Option (Bool)
 | 0,_,_,_,_,_=>none
 | k+1,x3,x6,x102000,x102001,x102002=>if x6<(x102002.length:Int) then (if 0≤x6 then (Q1q.l2 k (wrap64 ((wrap64 (x3+1))+((Q09 x102002 x6).length:Int))) (wrap64 (x6+1)) x102000 x102001 x102002) else (none)) else (some (decide (x3>80)))
end
def Q1q.f (k:Nat) (bA:List (List (S27))) (cA:List (List Int)) (dA:List (List Int)):Option (Bool):=Q1q.l0 k 0 0 bA cA dA
theorem Q1q.Q08:∀ k,(∀ y0 y1 y2 y3 y4,LeO (Q1q.l0 k y0 y1 y2 y3 y4) (Q1q.l0 (k+1) y0 y1 y2 y3 y4))∧(∀ y0 y1 y2 y3 y4,LeO (Q1q.l1 k y0 y1 y2 y3 y4) (Q1q.l1 (k+1) y0 y1 y2 y3 y4))∧(∀ y0 y1 y2 y3 y4,LeO (Q1q.l2 k y0 y1 y2 y3 y4) (Q1q.l2 (k+1) y0 y1 y2 y3 y4))
 | 0=>⟨fun _ _ _ _ _ r h=>by simp [Q1q.l0] at h,fun _ _ _ _ _ r h=>by simp [Q1q.l1] at h,fun _ _ _ _ _ r h=>by simp [Q1q.l2] at h⟩
 | k+1=>by
  obtain ⟨xC,yC,zC⟩:=Q1q.Q08 k
  refine ⟨?_,?_,?_⟩
  all_goals
   intros
   first|unfold Q1q.l0|unfold Q1q.l1|unfold Q1q.l2
   repeat' with_reducible first|exact xC _ _ _ _ _|exact yC _ _ _ _ _|exact zC _ _ _ _ _|exact LeO.refl _|exact LeO.none _|refine LeO.ite ?_ ?_|refine LeO.bind ?_ (fun _ => ?_)
theorem Q1q.mono:∀ a0 a1 a2 k,LeO (Q1q.f k a0 a1 a2) (Q1q.f (k+1) a0 a1 a2):=by
 intro a0 a1 a2 k
 obtain ⟨xC,yC,zC⟩:=Q1q.Q08 k
 unfold Q1q.f
 repeat' with_reducible first|exact xC _ _ _ _ _|exact yC _ _ _ _ _|exact zC _ _ _ _ _|exact LeO.refl _|exact LeO.none _|refine LeO.ite ?_ ?_|refine LeO.bind ?_ (fun _ => ?_)
set_option maxHeartbeats 8000000 in
set_option maxRecDepth 100000 in
theorem Q1q.calls (k:Nat) (qA:Option Addr) (rA:Nat) (bA:List (List (S27))) (sA:Option Addr) (tA:Nat) (cA:List (List Int)) (uA:Option Addr) (vA:Nat) (dA:List (List Int)) (r:Bool) (w:World) (gB:Kd.C (Kd.slice 27 k27) w qA bA.length bA) (hB:bA.length≤rA) (iB:Kd.C (Kd.slice 3 (Kd.int .i64)) w sA cA.length cA) (jB:cA.length≤tA) (kB:Kd.C (Kd.slice 3 (Kd.int .i64)) w uA dA.length dA) (lB:dA.length≤vA) (h:Q1q.f k bA cA dA=some r) :
  Calls Try.prog 7 #[.agg #[.slice qA bA.length rA,.slice sA cA.length tA,.slice uA dA.length vA]] w fun e w'=>e=.returned (.bool r)∧Below w.heap.size w w':=by
 have jE:=Try.underlying25
 have zB:=AM gB
 have yD:=AM hB
 clear gB hB
 have aC:=AM iB
 have zD:=AM jB
 clear iB jB
 have bC:=AM kB
 have aE:=AM lB
 clear kB lB
 have HB:=AM (Below.refl w.heap.size w)
 have H:(Q1q.l0 k 0 0 bA cA dA)=some r:=h
 clear h
 have H':=AM H
 clear H
 go_enter Try.func7,Try.ntmps7
 go_wp2_with (first|((with_reducible refine Q0i (N:=1) rfl ?_);refine bE 1 #[.slice qA bA.length rA,.slice sA cA.length tA,.slice uA dA.length vA] 25 ?_;intro wA hg w2 hbox hb;have aA:=AM hbox;have cC:=kG HB hg;replace HB:=kH HB hb;have cE:=cC;clear hb hbox hg))
 go_loopg [3,4] k (fun kq v3 v4 w'=>∃ (xA:Int) (eA:Int),v3=.int .i64 xA∧v4=.int .i64 eA∧Aside0 (Q1q.l0 kq xA eA bA cA dA=some r)∧Aside0 (kq≤k)∧Aside0 (w'.heap[wA]? = some (.cells #[(.slice qA bA.length rA),(.slice sA cA.length tA),(.slice uA dA.length vA)] 25 (0,0)))∧Aside0 (Below w.heap.size w w'))
 case atStart=>exact ⟨(0),(0),rS,rS,H',⟨Nat.le_refl _⟩,⟨bK aA⟩,⟨ bH HB⟩⟩
 case round =>
  clear H'
  obtain ⟨xA,eA,rfl,rfl,HA,yB,aA,HB⟩:=hrel
  cases gk with
  | zero=>exact absurd HA.out (by simp [Q1q.l0])
  | succ k1 =>
   have H:=HA.out;clear HA
   simp only [Q1q.l0] at H
   apply iC H<;>clear H<;>intro aD H
   ·apply iN H;clear H;intro kE H
    ·have H':=AM H
     clear H;obtain ⟨bD,cD,dD,eD,fD,gD⟩:=c3 aA
     have mB:0≤(eA:Int):=pD
     have nB:eA<(bA.length:Int):=pD
     obtain ⟨dE,hD,iD,jD,hA,iA,jA⟩:=Q3p zB.out eA mB nB
     cases jD
     replace hA:=hW HB hA
     have dC:=AM jA
     have eC:=AM iA
     clear jA iA;replace mB:=eq_true mB;replace nB:=eq_true nB
     go_wp2
     go_roundg k1
     case measure=>have:=yB.out;omega
     case rel=>exact ⟨(wrap64 ((wrap64 (xA+1))+((Q0d bA eA).length:Int))),(wrap64 (eA+1)),rS,rS,H',⟨by have:=yB.out;omega⟩,⟨bK aA⟩,⟨ bH HB⟩⟩
   ·have H':=AM H
    clear H;obtain ⟨oB,pB,qB,rB,sB,tB⟩:=c3 aA
    go_wp2
    go_loopg [3,5] k1 (fun kq v3 v5 w'=>∃ (yA:Int) (fA:Int),v3=.int .i64 yA∧v5=.int .i64 fA∧Aside0 (Q1q.l1 kq yA fA bA cA dA=some r)∧Aside0 (kq≤k1)∧Aside0 (w'.heap[wA]? = some (.cells #[(.slice qA bA.length rA),(.slice sA cA.length tA),(.slice uA dA.length vA)] 25 (0,0)))∧Aside0 (Below w.heap.size w w'))
    case atStart=>exact ⟨(xA),(0),rS,rS,H',⟨Nat.le_refl _⟩,⟨bK aA⟩,⟨ bH HB⟩⟩
    case round =>
     clear H'
     clear aD oB pB qB rB sB tB
     obtain ⟨yA,fA,rfl,rfl,HA,fC,aA,HB⟩:=hrel
     cases gk with
     | zero=>exact absurd HA.out (by simp [Q1q.l1])
     | succ k2 =>
      have H:=HA.out;clear HA
      simp only [Q1q.l1] at H
      apply iC H<;>clear H<;>intro kD H
      ·apply iN H;clear H;intro lE H
       ·have H':=AM H
        clear H;obtain ⟨lD,mD,nD,oD,qD,rD⟩:=c3 aA
        have uB:0≤(fA:Int):=pD
        have vB:fA<(cA.length:Int):=pD
        obtain ⟨eE,sD,tD,uD,kA,lA,mA⟩:=Q3g aC.out fA uB vB
        cases uD
        replace kA:=hW HB kA
        have gC:=AM mA
        have hC:=AM lA
        clear mA lA;replace uB:=eq_true uB;replace vB:=eq_true vB
        go_wp2
        go_roundg k2
        case measure=>have:=yB.out;have:=fC.out;omega
        case rel=>exact ⟨(wrap64 ((wrap64 (yA+1))+((Q09 cA fA).length:Int))),(wrap64 (fA+1)),rS,rS,H',⟨by have:=yB.out;have:=fC.out;omega⟩,⟨bK aA⟩,⟨ bH HB⟩⟩
      ·have H':=AM H
       clear H;obtain ⟨zA,aB,bB,cB,dB,eB⟩:=c3 aA
       go_wp2
       go_loopg [3,6] k2 (fun kq v3 v6 w'=>∃ (fB:Int) (gA:Int),v3=.int .i64 fB∧v6=.int .i64 gA∧Aside0 (Q1q.l2 kq fB gA bA cA dA=some r)∧Aside0 (kq≤k2)∧Aside0 (w'.heap[wA]? = some (.cells #[(.slice qA bA.length rA),(.slice sA cA.length tA),(.slice uA dA.length vA)] 25 (0,0)))∧Aside0 (Below w.heap.size w w'))
       case atStart=>exact ⟨(yA),(0),rS,rS,H',⟨Nat.le_refl _⟩,⟨bK aA⟩,⟨ bH HB⟩⟩
       case round =>
        clear H'
        clear kD zA aB bB cB dB eB
        obtain ⟨fB,gA,rfl,rfl,HA,fE,aA,HB⟩:=hrel
        cases gk with
        | zero=>exact absurd HA.out (by simp [Q1q.l2])
        | succ k3 =>
         have H:=HA.out;clear HA
         simp only [Q1q.l2] at H
         apply iC H<;>clear H<;>intro gE H
         ·apply iN H;clear H;intro hE H
          ·have H':=AM H
           clear H;obtain ⟨jC,kC,lC,mC,nC,oC⟩:=c3 aA
           have wB:0≤(gA:Int):=pD
           have xB:gA<(dA.length:Int):=pD
           obtain ⟨iE,vD,wD,xD,nA,oA,pA⟩:=Q3g bC.out gA wB xB
           cases xD
           replace nA:=hW HB nA
           have pC:=AM pA
           have qC:=AM oA
           clear pA oA;replace wB:=eq_true wB;replace xB:=eq_true xB
           go_wp2
           go_roundg k3
           case measure=>have:=yB.out;have:=fC.out;have:=fE.out;omega
           case rel=>exact ⟨(wrap64 ((wrap64 (fB+1))+((Q09 dA gA).length:Int))),(wrap64 (gA+1)),rS,rS,H',⟨by have:=yB.out;have:=fC.out;have:=fE.out;omega⟩,⟨bK aA⟩,⟨ bH HB⟩⟩
         ·obtain rfl:=Option.some.inj H
          obtain ⟨rC,sC,tC,uC,vC,wC⟩:=c3 aA
          go_wp2
          go_ret
          exact ⟨rE,bH HB⟩

theorem eqA27 (d:Nat) (w:World) (x0 y0:Int) (x1 y1:Int) (x2 y2:Int) :
  (Op.equalIn (d+2) 27 (.agg #[.int .i64 x0,.int .i64 x1,.int .i64 x2]) (.agg #[.int .i64 y0,.int .i64 y1,.int .i64 y2])).run Try.prog w=.ok (x0==y0&&(x1==y1&&(x2==y2))) w:=by
 refine Qcs Try.underlying27 (by kernel_rfl) ?_
 refine Q5y (by rfl) (by go_simp;rfl) (by go_simp;rfl) (by go_simp) ?_
 refine Q5y (by rfl) (by go_simp;rfl) (by go_simp;rfl) (by go_simp) ?_
 exact Q7q (by rfl) (by go_simp;rfl) (by go_simp;rfl) (by go_simp)

mutual
def Q1d.j0:Nat→Int→List (S27)→Int→List (List (S27))→List (List Int)→List (List Int)→Option ((List (S27))×Int)
 | 0,_,_,_,_,_,_=>none
 | k+1,x1,x6,x7,x106000,x106001,x106002=>if x7<0 then (Q1d.j1 k x1 x6 x7 true x106000 x106001 x106002) else (Q1d.j1 k x1 x6 x7 (decide (x7≥(x106000.length:Int))) x106000 x106001 x106002)
def Q1d.j1:Nat→Int→List (S27)→Int→Bool→List (List (S27))→List (List Int)→List (List Int)→Option ((List (S27))×Int)
 | 0,_,_,_,_,_,_,_=>none
 | k+1,x1,x6,x7,x23,x106000,x106001,x106002=>if x23=true then (some (([]:List (S27)),2)) else (if 0≤x7 then (if x7<(x106000.length:Int) then (Q1d.l0 k x1 x6 (Q0d x106000 x7) 0) else (none)) else (none))
def Q1d.l0:Nat→Int→List (S27)→List (S27)→Int→Option ((List (S27))×Int)
 | 0,_,_,_,_=>none
 | k+1,x1,x6,x8,x9=>if x9<(x8.length:Int) then (if x1<0 then (if 0≤(wrap64 ((wrap64 ((x8.length:Int) - 1)) - x9)) then (if (wrap64 ((wrap64 ((x8.length:Int) - 1)) - x9))<(x8.length:Int) then (if x6.length<5864062014805 then (Q1d.l0 k x1 (x6++[(⟨(Q0a x8 (wrap64 ((wrap64 ((x8.length:Int) - 1)) - x9))).f0,(Q0a x8 (wrap64 ((wrap64 ((x8.length:Int) - 1)) - x9))).f1,(Q0a x8 (wrap64 ((wrap64 ((x8.length:Int) - 1)) - x9))).f2⟩:S27)]) x8 (wrap64 (x9+1))) else (none)) else (none)) else (none)) else (if 0≤x9 then (if x6.length<5864062014805 then (Q1d.l0 k x1 (x6++[(⟨(Q0a x8 x9).f0,(Q0a x8 x9).f1,(Q0a x8 x9).f2⟩:S27)]) x8 (wrap64 (x9+1))) else (none)) else (none))) else (some (x6,0))
end
def Q1d.f (k:Nat) (aA:List (List (S27))) (fA:List (List Int)) (gA:List (List Int)) (a1:Int):Option ((List (S27))×Int):=if a1<0 then (Q1d.j0 k a1 ([]:List (S27)) (wrap64 ((-1) - a1)) aA fA gA) else (Q1d.j0 k a1 ([]:List (S27)) a1 aA fA gA)
theorem Q1d.Q08:∀ k,(∀ y0 y1 y2 y3 y4 y5,LeO (Q1d.j0 k y0 y1 y2 y3 y4 y5) (Q1d.j0 (k+1) y0 y1 y2 y3 y4 y5))∧(∀ y0 y1 y2 y3 y4 y5 y6,LeO (Q1d.j1 k y0 y1 y2 y3 y4 y5 y6) (Q1d.j1 (k+1) y0 y1 y2 y3 y4 y5 y6))∧(∀ y0 y1 y2 y3,LeO (Q1d.l0 k y0 y1 y2 y3) (Q1d.l0 (k+1) y0 y1 y2 y3))
 | 0=>⟨fun _ _ _ _ _ _ r h=>by simp [Q1d.j0] at h,fun _ _ _ _ _ _ _ r h=>by simp [Q1d.j1] at h,fun _ _ _ _ r h=>by simp [Q1d.l0] at h⟩
 | k+1=>by
  obtain ⟨tC,uC,vC⟩:=Q1d.Q08 k
  refine ⟨?_,?_,?_⟩
  all_goals
   intros
   first|unfold Q1d.j0|unfold Q1d.j1|unfold Q1d.l0
   repeat' with_reducible first|exact tC _ _ _ _ _ _|exact uC _ _ _ _ _ _ _|exact vC _ _ _ _|exact LeO.refl _|exact LeO.none _|refine LeO.ite ?_ ?_|refine LeO.bind ?_ (fun _ => ?_)
theorem Q1d.mono:∀ a0 a1 a2 a3 k,LeO (Q1d.f k a0 a1 a2 a3) (Q1d.f (k+1) a0 a1 a2 a3):=by
 intro a0 a1 a2 a3 k
 obtain ⟨tC,uC,vC⟩:=Q1d.Q08 k
 unfold Q1d.f
 repeat' with_reducible first|exact tC _ _ _ _ _ _|exact uC _ _ _ _ _ _ _|exact vC _ _ _ _|exact LeO.refl _|exact LeO.none _|refine LeO.ite ?_ ?_|refine LeO.bind ?_ (fun _ => ?_)
set_option maxHeartbeats 8000000 in
set_option maxRecDepth 100000 in
theorem Q1d.calls (k:Nat) (cB:Option Addr) (jA:Nat) (aA:List (List (S27))) (kA:Option Addr) (lA:Nat) (fA:List (List Int)) (mA:Option Addr) (nA:Nat) (gA:List (List Int)) (a1:Int) (r1:List (S27)) (r2:Int) (w:World) (pB:Kd.C (Kd.slice 27 k27) w cB aA.length aA) (qB:aA.length≤jA) (rB:Kd.C (Kd.slice 3 (Kd.int .i64)) w kA fA.length fA) (sB:fA.length≤lA) (tB:Kd.C (Kd.slice 3 (Kd.int .i64)) w mA gA.length gA) (uB:gA.length≤nA) (h:Q1d.f k aA fA gA a1=some (r1,r2)) :
  Calls Try.prog 61 #[.agg #[.slice cB aA.length jA,.slice kA fA.length lA,.slice mA gA.length nA],.int .i64 a1] w fun e w'=>∃ v0_:Value,e=.returned (.tuple #[v0_,.int .i64 r2])∧Kd.R k27 27 w' w.heap.size (fun _=>True) v0_ r1∧Below w.heap.size w w':=by
 have yD:=Try.underlying25
 have zD:=Try.underlying27
 have bC:=AM pB
 have kD:=AM qB
 clear pB qB
 have lD:=AM rB
 have mD:=AM sB
 clear rB sB
 have nD:=AM tB
 have oD:=AM uB
 clear tB uB
 have HB:=AM (Below.refl w.heap.size w)
 have H:(if a1<0 then (Q1d.j0 k a1 ([]:List (S27)) (wrap64 ((-1) - a1)) aA fA gA) else (Q1d.j0 k a1 ([]:List (S27)) a1 aA fA gA))=some (r1,r2):=h
 clear h
 have wC:=AM H
 clear H
 go_enter Try.func61,Try.ntmps61
 go_upto_if 12 with (first|((with_reducible refine Q0i (N:=2) rfl ?_);(try (refine Q2r (by rfl) ?_;dsimp only));refine bE 2 #[.slice cB aA.length jA,.slice kA fA.length lA,.slice mA gA.length nA] 25 ?_;intro oA hg w4 hbox hb;have cA:=AM hbox;have cC:=kG HB hg;replace HB:=kH HB hb;have qD:=cC;clear hb hbox hg))
 (try simp only [Act.put,List.setIfInBounds_toArray,List.set_cons_zero,List.set_cons_succ])
 go_cut [7] (fun v7 wc=>∃ (kq:Nat) (bA:Int),v7=.int .i64 bA∧Aside0 (Q1d.j0 kq a1 ([]:List (S27)) bA aA fA gA=some (r1,r2))∧Aside0 (kq≤k)∧Aside0 (Kd.R k27 27 wc w.heap.size (fun _=>True) (.slice none 0 0) ([]:List (S27)))∧Aside0 (wc.heap[oA]? = some (.cells #[(.slice cB aA.length jA),(.slice kA fA.length lA),(.slice mA gA.length nA)] 25 (0,0)))∧Aside0 (Below w.heap.size w wc))
 case first =>
  have H:=wC.out;clear wC
  apply iC H<;>clear H<;>intro fB H
  ·(first|rw [fB]|(simp only [Q1s,Q13];rw [fB])|skip)
   have H':=AM H
   clear H
   go_wp2
   go_meet
   case rel=>exact ⟨_,(wrap64 ((-1) - a1)),rS,H',⟨by first|omega|exact Nat.le_refl _⟩,⟨by first|exact Kd.Q3j _ _ _ _ _|exact Kd.Q3y _ _ _ _ _|exact Kd.Q3w _ _ _ _ _|exact Kd.Q3v _ _ _ _ _|exact Kd.Q3u _ _ _ _ _⟩,⟨bK cA⟩,⟨ bH HB⟩⟩
  ·(first|rw [fB]|(simp only [Q1s,Q13];rw [fB])|skip)
   have H':=AM H
   clear H
   go_wp2
   go_meet
   case rel=>exact ⟨_,(a1),rS,H',⟨by first|omega|exact Nat.le_refl _⟩,⟨by first|exact Kd.Q3j _ _ _ _ _|exact Kd.Q3y _ _ _ _ _|exact Kd.Q3w _ _ _ _ _|exact Kd.Q3v _ _ _ _ _|exact Kd.Q3u _ _ _ _ _⟩,⟨bK cA⟩,⟨ bH HB⟩⟩
 case rest =>
  clear wC
  obtain ⟨kq,bA,rfl,HA,aC,HO_6,cA,HB⟩:=hcut
  cases kq with
  | zero=>exact absurd HA.out (by simp [Q1d.j0])
  | succ kj2 =>
   have H:=HA.out;clear HA
   simp only [Q1d.j0] at H
   have xC:=AM H
   clear H
   go_upto_region 5 with (fail)
   go_cut [23] (fun aE wc=>∃ (kq:Nat) (rA:Bool),aE=.bool rA∧Aside0 (Q1d.j1 kq a1 ([]:List (S27)) bA rA aA fA gA=some (r1,r2))∧Aside0 (kq≤kj2)∧Aside0 (Kd.R k27 27 wc w.heap.size (fun _=>True) (.slice none 0 0) ([]:List (S27)))∧Aside0 (wc.heap[oA]? = some (.cells #[(.slice cB aA.length jA),(.slice kA fA.length lA),(.slice mA gA.length nA)] 25 (0,0)))∧Aside0 (Below w.heap.size w wc))
   case first =>
    have H:=xC.out;clear xC
    apply iC H<;>clear H<;>intro gB H
    ·(first|rw [gB]|(simp only [Q1s,Q13];rw [gB])|skip)
     have H':=AM H
     clear H
     go_wp2
     go_meet
     case rel=>exact ⟨_,(true),rS,H',⟨by have:=aC.out;first|omega|exact Nat.le_refl _⟩,⟨rK HO_6⟩,⟨bK cA⟩,⟨ bH HB⟩⟩
    ·(first|rw [gB]|(simp only [Q1s,Q13];rw [gB])|skip)
     have H':=AM H
     clear H;obtain ⟨yC,zC,aD,bD,cD,dD⟩:=c3 cA
     go_wp2
     go_meet
     case rel=>exact ⟨_,(decide (bA≥(aA.length:Int))),rS,H',⟨by have:=aC.out;first|omega|exact Nat.le_refl _⟩,⟨rK HO_6⟩,⟨bK cA⟩,⟨ bH HB⟩⟩
   case rest =>
    clear xC
    obtain ⟨kq,rA,rfl,HA,oC,HO_6,cA,HB⟩:=hcut
    cases kq with
    | zero=>exact absurd HA.out (by simp [Q1d.j1])
    | succ kj5 =>
     have H:=HA.out;clear HA
     simp only [Q1d.j1] at H
     by_cases c9:rA=true
     ·subst c9
      replace H:=iT H
      simp only [Option.some.injEq,Prod.mk.injEq] at H
      obtain ⟨rfl,rfl⟩:=H
      go_wp2
      go_ret2
      exact ⟨_,rE,by first|exact Kd.Q3j _ _ _ _ _|exact Kd.Q3y _ _ _ _ _|exact Kd.Q3w _ _ _ _ _|exact Kd.Q3v _ _ _ _ _|exact Kd.Q3u _ _ _ _ _,bH HB⟩
     ·replace c9:=Bool.eq_false_iff.mpr c9
      subst c9
      replace H:=iF H
      apply iN H;clear H;intro dC H
      ·apply iN H;clear H;intro eC H
       ·have H':=AM H
        clear H;obtain ⟨hB,iB,jB,kB,lB,mB⟩:=c3 cA
        have nB:0≤(bA:Int):=pD
        have oB:bA<(aA.length:Int):=pD
        obtain ⟨dB,eD,fD,gD,iA,sA,tA⟩:=Q3p bC.out bA nB oB
        cases gD
        replace iA:=hW HB iA
        have uA:=AM tA
        have pC:=AM sA
        clear tA sA;replace nB:=eq_true nB;replace oB:=eq_true oB
        go_wp2
        go_loopg [6,9] kj5 (fun kq v6 v9 w'=>∃ (hA:List (S27)) (dA:Int),v9=.int .i64 dA∧Aside0 (Q1d.l0 kq a1 hA (Q0d aA bA) dA=some (r1,r2))∧Aside0 (kq≤kj5)∧Aside0 (Kd.R k27 27 w' w.heap.size (fun _=>True) v6 hA)∧Aside0 (w'.heap[oA]? = some (.cells #[(.slice (some dB) aA.length jA),(.slice kA fA.length lA),(.slice mA gA.length nA)] 25 (0,0)))∧Aside0 (Below w.heap.size w w'))
        case atStart=>exact ⟨(([]:List (S27))),(0),rS,H',⟨Nat.le_refl _⟩,⟨rK HO_6⟩,⟨bK cA⟩,⟨ bH HB⟩⟩
        case round =>
         clear H'
         clear dC eC hB iB jB kB lB mB iA nB oB
         obtain ⟨hA,dA,rfl,HA,qC,HO_6,cA,HB⟩:=hrel
         cases gk with
         | zero=>exact absurd HA.out (by simp [Q1d.l0])
         | succ k3 =>
          have H:=HA.out;clear HA
          simp only [Q1d.l0] at H
          apply iC H<;>clear H<;>intro rD H
          ·apply iC H<;>clear H<;>intro sD H
           ·obtain ⟨eA,eB⟩:∃ j_:Int,(wrap64 ((wrap64 (((Q0d aA bA).length:Int) - 1)) - dA))=j_:=⟨_,rfl⟩
            replace H:(if 0≤(eA) then (if (eA)<((Q0d aA bA).length:Int) then (if hA.length<5864062014805 then (Q1d.l0 k3 a1 (hA++[(⟨(Q0a (Q0d aA bA) (eA)).f0,(Q0a (Q0d aA bA) (eA)).f1,(Q0a (Q0d aA bA) (eA)).f2⟩:S27)]) (Q0d aA bA) (wrap64 (dA+1))) else (none)) else (none)) else (none))=some (r1,r2):=by first|(rw [eB] at H;exact H)|(simp only [eB] at H ⊢;exact H)
            have hD:(IntKind.i64.wrap ((wrap64 (((Q0d aA bA).length:Int) - 1)) - dA))=eA:=(Q1s _).trans eB
            apply iN H;clear H;intro tD H
            ·apply iN H;clear H;intro uD H
             ·by_cases rC:hA.length<5864062014805
              ·rw [if_pos rC] at H
               have fC:=AM rC
               clear rC
               obtain ⟨gC,pA⟩:∃ y_:List (S27),y_=(hA++[(⟨(Q0a (Q0d aA bA) (eA)).f0,(Q0a (Q0d aA bA) (eA)).f1,(Q0a (Q0d aA bA) (eA)).f2⟩:S27)]):=⟨_,rfl⟩
               replace H:(Q1d.l0 k3 a1 gC (Q0d aA bA) (wrap64 (dA+1)))=some (r1,r2):=by first|(rw [pA];with_reducible exact H)|(have vB:=(Option.bind_some _ _).symm.trans H;rw [pA];with_reducible exact vB)|(have vB:=(Option.bind_some _ _).symm.trans H;with_reducible exact vB)|with_reducible exact H|(rw [pA];exact H)|exact H
               have hC:=AM pA
               clear pA
               have H':=AM H
               clear H
               have wB:0≤((eA):Int):=pD
               have xB:(eA)<((Q0d aA bA).length:Int):=pD
               obtain ⟨vD,iD,vA,wA,xA⟩:=Q2e uA.out (eA) wB xB
               cases iD
               replace vA:=hW HB vA;replace wA:=hW HB wA;replace xA:=hW HB xA;replace wB:=eq_true wB;replace xB:=eq_true xB
               go_wp2_with (first|((with_reducible refine Q1u (b:=.append) (xs:=#[.tmp 37,.tmp 46]) rfl ?_);(try (refine Q2r (by rfl) ?_;dsimp only));at_builtin;refine Kd.Q3h k27 (w0:=w) w.heap.size rfl (.tmp 37) (.tmp 46) 31 27 (.agg #[(.int .i64 0),(.int .i64 0),(.int .i64 0)]) 24 rfl Try.underlying31 info27 rfl (by decide) (by omega) u6 hA (⟨(Q0a (Q0d aA bA) (eA)).f0,(Q0a (Q0d aA bA) (eA)).f1,(Q0a (Q0d aA bA) (eA)).f2⟩:S27) [.int .i64 ((Q0a (Q0d aA bA) (eA)).f0),.int .i64 ((Q0a (Q0d aA bA) (eA)).f1),.int .i64 ((Q0a (Q0d aA bA) (eA)).f2)] (fun _=>True) (fun _=>False) rfl rfl ?aP (fun _ hk=>hk.elim) ?aF ?aO ?aB ?aS ?aL ?_;(case aP=>exact Q2o _ _ _ (⟨(Q0a (Q0d aA bA) (eA)).f0,(Q0a (Q0d aA bA) (eA)).f1,(Q0a (Q0d aA bA) (eA)).f2⟩:S27));(case aB=>exact (bH HB));(case aF=>exact (fun _ _=>trivial));(case aO=>exact (rK HO_6));(case aS=>exact (Q0h (bH HB)));(case aL=>have:=fC.out;omega);intro cE eE ho hb hg hat;rw [← hC.out] at ho;replace cA:=AM (Q1w (g:=oA) (o:=.cells #[.slice (some dB) aA.length jA,.slice kA fA.length lA,.slice mA gA.length nA] 25 (0,0)) (bK cA) hg (Kd.R_ne HO_6.out cA.out (by decide)));replace HB:=AM hb;have jC:=AM ho;clear HO_6;clear ho hb hg hat))
               go_roundg k3
               case measure=>have:=aC.out;have:=oC.out;have:=qC.out;omega
               case rel=>exact ⟨(gC),(wrap64 (dA+1)),rS,H',⟨by have:=aC.out;have:=oC.out;have:=qC.out;omega⟩,⟨rK jC⟩,⟨bK cA⟩,⟨ bH HB⟩⟩
              ·rw [if_neg rC] at H
               exact absurd H (by simp)
           ·apply iN H;clear H;intro wD H
            ·by_cases sC:hA.length<5864062014805
             ·rw [if_pos sC] at H
              have kC:=AM sC
              clear sC
              obtain ⟨lC,qA⟩:∃ y_:List (S27),y_=(hA++[(⟨(Q0a (Q0d aA bA) dA).f0,(Q0a (Q0d aA bA) dA).f1,(Q0a (Q0d aA bA) dA).f2⟩:S27)]):=⟨_,rfl⟩
              replace H:(Q1d.l0 k3 a1 lC (Q0d aA bA) (wrap64 (dA+1)))=some (r1,r2):=by first|(rw [qA];with_reducible exact H)|(have vB:=(Option.bind_some _ _).symm.trans H;rw [qA];with_reducible exact vB)|(have vB:=(Option.bind_some _ _).symm.trans H;with_reducible exact vB)|with_reducible exact H|(rw [qA];exact H)|exact H
              have mC:=AM qA
              clear qA
              have H':=AM H
              clear H
              have yB:0≤(dA:Int):=pD
              have zB:dA<((Q0d aA bA).length:Int):=pD
              obtain ⟨xD,jD,yA,zA,bB⟩:=Q2e uA.out dA yB zB
              cases jD
              replace yA:=hW HB yA;replace zA:=hW HB zA;replace bB:=hW HB bB;replace yB:=eq_true yB;replace zB:=eq_true zB
              go_wp2_with (first|((with_reducible refine Q1u (b:=.append) (xs:=#[.tmp 48,.tmp 53]) rfl ?_);(try (refine Q2r (by rfl) ?_;dsimp only));at_builtin;refine Kd.Q3h k27 (w0:=w) w.heap.size rfl (.tmp 48) (.tmp 53) 31 27 (.agg #[(.int .i64 0),(.int .i64 0),(.int .i64 0)]) 24 rfl Try.underlying31 info27 rfl (by decide) (by omega) u6 hA (⟨(Q0a (Q0d aA bA) dA).f0,(Q0a (Q0d aA bA) dA).f1,(Q0a (Q0d aA bA) dA).f2⟩:S27) [.int .i64 ((Q0a (Q0d aA bA) dA).f0),.int .i64 ((Q0a (Q0d aA bA) dA).f1),.int .i64 ((Q0a (Q0d aA bA) dA).f2)] (fun _=>True) (fun _=>False) rfl rfl ?aP (fun _ hk=>hk.elim) ?aF ?aO ?aB ?aS ?aL ?_;(case aP=>exact Q2o _ _ _ (⟨(Q0a (Q0d aA bA) dA).f0,(Q0a (Q0d aA bA) dA).f1,(Q0a (Q0d aA bA) dA).f2⟩:S27));(case aB=>exact (bH HB));(case aF=>exact (fun _ _=>trivial));(case aO=>exact (rK HO_6));(case aS=>exact (Q0h (bH HB)));(case aL=>have:=kC.out;omega);intro dE fE ho hb hg hat;rw [← mC.out] at ho;replace cA:=AM (Q1w (g:=oA) (o:=.cells #[.slice (some dB) aA.length jA,.slice kA fA.length lA,.slice mA gA.length nA] 25 (0,0)) (bK cA) hg (Kd.R_ne HO_6.out cA.out (by decide)));replace HB:=AM hb;have nC:=AM ho;clear HO_6;clear ho hb hg hat))
              go_roundg k3
              case measure=>have:=aC.out;have:=oC.out;have:=qC.out;omega
              case rel=>exact ⟨(lC),(wrap64 (dA+1)),rS,H',⟨by have:=aC.out;have:=oC.out;have:=qC.out;omega⟩,⟨rK nC⟩,⟨bK cA⟩,⟨ bH HB⟩⟩
             ·rw [if_neg sC] at H
              exact absurd H (by simp)
          ·simp only [Option.some.injEq,Prod.mk.injEq] at H
           obtain ⟨rfl,rfl⟩:=H
           go_wp2
           go_ret2
           exact ⟨_,rE,rK HO_6,bH HB⟩
end Go.Proofs.Ytbonkedecfjmdaa.P
