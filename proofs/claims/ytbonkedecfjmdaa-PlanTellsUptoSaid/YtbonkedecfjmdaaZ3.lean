/- Written for this claim by a program of this session (a turned copy of the print): Go functions as Lean functions, and that the Go code comes to just these answers; or a statement proved out of them. No condition. -/
import Derived.Test.YtbonkedecfjmdaaZ2

namespace Go.Proofs.Ytbonkedecfjmdaa.P
open Go.RowKit Go.Proofs.YtbonkedecfjmdaaW.PrintWords Go.Proofs.YtbonkedecfjmdaaW.PrintLast Go.Proofs.YtbonkedecfjmdaaW.PrintMore Go.Proofs.Ytbonkedecfjmdaa.X
attribute [local go_sem] Q2a Q2b Q2s Q2q Q1z Q1y Q19 Q2c Q2r Q2p add64
set_option linter.unusedVariables false
set_option linter.unusedSimpArgs false
mutual
def Q1t.l0:Nat→Int→Int→List (List (S27))→List (List Int)→List (List Int)→Option (Bool)
 | 0,_,_,_,_,_=>none
 | k+1,x3,x4,x102000,x102001,x102002=>if x4<(x102000.length:Int) then (if 0≤x4 then (Q1t.l0 k (wrap64 ((wrap64 (x3+1))+((Q0e x102000 x4).length:Int))) (wrap64 (x4+1)) x102000 x102001 x102002) else (none)) else (Q1t.l1 k x3 0 x102000 x102001 x102002)
def Q1t.l1:Nat→Int→Int→List (List (S27))→List (List Int)→List (List Int)→Option (Bool)
 | 0,_,_,_,_,_=>none
 | k+1,x3,x5,x102000,x102001,x102002=>if x5<(x102001.length:Int) then (if 0≤x5 then (Q1t.l1 k (wrap64 ((wrap64 (x3+1))+((Q06 x102001 x5).length:Int))) (wrap64 (x5+1)) x102000 x102001 x102002) else (none)) else (Q1t.l2 k x3 0 x102000 x102001 x102002)
def Q1t.l2:Nat→Int→Int→List (List (S27))→List (List Int)→List (List Int)→Option (Bool)
 | 0,_,_,_,_,_=>none
 | k+1,x3,x6,x102000,x102001,x102002=>if x6<(x102002.length:Int) then (if 0≤x6 then (Q1t.l2 k (wrap64 ((wrap64 (x3+1))+((Q06 x102002 x6).length:Int))) (wrap64 (x6+1)) x102000 x102001 x102002) else (none)) else (some (decide (x3>80)))
end
def Q1t.f (k:Nat) (bA:List (List (S27))) (cA:List (List Int)) (dA:List (List Int)):Option (Bool):=Q1t.l0 k 0 0 bA cA dA
theorem Q1t.Q1a:∀ k,(∀ y0 y1 y2 y3 y4,LeO (Q1t.l0 k y0 y1 y2 y3 y4) (Q1t.l0 (k+1) y0 y1 y2 y3 y4))∧(∀ y0 y1 y2 y3 y4,LeO (Q1t.l1 k y0 y1 y2 y3 y4) (Q1t.l1 (k+1) y0 y1 y2 y3 y4))∧(∀ y0 y1 y2 y3 y4,LeO (Q1t.l2 k y0 y1 y2 y3 y4) (Q1t.l2 (k+1) y0 y1 y2 y3 y4))
 | 0=>⟨fun _ _ _ _ _ r h=>by simp [Q1t.l0] at h,fun _ _ _ _ _ r h=>by simp [Q1t.l1] at h,fun _ _ _ _ _ r h=>by simp [Q1t.l2] at h⟩
 | k+1=>by
  obtain ⟨xC,yC,zC⟩:=Q1t.Q1a k
  refine ⟨?_,?_,?_⟩
  all_goals
   intros
   first|unfold Q1t.l0|unfold Q1t.l1|unfold Q1t.l2
   repeat' with_reducible first|exact xC _ _ _ _ _|exact yC _ _ _ _ _|exact zC _ _ _ _ _|exact LeO.refl _|exact LeO.none _|refine LeO.ite ?_ ?_|refine LeO.bind ?_ (fun _ => ?_)
theorem Q1t.mono:∀ a0 a1 a2 k,LeO (Q1t.f k a0 a1 a2) (Q1t.f (k+1) a0 a1 a2):=by
 intro a0 a1 a2 k
 obtain ⟨xC,yC,zC⟩:=Q1t.Q1a k
 unfold Q1t.f
 repeat' with_reducible first|exact xC _ _ _ _ _|exact yC _ _ _ _ _|exact zC _ _ _ _ _|exact LeO.refl _|exact LeO.none _|refine LeO.ite ?_ ?_|refine LeO.bind ?_ (fun _ => ?_)
set_option maxHeartbeats 8000000 in
set_option maxRecDepth 100000 in
theorem Q1t.calls (k:Nat) (qA:Option Addr) (rA:Nat) (bA:List (List (S27))) (sA:Option Addr) (tA:Nat) (cA:List (List Int)) (uA:Option Addr) (vA:Nat) (dA:List (List Int)) (r:Bool) (w:World) (gB:Kd.C (Kd.slice 27 k27) w qA bA.length bA) (hB:bA.length≤rA) (iB:Kd.C (Kd.slice 3 (Kd.int .i64)) w sA cA.length cA) (jB:cA.length≤tA) (kB:Kd.C (Kd.slice 3 (Kd.int .i64)) w uA dA.length dA) (lB:dA.length≤vA) (h:Q1t.f k bA cA dA=some r) :
  Calls Try.prog 7 #[.agg #[.slice qA bA.length rA,.slice sA cA.length tA,.slice uA dA.length vA]] w fun e w'=>e=.returned (.bool r)∧Below w.heap.size w w':=by
 have jE:=Try.underlying25
 have zB:=AM gB
 have yD:=AM hB
 clear gB hB
 have aC:=AM iB
 have zD:=AM jB
 clear iB jB
 have bC:=AM kB
 have aE:=AM lB
 clear kB lB
 have HB:=AM (Below.refl w.heap.size w)
 have H:(Q1t.l0 k 0 0 bA cA dA)=some r:=h
 clear h
 have H':=AM H
 clear H
 go_enter Try.func7,Try.ntmps7
 go_wp2_with (first|((with_reducible refine Q0i (N:=1) rfl ?_);refine bE 1 #[.slice qA bA.length rA,.slice sA cA.length tA,.slice uA dA.length vA] 25 ?_;intro wA hg w2 hbox hb;have aA:=AM hbox;have cC:=kG HB hg;replace HB:=kH HB hb;have cE:=cC;clear hb hbox hg))
 go_loopg [3,4] k (fun kq v3 v4 w'=>∃ (xA:Int) (eA:Int),v3=.int .i64 xA∧v4=.int .i64 eA∧Aside0 (Q1t.l0 kq xA eA bA cA dA=some r)∧Aside0 (kq≤k)∧Aside0 (w'.heap[wA]? = some (.cells #[(.slice qA bA.length rA),(.slice sA cA.length tA),(.slice uA dA.length vA)] 25 (0,0)))∧Aside0 (Below w.heap.size w w'))
 case atStart=>exact ⟨(0),(0),rS,rS,H',⟨Nat.le_refl _⟩,⟨bK aA⟩,⟨ bH HB⟩⟩
 case round =>
  clear H'
  obtain ⟨xA,eA,rfl,rfl,HA,yB,aA,HB⟩:=hrel
  cases gk with
  | zero=>exact absurd HA.out (by simp [Q1t.l0])
  | succ k1 =>
   have H:=HA.out;clear HA
   simp only [Q1t.l0] at H
   apply iC H<;>clear H<;>intro aD H
   ·apply iN H;clear H;intro kE H
    ·have H':=AM H
     clear H;obtain ⟨bD,cD,dD,eD,fD,gD⟩:=c3 aA
     have mB:0≤(eA:Int):=pD
     have nB:eA<(bA.length:Int):=pD
     obtain ⟨dE,hD,iD,jD,hA,iA,jA⟩:=Q30 zB.out eA mB nB
     cases jD
     replace hA:=hW HB hA
     have dC:=AM jA
     have eC:=AM iA
     clear jA iA;replace mB:=eq_true mB;replace nB:=eq_true nB
     go_wp2
     go_roundg k1
     case measure=>have:=yB.out;omega
     case rel=>exact ⟨(wrap64 ((wrap64 (xA+1))+((Q0e bA eA).length:Int))),(wrap64 (eA+1)),rS,rS,H',⟨by have:=yB.out;omega⟩,⟨bK aA⟩,⟨ bH HB⟩⟩
   ·have H':=AM H
    clear H;obtain ⟨oB,pB,qB,rB,sB,tB⟩:=c3 aA
    go_wp2
    go_loopg [3,5] k1 (fun kq v3 v5 w'=>∃ (yA:Int) (fA:Int),v3=.int .i64 yA∧v5=.int .i64 fA∧Aside0 (Q1t.l1 kq yA fA bA cA dA=some r)∧Aside0 (kq≤k1)∧Aside0 (w'.heap[wA]? = some (.cells #[(.slice qA bA.length rA),(.slice sA cA.length tA),(.slice uA dA.length vA)] 25 (0,0)))∧Aside0 (Below w.heap.size w w'))
    case atStart=>exact ⟨(xA),(0),rS,rS,H',⟨Nat.le_refl _⟩,⟨bK aA⟩,⟨ bH HB⟩⟩
    case round =>
     clear H'
     clear aD oB pB qB rB sB tB
     obtain ⟨yA,fA,rfl,rfl,HA,fC,aA,HB⟩:=hrel
     cases gk with
     | zero=>exact absurd HA.out (by simp [Q1t.l1])
     | succ k2 =>
      have H:=HA.out;clear HA
      simp only [Q1t.l1] at H
      apply iC H<;>clear H<;>intro kD H
      ·apply iN H;clear H;intro lE H
       ·have H':=AM H
        clear H;obtain ⟨lD,mD,nD,oD,qD,rD⟩:=c3 aA
        have uB:0≤(fA:Int):=pD
        have vB:fA<(cA.length:Int):=pD
        obtain ⟨eE,sD,tD,uD,kA,lA,mA⟩:=Q3c aC.out fA uB vB
        cases uD
        replace kA:=hW HB kA
        have gC:=AM mA
        have hC:=AM lA
        clear mA lA;replace uB:=eq_true uB;replace vB:=eq_true vB
        go_wp2
        go_roundg k2
        case measure=>have:=yB.out;have:=fC.out;omega
        case rel=>exact ⟨(wrap64 ((wrap64 (yA+1))+((Q06 cA fA).length:Int))),(wrap64 (fA+1)),rS,rS,H',⟨by have:=yB.out;have:=fC.out;omega⟩,⟨bK aA⟩,⟨ bH HB⟩⟩
      ·have H':=AM H
       clear H;obtain ⟨zA,aB,bB,cB,dB,eB⟩:=c3 aA
       go_wp2
       go_loopg [3,6] k2 (fun kq v3 v6 w'=>∃ (fB:Int) (gA:Int),v3=.int .i64 fB∧v6=.int .i64 gA∧Aside0 (Q1t.l2 kq fB gA bA cA dA=some r)∧Aside0 (kq≤k2)∧Aside0 (w'.heap[wA]? = some (.cells #[(.slice qA bA.length rA),(.slice sA cA.length tA),(.slice uA dA.length vA)] 25 (0,0)))∧Aside0 (Below w.heap.size w w'))
       case atStart=>exact ⟨(yA),(0),rS,rS,H',⟨Nat.le_refl _⟩,⟨bK aA⟩,⟨ bH HB⟩⟩
       case round =>
        clear H'
        clear kD zA aB bB cB dB eB
        obtain ⟨fB,gA,rfl,rfl,HA,fE,aA,HB⟩:=hrel
        cases gk with
        | zero=>exact absurd HA.out (by simp [Q1t.l2])
        | succ k3 =>
         have H:=HA.out;clear HA
         simp only [Q1t.l2] at H
         apply iC H<;>clear H<;>intro gE H
         ·apply iN H;clear H;intro hE H
          ·have H':=AM H
           clear H;obtain ⟨jC,kC,lC,mC,nC,oC⟩:=c3 aA
           have wB:0≤(gA:Int):=pD
           have xB:gA<(dA.length:Int):=pD
           obtain ⟨iE,vD,wD,xD,nA,oA,pA⟩:=Q3c bC.out gA wB xB
           cases xD
           replace nA:=hW HB nA
           have pC:=AM pA
           have qC:=AM oA
           clear pA oA;replace wB:=eq_true wB;replace xB:=eq_true xB
           go_wp2
           go_roundg k3
           case measure=>have:=yB.out;have:=fC.out;have:=fE.out;omega
           case rel=>exact ⟨(wrap64 ((wrap64 (fB+1))+((Q06 dA gA).length:Int))),(wrap64 (gA+1)),rS,rS,H',⟨by have:=yB.out;have:=fC.out;have:=fE.out;omega⟩,⟨bK aA⟩,⟨ bH HB⟩⟩
         ·obtain rfl:=Option.some.inj H
          obtain ⟨rC,sC,tC,uC,vC,wC⟩:=c3 aA
          go_wp2
          go_ret
          exact ⟨rE,bH HB⟩

def Q1o.l0:Nat→Int→List Int→Int→Option (List Int)
 | 0,_,_,_=>none
 | k+1,x0,x3,x4=>if x4<8 then (if (Int.tmod x0 65536)<0 then (if x3.length<17592186044416 then (Q1o.l0 k (wrap64 (Int.tdiv (wrap64 (x0 - (wrap64 ((Int.tmod x0 65536)+65536)))) 65536)) (x3++[wrap64 ((Int.tmod x0 65536)+65536)]) (wrap64 (x4+1))) else (none)) else (if x3.length<17592186044416 then (Q1o.l0 k (wrap64 (Int.tdiv (wrap64 (x0 - (Int.tmod x0 65536))) 65536)) (x3++[Int.tmod x0 65536]) (wrap64 (x4+1))) else (none))) else (some x3)
def Q1o.f (k:Nat) (a0:Int):Option (List Int):=Q1o.l0 k a0 ([]:List Int) 0
theorem Q1o.Q1a:∀ k,(∀ y0 y1 y2,LeO (Q1o.l0 k y0 y1 y2) (Q1o.l0 (k+1) y0 y1 y2))
 | 0=>fun _ _ _ r h=>by simp [Q1o.l0] at h
 | k+1=>by
  have sA:=Q1o.Q1a k
  ·intro y0 y1 y2
   unfold Q1o.l0
   repeat' with_reducible first|exact sA _ _ _|exact LeO.refl _|exact LeO.none _|refine LeO.ite ?_ ?_|refine LeO.bind ?_ (fun _ => ?_)
theorem Q1o.mono:∀ a0 k,LeO (Q1o.f k a0) (Q1o.f (k+1) a0):=by
 intro a0 k
 have sA:=Q1o.Q1a k
 unfold Q1o.f
 repeat' with_reducible first|exact sA _ _ _|exact LeO.refl _|exact LeO.none _|refine LeO.ite ?_ ?_|refine LeO.bind ?_ (fun _ => ?_)
set_option maxHeartbeats 8000000 in
set_option maxRecDepth 100000 in
theorem Q1o.calls (k:Nat) (a0:Int) (r:List Int) (w:World) (h:Q1o.f k a0=some r) :
  Calls Try.prog 18 #[.int .i64 a0] w fun e w'=>∃ v0_:Value,e=.returned (.agg #[v0_])∧Kd.R (Kd.int .i64) 3 w' w.heap.size (fun _=>True) v0_ r∧Below w.heap.size w w':=by
 have yA:=Try.underlying43
 have HB:=AM (Below.refl w.heap.size w)
 have H:(Q1o.l0 k a0 ([]:List Int) 0)=some r:=h
 clear h
 have H':=AM H
 clear H
 go_enter Try.func18,Try.ntmps18
 go_wp2_with (first|((with_reducible refine Q0i (N:=2) rfl ?_);refine bE 2 #[.slice none 0 0] 43 ?_;intro dA hg w2 hbox hb;have aA:=AM hbox;have iA:=kG HB hg;replace HB:=kH HB hb;have vA:=iA;clear hb hbox hg))
 go_loopg [0,3,4] k (fun kq v0 v3 v4 w'=>∃ (bA:Int) (cA:List Int) (gA:Int),v0=.int .i64 bA∧v4=.int .i64 gA∧Aside0 (Q1o.l0 kq bA cA gA=some r)∧Aside0 (kq≤k)∧Aside0 (Kd.R (Kd.int .i64) 3 w' w.heap.size (fun _=>True) v3 cA)∧Aside0 (w'.heap[dA]? = some (.cells #[(.slice none 0 0)] 43 (0,0)))∧Aside0 (Below w.heap.size w w'))
 case atStart=>exact ⟨(a0),(([]:List Int)),(0),rS,rS,H',⟨Nat.le_refl _⟩,⟨by first|exact Kd.Q3k _ _ _ _ _|exact Kd.Q3t _ _ _ _ _|exact Kd.Q3x _ _ _ _ _|exact Kd.Q3v _ _ _ _ _|exact Kd.Q3y _ _ _ _ _⟩,⟨bK aA⟩,⟨ bH HB⟩⟩
 case round =>
  clear H'
  obtain ⟨bA,cA,gA,rfl,rfl,HA,pA,HO_3,aA,HB⟩:=hrel
  cases gk with
  | zero=>exact absurd HA.out (by simp [Q1o.l0])
  | succ k1 =>
   have H:=HA.out;clear HA
   simp only [Q1o.l0] at H
   apply iC H<;>clear H<;>intro zA H
   ·apply iC H<;>clear H<;>intro bB H
    ·by_cases c5:cA.length<17592186044416
     ·rw [if_pos c5] at H
      have tA:=AM c5
      clear c5
      obtain ⟨jA,eA⟩:∃ y_:List Int,y_=(cA++[wrap64 ((Int.tmod bA 65536)+65536)]):=⟨_,rfl⟩
      replace H:(Q1o.l0 k1 (wrap64 (Int.tdiv (wrap64 (bA - (wrap64 ((Int.tmod bA 65536)+65536)))) 65536)) jA (wrap64 (gA+1)))=some r:=by first|(rw [eA];with_reducible exact H)|(have hA:=(Option.bind_some _ _).symm.trans H;rw [eA];with_reducible exact hA)|(have hA:=(Option.bind_some _ _).symm.trans H;with_reducible exact hA)|with_reducible exact H|(rw [eA];exact H)|exact H
      have kA:=AM eA
      clear eA
      have H':=AM H
      clear H
      go_wp2_with (first|((with_reducible refine Q1v (b:=.append) (xs:=#[.tmp 16,.tmp 18]) rfl ?_);at_builtin;refine Kd.Q3j (Kd.int .i64) (w0:=w) w.heap.size rfl (.tmp 16) (.tmp 18) 32 3 (.int .i64 0) 8 rfl Try.underlying32 info3 rfl (by decide) (by omega) u3 cA (wrap64 ((Int.tmod bA 65536)+65536)) [.int .i64 (wrap64 ((Int.tmod bA 65536)+65536))] (fun _=>True) (fun _=>False) rfl rfl ?aP (fun _ hk=>hk.elim) ?aF ?aO ?aB ?aS ?aL ?_;(case aP=>exact rfl);(case aB=>exact (bH HB));(case aF=>exact (fun _ _=>trivial));(case aO=>exact (rK HO_3));(case aS=>exact (Q0h (bH HB)));(case aL=>have:=tA.out;omega);intro cB w6 ho hb hg hat;rw [← kA.out] at ho;replace aA:=AM (Q1w (g:=dA) (o:=.cells #[.slice none 0 0] 43 (0,0)) (bK aA) hg (Kd.R_ne HO_3.out aA.out (by decide)));replace HB:=AM hb;have lA:=AM ho;clear HO_3;clear ho hb hg hat))
      go_roundg k1
      case measure=>have:=pA.out;omega
      case rel=>exact ⟨(wrap64 (Int.tdiv (wrap64 (bA - (wrap64 ((Int.tmod bA 65536)+65536)))) 65536)),(jA),(wrap64 (gA+1)),rS,rS,H',⟨by have:=pA.out;omega⟩,⟨rK lA⟩,⟨bK aA⟩,⟨ bH HB⟩⟩
     ·rw [if_neg c5] at H
      exact absurd H (by simp)
    ·by_cases c7:cA.length<17592186044416
     ·rw [if_pos c7] at H
      have uA:=AM c7
      clear c7
      obtain ⟨mA,fA⟩:∃ y_:List Int,y_=(cA++[Int.tmod bA 65536]):=⟨_,rfl⟩
      replace H:(Q1o.l0 k1 (wrap64 (Int.tdiv (wrap64 (bA - (Int.tmod bA 65536))) 65536)) mA (wrap64 (gA+1)))=some r:=by first|(rw [fA];with_reducible exact H)|(have hA:=(Option.bind_some _ _).symm.trans H;rw [fA];with_reducible exact hA)|(have hA:=(Option.bind_some _ _).symm.trans H;with_reducible exact hA)|with_reducible exact H|(rw [fA];exact H)|exact H
      have nA:=AM fA
      clear fA
      have H':=AM H
      clear H
      go_wp2_with (first|((with_reducible refine Q1v (b:=.append) (xs:=#[.tmp 16,.tmp 18]) rfl ?_);at_builtin;refine Kd.Q3j (Kd.int .i64) (w0:=w) w.heap.size rfl (.tmp 16) (.tmp 18) 32 3 (.int .i64 0) 8 rfl Try.underlying32 info3 rfl (by decide) (by omega) u3 cA (Int.tmod bA 65536) [.int .i64 (Int.tmod bA 65536)] (fun _=>True) (fun _=>False) rfl rfl ?aP (fun _ hk=>hk.elim) ?aF ?aO ?aB ?aS ?aL ?_;(case aP=>exact rfl);(case aB=>exact (bH HB));(case aF=>exact (fun _ _=>trivial));(case aO=>exact (rK HO_3));(case aS=>exact (Q0h (bH HB)));(case aL=>have:=uA.out;omega);intro dB w8 ho hb hg hat;rw [← nA.out] at ho;replace aA:=AM (Q1w (g:=dA) (o:=.cells #[.slice none 0 0] 43 (0,0)) (bK aA) hg (Kd.R_ne HO_3.out aA.out (by decide)));replace HB:=AM hb;have oA:=AM ho;clear HO_3;clear ho hb hg hat))
      go_roundg k1
      case measure=>have:=pA.out;omega
      case rel=>exact ⟨(wrap64 (Int.tdiv (wrap64 (bA - (Int.tmod bA 65536))) 65536)),(mA),(wrap64 (gA+1)),rS,rS,H',⟨by have:=pA.out;omega⟩,⟨rK oA⟩,⟨bK aA⟩,⟨ bH HB⟩⟩
     ·rw [if_neg c7] at H
      exact absurd H (by simp)
   ·obtain rfl:=Option.some.inj H
    obtain ⟨wA,xA,eB⟩:=Kd.Q01 HO_3.out
    subst eB
    obtain ⟨qA,rA⟩:=c1 aA
    go_wp2
    refine bodyPost_ret (results_cell_row rfl _ _ dA 43 #[.slice wA cA.length xA] (0,0) _ rfl (by (with_reducible repeat (first|refine Q0c ?_ _|refine Q0d ?_|refine Q0b ?_ _));refine Q0u (cs:=#[.slice none 0 0]) ?_ 0 _ rfl;(with_reducible repeat (first|refine Q0c ?_ _|refine Q0d ?_|refine Q0b ?_ _));exact aA.out) Try.underlying43 rfl (by kernel_rfl)) rfl ?_
    exact ⟨_,rE,by (with_reducible repeat (first|apply Kd.Q10|apply Kd.Q11|apply Kd.Q2h));exact Kd.Q1q (Kd.Q3p (p:=⟨dA,0,none⟩) (Kd.Q2y HO_3.out aA.out (by decide)) (fun _ hk=>hk.2) (.slice wA cA.length xA)) (fun _ hk=>trivial),bH HB⟩

def Q09.l0:Nat→List Int→List Int→Int→Int→Option (List Int)
 | 0,_,_,_,_=>none
 | k+1,x0,x3,x4,x5=>if x5<8 then (if 0≤x5 then (if x5<(x0.length:Int) then (if x3.length<17592186044416 then (Q09.l0 k x0 (x3++[Int.tmod (wrap64 (x4+(rd x0 x5))) 65536]) (wrap64 (Int.tdiv (wrap64 (x4+(rd x0 x5))) 65536)) (wrap64 (x5+1))) else (none)) else (none)) else (none)) else (some x3)
def Q09.f (k:Nat) (l0:List Int):Option (List Int):=Q09.l0 k l0 ([]:List Int) 0 0
theorem Q09.Q1a:∀ k,(∀ y0 y1 y2 y3,LeO (Q09.l0 k y0 y1 y2 y3) (Q09.l0 (k+1) y0 y1 y2 y3))
 | 0=>fun _ _ _ _ r h=>by simp [Q09.l0] at h
 | k+1=>by
  have nA:=Q09.Q1a k
  ·intro y0 y1 y2 y3
   unfold Q09.l0
   repeat' with_reducible first|exact nA _ _ _ _|exact LeO.refl _|exact LeO.none _|refine LeO.ite ?_ ?_|refine LeO.bind ?_ (fun _ => ?_)
theorem Q09.mono:∀ a0 k,LeO (Q09.f k a0) (Q09.f (k+1) a0):=by
 intro a0 k
 have nA:=Q09.Q1a k
 unfold Q09.f
 repeat' with_reducible first|exact nA _ _ _ _|exact LeO.refl _|exact LeO.none _|refine LeO.ite ?_ ?_|refine LeO.bind ?_ (fun _ => ?_)
set_option maxHeartbeats 8000000 in
set_option maxRecDepth 100000 in
theorem Q09.calls (k:Nat) (A0:Option Addr) (c0:Nat) (l0:List Int) (r:List Int) (w:World) (tA:Kd.C (Kd.int .i64) w A0 l0.length l0) (uA:l0.length≤c0) (h:Q09.f k l0=some r) :
  Calls Try.prog 47 #[.slice A0 l0.length c0] w fun e w'=>∃ v0_:Value,e=.returned (.agg #[v0_])∧Kd.R (Kd.int .i64) 3 w' w.heap.size (fun _=>True) v0_ r∧Below w.heap.size w w':=by
 have bB:=Try.underlying43
 have cB:=AM tA
 have iB:=AM uA
 clear tA uA
 have HB:=AM (Below.refl w.heap.size w)
 have H:(Q09.l0 k l0 ([]:List Int) 0 0)=some r:=h
 clear h
 have H':=AM H
 clear H
 go_enter Try.func47,Try.ntmps47
 go_wp2_with (first|((with_reducible refine Q0i (N:=2) rfl ?_);refine bE 2 #[.slice none 0 0] 43 ?_;intro fA hg w2 hbox hb;have aA:=AM hbox;have jA:=kG HB hg;replace HB:=kH HB hb;have vA:=jA;clear hb hbox hg))
 go_loopg [3,4,5] k (fun kq v3 v4 v5 w'=>∃ (cA:List Int) (dA:Int) (bA:Int),v4=.int .i64 dA∧v5=.int .i64 bA∧Aside0 (Q09.l0 kq l0 cA dA bA=some r)∧Aside0 (kq≤k)∧Aside0 (Kd.R (Kd.int .i64) 3 w' w.heap.size (fun _=>True) v3 cA)∧Aside0 (w'.heap[fA]? = some (.cells #[(.slice none 0 0)] 43 (0,0)))∧Aside0 (Below w.heap.size w w'))
 case atStart=>exact ⟨(([]:List Int)),(0),(0),rS,rS,H',⟨Nat.le_refl _⟩,⟨by first|exact Kd.Q3k _ _ _ _ _|exact Kd.Q3t _ _ _ _ _|exact Kd.Q3x _ _ _ _ _|exact Kd.Q3v _ _ _ _ _|exact Kd.Q3y _ _ _ _ _⟩,⟨bK aA⟩,⟨ bH HB⟩⟩
 case round =>
  clear H'
  obtain ⟨cA,dA,bA,rfl,rfl,HA,wA,HO_3,aA,HB⟩:=hrel
  cases gk with
  | zero=>exact absurd HA.out (by simp [Q09.l0])
  | succ k1 =>
   have H:=HA.out;clear HA
   simp only [Q09.l0] at H
   apply iC H<;>clear H<;>intro dB H
   ·apply iN H;clear H;intro eB H
    ·apply iN H;clear H;intro fB H
     ·by_cases c6:cA.length<17592186044416
      ·rw [if_pos c6] at H
       have oA:=AM c6
       clear c6
       obtain ⟨kA,eA⟩:∃ y_:List Int,y_=(cA++[Int.tmod (wrap64 (dA+(rd l0 bA))) 65536]):=⟨_,rfl⟩
       replace H:(Q09.l0 k1 l0 kA (wrap64 (Int.tdiv (wrap64 (dA+(rd l0 bA))) 65536)) (wrap64 (bA+1)))=some r:=by first|(rw [eA];with_reducible exact H)|(have pA:=(Option.bind_some _ _).symm.trans H;rw [eA];with_reducible exact pA)|(have pA:=(Option.bind_some _ _).symm.trans H;with_reducible exact pA)|with_reducible exact H|(rw [eA];exact H)|exact H
       have lA:=AM eA
       clear eA
       have H':=AM H
       clear H
       have hA:0≤(bA:Int):=pD
       have iA:bA<(l0.length:Int):=pD
       obtain ⟨xA,qA,gA⟩:=Kd.Q2n cB.out bA hA iA
       cases qA
       replace gA:=hW HB gA;replace hA:=eq_true hA;replace iA:=eq_true iA
       go_wp2_with (first|((with_reducible refine Q1v (b:=.append) (xs:=#[.tmp 16,.tmp 19]) rfl ?_);at_builtin;refine Kd.Q3j (Kd.int .i64) (w0:=w) w.heap.size rfl (.tmp 16) (.tmp 19) 32 3 (.int .i64 0) 8 rfl Try.underlying32 info3 rfl (by decide) (by omega) u3 cA (Int.tmod (wrap64 (dA+(rd l0 bA))) 65536) [.int .i64 (Int.tmod (wrap64 (dA+(rd l0 bA))) 65536)] (fun _=>True) (fun _=>False) rfl rfl ?aP (fun _ hk=>hk.elim) ?aF ?aO ?aB ?aS ?aL ?_;(case aP=>exact rfl);(case aB=>exact (bH HB));(case aF=>exact (fun _ _=>trivial));(case aO=>exact (rK HO_3));(case aS=>exact (Q0h (bH HB)));(case aL=>have:=oA.out;omega);intro gB w7 ho hb hg hat;rw [← lA.out] at ho;replace aA:=AM (Q1w (g:=fA) (o:=.cells #[.slice none 0 0] 43 (0,0)) (bK aA) hg (Kd.R_ne HO_3.out aA.out (by decide)));replace HB:=AM hb;have mA:=AM ho;clear HO_3;clear ho hb hg hat))
       go_roundg k1
       case measure=>have:=wA.out;omega
       case rel=>exact ⟨(kA),(wrap64 (Int.tdiv (wrap64 (dA+(rd l0 bA))) 65536)),(wrap64 (bA+1)),rS,rS,H',⟨by have:=wA.out;omega⟩,⟨rK mA⟩,⟨bK aA⟩,⟨ bH HB⟩⟩
      ·rw [if_neg c6] at H
       exact absurd H (by simp)
   ·obtain rfl:=Option.some.inj H
    obtain ⟨yA,zA,hB⟩:=Kd.Q01 HO_3.out
    subst hB
    obtain ⟨rA,sA⟩:=c1 aA
    go_wp2
    refine bodyPost_ret (results_cell_row rfl _ _ fA 43 #[.slice yA cA.length zA] (0,0) _ rfl (by (with_reducible repeat (first|refine Q0c ?_ _|refine Q0d ?_|refine Q0b ?_ _));refine Q0u (cs:=#[.slice none 0 0]) ?_ 0 _ rfl;(with_reducible repeat (first|refine Q0c ?_ _|refine Q0d ?_|refine Q0b ?_ _));exact aA.out) Try.underlying43 rfl (by kernel_rfl)) rfl ?_
    exact ⟨_,rE,by (with_reducible repeat (first|apply Kd.Q10|apply Kd.Q11|apply Kd.Q2h));exact Kd.Q1q (Kd.Q3p (p:=⟨fA,0,none⟩) (Kd.Q2y HO_3.out aA.out (by decide)) (fun _ hk=>hk.2) (.slice yA cA.length zA)) (fun _ hk=>trivial),bH HB⟩

def Q1h.l0:Nat→List Int→Int→List Int→List Int→Option (List Int)
 | 0,_,_,_,_=>none
 | k+1,x5,x6,x165000,x166000=>if x6<8 then (if 0≤x6 then (if x6<(x165000.length:Int) then (if x6<(x166000.length:Int) then (if x5.length<17592186044416 then (Q1h.l0 k (x5++[wrap64 ((rd x165000 x6)+(rd x166000 x6))]) (wrap64 (x6+1)) x165000 x166000) else (none)) else (none)) else (none)) else (none)) else ((Q09.f k x5).bind fun tA=>(some tA))
def Q1h.f (k:Nat) (eA:List Int) (fA:List Int):Option (List Int):=Q1h.l0 k ([]:List Int) 0 eA fA
theorem Q1h.Q1a:∀ k,(∀ y0 y1 y2 y3,LeO (Q1h.l0 k y0 y1 y2 y3) (Q1h.l0 (k+1) y0 y1 y2 y3))
 | 0=>fun _ _ _ _ r h=>by simp [Q1h.l0] at h
 | k+1=>by
  have dC:=Q1h.Q1a k
  ·intro y0 y1 y2 y3
   unfold Q1h.l0
   repeat' with_reducible first|exact dC _ _ _ _|exact Q09.mono _ _|exact LeO.refl _|exact LeO.none _|refine LeO.ite ?_ ?_|refine LeO.bind ?_ (fun _ => ?_)
theorem Q1h.mono:∀ a0 a1 k,LeO (Q1h.f k a0 a1) (Q1h.f (k+1) a0 a1):=by
 intro a0 a1 k
 have dC:=Q1h.Q1a k
 unfold Q1h.f
 repeat' with_reducible first|exact dC _ _ _ _|exact Q09.mono _ _|exact LeO.refl _|exact LeO.none _|refine LeO.ite ?_ ?_|refine LeO.bind ?_ (fun _ => ?_)
def Q1h.T5:Bool×List (List Nat×List Nat):=(true,[([],[]),([],[]),([1],[1]),([],[]),([2,3],[2,3]),([4],[4]),([],[]),([6],[6]),([],[]),([7,8],[7,8]),([9],[9]),([5,10],[5,10]),([11],[11]),([0,12],[0,12]),([13,13,0,1,2,3,4,5,6,7,8,9,10,11,12,13],[0,13])])
def Q1h.B5:List Nat:=[0,0,2,0,14,30,0,64,0,448,960,2046,4094,8191,16383]
theorem Q1h.tab5:rtab .any (opsOf Try.f19 5)=Q1h.T5:=by kernel_rfl
theorem Q1h.bits5:waitsOk Q1h.T5.2 Q1h.B5=true:=by kernel_rfl
set_option maxHeartbeats 8000000 in
set_option maxRecDepth 100000 in
theorem Q1h.calls (k:Nat) (yA:Option Addr) (nA:Nat) (eA:List Int) (zA:Option Addr) (oA:Nat) (fA:List Int) (r:List Int) (w:World) (bB:Kd.C (Kd.int .i64) w yA eA.length eA) (cB:eA.length≤nA) (eB:Kd.C (Kd.int .i64) w zA fA.length fA) (fB:fA.length≤oA) (h:Q1h.f k eA fA=some r) :
  Calls Try.prog 19 #[.agg #[.slice yA eA.length nA],.agg #[.slice zA fA.length oA]] w fun e w'=>∃ v0_:Value,e=.returned (.agg #[v0_])∧Kd.R (Kd.int .i64) 3 w' w.heap.size (fun _=>True) v0_ r∧Below w.heap.size w w':=by
 have xC:=Try.underlying43
 have oB:=AM bB
 have nC:=AM cB
 clear bB cB
 have pB:=AM eB
 have oC:=AM fB
 clear eB fB
 have HB:=AM (Below.refl w.heap.size w)
 have H:(Q1h.l0 k ([]:List Int) 0 eA fA)=some r:=h
 clear h
 have H':=AM H
 clear H
 go_enter Try.func19,Try.ntmps19
 go_wp2_with (first|((with_reducible refine Q0i (N:=2) rfl ?_);refine bE 2 #[.slice yA eA.length nA] 43 ?_;intro uA hg w3 hbox hb;have aA:=AM hbox;have qB:=kG HB hg;replace HB:=kH HB hb;have pC:=qB;clear hb hbox hg)|((with_reducible refine Q0i (N:=3) rfl ?_);refine bE 3 #[.slice zA fA.length oA] 43 ?_;intro vA hg w4 hbox hb;have bA:=AM hbox;have rB:=kG HB hg;replace HB:=kH HB hb;have qC:=rB;have mB:=kN aA hg;have nB:=kM aA hg;replace aA:=kB aA hb;clear hb hbox hg)|((with_reducible refine Q0i (N:=4) rfl ?_);refine bE 4 #[.slice none 0 0] 43 ?_;intro mA hg w5 hbox hb;have cA:=AM hbox;have sB:=kG HB hg;replace HB:=kH HB hb;have rC:=sB;have pA:=kN aA hg;have qA:=kM aA hg;replace aA:=kB aA hb;have rA:=kN bA hg;have sA:=kM bA hg;replace bA:=kB bA hb;clear hb hbox hg))
 go_loopg [5,6] k (fun kq v5 v6 w'=>∃ (kA:List Int) (dA:Int),v6=.int .i64 dA∧Aside0 (Q1h.l0 kq kA dA eA fA=some r)∧Aside0 (kq≤k)∧Aside0 (Kd.R (Kd.int .i64) 3 w' w.heap.size (fun _=>True) v5 kA)∧Aside0 (w'.heap[uA]? = some (.cells #[(.slice yA eA.length nA)] 43 (0,0)))∧Aside0 (w'.heap[vA]? = some (.cells #[(.slice zA fA.length oA)] 43 (0,0)))∧Aside0 (w'.heap[mA]? = some (.cells #[(.slice none 0 0)] 43 (0,0)))∧Aside0 (Below w.heap.size w w'))
 case atStart=>exact ⟨(([]:List Int)),(0),rS,H',⟨Nat.le_refl _⟩,⟨by first|exact Kd.Q3k _ _ _ _ _|exact Kd.Q3t _ _ _ _ _|exact Kd.Q3x _ _ _ _ _|exact Kd.Q3v _ _ _ _ _|exact Kd.Q3y _ _ _ _ _⟩,⟨bK aA⟩,⟨bK bA⟩,⟨bK cA⟩,⟨ bH HB⟩⟩
 case round =>
  clear H'
  obtain ⟨kA,dA,rfl,HA,sC,HO_5,aA,bA,cA,HB⟩:=hrel
  cases gk with
  | zero=>exact absurd HA.out (by simp [Q1h.l0])
  | succ k1 =>
   have H:=HA.out;clear HA
   simp only [Q1h.l0] at H
   apply iC H<;>clear H<;>intro yC H
   ·apply iN H;clear H;intro zC H
    ·apply iN H;clear H;intro aD H
     ·apply iN H;clear H;intro bD H
      ·by_cases zB:kA.length<17592186044416
       ·rw [if_pos zB] at H
        have tB:=AM zB
        clear zB
        obtain ⟨uB,lA⟩:∃ y_:List Int,y_=(kA++[wrap64 ((rd eA dA)+(rd fA dA))]):=⟨_,rfl⟩
        replace H:(Q1h.l0 k1 uB (wrap64 (dA+1)) eA fA)=some r:=by first|(rw [lA];with_reducible exact H)|(have eC:=(Option.bind_some _ _).symm.trans H;rw [lA];with_reducible exact eC)|(have eC:=(Option.bind_some _ _).symm.trans H;with_reducible exact eC)|with_reducible exact H|(rw [lA];exact H)|exact H
        have vB:=AM lA
        clear lA
        have H':=AM H
        clear H
        try go_wp2
        replace HO_5:=dR HO_5;replace aA:=dB aA;replace bA:=dB bA;replace cA:=dB cA;replace HB:=dH HB
        have hB:0≤(dA:Int):=pD
        have iB:dA<(eA.length:Int):=pD
        obtain ⟨wA,fC,gA⟩:=Kd.Q2n oB.out dA hB iB
        have hA:=gA
        cases fC
        replace gA:=hW HB gA;replace hB:=eq_true hB;replace iB:=eq_true iB
        have jB:0≤(dA:Int):=pD
        have lB:dA<(fA.length:Int):=pD
        obtain ⟨xA,gC,iA⟩:=Kd.Q2n pB.out dA jB lB
        have jA:=iA
        cases gC
        replace iA:=hW HB iA;replace jB:=eq_true jB;replace lB:=eq_true lB
        refine sP 15 (S:=fun w'=>w'.cell? ⟨uA,0,none⟩=some (.slice (some wA) eA.length nA)∧w'.cell? ⟨vA,0,none⟩=some (.slice (some xA) fA.length oA)∧w'.cell? (wA.add (dA).toNat)=some (.int .i64 (rd eA dA))∧w'.cell? (xA.add (dA).toNat)=some (.int .i64 (rd fA dA))) (ds:=[]) ⟨bC aA,bC bA,(hW HB hA :),(hW HB jA :)⟩ fun hHeld => ?_;refine Q1m Q1h.tab5 Q1h.bits5 (fun HT_ HW_ => ?_)
        generalize wr.drew=w11 at HO_5 aA bA cA HB gA iA hHeld ⊢
        refine pQ 0 (some 11) HT_ ?_;refine pQ 1 (some 12) HT_ ?_;refine pQ 3 (some 14) HT_ ?_;refine pQ 6 (some 17) HT_ ?_;refine pQ 8 (some 19) HT_ ?_;refine tQ 2 (some 13) HT_ HW_ hHeld ?_;refine pQ 4 (some 15) HT_ ?_;refine tQ 5 (some 16) HT_ HW_ hHeld ?_;refine tQ 7 (some 18) HT_ HW_ hHeld ?_;refine pQ 9 (some 20) HT_ ?_;refine tQ 10 (some 21) HT_ HW_ hHeld ?_;refine pQ 11 (some 22) HT_ ?_
        refine oQ 12 (some 23) HT_ rfl fun K hK => ?_
        refine value_ (w1 := ?_) (v := ?_) (by rfl) rfl ?_ ?_
        rotate_left 2
        ·go_simp
         constructor
         ·rfl
         ·rfl
        refine hK.out _ _ ⟨(Q0v (Q0b aA.out _) 0).trans rfl,(Q0v (Q0b bA.out _) 0).trans rfl,(World.cell?_alloc_lt _ _ _ (World.block_lt_of_cell? _ _ ((hW HB hA :)))).trans ((hW HB hA :)),(World.cell?_alloc_lt _ _ _ (World.block_lt_of_cell? _ _ ((hW HB jA :)))).trans ((hW HB jA :))⟩ (fun hHeld => ?_)
        clear hK K;refine nP (some 23) ?_
        refine oQ 13 (some 24) HT_ rfl fun K hK => ?_
        refine Kd.Q5y (Kd.int .i64) (w0:=w) w.heap.size (by rfl) (.tmp 11) (.tmp 23) 32 3 (.int .i64 0) 8 rfl Try.underlying32 info3 rfl (by decide) (by omega) u5 kA (wrap64 ((rd eA dA)+(rd fA dA))) [.int .i64 (wrap64 ((rd eA dA)+(rd fA dA)))] (fun _=>True) (fun _=>False) rfl rfl ?aP (fun _ hk=>hk.elim) ?aF ?aO ?aB ?aS ?aL ?_
        (case aP=>exact rfl)
        (case aB=>exact (bH HB))
        (case aF=>exact (fun _ _=>trivial))
        (case aO=>exact (rK HO_5))
        (case aS=>exact (Q0h (bH HB)))
        (case aL=>have:=tB.out;omega)
        intro cD fD ho hb hg hat
        rw [← vB.out] at ho
        replace aA:=AM (Q1w (g:=uA) (o:=.cells #[.slice (some wA) eA.length nA] 43 (0,0)) (bK aA) hg (Kd.R_ne HO_5.out aA.out (by decide)))
        replace bA:=AM (Q1w (g:=vA) (o:=.cells #[.slice (some xA) fA.length oA] 43 (0,0)) (bK bA) hg (Kd.R_ne HO_5.out bA.out (by decide)))
        replace cA:=AM (Q1w (g:=mA) (o:=.cells #[.slice none 0 0] 43 (0,0)) (bK cA) hg (Kd.R_ne HO_5.out cA.out (by decide)))
        replace HB:=AM hb;have wB:=AM ho;clear HO_5;clear ho hb hg hat
        refine hK.out _ _ ⟨bC aA,bC bA,(hW HB hA :),(hW HB jA :)⟩ (fun hHeld => ?_)
        clear hK K;refine nP (some 24) ?_;refine pQ 14 (some 5) HT_ ?_
        refine done_ (Q2d HT_.out (by kernel_rfl)) ?_
        try go_wp2
        go_roundg k1
        case measure=>have:=sC.out;omega
        case rel=>exact ⟨(uB),(wrap64 (dA+1)),rS,H',⟨by have:=sC.out;omega⟩,⟨rK wB⟩,⟨bK aA⟩,⟨bK bA⟩,⟨bK cA⟩,⟨ bH HB⟩⟩
       ·rw [if_neg zB] at H
        exact absurd H (by simp)
   ·obtain ⟨tA,dD,H⟩:=bS H
    obtain rfl:=Option.some.inj H
    obtain ⟨hC,jC,kC⟩:=Kd.Q01 HO_5.out
    subst kC
    go_wp2_with (first|((with_reducible refine Q0n (f:=47) rfl ?_);refine gL (some 26) Try.func47 #[.slice hC kA.length jC] ?_;(with_reducible refine (Q09.calls k1 _ _ kA tA _ ?side1 ?side2 dD.out).mono ?_);(case side1=>exact sR HO_5);(case side2=>exact (Kd.Q0w HO_5.out).2.1);rintro e gD ⟨eD,rfl,lC,hb⟩;refine ⟨_,rfl,?_⟩;have gB:=AM (Kd.Q1b (Kd.Q2z lC (Kd.R_lt (rK HO_5))) (Q0h (bH HB)));replace HO_5:=AM (Kd.Q16 (rK HO_5) (Kd.Q2l lC) hb);replace aA:=kB aA hb;replace bA:=kB bA hb;replace cA:=kB cA hb;replace HB:=kH HB hb;clear hb lC;obtain ⟨xB,yB,mC⟩:=Kd.Q01 gB.out;subst mC;have tC:=qA.out;have uC:=pA.out;have vC:=sA.out;have wC:=rA.out;obtain ⟨aC,cC⟩:=c1 cA))
    refine bodyPost_ret (results_cell_row rfl _ _ mA 43 #[.slice xB tA.length yB] (0,0) _ rfl (by (with_reducible repeat (first|refine Q0c ?_ _|refine Q0d ?_|refine Q0b ?_ _));refine Q0u (cs:=#[.slice none 0 0]) ?_ 0 _ rfl;(with_reducible repeat (first|refine Q0c ?_ _|refine Q0d ?_|refine Q0b ?_ _));exact cA.out) Try.underlying43 rfl (by kernel_rfl)) rfl ?_
    exact ⟨_,rE,by (with_reducible repeat (first|apply Kd.Q10|apply Kd.Q11|apply Kd.Q2h));exact Kd.Q1q (Kd.Q3p (p:=⟨mA,0,none⟩) (Kd.Q2y gB.out cA.out (by decide)) (fun _ hk=>hk.2) (.slice xB tA.length yB)) (fun _ hk=>trivial),bH HB⟩

def Q0s.l0:Nat→List (S27)→Int→Option (Bool)
 | 0,_,_=>none
 | k+1,x0,x3=>if x3<(x0.length:Int) then (if 0≤x3 then (if ((Q0a x0 x3).f0)<(-2147483648) then (some false) else (if ((Q0a x0 x3).f0)>2147483647 then (some false) else (if ((Q0a x0 x3).f1)<(-2147483648) then (some false) else (if ((Q0a x0 x3).f1)>2147483647 then (some false) else (if ((Q0a x0 x3).f2)=0 then (Q0s.l0 k x0 (wrap64 (x3+1))) else (some false)))))) else (none)) else (some true)
def Q0s.f (k:Nat) (l0:List (S27)):Option (Bool):=Q0s.l0 k l0 0
theorem Q0s.Q1a:∀ k,(∀ y0 y1,LeO (Q0s.l0 k y0 y1) (Q0s.l0 (k+1) y0 y1))
 | 0=>fun _ _ r h=>by simp [Q0s.l0] at h
 | k+1=>by
  have jB:=Q0s.Q1a k
  ·intro y0 y1
   unfold Q0s.l0
   repeat' with_reducible first|exact jB _ _|exact LeO.refl _|exact LeO.none _|refine LeO.ite ?_ ?_|refine LeO.bind ?_ (fun _ => ?_)
theorem Q0s.mono:∀ a0 k,LeO (Q0s.f k a0) (Q0s.f (k+1) a0):=by
 intro a0 k
 have jB:=Q0s.Q1a k
 unfold Q0s.f
 repeat' with_reducible first|exact jB _ _|exact LeO.refl _|exact LeO.none _|refine LeO.ite ?_ ?_|refine LeO.bind ?_ (fun _ => ?_)
set_option maxHeartbeats 8000000 in
set_option maxRecDepth 100000 in
theorem Q0s.calls (k:Nat) (A0:Option Addr) (c0:Nat) (l0:List (S27)) (r:Bool) (w:World) (wB:Kd.C k27 w A0 l0.length l0) (xB:l0.length≤c0) (h:Q0s.f k l0=some r) :
  Calls Try.prog 22 #[.slice A0 l0.length c0] w fun e w'=>e=.returned (.bool r)∧Below w.heap.size w w':=by
 have bC:=Try.underlying27
 have oA:=AM wB
 have gC:=AM xB
 clear wB xB
 have HB:=AM (Below.refl w.heap.size w)
 have H:(Q0s.l0 k l0 0)=some r:=h
 clear h
 have H':=AM H
 clear H
 go_enter Try.func22,Try.ntmps22
 go_wp2
 go_loopg [3] k (fun kq v3 w'=>∃ (dA:Int),v3=.int .i64 dA∧Aside0 (Q0s.l0 kq l0 dA=some r)∧Aside0 (kq≤k)∧Aside0 (Below w.heap.size w w'))
 case atStart=>exact ⟨(0),rS,H',⟨Nat.le_refl _⟩,⟨ bH HB⟩⟩
 case round =>
  clear H'
  obtain ⟨dA,rfl,HA,yB,HB⟩:=hrel
  cases gk with
  | zero=>exact absurd HA.out (by simp [Q0s.l0])
  | succ k1 =>
   have H:=HA.out;clear HA
   simp only [Q0s.l0] at H
   apply iC H<;>clear H<;>intro cC H
   ·apply iN H;clear H;intro dC H
    ·apply iC H<;>clear H<;>intro eC H
     ·obtain rfl:=Option.some.inj H
      have eA:0≤(dA:Int):=pD
      have fA:dA<(l0.length:Int):=pD
      obtain ⟨kA,iA,aA,bA,cA⟩:=Q2i oA.out dA eA fA
      cases iA
      replace aA:=hW HB aA;replace bA:=hW HB bA;replace cA:=hW HB cA;replace eA:=eq_true eA;replace fA:=eq_true fA
      go_wp2_with (first|((with_reducible refine Q0i (N:=4) rfl ?_);refine bE 4 #[.int .i64 0,.int .i64 0,.int .i64 0] 27 ?_;intro lA hg w5 hbox hb;have gA:=AM hbox;have hA:=kG HB hg;replace HB:=kH HB hb;have mA:=hA;clear hb hbox hg;obtain ⟨kB,lB,mB,nB,oB,pB⟩:=c3 gA))
      go_ret
      exact ⟨rE,bH HB⟩
     ·apply iC H<;>clear H<;>intro fC H
      ·obtain rfl:=Option.some.inj H
       have eA:0≤(dA:Int):=pD
       have fA:dA<(l0.length:Int):=pD
       obtain ⟨kA,iA,aA,bA,cA⟩:=Q2i oA.out dA eA fA
       cases iA
       replace aA:=hW HB aA;replace bA:=hW HB bA;replace cA:=hW HB cA;replace eA:=eq_true eA;replace fA:=eq_true fA
       go_wp2_with (first|((with_reducible refine Q0i (N:=4) rfl ?_);refine bE 4 #[.int .i64 0,.int .i64 0,.int .i64 0] 27 ?_;intro lA hg w8 hbox hb;have gA:=AM hbox;have hA:=kG HB hg;replace HB:=kH HB hb;have mA:=hA;clear hb hbox hg;obtain ⟨qB,rB,sB,tB,uB,vB⟩:=c3 gA))
       go_ret
       exact ⟨rE,bH HB⟩
      ·apply iC H<;>clear H<;>intro zB H
       ·obtain rfl:=Option.some.inj H
        have eA:0≤(dA:Int):=pD
        have fA:dA<(l0.length:Int):=pD
        obtain ⟨kA,iA,aA,bA,cA⟩:=Q2i oA.out dA eA fA
        cases iA
        replace aA:=hW HB aA;replace bA:=hW HB bA;replace cA:=hW HB cA;replace eA:=eq_true eA;replace fA:=eq_true fA
        go_wp2_with (first|((with_reducible refine Q0i (N:=4) rfl ?_);refine bE 4 #[.int .i64 0,.int .i64 0,.int .i64 0] 27 ?_;intro lA hg hC hbox hb;have gA:=AM hbox;have hA:=kG HB hg;replace HB:=kH HB hb;have mA:=hA;clear hb hbox hg;obtain ⟨rA,sA,tA,uA,vA,wA⟩:=c3 gA))
        go_ret
        exact ⟨rE,bH HB⟩
       ·apply iC H<;>clear H<;>intro aC H
        ·obtain rfl:=Option.some.inj H
         have eA:0≤(dA:Int):=pD
         have fA:dA<(l0.length:Int):=pD
         obtain ⟨kA,iA,aA,bA,cA⟩:=Q2i oA.out dA eA fA
         cases iA
         replace aA:=hW HB aA;replace bA:=hW HB bA;replace cA:=hW HB cA;replace eA:=eq_true eA;replace fA:=eq_true fA
         go_wp2_with (first|((with_reducible refine Q0i (N:=4) rfl ?_);refine bE 4 #[.int .i64 0,.int .i64 0,.int .i64 0] 27 ?_;intro lA hg jC hbox hb;have gA:=AM hbox;have hA:=kG HB hg;replace HB:=kH HB hb;have mA:=hA;clear hb hbox hg;obtain ⟨xA,yA,zA,aB,bB,cB⟩:=c3 gA))
         go_ret
         exact ⟨rE,bH HB⟩
        ·have pA:=AM H
         clear H
         have eA:0≤(dA:Int):=pD
         have fA:dA<(l0.length:Int):=pD
         obtain ⟨kA,iA,aA,bA,cA⟩:=Q2i oA.out dA eA fA
         cases iA
         replace aA:=hW HB aA;replace bA:=hW HB bA;replace cA:=hW HB cA;replace eA:=eq_true eA;replace fA:=eq_true fA
         go_upto_if 37 with (first|((with_reducible refine Q0i (N:=4) rfl ?_);refine bE 4 #[.int .i64 0,.int .i64 0,.int .i64 0] 27 ?_;intro lA hg kC hbox hb;have gA:=AM hbox;have hA:=kG HB hg;replace HB:=kH HB hb;have mA:=hA;clear hb hbox hg;obtain ⟨dB,eB,fB,gB,hB,iB⟩:=c3 gA))
         (try simp only [Act.put,List.setIfInBounds_toArray,List.set_cons_zero,List.set_cons_succ])
         have H:=pA.out;clear pA
         by_cases nA:((Q0a l0 dA).f2)=0
         ·rw [if_pos nA] at H
          have jA:(((Q0a l0 dA).f2)==0)=true:=beq_iff_eq.mpr nA
          have qA:(((Q0a l0 dA).f2) != 0)=false:=bne_eq_false_iff_eq.mpr nA
          clear nA
          (first|rw [jA]|(simp only [Q1r,Q13];rw [jA])|skip)
          have H':=AM H
          clear H
          go_wp2
          go_roundg k1
          case measure=>have:=yB.out;omega
          case rel=>exact ⟨(wrap64 (dA+1)),rS,H',⟨by have:=yB.out;omega⟩,⟨ bH HB⟩⟩
         ·rw [if_neg nA] at H
          have jA:(((Q0a l0 dA).f2)==0)=false:=beq_eq_false_iff_ne.mpr nA
          have qA:(((Q0a l0 dA).f2) != 0)=true:=bne_iff_ne.mpr nA
          (first|rw [jA]|(simp only [Q1r,Q13];rw [jA])|skip)
          obtain rfl:=Option.some.inj H
          go_wp2
          go_ret
          exact ⟨rE,bH HB⟩
   ·obtain rfl:=Option.some.inj H
    go_wp2
    go_ret
    exact ⟨rE,bH HB⟩

theorem eqA27 (d:Nat) (w:World) (x0 y0:Int) (x1 y1:Int) (x2 y2:Int) :
  (Op.equalIn (d+2) 27 (.agg #[.int .i64 x0,.int .i64 x1,.int .i64 x2]) (.agg #[.int .i64 y0,.int .i64 y1,.int .i64 y2])).run Try.prog w=.ok (x0==y0&&(x1==y1&&(x2==y2))) w:=by
 refine Qbz Try.underlying27 (by kernel_rfl) ?_
 refine Q5v (by rfl) (by go_simp;rfl) (by go_simp;rfl) (by go_simp) ?_
 refine Q5v (by rfl) (by go_simp;rfl) (by go_simp;rfl) (by go_simp) ?_
 exact Q7v (by rfl) (by go_simp;rfl) (by go_simp;rfl) (by go_simp)
end Go.Proofs.Ytbonkedecfjmdaa.P
