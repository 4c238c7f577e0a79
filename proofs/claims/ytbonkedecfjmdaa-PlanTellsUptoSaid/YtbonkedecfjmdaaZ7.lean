/- Written for this claim by a program of this session (a turned copy of the print): Go functions as Lean functions, and that the Go code comes to just these answers; or a statement proved out of them. No condition. -/
import Derived.Test.YtbonkedecfjmdaaZ2
import Derived.Test.YtbonkedecfjmdaaZ4
import Derived.Test.YtbonkedecfjmdaaZ6
import Derived.Test.YtbonkedecfjmdaaZ3
import Derived.Test.YtbonkedecfjmdaaZ5

namespace Go.Proofs.Ytbonkedecfjmdaa.P
open Go.RowKit Go.Proofs.YtbonkedecfjmdaaW.PrintWords Go.Proofs.YtbonkedecfjmdaaW.PrintLast Go.Proofs.YtbonkedecfjmdaaW.PrintMore Go.Proofs.Ytbonkedecfjmdaa.X
attribute [local go_sem] Q2a Q2b Q2s Q2q Q1z Q1y Q19 Q2c Q2r Q2p add64
set_option linter.unusedVariables false
set_option linter.unusedSimpArgs false
mutual
def Q00.l0:Nat→Int→List (List (S27))→List (List Int)→List (List Int)→Option (Bool)
 | 0,_,_,_,_=>none
 | k+1,x3,x145000,x145001,x145002=>if x3<(x145001.length:Int) then (if 0≤x3 then ((Q0f.f k x145000 x145001 x145002 (Q06 x145001 x3)).bind fun zB=>(if zB.2=0 then (Q00.l0 k (wrap64 (x3+1)) x145000 x145001 x145002) else (some false))) else (none)) else (Q00.l1 k 0 x145000 x145001 x145002)
def Q00.l1:Nat→Int→List (List (S27))→List (List Int)→List (List Int)→Option (Bool)
 | 0,_,_,_,_=>none
 | k+1,x6,x145000,x145001,x145002=>if x6<(x145000.length:Int) then ((Q1c.f k x145000 x145001 x145002 x6).bind fun mA=>((Q1c.f k x145000 x145001 x145002 (wrap64 ((-1) - x6))).bind fun nA=>(if mA>1 then (some false) else (if nA>1 then (some false) else (if (wrap64 (mA+nA))=0 then (some false) else (Q00.l1 k (wrap64 (x6+1)) x145000 x145001 x145002)))))) else (some true)
end
def Q00.f (k:Nat) (cA:List (List (S27))) (bA:List (List Int)) (dA:List (List Int)):Option (Bool):=Q00.l0 k 0 cA bA dA
theorem Q00.Q1a:∀ k,(∀ y0 y1 y2 y3,LeO (Q00.l0 k y0 y1 y2 y3) (Q00.l0 (k+1) y0 y1 y2 y3))∧(∀ y0 y1 y2 y3,LeO (Q00.l1 k y0 y1 y2 y3) (Q00.l1 (k+1) y0 y1 y2 y3))
 | 0=>⟨fun _ _ _ _ r h=>by simp [Q00.l0] at h,fun _ _ _ _ r h=>by simp [Q00.l1] at h⟩
 | k+1=>by
  obtain ⟨zD,aE⟩:=Q00.Q1a k
  refine ⟨?_,?_⟩
  all_goals
   intros
   first|unfold Q00.l0|unfold Q00.l1
   repeat' with_reducible first|exact zD _ _ _ _|exact aE _ _ _ _|exact Q0f.mono _ _ _ _ _|exact Q1c.mono _ _ _ _ _|exact LeO.refl _|exact LeO.none _|refine LeO.ite ?_ ?_|refine LeO.bind ?_ (fun _ => ?_)
theorem Q00.mono:∀ a0 a1 a2 k,LeO (Q00.f k a0 a1 a2) (Q00.f (k+1) a0 a1 a2):=by
 intro a0 a1 a2 k
 obtain ⟨zD,aE⟩:=Q00.Q1a k
 unfold Q00.f
 repeat' with_reducible first|exact zD _ _ _ _|exact aE _ _ _ _|exact Q0f.mono _ _ _ _ _|exact Q1c.mono _ _ _ _ _|exact LeO.refl _|exact LeO.none _|refine LeO.ite ?_ ?_|refine LeO.bind ?_ (fun _ => ?_)
def Q00.T4:Bool×List (List Nat×List Nat):=(true,[([],[]),([],[]),([1],[1]),([],[]),([2,3],[2,3]),([4],[4]),([0,5],[0,5]),([6],[6]),([7],[7]),([7],[7]),([8,6,0,1,2,3,4,5,6,7,8],[8]),([9,10,0,1,2,3,4,5,6,7,8,9,10],[9])])
def Q00.B4:List Nat:=[0,0,2,0,14,30,63,127,255,255,511,2047]
theorem Q00.tab4:rtab .any (opsOf Try.f14 4)=Q00.T4:=by kernel_rfl
theorem Q00.bits4:waitsOk Q00.T4.2 Q00.B4=true:=by kernel_rfl
set_option maxHeartbeats 8000000 in
set_option maxRecDepth 100000 in
theorem Q00.calls (k:Nat) (fA:Option Addr) (gA:Nat) (cA:List (List (S27))) (oA:Option Addr) (hA:Nat) (bA:List (List Int)) (iA:Option Addr) (jA:Nat) (dA:List (List Int)) (r:Bool) (w:World) (pB:Kd.C (Kd.slice 27 k27) w fA cA.length cA) (qB:cA.length≤gA) (rB:Kd.C (Kd.slice 3 (Kd.int .i64)) w oA bA.length bA) (sB:bA.length≤hA) (tB:Kd.C (Kd.slice 3 (Kd.int .i64)) w iA dA.length dA) (uB:dA.length≤jA) (h:Q00.f k cA bA dA=some r) :
  Calls Try.prog 14 #[.agg #[.slice fA cA.length gA,.slice oA bA.length hA,.slice iA dA.length jA]] w fun e w'=>e=.returned (.bool r)∧Below w.heap.size w w':=by
 have wE:=Try.underlying25
 have pA:=AM pB
 have qA:=AM qB
 clear pB qB
 have kA:=AM rB
 have rA:=AM sB
 clear rB sB
 have sA:=AM tB
 have tA:=AM uB
 clear tB uB
 have HB:=AM (Below.refl w.heap.size w)
 have H:(Q00.l0 k 0 cA bA dA)=some r:=h
 clear h
 have H':=AM H
 clear H
 go_enter Try.func14,Try.ntmps14
 go_wp2_with (first|((with_reducible refine Q0i (N:=1) rfl ?_);refine bE 1 #[.slice fA cA.length gA,.slice oA bA.length hA,.slice iA dA.length jA] 25 ?_;intro vA hg w2 hbox hb;have aA:=AM hbox;have aC:=kG HB hg;replace HB:=kH HB hb;have nE:=aC;clear hb hbox hg))
 go_loopg [3] k (fun kq v3 w'=>∃ (uA:Int),v3=.int .i64 uA∧Aside0 (Q00.l0 kq uA cA bA dA=some r)∧Aside0 (kq≤k)∧Aside0 (w'.heap[vA]? = some (.cells #[(.slice fA cA.length gA),(.slice oA bA.length hA),(.slice iA dA.length jA)] 25 (0,0)))∧Aside0 (Below w.heap.size w w'))
 case atStart=>exact ⟨(0),rS,H',⟨Nat.le_refl _⟩,⟨bK aA⟩,⟨ bH HB⟩⟩
 case round =>
  clear H'
  obtain ⟨uA,rfl,HA,fC,aA,HB⟩:=hrel
  cases gk with
  | zero=>exact absurd HA.out (by simp [Q00.l0])
  | succ k1 =>
   have H:=HA.out;clear HA
   simp only [Q00.l0] at H
   apply iC H<;>clear H<;>intro cE H
   ·apply iN H;clear H;intro xE H
    ·obtain ⟨⟨dE,cB⟩,A5,H⟩:=bS H
     try dsimp only at H
     have oE:=AM H
     clear H;obtain ⟨eE,fE,gE,hE,iE,jE⟩:=c3 aA
     try go_wp2
     replace aA:=dB aA;replace HB:=dH HB
     have vB:0≤(uA:Int):=pD
     have wB:uA<(bA.length:Int):=pD
     obtain ⟨eB,fB,gB,kE,lA,yA,zA⟩:=Q3c kA.out uA vB wB
     have aB:=lA
     cases kE
     replace lA:=hW HB lA
     have bB:=AM zA
     have hB:=AM yA
     clear zA yA;replace vB:=eq_true vB;replace wB:=eq_true wB
     refine sP 12 (S:=fun w'=>w'.cell? ⟨vA,0,none⟩=some (.slice fA cA.length gA)∧w'.cell? ⟨vA,1,none⟩=some (.slice (some eB) bA.length hA)∧w'.cell? ⟨vA,2,none⟩=some (.slice iA dA.length jA)∧w'.cell? (eB.add (uA).toNat)=some (.slice fB (Q06 bA uA).length gB)) (ds:=[]) ⟨bC aA,bC aA,bC aA,(hW HB aB :)⟩ fun hHeld => ?_;refine Q1m Q00.tab4 Q00.bits4 (fun HT_ HW_ => ?_)
     generalize wr.drew=w8 at aA HB bB lA hHeld ⊢
     refine pQ 1 (some 18) HT_ ?_;refine pQ 3 (some 20) HT_ ?_;refine tQ 0 (some 17) HT_ HW_ hHeld ?_;refine tQ 2 (some 19) HT_ HW_ hHeld ?_;refine pQ 4 (some 21) HT_ ?_;refine tQ 5 (some 22) HT_ HW_ hHeld ?_
     refine oQ 6 (some 23) HT_ rfl fun K hK => ?_
     refine gO Try.func35 #[.agg #[.slice fA cA.length gA,.slice (some eB) bA.length hA,.slice iA dA.length jA],.slice fB (Q06 bA uA).length gB] ?_
     with_reducible refine (Q0f.calls k1 _ _ cA _ _ bA _ _ dA _ _ (Q06 bA uA) dE cB _ ?side1 ?side2 ?side3 ?side4 ?side5 ?side6 ?side7 ?side8 A5.out).mono ?_
     (case side1=>exact sC pA HB)
     (case side2=>exact qA.out)
     (case side3=>exact sC kA HB)
     (case side4=>exact rA.out)
     (case side5=>exact sC sA HB)
     (case side6=>exact tA.out)
     (case side7=>exact sC bB HB)
     (case side8=>exact hB.out)
     rintro e w9 ⟨yE,rfl,pE,hb⟩
     refine ⟨_,rfl,?_⟩
     have qE:=AM (Kd.Q1b pE (Q0h (bH HB)))
     replace aA:=kB aA hb;replace HB:=kH HB hb;clear hb pE
     refine hK.out _ _ ⟨bC aA,bC aA,bC aA,(hW HB aB :)⟩ (fun hHeld => ?_)
     clear hK K;refine nP (some 23) ?_;refine pQ 7 (some 16) HT_ ?_;refine pQ 8 (some 24) HT_ ?_;refine pQ 9 (some 25) HT_ ?_;refine pQ 10 (some 4) HT_ ?_;refine pQ 11 (some 5) HT_ ?_
     refine done_ (Q2d HT_.out (by kernel_rfl)) ?_
     go_upto_if 27 with (fail)
     have H:=oE.out;clear oE
     by_cases xB:cB=0
     ·rw [if_pos xB] at H
      have wA:(cB==0)=true:=beq_iff_eq.mpr xB
      have cC:(cB != 0)=false:=bne_eq_false_iff_eq.mpr xB
      clear xB
      (first|rw [wA]|(simp only [Q1r,Q13];rw [wA])|skip)
      have H':=AM H
      clear H
      go_wp2
      go_roundg k1
      case measure=>have:=fC.out;omega
      case rel=>exact ⟨(wrap64 (uA+1)),rS,H',⟨by have:=fC.out;omega⟩,⟨bK aA⟩,⟨ bH HB⟩⟩
     ·rw [if_neg xB] at H
      have wA:(cB==0)=false:=beq_eq_false_iff_ne.mpr xB
      have cC:(cB != 0)=true:=bne_iff_ne.mpr xB
      (first|rw [wA]|(simp only [Q1r,Q13];rw [wA])|skip)
      obtain rfl:=Option.some.inj H
      go_wp2
      go_ret
      exact ⟨rE,bH HB⟩
   ·have H':=AM H
    clear H;obtain ⟨iB,jB,lB,mB,nB,oB⟩:=c3 aA
    go_wp2
    go_loopg [6] k1 (fun kq v6 w'=>∃ (eA:Int),v6=.int .i64 eA∧Aside0 (Q00.l1 kq eA cA bA dA=some r)∧Aside0 (kq≤k1)∧Aside0 (w'.heap[vA]? = some (.cells #[(.slice fA cA.length gA),(.slice oA bA.length hA),(.slice iA dA.length jA)] 25 (0,0)))∧Aside0 (Below w.heap.size w w'))
    case atStart=>exact ⟨(0),rS,H',⟨Nat.le_refl _⟩,⟨bK aA⟩,⟨ bH HB⟩⟩
    case round =>
     clear H'
     clear cE iB jB lB mB nB oB
     obtain ⟨eA,rfl,HA,sE,aA,HB⟩:=hrel
     cases gk with
     | zero=>exact absurd HA.out (by simp [Q00.l1])
     | succ k2 =>
      have H:=HA.out;clear HA
      simp only [Q00.l1] at H
      apply iC H<;>clear H<;>intro tE H
      ·obtain ⟨mA,lE,H⟩:=bS H
       obtain ⟨nA,mE,H⟩:=bS H
       apply iC H<;>clear H<;>intro uE H
       ·obtain rfl:=Option.some.inj H
        obtain ⟨gC,hC,jC,kC,lC,mC⟩:=c3 aA
        go_wp2_with (first|((with_reducible refine Q0n (f:=38) rfl ?_);refine gL (some 37) Try.func38 #[.agg #[.slice fA cA.length gA,.slice oA bA.length hA,.slice iA dA.length jA],.int .i64 eA] ?_;(with_reducible refine (Q1c.calls k2 _ _ cA _ _ bA _ _ dA eA mA _ ?side1 ?side2 ?side3 ?side4 ?side5 ?side6 lE.out).mono ?_);(case side1=>exact sC pA HB);(case side2=>exact qA.out);(case side3=>exact sC kA HB);(case side4=>exact rA.out);(case side5=>exact sC sA HB);(case side6=>exact tA.out);rintro e zE ⟨rfl,hb⟩;refine ⟨_,rfl,?_⟩;replace aA:=kB aA hb;replace HB:=kH HB hb;clear hb;obtain ⟨nC,oC,pC,qC,rC,tC⟩:=c3 aA)|((with_reducible refine Q0n (f:=38) rfl ?_);refine gL (some 41) Try.func38 #[.agg #[.slice fA cA.length gA,.slice oA bA.length hA,.slice iA dA.length jA],.int .i64 (wrap64 ((-1) - eA))] ?_;(with_reducible refine (Q1c.calls k2 _ _ cA _ _ bA _ _ dA (wrap64 ((-1) - eA)) nA _ ?side1 ?side2 ?side3 ?side4 ?side5 ?side6 mE.out).mono ?_);(case side1=>exact sC pA HB);(case side2=>exact qA.out);(case side3=>exact sC kA HB);(case side4=>exact rA.out);(case side5=>exact sC sA HB);(case side6=>exact tA.out);rintro e aF ⟨rfl,hb⟩;refine ⟨_,rfl,?_⟩;replace aA:=kB aA hb;replace HB:=kH HB hb;clear hb))
        go_ret
        exact ⟨rE,bH HB⟩
       ·apply iC H<;>clear H<;>intro vE H
        ·obtain rfl:=Option.some.inj H
         obtain ⟨uC,vC,wC,xC,yC,zC⟩:=c3 aA
         go_wp2_with (first|((with_reducible refine Q0n (f:=38) rfl ?_);refine gL (some 37) Try.func38 #[.agg #[.slice fA cA.length gA,.slice oA bA.length hA,.slice iA dA.length jA],.int .i64 eA] ?_;(with_reducible refine (Q1c.calls k2 _ _ cA _ _ bA _ _ dA eA mA _ ?side1 ?side2 ?side3 ?side4 ?side5 ?side6 lE.out).mono ?_);(case side1=>exact sC pA HB);(case side2=>exact qA.out);(case side3=>exact sC kA HB);(case side4=>exact rA.out);(case side5=>exact sC sA HB);(case side6=>exact tA.out);rintro e bF ⟨rfl,hb⟩;refine ⟨_,rfl,?_⟩;replace aA:=kB aA hb;replace HB:=kH HB hb;clear hb;obtain ⟨aD,bD,cD,dD,eD,fD⟩:=c3 aA)|((with_reducible refine Q0n (f:=38) rfl ?_);refine gL (some 41) Try.func38 #[.agg #[.slice fA cA.length gA,.slice oA bA.length hA,.slice iA dA.length jA],.int .i64 (wrap64 ((-1) - eA))] ?_;(with_reducible refine (Q1c.calls k2 _ _ cA _ _ bA _ _ dA (wrap64 ((-1) - eA)) nA _ ?side1 ?side2 ?side3 ?side4 ?side5 ?side6 mE.out).mono ?_);(case side1=>exact sC pA HB);(case side2=>exact qA.out);(case side3=>exact sC kA HB);(case side4=>exact rA.out);(case side5=>exact sC sA HB);(case side6=>exact tA.out);rintro e cF ⟨rfl,hb⟩;refine ⟨_,rfl,?_⟩;replace aA:=kB aA hb;replace HB:=kH HB hb;clear hb))
         go_ret
         exact ⟨rE,bH HB⟩
        ·have dC:=AM H
         clear H;obtain ⟨gD,hD,iD,jD,kD,lD⟩:=c3 aA
         go_upto_if 53 with (first|((with_reducible refine Q0n (f:=38) rfl ?_);refine gL (some 37) Try.func38 #[.agg #[.slice fA cA.length gA,.slice oA bA.length hA,.slice iA dA.length jA],.int .i64 eA] ?_;(with_reducible refine (Q1c.calls k2 _ _ cA _ _ bA _ _ dA eA mA _ ?side1 ?side2 ?side3 ?side4 ?side5 ?side6 lE.out).mono ?_);(case side1=>exact sC pA HB);(case side2=>exact qA.out);(case side3=>exact sC kA HB);(case side4=>exact rA.out);(case side5=>exact sC sA HB);(case side6=>exact tA.out);rintro e dF ⟨rfl,hb⟩;refine ⟨_,rfl,?_⟩;replace aA:=kB aA hb;replace HB:=kH HB hb;clear hb;obtain ⟨mD,nD,oD,qD,rD,sD⟩:=c3 aA)|((with_reducible refine Q0n (f:=38) rfl ?_);refine gL (some 41) Try.func38 #[.agg #[.slice fA cA.length gA,.slice oA bA.length hA,.slice iA dA.length jA],.int .i64 (wrap64 ((-1) - eA))] ?_;(with_reducible refine (Q1c.calls k2 _ _ cA _ _ bA _ _ dA (wrap64 ((-1) - eA)) nA _ ?side1 ?side2 ?side3 ?side4 ?side5 ?side6 mE.out).mono ?_);(case side1=>exact sC pA HB);(case side2=>exact qA.out);(case side3=>exact sC kA HB);(case side4=>exact rA.out);(case side5=>exact sC sA HB);(case side6=>exact tA.out);rintro e eF ⟨rfl,hb⟩;refine ⟨_,rfl,?_⟩;replace aA:=kB aA hb;replace HB:=kH HB hb;clear hb))
         (try simp only [Act.put,List.setIfInBounds_toArray,List.set_cons_zero,List.set_cons_succ])
         have H:=dC.out;clear dC
         by_cases yB:(wrap64 (mA+nA))=0
         ·rw [if_pos yB] at H
          have xA:((wrap64 (mA+nA))==0)=true:=beq_iff_eq.mpr yB
          have eC:((wrap64 (mA+nA)) != 0)=false:=bne_eq_false_iff_eq.mpr yB
          clear yB
          (first|rw [xA]|(simp only [Q1r,Q13];rw [xA])|skip)
          obtain rfl:=Option.some.inj H
          go_wp2
          go_ret
          exact ⟨rE,bH HB⟩
         ·rw [if_neg yB] at H
          have xA:((wrap64 (mA+nA))==0)=false:=beq_eq_false_iff_ne.mpr yB
          have eC:((wrap64 (mA+nA)) != 0)=true:=bne_iff_ne.mpr yB
          (first|rw [xA]|(simp only [Q1r,Q13];rw [xA])|skip)
          have H':=AM H
          clear H
          go_wp2
          go_roundg k2
          case measure=>have:=fC.out;have:=sE.out;omega
          case rel=>exact ⟨(wrap64 (eA+1)),rS,H',⟨by have:=fC.out;have:=sE.out;omega⟩,⟨bK aA⟩,⟨ bH HB⟩⟩
      ·obtain rfl:=Option.some.inj H
       obtain ⟨tD,uD,vD,wD,xD,yD⟩:=c3 aA
       go_wp2
       go_ret
       exact ⟨rE,bH HB⟩

mutual
def Q1i.l0:Nat→Int→List Int→List Int→Option (Int)
 | 0,_,_,_=>none
 | k+1,x5,x248000,x249000=>if x5≥0 then (if 0≤x5 then (if x5<(x248000.length:Int) then (if x5<(x249000.length:Int) then (if x5=7 then (Q1i.j1 k x5 (Int.tmod (wrap64 ((rd x248000 x5)+32768)) 65536) (Int.tmod (wrap64 ((rd x249000 x5)+32768)) 65536) x248000 x249000) else (Q1i.j1 k x5 (rd x248000 x5) (rd x249000 x5) x248000 x249000)) else (none)) else (none)) else (none)) else (some 0)
def Q1i.j1:Nat→Int→Int→Int→List Int→List Int→Option (Int)
 | 0,_,_,_,_,_=>none
 | k+1,x5,x6,x7,x248000,x249000=>if x6<x7 then (some (-1)) else (if x6>x7 then (some 1) else (Q1i.l0 k (wrap64 (x5 - 1)) x248000 x249000))
end
def Q1i.f (k:Nat) (cA:List Int) (dA:List Int):Option (Int):=Q1i.l0 k 7 cA dA
theorem Q1i.Q1a:∀ k,(∀ y0 y1 y2,LeO (Q1i.l0 k y0 y1 y2) (Q1i.l0 (k+1) y0 y1 y2))∧(∀ y0 y1 y2 y3 y4,LeO (Q1i.j1 k y0 y1 y2 y3 y4) (Q1i.j1 (k+1) y0 y1 y2 y3 y4))
 | 0=>⟨fun _ _ _ r h=>by simp [Q1i.l0] at h,fun _ _ _ _ _ r h=>by simp [Q1i.j1] at h⟩
 | k+1=>by
  obtain ⟨oB,pB⟩:=Q1i.Q1a k
  refine ⟨?_,?_⟩
  all_goals
   intros
   first|unfold Q1i.l0|unfold Q1i.j1
   repeat' with_reducible first|exact oB _ _ _|exact pB _ _ _ _ _|exact LeO.refl _|exact LeO.none _|refine LeO.ite ?_ ?_|refine LeO.bind ?_ (fun _ => ?_)
theorem Q1i.mono:∀ a0 a1 k,LeO (Q1i.f k a0 a1) (Q1i.f (k+1) a0 a1):=by
 intro a0 a1 k
 obtain ⟨oB,pB⟩:=Q1i.Q1a k
 unfold Q1i.f
 repeat' with_reducible first|exact oB _ _ _|exact pB _ _ _ _ _|exact LeO.refl _|exact LeO.none _|refine LeO.ite ?_ ?_|refine LeO.bind ?_ (fun _ => ?_)
set_option maxHeartbeats 8000000 in
set_option maxRecDepth 100000 in
theorem Q1i.calls (k:Nat) (mA:Option Addr) (kA:Nat) (cA:List Int) (nA:Option Addr) (lA:Nat) (dA:List Int) (r:Int) (w:World) (wA:Kd.C (Kd.int .i64) w mA cA.length cA) (xA:cA.length≤kA) (yA:Kd.C (Kd.int .i64) w nA dA.length dA) (zA:dA.length≤lA) (h:Q1i.f k cA dA=some r) :
  Calls Try.prog 49 #[.agg #[.slice mA cA.length kA],.agg #[.slice nA dA.length lA]] w fun e w'=>e=.returned (.int .i64 r)∧Below w.heap.size w w':=by
 have gC:=Try.underlying43
 have fB:=AM wA
 have xB:=AM xA
 clear wA xA
 have gB:=AM yA
 have yB:=AM zA
 clear yA zA
 have HB:=AM (Below.refl w.heap.size w)
 have H:(Q1i.l0 k 7 cA dA)=some r:=h
 clear h
 have H':=AM H
 clear H
 go_enter Try.func49,Try.ntmps49
 go_wp2_with (first|((with_reducible refine Q0i (N:=2) rfl ?_);refine bE 2 #[.slice mA cA.length kA] 43 ?_;intro aB hg w3 hbox hb;have bA:=AM hbox;have hB:=kG HB hg;replace HB:=kH HB hb;have zB:=hB;clear hb hbox hg)|((with_reducible refine Q0i (N:=3) rfl ?_);refine bE 3 #[.slice nA dA.length lA] 43 ?_;intro bB hg w4 hbox hb;have eA:=AM hbox;have iB:=kG HB hg;replace HB:=kH HB hb;have aC:=iB;have iA:=kN bA hg;have jA:=kM bA hg;replace bA:=kB bA hb;clear hb hbox hg))
 go_loopg [5] k (fun kq v5 w'=>∃ (aA:Int),v5=.int .i64 aA∧Aside0 (Q1i.l0 kq aA cA dA=some r)∧Aside0 (kq≤k)∧Aside0 (w'.heap[aB]? = some (.cells #[(.slice mA cA.length kA)] 43 (0,0)))∧Aside0 (w'.heap[bB]? = some (.cells #[(.slice nA dA.length lA)] 43 (0,0)))∧Aside0 (Below w.heap.size w w'))
 case atStart=>exact ⟨(7),rS,H',⟨Nat.le_refl _⟩,⟨bK bA⟩,⟨bK eA⟩,⟨ bH HB⟩⟩
 case round =>
  clear H'
  obtain ⟨aA,rfl,HA,nB,bA,eA,HB⟩:=hrel
  cases gk with
  | zero=>exact absurd HA.out (by simp [Q1i.l0])
  | succ k1 =>
   have H:=HA.out;clear HA
   simp only [Q1i.l0] at H
   apply iC H<;>clear H<;>intro qB H
   ·apply iN H;clear H;intro rB H
    ·apply iN H;clear H;intro sB H
     ·apply iN H;clear H;intro tB H
      ·have uB:=AM H
       clear H;have bC:=iA.out;have cC:=jA.out;obtain ⟨oA,pA⟩:=c1 bA
       have qA:0≤(aA:Int):=pD
       have rA:aA<(cA.length:Int):=pD
       obtain ⟨jB,vB,fA⟩:=Kd.Q2n fB.out aA qA rA
       cases vB
       replace fA:=hW HB fA;replace qA:=eq_true qA;replace rA:=eq_true rA;obtain ⟨sA,tA⟩:=c1 eA
       have uA:0≤(aA:Int):=pD
       have vA:aA<(dA.length:Int):=pD
       obtain ⟨lB,wB,gA⟩:=Kd.Q2n gB.out aA uA vA
       cases wB
       replace gA:=hW HB gA;replace uA:=eq_true uA;replace vA:=eq_true vA
       go_upto_if 23 with (fail)
       go_cut [6,7] (fun v6 v7 wc=>∃ (kq:Nat) (cB:Int) (dB:Int),v6=.int .i64 cB∧v7=.int .i64 dB∧Aside0 (Q1i.j1 kq aA cB dB cA dA=some r)∧Aside0 (kq≤k1)∧Aside0 (wc.heap[aB]? = some (.cells #[(.slice (some jB) cA.length kA)] 43 (0,0)))∧Aside0 (wc.heap[bB]? = some (.cells #[(.slice (some lB) dA.length lA)] 43 (0,0)))∧Aside0 (Below w.heap.size w wc))
       case first =>
        have H:=uB.out;clear uB
        by_cases eB:aA=7
        ·rw [if_pos eB] at H
         have hA:(aA==7)=true:=beq_iff_eq.mpr eB
         have mB:(aA != 7)=false:=bne_eq_false_iff_eq.mpr eB
         clear eB
         (first|rw [hA]|(simp only [Q1r,Q13];rw [hA])|skip)
         have H':=AM H
         clear H
         go_wp2
         go_meet
         case rel=>exact ⟨_,(Int.tmod (wrap64 ((rd cA aA)+32768)) 65536),(Int.tmod (wrap64 ((rd dA aA)+32768)) 65536),rS,rS,H',⟨by have:=nB.out;first|omega|exact Nat.le_refl _⟩,⟨bK bA⟩,⟨bK eA⟩,⟨ bH HB⟩⟩
        ·rw [if_neg eB] at H
         have hA:(aA==7)=false:=beq_eq_false_iff_ne.mpr eB
         have mB:(aA != 7)=true:=bne_iff_ne.mpr eB
         (first|rw [hA]|(simp only [Q1r,Q13];rw [hA])|skip)
         have H':=AM H
         clear H
         go_wp2
         go_meet
         case rel=>exact ⟨_,(rd cA aA),(rd dA aA),rS,rS,H',⟨by have:=nB.out;first|omega|exact Nat.le_refl _⟩,⟨bK bA⟩,⟨bK eA⟩,⟨ bH HB⟩⟩
       case rest =>
        clear uB qB rB sB tB oA sA pA tA fA gA qA uA rA vA
        obtain ⟨kq,cB,dB,rfl,rfl,HA,dC,bA,eA,HB⟩:=hcut
        cases kq with
        | zero=>exact absurd HA.out (by simp [Q1i.j1])
        | succ kj8 =>
         have H:=HA.out;clear HA
         simp only [Q1i.j1] at H
         apply iC H<;>clear H<;>intro eC H
         ·obtain rfl:=Option.some.inj H
          go_wp2
          go_ret
          exact ⟨rE,bH HB⟩
         ·apply iC H<;>clear H<;>intro fC H
          ·obtain rfl:=Option.some.inj H
           go_wp2
           go_ret
           exact ⟨rE,bH HB⟩
          ·have H':=AM H
           clear H
           go_wp2
           go_roundg kj8
           case measure=>have:=nB.out;have:=dC.out;omega
           case rel=>exact ⟨(wrap64 (aA - 1)),rS,H',⟨by have:=nB.out;have:=dC.out;omega⟩,⟨bK bA⟩,⟨bK eA⟩,⟨ bH HB⟩⟩
   ·obtain rfl:=Option.some.inj H
    go_wp2
    go_ret
    exact ⟨rE,bH HB⟩

def Q1d.f (k:Nat) (dA:Int) (eA:Int) (kA:Int) (gA:Int) (hA:Int) (lA:Int) (iA:Int) (jA:Int) (mA:Int):Option (Int):=(Q0s.f k (([(⟨dA,eA,kA⟩:S27),(⟨gA,hA,lA⟩:S27),(⟨iA,jA,mA⟩:S27)]:List (S27)))).bind fun qA=>(if qA=true then ((Q1s.f k (wrap64 (gA - dA)) (wrap64 (jA - eA))).bind fun oA=>((Q1s.f k (wrap64 (hA - eA)) (wrap64 (iA - dA))).bind fun pA=>((Q1i.f k oA pA).bind fun tA=>(some tA)))) else (some 0))
theorem Q1d.mono:∀ a0 a1 a2 a3 a4 a5 a6 a7 a8 k,LeO (Q1d.f k a0 a1 a2 a3 a4 a5 a6 a7 a8) (Q1d.f (k+1) a0 a1 a2 a3 a4 a5 a6 a7 a8):=by
 intro a0 a1 a2 a3 a4 a5 a6 a7 a8 k
 unfold Q1d.f
 repeat' with_reducible first|exact Q1i.mono _ _ _|exact Q0s.mono _ _|exact Q1s.mono _ _ _|exact LeO.refl _|exact LeO.none _|refine LeO.ite ?_ ?_|refine LeO.bind ?_ (fun _ => ?_)
def Q1d.T3:Bool×List (List Nat×List Nat):=(true,[([],[]),([0],[0]),([],[]),([2],[2]),([1,3],[1,3]),([],[]),([5],[5]),([],[]),([7],[7]),([6,8],[6,8]),([4,9],[4,9]),([],[]),([11],[11]),([],[]),([13],[13]),([12,14],[12,14]),([],[]),([16],[16]),([],[]),([18],[18]),([17,19],[17,19]),([15,20,10],[15,20]),([10,21,21],[10,21]),([22,22,0,1,2,3,4,5,6,7,8,9,10,11,12,13,14,15,16,17,18,19,20,21,22],[22])])
def Q1d.B3:List Nat:=[0,1,0,4,15,0,32,0,128,480,1023,0,2048,0,8192,30720,0,65536,0,262144,983040,2097151,4194303,8388607]
theorem Q1d.tab3:rtab .any (opsOf Try.f63 3)=Q1d.T3:=by kernel_rfl
theorem Q1d.bits3:waitsOk Q1d.T3.2 Q1d.B3=true:=by kernel_rfl
set_option maxHeartbeats 8000000 in
set_option maxRecDepth 100000 in
theorem Q1d.calls (k:Nat) (dA:Int) (eA:Int) (kA:Int) (gA:Int) (hA:Int) (lA:Int) (iA:Int) (jA:Int) (mA:Int) (r:Int) (w:World) (h:Q1d.f k dA eA kA gA hA lA iA jA mA=some r) :
  Calls Try.prog 63 #[.agg #[.int .i64 dA,.int .i64 eA,.int .i64 kA],.agg #[.int .i64 gA,.int .i64 hA,.int .i64 lA],.agg #[.int .i64 iA,.int .i64 jA,.int .i64 mA]] w fun e w'=>e=.returned (.int .i64 r)∧Below w.heap.size w w':=by
 have dD:=Try.underlying27
 have HB:=AM (Below.refl w.heap.size w)
 have H:((Q0s.f k (([(⟨dA,eA,kA⟩:S27),(⟨gA,hA,lA⟩:S27),(⟨iA,jA,mA⟩:S27)]:List (S27)))).bind fun qA=>(if qA=true then ((Q1s.f k (wrap64 (gA - dA)) (wrap64 (jA - eA))).bind fun oA=>((Q1s.f k (wrap64 (hA - eA)) (wrap64 (iA - dA))).bind fun pA=>((Q1i.f k oA pA).bind fun tA=>(some tA)))) else (some 0)))=some r:=h
 clear h
 obtain ⟨gB,rA⟩:∃ y_:List (S27),y_=(([(⟨dA,eA,kA⟩:S27),(⟨gA,hA,lA⟩:S27),(⟨iA,jA,mA⟩:S27)]:List (S27))):=⟨_,rfl⟩
 replace H:((Q0s.f k gB).bind fun qA=>(if qA=true then ((Q1s.f k (wrap64 (gA - dA)) (wrap64 (jA - eA))).bind fun oA=>((Q1s.f k (wrap64 (hA - eA)) (wrap64 (iA - dA))).bind fun pA=>((Q1i.f k oA pA).bind fun tA=>(some tA)))) else (some 0)))=some r:=by first|(rw [rA];with_reducible exact H)|(have kC:=(Option.bind_some _ _).symm.trans H;rw [rA];with_reducible exact kC)|(have kC:=(Option.bind_some _ _).symm.trans H;with_reducible exact kC)|with_reducible exact H|(rw [rA];exact H)|exact H
 have fB:=AM rA
 clear rA
 obtain ⟨qA,A4,H⟩:=bS H
 have vC:=AM H
 clear H
 go_enter Try.func63,Try.ntmps63
 go_upto_if 12 with (first|((with_reducible refine Q0i (N:=3) rfl ?_);refine bE 3 #[.int .i64 dA,.int .i64 eA,.int .i64 kA] 27 ?_;intro uA hg w6 hbox hb;have aA:=AM hbox;have iB:=kG HB hg;replace HB:=kH HB hb;have wC:=iB;clear hb hbox hg)|((with_reducible refine Q0i (N:=4) rfl ?_);refine bE 4 #[.int .i64 gA,.int .i64 hA,.int .i64 lA] 27 ?_;intro vA hg w7 hbox hb;have bA:=AM hbox;have jB:=kG HB hg;replace HB:=kH HB hb;have xC:=jB;have xA:=kN aA hg;have yA:=kM aA hg;replace aA:=kB aA hb;clear hb hbox hg)|((with_reducible refine Q0i (N:=5) rfl ?_);refine bE 5 #[.int .i64 iA,.int .i64 jA,.int .i64 mA] 27 ?_;intro wA hg w8 hbox hb;have cA:=AM hbox;have lB:=kG HB hg;replace HB:=kH HB hb;have yC:=lB;have zA:=kN aA hg;have aB:=kM aA hg;replace aA:=kB aA hb;have bB:=kN bA hg;have cB:=kM bA hg;replace bA:=kB bA hb;clear hb hbox hg;have eD:=xA.out;have fD:=yA.out;have zC:=zA.out;have aD:=aB.out;obtain ⟨qB,rB,sB,tB,uB,vB⟩:=c3 aA;have bD:=bB.out;have cD:=cB.out;obtain ⟨wB,xB,yB,zB,aC,cC⟩:=c3 bA;obtain ⟨dC,eC,fC,gC,hC,iC⟩:=c3 cA)|((with_reducible refine Q0i (N:=10) rfl ?_);refine Kd.Q4s k27 _ 27 ?hg (N:=10) ?hd (xs:=([(⟨dA,eA,kA⟩:S27),(⟨gA,hA,lA⟩:S27),(⟨iA,jA,mA⟩:S27)]:List (S27))) (inner:=[.int .i64 dA,.int .i64 eA,.int .i64 kA,.int .i64 gA,.int .i64 hA,.int .i64 lA,.int .i64 iA,.int .i64 jA,.int .i64 mA]) (ok:=fun _=>True) (okp:=fun _=>True) ?hr ?hp (fun _ hk=>hk) trivial (Below.refl _ _) (Nat.le_refl _) (by simp) ?_;(case hd=>rfl);(case hg=>rfl);(case hr=>first|(go_simp;done)|(go_simp;rfl));(case hp=>exact (Reps.c3 (show Kd.M k27 _ _ _ (⟨dA,eA,kA⟩:S27) [.int .i64 dA,.int .i64 eA,.int .i64 kA] from (Q2o _ _ _ (⟨dA,eA,kA⟩:S27) )) (Reps.c3 (show Kd.M k27 _ _ _ (⟨gA,hA,lA⟩:S27) [.int .i64 gA,.int .i64 hA,.int .i64 lA] from (Q2o _ _ _ (⟨gA,hA,lA⟩:S27) )) (Reps.c3 (show Kd.M k27 _ _ _ (⟨iA,jA,mA⟩:S27) [.int .i64 iA,.int .i64 jA,.int .i64 mA] from (Q2o _ _ _ (⟨iA,jA,mA⟩:S27) )) (Reps.none _ _)))));intro gD nD eB hb hg_ hnew_;clear hg_ hnew_;(first|rw [← fB.out] at eB|(simp only [Int.reduceToNat] at eB;rw [← fB.out] at eB));have fA:=AM (Kd.Q1b (Kd.Q2v (Kd.Q2v (Kd.Q2v eB (g:=uA) (o:=.cells #[.int .i64 dA,.int .i64 eA,.int .i64 kA] 27 (0,0)) (bK aA)) (g:=vA) (o:=.cells #[.int .i64 gA,.int .i64 hA,.int .i64 lA] 27 (0,0)) (bK bA)) (g:=wA) (o:=.cells #[.int .i64 iA,.int .i64 jA,.int .i64 mA] 27 (0,0)) (bK cA)) (Q0h (bH HB)));replace aA:=kB aA hb;replace bA:=kB bA hb;replace cA:=kB cA hb;replace HB:=kH HB hb;clear hb eB;obtain ⟨lC,mC,nC⟩:=Kd.Q01 fA.out;subst nC)|((with_reducible refine Q0n (f:=22) rfl ?_);refine gL (some 11) Try.func22 #[.slice lC gB.length mC] ?_;(with_reducible refine (Q0s.calls k _ _ gB qA _ ?side1 ?side2 A4.out).mono ?_);(case side1=>exact sR fA);(case side2=>exact (Kd.Q0w fA.out).2.1);rintro e hD ⟨rfl,hb⟩;refine ⟨_,rfl,?_⟩;replace fA:=kR fA hb;replace aA:=kB aA hb;replace bA:=kB bA hb;replace cA:=kB cA hb;replace HB:=kH HB hb;clear hb))
 (try simp only [Act.put,List.setIfInBounds_toArray,List.set_cons_zero,List.set_cons_succ])
 have H:=vC.out;clear vC
 by_cases jC:qA=true
 ·subst jC
  replace H:=iT H
  obtain ⟨oA,iD,H⟩:=bS H
  obtain ⟨pA,jD,H⟩:=bS H
  obtain ⟨tA,kD,H⟩:=bS H
  obtain rfl:=Option.some.inj H
  try go_wp2
  replace fA:=dR fA;replace aA:=dB aA;replace bA:=dB bA;replace cA:=dB cA;replace HB:=dH HB
  refine sP 24 (S:=fun w'=>w'.cell? ⟨vA,0,none⟩=some (.int .i64 gA)∧w'.cell? ⟨vA,1,none⟩=some (.int .i64 hA)∧w'.cell? ⟨vA,2,none⟩=some (.int .i64 lA)∧w'.cell? ⟨uA,0,none⟩=some (.int .i64 dA)∧w'.cell? ⟨uA,1,none⟩=some (.int .i64 eA)∧w'.cell? ⟨uA,2,none⟩=some (.int .i64 kA)∧w'.cell? ⟨wA,0,none⟩=some (.int .i64 iA)∧w'.cell? ⟨wA,1,none⟩=some (.int .i64 jA)∧w'.cell? ⟨wA,2,none⟩=some (.int .i64 mA)) (ds:=[]) ⟨bC bA,bC bA,bC bA,bC aA,bC aA,bC aA,bC cA,bC cA,bC cA⟩ fun hHeld => ?_;refine Q1m Q1d.tab3 Q1d.bits3 (fun HT_ HW_ => ?_)
  generalize hD.drew=w23 at fA aA bA cA HB hHeld ⊢
  refine pQ 0 (some 13) HT_ ?_;refine pQ 2 (some 15) HT_ ?_;refine pQ 5 (some 18) HT_ ?_;refine pQ 7 (some 20) HT_ ?_;refine pQ 11 (some 24) HT_ ?_;refine pQ 13 (some 26) HT_ ?_;refine pQ 16 (some 29) HT_ ?_;refine pQ 18 (some 31) HT_ ?_;refine tQ 1 (some 14) HT_ HW_ hHeld ?_;refine tQ 3 (some 16) HT_ HW_ hHeld ?_;refine pQ 4 (some 17) HT_ ?_;refine tQ 6 (some 19) HT_ HW_ hHeld ?_;refine tQ 8 (some 21) HT_ HW_ hHeld ?_;refine pQ 9 (some 22) HT_ ?_;refine tQ 12 (some 25) HT_ HW_ hHeld ?_;refine tQ 14 (some 27) HT_ HW_ hHeld ?_;refine pQ 15 (some 28) HT_ ?_;refine tQ 17 (some 30) HT_ HW_ hHeld ?_;refine tQ 19 (some 32) HT_ HW_ hHeld ?_;refine pQ 20 (some 33) HT_ ?_
  refine oQ 10 (some 23) HT_ rfl fun K hK => ?_
  refine gO Try.func70 #[.int .i64 (wrap64 (gA - dA)),.int .i64 (wrap64 (jA - eA))] ?_
  with_reducible refine (Q1s.calls k (wrap64 (gA - dA)) (wrap64 (jA - eA)) oA _ iD.out).mono ?_
  rintro e oD ⟨lD,rfl,hB,hb⟩
  refine ⟨_,rfl,?_⟩
  replace fA:=kR fA hb
  have nA:=AM (Kd.Q1b hB (Q0h (bH HB)))
  replace aA:=kB aA hb;replace bA:=kB bA hb;replace cA:=kB cA hb;replace HB:=kH HB hb;clear hb hB
  refine hK.out _ _ ⟨bC bA,bC bA,bC bA,bC aA,bC aA,bC aA,bC cA,bC cA,bC cA⟩ (fun hHeld => ?_)
  clear hK K;refine nP (some 23) ?_
  refine oQ 21 (some 34) HT_ rfl fun K hK => ?_
  refine gO Try.func70 #[.int .i64 (wrap64 (hA - eA)),.int .i64 (wrap64 (iA - dA))] ?_
  with_reducible refine (Q1s.calls k (wrap64 (hA - eA)) (wrap64 (iA - dA)) pA _ jD.out).mono ?_
  rintro e pD ⟨mD,rfl,hB,hb⟩
  refine ⟨_,rfl,?_⟩
  replace fA:=kR fA hb
  have sA:=AM (Kd.Q1b (Kd.Q2z hB (Kd.R_lt (rK nA))) (Q0h (bH HB)))
  replace nA:=AM (Kd.Q16 (rK nA) (Kd.Q2l hB) hb)
  replace aA:=kB aA hb;replace bA:=kB bA hb;replace cA:=kB cA hb;replace HB:=kH HB hb;clear hb hB
  obtain ⟨oC,pC,mB⟩:=Kd.Q01 nA.out
  (first|subst mB|(injection mB with nB qC oB;have rC:=nB.symm;have sC:=oB.symm;clear nB qC oB;subst rC;subst sC))
  obtain ⟨tC,uC,pB⟩:=Kd.Q01 sA.out
  (first|subst pB|(injection pB with nB qC oB;have rC:=nB.symm;have sC:=oB.symm;clear nB qC oB;subst rC;subst sC))
  refine hK.out _ _ ⟨bC bA,bC bA,bC bA,bC aA,bC aA,bC aA,bC cA,bC cA,bC cA⟩ (fun hHeld => ?_)
  clear hK K;refine nP (some 34) ?_
  refine oQ 22 (some 35) HT_ rfl fun K hK => ?_
  refine gO Try.func49 #[.agg #[.slice oC oA.length pC],.agg #[.slice tC pA.length uC]] ?_
  with_reducible refine (Q1i.calls k _ _ oA _ _ pA tA _ ?side1 ?side2 ?side3 ?side4 kD.out).mono ?_
  (case side1=>exact sR nA)
  (case side2=>exact (Kd.Q0w nA.out).2.1)
  (case side3=>exact sR sA)
  (case side4=>exact (Kd.Q0w sA.out).2.1)
  rintro e qD ⟨rfl,hb⟩
  refine ⟨_,rfl,?_⟩
  replace fA:=kR fA hb;replace nA:=kR nA hb;replace sA:=kR sA hb;replace aA:=kB aA hb;replace bA:=kB bA hb;replace cA:=kB cA hb;replace HB:=kH HB hb;clear hb
  refine hK.out _ _ ⟨bC bA,bC bA,bC bA,bC aA,bC aA,bC aA,bC cA,bC cA,bC cA⟩ (fun hHeld => ?_)
  clear hK K;refine nP (some 35) ?_;refine pQ 23 (some 6) HT_ ?_
  refine done_ (Q2d HT_.out (by kernel_rfl)) ?_
  try go_wp2
  go_ret
  exact ⟨rE,bH HB⟩
 ·replace jC:=Bool.eq_false_iff.mpr jC
  subst jC
  replace H:=iF H
  obtain rfl:=Option.some.inj H
  go_wp2
  go_ret
  exact ⟨rE,bH HB⟩

def Q20.f (a0:Int) (a1:Int) (a2:Int):Option (Bool):=if a1≤a0 then (if a0≤a2 then (some true) else (if a2≤a0 then (some (decide (a0≤a1))) else (some false))) else (if a2≤a0 then (some (decide (a0≤a1))) else (some false))
set_option maxHeartbeats 8000000 in
set_option maxRecDepth 100000 in
theorem Q20.calls (a0:Int) (a1:Int) (a2:Int) (r:Bool) (w:World) (h:Q20.f a0 a1 a2=some r) :
  Calls Try.prog 79 #[.int .i64 a0,.int .i64 a1,.int .i64 a2] w fun e w'=>e=.returned (.bool r)∧Drawn0 w w':=by
 have H:(if a1≤a0 then (if a0≤a2 then (some true) else (if a2≤a0 then (some (decide (a0≤a1))) else (some false))) else (if a2≤a0 then (some (decide (a0≤a1))) else (some false)))=some r:=h
 clear h
 apply iC H<;>clear H<;>intro aA H
 ·apply iC H<;>clear H<;>intro bA H
  ·obtain rfl:=Option.some.inj H
   go_enter Try.func79,Try.ntmps79
   go_wp2
   go_ret
   exact ⟨by first|rfl|(simp;done)|(simp [*];done),by repeat (first|exact Drawn0.refl _|apply Drawn0.step)⟩
  ·apply iC H<;>clear H<;>intro cA H
   ·obtain rfl:=Option.some.inj H
    go_enter Try.func79,Try.ntmps79
    go_wp2
    go_ret
    exact ⟨by first|rfl|(simp;done)|(simp [*];done),by repeat (first|exact Drawn0.refl _|apply Drawn0.step)⟩
   ·obtain rfl:=Option.some.inj H
    go_enter Try.func79,Try.ntmps79
    go_wp2
    go_ret
    exact ⟨by first|rfl|(simp;done)|(simp [*];done),by repeat (first|exact Drawn0.refl _|apply Drawn0.step)⟩
 ·apply iC H<;>clear H<;>intro dA H
  ·obtain rfl:=Option.some.inj H
   go_enter Try.func79,Try.ntmps79
   go_wp2
   go_ret
   exact ⟨by first|rfl|(simp;done)|(simp [*];done),by repeat (first|exact Drawn0.refl _|apply Drawn0.step)⟩
  ·obtain rfl:=Option.some.inj H
   go_enter Try.func79,Try.ntmps79
   go_wp2
   go_ret
   exact ⟨by first|rfl|(simp;done)|(simp [*];done),by repeat (first|exact Drawn0.refl _|apply Drawn0.step)⟩
end Go.Proofs.Ytbonkedecfjmdaa.P
