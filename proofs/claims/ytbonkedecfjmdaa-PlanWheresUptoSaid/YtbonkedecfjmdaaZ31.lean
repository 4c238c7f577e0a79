/- Written for this claim by a program of this session (a turned copy of the print): Go functions as Lean functions, and that the Go code comes to just these answers; or a statement proved out of them. No condition. plan.Areas' value. The document's arcs; how long a map is. No condition. The document's points of arcs: the same. No condition. Rings: twice the area, as the document's function answers. Rings: whether a point lies in one, as the document's function answers. -/
import Derived.Test.YtbonkedecfjmdaaZ2
import Derived.Test.YtbonkedecfjmdaaZ19
import Derived.Test.YtbonkedecfjmdaaZ14
import Derived.Test.YtbonkedecfjmdaaZ27
import Derived.Test.YtbonkedecfjmdaaZ16
import Derived.Test.YtbonkedecfjmdaaZ30
import Derived.Test.YtbonkedecfjmdaaZ3
import Derived.Test.YtbonkedecfjmdaaZ4
import Derived.Test.YtbonkedecfjmdaaZ7
import Derived.Test.YtbonkedecfjmdaaZ17
import Derived.Test.YtbonkedecfjmdaaZ23
import Derived.Test.YtbonkedecfjmdaaZ9

namespace Go.Proofs.Ytbonkedecfjmdaa.P
open Go.RowKit Go.Proofs.YtbonkedecfjmdaaW.PrintWords Go.Proofs.YtbonkedecfjmdaaW.PrintLast Go.Proofs.YtbonkedecfjmdaaW.PrintMore Go.Proofs.Ytbonkedecfjmdaa.X
attribute [local go_sem] Q2b Q2a Q2m Q2n Q1y Q1z Q19 Q18 Q2l Q2k add64
set_option linter.unusedVariables false
set_option linter.unusedSimpArgs false
mutual
def Q1e.l0:Nat→List (S50)→List (List Int)→Int→Int→List (List (S27))→List (List Int)→List (List Int)→Option ((List (S50))×Int)
 | 0,_,_,_,_,_,_,_=>none
 | k+1,x5,x19,x20,x21,x674000,x674001,x674002=>if x21<x20 then (if 0≤x21 then (if x21<(x19.length:Int) then (Q1e.l1 k x5 x19 x20 x21 (Q09 x19 x21) ((Q09 x19 x21).length:Int) 0 x674000 x674001 x674002 0 0) else (none)) else (none)) else (some (x5,0))
def Q1e.l1:Nat→List (S50)→List (List Int)→Int→Int→List Int→Int→Int→List (List (S27))→List (List Int)→List (List Int)→Int→Int→Option ((List (S50))×Int)
 | 0,_,_,_,_,_,_,_,_,_,_,_,_=>none
 | k+1,x5,x19,x20,x21,x25,x26,x27,x674000,x674001,x674002,x677000,x677001=>if x27<x26 then (if 0≤x27 then (if x27<(x25.length:Int) then ((Q1t.f k x674000 x674001 x674002 (rd x25 x27)).bind fun aD=>((Q1v.f k aD.1).bind fun sB=>((Q1k.f k x677000 x677001 (([(⟨sB.1,sB.2⟩:S50)]:List (S50)))).bind fun qA=>(Q1e.l1 k x5 x19 x20 x21 x25 x26 (wrap64 (x27+1)) x674000 x674001 x674002 qA.1 qA.2)))) else (none)) else (none)) else (if x5.length<8796093022208 then (Q1e.l0 k (x5++[(⟨x677000,x677001⟩:S50)]) x19 x20 (wrap64 (x21+1)) x674000 x674001 x674002) else (none))
end
def Q1e.f (k:Nat) (gA:List (List (S27))) (hA:List (List Int)) (eA:List (List Int)):Option ((List (S50))×Int):=(Q0y.f k gA hA eA).bind fun nA=>(if nA=0 then (Q1e.l0 k ([]:List (S50)) eA (eA.length:Int) 0 gA hA eA) else (some (([]:List (S50)),nA)))
theorem Q1e.Q08:∀ k,(∀ y0 y1 y2 y3 y4 y5 y6,LeO (Q1e.l0 k y0 y1 y2 y3 y4 y5 y6) (Q1e.l0 (k+1) y0 y1 y2 y3 y4 y5 y6))∧(∀ y0 y1 y2 y3 y4 y5 y6 y7 y8 y9 y10 y11,LeO (Q1e.l1 k y0 y1 y2 y3 y4 y5 y6 y7 y8 y9 y10 y11) (Q1e.l1 (k+1) y0 y1 y2 y3 y4 y5 y6 y7 y8 y9 y10 y11))
 | 0=>⟨fun _ _ _ _ _ _ _ r h=>by simp [Q1e.l0] at h,fun _ _ _ _ _ _ _ _ _ _ _ _ r h=>by simp [Q1e.l1] at h⟩
 | k+1=>by
  obtain ⟨hE,iE⟩:=Q1e.Q08 k
  refine ⟨?_,?_⟩
  all_goals
   intros
   first|unfold Q1e.l0|unfold Q1e.l1
   repeat' with_reducible first|exact hE _ _ _ _ _ _ _|exact iE _ _ _ _ _ _ _ _ _ _ _ _|exact Q1v.mono _ _|exact Q0y.mono _ _ _ _|exact Q1t.mono _ _ _ _ _|exact Q1k.mono _ _ _ _|exact LeO.refl _|exact LeO.none _|refine LeO.ite ?_ ?_|refine LeO.bind ?_ (fun _ => ?_)
theorem Q1e.mono:∀ a0 a1 a2 k,LeO (Q1e.f k a0 a1 a2) (Q1e.f (k+1) a0 a1 a2):=by
 intro a0 a1 a2 k
 obtain ⟨hE,iE⟩:=Q1e.Q08 k
 unfold Q1e.f
 repeat' with_reducible first|exact hE _ _ _ _ _ _ _|exact iE _ _ _ _ _ _ _ _ _ _ _ _|exact Q1v.mono _ _|exact Q0y.mono _ _ _ _|exact Q1t.mono _ _ _ _ _|exact Q1k.mono _ _ _ _|exact LeO.refl _|exact LeO.none _|refine LeO.ite ?_ ?_|refine LeO.bind ?_ (fun _ => ?_)
set_option maxHeartbeats 8000000 in
set_option maxRecDepth 100000 in
theorem Q1e.calls (k:Nat) (rA:Option Addr) (sA:Nat) (gA:List (List (S27))) (tA:Option Addr) (uA:Nat) (hA:List (List Int)) (iB:Option Addr) (vA:Nat) (eA:List (List Int)) (r1:List (S50)) (r2:Int) (w:World) (tB:Kd.C (Kd.slice 27 k27) w rA gA.length gA) (uB:gA.length≤sA) (vB:Kd.C (Kd.slice 3 (Kd.int .i64)) w tA hA.length hA) (wB:hA.length≤uA) (xB:Kd.C (Kd.slice 3 (Kd.int .i64)) w iB eA.length eA) (yB:eA.length≤vA) (h:Q1e.f k gA hA eA=some (r1,r2)) :
  Calls Try.prog 17 #[.agg #[.slice rA gA.length sA,.slice tA hA.length uA,.slice iB eA.length vA]] w fun e w'=>∃ v0_:Value,e=.returned (.tuple #[v0_,.int .i64 r2])∧Kd.R k50 50 w' w.heap.size (fun _=>True) v0_ r1∧Below w.heap.size w w':=by
 have nF:=Try.underlying25
 have oF:=Try.underlying50
 have zB:=AM tB
 have aC:=AM uB
 clear tB uB
 have cC:=AM vB
 have dC:=AM wB
 clear vB wB
 have jB:=AM xB
 have eC:=AM yB
 clear xB yB
 have HB:=AM (Below.refl w.heap.size w)
 have H:((Q0y.f k gA hA eA).bind fun nA=>(if nA=0 then (Q1e.l0 k ([]:List (S50)) eA (eA.length:Int) 0 gA hA eA) else (some (([]:List (S50)),nA))))=some (r1,r2):=h
 clear h
 obtain ⟨nA,A2,H⟩:=bS H
 have xE:=AM H
 clear H
 go_enter Try.func17,Try.ntmps17
 go_upto_if 16 with (first|((with_reducible refine Q0i (N:=1) rfl ?_);refine bE 1 #[.slice rA gA.length sA,.slice tA hA.length uA,.slice iB eA.length vA] 25 ?_;intro lB hg w4 hbox hb;have dA:=AM hbox;have bD:=kG HB hg;replace HB:=kH HB hb;have yE:=bD;clear hb hbox hg;obtain ⟨gC,hC,jC,kC,lC,mC⟩:=c3 dA)|((with_reducible refine Q0o (f:=31) rfl ?_);refine gL (some 14) Try.func31 #[.agg #[.slice rA gA.length sA,.slice tA hA.length uA,.slice iB eA.length vA]] ?_;(with_reducible refine (Q0y.calls k _ _ gA _ _ hA _ _ eA nA _ ?side1 ?side2 ?side3 ?side4 ?side5 ?side6 A2.out).mono ?_);(case side1=>exact sC zB HB);(case side2=>exact aC.out);(case side3=>exact sC cC HB);(case side4=>exact dC.out);(case side5=>exact sC jB HB);(case side6=>exact eC.out);rintro e w6 ⟨rfl,hb⟩;refine ⟨_,rfl,?_⟩;replace dA:=kB dA hb;replace HB:=kH HB hb;clear hb))
 (try simp only [Act.put,List.setIfInBounds_toArray,List.set_cons_zero,List.set_cons_succ])
 have H:=xE.out;clear xE
 by_cases c7:nA=0
 ·rw [if_pos c7] at H
  have gB:(nA==0)=true:=beq_iff_eq.mpr c7
  have nB:(nA != 0)=false:=bne_eq_false_iff_eq.mpr c7
  clear c7
  (first|rw [gB]|(simp only [Q1s,Q13];rw [gB])|skip)
  (try rw [nB])
  have H':=AM H
  clear H;obtain ⟨nC,oC,pC,qC,rC,tC⟩:=c3 dA
  go_wp2
  go_loopg [5,21] k (fun kq v5 pF w'=>∃ (oA:List (S50)) (fA:Int),pF=.int .i64 fA∧Aside0 (Q1e.l0 kq oA eA (eA.length:Int) fA gA hA eA=some (r1,r2))∧Aside0 (kq≤k)∧Aside0 (Kd.R k50 50 w' w.heap.size (fun _=>True) v5 oA)∧Aside0 (w'.heap[lB]? = some (.cells #[(.slice rA gA.length sA),(.slice tA hA.length uA),(.slice iB eA.length vA)] 25 (0,0)))∧Aside0 (Below w.heap.size w w'))
  case atStart=>exact ⟨(([]:List (S50))),(0),rS,H',⟨Nat.le_refl _⟩,⟨by first|exact Kd.Q3j _ _ _ _ _|exact Kd.Q3y _ _ _ _ _|exact Kd.Q3w _ _ _ _ _|exact Kd.Q3v _ _ _ _ _|exact Kd.Q3u _ _ _ _ _⟩,⟨bK dA⟩,⟨ bH HB⟩⟩
  case round =>
   clear H'
   clear gB nB gC hC jC nC oC pC kC lC mC qC rC tC
   obtain ⟨oA,fA,rfl,HA,nD,HO_5,dA,HB⟩:=hrel
   cases gk with
   | zero=>exact absurd HA.out (by simp [Q1e.l0])
   | succ k1 =>
    have H:=HA.out;clear HA
    simp only [Q1e.l0] at H
    apply iC H<;>clear H<;>intro jE H
    ·apply iN H;clear H;intro cD H
     ·apply iN H;clear H;intro dD H
      ·have H':=AM H
       clear H
       have oB:0≤(fA:Int):=pD
       have pB:fA<(eA.length:Int):=pD
       obtain ⟨mB,kE,lE,mE,pA,cB,eB⟩:=Q3g jB.out fA oB pB
       cases mE
       replace pA:=hW HB pA
       have qB:=AM eB
       have oD:=AM cB
       clear eB cB;replace oB:=eq_true oB;replace pB:=eq_true pB
       go_wp2_with (first|((with_reducible refine Q0i (N:=8) rfl ?_);refine bE 8 #[.int .i64 0,.int .u64 0] 50 ?_;intro iA hg aG hbox hb;replace HO_5:=AM (Kd.Q47 (Kd.Qdz (rK HO_5) iA (Nat.le_of_eq hg.symm)) hb);have cA:=AM hbox;have eD:=kG HB hg;replace HB:=kH HB hb;have zE:=eD;have kA:=kN dA hg;have lA:=kM dA hg;replace dA:=kB dA hb;clear hb hbox hg))
       go_loopg [27] k1 (fun kq qF w'=>∃ (mA:Int) (bA:Int) (aA:Int),qF=.int .i64 mA∧Aside0 (Q1e.l1 kq oA eA (eA.length:Int) fA (Q09 eA fA) ((Q09 eA fA).length:Int) mA gA hA eA bA aA=some (r1,r2))∧Aside0 (kq≤k1)∧Aside0 (Kd.R k50 50 w' w.heap.size (fun k_=>k_≠iA) u5 oA)∧Aside0 (w'.heap[lB]? = some (.cells #[(.slice rA gA.length sA),(.slice tA hA.length uA),(.slice (some mB) eA.length vA)] 25 (0,0)))∧Aside0 (w'.heap[iA]? = some (.cells #[.int .i64 bA,.int .u64 aA] 50 (0,0)))∧Aside0 (Below w.heap.size w w'))
       case atStart=>exact ⟨(0),(0),(0),rS,H',⟨Nat.le_refl _⟩,⟨by (with_reducible repeat (first|apply Kd.Q16|apply Kd.Q17|apply Kd.Q2p));exact Kd.Q1x HO_5.out (fun _ hk=>hk.2)⟩,⟨bK dA⟩,⟨bK cA⟩,⟨ bH HB⟩⟩
       case round =>
        clear H'
        clear jE cD dD pA oB pB
        obtain ⟨mA,bA,aA,rfl,HA,qD,HO_5,dA,cA,HB⟩:=hrel
        cases gk with
        | zero=>exact absurd HA.out (by simp [Q1e.l1])
        | succ k2 =>
         have H:=HA.out;clear HA
         simp only [Q1e.l1] at H
         apply iC H<;>clear H<;>intro bF H
         ·apply iN H;clear H;intro cF H
          ·apply iN H;clear H;intro dF H
           ·obtain ⟨⟨uC,nE⟩,rF,H⟩:=bS H
            try dsimp only at H
            obtain ⟨⟨zA,bB⟩,sF,H⟩:=bS H
            try dsimp only at H
            obtain ⟨vC,wA⟩:∃ y_:List (S50),y_=(([(⟨zA,bB⟩:S50)]:List (S50))):=⟨_,rfl⟩
            replace H:((Q1k.f k2 bA aA vC).bind fun qA=>(Q1e.l1 k2 oA eA (eA.length:Int) fA (Q09 eA fA) ((Q09 eA fA).length:Int) (wrap64 (mA+1)) gA hA eA qA.1 qA.2))=some (r1,r2):=by first|(rw [wA];with_reducible exact H)|(have wC:=(Option.bind_some _ _).symm.trans H;rw [wA];with_reducible exact wC)|(have wC:=(Option.bind_some _ _).symm.trans H;with_reducible exact wC)|with_reducible exact H|(rw [wA];exact H)|exact H
            have fC:=AM wA
            clear wA
            obtain ⟨⟨rB,xC⟩,tF,H⟩:=bS H
            try dsimp only at H
            have H':=AM H
            clear H
            have yC:0≤(mA:Int):=pD
            have zC:mA<((Q09 eA fA).length:Int):=pD
            obtain ⟨eF,oE,fB⟩:=Kd.Q2j qB.out mA yC zC
            cases oE
            replace fB:=hW HB fB;replace yC:=eq_true yC;replace zC:=eq_true zC;have fF:=kA.out;have gF:=lA.out;obtain ⟨rD,sD,tD,uD,vD,wD⟩:=c3 dA
            try go_wp2_with (first|((with_reducible refine Q0o (f:=33) rfl ?_);refine gL (some 34) Try.func33 #[.agg #[.slice rA gA.length sA,.slice tA hA.length uA,.slice (some mB) eA.length vA],.int .i64 (rd (Q09 eA fA) mA)] ?_;(with_reducible refine (Q1t.calls k2 _ _ gA _ _ hA _ _ eA (rd (Q09 eA fA) mA) uC nE _ ?side1 ?side2 ?side3 ?side4 ?side5 ?side6 rF.out).mono ?_);(case side1=>exact sC zB HB);(case side2=>exact aC.out);(case side3=>exact sC cC HB);(case side4=>exact dC.out);(case side5=>exact sC jB HB);(case side6=>exact eC.out);rintro e uF ⟨vF,rfl,hF,hb⟩;refine ⟨_,rfl,?_⟩;replace HO_5:=kR HO_5 hb;have jA:=AM (Kd.Q1a hF (Q0h (bH HB)));replace dA:=kB dA hb;replace cA:=kB cA hb;replace HB:=kH HB hb;clear hb hF))
            replace HO_5:=dR HO_5;replace jA:=dR jA;replace dA:=dB dA;replace cA:=dB cA;replace HB:=dH HB
            obtain ⟨pE,qE,fD⟩:=Kd.Q02 jA.out
            (first|subst fD|(injection fD with gD sE hD;have tE:=gD.symm;have uE:=hD.symm;clear gD sE hD;subst tE;subst uE))
            refine sP 6 (S:=fun w'=>w'.cell? ⟨iA,0,none⟩=some (.int .i64 bA)∧w'.cell? ⟨iA,1,none⟩=some (.int .u64 aA)) (ds:=[5]) ⟨bC cA,bC cA⟩ fun hHeld => ?_
            generalize uF.drew=w22 at HO_5 jA dA cA HB hHeld ⊢
            refine pP 1 (some 38) ?_;refine tP 0 (some 37) hHeld ?_
            refine oP 2 (some 39) rfl fun K hK => ?_
            refine gO Try.func46 #[.slice pE uC.length qE] ?_
            with_reducible refine (Q1v.calls k2 _ _ uC zA bB _ ?side1 ?side2 sF.out).mono ?_
            (case side1=>exact sR jA)
            (case side2=>exact (Kd.Q0x jA.out).2.1)
            rintro e bG ⟨rfl,hb⟩
            refine ⟨_,rfl,?_⟩
            replace HO_5:=kR HO_5 hb;replace jA:=kR jA hb;replace dA:=kB dA hb;replace cA:=kB cA hb;replace HB:=kH HB hb;clear hb
            refine hK.out _ _ ⟨bC cA,bC cA⟩ (fun hHeld => ?_)
            clear hK K;refine nP (some 39) ?_
            refine oP 3 (some 40) rfl fun K hK => ?_
            refine Kd.Q7b k50 _ 50 ?hg (N:=40) ?hd (xs:=([(⟨zA,bB⟩:S50)]:List (S50))) (inner:=[.int .i64 zA,.int .u64 bB]) (ok:=fun _=>True) (okp:=fun _=>True) ?hr ?hp (fun _ hk=>hk) trivial (Below.refl _ _) (Nat.le_refl _) (by simp) ?_;(case hd=>rfl);(case hg=>rfl);(case hr=>first|(go_simp;done)|(go_simp;rfl));(case hp=>exact (Reps.c2 (show Kd.M k50 _ _ _ (⟨zA,bB⟩:S50) [.int .i64 zA,.int .u64 bB] from (Q7t _ _ _ (⟨zA,bB⟩:S50) )) (Reps.none _ _)))
            intro wF cG hB hb hg_ hnew_
            clear hg_ hnew_
            (first|rw [← fC.out] at hB|(simp only [Int.reduceToNat] at hB;rw [← fC.out] at hB))
            replace jA:=kR jA hb
            have xA:=AM (Kd.Q1a (Kd.Q2v (Kd.Q21 hB (Kd.R_lt (rK HO_5))) (g:=iA) (o:=.cells #[.int .i64 bA,.int .u64 aA] 50 (0,0)) (bK cA)) (Q0h (bH HB)))
            replace HO_5:=AM (Kd.Q2c (rK HO_5) (Kd.Q2q hB) hb)
            replace dA:=kB dA hb;replace cA:=kB cA hb;replace HB:=kH HB hb;clear hb hB
            obtain ⟨vE,wE,iD⟩:=Kd.Q02 xA.out
            (first|subst iD|(injection iD with gD sE hD;have tE:=gD.symm;have uE:=hD.symm;clear gD sE hD;subst tE;subst uE))
            refine hK.out _ _ ⟨bC cA,bC cA⟩ (fun hHeld => ?_)
            clear hK K;refine nP (some 40) ?_
            refine oP 4 (some 41) rfl fun K hK => ?_
            refine gO Try.func25 #[.agg #[.int .i64 bA,.int .u64 aA],.slice vE vC.length wE] ?_
            with_reducible refine (Q1k.calls k2 bA aA _ _ vC rB xC _ ?side1 ?side2 tF.out).mono ?_
            (case side1=>exact sR xA)
            (case side2=>exact (Kd.Q0x xA.out).2.1)
            rintro e iF ⟨rfl,hb⟩
            refine ⟨_,rfl,?_⟩
            replace HO_5:=kR HO_5 hb;replace jA:=kR jA hb;replace xA:=kR xA hb;replace dA:=kB dA hb;replace cA:=kB cA hb;replace HB:=kH HB hb;clear hb
            refine hK.out _ _ ⟨bC cA,bC cA⟩ (fun hHeld => ?_)
            clear hK K;refine nP (some 41) ?_
            refine lP 5 none rfl fun K hK => ?_
            have xF:iF.cell? ⟨iA,0,none⟩=some (.int .i64 bA):=bC cA
            have jF:=Q0k cA.out 0
            have xD:=kA.out;have yD:=lA.out
            have yF:iF.cell? ⟨iA,1,none⟩=some (.int .u64 aA):=bC cA
            have kF:=Q0k cA.out 1
            have zD:=kA.out;have aE:=lA.out
            refine skip_ (w1 := ?_) (by rfl) rfl ?_ ?_
            rotate_left
            ·go_simp
             rfl
            refine hK.out _ _ ?_
            clear hK K
            refine done_ (by kernel_rfl) ?_
            try go_wp2
            go_roundg k2
            case measure=>have:=nD.out;have:=qD.out;omega
            case rel=>exact ⟨(wrap64 (mA+1)),(rB),(xC),rS,H',⟨by have:=nD.out;have:=qD.out;omega⟩,⟨by (with_reducible repeat (first|apply Kd.Q16|apply Kd.Q17|apply Kd.Q2p));exact Kd.Q1x (Kd.Q4a (p:=⟨iA,1,none⟩) (Kd.Q4a (p:=⟨iA,0,none⟩) (Kd.Q1x HO_5.out (fun k_ hk=>(⟨hk,hk.1⟩:_∧k_≠iA))) (fun _ hk=>hk.2) (.int .i64 rB)) (fun _ hk=>hk.2) (.int .u64 xC)) (fun _ hk=>hk.1.1)⟩,⟨bK dA⟩,⟨by (with_reducible repeat (first|refine Q0c ?_ _|refine Q0e ?_|refine Q0b ?_ _));refine Q0t (cs:=#[.int .i64 rB,.int .u64 aA]) ?_ 1 _ rfl;(with_reducible repeat (first|refine Q0c ?_ _|refine Q0e ?_|refine Q0b ?_ _));refine Q0t (cs:=#[.int .i64 bA,.int .u64 aA]) ?_ 0 _ rfl;(with_reducible repeat (first|refine Q0c ?_ _|refine Q0e ?_|refine Q0b ?_ _));exact cA.out⟩,⟨ bH HB⟩⟩
         ·by_cases cE:oA.length<8796093022208
          ·rw [if_pos cE] at H
           have jD:=AM cE
           clear cE
           obtain ⟨kD,yA⟩:∃ y_:List (S50),y_=(oA++[(⟨bA,aA⟩:S50)]):=⟨_,rfl⟩
           replace H:(Q1e.l0 k2 kD eA (eA.length:Int) (wrap64 (fA+1)) gA hA eA)=some (r1,r2):=by first|(rw [yA];with_reducible exact H)|(have wC:=(Option.bind_some _ _).symm.trans H;rw [yA];with_reducible exact wC)|(have wC:=(Option.bind_some _ _).symm.trans H;with_reducible exact wC)|with_reducible exact H|(rw [yA];exact H)|exact H
           have lD:=AM yA
           clear yA
           have H':=AM H
           clear H;have lF:=lA.out;have mF:=kA.out;obtain ⟨dE,eE,fE,gE⟩:=c2 cA
           go_wp2_with (first|((with_reducible refine Q1u (b:=.append) (xs:=#[.tmp 43,.tmp 45]) rfl ?_);at_builtin;refine Kd.Q3h k50 (w0:=w) w.heap.size rfl (.tmp 43) (.tmp 45) 39 50 (.agg #[(.int .i64 0),(.int .u64 0)]) 16 rfl Try.underlying39 info50 rfl (by decide) (by omega) u5 oA (⟨bA,aA⟩:S50) [.int .i64 bA,.int .u64 aA] (fun k_=>k_≠iA) (fun _=>False) rfl rfl ?aP (fun _ hk=>hk.elim) ?aF ?aO ?aB ?aS ?aL ?_;(case aP=>exact Q7t _ _ _ (⟨bA,aA⟩:S50));(case aB=>exact (bH HB));(case aF=>exact (fun k_ hk=>Kd.freshB (g:=iA) (o:=.cells #[.int .i64 bA,.int .u64 aA] 50 (0,0)) (bK cA) k_ hk));(case aO=>exact (rK HO_5));(case aS=>exact (Q0h (bH HB)));(case aL=>have:=jD.out;omega);intro zF dG ho hb hg hat;rw [← lD.out] at ho;replace dA:=AM (Q1w (g:=lB) (o:=.cells #[.slice rA gA.length sA,.slice tA hA.length uA,.slice (some mB) eA.length vA] 25 (0,0)) (bK dA) hg (Kd.R_ne HO_5.out dA.out (by decide)));replace cA:=AM (Q1w (g:=iA) (o:=.cells #[.int .i64 bA,.int .u64 aA] 50 (0,0)) (bK cA) hg (Kd.Q50 HO_5.out (fun _ hk=>hk)));replace HB:=AM hb;have mD:=AM ho;clear HO_5;clear ho hb hg hat))
           go_roundg k2
           case measure=>have:=nD.out;have:=qD.out;omega
           case rel=>exact ⟨(kD),(wrap64 (fA+1)),rS,H',⟨by have:=nD.out;have:=qD.out;omega⟩,⟨by (with_reducible repeat (first|apply Kd.Q16|apply Kd.Q17|apply Kd.Q2p));exact Kd.Q1x mD.out (fun _ hk=>trivial)⟩,⟨bK dA⟩,⟨ bH HB⟩⟩
          ·rw [if_neg cE] at H
           exact absurd H (by simp)
    ·simp only [Option.some.injEq,Prod.mk.injEq] at H
     obtain ⟨rfl,rfl⟩:=H
     go_wp2
     go_ret2
     exact ⟨_,rE,rK HO_5,bH HB⟩
 ·rw [if_neg c7] at H
  have gB:(nA==0)=false:=beq_eq_false_iff_ne.mpr c7
  have nB:(nA != 0)=true:=bne_iff_ne.mpr c7
  (first|rw [gB]|(simp only [Q1s,Q13];rw [gB])|skip)
  (try rw [nB])
  simp only [Option.some.injEq,Prod.mk.injEq] at H
  obtain ⟨rfl,rfl⟩:=H
  go_wp2
  go_ret2
  exact ⟨_,rE,by first|exact Kd.Q3j _ _ _ _ _|exact Kd.Q3y _ _ _ _ _|exact Kd.Q3w _ _ _ _ _|exact Kd.Q3v _ _ _ _ _|exact Kd.Q3u _ _ _ _ _,bH HB⟩
end Go.Proofs.Ytbonkedecfjmdaa.P

namespace Go.Proofs.Ytbonkedecfjmdaa.Pl
set_option linter.unusedVariables false
set_option linter.unusedSimpArgs false
open Go Go.RowKit Go.Proofs.Ytbonkedecfjmdaa.P Go.Proofs.Ytbonkedecfjmdaa.G Go.Proofs.Ytbonkedecfjmdaa.WL Go.Proofs.YtbonkedecfjmdaaW.PrintWords Go.Proofs.YtbonkedecfjmdaaW.PrintLast Go.Proofs.YtbonkedecfjmdaaW.PrintMore
def polyA (m:List (List Pt)) (r:List (List Int)) (l:List Int):Int:=(l.map fun k=>areaV (ringAt m r k).1).sum
theorem Qc4 {m:List (List Pt)} {r:List (List Int)} (hs:Small m r) (p:List (List Int)) (x5:List S50) (h5:x5.length<8796093022208) (x19:List (List Int)) (x20 x21:Int) (poly:List Int) (hpl:poly.length≤100000000) (R:List S50×Int):∀ (n i:Nat) (x:Int),i+n=poly.length →
  Ev (fun k=>Q1e.l0 k (x5++[num (x+polyA m r (poly.drop i))]) x19 x20 (wrap64 (x21+1)) m r p) R→Ev (fun k=>Q1e.l1 k x5 x19 x20 x21 poly (poly.length:Int) (i:Int) m r p (hiw x) (low x)) R:=by
 intro n
 induction n with
 | zero =>
  intro i x hi h
  rw [List.drop_of_length_le (by omega)] at h
  refine Ev.step (fun k => ?_) h
  conv=>lhs;unfold Q1e.l1
  rw [if_neg (by omega),if_pos h5]
  simp [polyA,num]
 | succ n ih =>
  intro i x hi h
  have hlt:i<poly.length:=by omega
  have hd:polyA m r (poly.drop i)=areaV (ringAt m r poly[i]).1+polyA m r (poly.drop (i+1)):=by unfold polyA;rw [List.drop_eq_getElem_cons hlt,List.map_cons,List.sum_cons]
  rw [hd,← Int.add_assoc] at h
  have nx:=ih (i+1) (x+areaV (ringAt m r poly[i]).1) (by omega) h
  refine Ev.step (f:=fun k=>(Q1t.f k m r p poly[i]).bind fun bt806=>((Q1v.f k bt806.1).bind fun bt810=>((Q1k.f k (hiw x) (low x) (([(⟨bt810.1,bt810.2⟩:S50)]:List (S50)))).bind fun bt815=>(Q1e.l1 k x5 x19 x20 x21 poly (poly.length:Int) ((i+1:Nat):Int) m r p bt815.1 bt815.2)))) (fun k => ?_) ?_
  ·conv=>lhs;unfold Q1e.l1
   rw [if_pos (by omega),if_pos (by omega),if_pos (by omega),nxt i (by omega),show rd poly (i:Int)=poly[i] by simp [rd,List.getD,List.getElem?_eq_getElem hlt]]
  ·refine Ev.bind (Q5s hs p poly[i]) ?_
   refine Ev.bind (Q81 _ (by have:=Q33 hs poly[i];omega)) ?_
   refine Ev.bind (Q9i x (areaV (ringAt m r poly[i]).1)) ?_
   exact nx
def outA (m:List (List Pt)) (r p:List (List Int)):List S50:=(p.map (polyA m r)).map num
theorem Qda (m:List (List Pt)) (r p:List (List Int)):(outA m r p).length=p.length:=by simp [outA]
theorem Qd4 {m:List (List Pt)} {r:List (List Int)} (hs:Small m r) (p:List (List Int)) (hp:p.length≤100000000) (hpx:∀ x∈p,x.length≤100000000):∀ (n i:Nat),i+n=p.length →
  Ev (fun k=>Q1e.l0 k (outA m r (p.take i)) p (p.length:Int) (i:Int) m r p) (outA m r p,0):=by
 intro n
 induction n with
 | zero =>
  intro i hi
  refine Ev.step (f:=fun _=>some (outA m r p,0)) (fun k => ?_) (Ev.now _)
  conv=>lhs;unfold Q1e.l0
  rw [if_neg (by omega),List.take_of_length_le (by omega)]
 | succ n ih =>
  intro i hi
  have hlt:i<p.length:=by omega
  have hx:=hpx _ (List.getElem_mem hlt)
  refine Ev.step (f:=fun k=>Q1e.l1 k (outA m r (p.take i)) p (p.length:Int) (i:Int) p[i] (p[i].length:Int) ((0:Nat):Int) m r p (hiw 0) (low 0)) (fun k => ?_) ?_
  ·conv=>lhs;unfold Q1e.l0
   rw [if_pos (by omega),if_pos (by omega),if_pos (by omega),show Q09 p (i:Int)=p[i] by simp [Q09,List.getD,List.getElem?_eq_getElem hlt]]
   rfl
  ·refine Qc4 hs p _ (by rw [Qda,List.length_take];omega) p (p.length:Int) (i:Int) p[i] hx _ p[i].length 0 0 (by omega) ?_
   rw [nxt i (by omega),List.drop_zero,Int.zero_add]
   have e:outA m r (p.take i)++[num (polyA m r p[i])]=outA m r (p.take (i+1)):=by
    have e2:p.take (i+1)=p.take i++[p[i]]:=by rw [List.take_add_one,List.getElem?_eq_getElem hlt];rfl
    unfold outA
    rw [e2,List.map_append,List.map_append]
    rfl
   rw [e]
   exact ih (i+1) (by omega)
def areasO (m:List (List Pt)) (r p:List (List Int)):List S50:=if checkV m r p=0 then outA m r p else []
theorem Q5m {m:List (List Pt)} {r p:List (List Int)} (h:checkV m r p=0):arcsV m=0∧longV m r p=false:=by
 unfold checkV at h
 split at h
 ·cases h
 ·rename_i hn
  split at h
  ·rename_i h0
   exact absurd h h0
  ·rename_i h0
   refine ⟨by simpa using h0,?_⟩
   cases hl:longV m r p with
   | false=>rfl
   | true=>exact absurd (.inr hl) hn
theorem Q5b {m:List (List Pt)} {r p:List (List Int)} (h:checkV m r p=0):(m.length≤2000∧∀ x∈m,x.length≤20000)∧r.length≤1000∧p.length≤1000∧r.flatten.length≤20000∧p.flatten.length≤20000:=by
 obtain ⟨h1,h2⟩:=Q5m h
 unfold longV at h2
 simp only [Bool.or_eq_false_iff,decide_eq_false_iff_not] at h2
 obtain ⟨l1,l2,l3,l4⟩:=h2
 exact ⟨Q5h h1,by omega,by omega,by omega,by omega⟩
theorem Qhy (m:List (List Pt)) (r p:List (List Int)) (hm:m.length≤1048576) (hx:∀ a∈m,a.length≤1048576) (hr:r.length≤1048576) (hrf:r.flatten.length≤1048576) (hp:p.length≤1048576) (hpf:p.flatten.length≤1048576) (hwf:∀ x∈r,∀ n∈x,wf64 n):Ev (fun k=>Q1e.f k m r p) (areasO m r p,checkV m r p):=by
 unfold Q1e.f
 refine Ev.bind (Q91 m r p hm hx hr hrf hp hpf hwf) ?_
 unfold areasO
 by_cases h:checkV m r p=0
 ·obtain ⟨⟨s1,s2⟩,s3,s4,s5,s6⟩:=Q5b h
  have hs:Small m r:=⟨s2,by omega,s5,hwf⟩
  simp only [if_pos h,h]
  have:=Qd4 hs p (by omega) (fun x hx=>Nat.le_trans (Q3m p x hx) (by omega)) p.length 0 (by omega)
  exact this
 ·simp only [if_neg h]
  exact Ev.now _
end Go.Proofs.Ytbonkedecfjmdaa.Pl

namespace Go.Proofs.Ytbonkedecfjmdaa.Gr
set_option linter.unusedVariables false
set_option linter.unusedSimpArgs false
open Go.RowKit Go.Proofs.Ytbonkedecfjmdaa.P Go.Proofs.YtbonkedecfjmdaaW.PrintWords Go.Proofs.YtbonkedecfjmdaaW.PrintLast Go.Proofs.YtbonkedecfjmdaaW.PrintMore
theorem Qev (x:Int) (a:List Pt) (hl:a.length<5864062014805):∀ (n i:Nat) (b:List Pt),i+n=a.length→b.length≤i →
  Ev (fun k=>Q1d.l0 k x b a (i:Int)) (b++(if x<0 then a.reverse else a).drop i,0):=by
 intro n
 induction n with
 | zero =>
  intro i b hi _
  refine Ev.step (fun k=>Q1d.l0.eq_2 _ _ _ _ _) ?_
  simp only [if_neg (show ¬ ((i:Int)<(a.length:Int)) by omega)]
  rw [List.drop_of_length_le (by split<;>(first|omega|(rw [List.length_reverse];omega))),List.append_nil]
  exact Ev.now _
 | succ n ih =>
  intro i b hi hb
  have h1:i<a.length:=by omega
  refine Ev.step (fun k=>Q1d.l0.eq_2 _ _ _ _ _) ?_
  by_cases h:x<0
  ·have I:=ih (i+1) (b++[a[a.length - 1 - i]]) (by omega) (by rw [List.length_append,List.length_singleton];omega)
   have e:wrap64 (wrap64 ((a.length:Int) - 1) - (i:Int))=((a.length - 1 - i:Nat):Int):=by
    rw [Q2t (x:=(a.length:Int) - 1) (by omega) (by omega),Q2t (by omega) (by omega)];omega
   simp only [if_pos h] at I ⊢
   simp only [if_pos (show (i:Int)<(a.length:Int) by omega),e,if_pos (show (0:Int)≤((a.length - 1 - i:Nat):Int) by omega),if_pos (show ((a.length - 1 - i:Nat):Int)<(a.length:Int) by omega),if_pos (show b.length<5864062014805 by omega),rdp a (a.length - 1 - i) (by omega),Q2t (x:=(i:Int)+1) (by omega) (by omega)]
   have I':(b++[a[a.length - 1 - i]])++a.reverse.drop (i+1)=b++a.reverse.drop i:=by
    rw [List.drop_eq_getElem_cons (show i<a.reverse.length by simpa using h1),List.getElem_reverse,List.append_assoc];rfl
   rw [I'] at I
   exact I
  ·have I:=ih (i+1) (b++[a[i]]) (by omega) (by rw [List.length_append,List.length_singleton];omega)
   simp only [if_neg h] at I ⊢
   simp only [if_pos (show (i:Int)<(a.length:Int) by omega),if_pos (show (0:Int)≤(i:Int) by omega),if_pos (show b.length<5864062014805 by omega),rdp a i h1,Q2t (x:=(i:Int)+1) (by omega) (by omega)]
   have I':(b++[a[i]])++a.drop (i+1)=b++a.drop i:=by
    rw [List.drop_eq_getElem_cons h1,List.append_assoc];rfl
   rw [I'] at I
   exact I
theorem Q9o (m:List (List Pt)) (r p:List (List Int)) (n:Int) (h1 : -9223372036854775808≤n) (h2:n≤9223372036854775807) (hm:∀ x∈m,x.length<5864062014805) :
  Ev (fun k=>Q1d.f k m r p n) (match arcB m n with|some l=>(l,0)|none=>([],2)):=by
 have key:∀ i:Nat,(n=(i:Int)∨n = -1 - (i:Int))→Ev (fun k=>Q1d.j0 k n [] (i:Int) m r p) (match m[i]? with|some l=>((if n<0 then l.reverse else l),0)|none=>([],2)):=by
  intro i hi
  refine Ev.step (fun k=>Q1d.j0.eq_2 _ _ _ _ _ _ _) ?_
  simp only [if_neg (show ¬ ((i:Int)<0) by omega)]
  refine Ev.step (fun k=>Q1d.j1.eq_2 _ _ _ _ _ _ _ _) ?_
  by_cases hl:i<m.length
  ·simp only [decide_eq_false (show ¬ ((i:Int)≥(m.length:Int)) by omega),Bool.false_eq_true,if_false,if_pos (show (0:Int)≤(i:Int) by omega),if_pos (show (i:Int)<(m.length:Int) by omega),rdl m i hl,List.getElem?_eq_getElem hl]
   have h:=Qev n m[i] (hm _ (List.getElem_mem hl)) m[i].length 0 [] (by omega) (by simp)
   simpa using h
  ·simp only [decide_eq_true (show ((i:Int)≥(m.length:Int)) by omega),if_true,List.getElem?_eq_none (show m.length≤i by omega)]
   exact Ev.now _
 unfold Q1d.f arcB
 by_cases h:n<0
 ·obtain ⟨i,hi⟩:=Int.eq_ofNat_of_zero_le (show 0 ≤ -1 - n by omega)
  have K:=key i (.inr (by omega))
  simp only [if_pos h,if_neg (show ¬ 0≤n by omega)] at K ⊢
  rw [Q2t (x := -1 - n) (by omega) (by omega),hi,Int.toNat_natCast]
  cases hh:m[i]? <;> simp only [hh,Option.map_some,Option.map_none] at K ⊢ <;> exact K
 ·obtain ⟨i,rfl⟩:=Int.eq_ofNat_of_zero_le (show 0≤n by omega)
  have K:=key i (.inl rfl)
  simp only [if_neg h,if_pos (show 0≤(i:Int) by omega),Int.toNat_natCast] at K ⊢
  exact K

def okNext (L:List (List Pt)) (i:Nat):Bool:=eqP (lastP (Q0d L (i:Int))) (headP (Q0d L (((i+1) % L.length:Nat):Int)))
theorem Qhp (L:List (List Pt)):(∀ i,i<L.length→okAt L i=true)↔(∀ i,i<L.length→okNext L i=true):=by
 constructor
 ·intro h i hi
  have h1:=h ((i+1) % L.length) (Nat.mod_lt _ (by omega))
  unfold okAt at h1
  have e:((i+1) % L.length+L.length - 1) % L.length=i:=by
   by_cases hq:i+1=L.length
   ·rw [hq,Nat.mod_self,Nat.zero_add,Nat.mod_eq_of_lt (by omega)];omega
   ·rw [Nat.mod_eq_of_lt (show i+1<L.length by omega),show i+1+L.length - 1=i+L.length by omega,Nat.add_mod_right,Nat.mod_eq_of_lt hi]
  rw [e] at h1
  exact h1
 ·intro h i hi
  have h1:=h ((i+L.length - 1) % L.length) (Nat.mod_lt _ (by omega))
  unfold okNext at h1
  have e:((i+L.length - 1) % L.length+1) % L.length=i:=by
   by_cases hq:i=0
   ·rw [hq,Nat.zero_add,Nat.mod_eq_of_lt (show L.length - 1<L.length by omega),show L.length - 1+1=L.length by omega,Nat.mod_self]
   ·rw [show i+L.length - 1=i - 1+L.length by omega,Nat.add_mod_right,Nat.mod_eq_of_lt (show i - 1<L.length by omega),show i - 1+1=i by omega,Nat.mod_eq_of_lt hi]
  rw [e] at h1
  exact h1
def nextFrom (L:List (List Pt)) (i n:Nat):Bool:=(List.range' i n).all (okNext L)
theorem Qe0 (m:List (List Pt)) (r p:List (List Int)) (B:Nat) (hb:B<5864062014805) (hm:∀ x∈m,x.length≤B) (refs:List Int) (hr:refs.length≤1000000000000) (hw:∀ x∈refs,-9223372036854775808≤x∧x≤9223372036854775807) (hs:refs.length*B<5864062014805)
  (L:List (List Pt)) (hL:arcsOf m refs=some L):∀ (n i:Nat),i+n=refs.length→Ev (fun k=>Q0f.l1 k refs (flatL (L.take i)) (i:Int) m r p) (if nextFrom L i n then (flatL L,0) else ([],90)):=by
 obtain ⟨hn,hg⟩:=Q59 m refs L hL
 have hlen:∀ a∈L,a.length≤B:=by
  intro a ha
  obtain ⟨j,hj,rfl⟩:=List.mem_iff_getElem.1 ha
  obtain ⟨x,hx,e⟩:=Q7s (hg j (by omega) hj).1
  have:=hm x hx;omega
 intro n
 induction n with
 | zero =>
  intro i hi
  refine Ev.step (fun k=>Q0f.l1.eq_2 _ _ _ _ _ _ _) ?_
  simp only [if_neg (show ¬ ((i:Int)<(refs.length:Int)) by omega)]
  rw [show i=L.length by omega,List.take_length]
  simp only [nextFrom,List.range'_zero,List.all_nil,if_true]
  exact Ev.now _
 | succ n ih =>
  intro i hi
  have h1:i<refs.length:=by omega
  have h2:i<L.length:=by omega
  have hk0:(i+1) % L.length<L.length:=Nat.mod_lt _ (by omega)
  have I:=ih (i+1) (by omega)
  obtain ⟨j,hj⟩:∃ j,(i+1) % L.length=j:=⟨_,rfl⟩
  have hk:j<L.length:=by rw [← hj];exact hk0
  have key:Ev (fun k=>Q0f.j2 k refs (flatL (L.take i)) (i:Int) ((j:Nat):Int) m r p) (if nextFrom L i (n+1) then (flatL L,0) else ([],90)):=by
   have hA:=Q9o m r p refs[i] (hw _ (List.getElem_mem h1)).1 (hw _ (List.getElem_mem h1)).2 (fun x hx=>by have:=hm x hx;omega)
   have hB:=Q9o m r p (refs[j]'(by omega)) (hw _ (List.getElem_mem _)).1 (hw _ (List.getElem_mem _)).2 (fun x hx=>by have:=hm x hx;omega)
   rw [(hg i h1 h2).1] at hA
   rw [(hg j (by omega) hk).1] at hB
   have p1:=(hg i h1 h2).2
   have p2:=(hg j (by omega) hk).2
   have b1:=hlen _ (List.getElem_mem h2)
   have hsp:nextFrom L i (n+1)=(okNext L i&&nextFrom L (i+1) n):=by unfold nextFrom;rw [List.range'_succ,List.all_cons]
   have hok:okNext L i=eqP (lastP L[i]) (headP L[j]):=by unfold okNext;rw [hj,rdl L i h2,rdl L j hk]
   have hfl:flatL (L.take (i+1))=flatL (L.take i)++L[i].dropLast:=by
    unfold flatL;rw [List.take_succ_eq_append_getElem h2,List.map_append,List.flatten_append];simp
   have hl2:(flatL (L.take (i+1))).length<5864062014805:=by
    have q1:=Q7r (L.take (i+1))
    have q2:=Q6x B L hlen
    have q3:((L.take (i+1)).map List.length).sum≤(L.map List.length).sum:=by
     rw [List.map_take]
     conv=>rhs;rw [← List.take_append_drop (i+1) (L.map List.length),List.sum_append]
     omega
    rw [hn] at q2
    omega
   rw [hfl,List.length_append,List.length_dropLast] at hl2
   refine Ev.step (fun k=>Q0f.j2.eq_2 _ _ _ _ _ _ _ _) ?_
   have hri:rd refs (i:Int)=refs[i]:=by unfold rd;simp [h1]
   have hrj:rd refs (j:Int)=refs[j]'(by omega):=by unfold rd;simp [show j<refs.length by omega]
   simp only [if_pos (show (0:Int)≤(i:Int) by omega),if_pos (show (i:Int)<(refs.length:Int) by omega),if_pos (show (0:Int)≤(j:Int) by omega),if_pos (show (j:Int)<(refs.length:Int) by omega),hri,hrj]
   refine Ev.bind hA ?_
   refine Ev.bind hB ?_
   simp only [Q2t (x:=(L[i].length:Int) - 1) (by omega) (by omega),Q2t (x:=(i:Int)+1) (by omega) (by omega),if_pos (show (0:Int)≤(L[i].length:Int) - 1 by omega),if_pos (show (L[i].length:Int) - 1<(L[i].length:Int) by omega),if_pos (show (0:Int)<(L[j].length:Int) by omega),if_pos (show (L[i].length:Int) - 1≤(L[i].length:Int) by omega)]
   rw [hsp,hok]
   by_cases hc:eqP (lastP L[i]) (headP L[j])=true
   ·have hc':=hc
    unfold eqP lastP headP at hc'
    simp only [Bool.and_eq_true] at hc'
    simp only [hc'.1,hc'.2.1,hc'.2.2,Bool.not_true,Bool.or_self,Bool.false_eq_true,if_false,hc,Bool.true_and,Option.bind_some,show ((L[i].length:Int) - 1).toNat=L[i].length - 1 by omega,← List.dropLast_eq_take,List.length_dropLast,if_pos hl2]
    rw [hfl] at I
    exact I
   ·have hc':=hc
    rw [Bool.not_eq_true] at hc
    have hd:(!((Q0a L[i] ((L[i].length:Int) - 1)).f0==(Q0a L[j] 0).f0) || (!((Q0a L[i] ((L[i].length:Int) - 1)).f1==(Q0a L[j] 0).f1) || (!((Q0a L[i] ((L[i].length:Int) - 1)).f2==(Q0a L[j] 0).f2))))=true:=by
     unfold eqP lastP headP at hc
     rw [← Bool.not_and,← Bool.not_and,hc];rfl
    simp only [hd,hc,Bool.false_and,Bool.false_eq_true,if_false,if_true]
    exact Ev.now _
  refine Ev.step (fun k=>Q0f.l1.eq_2 _ _ _ _ _ _ _) ?_
  simp only [if_pos (show (i:Int)<(refs.length:Int) by omega),Q2t (x:=(i:Int)+1) (by omega) (by omega)]
  by_cases hq:(i:Int)+1=(refs.length:Int)
  ·simp only [if_pos hq]
   rw [show j=0 by rw [← hj,hn,show i+1=refs.length by omega,Nat.mod_self]] at key
   exact key
  ·simp only [if_neg hq]
   rw [Nat.mod_eq_of_lt (show i+1<L.length by omega)] at hj
   rw [← hj] at key
   exact key
theorem Qfy (m:List (List Pt)) (r p:List (List Int)) (B:Nat) (hb:B<5864062014805) (hm:∀ x∈m,x.length≤B) (refs:List Int) (hr:refs.length≤1000000000000) (hw:∀ x∈refs,-9223372036854775808≤x∧x≤9223372036854775807) (hs:refs.length*B<5864062014805) :
  ∀ (n i:Nat),i+n=refs.length→(arcsOf m (refs.drop i)=none↔arcsOf m refs=none)→Ev (fun k=>Q0f.l0 k refs (i:Int) m r p) (ptsV m [] refs):=by
 intro n
 induction n with
 | zero =>
  intro i hi hn
  refine Ev.step (fun k=>Q0f.l0.eq_2 _ _ _ _ _ _) ?_
  simp only [if_neg (show ¬ ((i:Int)<(refs.length:Int)) by omega)]
  rw [List.drop_of_length_le (by omega)] at hn
  cases hL:arcsOf m refs with
  | none=>rw [hL] at hn;simp [arcsOf] at hn
  | some L =>
   have hl:=(Q59 m refs L hL).1
   have h:=Qe0 m r p B hb hm refs hr hw hs L hL refs.length 0 (by omega)
   have e:(if nextFrom L 0 refs.length then (flatL L,(0:Int)) else ([],90))=if okFrom L 0 L.length then (flatL L,(0:Int)) else ([],90):=by
    have e1:nextFrom L 0 refs.length=okFrom L 0 L.length:=by
     rw [← hl]
     rw [Bool.eq_iff_iff]
     unfold nextFrom okFrom
     simp only [List.all_eq_true,List.mem_range'_1,Nat.zero_le,true_and,Nat.zero_add]
     exact (Qhp L).symm
    rw [e1]
   unfold ptsV ringV
   rw [hL]
   simp only [List.nil_append]
   by_cases h0:refs.length=0
   ·simp only [if_pos (show (refs.length:Int)=0 by omega),if_neg (show ¬ 0<L.length by omega)]
    exact Ev.now _
   ·simp only [if_neg (show ¬ (refs.length:Int)=0 by omega),if_pos (show 0<L.length by omega)]
    rw [e] at h
    exact h
 | succ n ih =>
  intro i hi hn
  have h1:i<refs.length:=by omega
  have hx:=hw _ (List.getElem_mem h1)
  refine Ev.step (fun k=>Q0f.l0.eq_2 _ _ _ _ _ _) ?_
  have hrd:rd refs (i:Int)=refs[i]:=by unfold rd;simp [h1]
  simp only [if_pos (show (i:Int)<(refs.length:Int) by omega),if_pos (show (0:Int)≤(i:Int) by omega),hrd,Q2t (x:=(i:Int)+1) (by omega) (by omega)]
  refine Ev.bind (Q9o m r p refs[i] hx.1 hx.2 (fun x hx=>by have:=hm x hx;omega)) ?_
  rw [List.drop_eq_getElem_cons h1] at hn
  unfold arcsOf at hn
  cases hq:arcB m refs[i] with
  | none =>
   rw [hq] at hn
   have h2:arcsOf m refs=none:=by
    have h3:=hn.1 rfl
    rw [← h3];rw [arcsOf.eq_def]
   simp only [if_neg (show ¬ ((2:Int)=0) by decide)]
   unfold ptsV
   rw [h2]
   exact Ev.now _
  | some a =>
   rw [hq] at hn
   simp only [if_true]
   by_cases h0:a.length=0
   ·have h2:arcsOf m refs=none:=by
     have h3:=hn.1 (by simp only [if_pos h0])
     rw [← h3];rw [arcsOf.eq_def]
    simp only [if_pos (show ((a.length:Int)=0) by omega)]
    unfold ptsV
    rw [h2]
    exact Ev.now _
   ·simp only [if_neg (show ¬ ((a.length:Int)=0) by omega)]
    have I:=ih (i+1) (by omega) (by
     simp only [if_neg h0,Option.map_eq_none_iff] at hn
     rw [hn]
     rw [← arcsOf.eq_def])
    exact I
theorem Qav (m:List (List Pt)) (r p:List (List Int)) (B:Nat) (hb:B<5864062014805) (hm:∀ x∈m,x.length≤B) (refs:List Int) (hr:refs.length≤1000000000000) (hw:∀ x∈refs,-9223372036854775808≤x∧x≤9223372036854775807) (hs:refs.length*B<5864062014805) :
  Ev (fun k=>Q0f.f k m r p refs) (ptsV m [] refs):=by
 unfold Q0f.f
 exact Qfy m r p B hb hm refs hr hw hs refs.length 0 (by omega) (by rw [List.drop_zero])
end Go.Proofs.Ytbonkedecfjmdaa.Gr

namespace Go.Proofs.Ytbonkedecfjmdaa.G
set_option linter.unusedVariables false
set_option linter.unusedSimpArgs false
open Go.RowKit Go.Proofs.Ytbonkedecfjmdaa.P Go.Proofs.Ytbonkedecfjmdaa.X Go.Proofs.Ytbonkedecfjmdaa.WL Go.Proofs.YtbonkedecfjmdaaW.PrintWords Go.Proofs.YtbonkedecfjmdaaW.PrintLast Go.Proofs.YtbonkedecfjmdaaW.PrintMore
theorem Qdb (l:List Pt) (hl:l.length<4000000000000000000) (hr:l.all rt=true):∀ (n i:Nat) (x:Int),i+n=l.length →
  Ev (fun k=>Q03.l0 k l (i:Int) (dig x)) (dig (x+(((edg l).drop i).map E).sum)):=by
 intro n
 induction n with
 | zero =>
  intro i x hi
  rw [List.drop_of_length_le (by rw [Q43];omega)]
  simp only [List.map_nil,List.sum_nil,Int.add_zero]
  exact Ev.step (f:=fun _=>some (dig x)) (fun k=>by simp only [Q03.l0];rw [if_neg (by omega)]) (Ev.now _)
 | succ n ih =>
  intro i x hi
  have hA:i<l.length:=by omega
  have hM:(i+1) % l.length<l.length:=Nat.mod_lt _ (by omega)
  have hE:i<(edg l).length:=by rw [Q43];exact hA
  have q1:(i:Int)<(l.length:Int):=by omega
  obtain ⟨_,p1,p2,p3,p4⟩:=Q3d.1 (Q5e hr i hA)
  obtain ⟨_,r1,r2,r3,r4⟩:=Q3d.1 (Q5e hr _ hM)
  have J:Ev (fun k=>Q03.j1 k l (i:Int) (((i+1) % l.length:Nat):Int) (dig x)) (dig (x+(((edg l).drop i).map E).sum)):=by
   refine Ev.step (f:=fun k=>(Q1p.f k l[i].f0 l[(i+1) % l.length].f1).bind fun t408=>((Q1n.f k (dig x) t408).bind fun t411=>((Q1p.f k l[i].f1 l[(i+1) % l.length].f0).bind fun t416=>((Q2h.f k t416).bind fun t419=>((Q1n.f k t411 t419).bind fun t422=>(Q03.l0 k l ((i+1:Nat):Int) t422)))))) (fun k => ?_) ?_
   ·simp only [Q03.j1]
    rw [if_pos (by omega),if_pos q1,if_pos (by omega),if_pos (by omega),rdp l i hA,rdp l _ hM,Q28 i (by omega)]
   ·refine Ev.bind (Q6f (by omega) (by omega) (by omega) (by omega)) ?_
    refine Ev.bind (Qbm _ _) ?_
    refine Ev.bind (Q6f (by omega) (by omega) (by omega) (by omega)) ?_
    refine Ev.bind (Qgj _) ?_
    refine Ev.bind (Qbm _ _) ?_
    have:=ih (i+1) (x+E (edg l)[i]) (by omega)
    rw [List.drop_eq_getElem_cons hE,List.map_cons,List.sum_cons,← Int.add_assoc]
    rw [show x+l[i].f0*l[(i+1) % l.length].f1 + -(l[i].f1*l[(i+1) % l.length].f0)=x+E (edg l)[i] by rw [Q7l l i hA];simp only [E];omega]
    exact this
  by_cases hlast:i+1=l.length
  ·refine Ev.step (fun k => ?_) J
   simp only [Q03.l0]
   rw [if_pos q1,Q28 i (by omega),if_pos (by omega)]
   rw [show (i+1) % l.length=0 by rw [hlast,Nat.mod_self]];rfl
  ·refine Ev.step (fun k => ?_) J
   simp only [Q03.l0]
   rw [if_pos q1,Q28 i (by omega),if_neg (by omega)]
   rw [show (i+1) % l.length=i+1 from Nat.mod_eq_of_lt (by omega)]
theorem Qdi (l:List Pt) (hl:l.length<4000000000000000000):Ev (fun k=>Q03.f k l) (if l.all rt then dig (areaS l) else dig 0):=by
 unfold Q03.f
 refine Ev.bind (Qat (x:=0) (by decide) (by decide)) ?_
 refine Ev.bind (Q4l l (by omega)) ?_
 by_cases h:l.all rt=true
 ·simp only [if_pos h]
  have:=Qdb l hl h l.length 0 0 (by omega)
  rw [List.drop_zero,Int.zero_add] at this
  exact this
 ·simp only [if_neg h];exact Ev.now _
theorem Qbk (l:List Pt) (hl:l.length<4000000000000000000):Ev (fun k=>Q03.f k l) (dig (areaV l)):=by
 have:=Qdi l hl
 unfold areaV
 split at this
 ·rename_i h;rw [if_pos h];exact this
 ·rename_i h;rw [if_neg h];exact this
theorem Qhz (x:Int):Ev (fun k=>Q4z.f k (dig x) (hiw x) (low x)) true:=Qii (Q85 x).1 (Q85 x).2 (Q4u x).1 (Q4u x).2 (Qfk x)

theorem Qgt (p:Pt) (hp:rt p=true) (l:List Pt) (hl:l.length<4000000000000000000) (hr:l.all rt=true):∀ (n i:Nat) (c:Nat),i+n=l.length→c≤i →
  Ev (fun k=>Q0z.l0 k l (c:Int) (i:Int) p.f0 p.f1 p.f2) (tell p ((edg l).drop i) (if c % 2=1 then 1 else -1)):=by
 intro n
 induction n with
 | zero =>
  intro i c hi hc
  rw [List.drop_of_length_le (by rw [Q43];omega),Q93]
  have ht:Int.tmod (c:Int) 2=((c % 2:Nat):Int):=by rw [Int.tmod_eq_emod_of_nonneg (by omega)];rfl
  refine Ev.step (f:=fun _=>some (if c % 2=1 then 1 else -1)) (fun k => ?_) (Ev.now _)
  simp only [Q0z.l0];rw [if_neg (by omega),ht]
  by_cases hm:c % 2=1
  ·rw [if_pos hm,if_pos (by omega)]
  ·rw [if_neg hm,if_neg (by omega)]
 | succ n ih =>
  intro i c hi hc
  have hA:i<l.length:=by omega
  have hM:(i+1) % l.length<l.length:=Nat.mod_lt _ (by omega)
  have hE:i<(edg l).length:=by rw [Q43];exact hA
  have q1:(i:Int)<(l.length:Int):=by omega
  have ws:wrap64 ((i:Int)+1)=((i+1:Nat):Int):=Q28 i (by omega)
  have wc:wrap64 ((c:Int)+1)=((c+1:Nat):Int):=Q28 c (by omega)
  rw [List.drop_eq_getElem_cons hE,Q7l l i hA]
  have ra:=Q5e hr i hA
  have rb:=Q5e hr _ hM
  have hrd1:Q0a l (i:Int)=l[i]:=rdp l i hA
  have hrd2:Q0a l (((i+1) % l.length:Nat):Int)=l[(i+1) % l.length]:=rdp l _ hM
  have I1:=ih (i+1) c (by omega) (by omega)
  have I2:=ih (i+1) (c+1) (by omega) (by omega)
  rw [show (if (c+1) % 2=1 then (1:Int) else -1) = -(if c % 2=1 then 1 else -1) by
   by_cases hm:c % 2=1
   ·rw [if_pos hm,if_neg (by omega)]
   ·rw [if_neg hm,if_pos (by omega)];rfl] at I2
  generalize (if c % 2=1 then (1:Int) else -1)=s at *
  have J:∀ a b:Pt,rt a=true→rt b=true→Ev (fun k=>Q0z.j2 k l (c:Int) (i:Int) p.f0 p.f1 p.f2 a.f0 a.f1 a.f2 b.f0 b.f1 b.f2) (tell p ((a,b) :: (edg l).drop (i+1)) s):=by
   intro a b ra rb
   have T:=Q5i a b p
   rw [ra,rb,hp] at T
   simp only [Bool.and_self,if_true] at T
   refine Ev.step (f:=fun k=>(Q26.f k p.f0 p.f1 p.f2 a.f0 a.f1 a.f2 b.f0 b.f1 b.f2).bind fun t554=>(if t554=true then (some 0) else (Q0z.j3 k l (c:Int) (i:Int) (decide (a.f1≤p.f1∧p.f1<b.f1)) p.f0 p.f1 p.f2 a.f0 a.f1 a.f2 b.f0 b.f1 b.f2))) (fun k => ?_) ?_
   ·simp only [Q0z.j2]
    congr 1;funext t
    by_cases h1:a.f1≤p.f1<;>simp [h1]
   ·refine Ev.bind (Q99 p a b) ?_
    by_cases ho:onB p a b=true
    ·simp only [if_pos ho]
     rw [Qb8 (show onE p (a,b)=true from ho)]
     exact Ev.now _
    ·simp only [if_neg ho]
     have ho':onE p (a,b)=false:=Bool.eq_false_iff.2 ho
     refine Ev.step (f:=fun k=>Q0z.j4 k l (c:Int) (i:Int) (decide (a.f1≤p.f1∧p.f1<b.f1)) (decide (b.f1≤p.f1∧p.f1<a.f1)) p.f0 p.f1 p.f2 a.f0 a.f1 a.f2 b.f0 b.f1 b.f2) (fun k=>by
      simp only [Q0z.j3]
      by_cases h1:b.f1≤p.f1<;>simp [h1]) ?_
     by_cases hu:a.f1≤p.f1∧p.f1<b.f1
     ·have hd:¬ (b.f1≤p.f1∧p.f1<a.f1):=by omega
      refine Ev.step (f:=fun k=>(Q1c.f k a.f0 a.f1 a.f2 b.f0 b.f1 b.f2 p.f0 p.f1 p.f2).bind fun t555=>(if t555>0 then (Q0z.l0 k l ((c+1:Nat):Int) ((i+1:Nat):Int) p.f0 p.f1 p.f2) else (Q0z.l0 k l (c:Int) ((i+1:Nat):Int) p.f0 p.f1 p.f2))) (fun k=>by
       simp only [Q0z.j4,hu,hd,and_self,decide_true,decide_false,if_true,Bool.false_eq_true,if_false,ws,wc]) ?_
      refine Ev.bind T ?_
      by_cases ht:side a b p>0
      ·simp only [if_pos ht]
       rw [Q7u ho' (by unfold cr;simp only [Bool.or_eq_true,decide_eq_true_eq];omega)]
       exact I2
      ·simp only [if_neg ht]
       rw [Q56 ho' (by unfold cr;simp only [Bool.or_eq_false_iff,decide_eq_false_iff_not];omega)]
       exact I1
     ·by_cases hd:b.f1≤p.f1∧p.f1<a.f1
      ·refine Ev.step (f:=fun k=>(Q1c.f k a.f0 a.f1 a.f2 b.f0 b.f1 b.f2 p.f0 p.f1 p.f2).bind fun t557=>(if t557<0 then (Q0z.l0 k l ((c+1:Nat):Int) ((i+1:Nat):Int) p.f0 p.f1 p.f2) else (Q0z.l0 k l (c:Int) ((i+1:Nat):Int) p.f0 p.f1 p.f2))) (fun k=>by
        simp only [Q0z.j4,hu,hd,and_self,decide_true,decide_false,if_true,Bool.false_eq_true,if_false,ws,wc]) ?_
       refine Ev.bind T ?_
       by_cases ht:side a b p<0
       ·simp only [if_pos ht]
        rw [Q7u ho' (by unfold cr;simp only [Bool.or_eq_true,decide_eq_true_eq];omega)]
        exact I2
       ·simp only [if_neg ht]
        rw [Q56 ho' (by unfold cr;simp only [Bool.or_eq_false_iff,decide_eq_false_iff_not];omega)]
        exact I1
      ·refine Ev.step (f:=fun k=>Q0z.l0 k l (c:Int) ((i+1:Nat):Int) p.f0 p.f1 p.f2) (fun k=>by
        simp only [Q0z.j4,hu,hd,decide_false,Bool.false_eq_true,if_false,ws]) ?_
       rw [Q56 ho' (by unfold cr;simp only [Bool.or_eq_false_iff,decide_eq_false_iff_not];omega)]
       exact I1
  have J':=J _ _ ra rb
  refine Ev.step (fun k => ?_) J'
  simp only [Q0z.l0]
  rw [if_pos q1,if_pos (by omega),if_pos (by omega),ws,hrd1]
  by_cases hlast:i+1<l.length
  ·have e:(i+1) % l.length=i+1:=Nat.mod_eq_of_lt hlast
   simp only [e] at hrd2 ⊢
   rw [if_pos (by omega),if_pos (by omega),hrd2]
  ·have e:(i+1) % l.length=0:=by rw [show i+1=l.length by omega,Nat.mod_self]
   simp only [e] at hrd2 ⊢
   rw [if_neg (by omega)]
   rw [show Q0a l 0=Q0a l ((0:Nat):Int) from rfl,hrd2]
theorem Qeg (p:Pt) (l:List Pt) (hl:l.length<4000000000000000000):Ev (fun k=>Q0z.f k p.f0 p.f1 p.f2 l) (inV p l):=by
 unfold Q0z.f
 refine Ev.bind (Q4l [p] (by simp)) ?_
 simp only [List.all_cons,List.all_nil,Bool.and_true]
 have jt:Ev (fun k=>Q0z.j0 k l true p.f0 p.f1 p.f2) 0:=Ev.step (f:=fun _=>some 0) (fun k=>by simp only [Q0z.j0,if_true]) (Ev.now _)
 unfold inV
 by_cases h:rt p=true
 ·simp only [if_pos h,h,Bool.true_and]
  refine Ev.bind (Q4l l (by omega)) ?_
  by_cases h2:l.all rt=true
  ·simp only [h2,Bool.not_true,if_true]
   have:=Qgt p h l hl h2 l.length 0 0 (by omega) (by omega)
   rw [List.drop_zero] at this
   refine Ev.step (fun k => ?_) this
   simp only [Q0z.j0,Bool.false_eq_true,if_false];rfl
  ·simp only [h2,Bool.not_false,Bool.false_eq_true,if_false];exact jt
 ·simp only [if_neg h,h,Bool.false_and,Bool.false_eq_true,if_false];exact jt
end Go.Proofs.Ytbonkedecfjmdaa.G
