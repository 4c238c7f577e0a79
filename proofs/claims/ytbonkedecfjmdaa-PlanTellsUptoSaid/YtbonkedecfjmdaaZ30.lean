/- Written for this claim by a program of this session (a turned copy of the print): Go functions as Lean functions, and that the Go code comes to just these answers; or a statement proved out of them. No condition. -/
import Derived.Test.YtbonkedecfjmdaaZ2
import Derived.Test.YtbonkedecfjmdaaZ19
import Derived.Test.YtbonkedecfjmdaaZ14
import Derived.Test.YtbonkedecfjmdaaZ27
import Derived.Test.YtbonkedecfjmdaaZ16

namespace Go.Proofs.Ytbonkedecfjmdaa.P
open Go.RowKit Go.Proofs.YtbonkedecfjmdaaW.PrintWords Go.Proofs.YtbonkedecfjmdaaW.PrintLast Go.Proofs.YtbonkedecfjmdaaW.PrintMore Go.Proofs.Ytbonkedecfjmdaa.X
attribute [local go_sem] Q2a Q2b Q2s Q2q Q1z Q1y Q19 Q2c Q2r Q2p add64
set_option linter.unusedVariables false
set_option linter.unusedSimpArgs false
mutual
def Q08.l0:Nat→List (S50)→List (List Int)→Int→Int→List (List (S27))→List (List Int)→List (List Int)→Option ((List (S50))×Int)
 | 0,_,_,_,_,_,_,_=>none
 | k+1,x5,x19,x20,x21,x674000,x674001,x674002=>if x21<x20 then (if 0≤x21 then (if x21<(x19.length:Int) then (Q08.l1 k x5 x19 x20 x21 (Q06 x19 x21) ((Q06 x19 x21).length:Int) 0 x674000 x674001 x674002 0 0) else (none)) else (none)) else (some (x5,0))
def Q08.l1:Nat→List (S50)→List (List Int)→Int→Int→List Int→Int→Int→List (List (S27))→List (List Int)→List (List Int)→Int→Int→Option ((List (S50))×Int)
 | 0,_,_,_,_,_,_,_,_,_,_,_,_=>none
 | k+1,x5,x19,x20,x21,x25,x26,x27,x674000,x674001,x674002,x677000,x677001=>if x27<x26 then (if 0≤x27 then (if x27<(x25.length:Int) then ((Q1u.f k x674000 x674001 x674002 (rd x25 x27)).bind fun aD=>((Q1x.f k aD.1).bind fun sB=>((Q1l.f k x677000 x677001 (([(⟨sB.1,sB.2⟩:S50)]:List (S50)))).bind fun qA=>(Q08.l1 k x5 x19 x20 x21 x25 x26 (wrap64 (x27+1)) x674000 x674001 x674002 qA.1 qA.2)))) else (none)) else (none)) else (if x5.length<8796093022208 then (Q08.l0 k (x5++[(⟨x677000,x677001⟩:S50)]) x19 x20 (wrap64 (x21+1)) x674000 x674001 x674002) else (none))
end
def Q08.f (k:Nat) (gA:List (List (S27))) (hA:List (List Int)) (eA:List (List Int)):Option ((List (S50))×Int):=(Q0y.f k gA hA eA).bind fun nA=>(if nA=0 then (Q08.l0 k ([]:List (S50)) eA (eA.length:Int) 0 gA hA eA) else (some (([]:List (S50)),nA)))
theorem Q08.Q1a:∀ k,(∀ y0 y1 y2 y3 y4 y5 y6,LeO (Q08.l0 k y0 y1 y2 y3 y4 y5 y6) (Q08.l0 (k+1) y0 y1 y2 y3 y4 y5 y6))∧(∀ y0 y1 y2 y3 y4 y5 y6 y7 y8 y9 y10 y11,LeO (Q08.l1 k y0 y1 y2 y3 y4 y5 y6 y7 y8 y9 y10 y11) (Q08.l1 (k+1) y0 y1 y2 y3 y4 y5 y6 y7 y8 y9 y10 y11))
 | 0=>⟨fun _ _ _ _ _ _ _ r h=>by simp [Q08.l0] at h,fun _ _ _ _ _ _ _ _ _ _ _ _ r h=>by simp [Q08.l1] at h⟩
 | k+1=>by
  obtain ⟨hE,iE⟩:=Q08.Q1a k
  refine ⟨?_,?_⟩
  all_goals
   intros
   first|unfold Q08.l0|unfold Q08.l1
   repeat' with_reducible first|exact hE _ _ _ _ _ _ _|exact iE _ _ _ _ _ _ _ _ _ _ _ _|exact Q1x.mono _ _|exact Q0y.mono _ _ _ _|exact Q1u.mono _ _ _ _ _|exact Q1l.mono _ _ _ _|exact LeO.refl _|exact LeO.none _|refine LeO.ite ?_ ?_|refine LeO.bind ?_ (fun _ => ?_)
theorem Q08.mono:∀ a0 a1 a2 k,LeO (Q08.f k a0 a1 a2) (Q08.f (k+1) a0 a1 a2):=by
 intro a0 a1 a2 k
 obtain ⟨hE,iE⟩:=Q08.Q1a k
 unfold Q08.f
 repeat' with_reducible first|exact hE _ _ _ _ _ _ _|exact iE _ _ _ _ _ _ _ _ _ _ _ _|exact Q1x.mono _ _|exact Q0y.mono _ _ _ _|exact Q1u.mono _ _ _ _ _|exact Q1l.mono _ _ _ _|exact LeO.refl _|exact LeO.none _|refine LeO.ite ?_ ?_|refine LeO.bind ?_ (fun _ => ?_)
set_option maxHeartbeats 8000000 in
set_option maxRecDepth 100000 in
theorem Q08.calls (k:Nat) (rA:Option Addr) (sA:Nat) (gA:List (List (S27))) (tA:Option Addr) (uA:Nat) (hA:List (List Int)) (iB:Option Addr) (vA:Nat) (eA:List (List Int)) (r1:List (S50)) (r2:Int) (w:World) (tB:Kd.C (Kd.slice 27 k27) w rA gA.length gA) (uB:gA.length≤sA) (vB:Kd.C (Kd.slice 3 (Kd.int .i64)) w tA hA.length hA) (wB:hA.length≤uA) (xB:Kd.C (Kd.slice 3 (Kd.int .i64)) w iB eA.length eA) (yB:eA.length≤vA) (h:Q08.f k gA hA eA=some (r1,r2)) :
  Calls Try.prog 17 #[.agg #[.slice rA gA.length sA,.slice tA hA.length uA,.slice iB eA.length vA]] w fun e w'=>∃ v0_:Value,e=.returned (.tuple #[v0_,.int .i64 r2])∧Kd.R k50 50 w' w.heap.size (fun _=>True) v0_ r1∧Below w.heap.size w w':=by
 have nF:=Try.underlying25
 have oF:=Try.underlying50
 have zB:=AM tB
 have aC:=AM uB
 clear tB uB
 have cC:=AM vB
 have dC:=AM wB
 clear vB wB
 have jB:=AM xB
 have eC:=AM yB
 clear xB yB
 have HB:=AM (Below.refl w.heap.size w)
 have H:((Q0y.f k gA hA eA).bind fun nA=>(if nA=0 then (Q08.l0 k ([]:List (S50)) eA (eA.length:Int) 0 gA hA eA) else (some (([]:List (S50)),nA))))=some (r1,r2):=h
 clear h
 obtain ⟨nA,A2,H⟩:=bS H
 have xE:=AM H
 clear H
 go_enter Try.func17,Try.ntmps17
 go_upto_if 16 with (first|((with_reducible refine Q0i (N:=1) rfl ?_);refine bE 1 #[.slice rA gA.length sA,.slice tA hA.length uA,.slice iB eA.length vA] 25 ?_;intro lB hg w4 hbox hb;have dA:=AM hbox;have bD:=kG HB hg;replace HB:=kH HB hb;have yE:=bD;clear hb hbox hg;obtain ⟨gC,hC,jC,kC,lC,mC⟩:=c3 dA)|((with_reducible refine Q0n (f:=31) rfl ?_);refine gL (some 14) Try.func31 #[.agg #[.slice rA gA.length sA,.slice tA hA.length uA,.slice iB eA.length vA]] ?_;(with_reducible refine (Q0y.calls k _ _ gA _ _ hA _ _ eA nA _ ?side1 ?side2 ?side3 ?side4 ?side5 ?side6 A2.out).mono ?_);(case side1=>exact sC zB HB);(case side2=>exact aC.out);(case side3=>exact sC cC HB);(case side4=>exact dC.out);(case side5=>exact sC jB HB);(case side6=>exact eC.out);rintro e w6 ⟨rfl,hb⟩;refine ⟨_,rfl,?_⟩;replace dA:=kB dA hb;replace HB:=kH HB hb;clear hb))
 (try simp only [Act.put,List.setIfInBounds_toArray,List.set_cons_zero,List.set_cons_succ])
 have H:=xE.out;clear xE
 by_cases c7:nA=0
 ·rw [if_pos c7] at H
  have gB:(nA==0)=true:=beq_iff_eq.mpr c7
  have nB:(nA != 0)=false:=bne_eq_false_iff_eq.mpr c7
  clear c7
  (first|rw [gB]|(simp only [Q1r,Q13];rw [gB])|skip)
  (try rw [nB])
  have H':=AM H
  clear H;obtain ⟨nC,oC,pC,qC,rC,tC⟩:=c3 dA
  go_wp2
  go_loopg [5,21] k (fun kq v5 pF w'=>∃ (oA:List (S50)) (fA:Int),pF=.int .i64 fA∧Aside0 (Q08.l0 kq oA eA (eA.length:Int) fA gA hA eA=some (r1,r2))∧Aside0 (kq≤k)∧Aside0 (Kd.R k50 50 w' w.heap.size (fun _=>True) v5 oA)∧Aside0 (w'.heap[lB]? = some (.cells #[(.slice rA gA.length sA),(.slice tA hA.length uA),(.slice iB eA.length vA)] 25 (0,0)))∧Aside0 (Below w.heap.size w w'))
  case atStart=>exact ⟨(([]:List (S50))),(0),rS,H',⟨Nat.le_refl _⟩,⟨by first|exact Kd.Q3k _ _ _ _ _|exact Kd.Q3t _ _ _ _ _|exact Kd.Q3x _ _ _ _ _|exact Kd.Q3v _ _ _ _ _|exact Kd.Q3y _ _ _ _ _⟩,⟨bK dA⟩,⟨ bH HB⟩⟩
  case round =>
   clear H'
   clear gB nB gC hC jC nC oC pC kC lC mC qC rC tC
   obtain ⟨oA,fA,rfl,HA,nD,HO_5,dA,HB⟩:=hrel
   cases gk with
   | zero=>exact absurd HA.out (by simp [Q08.l0])
   | succ k1 =>
    have H:=HA.out;clear HA
    simp only [Q08.l0] at H
    apply iC H<;>clear H<;>intro jE H
    ·apply iN H;clear H;intro cD H
     ·apply iN H;clear H;intro dD H
      ·have H':=AM H
       clear H
       have oB:0≤(fA:Int):=pD
       have pB:fA<(eA.length:Int):=pD
       obtain ⟨mB,kE,lE,mE,pA,cB,eB⟩:=Q3c jB.out fA oB pB
       cases mE
       replace pA:=hW HB pA
       have qB:=AM eB
       have oD:=AM cB
       clear eB cB;replace oB:=eq_true oB;replace pB:=eq_true pB
       go_wp2_with (first|((with_reducible refine Q0i (N:=8) rfl ?_);refine bE 8 #[.int .i64 0,.int .u64 0] 50 ?_;intro iA hg aG hbox hb;replace HO_5:=AM (Kd.Q40 (Kd.Qdh (rK HO_5) iA (Nat.le_of_eq hg.symm)) hb);have cA:=AM hbox;have eD:=kG HB hg;replace HB:=kH HB hb;have zE:=eD;have kA:=kN dA hg;have lA:=kM dA hg;replace dA:=kB dA hb;clear hb hbox hg))
       go_loopg [27] k1 (fun kq qF w'=>∃ (mA:Int) (bA:Int) (aA:Int),qF=.int .i64 mA∧Aside0 (Q08.l1 kq oA eA (eA.length:Int) fA (Q06 eA fA) ((Q06 eA fA).length:Int) mA gA hA eA bA aA=some (r1,r2))∧Aside0 (kq≤k1)∧Aside0 (Kd.R k50 50 w' w.heap.size (fun k_=>k_≠iA) u5 oA)∧Aside0 (w'.heap[lB]? = some (.cells #[(.slice rA gA.length sA),(.slice tA hA.length uA),(.slice (some mB) eA.length vA)] 25 (0,0)))∧Aside0 (w'.heap[iA]? = some (.cells #[.int .i64 bA,.int .u64 aA] 50 (0,0)))∧Aside0 (Below w.heap.size w w'))
       case atStart=>exact ⟨(0),(0),(0),rS,H',⟨Nat.le_refl _⟩,⟨by (with_reducible repeat (first|apply Kd.Q10|apply Kd.Q11|apply Kd.Q2h));exact Kd.Q1q HO_5.out (fun _ hk=>hk.2)⟩,⟨bK dA⟩,⟨bK cA⟩,⟨ bH HB⟩⟩
       case round =>
        clear H'
        clear jE cD dD pA oB pB
        obtain ⟨mA,bA,aA,rfl,HA,qD,HO_5,dA,cA,HB⟩:=hrel
        cases gk with
        | zero=>exact absurd HA.out (by simp [Q08.l1])
        | succ k2 =>
         have H:=HA.out;clear HA
         simp only [Q08.l1] at H
         apply iC H<;>clear H<;>intro bF H
         ·apply iN H;clear H;intro cF H
          ·apply iN H;clear H;intro dF H
           ·obtain ⟨⟨uC,nE⟩,rF,H⟩:=bS H
            try dsimp only at H
            obtain ⟨⟨zA,bB⟩,sF,H⟩:=bS H
            try dsimp only at H
            obtain ⟨vC,wA⟩:∃ y_:List (S50),y_=(([(⟨zA,bB⟩:S50)]:List (S50))):=⟨_,rfl⟩
            replace H:((Q1l.f k2 bA aA vC).bind fun qA=>(Q08.l1 k2 oA eA (eA.length:Int) fA (Q06 eA fA) ((Q06 eA fA).length:Int) (wrap64 (mA+1)) gA hA eA qA.1 qA.2))=some (r1,r2):=by first|(rw [wA];with_reducible exact H)|(have wC:=(Option.bind_some _ _).symm.trans H;rw [wA];with_reducible exact wC)|(have wC:=(Option.bind_some _ _).symm.trans H;with_reducible exact wC)|with_reducible exact H|(rw [wA];exact H)|exact H
            have fC:=AM wA
            clear wA
            obtain ⟨⟨rB,xC⟩,tF,H⟩:=bS H
            try dsimp only at H
            have H':=AM H
            clear H
            have yC:0≤(mA:Int):=pD
            have zC:mA<((Q06 eA fA).length:Int):=pD
            obtain ⟨eF,oE,fB⟩:=Kd.Q2n qB.out mA yC zC
            cases oE
            replace fB:=hW HB fB;replace yC:=eq_true yC;replace zC:=eq_true zC;have fF:=kA.out;have gF:=lA.out;obtain ⟨rD,sD,tD,uD,vD,wD⟩:=c3 dA
            try go_wp2_with (first|((with_reducible refine Q0n (f:=33) rfl ?_);refine gL (some 34) Try.func33 #[.agg #[.slice rA gA.length sA,.slice tA hA.length uA,.slice (some mB) eA.length vA],.int .i64 (rd (Q06 eA fA) mA)] ?_;(with_reducible refine (Q1u.calls k2 _ _ gA _ _ hA _ _ eA (rd (Q06 eA fA) mA) uC nE _ ?side1 ?side2 ?side3 ?side4 ?side5 ?side6 rF.out).mono ?_);(case side1=>exact sC zB HB);(case side2=>exact aC.out);(case side3=>exact sC cC HB);(case side4=>exact dC.out);(case side5=>exact sC jB HB);(case side6=>exact eC.out);rintro e uF ⟨vF,rfl,hF,hb⟩;refine ⟨_,rfl,?_⟩;replace HO_5:=kR HO_5 hb;have jA:=AM (Kd.Q1b hF (Q0h (bH HB)));replace dA:=kB dA hb;replace cA:=kB cA hb;replace HB:=kH HB hb;clear hb hF))
            replace HO_5:=dR HO_5;replace jA:=dR jA;replace dA:=dB dA;replace cA:=dB cA;replace HB:=dH HB
            obtain ⟨pE,qE,fD⟩:=Kd.Q01 jA.out
            (first|subst fD|(injection fD with gD sE hD;have tE:=gD.symm;have uE:=hD.symm;clear gD sE hD;subst tE;subst uE))
            refine sP 6 (S:=fun w'=>w'.cell? ⟨iA,0,none⟩=some (.int .i64 bA)∧w'.cell? ⟨iA,1,none⟩=some (.int .u64 aA)) (ds:=[5]) ⟨bC cA,bC cA⟩ fun hHeld => ?_
            generalize uF.drew=w22 at HO_5 jA dA cA HB hHeld ⊢
            refine pP 1 (some 38) ?_;refine tP 0 (some 37) hHeld ?_
            refine oP 2 (some 39) rfl fun K hK => ?_
            refine gO Try.func46 #[.slice pE uC.length qE] ?_
            with_reducible refine (Q1x.calls k2 _ _ uC zA bB _ ?side1 ?side2 sF.out).mono ?_
            (case side1=>exact sR jA)
            (case side2=>exact (Kd.Q0w jA.out).2.1)
            rintro e bG ⟨rfl,hb⟩
            refine ⟨_,rfl,?_⟩
            replace HO_5:=kR HO_5 hb;replace jA:=kR jA hb;replace dA:=kB dA hb;replace cA:=kB cA hb;replace HB:=kH HB hb;clear hb
            refine hK.out _ _ ⟨bC cA,bC cA⟩ (fun hHeld => ?_)
            clear hK K;refine nP (some 39) ?_
            refine oP 3 (some 40) rfl fun K hK => ?_
            refine Kd.Q7j k50 _ 50 ?hg (N:=40) ?hd (xs:=([(⟨zA,bB⟩:S50)]:List (S50))) (inner:=[.int .i64 zA,.int .u64 bB]) (ok:=fun _=>True) (okp:=fun _=>True) ?hr ?hp (fun _ hk=>hk) trivial (Below.refl _ _) (Nat.le_refl _) (by simp) ?_;(case hd=>rfl);(case hg=>rfl);(case hr=>first|(go_simp;done)|(go_simp;rfl));(case hp=>exact (Reps.c2 (show Kd.M k50 _ _ _ (⟨zA,bB⟩:S50) [.int .i64 zA,.int .u64 bB] from (Q7z _ _ _ (⟨zA,bB⟩:S50) )) (Reps.none _ _)))
            intro wF cG hB hb hg_ hnew_
            clear hg_ hnew_
            (first|rw [← fC.out] at hB|(simp only [Int.reduceToNat] at hB;rw [← fC.out] at hB))
            replace jA:=kR jA hb
            have xA:=AM (Kd.Q1b (Kd.Q2v (Kd.Q2z hB (Kd.R_lt (rK HO_5))) (g:=iA) (o:=.cells #[.int .i64 bA,.int .u64 aA] 50 (0,0)) (bK cA)) (Q0h (bH HB)))
            replace HO_5:=AM (Kd.Q16 (rK HO_5) (Kd.Q2l hB) hb)
            replace dA:=kB dA hb;replace cA:=kB cA hb;replace HB:=kH HB hb;clear hb hB
            obtain ⟨vE,wE,iD⟩:=Kd.Q01 xA.out
            (first|subst iD|(injection iD with gD sE hD;have tE:=gD.symm;have uE:=hD.symm;clear gD sE hD;subst tE;subst uE))
            refine hK.out _ _ ⟨bC cA,bC cA⟩ (fun hHeld => ?_)
            clear hK K;refine nP (some 40) ?_
            refine oP 4 (some 41) rfl fun K hK => ?_
            refine gO Try.func25 #[.agg #[.int .i64 bA,.int .u64 aA],.slice vE vC.length wE] ?_
            with_reducible refine (Q1l.calls k2 bA aA _ _ vC rB xC _ ?side1 ?side2 tF.out).mono ?_
            (case side1=>exact sR xA)
            (case side2=>exact (Kd.Q0w xA.out).2.1)
            rintro e iF ⟨rfl,hb⟩
            refine ⟨_,rfl,?_⟩
            replace HO_5:=kR HO_5 hb;replace jA:=kR jA hb;replace xA:=kR xA hb;replace dA:=kB dA hb;replace cA:=kB cA hb;replace HB:=kH HB hb;clear hb
            refine hK.out _ _ ⟨bC cA,bC cA⟩ (fun hHeld => ?_)
            clear hK K;refine nP (some 41) ?_
            refine lP 5 none rfl fun K hK => ?_
            have xF:iF.cell? ⟨iA,0,none⟩=some (.int .i64 bA):=bC cA
            have jF:=Q0k cA.out 0
            have xD:=kA.out;have yD:=lA.out
            have yF:iF.cell? ⟨iA,1,none⟩=some (.int .u64 aA):=bC cA
            have kF:=Q0k cA.out 1
            have zD:=kA.out;have aE:=lA.out
            refine skip_ (w1 := ?_) (by rfl) rfl ?_ ?_
            rotate_left
            ·go_simp
             rfl
            refine hK.out _ _ ?_
            clear hK K
            refine done_ (by kernel_rfl) ?_
            try go_wp2
            go_roundg k2
            case measure=>have:=nD.out;have:=qD.out;omega
            case rel=>exact ⟨(wrap64 (mA+1)),(rB),(xC),rS,H',⟨by have:=nD.out;have:=qD.out;omega⟩,⟨by (with_reducible repeat (first|apply Kd.Q10|apply Kd.Q11|apply Kd.Q2h));exact Kd.Q1q (Kd.Q3p (p:=⟨iA,1,none⟩) (Kd.Q3p (p:=⟨iA,0,none⟩) (Kd.Q1q HO_5.out (fun k_ hk=>(⟨hk,hk.1⟩:_∧k_≠iA))) (fun _ hk=>hk.2) (.int .i64 rB)) (fun _ hk=>hk.2) (.int .u64 xC)) (fun _ hk=>hk.1.1)⟩,⟨bK dA⟩,⟨by (with_reducible repeat (first|refine Q0c ?_ _|refine Q0d ?_|refine Q0b ?_ _));refine Q0u (cs:=#[.int .i64 rB,.int .u64 aA]) ?_ 1 _ rfl;(with_reducible repeat (first|refine Q0c ?_ _|refine Q0d ?_|refine Q0b ?_ _));refine Q0u (cs:=#[.int .i64 bA,.int .u64 aA]) ?_ 0 _ rfl;(with_reducible repeat (first|refine Q0c ?_ _|refine Q0d ?_|refine Q0b ?_ _));exact cA.out⟩,⟨ bH HB⟩⟩
         ·by_cases cE:oA.length<8796093022208
          ·rw [if_pos cE] at H
           have jD:=AM cE
           clear cE
           obtain ⟨kD,yA⟩:∃ y_:List (S50),y_=(oA++[(⟨bA,aA⟩:S50)]):=⟨_,rfl⟩
           replace H:(Q08.l0 k2 kD eA (eA.length:Int) (wrap64 (fA+1)) gA hA eA)=some (r1,r2):=by first|(rw [yA];with_reducible exact H)|(have wC:=(Option.bind_some _ _).symm.trans H;rw [yA];with_reducible exact wC)|(have wC:=(Option.bind_some _ _).symm.trans H;with_reducible exact wC)|with_reducible exact H|(rw [yA];exact H)|exact H
           have lD:=AM yA
           clear yA
           have H':=AM H
           clear H;have lF:=lA.out;have mF:=kA.out;obtain ⟨dE,eE,fE,gE⟩:=c2 cA
           go_wp2_with (first|((with_reducible refine Q1v (b:=.append) (xs:=#[.tmp 43,.tmp 45]) rfl ?_);at_builtin;refine Kd.Q3j k50 (w0:=w) w.heap.size rfl (.tmp 43) (.tmp 45) 39 50 (.agg #[(.int .i64 0),(.int .u64 0)]) 16 rfl Try.underlying39 info50 rfl (by decide) (by omega) u5 oA (⟨bA,aA⟩:S50) [.int .i64 bA,.int .u64 aA] (fun k_=>k_≠iA) (fun _=>False) rfl rfl ?aP (fun _ hk=>hk.elim) ?aF ?aO ?aB ?aS ?aL ?_;(case aP=>exact Q7z _ _ _ (⟨bA,aA⟩:S50));(case aB=>exact (bH HB));(case aF=>exact (fun k_ hk=>Kd.freshB (g:=iA) (o:=.cells #[.int .i64 bA,.int .u64 aA] 50 (0,0)) (bK cA) k_ hk));(case aO=>exact (rK HO_5));(case aS=>exact (Q0h (bH HB)));(case aL=>have:=jD.out;omega);intro zF dG ho hb hg hat;rw [← lD.out] at ho;replace dA:=AM (Q1w (g:=lB) (o:=.cells #[.slice rA gA.length sA,.slice tA hA.length uA,.slice (some mB) eA.length vA] 25 (0,0)) (bK dA) hg (Kd.R_ne HO_5.out dA.out (by decide)));replace cA:=AM (Q1w (g:=iA) (o:=.cells #[.int .i64 bA,.int .u64 aA] 50 (0,0)) (bK cA) hg (Kd.Q5p HO_5.out (fun _ hk=>hk)));replace HB:=AM hb;have mD:=AM ho;clear HO_5;clear ho hb hg hat))
           go_roundg k2
           case measure=>have:=nD.out;have:=qD.out;omega
           case rel=>exact ⟨(kD),(wrap64 (fA+1)),rS,H',⟨by have:=nD.out;have:=qD.out;omega⟩,⟨by (with_reducible repeat (first|apply Kd.Q10|apply Kd.Q11|apply Kd.Q2h));exact Kd.Q1q mD.out (fun _ hk=>trivial)⟩,⟨bK dA⟩,⟨ bH HB⟩⟩
          ·rw [if_neg cE] at H
           exact absurd H (by simp)
    ·simp only [Option.some.injEq,Prod.mk.injEq] at H
     obtain ⟨rfl,rfl⟩:=H
     go_wp2
     go_ret2
     exact ⟨_,rE,rK HO_5,bH HB⟩
 ·rw [if_neg c7] at H
  have gB:(nA==0)=false:=beq_eq_false_iff_ne.mpr c7
  have nB:(nA != 0)=true:=bne_iff_ne.mpr c7
  (first|rw [gB]|(simp only [Q1r,Q13];rw [gB])|skip)
  (try rw [nB])
  simp only [Option.some.injEq,Prod.mk.injEq] at H
  obtain ⟨rfl,rfl⟩:=H
  go_wp2
  go_ret2
  exact ⟨_,rE,by first|exact Kd.Q3k _ _ _ _ _|exact Kd.Q3t _ _ _ _ _|exact Kd.Q3x _ _ _ _ _|exact Kd.Q3v _ _ _ _ _|exact Kd.Q3y _ _ _ _ _,bH HB⟩
end Go.Proofs.Ytbonkedecfjmdaa.P
