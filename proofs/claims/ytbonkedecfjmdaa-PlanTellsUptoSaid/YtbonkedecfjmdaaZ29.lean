/- Written for this claim by a program of this session (a turned copy of the print): Go functions as Lean functions, and that the Go code comes to just these answers; or a statement proved out of them. No condition. -/
import Derived.Test.YtbonkedecfjmdaaZ2
import Derived.Test.YtbonkedecfjmdaaZ4
import Derived.Test.YtbonkedecfjmdaaZ9

namespace Go.Proofs.Ytbonkedecfjmdaa.P
open Go.RowKit Go.Proofs.YtbonkedecfjmdaaW.PrintWords Go.Proofs.YtbonkedecfjmdaaW.PrintLast Go.Proofs.YtbonkedecfjmdaaW.PrintMore Go.Proofs.Ytbonkedecfjmdaa.X
attribute [local go_sem] Q2a Q2b Q2s Q2q Q1z Q1y Q19 Q2c Q2r Q2p add64
set_option linter.unusedVariables false
set_option linter.unusedSimpArgs false
mutual
def Q0r.l0:Nat→List Int→Int→List (List (S27))→List (List Int)→List (List Int)→Int→Int→Int→Option (List Int)
 | 0,_,_,_,_,_,_,_,_=>none
 | k+1,x5,x6,x605000,x605001,x605002,x606000,x606001,x606002=>if x6<(x605002.length:Int) then (Q0r.l1 k x5 x6 true 0 x605000 x605001 x605002 x606000 x606001 x606002) else (some x5)
def Q0r.l1:Nat→List Int→Int→Bool→Int→List (List (S27))→List (List Int)→List (List Int)→Int→Int→Int→Option (List Int)
 | 0,_,_,_,_,_,_,_,_,_,_=>none
 | k+1,x5,x6,x7,x8,x605000,x605001,x605002,x606000,x606001,x606002=>if 0≤x6 then (if x6<(x605002.length:Int) then (if x8<((Q06 x605002 x6).length:Int) then (if 0≤x8 then (if 0≤(rd (Q06 x605002 x6) x8) then (if (rd (Q06 x605002 x6) x8)<(x605001.length:Int) then ((Q0f.f k x605000 x605001 x605002 (Q06 x605001 (rd (Q06 x605002 x6) x8))).bind fun zD=>((Q0z.f k x606000 x606001 x606002 zD.1).bind fun nB=>(if x8=0 then (if nB=(-1) then (Q0r.l1 k x5 x6 false (wrap64 (x8+1)) x605000 x605001 x605002 x606000 x606001 x606002) else (if x8>0 then (if nB=1 then (Q0r.l1 k x5 x6 false (wrap64 (x8+1)) x605000 x605001 x605002 x606000 x606001 x606002) else (Q0r.l1 k x5 x6 x7 (wrap64 (x8+1)) x605000 x605001 x605002 x606000 x606001 x606002)) else (Q0r.l1 k x5 x6 x7 (wrap64 (x8+1)) x605000 x605001 x605002 x606000 x606001 x606002))) else (if x8>0 then (if nB=1 then (Q0r.l1 k x5 x6 false (wrap64 (x8+1)) x605000 x605001 x605002 x606000 x606001 x606002) else (Q0r.l1 k x5 x6 x7 (wrap64 (x8+1)) x605000 x605001 x605002 x606000 x606001 x606002)) else (Q0r.l1 k x5 x6 x7 (wrap64 (x8+1)) x605000 x605001 x605002 x606000 x606001 x606002))))) else (none)) else (none)) else (none)) else (if x7=true then (if x5.length<17592186044416 then (Q0r.l0 k (x5++[x6]) (wrap64 (x6+1)) x605000 x605001 x605002 x606000 x606001 x606002) else (none)) else (Q0r.l0 k x5 (wrap64 (x6+1)) x605000 x605001 x605002 x606000 x606001 x606002))) else (none)) else (none)
end
def Q0r.f (k:Nat) (zA:List (List (S27))) (lA:List (List Int)) (cA:List (List Int)) (gB:Int) (hB:Int) (iB:Int):Option (List Int):=Q0r.l0 k ([]:List Int) 0 zA lA cA gB hB iB
theorem Q0r.Q1a:∀ k,(∀ y0 y1 y2 y3 y4 y5 y6 y7,LeO (Q0r.l0 k y0 y1 y2 y3 y4 y5 y6 y7) (Q0r.l0 (k+1) y0 y1 y2 y3 y4 y5 y6 y7))∧(∀ y0 y1 y2 y3 y4 y5 y6 y7 y8 y9,LeO (Q0r.l1 k y0 y1 y2 y3 y4 y5 y6 y7 y8 y9) (Q0r.l1 (k+1) y0 y1 y2 y3 y4 y5 y6 y7 y8 y9))
 | 0=>⟨fun _ _ _ _ _ _ _ _ r h=>by simp [Q0r.l0] at h,fun _ _ _ _ _ _ _ _ _ _ r h=>by simp [Q0r.l1] at h⟩
 | k+1=>by
  obtain ⟨aI,bI⟩:=Q0r.Q1a k
  refine ⟨?_,?_⟩
  all_goals
   intros
   first|unfold Q0r.l0|unfold Q0r.l1
   repeat' with_reducible first|exact aI _ _ _ _ _ _ _ _|exact bI _ _ _ _ _ _ _ _ _ _|exact Q0z.mono _ _ _ _ _|exact Q0f.mono _ _ _ _ _|exact LeO.refl _|exact LeO.none _|refine LeO.ite ?_ ?_|refine LeO.bind ?_ (fun _ => ?_)
theorem Q0r.mono:∀ a0 a1 a2 a3 a4 a5 k,LeO (Q0r.f k a0 a1 a2 a3 a4 a5) (Q0r.f (k+1) a0 a1 a2 a3 a4 a5):=by
 intro a0 a1 a2 a3 a4 a5 k
 obtain ⟨aI,bI⟩:=Q0r.Q1a k
 unfold Q0r.f
 repeat' with_reducible first|exact aI _ _ _ _ _ _ _ _|exact bI _ _ _ _ _ _ _ _ _ _|exact Q0z.mono _ _ _ _ _|exact Q0f.mono _ _ _ _ _|exact LeO.refl _|exact LeO.none _|refine LeO.ite ?_ ?_|refine LeO.bind ?_ (fun _ => ?_)
def Q0r.T9:Bool×List (List Nat×List Nat):=(true,[([],[]),([],[]),([1],[1]),([],[]),([3],[3]),([],[]),([4,5],[4,5]),([6],[6]),([],[]),([7,8],[7,8]),([9],[9]),([2,10],[2,10]),([11],[11]),([0,12],[0,12]),([13],[13]),([14],[14]),([14],[14]),([15,13,0,1,2,3,4,5,6,7,8,9,10,11,12,13,14,15],[15]),([16,17,0,1,2,3,4,5,6,7,8,9,10,11,12,13,14,15,16,17],[16])])
def Q0r.B9:List Nat:=[0,0,2,0,8,0,56,120,0,504,1016,2046,4094,8191,16383,32767,32767,65535,262143]
theorem Q0r.tab9:rtab .any (opsOf Try.f12 9)=Q0r.T9:=by kernel_rfl
theorem Q0r.bits9:waitsOk Q0r.T9.2 Q0r.B9=true:=by kernel_rfl
set_option maxHeartbeats 8000000 in
set_option maxRecDepth 100000 in
theorem Q0r.calls (k:Nat) (zB:Option Addr) (aC:Nat) (zA:List (List (S27))) (eD:Option Addr) (cC:Nat) (lA:List (List Int)) (fD:Option Addr) (dC:Nat) (cA:List (List Int)) (gB:Int) (hB:Int) (iB:Int) (r:List Int) (w:World) (iD:Kd.C (Kd.slice 27 k27) w zB zA.length zA) (jD:zA.length≤aC) (kD:Kd.C (Kd.slice 3 (Kd.int .i64)) w eD lA.length lA) (lD:lA.length≤cC) (mD:Kd.C (Kd.slice 3 (Kd.int .i64)) w fD cA.length cA) (nD:cA.length≤dC) (h:Q0r.f k zA lA cA gB hB iB=some r) :
  Calls Try.prog 12 #[.agg #[.slice zB zA.length aC,.slice eD lA.length cC,.slice fD cA.length dC],.agg #[.int .i64 gB,.int .i64 hB,.int .i64 iB]] w fun e w'=>∃ v0_:Value,e=.returned (v0_)∧Kd.R (Kd.int .i64) 3 w' w.heap.size (fun _=>True) v0_ r∧Below w.heap.size w w':=by
 have rJ:=Try.underlying25
 have sJ:=Try.underlying27
 have vC:=AM iD
 have wC:=AM jD
 clear iD jD
 have eC:=AM kD
 have xC:=AM lD
 clear kD lD
 have mB:=AM mD
 have yC:=AM nD
 clear mD nD
 have HB:=AM (Below.refl w.heap.size w)
 have H:(Q0r.l0 k ([]:List Int) 0 zA lA cA gB hB iB)=some r:=h
 clear h
 have H':=AM H
 clear H
 go_enter Try.func12,Try.ntmps12
 go_wp2_with (first|((with_reducible refine Q0i (N:=2) rfl ?_);refine bE 2 #[.slice zB zA.length aC,.slice eD lA.length cC,.slice fD cA.length dC] 25 ?_;intro fB hg w3 hbox hb;have aA:=AM hbox;have aE:=kG HB hg;replace HB:=kH HB hb;have tI:=aE;clear hb hbox hg)|((with_reducible refine Q0i (N:=3) rfl ?_);refine bE 3 #[.int .i64 gB,.int .i64 hB,.int .i64 iB] 27 ?_;intro lC hg w4 hbox hb;have dA:=AM hbox;have cE:=kG HB hg;replace HB:=kH HB hb;have uI:=cE;have xA:=kN aA hg;have yA:=kM aA hg;replace aA:=kB aA hb;clear hb hbox hg))
 go_loopg [5,6] k (fun kq v5 v6 w'=>∃ (nC:List Int) (bA:Int),v6=.int .i64 bA∧Aside0 (Q0r.l0 kq nC bA zA lA cA gB hB iB=some r)∧Aside0 (kq≤k)∧Aside0 (Kd.R (Kd.int .i64) 3 w' w.heap.size (fun _=>True) v5 nC)∧Aside0 (w'.heap[fB]? = some (.cells #[(.slice zB zA.length aC),(.slice eD lA.length cC),(.slice fD cA.length dC)] 25 (0,0)))∧Aside0 (w'.heap[lC]? = some (.cells #[.int .i64 gB,.int .i64 hB,.int .i64 iB] 27 (0,0)))∧Aside0 (Below w.heap.size w w'))
 case atStart=>exact ⟨(([]:List Int)),(0),rS,H',⟨Nat.le_refl _⟩,⟨by first|exact Kd.Q3k _ _ _ _ _|exact Kd.Q3t _ _ _ _ _|exact Kd.Q3x _ _ _ _ _|exact Kd.Q3v _ _ _ _ _|exact Kd.Q3y _ _ _ _ _⟩,⟨bK aA⟩,⟨bK dA⟩,⟨ bH HB⟩⟩
 case round =>
  clear H'
  obtain ⟨nC,bA,rfl,HA,tC,HO_5,aA,dA,HB⟩:=hrel
  cases gk with
  | zero=>exact absurd HA.out (by simp [Q0r.l0])
  | succ k1 =>
   have H:=HA.out;clear HA
   simp only [Q0r.l0] at H
   apply iC H<;>clear H<;>intro cI H
   ·have H':=AM H
    clear H;have tJ:=xA.out;have uJ:=yA.out;obtain ⟨oD,qD,rD,sD,tD,uD⟩:=c3 aA
    go_wp2
    go_loopg [7,8] k1 (fun kq v7 v8 w'=>∃ (zC:Bool) (eA:Int),v7=.bool zC∧v8=.int .i64 eA∧Aside0 (Q0r.l1 kq nC bA zC eA zA lA cA gB hB iB=some r)∧Aside0 (kq≤k1)∧Aside0 (Kd.R (Kd.int .i64) 3 w' w.heap.size (fun _=>True) u5 nC)∧Aside0 (w'.heap[fB]? = some (.cells #[(.slice zB zA.length aC),(.slice eD lA.length cC),(.slice fD cA.length dC)] 25 (0,0)))∧Aside0 (w'.heap[lC]? = some (.cells #[.int .i64 gB,.int .i64 hB,.int .i64 iB] 27 (0,0)))∧Aside0 (Below w.heap.size w w'))
    case atStart=>exact ⟨(true),(0),rS,rS,H',⟨Nat.le_refl _⟩,⟨rK HO_5⟩,⟨bK aA⟩,⟨bK dA⟩,⟨ bH HB⟩⟩
    case round =>
     clear H'
     clear cI oD qD rD sD tD uD
     obtain ⟨zC,eA,rfl,rfl,HA,uC,HO_5,aA,dA,HB⟩:=hrel
     cases gk with
     | zero=>exact absurd HA.out (by simp [Q0r.l1])
     | succ k2 =>
      have H:=HA.out;clear HA
      simp only [Q0r.l1] at H
      apply iN H;clear H;intro vJ H
      ·apply iN H;clear H;intro wJ H
       ·apply iC H<;>clear H<;>intro vI H
        ·apply iN H;clear H;intro wI H
         ·apply iN H;clear H;intro xI H
          ·apply iN H;clear H;intro yI H
           ·obtain ⟨⟨fC,gD⟩,dE,H⟩:=bS H
            try dsimp only at H
            obtain ⟨nB,eE,H⟩:=bS H
            by_cases vD:eA=0
            ·rw [if_pos vD] at H
             have fE:(eA==0)=true:=beq_iff_eq.mpr vD
             have gE:(eA != 0)=false:=bne_eq_false_iff_eq.mpr vD
             clear vD
             by_cases wD:nB=(-1)
             ·rw [if_pos wD] at H
              have hE:(nB==(-1))=true:=beq_iff_eq.mpr wD
              have iE:(nB != (-1))=false:=bne_eq_false_iff_eq.mpr wD
              clear wD
              have H':=AM H
              clear H;have zI:=xA.out;have aJ:=yA.out;obtain ⟨sE,tE,uE,vE,wE,xE⟩:=c3 aA
              have jB:0≤(bA:Int):=pD
              have lB:bA<(cA.length:Int):=pD
              obtain ⟨nA,hC,jC,kC,iA,jA,kA⟩:=Q3c mB.out bA jB lB
              cases kC
              replace iA:=hW HB iA
              have xB:=AM kA
              have yB:=AM jA
              clear kA jA;replace jB:=eq_true jB;replace lB:=eq_true lB
              try go_wp2
              replace HO_5:=dR HO_5;replace aA:=dB aA;replace dA:=dB dA;replace HB:=dH HB
              have qB:0≤(bA:Int):=pD
              have rB:bA<(cA.length:Int):=pD
              obtain ⟨gC,oC,sB,pC,fA,oA,pA⟩:=Q3c mB.out bA qB rB
              have qA:=fA
              obtain rfl:nA=gC:=(by injection pC)
              replace fA:=hW HB fA
              have rA:=AM pA
              have mC:=AM oA
              clear pA oA;replace qB:=eq_true qB;replace rB:=eq_true rB
              have tB:0≤(eA:Int):=pD
              have uB:eA<((Q06 cA bA).length:Int):=pD
              obtain ⟨pB,qC,gA⟩:=Kd.Q2n rA.out eA tB uB
              have sA:=gA
              cases qC
              replace gA:=hW HB gA;replace tB:=eq_true tB;replace uB:=eq_true uB
              have vB:0≤((rd (Q06 cA bA) eA):Int):=pD
              have wB:(rd (Q06 cA bA) eA)<(lA.length:Int):=pD
              obtain ⟨bB,cB,eB,rC,hA,tA,uA⟩:=Q3c eC.out (rd (Q06 cA bA) eA) vB wB
              have vA:=hA
              cases rC
              replace hA:=hW HB hA
              have wA:=AM uA
              have oB:=AM tA
              clear uA tA;replace vB:=eq_true vB;replace wB:=eq_true wB
              refine sP 19 (S:=fun w'=>w'.cell? ⟨fB,0,none⟩=some (.slice zB zA.length aC)∧w'.cell? ⟨fB,1,none⟩=some (.slice (some bB) lA.length cC)∧w'.cell? ⟨fB,2,none⟩=some (.slice (some nA) cA.length dC)∧w'.cell? (nA.add (bA).toNat)=some (.slice (some pB) (Q06 cA bA).length sB)∧w'.cell? (pB.add (eA).toNat)=some (.int .i64 (rd (Q06 cA bA) eA))∧w'.cell? (bB.add ((rd (Q06 cA bA) eA)).toNat)=some (.slice cB (Q06 lA (rd (Q06 cA bA) eA)).length eB)) (ds:=[]) ⟨bC aA,bC aA,bC aA,(hW HB qA :),(hW HB sA :),(hW HB vA :)⟩ fun hHeld => ?_;refine Q1m Q0r.tab9 Q0r.bits9 (fun HT_ HW_ => ?_)
              generalize wr.drew=w20 at HO_5 aA dA HB rA wA fA gA hA hHeld ⊢
              refine pQ 1 (some 31) HT_ ?_;refine pQ 3 (some 33) HT_ ?_;refine pQ 5 (some 35) HT_ ?_;refine pQ 8 (some 38) HT_ ?_;refine tQ 0 (some 30) HT_ HW_ hHeld ?_;refine tQ 2 (some 32) HT_ HW_ hHeld ?_;refine tQ 4 (some 34) HT_ HW_ hHeld ?_;refine pQ 6 (some 36) HT_ ?_;refine tQ 7 (some 37) HT_ HW_ hHeld ?_;refine pQ 9 (some 39) HT_ ?_;refine tQ 10 (some 40) HT_ HW_ hHeld ?_;refine pQ 11 (some 41) HT_ ?_;refine tQ 12 (some 42) HT_ HW_ hHeld ?_
              refine oQ 13 (some 43) HT_ rfl fun K hK => ?_
              refine gO Try.func35 #[.agg #[.slice zB zA.length aC,.slice (some bB) lA.length cC,.slice (some nA) cA.length dC],.slice cB (Q06 lA (rd (Q06 cA bA) eA)).length eB] ?_
              with_reducible refine (Q0f.calls k2 _ _ zA _ _ lA _ _ cA _ _ (Q06 lA (rd (Q06 cA bA) eA)) fC gD _ ?side1 ?side2 ?side3 ?side4 ?side5 ?side6 ?side7 ?side8 dE.out).mono ?_
              (case side1=>exact sC vC HB)
              (case side2=>exact wC.out)
              (case side3=>exact sC eC HB)
              (case side4=>exact xC.out)
              (case side5=>exact sC mB HB)
              (case side6=>exact yC.out)
              (case side7=>exact sC wA HB)
              (case side8=>exact oB.out)
              rintro e yJ ⟨hD,rfl,dD,hb⟩
              refine ⟨_,rfl,?_⟩
              replace HO_5:=kR HO_5 hb
              have mA:=AM (Kd.Q1b (Kd.Q2v dD (g:=lC) (o:=.cells #[.int .i64 gB,.int .i64 hB,.int .i64 iB] 27 (0,0)) (bK dA)) (Q0h (bH HB)))
              replace aA:=kB aA hb;replace dA:=kB dA hb;replace HB:=kH HB hb;clear hb dD
              refine hK.out _ _ ⟨bC aA,bC aA,bC aA,(hW HB qA :),(hW HB sA :),(hW HB vA :)⟩ (fun hHeld => ?_)
              clear hK K;refine nP (some 43) ?_;refine pQ 14 (some 29) HT_ ?_;refine pQ 15 (some 44) HT_ ?_;refine pQ 16 (some 45) HT_ ?_;refine pQ 17 (some 9) HT_ ?_;refine pQ 18 (some 10) HT_ ?_
              refine done_ (Q2d HT_.out (by kernel_rfl)) ?_
              obtain ⟨yE,zE,bF,cF,dF,eF⟩:=c3 dA
              obtain ⟨dI,eI,fI⟩:=Kd.Q01 mA.out
              subst fI
              try go_wp2_with (first|((with_reducible refine Q0n (f:=36) rfl ?_);refine gL (some 48) Try.func36 #[.agg #[.int .i64 gB,.int .i64 hB,.int .i64 iB],.slice dI fC.length eI] ?_;(with_reducible refine (Q0z.calls k2 gB hB iB _ _ fC nB _ ?side1 ?side2 eE.out).mono ?_);(case side1=>exact sR mA);(case side2=>exact (Kd.Q0w mA.out).2.1);rintro e zJ ⟨rfl,hb⟩;refine ⟨_,rfl,?_⟩;replace HO_5:=kR HO_5 hb;replace mA:=kR mA hb;replace aA:=kB aA hb;replace dA:=kB dA hb;replace HB:=kH HB hb;clear hb))
              go_roundg k2
              case measure=>have:=tC.out;have:=uC.out;omega
              case rel=>exact ⟨(false),(wrap64 (eA+1)),rS,rS,H',⟨by have:=tC.out;have:=uC.out;omega⟩,⟨rK HO_5⟩,⟨bK aA⟩,⟨bK dA⟩,⟨ bH HB⟩⟩
             ·rw [if_neg wD] at H
              have hE:(nB==(-1))=false:=beq_eq_false_iff_ne.mpr wD
              have iE:(nB != (-1))=true:=bne_iff_ne.mpr wD
              apply iC H<;>clear H<;>intro bJ H
              ·have jE:=AM H
               clear H;have cJ:=xA.out;have dJ:=yA.out;obtain ⟨fF,gF,hF,jF,kF,lF⟩:=c3 aA
               have jB:0≤(bA:Int):=pD
               have lB:bA<(cA.length:Int):=pD
               obtain ⟨nA,hC,jC,kC,iA,jA,kA⟩:=Q3c mB.out bA jB lB
               cases kC
               replace iA:=hW HB iA
               have xB:=AM kA
               have yB:=AM jA
               clear kA jA;replace jB:=eq_true jB;replace lB:=eq_true lB
               try go_wp2
               replace HO_5:=dR HO_5;replace aA:=dB aA;replace dA:=dB dA;replace HB:=dH HB
               have qB:0≤(bA:Int):=pD
               have rB:bA<(cA.length:Int):=pD
               obtain ⟨gC,oC,sB,pC,fA,oA,pA⟩:=Q3c mB.out bA qB rB
               have qA:=fA
               obtain rfl:nA=gC:=(by injection pC)
               replace fA:=hW HB fA
               have rA:=AM pA
               have mC:=AM oA
               clear pA oA;replace qB:=eq_true qB;replace rB:=eq_true rB
               have tB:0≤(eA:Int):=pD
               have uB:eA<((Q06 cA bA).length:Int):=pD
               obtain ⟨pB,qC,gA⟩:=Kd.Q2n rA.out eA tB uB
               have sA:=gA
               cases qC
               replace gA:=hW HB gA;replace tB:=eq_true tB;replace uB:=eq_true uB
               have vB:0≤((rd (Q06 cA bA) eA):Int):=pD
               have wB:(rd (Q06 cA bA) eA)<(lA.length:Int):=pD
               obtain ⟨bB,cB,eB,rC,hA,tA,uA⟩:=Q3c eC.out (rd (Q06 cA bA) eA) vB wB
               have vA:=hA
               cases rC
               replace hA:=hW HB hA
               have wA:=AM uA
               have oB:=AM tA
               clear uA tA;replace vB:=eq_true vB;replace wB:=eq_true wB
               refine sP 19 (S:=fun w'=>w'.cell? ⟨fB,0,none⟩=some (.slice zB zA.length aC)∧w'.cell? ⟨fB,1,none⟩=some (.slice (some bB) lA.length cC)∧w'.cell? ⟨fB,2,none⟩=some (.slice (some nA) cA.length dC)∧w'.cell? (nA.add (bA).toNat)=some (.slice (some pB) (Q06 cA bA).length sB)∧w'.cell? (pB.add (eA).toNat)=some (.int .i64 (rd (Q06 cA bA) eA))∧w'.cell? (bB.add ((rd (Q06 cA bA) eA)).toNat)=some (.slice cB (Q06 lA (rd (Q06 cA bA) eA)).length eB)) (ds:=[]) ⟨bC aA,bC aA,bC aA,(hW HB qA :),(hW HB sA :),(hW HB vA :)⟩ fun hHeld => ?_;refine Q1m Q0r.tab9 Q0r.bits9 (fun HT_ HW_ => ?_)
               generalize wr.drew=w29 at HO_5 aA dA HB rA wA fA gA hA hHeld ⊢
               refine pQ 1 (some 31) HT_ ?_;refine pQ 3 (some 33) HT_ ?_;refine pQ 5 (some 35) HT_ ?_;refine pQ 8 (some 38) HT_ ?_;refine tQ 0 (some 30) HT_ HW_ hHeld ?_;refine tQ 2 (some 32) HT_ HW_ hHeld ?_;refine tQ 4 (some 34) HT_ HW_ hHeld ?_;refine pQ 6 (some 36) HT_ ?_;refine tQ 7 (some 37) HT_ HW_ hHeld ?_;refine pQ 9 (some 39) HT_ ?_;refine tQ 10 (some 40) HT_ HW_ hHeld ?_;refine pQ 11 (some 41) HT_ ?_;refine tQ 12 (some 42) HT_ HW_ hHeld ?_
               refine oQ 13 (some 43) HT_ rfl fun K hK => ?_
               refine gO Try.func35 #[.agg #[.slice zB zA.length aC,.slice (some bB) lA.length cC,.slice (some nA) cA.length dC],.slice cB (Q06 lA (rd (Q06 cA bA) eA)).length eB] ?_
               with_reducible refine (Q0f.calls k2 _ _ zA _ _ lA _ _ cA _ _ (Q06 lA (rd (Q06 cA bA) eA)) fC gD _ ?side1 ?side2 ?side3 ?side4 ?side5 ?side6 ?side7 ?side8 dE.out).mono ?_
               (case side1=>exact sC vC HB)
               (case side2=>exact wC.out)
               (case side3=>exact sC eC HB)
               (case side4=>exact xC.out)
               (case side5=>exact sC mB HB)
               (case side6=>exact yC.out)
               (case side7=>exact sC wA HB)
               (case side8=>exact oB.out)
               rintro e aK ⟨hD,rfl,dD,hb⟩
               refine ⟨_,rfl,?_⟩
               replace HO_5:=kR HO_5 hb
               have mA:=AM (Kd.Q1b (Kd.Q2v dD (g:=lC) (o:=.cells #[.int .i64 gB,.int .i64 hB,.int .i64 iB] 27 (0,0)) (bK dA)) (Q0h (bH HB)))
               replace aA:=kB aA hb;replace dA:=kB dA hb;replace HB:=kH HB hb;clear hb dD
               refine hK.out _ _ ⟨bC aA,bC aA,bC aA,(hW HB qA :),(hW HB sA :),(hW HB vA :)⟩ (fun hHeld => ?_)
               clear hK K;refine nP (some 43) ?_;refine pQ 14 (some 29) HT_ ?_;refine pQ 15 (some 44) HT_ ?_;refine pQ 16 (some 45) HT_ ?_;refine pQ 17 (some 9) HT_ ?_;refine pQ 18 (some 10) HT_ ?_
               refine done_ (Q2d HT_.out (by kernel_rfl)) ?_
               obtain ⟨mF,nF,oF,pF,qF,rF⟩:=c3 dA
               obtain ⟨gI,hI,iI⟩:=Kd.Q01 mA.out
               subst iI
               go_upto_if 62 with (first|((with_reducible refine Q0n (f:=36) rfl ?_);refine gL (some 48) Try.func36 #[.agg #[.int .i64 gB,.int .i64 hB,.int .i64 iB],.slice gI fC.length hI] ?_;(with_reducible refine (Q0z.calls k2 gB hB iB _ _ fC nB _ ?side1 ?side2 eE.out).mono ?_);(case side1=>exact sR mA);(case side2=>exact (Kd.Q0w mA.out).2.1);rintro e cK ⟨rfl,hb⟩;refine ⟨_,rfl,?_⟩;replace HO_5:=kR HO_5 hb;replace mA:=kR mA hb;replace aA:=kB aA hb;replace dA:=kB dA hb;replace HB:=kH HB hb;clear hb))
               (try simp only [Act.put,List.setIfInBounds_toArray,List.set_cons_zero,List.set_cons_succ])
               have H:=jE.out;clear jE
               by_cases xD:nB=1
               ·rw [if_pos xD] at H
                have aD:(nB==1)=true:=beq_iff_eq.mpr xD
                have kE:(nB != 1)=false:=bne_eq_false_iff_eq.mpr xD
                clear xD
                (first|rw [aD]|(simp only [Q1r,Q13];rw [aD])|skip)
                have H':=AM H
                clear H
                go_wp2
                go_roundg k2
                case measure=>have:=tC.out;have:=uC.out;omega
                case rel=>exact ⟨(false),(wrap64 (eA+1)),rS,rS,H',⟨by have:=tC.out;have:=uC.out;omega⟩,⟨rK HO_5⟩,⟨bK aA⟩,⟨bK dA⟩,⟨ bH HB⟩⟩
               ·rw [if_neg xD] at H
                have aD:(nB==1)=false:=beq_eq_false_iff_ne.mpr xD
                have kE:(nB != 1)=true:=bne_iff_ne.mpr xD
                (first|rw [aD]|(simp only [Q1r,Q13];rw [aD])|skip)
                have H':=AM H
                clear H
                go_wp2
                go_roundg k2
                case measure=>have:=tC.out;have:=uC.out;omega
                case rel=>exact ⟨(zC),(wrap64 (eA+1)),rS,rS,H',⟨by have:=tC.out;have:=uC.out;omega⟩,⟨rK HO_5⟩,⟨bK aA⟩,⟨bK dA⟩,⟨ bH HB⟩⟩
              ·have H':=AM H
               clear H;have eJ:=xA.out;have fJ:=yA.out;obtain ⟨sF,tF,uF,vF,wF,xF⟩:=c3 aA
               have jB:0≤(bA:Int):=pD
               have lB:bA<(cA.length:Int):=pD
               obtain ⟨nA,hC,jC,kC,iA,jA,kA⟩:=Q3c mB.out bA jB lB
               cases kC
               replace iA:=hW HB iA
               have xB:=AM kA
               have yB:=AM jA
               clear kA jA;replace jB:=eq_true jB;replace lB:=eq_true lB
               try go_wp2
               replace HO_5:=dR HO_5;replace aA:=dB aA;replace dA:=dB dA;replace HB:=dH HB
               have qB:0≤(bA:Int):=pD
               have rB:bA<(cA.length:Int):=pD
               obtain ⟨gC,oC,sB,pC,fA,oA,pA⟩:=Q3c mB.out bA qB rB
               have qA:=fA
               obtain rfl:nA=gC:=(by injection pC)
               replace fA:=hW HB fA
               have rA:=AM pA
               have mC:=AM oA
               clear pA oA;replace qB:=eq_true qB;replace rB:=eq_true rB
               have tB:0≤(eA:Int):=pD
               have uB:eA<((Q06 cA bA).length:Int):=pD
               obtain ⟨pB,qC,gA⟩:=Kd.Q2n rA.out eA tB uB
               have sA:=gA
               cases qC
               replace gA:=hW HB gA;replace tB:=eq_true tB;replace uB:=eq_true uB
               have vB:0≤((rd (Q06 cA bA) eA):Int):=pD
               have wB:(rd (Q06 cA bA) eA)<(lA.length:Int):=pD
               obtain ⟨bB,cB,eB,rC,hA,tA,uA⟩:=Q3c eC.out (rd (Q06 cA bA) eA) vB wB
               have vA:=hA
               cases rC
               replace hA:=hW HB hA
               have wA:=AM uA
               have oB:=AM tA
               clear uA tA;replace vB:=eq_true vB;replace wB:=eq_true wB
               refine sP 19 (S:=fun w'=>w'.cell? ⟨fB,0,none⟩=some (.slice zB zA.length aC)∧w'.cell? ⟨fB,1,none⟩=some (.slice (some bB) lA.length cC)∧w'.cell? ⟨fB,2,none⟩=some (.slice (some nA) cA.length dC)∧w'.cell? (nA.add (bA).toNat)=some (.slice (some pB) (Q06 cA bA).length sB)∧w'.cell? (pB.add (eA).toNat)=some (.int .i64 (rd (Q06 cA bA) eA))∧w'.cell? (bB.add ((rd (Q06 cA bA) eA)).toNat)=some (.slice cB (Q06 lA (rd (Q06 cA bA) eA)).length eB)) (ds:=[]) ⟨bC aA,bC aA,bC aA,(hW HB qA :),(hW HB sA :),(hW HB vA :)⟩ fun hHeld => ?_;refine Q1m Q0r.tab9 Q0r.bits9 (fun HT_ HW_ => ?_)
               generalize wr.drew=w37 at HO_5 aA dA HB rA wA fA gA hA hHeld ⊢
               refine pQ 1 (some 31) HT_ ?_;refine pQ 3 (some 33) HT_ ?_;refine pQ 5 (some 35) HT_ ?_;refine pQ 8 (some 38) HT_ ?_;refine tQ 0 (some 30) HT_ HW_ hHeld ?_;refine tQ 2 (some 32) HT_ HW_ hHeld ?_;refine tQ 4 (some 34) HT_ HW_ hHeld ?_;refine pQ 6 (some 36) HT_ ?_;refine tQ 7 (some 37) HT_ HW_ hHeld ?_;refine pQ 9 (some 39) HT_ ?_;refine tQ 10 (some 40) HT_ HW_ hHeld ?_;refine pQ 11 (some 41) HT_ ?_;refine tQ 12 (some 42) HT_ HW_ hHeld ?_
               refine oQ 13 (some 43) HT_ rfl fun K hK => ?_
               refine gO Try.func35 #[.agg #[.slice zB zA.length aC,.slice (some bB) lA.length cC,.slice (some nA) cA.length dC],.slice cB (Q06 lA (rd (Q06 cA bA) eA)).length eB] ?_
               with_reducible refine (Q0f.calls k2 _ _ zA _ _ lA _ _ cA _ _ (Q06 lA (rd (Q06 cA bA) eA)) fC gD _ ?side1 ?side2 ?side3 ?side4 ?side5 ?side6 ?side7 ?side8 dE.out).mono ?_
               (case side1=>exact sC vC HB)
               (case side2=>exact wC.out)
               (case side3=>exact sC eC HB)
               (case side4=>exact xC.out)
               (case side5=>exact sC mB HB)
               (case side6=>exact yC.out)
               (case side7=>exact sC wA HB)
               (case side8=>exact oB.out)
               rintro e dK ⟨hD,rfl,dD,hb⟩
               refine ⟨_,rfl,?_⟩
               replace HO_5:=kR HO_5 hb
               have mA:=AM (Kd.Q1b (Kd.Q2v dD (g:=lC) (o:=.cells #[.int .i64 gB,.int .i64 hB,.int .i64 iB] 27 (0,0)) (bK dA)) (Q0h (bH HB)))
               replace aA:=kB aA hb;replace dA:=kB dA hb;replace HB:=kH HB hb;clear hb dD
               refine hK.out _ _ ⟨bC aA,bC aA,bC aA,(hW HB qA :),(hW HB sA :),(hW HB vA :)⟩ (fun hHeld => ?_)
               clear hK K;refine nP (some 43) ?_;refine pQ 14 (some 29) HT_ ?_;refine pQ 15 (some 44) HT_ ?_;refine pQ 16 (some 45) HT_ ?_;refine pQ 17 (some 9) HT_ ?_;refine pQ 18 (some 10) HT_ ?_
               refine done_ (Q2d HT_.out (by kernel_rfl)) ?_
               obtain ⟨yF,zF,aG,bG,cG,dG⟩:=c3 dA
               obtain ⟨jI,kI,lI⟩:=Kd.Q01 mA.out
               subst lI
               try go_wp2_with (first|((with_reducible refine Q0n (f:=36) rfl ?_);refine gL (some 48) Try.func36 #[.agg #[.int .i64 gB,.int .i64 hB,.int .i64 iB],.slice jI fC.length kI] ?_;(with_reducible refine (Q0z.calls k2 gB hB iB _ _ fC nB _ ?side1 ?side2 eE.out).mono ?_);(case side1=>exact sR mA);(case side2=>exact (Kd.Q0w mA.out).2.1);rintro e eK ⟨rfl,hb⟩;refine ⟨_,rfl,?_⟩;replace HO_5:=kR HO_5 hb;replace mA:=kR mA hb;replace aA:=kB aA hb;replace dA:=kB dA hb;replace HB:=kH HB hb;clear hb))
               go_roundg k2
               case measure=>have:=tC.out;have:=uC.out;omega
               case rel=>exact ⟨(zC),(wrap64 (eA+1)),rS,rS,H',⟨by have:=tC.out;have:=uC.out;omega⟩,⟨rK HO_5⟩,⟨bK aA⟩,⟨bK dA⟩,⟨ bH HB⟩⟩
            ·rw [if_neg vD] at H
             have fE:(eA==0)=false:=beq_eq_false_iff_ne.mpr vD
             have gE:(eA != 0)=true:=bne_iff_ne.mpr vD
             apply iC H<;>clear H<;>intro gJ H
             ·have lE:=AM H
              clear H;have hJ:=xA.out;have iJ:=yA.out;obtain ⟨eG,fG,gG,hG,iG,jG⟩:=c3 aA
              have jB:0≤(bA:Int):=pD
              have lB:bA<(cA.length:Int):=pD
              obtain ⟨nA,hC,jC,kC,iA,jA,kA⟩:=Q3c mB.out bA jB lB
              cases kC
              replace iA:=hW HB iA
              have xB:=AM kA
              have yB:=AM jA
              clear kA jA;replace jB:=eq_true jB;replace lB:=eq_true lB
              try go_wp2
              replace HO_5:=dR HO_5;replace aA:=dB aA;replace dA:=dB dA;replace HB:=dH HB
              have qB:0≤(bA:Int):=pD
              have rB:bA<(cA.length:Int):=pD
              obtain ⟨gC,oC,sB,pC,fA,oA,pA⟩:=Q3c mB.out bA qB rB
              have qA:=fA
              obtain rfl:nA=gC:=(by injection pC)
              replace fA:=hW HB fA
              have rA:=AM pA
              have mC:=AM oA
              clear pA oA;replace qB:=eq_true qB;replace rB:=eq_true rB
              have tB:0≤(eA:Int):=pD
              have uB:eA<((Q06 cA bA).length:Int):=pD
              obtain ⟨pB,qC,gA⟩:=Kd.Q2n rA.out eA tB uB
              have sA:=gA
              cases qC
              replace gA:=hW HB gA;replace tB:=eq_true tB;replace uB:=eq_true uB
              have vB:0≤((rd (Q06 cA bA) eA):Int):=pD
              have wB:(rd (Q06 cA bA) eA)<(lA.length:Int):=pD
              obtain ⟨bB,cB,eB,rC,hA,tA,uA⟩:=Q3c eC.out (rd (Q06 cA bA) eA) vB wB
              have vA:=hA
              cases rC
              replace hA:=hW HB hA
              have wA:=AM uA
              have oB:=AM tA
              clear uA tA;replace vB:=eq_true vB;replace wB:=eq_true wB
              refine sP 19 (S:=fun w'=>w'.cell? ⟨fB,0,none⟩=some (.slice zB zA.length aC)∧w'.cell? ⟨fB,1,none⟩=some (.slice (some bB) lA.length cC)∧w'.cell? ⟨fB,2,none⟩=some (.slice (some nA) cA.length dC)∧w'.cell? (nA.add (bA).toNat)=some (.slice (some pB) (Q06 cA bA).length sB)∧w'.cell? (pB.add (eA).toNat)=some (.int .i64 (rd (Q06 cA bA) eA))∧w'.cell? (bB.add ((rd (Q06 cA bA) eA)).toNat)=some (.slice cB (Q06 lA (rd (Q06 cA bA) eA)).length eB)) (ds:=[]) ⟨bC aA,bC aA,bC aA,(hW HB qA :),(hW HB sA :),(hW HB vA :)⟩ fun hHeld => ?_;refine Q1m Q0r.tab9 Q0r.bits9 (fun HT_ HW_ => ?_)
              generalize wr.drew=w46 at HO_5 aA dA HB rA wA fA gA hA hHeld ⊢
              refine pQ 1 (some 31) HT_ ?_;refine pQ 3 (some 33) HT_ ?_;refine pQ 5 (some 35) HT_ ?_;refine pQ 8 (some 38) HT_ ?_;refine tQ 0 (some 30) HT_ HW_ hHeld ?_;refine tQ 2 (some 32) HT_ HW_ hHeld ?_;refine tQ 4 (some 34) HT_ HW_ hHeld ?_;refine pQ 6 (some 36) HT_ ?_;refine tQ 7 (some 37) HT_ HW_ hHeld ?_;refine pQ 9 (some 39) HT_ ?_;refine tQ 10 (some 40) HT_ HW_ hHeld ?_;refine pQ 11 (some 41) HT_ ?_;refine tQ 12 (some 42) HT_ HW_ hHeld ?_
              refine oQ 13 (some 43) HT_ rfl fun K hK => ?_
              refine gO Try.func35 #[.agg #[.slice zB zA.length aC,.slice (some bB) lA.length cC,.slice (some nA) cA.length dC],.slice cB (Q06 lA (rd (Q06 cA bA) eA)).length eB] ?_
              with_reducible refine (Q0f.calls k2 _ _ zA _ _ lA _ _ cA _ _ (Q06 lA (rd (Q06 cA bA) eA)) fC gD _ ?side1 ?side2 ?side3 ?side4 ?side5 ?side6 ?side7 ?side8 dE.out).mono ?_
              (case side1=>exact sC vC HB)
              (case side2=>exact wC.out)
              (case side3=>exact sC eC HB)
              (case side4=>exact xC.out)
              (case side5=>exact sC mB HB)
              (case side6=>exact yC.out)
              (case side7=>exact sC wA HB)
              (case side8=>exact oB.out)
              rintro e fK ⟨hD,rfl,dD,hb⟩
              refine ⟨_,rfl,?_⟩
              replace HO_5:=kR HO_5 hb
              have mA:=AM (Kd.Q1b (Kd.Q2v dD (g:=lC) (o:=.cells #[.int .i64 gB,.int .i64 hB,.int .i64 iB] 27 (0,0)) (bK dA)) (Q0h (bH HB)))
              replace aA:=kB aA hb;replace dA:=kB dA hb;replace HB:=kH HB hb;clear hb dD
              refine hK.out _ _ ⟨bC aA,bC aA,bC aA,(hW HB qA :),(hW HB sA :),(hW HB vA :)⟩ (fun hHeld => ?_)
              clear hK K;refine nP (some 43) ?_;refine pQ 14 (some 29) HT_ ?_;refine pQ 15 (some 44) HT_ ?_;refine pQ 16 (some 45) HT_ ?_;refine pQ 17 (some 9) HT_ ?_;refine pQ 18 (some 10) HT_ ?_
              refine done_ (Q2d HT_.out (by kernel_rfl)) ?_
              obtain ⟨lG,mG,nG,oG,pG,qG⟩:=c3 dA
              obtain ⟨mI,nI,oI⟩:=Kd.Q01 mA.out
              subst oI
              go_upto_if 62 with (first|((with_reducible refine Q0n (f:=36) rfl ?_);refine gL (some 48) Try.func36 #[.agg #[.int .i64 gB,.int .i64 hB,.int .i64 iB],.slice mI fC.length nI] ?_;(with_reducible refine (Q0z.calls k2 gB hB iB _ _ fC nB _ ?side1 ?side2 eE.out).mono ?_);(case side1=>exact sR mA);(case side2=>exact (Kd.Q0w mA.out).2.1);rintro e gK ⟨rfl,hb⟩;refine ⟨_,rfl,?_⟩;replace HO_5:=kR HO_5 hb;replace mA:=kR mA hb;replace aA:=kB aA hb;replace dA:=kB dA hb;replace HB:=kH HB hb;clear hb))
              (try simp only [Act.put,List.setIfInBounds_toArray,List.set_cons_zero,List.set_cons_succ])
              have H:=lE.out;clear lE
              by_cases yD:nB=1
              ·rw [if_pos yD] at H
               have bD:(nB==1)=true:=beq_iff_eq.mpr yD
               have mE:(nB != 1)=false:=bne_eq_false_iff_eq.mpr yD
               clear yD
               (first|rw [bD]|(simp only [Q1r,Q13];rw [bD])|skip)
               have H':=AM H
               clear H
               go_wp2
               go_roundg k2
               case measure=>have:=tC.out;have:=uC.out;omega
               case rel=>exact ⟨(false),(wrap64 (eA+1)),rS,rS,H',⟨by have:=tC.out;have:=uC.out;omega⟩,⟨rK HO_5⟩,⟨bK aA⟩,⟨bK dA⟩,⟨ bH HB⟩⟩
              ·rw [if_neg yD] at H
               have bD:(nB==1)=false:=beq_eq_false_iff_ne.mpr yD
               have mE:(nB != 1)=true:=bne_iff_ne.mpr yD
               (first|rw [bD]|(simp only [Q1r,Q13];rw [bD])|skip)
               have H':=AM H
               clear H
               go_wp2
               go_roundg k2
               case measure=>have:=tC.out;have:=uC.out;omega
               case rel=>exact ⟨(zC),(wrap64 (eA+1)),rS,rS,H',⟨by have:=tC.out;have:=uC.out;omega⟩,⟨rK HO_5⟩,⟨bK aA⟩,⟨bK dA⟩,⟨ bH HB⟩⟩
             ·have H':=AM H
              clear H;have jJ:=xA.out;have kJ:=yA.out;obtain ⟨rG,sG,tG,uG,vG,wG⟩:=c3 aA
              have jB:0≤(bA:Int):=pD
              have lB:bA<(cA.length:Int):=pD
              obtain ⟨nA,hC,jC,kC,iA,jA,kA⟩:=Q3c mB.out bA jB lB
              cases kC
              replace iA:=hW HB iA
              have xB:=AM kA
              have yB:=AM jA
              clear kA jA;replace jB:=eq_true jB;replace lB:=eq_true lB
              try go_wp2
              replace HO_5:=dR HO_5;replace aA:=dB aA;replace dA:=dB dA;replace HB:=dH HB
              have qB:0≤(bA:Int):=pD
              have rB:bA<(cA.length:Int):=pD
              obtain ⟨gC,oC,sB,pC,fA,oA,pA⟩:=Q3c mB.out bA qB rB
              have qA:=fA
              obtain rfl:nA=gC:=(by injection pC)
              replace fA:=hW HB fA
              have rA:=AM pA
              have mC:=AM oA
              clear pA oA;replace qB:=eq_true qB;replace rB:=eq_true rB
              have tB:0≤(eA:Int):=pD
              have uB:eA<((Q06 cA bA).length:Int):=pD
              obtain ⟨pB,qC,gA⟩:=Kd.Q2n rA.out eA tB uB
              have sA:=gA
              cases qC
              replace gA:=hW HB gA;replace tB:=eq_true tB;replace uB:=eq_true uB
              have vB:0≤((rd (Q06 cA bA) eA):Int):=pD
              have wB:(rd (Q06 cA bA) eA)<(lA.length:Int):=pD
              obtain ⟨bB,cB,eB,rC,hA,tA,uA⟩:=Q3c eC.out (rd (Q06 cA bA) eA) vB wB
              have vA:=hA
              cases rC
              replace hA:=hW HB hA
              have wA:=AM uA
              have oB:=AM tA
              clear uA tA;replace vB:=eq_true vB;replace wB:=eq_true wB
              refine sP 19 (S:=fun w'=>w'.cell? ⟨fB,0,none⟩=some (.slice zB zA.length aC)∧w'.cell? ⟨fB,1,none⟩=some (.slice (some bB) lA.length cC)∧w'.cell? ⟨fB,2,none⟩=some (.slice (some nA) cA.length dC)∧w'.cell? (nA.add (bA).toNat)=some (.slice (some pB) (Q06 cA bA).length sB)∧w'.cell? (pB.add (eA).toNat)=some (.int .i64 (rd (Q06 cA bA) eA))∧w'.cell? (bB.add ((rd (Q06 cA bA) eA)).toNat)=some (.slice cB (Q06 lA (rd (Q06 cA bA) eA)).length eB)) (ds:=[]) ⟨bC aA,bC aA,bC aA,(hW HB qA :),(hW HB sA :),(hW HB vA :)⟩ fun hHeld => ?_;refine Q1m Q0r.tab9 Q0r.bits9 (fun HT_ HW_ => ?_)
              generalize wr.drew=w54 at HO_5 aA dA HB rA wA fA gA hA hHeld ⊢
              refine pQ 1 (some 31) HT_ ?_;refine pQ 3 (some 33) HT_ ?_;refine pQ 5 (some 35) HT_ ?_;refine pQ 8 (some 38) HT_ ?_;refine tQ 0 (some 30) HT_ HW_ hHeld ?_;refine tQ 2 (some 32) HT_ HW_ hHeld ?_;refine tQ 4 (some 34) HT_ HW_ hHeld ?_;refine pQ 6 (some 36) HT_ ?_;refine tQ 7 (some 37) HT_ HW_ hHeld ?_;refine pQ 9 (some 39) HT_ ?_;refine tQ 10 (some 40) HT_ HW_ hHeld ?_;refine pQ 11 (some 41) HT_ ?_;refine tQ 12 (some 42) HT_ HW_ hHeld ?_
              refine oQ 13 (some 43) HT_ rfl fun K hK => ?_
              refine gO Try.func35 #[.agg #[.slice zB zA.length aC,.slice (some bB) lA.length cC,.slice (some nA) cA.length dC],.slice cB (Q06 lA (rd (Q06 cA bA) eA)).length eB] ?_
              with_reducible refine (Q0f.calls k2 _ _ zA _ _ lA _ _ cA _ _ (Q06 lA (rd (Q06 cA bA) eA)) fC gD _ ?side1 ?side2 ?side3 ?side4 ?side5 ?side6 ?side7 ?side8 dE.out).mono ?_
              (case side1=>exact sC vC HB)
              (case side2=>exact wC.out)
              (case side3=>exact sC eC HB)
              (case side4=>exact xC.out)
              (case side5=>exact sC mB HB)
              (case side6=>exact yC.out)
              (case side7=>exact sC wA HB)
              (case side8=>exact oB.out)
              rintro e iK ⟨hD,rfl,dD,hb⟩
              refine ⟨_,rfl,?_⟩
              replace HO_5:=kR HO_5 hb
              have mA:=AM (Kd.Q1b (Kd.Q2v dD (g:=lC) (o:=.cells #[.int .i64 gB,.int .i64 hB,.int .i64 iB] 27 (0,0)) (bK dA)) (Q0h (bH HB)))
              replace aA:=kB aA hb;replace dA:=kB dA hb;replace HB:=kH HB hb;clear hb dD
              refine hK.out _ _ ⟨bC aA,bC aA,bC aA,(hW HB qA :),(hW HB sA :),(hW HB vA :)⟩ (fun hHeld => ?_)
              clear hK K;refine nP (some 43) ?_;refine pQ 14 (some 29) HT_ ?_;refine pQ 15 (some 44) HT_ ?_;refine pQ 16 (some 45) HT_ ?_;refine pQ 17 (some 9) HT_ ?_;refine pQ 18 (some 10) HT_ ?_
              refine done_ (Q2d HT_.out (by kernel_rfl)) ?_
              obtain ⟨xG,yG,zG,aH,cH,eH⟩:=c3 dA
              obtain ⟨pI,qI,rI⟩:=Kd.Q01 mA.out
              subst rI
              try go_wp2_with (first|((with_reducible refine Q0n (f:=36) rfl ?_);refine gL (some 48) Try.func36 #[.agg #[.int .i64 gB,.int .i64 hB,.int .i64 iB],.slice pI fC.length qI] ?_;(with_reducible refine (Q0z.calls k2 gB hB iB _ _ fC nB _ ?side1 ?side2 eE.out).mono ?_);(case side1=>exact sR mA);(case side2=>exact (Kd.Q0w mA.out).2.1);rintro e jK ⟨rfl,hb⟩;refine ⟨_,rfl,?_⟩;replace HO_5:=kR HO_5 hb;replace mA:=kR mA hb;replace aA:=kB aA hb;replace dA:=kB dA hb;replace HB:=kH HB hb;clear hb))
              go_roundg k2
              case measure=>have:=tC.out;have:=uC.out;omega
              case rel=>exact ⟨(zC),(wrap64 (eA+1)),rS,rS,H',⟨by have:=tC.out;have:=uC.out;omega⟩,⟨rK HO_5⟩,⟨bK aA⟩,⟨bK dA⟩,⟨ bH HB⟩⟩
        ·by_cases fH:zC=true
         ·subst fH
          replace H:=iT H
          by_cases gH:nC.length<17592186044416
          ·rw [if_pos gH] at H
           have nE:=AM gH
           clear gH
           obtain ⟨oE,cD⟩:∃ y_:List Int,y_=(nC++[bA]):=⟨_,rfl⟩
           replace H:(Q0r.l0 k2 oE (wrap64 (bA+1)) zA lA cA gB hB iB)=some r:=by first|(rw [cD];with_reducible exact H)|(have sI:=(Option.bind_some _ _).symm.trans H;rw [cD];with_reducible exact sI)|(have sI:=(Option.bind_some _ _).symm.trans H;with_reducible exact sI)|with_reducible exact H|(rw [cD];exact H)|exact H
           have pE:=AM cD
           clear cD
           have H':=AM H
           clear H;have lJ:=xA.out;have mJ:=yA.out;obtain ⟨hH,iH,jH,lH,mH,nH⟩:=c3 aA
           have jB:0≤(bA:Int):=pD
           have lB:bA<(cA.length:Int):=pD
           obtain ⟨nA,hC,jC,kC,iA,jA,kA⟩:=Q3c mB.out bA jB lB
           cases kC
           replace iA:=hW HB iA
           have xB:=AM kA
           have yB:=AM jA
           clear kA jA;replace jB:=eq_true jB;replace lB:=eq_true lB
           go_wp2_with (first|((with_reducible refine Q1v (b:=.append) (xs:=#[.tmp 64,.tmp 66]) rfl ?_);at_builtin;refine Kd.Q3j (Kd.int .i64) (w0:=w) w.heap.size rfl (.tmp 64) (.tmp 66) 32 3 (.int .i64 0) 8 rfl Try.underlying32 info3 rfl (by decide) (by omega) u5 nC bA [.int .i64 bA] (fun _=>True) (fun _=>False) rfl rfl ?aP (fun _ hk=>hk.elim) ?aF ?aO ?aB ?aS ?aL ?_;(case aP=>exact rfl);(case aB=>exact (bH HB));(case aF=>exact (fun _ _=>trivial));(case aO=>exact (rK HO_5));(case aS=>exact (Q0h (bH HB)));(case aL=>have:=nE.out;omega);intro xJ kK ho hb hg hat;rw [← pE.out] at ho;replace aA:=AM (Q1w (g:=fB) (o:=.cells #[.slice zB zA.length aC,.slice eD lA.length cC,.slice (some nA) cA.length dC] 25 (0,0)) (bK aA) hg (Kd.R_ne HO_5.out aA.out (by decide)));replace dA:=AM (Q1w (g:=lC) (o:=.cells #[.int .i64 gB,.int .i64 hB,.int .i64 iB] 27 (0,0)) (bK dA) hg (Kd.R_ne HO_5.out dA.out (by decide)));replace HB:=AM hb;have qE:=AM ho;clear HO_5;clear ho hb hg hat))
           go_roundg k2
           case measure=>have:=tC.out;have:=uC.out;omega
           case rel=>exact ⟨(oE),(wrap64 (bA+1)),rS,H',⟨by have:=tC.out;have:=uC.out;omega⟩,⟨rK qE⟩,⟨bK aA⟩,⟨bK dA⟩,⟨ bH HB⟩⟩
          ·rw [if_neg gH] at H
           exact absurd H (by simp)
         ·replace fH:=Bool.eq_false_iff.mpr fH
          subst fH
          replace H:=iF H
          have H':=AM H
          clear H;have nJ:=xA.out;have oJ:=yA.out;obtain ⟨oH,pH,qH,rH,sH,tH⟩:=c3 aA
          have jB:0≤(bA:Int):=pD
          have lB:bA<(cA.length:Int):=pD
          obtain ⟨nA,hC,jC,kC,iA,jA,kA⟩:=Q3c mB.out bA jB lB
          cases kC
          replace iA:=hW HB iA
          have xB:=AM kA
          have yB:=AM jA
          clear kA jA;replace jB:=eq_true jB;replace lB:=eq_true lB
          go_wp2
          go_roundg k2
          case measure=>have:=tC.out;have:=uC.out;omega
          case rel=>exact ⟨(nC),(wrap64 (bA+1)),rS,H',⟨by have:=tC.out;have:=uC.out;omega⟩,⟨rK HO_5⟩,⟨bK aA⟩,⟨bK dA⟩,⟨ bH HB⟩⟩
   ·obtain rfl:=Option.some.inj H
    have pJ:=xA.out;have qJ:=yA.out;obtain ⟨uH,vH,wH,xH,yH,zH⟩:=c3 aA
    go_wp2
    go_ret
    exact ⟨_,rE,rK HO_5,bH HB⟩
end Go.Proofs.Ytbonkedecfjmdaa.P
