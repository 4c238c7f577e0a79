/- Written for this claim by a program of this session (a turned copy of the print): Go functions as Lean functions, and that the Go code comes to just these answers; or a statement proved out of them. No condition. -/
import Derived.Test.YtbonkedecfjmdaaZ2
import Derived.Test.YtbonkedecfjmdaaZ3

namespace Go.Proofs.Ytbonkedecfjmdaa.P
open Go.RowKit Go.Proofs.YtbonkedecfjmdaaW.PrintWords Go.Proofs.YtbonkedecfjmdaaW.PrintLast Go.Proofs.YtbonkedecfjmdaaW.PrintMore Go.Proofs.Ytbonkedecfjmdaa.X
attribute [local go_sem] Q2a Q2b Q2s Q2q Q1z Q1y Q19 Q2c Q2r Q2p add64
set_option linter.unusedVariables false
set_option linter.unusedSimpArgs false
mutual
def Q1f.l0:Nat→List Int→Int→List Int→List Int→Option (List Int)
 | 0,_,_,_,_=>none
 | k+1,x5,x6,x178000,x179000=>if x6<8 then (Q1f.l1 k x5 x6 0 x178000 x179000) else ((Q09.f k x5).bind fun xA=>(some xA))
def Q1f.l1:Nat→List Int→Int→Int→List Int→List Int→Option (List Int)
 | 0,_,_,_,_,_=>none
 | k+1,x5,x6,x7,x178000,x179000=>if (wrap64 (x6+x7))<8 then (if 0≤(wrap64 (x6+x7)) then (if (wrap64 (x6+x7))<(x5.length:Int) then (if 0≤x6 then (if x6<(x178000.length:Int) then (if 0≤x7 then (if x7<(x179000.length:Int) then (Q1f.l1 k (x5.set ((wrap64 (x6+x7)):Int).toNat (wrap64 ((rd x5 (wrap64 (x6+x7)))+(wrap64 ((rd x178000 x6)*(rd x179000 x7)))))) x6 (wrap64 (x7+1)) x178000 x179000) else (none)) else (none)) else (none)) else (none)) else (none)) else (none)) else (Q1f.l0 k x5 (wrap64 (x6+1)) x178000 x179000)
end
def Q1f.f (k:Nat) (dA:List Int) (eA:List Int):Option (List Int):=if 8≤35184372088832 then (Q1f.l0 k (List.replicate 8 0) 0 dA eA) else (none)
theorem Q1f.Q1a:∀ k,(∀ y0 y1 y2 y3,LeO (Q1f.l0 k y0 y1 y2 y3) (Q1f.l0 (k+1) y0 y1 y2 y3))∧(∀ y0 y1 y2 y3 y4,LeO (Q1f.l1 k y0 y1 y2 y3 y4) (Q1f.l1 (k+1) y0 y1 y2 y3 y4))
 | 0=>⟨fun _ _ _ _ r h=>by simp [Q1f.l0] at h,fun _ _ _ _ _ r h=>by simp [Q1f.l1] at h⟩
 | k+1=>by
  obtain ⟨cD,dD⟩:=Q1f.Q1a k
  refine ⟨?_,?_⟩
  all_goals
   intros
   first|unfold Q1f.l0|unfold Q1f.l1
   repeat' with_reducible first|exact cD _ _ _ _|exact dD _ _ _ _ _|exact Q09.mono _ _|exact LeO.refl _|exact LeO.none _|refine LeO.ite ?_ ?_|refine LeO.bind ?_ (fun _ => ?_)
theorem Q1f.mono:∀ a0 a1 k,LeO (Q1f.f k a0 a1) (Q1f.f (k+1) a0 a1):=by
 intro a0 a1 k
 obtain ⟨cD,dD⟩:=Q1f.Q1a k
 unfold Q1f.f
 repeat' with_reducible first|exact cD _ _ _ _|exact dD _ _ _ _ _|exact Q09.mono _ _|exact LeO.refl _|exact LeO.none _|refine LeO.ite ?_ ?_|refine LeO.bind ?_ (fun _ => ?_)
def Q1f.T8:Bool×List (List Nat×List Nat):=(true,[([],[]),([],[]),([],[]),([1,2],[1,2]),([],[]),([],[]),([],[]),([5,6],[5,6]),([4,7],[4,7]),([8],[8]),([],[]),([10],[10]),([],[]),([11,12],[11,12]),([13],[13]),([],[]),([15],[15]),([],[]),([16,17],[16,17]),([18],[18]),([14,19],[14,19]),([9,20],[9,20]),([0,3,0,1,2,3,4,5,6,7,8,9,10,11,12,13,14,15,16,17,18,19,20,21],[0,3]),([22,21,0,1,2,3,4,5,6,7,8,9,10,11,12,13,14,15,16,17,18,19,20,21],[21,22])])
def Q1f.B8:List Nat:=[0,0,0,6,0,0,0,96,240,496,0,1024,0,7168,15360,0,32768,0,229376,491520,1047552,2097136,4194303,8388607]
theorem Q1f.tab8:rtab .any (opsOf Try.f82 8)=Q1f.T8:=by kernel_rfl
theorem Q1f.bits8:waitsOk Q1f.T8.2 Q1f.B8=true:=by kernel_rfl
set_option maxHeartbeats 8000000 in
set_option maxRecDepth 100000 in
theorem Q1f.calls (k:Nat) (yA:Option Addr) (qA:Nat) (dA:List Int) (zA:Option Addr) (rA:Nat) (eA:List Int) (r:List Int) (w:World) (fB:Kd.C (Kd.int .i64) w yA dA.length dA) (gB:dA.length≤qA) (hB:Kd.C (Kd.int .i64) w zA eA.length eA) (iB:eA.length≤rA) (h:Q1f.f k dA eA=some r) :
  Calls Try.prog 82 #[.agg #[.slice yA dA.length qA],.agg #[.slice zA eA.length rA]] w fun e w'=>∃ v0_:Value,e=.returned (.agg #[v0_])∧Kd.R (Kd.int .i64) 3 w' w.heap.size (fun _=>True) v0_ r∧Below w.heap.size w w':=by
 have nE:=Try.underlying43
 have aC:=AM fB
 have xD:=AM gB
 clear fB gB
 have cC:=AM hB
 have yD:=AM iB
 clear hB iB
 have HB:=AM (Below.refl w.heap.size w)
 have H:(if 8≤35184372088832 then (Q1f.l0 k (List.replicate 8 0) 0 dA eA) else (none))=some r:=h
 clear h
 by_cases c3:8≤35184372088832
 ·rw [if_pos c3] at H
  have eD:=eq_true c3;have fD:=decide_eq_true c3;clear c3
  obtain ⟨dC,mA⟩:∃ y_:List Int,y_=(List.replicate 8 0):=⟨_,rfl⟩
  replace H:(Q1f.l0 k dC 0 dA eA)=some r:=by first|(rw [mA];with_reducible exact H)|(have oB:=(Option.bind_some _ _).symm.trans H;rw [mA];with_reducible exact oB)|(have oB:=(Option.bind_some _ _).symm.trans H;with_reducible exact oB)|with_reducible exact H|(rw [mA];exact H)|exact H
  have jB:=AM mA
  clear mA
  have H':=AM H
  clear H
  go_enter Try.func82,Try.ntmps82
  go_wp2_with (first|((with_reducible refine Q0i (N:=2) rfl ?_);refine bE 2 #[.slice yA dA.length qA] 43 ?_;intro aB hg w4 hbox hb;have aA:=AM hbox;have eC:=kG HB hg;replace HB:=kH HB hb;have fC:=eC;clear hb hbox hg)|((with_reducible refine Q0i (N:=3) rfl ?_);refine bE 3 #[.slice zA eA.length rA] 43 ?_;intro bB hg w5 hbox hb;have bA:=AM hbox;have gC:=kG HB hg;replace HB:=kH HB hb;have hC:=gC;have yB:=kN aA hg;have zB:=kM aA hg;replace aA:=kB aA hb;clear hb hbox hg)|((with_reducible refine Q0i (N:=4) rfl ?_);refine bE 4 #[.slice none 0 0] 43 ?_;intro oA hg w6 hbox hb;have cA:=AM hbox;have jC:=kG HB hg;replace HB:=kH HB hb;have kC:=jC;have sA:=kN aA hg;have tA:=kM aA hg;replace aA:=kB aA hb;have uA:=kN bA hg;have vA:=kM bA hg;replace bA:=kB bA hb;clear hb hbox hg)|((with_reducible refine Q0i (N:=8) rfl ?_);refine Kd.Qgr (Kd.int .i64) _ 3 rfl (N:=8) rfl 32 _ _ rfl 8 rfl rfl Try.underlying32 (.int .i64 0) 8 info3 rfl (by decide) (by omega) 0 (ok:=fun _=>True) (okp:=fun _=>True) rfl (fun _ hk=>hk) trivial (by omega) (by omega) (Below.refl _ _) (Nat.le_refl _) ?_;intro lC w7 mC hb hg_ hnew_;clear hg_ hnew_;(first|rw [← jB.out] at mC|(simp only [Int.reduceToNat] at mC;rw [← jB.out] at mC));have nC:=AM (Kd.Q1b mC (Q0h (bH HB)));replace aA:=kB aA hb;replace bA:=kB bA hb;replace cA:=kB cA hb;replace HB:=kH HB hb;clear hb mC))
  go_loopg [6] k (fun kq v6 w'=>∃ (wA:List Int) (fA:Int),v6=.int .i64 fA∧Aside0 (Q1f.l0 kq wA fA dA eA=some r)∧Aside0 (kq≤k)∧Aside0 (Kd.R (Kd.int .i64) 3 w' w.heap.size (fun _=>True) lC wA)∧Aside0 (w'.heap[aB]? = some (.cells #[(.slice yA dA.length qA)] 43 (0,0)))∧Aside0 (w'.heap[bB]? = some (.cells #[(.slice zA eA.length rA)] 43 (0,0)))∧Aside0 (w'.heap[oA]? = some (.cells #[(.slice none 0 0)] 43 (0,0)))∧Aside0 (Below w.heap.size w w'))
  case atStart=>exact ⟨(dC),(0),rS,H',⟨Nat.le_refl _⟩,⟨rK nC⟩,⟨bK aA⟩,⟨bK bA⟩,⟨bK cA⟩,⟨ bH HB⟩⟩
  case round =>
   clear H'
   clear eD fD
   obtain ⟨wA,fA,rfl,HA,yC,HO_5,aA,bA,cA,HB⟩:=hrel
   cases gk with
   | zero=>exact absurd HA.out (by simp [Q1f.l0])
   | succ k1 =>
    have H:=HA.out;clear HA
    simp only [Q1f.l0] at H
    apply iC H<;>clear H<;>intro gD H
    ·have H':=AM H
     clear H
     go_wp2
     go_loopg [7] k1 (fun kq v7 w'=>∃ (iA:List Int) (gA:Int),v7=.int .i64 gA∧Aside0 (Q1f.l1 kq iA fA gA dA eA=some r)∧Aside0 (kq≤k1)∧Aside0 (Kd.R (Kd.int .i64) 3 w' w.heap.size (fun _=>True) lC iA)∧Aside0 (w'.heap[aB]? = some (.cells #[(.slice yA dA.length qA)] 43 (0,0)))∧Aside0 (w'.heap[bB]? = some (.cells #[(.slice zA eA.length rA)] 43 (0,0)))∧Aside0 (w'.heap[oA]? = some (.cells #[(.slice none 0 0)] 43 (0,0)))∧Aside0 (Below w.heap.size w w'))
     case atStart=>exact ⟨(wA),(0),rS,H',⟨Nat.le_refl _⟩,⟨rK HO_5⟩,⟨bK aA⟩,⟨bK bA⟩,⟨bK cA⟩,⟨ bH HB⟩⟩
     case round =>
      clear H'
      clear gD
      obtain ⟨iA,gA,rfl,HA,zC,HO_5,aA,bA,cA,HB⟩:=hrel
      cases gk with
      | zero=>exact absurd HA.out (by simp [Q1f.l1])
      | succ k2 =>
       have H:=HA.out;clear HA
       simp only [Q1f.l1] at H
       apply iC H<;>clear H<;>intro oC H
       ·obtain ⟨hA,pA⟩:∃ j_:Int,(wrap64 (fA+gA))=j_:=⟨_,rfl⟩
        replace H:(if 0≤(hA) then (if (hA)<(iA.length:Int) then (if 0≤fA then (if fA<(dA.length:Int) then (if 0≤gA then (if gA<(eA.length:Int) then (Q1f.l1 k2 (iA.set ((hA):Int).toNat (wrap64 ((rd iA (hA))+(wrap64 ((rd dA fA)*(rd eA gA)))))) fA (wrap64 (gA+1)) dA eA) else (none)) else (none)) else (none)) else (none)) else (none)) else (none))=some r:=by first|(rw [pA] at H;exact H)|(simp only [pA] at H ⊢;exact H)
        (try rw [pA] at oC)
        have hD:(IntKind.i64.wrap (fA+gA))=hA:=(Q1r _).trans pA
        apply iN H;clear H;intro zD H
        ·apply iN H;clear H;intro aE H
         ·apply iN H;clear H;intro cE H
          ·apply iN H;clear H;intro dE H
           ·apply iN H;clear H;intro eE H
            ·apply iN H;clear H;intro fE H
             ·obtain ⟨pC,nA⟩:∃ y_:List Int,y_=(iA.set ((hA):Int).toNat (wrap64 ((rd iA (hA))+(wrap64 ((rd dA fA)*(rd eA gA)))))):=⟨_,rfl⟩
              replace H:(Q1f.l1 k2 pC fA (wrap64 (gA+1)) dA eA)=some r:=by first|(rw [nA];with_reducible exact H)|(have oB:=(Option.bind_some _ _).symm.trans H;rw [nA];with_reducible exact oB)|(have oB:=(Option.bind_some _ _).symm.trans H;with_reducible exact oB)|with_reducible exact H|(rw [nA];exact H)|exact H
              have qC:=AM nA
              clear nA
              have H':=AM H
              clear H
              try go_wp2
              replace HO_5:=dR HO_5;replace aA:=dB aA;replace bA:=dB bA;replace cA:=dB cA;replace HB:=dH HB
              obtain ⟨oE,pE,rC⟩:=Kd.Q01 HO_5.out
              (first|subst rC|(injection rC with gE qE hE;have sE:=gE.symm;have tE:=hE.symm;clear gE qE hE;subst sE;subst tE))
              have pB:0≤((hA):Int):=pD
              have qB:(hA)<(iA.length:Int):=pD
              obtain ⟨iE,iD,lA⟩:=Kd.Q2n (Kd.Q0w HO_5.out).2.2 (hA) pB qB
              cases iD
              replace pB:=eq_true pB;replace qB:=eq_true qB
              have rB:0≤(fA:Int):=pD
              have sB:fA<(dA.length:Int):=pD
              obtain ⟨lB,jD,jA⟩:=Kd.Q2n aC.out fA rB sB
              have cB:=jA
              cases jD
              replace jA:=hW HB jA;replace rB:=eq_true rB;replace sB:=eq_true sB
              have tB:0≤(gA:Int):=pD
              have uB:gA<(eA.length:Int):=pD
              obtain ⟨mB,kD,kA⟩:=Kd.Q2n cC.out gA tB uB
              have eB:=kA
              cases kD
              replace kA:=hW HB kA;replace tB:=eq_true tB;replace uB:=eq_true uB
              have lD:0≤((hA):Int):=pD
              have mD:((hA):Int)<((iA.length:Int):Int):=pD
              obtain ⟨nD,uE,sC,tC,oD,vE,uC⟩:=Kd.Qhc HO_5.out (by omega)
              (first|cases sC|(injection sC with ea_ en_ ec_;(first|subst ea_|(injection ea_ with ea_;subst ea_));subst ec_;clear en_))
              have qD:=AM tC
              have rD:=AM uC
              clear tC oD uC
              (first|simp only [add_plain] at lA|skip)
              obtain ⟨vB,wB⟩:=Kd.Qgb 0 HO_5.out ((hA):Int) lD mD
              replace lD:=eq_true lD;replace mD:=eq_true mD
              have xB:=Kd.Qhp HO_5.out ((hA):Int) (wrap64 ((rd iA (hA))+(wrap64 ((rd dA fA)*(rd eA gA)))))
              rw [← qC.out] at xB
              have vC:=AM xB
              clear xB
              refine sP 24 (S:=fun w'=>w'.cell? ⟨aB,0,none⟩=some (.slice (some lB) dA.length qA)∧w'.cell? ⟨bB,0,none⟩=some (.slice (some mB) eA.length rA)∧w'.cell? ⟨nD,((hA)).toNat,none⟩=some (.int .i64 (rd iA (hA)))∧w'.cell? (lB.add (fA).toNat)=some (.int .i64 (rd dA fA))∧w'.cell? (mB.add (gA).toNat)=some (.int .i64 (rd eA gA))) (ds:=[23]) ⟨bC aA,bC bA,lA,(hW HB cB :),(hW HB eB :)⟩ fun hHeld => ?_;refine Q1m Q1f.tab8 Q1f.bits8 (fun HT_ HW_ => ?_)
              generalize wr.drew=w19 at HO_5 aA bA cA HB rD vC wB lA jA kA vB hHeld ⊢
              refine pQ 0 (some 19) HT_ ?_;refine pQ 1 (some 20) HT_ ?_;refine pQ 2 (some 21) HT_ ?_;refine pQ 3 (some 22) HT_ ?_;refine pQ 4 (some 23) HT_ ?_;refine pQ 5 (some 24) HT_ ?_;refine pQ 6 (some 25) HT_ ?_;refine pQ 7 (some 26) HT_ ?_;refine pQ 8 (some 27) HT_ ?_;refine pQ 10 (some 29) HT_ ?_;refine pQ 12 (some 31) HT_ ?_;refine pQ 15 (some 34) HT_ ?_;refine pQ 17 (some 36) HT_ ?_;refine tQ 9 (some 28) HT_ HW_ hHeld ?_;refine tQ 11 (some 30) HT_ HW_ hHeld ?_;refine pQ 13 (some 32) HT_ ?_;refine tQ 14 (some 33) HT_ HW_ hHeld ?_;refine tQ 16 (some 35) HT_ HW_ hHeld ?_;refine pQ 18 (some 37) HT_ ?_;refine tQ 19 (some 38) HT_ HW_ hHeld ?_;refine pQ 20 (some 39) HT_ ?_;refine pQ 21 (some 40) HT_ ?_;refine pQ 22 (some 41) HT_ ?_
              refine last_ (i:=23) (N:=none) #[true,true,true,true,true,true,true,true,true,true,true,true,true,true,true,true,true,true,true,true,true,true,true,true] rfl rfl (Q7e HT_.out (by kernel_rfl)) (by decide) (fun K hK => ?_)
              refine skip_ (w1 := ?_) (by rfl) rfl ?_ ?_
              rotate_left
              ·go_simp
               rfl
              refine hK.out _ _ ?_
              clear hK K
              refine done_ (Q2d HT_.out (by kernel_rfl)) ?_
              try go_wp2
              go_roundg k2
              case measure=>have:=yC.out;have:=zC.out;omega
              case rel=>exact ⟨(pC),(wrap64 (gA+1)),rS,H',⟨by have:=yC.out;have:=zC.out;omega⟩,⟨rK vC⟩,⟨by (with_reducible repeat (first|refine Q0c ?_ _|refine Q0d ?_|refine Q0b ?_ _));refine Q2f ?_ (by have h_:=Kd.R_ne HO_5.out aA.out (by decide);intro e_;exact h_ (by rw [e_];rfl)) _;(with_reducible repeat (first|refine Q0c ?_ _|refine Q0d ?_|refine Q0b ?_ _));exact aA.out⟩,⟨by (with_reducible repeat (first|refine Q0c ?_ _|refine Q0d ?_|refine Q0b ?_ _));refine Q2f ?_ (by have h_:=Kd.R_ne HO_5.out bA.out (by decide);intro e_;exact h_ (by rw [e_];rfl)) _;(with_reducible repeat (first|refine Q0c ?_ _|refine Q0d ?_|refine Q0b ?_ _));exact bA.out⟩,⟨by (with_reducible repeat (first|refine Q0c ?_ _|refine Q0d ?_|refine Q0b ?_ _));refine Q2f ?_ (by have h_:=Kd.R_ne HO_5.out cA.out (by decide);intro e_;exact h_ (by rw [e_];rfl)) _;(with_reducible repeat (first|refine Q0c ?_ _|refine Q0d ?_|refine Q0b ?_ _));exact cA.out⟩,⟨by repeat (first|(with_reducible first|exact HB.out|apply Q14|apply Q21|apply Q2k|refine Q2x ?_ qD.out|refine Q2x ?_ fC.out|refine Q2x ?_ hC.out|refine Q2x ?_ kC.out)|exact HB.out)⟩⟩
       ·have H':=AM H
        clear H
        go_wp2
        go_roundg k2
        case measure=>have:=yC.out;have:=zC.out;omega
        case rel=>exact ⟨(iA),(wrap64 (fA+1)),rS,H',⟨by have:=yC.out;have:=zC.out;omega⟩,⟨rK HO_5⟩,⟨bK aA⟩,⟨bK bA⟩,⟨bK cA⟩,⟨ bH HB⟩⟩
    ·obtain ⟨xA,wE,H⟩:=bS H
     obtain rfl:=Option.some.inj H
     obtain ⟨sD,tD,uD⟩:=Kd.Q01 HO_5.out
     subst uD
     go_wp2_with (first|((with_reducible refine Q0n (f:=47) rfl ?_);refine gL (some 43) Try.func47 #[.slice sD wA.length tD] ?_;(with_reducible refine (Q09.calls k1 _ _ wA xA _ ?side1 ?side2 wE.out).mono ?_);(case side1=>exact sR HO_5);(case side2=>exact (Kd.Q0w HO_5.out).2.1);rintro e yE ⟨xE,rfl,vD,hb⟩;refine ⟨_,rfl,?_⟩;have nB:=AM (Kd.Q1b (Kd.Q2z vD (Kd.R_lt (rK HO_5))) (Q0h (bH HB)));replace HO_5:=AM (Kd.Q16 (rK HO_5) (Kd.Q2l vD) hb);replace aA:=kB aA hb;replace bA:=kB bA hb;replace cA:=kB cA hb;replace HB:=kH HB hb;clear hb vD;obtain ⟨wC,xC,wD⟩:=Kd.Q01 nB.out;subst wD;have jE:=tA.out;have kE:=sA.out;have lE:=vA.out;have mE:=uA.out;obtain ⟨aD,bD⟩:=c1 cA))
     refine bodyPost_ret (results_cell_row rfl _ _ oA 43 #[.slice wC xA.length xC] (0,0) _ rfl (by (with_reducible repeat (first|refine Q0c ?_ _|refine Q0d ?_|refine Q0b ?_ _));refine Q0u (cs:=#[.slice none 0 0]) ?_ 0 _ rfl;(with_reducible repeat (first|refine Q0c ?_ _|refine Q0d ?_|refine Q0b ?_ _));exact cA.out) Try.underlying43 rfl (by kernel_rfl)) rfl ?_
     exact ⟨_,rE,by (with_reducible repeat (first|apply Kd.Q10|apply Kd.Q11|apply Kd.Q2h));exact Kd.Q1q (Kd.Q3p (p:=⟨oA,0,none⟩) (Kd.Q2y nB.out cA.out (by decide)) (fun _ hk=>hk.2) (.slice wC xA.length xC)) (fun _ hk=>trivial),bH HB⟩
 ·rw [if_neg c3] at H
  exact absurd H (by simp)

def Q1s.f (k:Nat) (a0:Int) (a1:Int):Option (List Int):=(Q1o.f k a0).bind fun dA=>((Q1o.f k a1).bind fun eA=>((Q1f.f k dA eA).bind fun fA=>(some fA)))
theorem Q1s.mono:∀ a0 a1 k,LeO (Q1s.f k a0 a1) (Q1s.f (k+1) a0 a1):=by
 intro a0 a1 k
 unfold Q1s.f
 repeat' with_reducible first|exact Q1f.mono _ _ _|exact Q1o.mono _ _|exact LeO.refl _|exact LeO.none _|refine LeO.ite ?_ ?_|refine LeO.bind ?_ (fun _ => ?_)
set_option maxHeartbeats 8000000 in
set_option maxRecDepth 100000 in
theorem Q1s.calls (k:Nat) (a0:Int) (a1:Int) (r:List Int) (w:World) (h:Q1s.f k a0 a1=some r) :
  Calls Try.prog 70 #[.int .i64 a0,.int .i64 a1] w fun e w'=>∃ v0_:Value,e=.returned (.agg #[v0_])∧Kd.R (Kd.int .i64) 3 w' w.heap.size (fun _=>True) v0_ r∧Below w.heap.size w w':=by
 have tA:=Try.underlying43
 have HB:=AM (Below.refl w.heap.size w)
 have H:((Q1o.f k a0).bind fun dA=>((Q1o.f k a1).bind fun eA=>((Q1f.f k dA eA).bind fun fA=>(some fA))))=some r:=h
 clear h
 obtain ⟨dA,A3,H⟩:=bS H
 obtain ⟨eA,A4,H⟩:=bS H
 obtain ⟨fA,A5,H⟩:=bS H
 obtain rfl:=Option.some.inj H
 go_enter Try.func70,Try.ntmps70
 go_wp2_with (first|((with_reducible refine Q0i (N:=4) rfl ?_);refine bE 4 #[.slice none 0 0] 43 ?_;intro hA hg w6 hbox hb;have aA:=AM hbox;have jA:=kG HB hg;replace HB:=kH HB hb;have sA:=jA;clear hb hbox hg)|((with_reducible refine Q0n (f:=18) rfl ?_);refine gL (some 6) Try.func18 #[.int .i64 a0] ?_;(with_reducible refine (Q1o.calls k a0 dA _ A3.out).mono ?_);rintro e w7 ⟨uA,rfl,gA,hb⟩;refine ⟨_,rfl,?_⟩;have bA:=AM (Kd.Q1b gA (Q0h (bH HB)));replace aA:=kB aA hb;replace HB:=kH HB hb;clear hb gA)|((with_reducible refine Q0n (f:=18) rfl ?_);refine gL (some 8) Try.func18 #[.int .i64 a1] ?_;(with_reducible refine (Q1o.calls k a1 eA _ A4.out).mono ?_);rintro e w8 ⟨vA,rfl,gA,hb⟩;refine ⟨_,rfl,?_⟩;have cA:=AM (Kd.Q1b (Kd.Q2z gA (Kd.R_lt (rK bA))) (Q0h (bH HB)));replace bA:=AM (Kd.Q16 (rK bA) (Kd.Q2l gA) hb);replace aA:=kB aA hb;replace HB:=kH HB hb;clear hb gA;obtain ⟨wA,xA,yA⟩:=Kd.Q01 bA.out;subst yA;obtain ⟨oA,pA,qA⟩:=Kd.Q01 cA.out;subst qA)|((with_reducible refine Q0n (f:=82) rfl ?_);refine gL (some 9) Try.func82 #[.agg #[.slice wA dA.length xA],.agg #[.slice oA eA.length pA]] ?_;(with_reducible refine (Q1f.calls k _ _ dA _ _ eA fA _ ?side1 ?side2 ?side3 ?side4 A5.out).mono ?_);(case side1=>exact sR bA);(case side2=>exact (Kd.Q0w bA.out).2.1);(case side3=>exact sR cA);(case side4=>exact (Kd.Q0w cA.out).2.1);rintro e aB ⟨zA,rfl,gA,hb⟩;refine ⟨_,rfl,?_⟩;have iA:=AM (Kd.Q1b (Kd.Q2z (Kd.Q2z gA (Kd.R_lt (rK bA))) (Kd.R_lt (rK cA))) (Q0h (bH HB)));replace bA:=AM (Kd.Q16 (rK bA) (Kd.Q2l gA) hb);replace cA:=AM (Kd.Q16 (rK cA) (Kd.Q2l gA) hb);replace aA:=kB aA hb;replace HB:=kH HB hb;clear hb gA;obtain ⟨kA,lA,rA⟩:=Kd.Q01 iA.out;subst rA;obtain ⟨mA,nA⟩:=c1 aA))
 refine bodyPost_ret (results_cell_row rfl _ _ hA 43 #[.slice kA fA.length lA] (0,0) _ rfl (by (with_reducible repeat (first|refine Q0c ?_ _|refine Q0d ?_|refine Q0b ?_ _));refine Q0u (cs:=#[.slice none 0 0]) ?_ 0 _ rfl;(with_reducible repeat (first|refine Q0c ?_ _|refine Q0d ?_|refine Q0b ?_ _));exact aA.out) Try.underlying43 rfl (by kernel_rfl)) rfl ?_
 exact ⟨_,rE,by (with_reducible repeat (first|apply Kd.Q10|apply Kd.Q11|apply Kd.Q2h));exact Kd.Q1q (Kd.Q3p (p:=⟨hA,0,none⟩) (Kd.Q2y iA.out aA.out (by decide)) (fun _ hk=>hk.2) (.slice kA fA.length lA)) (fun _ hk=>trivial),bH HB⟩

def Q2j.l0:Nat→List Int→Int→List Int→Option (List Int)
 | 0,_,_,_=>none
 | k+1,x3,x4,x201000=>if x4<8 then (if 0≤x4 then (if x4<(x201000.length:Int) then (if x3.length<17592186044416 then (Q2j.l0 k (x3++[wrap64 (65535 - (rd x201000 x4))]) (wrap64 (x4+1)) x201000) else (none)) else (none)) else (none)) else ((Q1o.f k 1).bind fun lA=>((Q1h.f k x3 lA).bind fun mA=>(some mA)))
def Q2j.f (k:Nat) (cA:List Int):Option (List Int):=Q2j.l0 k ([]:List Int) 0 cA
theorem Q2j.Q1a:∀ k,(∀ y0 y1 y2,LeO (Q2j.l0 k y0 y1 y2) (Q2j.l0 (k+1) y0 y1 y2))
 | 0=>fun _ _ _ r h=>by simp [Q2j.l0] at h
 | k+1=>by
  have iB:=Q2j.Q1a k
  ·intro y0 y1 y2
   unfold Q2j.l0
   repeat' with_reducible first|exact iB _ _ _|exact Q1h.mono _ _ _|exact Q1o.mono _ _|exact LeO.refl _|exact LeO.none _|refine LeO.ite ?_ ?_|refine LeO.bind ?_ (fun _ => ?_)
theorem Q2j.mono:∀ a0 k,LeO (Q2j.f k a0) (Q2j.f (k+1) a0):=by
 intro a0 k
 have iB:=Q2j.Q1a k
 unfold Q2j.f
 repeat' with_reducible first|exact iB _ _ _|exact Q1h.mono _ _ _|exact Q1o.mono _ _|exact LeO.refl _|exact LeO.none _|refine LeO.ite ?_ ?_|refine LeO.bind ?_ (fun _ => ?_)
set_option maxHeartbeats 8000000 in
set_option maxRecDepth 100000 in
theorem Q2j.calls (k:Nat) (oA:Option Addr) (nA:Nat) (cA:List Int) (r:List Int) (w:World) (pA:Kd.C (Kd.int .i64) w oA cA.length cA) (qA:cA.length≤nA) (h:Q2j.f k cA=some r) :
  Calls Try.prog 71 #[.agg #[.slice oA cA.length nA]] w fun e w'=>∃ v0_:Value,e=.returned (.agg #[v0_])∧Kd.R (Kd.int .i64) 3 w' w.heap.size (fun _=>True) v0_ r∧Below w.heap.size w w':=by
 have cC:=Try.underlying43
 have wA:=AM pA
 have wB:=AM qA
 clear pA qA
 have HB:=AM (Below.refl w.heap.size w)
 have H:(Q2j.l0 k ([]:List Int) 0 cA)=some r:=h
 clear h
 have H':=AM H
 clear H
 go_enter Try.func71,Try.ntmps71
 go_wp2_with (first|((with_reducible refine Q0i (N:=1) rfl ?_);refine bE 1 #[.slice oA cA.length nA] 43 ?_;intro rA hg w2 hbox hb;have aA:=AM hbox;have xA:=kG HB hg;replace HB:=kH HB hb;have xB:=xA;clear hb hbox hg)|((with_reducible refine Q0i (N:=2) rfl ?_);refine bE 2 #[.slice none 0 0] 43 ?_;intro jA hg w3 hbox hb;have bA:=AM hbox;have yA:=kG HB hg;replace HB:=kH HB hb;have yB:=yA;have eA:=kN aA hg;have fA:=kM aA hg;replace aA:=kB aA hb;clear hb hbox hg))
 go_loopg [3,4] k (fun kq v3 v4 w'=>∃ (hA:List Int) (dA:Int),v4=.int .i64 dA∧Aside0 (Q2j.l0 kq hA dA cA=some r)∧Aside0 (kq≤k)∧Aside0 (Kd.R (Kd.int .i64) 3 w' w.heap.size (fun _=>True) v3 hA)∧Aside0 (w'.heap[rA]? = some (.cells #[(.slice oA cA.length nA)] 43 (0,0)))∧Aside0 (w'.heap[jA]? = some (.cells #[(.slice none 0 0)] 43 (0,0)))∧Aside0 (Below w.heap.size w w'))
 case atStart=>exact ⟨(([]:List Int)),(0),rS,H',⟨Nat.le_refl _⟩,⟨by first|exact Kd.Q3k _ _ _ _ _|exact Kd.Q3t _ _ _ _ _|exact Kd.Q3x _ _ _ _ _|exact Kd.Q3v _ _ _ _ _|exact Kd.Q3y _ _ _ _ _⟩,⟨bK aA⟩,⟨bK bA⟩,⟨ bH HB⟩⟩
 case round =>
  clear H'
  obtain ⟨hA,dA,rfl,HA,zB,HO_3,aA,bA,HB⟩:=hrel
  cases gk with
  | zero=>exact absurd HA.out (by simp [Q2j.l0])
  | succ k1 =>
   have H:=HA.out;clear HA
   simp only [Q2j.l0] at H
   apply iC H<;>clear H<;>intro dC H
   ·apply iN H;clear H;intro eC H
    ·apply iN H;clear H;intro fC H
     ·by_cases c7:hA.length<17592186044416
      ·rw [if_pos c7] at H
       have jB:=AM c7
       clear c7
       obtain ⟨zA,iA⟩:∃ y_:List Int,y_=(hA++[wrap64 (65535 - (rd cA dA))]):=⟨_,rfl⟩
       replace H:(Q2j.l0 k1 zA (wrap64 (dA+1)) cA)=some r:=by first|(rw [iA];with_reducible exact H)|(have lB:=(Option.bind_some _ _).symm.trans H;rw [iA];with_reducible exact lB)|(have lB:=(Option.bind_some _ _).symm.trans H;with_reducible exact lB)|with_reducible exact H|(rw [iA];exact H)|exact H
       have bB:=AM iA
       clear iA
       have H':=AM H
       clear H;have gC:=eA.out;have hC:=fA.out;obtain ⟨mB,nB⟩:=c1 aA
       have uA:0≤(dA:Int):=pD
       have vA:dA<(cA.length:Int):=pD
       obtain ⟨cB,oB,kA⟩:=Kd.Q2n wA.out dA uA vA
       cases oB
       replace kA:=hW HB kA;replace uA:=eq_true uA;replace vA:=eq_true vA
       go_wp2_with (first|((with_reducible refine Q1v (b:=.append) (xs:=#[.tmp 9,.tmp 16]) rfl ?_);at_builtin;refine Kd.Q3j (Kd.int .i64) (w0:=w) w.heap.size rfl (.tmp 9) (.tmp 16) 32 3 (.int .i64 0) 8 rfl Try.underlying32 info3 rfl (by decide) (by omega) u3 hA (wrap64 (65535 - (rd cA dA))) [.int .i64 (wrap64 (65535 - (rd cA dA)))] (fun _=>True) (fun _=>False) rfl rfl ?aP (fun _ hk=>hk.elim) ?aF ?aO ?aB ?aS ?aL ?_;(case aP=>exact rfl);(case aB=>exact (bH HB));(case aF=>exact (fun _ _=>trivial));(case aO=>exact (rK HO_3));(case aS=>exact (Q0h (bH HB)));(case aL=>have:=jB.out;omega);intro jC oC ho hb hg hat;rw [← bB.out] at ho;replace aA:=AM (Q1w (g:=rA) (o:=.cells #[.slice (some cB) cA.length nA] 43 (0,0)) (bK aA) hg (Kd.R_ne HO_3.out aA.out (by decide)));replace bA:=AM (Q1w (g:=jA) (o:=.cells #[.slice none 0 0] 43 (0,0)) (bK bA) hg (Kd.R_ne HO_3.out bA.out (by decide)));replace HB:=AM hb;have dB:=AM ho;clear HO_3;clear ho hb hg hat))
       go_roundg k1
       case measure=>have:=zB.out;omega
       case rel=>exact ⟨(zA),(wrap64 (dA+1)),rS,H',⟨by have:=zB.out;omega⟩,⟨rK dB⟩,⟨bK aA⟩,⟨bK bA⟩,⟨ bH HB⟩⟩
      ·rw [if_neg c7] at H
       exact absurd H (by simp)
   ·obtain ⟨lA,kC,H⟩:=bS H
    obtain ⟨mA,lC,H⟩:=bS H
    obtain rfl:=Option.some.inj H
    obtain ⟨pB,qB,rB⟩:=Kd.Q01 HO_3.out
    subst rB
    go_wp2_with (first|((with_reducible refine Q0n (f:=18) rfl ?_);refine gL (some 20) Try.func18 #[.int .i64 1] ?_;(with_reducible refine (Q1o.calls k1 1 lA _ kC.out).mono ?_);rintro e pC ⟨mC,rfl,sA,hb⟩;refine ⟨_,rfl,?_⟩;have gA:=AM (Kd.Q1b (Kd.Q2z sA (Kd.R_lt (rK HO_3))) (Q0h (bH HB)));replace HO_3:=AM (Kd.Q16 (rK HO_3) (Kd.Q2l sA) hb);replace aA:=kB aA hb;replace bA:=kB bA hb;replace HB:=kH HB hb;clear hb sA;obtain ⟨sB,tB,uB⟩:=Kd.Q01 gA.out;subst uB)|((with_reducible refine Q0n (f:=19) rfl ?_);refine gL (some 21) Try.func19 #[.agg #[.slice pB hA.length qB],.agg #[.slice sB lA.length tB]] ?_;(with_reducible refine (Q1h.calls k1 _ _ hA _ _ lA mA _ ?side1 ?side2 ?side3 ?side4 lC.out).mono ?_);(case side1=>exact sR HO_3);(case side2=>exact (Kd.Q0w HO_3.out).2.1);(case side3=>exact sR gA);(case side4=>exact (Kd.Q0w gA.out).2.1);rintro e qC ⟨nC,rfl,sA,hb⟩;refine ⟨_,rfl,?_⟩;have tA:=AM (Kd.Q1b (Kd.Q2z (Kd.Q2z sA (Kd.R_lt (rK HO_3))) (Kd.R_lt (rK gA))) (Q0h (bH HB)));replace HO_3:=AM (Kd.Q16 (rK HO_3) (Kd.Q2l sA) hb);replace gA:=AM (Kd.Q16 (rK gA) (Kd.Q2l sA) hb);replace aA:=kB aA hb;replace bA:=kB bA hb;replace HB:=kH HB hb;clear hb sA;obtain ⟨eB,fB,vB⟩:=Kd.Q01 tA.out;subst vB;have aC:=fA.out;have bC:=eA.out;obtain ⟨gB,hB⟩:=c1 bA))
    refine bodyPost_ret (results_cell_row rfl _ _ jA 43 #[.slice eB mA.length fB] (0,0) _ rfl (by (with_reducible repeat (first|refine Q0c ?_ _|refine Q0d ?_|refine Q0b ?_ _));refine Q0u (cs:=#[.slice none 0 0]) ?_ 0 _ rfl;(with_reducible repeat (first|refine Q0c ?_ _|refine Q0d ?_|refine Q0b ?_ _));exact bA.out) Try.underlying43 rfl (by kernel_rfl)) rfl ?_
    exact ⟨_,rE,by (with_reducible repeat (first|apply Kd.Q10|apply Kd.Q11|apply Kd.Q2h));exact Kd.Q1q (Kd.Q3p (p:=⟨jA,0,none⟩) (Kd.Q2y tA.out bA.out (by decide)) (fun _ hk=>hk.2) (.slice eB mA.length fB)) (fun _ hk=>trivial),bH HB⟩
end Go.Proofs.Ytbonkedecfjmdaa.P
