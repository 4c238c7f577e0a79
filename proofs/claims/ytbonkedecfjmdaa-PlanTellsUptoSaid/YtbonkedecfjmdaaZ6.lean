/- Written for this claim by a program of this session (a turned copy of the print): Go functions as Lean functions, and that the Go code comes to just these answers; or a statement proved out of them. No condition. -/
import Derived.Test.YtbonkedecfjmdaaZ2
import Derived.Test.YtbonkedecfjmdaaZ3
import Derived.Test.YtbonkedecfjmdaaZ5
import Derived.Test.YtbonkedecfjmdaaZ4

namespace Go.Proofs.Ytbonkedecfjmdaa.P
open Go.RowKit Go.Proofs.YtbonkedecfjmdaaW.PrintWords Go.Proofs.YtbonkedecfjmdaaW.PrintLast Go.Proofs.YtbonkedecfjmdaaW.PrintMore Go.Proofs.Ytbonkedecfjmdaa.X
attribute [local go_sem] Q2a Q2b Q2s Q2q Q1z Q1y Q19 Q2c Q2r Q2p add64
set_option linter.unusedVariables false
set_option linter.unusedSimpArgs false
mutual
def Q03.l0:Nat→List (S27)→Int→List Int→Option (List Int)
 | 0,_,_,_=>none
 | k+1,x0,x4,x217000=>if x4<(x0.length:Int) then (if (wrap64 (x4+1))=(x0.length:Int) then (Q03.j1 k x0 x4 0 x217000) else (Q03.j1 k x0 x4 (wrap64 (x4+1)) x217000)) else (some x217000)
def Q03.j1:Nat→List (S27)→Int→Int→List Int→Option (List Int)
 | 0,_,_,_,_=>none
 | k+1,x0,x4,x5,x217000=>if 0≤x4 then (if x4<(x0.length:Int) then (if 0≤x5 then (if x5<(x0.length:Int) then ((Q1s.f k ((Q0a x0 x4).f0) ((Q0a x0 x5).f1)).bind fun oB=>((Q1h.f k x217000 oB).bind fun jA=>((Q1s.f k ((Q0a x0 x4).f1) ((Q0a x0 x5).f0)).bind fun eC=>((Q2j.f k eC).bind fun fC=>((Q1h.f k jA fC).bind fun zB=>(Q03.l0 k x0 (wrap64 (x4+1)) zB)))))) else (none)) else (none)) else (none)) else (none)
end
def Q03.f (k:Nat) (l0:List (S27)):Option (List Int):=(Q1o.f k 0).bind fun qA=>((Q0s.f k l0).bind fun aC=>(if aC=true then (Q03.l0 k l0 0 qA) else (some qA)))
theorem Q03.Q1a:∀ k,(∀ y0 y1 y2,LeO (Q03.l0 k y0 y1 y2) (Q03.l0 (k+1) y0 y1 y2))∧(∀ y0 y1 y2 y3,LeO (Q03.j1 k y0 y1 y2 y3) (Q03.j1 (k+1) y0 y1 y2 y3))
 | 0=>⟨fun _ _ _ r h=>by simp [Q03.l0] at h,fun _ _ _ _ r h=>by simp [Q03.j1] at h⟩
 | k+1=>by
  obtain ⟨kE,lE⟩:=Q03.Q1a k
  refine ⟨?_,?_⟩
  all_goals
   intros
   first|unfold Q03.l0|unfold Q03.j1
   repeat' with_reducible first|exact kE _ _ _|exact lE _ _ _ _|exact Q1h.mono _ _ _|exact Q2j.mono _ _|exact Q1o.mono _ _|exact Q0s.mono _ _|exact Q1s.mono _ _ _|exact LeO.refl _|exact LeO.none _|refine LeO.ite ?_ ?_|refine LeO.bind ?_ (fun _ => ?_)
theorem Q03.mono:∀ a0 k,LeO (Q03.f k a0) (Q03.f (k+1) a0):=by
 intro a0 k
 obtain ⟨kE,lE⟩:=Q03.Q1a k
 unfold Q03.f
 repeat' with_reducible first|exact kE _ _ _|exact lE _ _ _ _|exact Q1h.mono _ _ _|exact Q2j.mono _ _|exact Q1o.mono _ _|exact Q0s.mono _ _|exact Q1s.mono _ _ _|exact LeO.refl _|exact LeO.none _|refine LeO.ite ?_ ?_|refine LeO.bind ?_ (fun _ => ?_)
def Q03.T10:Bool×List (List Nat×List Nat):=(true,[([],[]),([],[]),([],[]),([1,2],[1,2]),([3],[3]),([4],[4]),([],[]),([],[]),([6,7],[6,7]),([8],[8]),([9],[9]),([5,10],[5,10]),([0,11,11],[0,11]),([12,12,0,1,2,3,4,5,6,7,8,9,10,11,12],[12])])
def Q03.B10:List Nat:=[0,0,0,6,14,30,0,0,192,448,960,2046,4095,8191]
theorem Q03.tab10:rtab .any (opsOf Try.f48 10)=Q03.T10:=by kernel_rfl
theorem Q03.bits10:waitsOk Q03.T10.2 Q03.B10=true:=by kernel_rfl
def Q03.T11:Bool×List (List Nat×List Nat):=(true,[([],[]),([],[]),([],[]),([1,2],[1,2]),([3],[3]),([4],[4]),([],[]),([],[]),([6,7],[6,7]),([8],[8]),([9],[9]),([5,10],[5,10]),([11,11],[11]),([0,12,12],[0,12]),([13,13,0,1,2,3,4,5,6,7,8,9,10,11,12,13],[13])])
def Q03.B11:List Nat:=[0,0,0,6,14,30,0,0,192,448,960,2046,4094,8191,16383]
theorem Q03.tab11:rtab .any (opsOf Try.f48 11)=Q03.T11:=by kernel_rfl
theorem Q03.bits11:waitsOk Q03.T11.2 Q03.B11=true:=by kernel_rfl
set_option maxHeartbeats 8000000 in
set_option maxRecDepth 100000 in
theorem Q03.calls (k:Nat) (A0:Option Addr) (c0:Nat) (l0:List (S27)) (r:List Int) (w:World) (cF:Kd.C k27 w A0 l0.length l0) (dF:l0.length≤c0) (h:Q03.f k l0=some r) :
  Calls Try.prog 48 #[.slice A0 l0.length c0] w fun e w'=>∃ v0_:Value,e=.returned (.agg #[v0_])∧Kd.R (Kd.int .i64) 3 w' w.heap.size (fun _=>True) v0_ r∧Below w.heap.size w w':=by
 have sF:=Try.underlying43
 have aD:=AM cF
 have tF:=AM dF
 clear cF dF
 have HB:=AM (Below.refl w.heap.size w)
 have H:((Q1o.f k 0).bind fun qA=>((Q0s.f k l0).bind fun aC=>(if aC=true then (Q03.l0 k l0 0 qA) else (some qA))))=some r:=h
 clear h
 obtain ⟨qA,A2,H⟩:=bS H
 obtain ⟨aC,A3,H⟩:=bS H
 have eF:=AM H
 clear H
 go_enter Try.func48,Try.ntmps48
 go_upto_if 9 with (first|((with_reducible refine Q0i (N:=2) rfl ?_);refine bE 2 #[.slice none 0 0] 43 ?_;intro lB hg w5 hbox hb;have bA:=AM hbox;have bD:=kG HB hg;replace HB:=kH HB hb;have fF:=bD;clear hb hbox hg)|((with_reducible refine Q0n (f:=18) rfl ?_);refine gL (some 6) Try.func18 #[.int .i64 0] ?_;(with_reducible refine (Q1o.calls k 0 qA _ A2.out).mono ?_);rintro e w6 ⟨uF,rfl,oA,hb⟩;refine ⟨_,rfl,?_⟩;have mB:=AM (Kd.Q1b oA (Q0h (bH HB)));replace bA:=kB bA hb;replace HB:=kH HB hb;clear hb oA)|((with_reducible refine Q0i (N:=3) rfl ?_);refine bE 3 #[.slice none 0 0] 43 ?_;intro hA hg w7 hbox hb;replace mB:=kR mB hb;have aA:=AM hbox;have cD:=kG HB hg;replace HB:=kH HB hb;have gF:=cD;have kA:=kN bA hg;have lA:=kM bA hg;replace bA:=kB bA hb;clear hb hbox hg;obtain ⟨dD,eD,vF⟩:=Kd.Q01 mB.out;subst vF;have wF:=lA.out;have xF:=kA.out;obtain ⟨kC,lC⟩:=c1 aA)|((with_reducible refine Q0n (f:=22) rfl ?_);refine gL (some 8) Try.func22 #[.slice A0 l0.length c0] ?_;(with_reducible refine (Q0s.calls k _ _ l0 aC _ ?side1 ?side2 A3.out).mono ?_);(case side1=>exact Kd.Q12 aD.out (bH HB));(case side2=>exact tF.out);rintro e mG ⟨rfl,hb⟩;refine ⟨_,rfl,?_⟩;replace mB:=AM (Kd.Q40 (by (with_reducible repeat (first|apply Kd.Q10|apply Kd.Q11|apply Kd.Q2h));exact (Kd.Q1q (Kd.Q3p (p:=⟨hA,0,none⟩) (Kd.Q2y mB.out aA.out (by decide)) (fun _ hk=>hk.2) (.slice dD qA.length eD)) (fun _ h_=>h_.1))) hb);replace bA:=kB bA hb;replace aA:=AM (Q1p (g:=hA) (o:=.cells #[.slice dD qA.length eD] 43 (0,0)) (by (with_reducible repeat (first|refine Q0c ?_ _|refine Q0d ?_|refine Q0b ?_ _));refine Q0u (cs:=#[.slice none 0 0]) ?_ 0 _ rfl;(with_reducible repeat (first|refine Q0c ?_ _|refine Q0d ?_|refine Q0b ?_ _));exact aA.out) hb);replace HB:=kH HB hb;clear hb))
 (try simp only [Act.put,List.setIfInBounds_toArray,List.set_cons_zero,List.set_cons_succ])
 have H:=eF.out;clear eF
 by_cases vD:aC=true
 ·subst vD
  replace H:=iT H
  have H':=AM H
  clear H
  go_wp2
  go_loopg [4] k (fun kq v4 w'=>∃ (eA:Int) (cA:List Int) (u217000:Value),v4=.int .i64 eA∧Aside0 (Q03.l0 kq l0 eA cA=some r)∧Aside0 (kq≤k)∧Aside0 (Kd.R (Kd.int .i64) 3 w' w.heap.size (fun _=>True) u217000 cA)∧Aside0 (w'.heap[lB]? = some (.cells #[(.slice none 0 0)] 43 (0,0)))∧Aside0 (w'.heap[hA]? = some (.cells #[u217000] 43 (0,0)))∧Aside0 (Below w.heap.size w w'))
  case atStart=>exact ⟨(0),(qA),(.slice dD qA.length eD),rS,H',⟨Nat.le_refl _⟩,⟨rK mB⟩,⟨bK bA⟩,⟨bK aA⟩,⟨ bH HB⟩⟩
  case round =>
   clear H'
   clear kC lC
   obtain ⟨eA,cA,u217000,rfl,HA,wD,HO_217000,bA,aA,HB⟩:=hrel
   cases gk with
   | zero=>exact absurd HA.out (by simp [Q03.l0])
   | succ k1 =>
    have H:=HA.out;clear HA
    simp only [Q03.l0] at H
    apply iC H<;>clear H<;>intro vB H
    ·(first|rw [vB]|(simp only [Q1r,Q13];rw [vB])|skip)
     have qC:=AM H
     clear H
     go_upto_if 22 with (fail)
     go_cut [5] (fun v5 wc=>∃ (kq:Nat) (dA:Int),v5=.int .i64 dA∧Aside0 (Q03.j1 kq l0 eA dA cA=some r)∧Aside0 (kq≤k1)∧Aside0 (Kd.R (Kd.int .i64) 3 wc w.heap.size (fun _=>True) u217000 cA)∧Aside0 (wc.heap[lB]? = some (.cells #[(.slice none 0 0)] 43 (0,0)))∧Aside0 (wc.heap[hA]? = some (.cells #[u217000] 43 (0,0)))∧Aside0 (Below w.heap.size w wc))
     case first =>
      have H:=qC.out;clear qC
      by_cases rC:(wrap64 (eA+1))=(l0.length:Int)
      ·rw [if_pos rC] at H
       have wB:((wrap64 (eA+1))==(l0.length:Int))=true:=beq_iff_eq.mpr rC
       have fD:((wrap64 (eA+1)) != (l0.length:Int))=false:=bne_eq_false_iff_eq.mpr rC
       clear rC
       (first|rw [wB]|(simp only [Q1r,Q13];rw [wB])|skip)
       have H':=AM H
       clear H
       go_wp2
       go_meet
       case rel=>exact ⟨_,(0),rS,H',⟨by have:=wD.out;first|omega|exact Nat.le_refl _⟩,⟨rK HO_217000⟩,⟨bK bA⟩,⟨bK aA⟩,⟨ bH HB⟩⟩
      ·rw [if_neg rC] at H
       have wB:((wrap64 (eA+1))==(l0.length:Int))=false:=beq_eq_false_iff_ne.mpr rC
       have fD:((wrap64 (eA+1)) != (l0.length:Int))=true:=bne_iff_ne.mpr rC
       (first|rw [wB]|(simp only [Q1r,Q13];rw [wB])|skip)
       have H':=AM H
       clear H
       go_wp2
       go_meet
       case rel=>exact ⟨_,(wrap64 (eA+1)),rS,H',⟨by have:=wD.out;first|omega|exact Nat.le_refl _⟩,⟨rK HO_217000⟩,⟨bK bA⟩,⟨bK aA⟩,⟨ bH HB⟩⟩
     case rest =>
      clear qC vB
      obtain ⟨kq,dA,rfl,HA,gD,HO_217000,bA,aA,HB⟩:=hcut
      cases kq with
      | zero=>exact absurd HA.out (by simp [Q03.j1])
      | succ kj13 =>
       have H:=HA.out;clear HA
       simp only [Q03.j1] at H
       apply iN H;clear H;intro hF H
       ·apply iN H;clear H;intro jF H
        ·apply iN H;clear H;intro kF H
         ·apply iN H;clear H;intro lF H
          ·obtain ⟨oB,yF,H⟩:=bS H
           obtain ⟨jA,zF,H⟩:=bS H
           obtain ⟨eC,aG,H⟩:=bS H
           obtain ⟨fC,bG,H⟩:=bS H
           obtain ⟨zB,cG,H⟩:=bS H
           have H':=AM H
           clear H
           try go_wp2
           replace HO_217000:=dR HO_217000;replace bA:=dB bA;replace aA:=dB aA;replace HB:=dH HB
           have sC:0≤(eA:Int):=pD
           have tC:eA<(l0.length:Int):=pD
           obtain ⟨fA,mE,rA,sA,tA⟩:=Q2i aD.out eA sC tC
           have pB:=tA;have qB:=sA;have rB:=rA
           cases mE
           replace rA:=hW HB rA;replace sA:=hW HB sA;replace tA:=hW HB tA;replace sC:=eq_true sC;replace tC:=eq_true tC
           have uC:0≤(dA:Int):=pD
           have vC:dA<(l0.length:Int):=pD
           obtain ⟨hD,nE,uA,vA,wA⟩:=Q2i aD.out dA uC vC
           have sB:=wA;have tB:=vA;have uB:=uA
           obtain rfl:fA=hD:=(by injection nE)
           replace uA:=hW HB uA;replace vA:=hW HB vA;replace wA:=hW HB wA;replace uC:=eq_true uC;replace vC:=eq_true vC
           refine sP 14 (S:=fun w'=>w'.cell? ⟨hA,0,none⟩=some (u217000)∧w'.cell? (fA.add ((eA).toNat*3))=some (.int .i64 ((Q0a l0 eA).f0))∧w'.cell? ⟨(fA.add ((eA).toNat*3)).block,(fA.add ((eA).toNat*3)).off+1,none⟩=some (.int .i64 ((Q0a l0 eA).f1))∧w'.cell? ⟨(fA.add ((eA).toNat*3)).block,(fA.add ((eA).toNat*3)).off+2,none⟩=some (.int .i64 ((Q0a l0 eA).f2))∧w'.cell? (fA.add ((dA).toNat*3))=some (.int .i64 ((Q0a l0 dA).f0))∧w'.cell? ⟨(fA.add ((dA).toNat*3)).block,(fA.add ((dA).toNat*3)).off+1,none⟩=some (.int .i64 ((Q0a l0 dA).f1))∧w'.cell? ⟨(fA.add ((dA).toNat*3)).block,(fA.add ((dA).toNat*3)).off+2,none⟩=some (.int .i64 ((Q0a l0 dA).f2))) (ds:=[13]) ⟨bC aA,(hW HB rB :),(hW HB qB :),(hW HB pB :),(hW HB uB :),(hW HB tB :),(hW HB sB :)⟩ fun hHeld => ?_;refine Q1m Q03.tab10 Q03.bits10 (fun HT_ HW_ => ?_)
           generalize wc.drew=w25 at HO_217000 bA aA HB rA sA tA uA vA wA hHeld ⊢
           refine pQ 1 (some 24) HT_ ?_;refine pQ 2 (some 25) HT_ ?_;refine pQ 3 (some 26) HT_ ?_;refine pQ 4 (some 27) HT_ ?_;refine pQ 6 (some 29) HT_ ?_;refine pQ 7 (some 30) HT_ ?_;refine pQ 8 (some 31) HT_ ?_;refine pQ 9 (some 32) HT_ ?_;refine tQ 0 (some 23) HT_ HW_ hHeld ?_;refine tQ 5 (some 28) HT_ HW_ hHeld ?_;refine tQ 10 (some 33) HT_ HW_ hHeld ?_
           refine oQ 11 (some 34) HT_ rfl fun K hK => ?_
           refine gO Try.func70 #[.int .i64 ((Q0a l0 eA).f0),.int .i64 ((Q0a l0 dA).f1)] ?_
           with_reducible refine (Q1s.calls kj13 ((Q0a l0 eA).f0) ((Q0a l0 dA).f1) oB _ yF.out).mono ?_
           rintro e nG ⟨dG,rfl,oA,hb⟩
           refine ⟨_,rfl,?_⟩
           have gA:=AM (Kd.Q1b (Kd.Q2z oA (Kd.R_lt (rK HO_217000))) (Q0h (bH HB)))
           replace HO_217000:=AM (Kd.Q16 (rK HO_217000) (Kd.Q2l oA) hb)
           replace bA:=kB bA hb;replace aA:=kB aA hb;replace HB:=kH HB hb;clear hb oA
           obtain ⟨cC,dC,iD⟩:=Kd.Q01 HO_217000.out
           (first|subst iD|(injection iD with xB gC yB;have hC:=xB.symm;have jC:=yB.symm;clear xB gC yB;subst hC;subst jC))
           obtain ⟨mC,nC,jD⟩:=Kd.Q01 gA.out
           (first|subst jD|(injection jD with xB gC yB;have hC:=xB.symm;have jC:=yB.symm;clear xB gC yB;subst hC;subst jC))
           refine hK.out _ _ ⟨bC aA,(hW HB rB :),(hW HB qB :),(hW HB pB :),(hW HB uB :),(hW HB tB :),(hW HB sB :)⟩ (fun hHeld => ?_)
           clear hK K;refine nP (some 34) ?_
           refine oQ 12 (some 35) HT_ rfl fun K hK => ?_
           refine gO Try.func19 #[.agg #[.slice cC cA.length dC],.agg #[.slice mC oB.length nC]] ?_
           with_reducible refine (Q1h.calls kj13 _ _ cA _ _ oB jA _ ?side1 ?side2 ?side3 ?side4 zF.out).mono ?_
           (case side1=>exact sR HO_217000)
           (case side2=>exact (Kd.Q0w HO_217000.out).2.1)
           (case side3=>exact sR gA)
           (case side4=>exact (Kd.Q0w gA.out).2.1)
           rintro e oC ⟨eG,rfl,oA,hb⟩
           refine ⟨_,rfl,?_⟩
           have iA:=AM (Kd.Q1b (Kd.Q2z (Kd.Q2z oA (Kd.R_lt (rK HO_217000))) (Kd.R_lt (rK gA))) (Q0h (bH HB)))
           replace HO_217000:=AM (Kd.Q16 (rK HO_217000) (Kd.Q2l oA) hb)
           replace gA:=AM (Kd.Q16 (rK gA) (Kd.Q2l oA) hb)
           replace bA:=kB bA hb;replace aA:=kB aA hb;replace HB:=kH HB hb;clear hb oA
           obtain ⟨mA,nA,kD⟩:=Kd.Q01 iA.out
           (first|subst kD|(injection kD with xB gC yB;have hC:=xB.symm;have jC:=yB.symm;clear xB gC yB;subst hC;subst jC))
           refine hK.out _ _ ⟨bC aA,(hW HB rB :),(hW HB qB :),(hW HB pB :),(hW HB uB :),(hW HB tB :),(hW HB sB :)⟩ (fun hHeld => ?_)
           clear hK K;refine nP (some 35) ?_
           refine last_ (i:=13) (N:=none) #[true,true,true,true,true,true,true,true,true,true,true,true,true,true] rfl rfl (Q7e HT_.out (by kernel_rfl)) (by decide) (fun K hK => ?_)
           have fG:oC.cell? ⟨hA,0,none⟩=some (.slice cC cA.length dC):=bC aA
           have mF:=Q0k aA.out 0
           have xD:=kA.out;have yD:=lA.out
           refine skip_ (w1 := ?_) (by rfl) rfl ?_ ?_
           rotate_left
           ·go_simp
            rfl
           refine hK.out _ _ ?_
           clear hK K
           refine done_ (Q2d HT_.out (by kernel_rfl)) ?_
           try go_wp2
           have oE:Aside0 (Kd.R (Kd.int .i64) 3 (oC.setCell ⟨hA,0,none⟩ (.slice mA jA.length nA)) w.heap.size (fun k_=>some k_≠(.slice mC oB.length nC:Value).ownBlock∧some k_≠(.slice mA jA.length nA:Value).ownBlock) (.slice cC cA.length dC) cA):=⟨by (with_reducible repeat (first|apply Kd.Q10|apply Kd.Q11|apply Kd.Q2h));exact Kd.Q1q (Kd.Q3p (p:=⟨hA,0,none⟩) (Kd.Q2y HO_217000.out aA.out (by decide)) (fun _ hk=>hk.2) (.slice mA jA.length nA)) (fun _ hk=>⟨hk.1.1.2,hk.1.2⟩)⟩
           have pE:Aside0 (Kd.R (Kd.int .i64) 3 (oC.setCell ⟨hA,0,none⟩ (.slice mA jA.length nA)) w.heap.size (fun k_=>some k_≠(.slice cC cA.length dC:Value).ownBlock∧some k_≠(.slice mA jA.length nA:Value).ownBlock) (.slice mC oB.length nC) oB):=⟨by (with_reducible repeat (first|apply Kd.Q10|apply Kd.Q11|apply Kd.Q2h));exact Kd.Q1q (Kd.Q3p (p:=⟨hA,0,none⟩) (Kd.Q2y gA.out aA.out (by decide)) (fun _ hk=>hk.2) (.slice mA jA.length nA)) (fun _ hk=>⟨hk.1.1.2,hk.1.2⟩)⟩
           have qE:Aside0 (Kd.R (Kd.int .i64) 3 (oC.setCell ⟨hA,0,none⟩ (.slice mA jA.length nA)) w.heap.size (fun k_=>some k_≠(.slice cC cA.length dC:Value).ownBlock∧some k_≠(.slice mC oB.length nC:Value).ownBlock) (.slice mA jA.length nA) jA):=⟨by (with_reducible repeat (first|apply Kd.Q10|apply Kd.Q11|apply Kd.Q2h));exact Kd.Q1q (Kd.Q3p (p:=⟨hA,0,none⟩) (Kd.Q2y iA.out aA.out (by decide)) (fun _ hk=>hk.2) (.slice mA jA.length nA)) (fun _ hk=>⟨hk.1.1.2,hk.1.2⟩)⟩
           have sE:Aside0 ((oC.setCell ⟨hA,0,none⟩ (.slice mA jA.length nA)).heap[lB]? = some (.cells #[.slice none 0 0] 43 (0,0))):=⟨bK bA⟩
           have tE:Aside0 ((oC.setCell ⟨hA,0,none⟩ (.slice mA jA.length nA)).heap[hA]? = some (.cells #[.slice mA jA.length nA] 43 (0,0))):=⟨by (with_reducible repeat (first|refine Q0c ?_ _|refine Q0d ?_|refine Q0b ?_ _));refine Q0u (cs:=#[.slice cC cA.length dC]) ?_ 0 _ rfl;(with_reducible repeat (first|refine Q0c ?_ _|refine Q0d ?_|refine Q0b ?_ _));exact aA.out⟩
           have uE:Aside0 (Below w.heap.size w (oC.setCell ⟨hA,0,none⟩ (.slice mA jA.length nA))):=⟨ bH HB⟩
           clear HO_217000 gA iA bA aA HB
           generalize (oC.setCell ⟨hA,0,none⟩ (.slice mA jA.length nA))=w32 at oE pE qE sE tE uE ⊢
           have HO_217000:=oE;have gA:=pE;have iA:=qE;have bA:=sE;have aA:=tE;have HB:=uE;clear oE pE qE sE tE uE;replace HO_217000:=dR HO_217000;replace gA:=dR gA;replace iA:=dR iA;replace bA:=dB bA;replace aA:=dB aA;replace HB:=dH HB
           have wC:0≤(eA:Int):=pD
           have xC:eA<(l0.length:Int):=pD
           obtain ⟨lD,vE,xA,yA,zA⟩:=Q2i aD.out eA wC xC
           have aB:=zA;have bB:=yA;have cB:=xA
           obtain rfl:fA=lD:=(by injection vE)
           replace xA:=hW HB xA;replace yA:=hW HB yA;replace zA:=hW HB zA;replace wC:=eq_true wC;replace xC:=eq_true xC
           have yC:0≤(dA:Int):=pD
           have zC:dA<(l0.length:Int):=pD
           obtain ⟨mD,wE,eB,fB,gB⟩:=Q2i aD.out dA yC zC
           have hB:=gB;have iB:=fB;have jB:=eB
           obtain rfl:fA=mD:=(by injection wE)
           replace eB:=hW HB eB;replace fB:=hW HB fB;replace gB:=hW HB gB;replace yC:=eq_true yC;replace zC:=eq_true zC
           refine sP 15 (S:=fun w'=>w'.cell? ⟨hA,0,none⟩=some (.slice mA jA.length nA)∧w'.cell? (fA.add ((eA).toNat*3))=some (.int .i64 ((Q0a l0 eA).f0))∧w'.cell? ⟨(fA.add ((eA).toNat*3)).block,(fA.add ((eA).toNat*3)).off+1,none⟩=some (.int .i64 ((Q0a l0 eA).f1))∧w'.cell? ⟨(fA.add ((eA).toNat*3)).block,(fA.add ((eA).toNat*3)).off+2,none⟩=some (.int .i64 ((Q0a l0 eA).f2))∧w'.cell? (fA.add ((dA).toNat*3))=some (.int .i64 ((Q0a l0 dA).f0))∧w'.cell? ⟨(fA.add ((dA).toNat*3)).block,(fA.add ((dA).toNat*3)).off+1,none⟩=some (.int .i64 ((Q0a l0 dA).f1))∧w'.cell? ⟨(fA.add ((dA).toNat*3)).block,(fA.add ((dA).toNat*3)).off+2,none⟩=some (.int .i64 ((Q0a l0 dA).f2))) (ds:=[14]) ⟨bC aA,(hW HB cB :),(hW HB bB :),(hW HB aB :),(hW HB jB :),(hW HB iB :),(hW HB hB :)⟩ fun hHeld => ?_;refine Q1m Q03.tab11 Q03.bits11 (fun HT_ HW_ => ?_)
           generalize w32.drew=w33 at HO_217000 gA iA bA aA HB xA yA zA eB fB gB hHeld ⊢
           refine pQ 1 (some 37) HT_ ?_;refine pQ 2 (some 38) HT_ ?_;refine pQ 3 (some 39) HT_ ?_;refine pQ 4 (some 40) HT_ ?_;refine pQ 6 (some 42) HT_ ?_;refine pQ 7 (some 43) HT_ ?_;refine pQ 8 (some 44) HT_ ?_;refine pQ 9 (some 45) HT_ ?_;refine tQ 0 (some 36) HT_ HW_ hHeld ?_;refine tQ 5 (some 41) HT_ HW_ hHeld ?_;refine tQ 10 (some 46) HT_ HW_ hHeld ?_
           refine oQ 11 (some 47) HT_ rfl fun K hK => ?_
           refine gO Try.func70 #[.int .i64 ((Q0a l0 eA).f1),.int .i64 ((Q0a l0 dA).f0)] ?_
           with_reducible refine (Q1s.calls kj13 ((Q0a l0 eA).f1) ((Q0a l0 dA).f0) eC _ aG.out).mono ?_
           rintro e oG ⟨gG,rfl,oA,hb⟩
           refine ⟨_,rfl,?_⟩
           have pA:=AM (Kd.Q1b (Kd.Q2z (Kd.Q2z (Kd.Q2z oA (Kd.R_lt (rK HO_217000))) (Kd.R_lt (rK gA))) (Kd.R_lt (rK iA))) (Q0h (bH HB)))
           replace HO_217000:=AM (Kd.Q16 (rK HO_217000) (Kd.Q2l oA) hb)
           replace gA:=AM (Kd.Q16 (rK gA) (Kd.Q2l oA) hb)
           replace iA:=AM (Kd.Q16 (rK iA) (Kd.Q2l oA) hb)
           replace bA:=kB bA hb;replace aA:=kB aA hb;replace HB:=kH HB hb;clear hb oA
           obtain ⟨xE,yE,nD⟩:=Kd.Q01 pA.out
           (first|subst nD|(injection nD with xB gC yB;have hC:=xB.symm;have jC:=yB.symm;clear xB gC yB;subst hC;subst jC))
           refine hK.out _ _ ⟨bC aA,(hW HB cB :),(hW HB bB :),(hW HB aB :),(hW HB jB :),(hW HB iB :),(hW HB hB :)⟩ (fun hHeld => ?_)
           clear hK K;refine nP (some 47) ?_
           refine oQ 12 (some 48) HT_ rfl fun K hK => ?_
           refine gO Try.func71 #[.agg #[.slice xE eC.length yE]] ?_
           with_reducible refine (Q2j.calls kj13 _ _ eC fC _ ?side1 ?side2 bG.out).mono ?_
           (case side1=>exact sR pA)
           (case side2=>exact (Kd.Q0w pA.out).2.1)
           rintro e pG ⟨hG,rfl,oA,hb⟩
           refine ⟨_,rfl,?_⟩
           have nB:=AM (Kd.Q1b (Kd.Q2z (Kd.Q2z (Kd.Q2z (Kd.Q2z oA (Kd.R_lt (rK HO_217000))) (Kd.R_lt (rK gA))) (Kd.R_lt (rK iA))) (Kd.R_lt (rK pA))) (Q0h (bH HB)))
           replace HO_217000:=AM (Kd.Q16 (rK HO_217000) (Kd.Q2l oA) hb)
           replace gA:=AM (Kd.Q16 (rK gA) (Kd.Q2l oA) hb)
           replace iA:=AM (Kd.Q16 (rK iA) (Kd.Q2l oA) hb)
           replace pA:=AM (Kd.Q16 (rK pA) (Kd.Q2l oA) hb)
           replace bA:=kB bA hb;replace aA:=kB aA hb;replace HB:=kH HB hb;clear hb oA
           obtain ⟨zE,aF,oD⟩:=Kd.Q01 nB.out
           (first|subst oD|(injection oD with xB gC yB;have hC:=xB.symm;have jC:=yB.symm;clear xB gC yB;subst hC;subst jC))
           refine hK.out _ _ ⟨bC aA,(hW HB cB :),(hW HB bB :),(hW HB aB :),(hW HB jB :),(hW HB iB :),(hW HB hB :)⟩ (fun hHeld => ?_)
           clear hK K;refine nP (some 48) ?_
           refine oQ 13 (some 49) HT_ rfl fun K hK => ?_
           refine gO Try.func19 #[.agg #[.slice mA jA.length nA],.agg #[.slice zE fC.length aF]] ?_
           with_reducible refine (Q1h.calls kj13 _ _ jA _ _ fC zB _ ?side1 ?side2 ?side3 ?side4 cG.out).mono ?_
           (case side1=>exact sR iA)
           (case side2=>exact (Kd.Q0w iA.out).2.1)
           (case side3=>exact sR nB)
           (case side4=>exact (Kd.Q0w nB.out).2.1)
           rintro e iG ⟨jG,rfl,oA,hb⟩
           refine ⟨_,rfl,?_⟩
           have pC:=AM (Kd.Q1b (Kd.Q2z (Kd.Q2z (Kd.Q2z (Kd.Q2z (Kd.Q2z oA (Kd.R_lt (rK HO_217000))) (Kd.R_lt (rK gA))) (Kd.R_lt (rK iA))) (Kd.R_lt (rK pA))) (Kd.R_lt (rK nB))) (Q0h (bH HB)))
           replace HO_217000:=AM (Kd.Q16 (rK HO_217000) (Kd.Q2l oA) hb)
           replace gA:=AM (Kd.Q16 (rK gA) (Kd.Q2l oA) hb)
           replace iA:=AM (Kd.Q16 (rK iA) (Kd.Q2l oA) hb)
           replace pA:=AM (Kd.Q16 (rK pA) (Kd.Q2l oA) hb)
           replace nB:=AM (Kd.Q16 (rK nB) (Kd.Q2l oA) hb)
           replace bA:=kB bA hb;replace aA:=kB aA hb;replace HB:=kH HB hb;clear hb oA
           obtain ⟨qD,rD,sD⟩:=Kd.Q01 pC.out
           (first|subst sD|(injection sD with xB gC yB;have hC:=xB.symm;have jC:=yB.symm;clear xB gC yB;subst hC;subst jC))
           refine hK.out _ _ ⟨bC aA,(hW HB cB :),(hW HB bB :),(hW HB aB :),(hW HB jB :),(hW HB iB :),(hW HB hB :)⟩ (fun hHeld => ?_)
           clear hK K;refine nP (some 49) ?_
           refine last_ (i:=14) (N:=none) #[true,true,true,true,true,true,true,true,true,true,true,true,true,true,true] rfl rfl (Q7e HT_.out (by kernel_rfl)) (by decide) (fun K hK => ?_)
           have lG:iG.cell? ⟨hA,0,none⟩=some (.slice mA jA.length nA):=bC aA
           have nF:=Q0k aA.out 0
           have zD:=kA.out;have aE:=lA.out
           refine skip_ (w1 := ?_) (by rfl) rfl ?_ ?_
           rotate_left
           ·go_simp
            rfl
           refine hK.out _ _ ?_
           clear hK K
           refine done_ (Q2d HT_.out (by kernel_rfl)) ?_
           try go_wp2
           go_roundg kj13
           case measure=>have:=wD.out;have:=gD.out;omega
           case rel=>exact ⟨(wrap64 (eA+1)),(zB),(.slice qD zB.length rD),rS,H',⟨by have:=wD.out;have:=gD.out;omega⟩,⟨by (with_reducible repeat (first|apply Kd.Q10|apply Kd.Q11|apply Kd.Q2h));exact Kd.Q1q (Kd.Q3p (p:=⟨hA,0,none⟩) (Kd.Q2y pC.out aA.out (by decide)) (fun _ hk=>hk.2) (.slice qD zB.length rD)) (fun _ hk=>trivial)⟩,⟨bK bA⟩,⟨by (with_reducible repeat (first|refine Q0c ?_ _|refine Q0d ?_|refine Q0b ?_ _));refine Q0u (cs:=#[.slice mA jA.length nA]) ?_ 0 _ rfl;(with_reducible repeat (first|refine Q0c ?_ _|refine Q0d ?_|refine Q0b ?_ _));exact aA.out⟩,⟨ bH HB⟩⟩
    ·(first|rw [vB]|(simp only [Q1r,Q13];rw [vB])|skip)
     obtain rfl:=Option.some.inj H
     have oF:=lA.out;have pF:=kA.out;obtain ⟨cE,dE⟩:=c1 aA
     obtain ⟨tD,uD,bF⟩:=Kd.Q01 HO_217000.out
     subst bF
     obtain ⟨eE,fE⟩:=c1 bA
     go_wp2
     refine bodyPost_ret (results_cell_row rfl _ _ lB 43 #[.slice tD cA.length uD] (0,0) _ rfl (by (with_reducible repeat (first|refine Q0c ?_ _|refine Q0d ?_|refine Q0b ?_ _));refine Q0u (cs:=#[.slice none 0 0]) ?_ 0 _ rfl;(with_reducible repeat (first|refine Q0c ?_ _|refine Q0d ?_|refine Q0b ?_ _));exact bA.out) Try.underlying43 rfl (by kernel_rfl)) rfl ?_
     exact ⟨_,rE,by (with_reducible repeat (first|apply Kd.Q10|apply Kd.Q11|apply Kd.Q2h));exact Kd.Q1q (Kd.Q3p (p:=⟨lB,0,none⟩) (Kd.Q2y HO_217000.out bA.out (by decide)) (fun _ hk=>hk.2) (.slice tD cA.length uD)) (fun _ hk=>trivial),bH HB⟩
 ·replace vD:=Bool.eq_false_iff.mpr vD
  subst vD
  replace H:=iF H
  obtain rfl:=Option.some.inj H
  have qF:=lA.out;have rF:=kA.out;obtain ⟨gE,hE⟩:=c1 aA;obtain ⟨iE,jE⟩:=c1 bA
  go_wp2
  refine bodyPost_ret (results_cell_row rfl _ _ lB 43 #[.slice dD qA.length eD] (0,0) _ rfl (by (with_reducible repeat (first|refine Q0c ?_ _|refine Q0d ?_|refine Q0b ?_ _));refine Q0u (cs:=#[.slice none 0 0]) ?_ 0 _ rfl;(with_reducible repeat (first|refine Q0c ?_ _|refine Q0d ?_|refine Q0b ?_ _));exact bA.out) Try.underlying43 rfl (by kernel_rfl)) rfl ?_
  exact ⟨_,rE,by (with_reducible repeat (first|apply Kd.Q10|apply Kd.Q11|apply Kd.Q2h));exact Kd.Q1q (Kd.Q3p (p:=⟨lB,0,none⟩) (Kd.Q2y mB.out bA.out (by decide)) (fun _ hk=>hk.2) (.slice dD qA.length eD)) (fun _ hk=>trivial),bH HB⟩

def Q2g.f (k:Nat) (dA:List (List (S27))) (bA:List (List Int)) (eA:List (List Int)) (a1:Int):Option (List Int):=if 0≤a1 then (if a1<(bA.length:Int) then ((Q0f.f k dA bA eA (Q06 bA a1)).bind fun oA=>((Q03.f k oA.1).bind fun hA=>(some hA))) else (none)) else (none)
theorem Q2g.mono:∀ a0 a1 a2 a3 k,LeO (Q2g.f k a0 a1 a2 a3) (Q2g.f (k+1) a0 a1 a2 a3):=by
 intro a0 a1 a2 a3 k
 unfold Q2g.f
 repeat' with_reducible first|exact Q03.mono _ _|exact Q0f.mono _ _ _ _ _|exact LeO.refl _|exact LeO.none _|refine LeO.ite ?_ ?_|refine LeO.bind ?_ (fun _ => ?_)
def Q2g.T1:Bool×List (List Nat×List Nat):=(true,[([],[]),([],[]),([1],[1]),([],[]),([2,3],[2,3]),([4],[4]),([0,5],[0,5]),([6],[6]),([7],[7]),([7],[7]),([8,6,0,1,2,3,4,5,6,7,8],[8]),([9,10,0,1,2,3,4,5,6,7,8,9,10],[9])])
def Q2g.B1:List Nat:=[0,0,2,0,14,30,63,127,255,255,511,2047]
theorem Q2g.tab1:rtab .any (opsOf Try.f20 1)=Q2g.T1:=by kernel_rfl
theorem Q2g.bits1:waitsOk Q2g.T1.2 Q2g.B1=true:=by kernel_rfl
set_option maxHeartbeats 8000000 in
set_option maxRecDepth 100000 in
theorem Q2g.calls (k:Nat) (pA:Option Addr) (qA:Nat) (dA:List (List (S27))) (jB:Option Addr) (rA:Nat) (bA:List (List Int)) (sA:Option Addr) (tA:Nat) (eA:List (List Int)) (a1:Int) (r:List Int) (w:World) (zA:Kd.C (Kd.slice 27 k27) w pA dA.length dA) (aB:dA.length≤qA) (bB:Kd.C (Kd.slice 3 (Kd.int .i64)) w jB bA.length bA) (cB:bA.length≤rA) (eB:Kd.C (Kd.slice 3 (Kd.int .i64)) w sA eA.length eA) (fB:eA.length≤tA) (h:Q2g.f k dA bA eA a1=some r) :
  Calls Try.prog 20 #[.agg #[.slice pA dA.length qA,.slice jB bA.length rA,.slice sA eA.length tA],.int .i64 a1] w fun e w'=>∃ v0_:Value,e=.returned (.agg #[v0_])∧Kd.R (Kd.int .i64) 3 w' w.heap.size (fun _=>True) v0_ r∧Below w.heap.size w w':=by
 have lC:=Try.underlying25
 have mC:=Try.underlying43
 have oB:=AM zA
 have pB:=AM aB
 clear zA aB
 have gB:=AM bB
 have qB:=AM cB
 clear bB cB
 have rB:=AM eB
 have sB:=AM fB
 clear eB fB
 have HB:=AM (Below.refl w.heap.size w)
 have H:(if 0≤a1 then (if a1<(bA.length:Int) then ((Q0f.f k dA bA eA (Q06 bA a1)).bind fun oA=>((Q03.f k oA.1).bind fun hA=>(some hA))) else (none)) else (none))=some r:=h
 clear h
 apply iN H;clear H;intro nC H
 ·apply iN H;clear H;intro oC H
  ·obtain ⟨⟨lB,aC⟩,A5,H⟩:=bS H
   try dsimp only at H
   obtain ⟨hA,A6,H⟩:=bS H
   obtain rfl:=Option.some.inj H
   go_enter Try.func20,Try.ntmps20
   try go_wp2_with (first|((with_reducible refine Q0i (N:=2) rfl ?_);refine bE 2 #[.slice pA dA.length qA,.slice jB bA.length rA,.slice sA eA.length tA] 25 ?_;intro uA hg w7 hbox hb;have aA:=AM hbox;have tB:=kG HB hg;replace HB:=kH HB hb;have hC:=tB;clear hb hbox hg)|((with_reducible refine Q0i (N:=4) rfl ?_);refine bE 4 #[.slice none 0 0] 43 ?_;intro hB hg w8 hbox hb;have cA:=AM hbox;have uB:=kG HB hg;replace HB:=kH HB hb;have iC:=uB;have mA:=kN aA hg;have nA:=kM aA hg;replace aA:=kB aA hb;clear hb hbox hg))
   replace aA:=dB aA;replace cA:=dB cA;replace HB:=dH HB
   have mB:0≤(a1:Int):=pD
   have nB:a1<(bA.length:Int):=pD
   obtain ⟨vA,wA,xA,cC,fA,iA,jA⟩:=Q3c gB.out a1 mB nB
   have kA:=fA
   cases cC
   replace fA:=hW HB fA
   have lA:=AM jA
   have yA:=AM iA
   clear jA iA;replace mB:=eq_true mB;replace nB:=eq_true nB
   refine sP 12 (S:=fun w'=>w'.cell? ⟨uA,0,none⟩=some (.slice pA dA.length qA)∧w'.cell? ⟨uA,1,none⟩=some (.slice (some vA) bA.length rA)∧w'.cell? ⟨uA,2,none⟩=some (.slice sA eA.length tA)∧w'.cell? (vA.add (a1).toNat)=some (.slice wA (Q06 bA a1).length xA)) (ds:=[]) ⟨bC aA,bC aA,bC aA,(hW HB kA :)⟩ fun hHeld => ?_;refine Q1m Q2g.tab1 Q2g.bits1 (fun HT_ HW_ => ?_)
   generalize w8.drew=w9 at aA cA HB lA fA hHeld ⊢
   refine pQ 1 (some 9) HT_ ?_;refine pQ 3 (some 11) HT_ ?_;refine tQ 0 (some 8) HT_ HW_ hHeld ?_;refine tQ 2 (some 10) HT_ HW_ hHeld ?_;refine pQ 4 (some 12) HT_ ?_;refine tQ 5 (some 13) HT_ HW_ hHeld ?_
   refine oQ 6 (some 14) HT_ rfl fun K hK => ?_
   refine gO Try.func35 #[.agg #[.slice pA dA.length qA,.slice (some vA) bA.length rA,.slice sA eA.length tA],.slice wA (Q06 bA a1).length xA] ?_
   with_reducible refine (Q0f.calls k _ _ dA _ _ bA _ _ eA _ _ (Q06 bA a1) lB aC _ ?side1 ?side2 ?side3 ?side4 ?side5 ?side6 ?side7 ?side8 A5.out).mono ?_
   (case side1=>exact sC oB HB)
   (case side2=>exact pB.out)
   (case side3=>exact sC gB HB)
   (case side4=>exact qB.out)
   (case side5=>exact sC rB HB)
   (case side6=>exact sB.out)
   (case side7=>exact sC lA HB)
   (case side8=>exact yA.out)
   rintro e rC ⟨pC,rfl,vB,hb⟩
   refine ⟨_,rfl,?_⟩
   have gA:=AM (Kd.Q1b vB (Q0h (bH HB)))
   replace aA:=kB aA hb;replace cA:=kB cA hb;replace HB:=kH HB hb;clear hb vB
   refine hK.out _ _ ⟨bC aA,bC aA,bC aA,(hW HB kA :)⟩ (fun hHeld => ?_)
   clear hK K;refine nP (some 14) ?_;refine pQ 7 (some 7) HT_ ?_;refine pQ 8 (some 15) HT_ ?_;refine pQ 9 (some 16) HT_ ?_;refine pQ 10 (some 5) HT_ ?_;refine pQ 11 (some 6) HT_ ?_
   refine done_ (Q2d HT_.out (by kernel_rfl)) ?_
   obtain ⟨dC,eC,fC⟩:=Kd.Q01 gA.out
   subst fC
   try go_wp2_with (first|((with_reducible refine Q0n (f:=48) rfl ?_);refine gL (some 18) Try.func48 #[.slice dC lB.length eC] ?_;(with_reducible refine (Q03.calls k _ _ lB hA _ ?side1 ?side2 A6.out).mono ?_);(case side1=>exact sR gA);(case side2=>exact (Kd.Q0w gA.out).2.1);rintro e tC ⟨qC,rfl,vB,hb⟩;refine ⟨_,rfl,?_⟩;replace gA:=kR gA hb;have iB:=AM (Kd.Q1b vB (Q0h (bH HB)));replace aA:=kB aA hb;replace cA:=kB cA hb;replace HB:=kH HB hb;clear hb vB;obtain ⟨wB,xB,gC⟩:=Kd.Q01 iB.out;subst gC;have jC:=nA.out;have kC:=mA.out;obtain ⟨yB,zB⟩:=c1 cA))
   refine bodyPost_ret (results_cell_row rfl _ _ hB 43 #[.slice wB hA.length xB] (0,0) _ rfl (by (with_reducible repeat (first|refine Q0c ?_ _|refine Q0d ?_|refine Q0b ?_ _));refine Q0u (cs:=#[.slice none 0 0]) ?_ 0 _ rfl;(with_reducible repeat (first|refine Q0c ?_ _|refine Q0d ?_|refine Q0b ?_ _));exact cA.out) Try.underlying43 rfl (by kernel_rfl)) rfl ?_
   exact ⟨_,rE,by (with_reducible repeat (first|apply Kd.Q10|apply Kd.Q11|apply Kd.Q2h));exact Kd.Q1q (Kd.Q3p (p:=⟨hB,0,none⟩) (Kd.Q2y iB.out cA.out (by decide)) (fun _ hk=>hk.2) (.slice wB hA.length xB)) (fun _ hk=>trivial),bH HB⟩

mutual
def Q1c.l0:Nat→Int→Int→Int→List (List (S27))→List (List Int)→List (List Int)→Option (Int)
 | 0,_,_,_,_,_,_=>none
 | k+1,x1,x5,x6,x141000,x141001,x141002=>if x6<(x141001.length:Int) then (Q1c.l1 k x1 x5 x6 0 x141000 x141001 x141002) else (some x5)
def Q1c.l1:Nat→Int→Int→Int→Int→List (List (S27))→List (List Int)→List (List Int)→Option (Int)
 | 0,_,_,_,_,_,_,_=>none
 | k+1,x1,x5,x6,x7,x141000,x141001,x141002=>if 0≤x6 then (if x6<(x141001.length:Int) then (if x7<((Q06 x141001 x6).length:Int) then (if 0≤x7 then (if (rd (Q06 x141001 x6) x7)=x1 then (Q1c.l1 k x1 (wrap64 (x5+1)) x6 (wrap64 (x7+1)) x141000 x141001 x141002) else (Q1c.l1 k x1 x5 x6 (wrap64 (x7+1)) x141000 x141001 x141002)) else (none)) else (Q1c.l0 k x1 x5 (wrap64 (x6+1)) x141000 x141001 x141002)) else (none)) else (none)
end
def Q1c.f (k:Nat) (lA:List (List (S27))) (cA:List (List Int)) (mA:List (List Int)) (a1:Int):Option (Int):=Q1c.l0 k a1 0 0 lA cA mA
theorem Q1c.Q1a:∀ k,(∀ y0 y1 y2 y3 y4 y5,LeO (Q1c.l0 k y0 y1 y2 y3 y4 y5) (Q1c.l0 (k+1) y0 y1 y2 y3 y4 y5))∧(∀ y0 y1 y2 y3 y4 y5 y6,LeO (Q1c.l1 k y0 y1 y2 y3 y4 y5 y6) (Q1c.l1 (k+1) y0 y1 y2 y3 y4 y5 y6))
 | 0=>⟨fun _ _ _ _ _ _ r h=>by simp [Q1c.l0] at h,fun _ _ _ _ _ _ _ r h=>by simp [Q1c.l1] at h⟩
 | k+1=>by
  obtain ⟨iD,jD⟩:=Q1c.Q1a k
  refine ⟨?_,?_⟩
  all_goals
   intros
   first|unfold Q1c.l0|unfold Q1c.l1
   repeat' with_reducible first|exact iD _ _ _ _ _ _|exact jD _ _ _ _ _ _ _|exact LeO.refl _|exact LeO.none _|refine LeO.ite ?_ ?_|refine LeO.bind ?_ (fun _ => ?_)
theorem Q1c.mono:∀ a0 a1 a2 a3 k,LeO (Q1c.f k a0 a1 a2 a3) (Q1c.f (k+1) a0 a1 a2 a3):=by
 intro a0 a1 a2 a3 k
 obtain ⟨iD,jD⟩:=Q1c.Q1a k
 unfold Q1c.f
 repeat' with_reducible first|exact iD _ _ _ _ _ _|exact jD _ _ _ _ _ _ _|exact LeO.refl _|exact LeO.none _|refine LeO.ite ?_ ?_|refine LeO.bind ?_ (fun _ => ?_)
set_option maxHeartbeats 8000000 in
set_option maxRecDepth 100000 in
theorem Q1c.calls (k:Nat) (zA:Option Addr) (aB:Nat) (lA:List (List (S27))) (bB:Option Addr) (cB:Nat) (cA:List (List Int)) (dB:Option Addr) (eB:Nat) (mA:List (List Int)) (a1:Int) (r:Int) (w:World) (lB:Kd.C (Kd.slice 27 k27) w zA lA.length lA) (mB:lA.length≤aB) (nB:Kd.C (Kd.slice 3 (Kd.int .i64)) w bB cA.length cA) (oB:cA.length≤cB) (pB:Kd.C (Kd.slice 3 (Kd.int .i64)) w dB mA.length mA) (qB:mA.length≤eB) (h:Q1c.f k lA cA mA a1=some r) :
  Calls Try.prog 38 #[.agg #[.slice zA lA.length aB,.slice bB cA.length cB,.slice dB mA.length eB],.int .i64 a1] w fun e w'=>e=.returned (.int .i64 r)∧Below w.heap.size w w':=by
 have sD:=Try.underlying25
 have lD:=AM lB
 have mD:=AM mB
 clear lB mB
 have qA:=AM nB
 have nD:=AM oB
 clear nB oB
 have oD:=AM pB
 have qD:=AM qB
 clear pB qB
 have HB:=AM (Below.refl w.heap.size w)
 have H:(Q1c.l0 k a1 0 0 lA cA mA)=some r:=h
 clear h
 have H':=AM H
 clear H
 go_enter Try.func38,Try.ntmps38
 go_wp2_with (first|((with_reducible refine Q0i (N:=2) rfl ?_);refine bE 2 #[.slice zA lA.length aB,.slice bB cA.length cB,.slice dB mA.length eB] 25 ?_;intro rB hg w3 hbox hb;have gA:=AM hbox;have fC:=kG HB hg;replace HB:=kH HB hb;have rD:=fC;clear hb hbox hg))
 go_loopg [5,6] k (fun kq v5 v6 w'=>∃ (jB:Int) (aA:Int),v5=.int .i64 jB∧v6=.int .i64 aA∧Aside0 (Q1c.l0 kq a1 jB aA lA cA mA=some r)∧Aside0 (kq≤k)∧Aside0 (w'.heap[rB]? = some (.cells #[(.slice zA lA.length aB),(.slice bB cA.length cB),(.slice dB mA.length eB)] 25 (0,0)))∧Aside0 (Below w.heap.size w w'))
 case atStart=>exact ⟨(0),(0),rS,rS,H',⟨Nat.le_refl _⟩,⟨bK gA⟩,⟨ bH HB⟩⟩
 case round =>
  clear H'
  obtain ⟨jB,aA,rfl,rfl,HA,dC,gA,HB⟩:=hrel
  cases gk with
  | zero=>exact absurd HA.out (by simp [Q1c.l0])
  | succ k1 =>
   have H:=HA.out;clear HA
   simp only [Q1c.l0] at H
   apply iC H<;>clear H<;>intro kD H
   ·have H':=AM H
    clear H;obtain ⟨sB,tB,uB,vB,wB,xB⟩:=c3 gA
    go_wp2
    go_loopg [5,7] k1 (fun kq v5 v7 w'=>∃ (yA:Int) (hA:Int),v5=.int .i64 yA∧v7=.int .i64 hA∧Aside0 (Q1c.l1 kq a1 yA aA hA lA cA mA=some r)∧Aside0 (kq≤k1)∧Aside0 (w'.heap[rB]? = some (.cells #[(.slice zA lA.length aB),(.slice bB cA.length cB),(.slice dB mA.length eB)] 25 (0,0)))∧Aside0 (Below w.heap.size w w'))
    case atStart=>exact ⟨(jB),(0),rS,rS,H',⟨Nat.le_refl _⟩,⟨bK gA⟩,⟨ bH HB⟩⟩
    case round =>
     clear H'
     clear kD sB tB uB vB wB xB
     obtain ⟨yA,hA,rfl,rfl,HA,eC,gA,HB⟩:=hrel
     cases gk with
     | zero=>exact absurd HA.out (by simp [Q1c.l1])
     | succ k2 =>
      have H:=HA.out;clear HA
      simp only [Q1c.l1] at H
      apply iN H;clear H;intro tD H
      ·apply iN H;clear H;intro uD H
       ·apply iC H<;>clear H<;>intro vD H
        ·apply iN H;clear H;intro wD H
         ·by_cases yB:(rd (Q06 cA aA) hA)=a1
          ·rw [if_pos yB] at H
           have gC:((rd (Q06 cA aA) hA)==a1)=true:=beq_iff_eq.mpr yB
           have hC:((rd (Q06 cA aA) hA) != a1)=false:=bne_eq_false_iff_eq.mpr yB
           clear yB
           have H':=AM H
           clear H;obtain ⟨kC,lC,mC,nC,oC,pC⟩:=c3 gA
           have nA:0≤(aA:Int):=pD
           have oA:aA<(cA.length:Int):=pD
           obtain ⟨vA,fB,gB,hB,bA,dA,eA⟩:=Q3c qA.out aA nA oA
           cases hB
           replace bA:=hW HB bA
           have wA:=AM eA
           have xA:=AM dA
           clear eA dA;replace nA:=eq_true nA;replace oA:=eq_true oA
           have rA:0≤(aA:Int):=pD
           have sA:aA<(cA.length:Int):=pD
           obtain ⟨iB,zB,aC,bC,fA,iA,jA⟩:=Q3c qA.out aA rA sA
           obtain rfl:vA=iB:=(by injection bC)
           replace fA:=hW HB fA
           have pA:=AM jA
           have kB:=AM iA
           clear jA iA;replace rA:=eq_true rA;replace sA:=eq_true sA
           have ea_:=Option.some.inj (bA.symm.trans fA)
           injection ea_ with ea_ en_ ec_
           subst ea_
           subst ec_
           clear en_
           have tA:0≤(hA:Int):=pD
           have uA:hA<((Q06 cA aA).length:Int):=pD
           obtain ⟨jC,cC,kA⟩:=Kd.Q2n pA.out hA tA uA
           cases cC
           replace kA:=hW HB kA;replace tA:=eq_true tA;replace uA:=eq_true uA
           go_wp2
           go_roundg k2
           case measure=>have:=dC.out;have:=eC.out;omega
           case rel=>exact ⟨(wrap64 (yA+1)),(wrap64 (hA+1)),rS,rS,H',⟨by have:=dC.out;have:=eC.out;omega⟩,⟨bK gA⟩,⟨ bH HB⟩⟩
          ·rw [if_neg yB] at H
           have gC:((rd (Q06 cA aA) hA)==a1)=false:=beq_eq_false_iff_ne.mpr yB
           have hC:((rd (Q06 cA aA) hA) != a1)=true:=bne_iff_ne.mpr yB
           have H':=AM H
           clear H;obtain ⟨qC,rC,sC,tC,uC,vC⟩:=c3 gA
           have nA:0≤(aA:Int):=pD
           have oA:aA<(cA.length:Int):=pD
           obtain ⟨vA,fB,gB,hB,bA,dA,eA⟩:=Q3c qA.out aA nA oA
           cases hB
           replace bA:=hW HB bA
           have wA:=AM eA
           have xA:=AM dA
           clear eA dA;replace nA:=eq_true nA;replace oA:=eq_true oA
           have rA:0≤(aA:Int):=pD
           have sA:aA<(cA.length:Int):=pD
           obtain ⟨iB,zB,aC,bC,fA,iA,jA⟩:=Q3c qA.out aA rA sA
           obtain rfl:vA=iB:=(by injection bC)
           replace fA:=hW HB fA
           have pA:=AM jA
           have kB:=AM iA
           clear jA iA;replace rA:=eq_true rA;replace sA:=eq_true sA
           have ea_:=Option.some.inj (bA.symm.trans fA)
           injection ea_ with ea_ en_ ec_
           subst ea_
           subst ec_
           clear en_
           have tA:0≤(hA:Int):=pD
           have uA:hA<((Q06 cA aA).length:Int):=pD
           obtain ⟨jC,cC,kA⟩:=Kd.Q2n pA.out hA tA uA
           cases cC
           replace kA:=hW HB kA;replace tA:=eq_true tA;replace uA:=eq_true uA
           go_wp2
           go_roundg k2
           case measure=>have:=dC.out;have:=eC.out;omega
           case rel=>exact ⟨(yA),(wrap64 (hA+1)),rS,rS,H',⟨by have:=dC.out;have:=eC.out;omega⟩,⟨bK gA⟩,⟨ bH HB⟩⟩
        ·have H':=AM H
         clear H;obtain ⟨wC,xC,yC,zC,aD,bD⟩:=c3 gA
         have nA:0≤(aA:Int):=pD
         have oA:aA<(cA.length:Int):=pD
         obtain ⟨vA,fB,gB,hB,bA,dA,eA⟩:=Q3c qA.out aA nA oA
         cases hB
         replace bA:=hW HB bA
         have wA:=AM eA
         have xA:=AM dA
         clear eA dA;replace nA:=eq_true nA;replace oA:=eq_true oA
         go_wp2
         go_roundg k2
         case measure=>have:=dC.out;have:=eC.out;omega
         case rel=>exact ⟨(yA),(wrap64 (aA+1)),rS,rS,H',⟨by have:=dC.out;have:=eC.out;omega⟩,⟨bK gA⟩,⟨ bH HB⟩⟩
   ·obtain rfl:=Option.some.inj H
    obtain ⟨cD,dD,eD,fD,gD,hD⟩:=c3 gA
    go_wp2
    go_ret
    exact ⟨rE,bH HB⟩
end Go.Proofs.Ytbonkedecfjmdaa.P
