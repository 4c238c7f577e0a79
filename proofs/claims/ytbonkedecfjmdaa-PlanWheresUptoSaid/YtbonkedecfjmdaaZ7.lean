/- Written for this claim by a program of this session (a turned copy of the print): Go functions as Lean functions, and that the Go code comes to just these answers; or a statement proved out of them. No condition. -/
import Derived.Test.YtbonkedecfjmdaaZ2
import Derived.Test.YtbonkedecfjmdaaZ5
import Derived.Test.YtbonkedecfjmdaaZ6
import Derived.Test.YtbonkedecfjmdaaZ4

namespace Go.Proofs.Ytbonkedecfjmdaa.P
open Go.RowKit Go.Proofs.YtbonkedecfjmdaaW.PrintWords Go.Proofs.YtbonkedecfjmdaaW.PrintLast Go.Proofs.YtbonkedecfjmdaaW.PrintMore Go.Proofs.Ytbonkedecfjmdaa.X
attribute [local go_sem] Q2b Q2a Q2m Q2n Q1y Q1z Q19 Q18 Q2l Q2k add64
set_option linter.unusedVariables false
set_option linter.unusedSimpArgs false
mutual
def Q03.l0:Nat→List (S27)→Int→List Int→Option (List Int)
 | 0,_,_,_=>none
 | k+1,x0,x4,x217000=>if x4<(x0.length:Int) then (if (wrap64 (x4+1))=(x0.length:Int) then (Q03.j1 k x0 x4 0 x217000) else (Q03.j1 k x0 x4 (wrap64 (x4+1)) x217000)) else (some x217000)
def Q03.j1:Nat→List (S27)→Int→Int→List Int→Option (List Int)
 | 0,_,_,_,_=>none
 | k+1,x0,x4,x5,x217000=>if 0≤x4 then (if x4<(x0.length:Int) then (if 0≤x5 then (if x5<(x0.length:Int) then ((Q1p.f k ((Q0a x0 x4).f0) ((Q0a x0 x5).f1)).bind fun oB=>((Q1n.f k x217000 oB).bind fun jA=>((Q1p.f k ((Q0a x0 x4).f1) ((Q0a x0 x5).f0)).bind fun eC=>((Q2h.f k eC).bind fun fC=>((Q1n.f k jA fC).bind fun zB=>(Q03.l0 k x0 (wrap64 (x4+1)) zB)))))) else (none)) else (none)) else (none)) else (none)
end
def Q03.f (k:Nat) (l0:List (S27)):Option (List Int):=(Q1r.f k 0).bind fun qA=>((Q0u.f k l0).bind fun aC=>(if aC=true then (Q03.l0 k l0 0 qA) else (some qA)))
theorem Q03.Q08:∀ k,(∀ y0 y1 y2,LeO (Q03.l0 k y0 y1 y2) (Q03.l0 (k+1) y0 y1 y2))∧(∀ y0 y1 y2 y3,LeO (Q03.j1 k y0 y1 y2 y3) (Q03.j1 (k+1) y0 y1 y2 y3))
 | 0=>⟨fun _ _ _ r h=>by simp [Q03.l0] at h,fun _ _ _ _ r h=>by simp [Q03.j1] at h⟩
 | k+1=>by
  obtain ⟨kE,lE⟩:=Q03.Q08 k
  refine ⟨?_,?_⟩
  all_goals
   intros
   first|unfold Q03.l0|unfold Q03.j1
   repeat' with_reducible first|exact kE _ _ _|exact lE _ _ _ _|exact Q1n.mono _ _ _|exact Q2h.mono _ _|exact Q1r.mono _ _|exact Q0u.mono _ _|exact Q1p.mono _ _ _|exact LeO.refl _|exact LeO.none _|refine LeO.ite ?_ ?_|refine LeO.bind ?_ (fun _ => ?_)
theorem Q03.mono:∀ a0 k,LeO (Q03.f k a0) (Q03.f (k+1) a0):=by
 intro a0 k
 obtain ⟨kE,lE⟩:=Q03.Q08 k
 unfold Q03.f
 repeat' with_reducible first|exact kE _ _ _|exact lE _ _ _ _|exact Q1n.mono _ _ _|exact Q2h.mono _ _|exact Q1r.mono _ _|exact Q0u.mono _ _|exact Q1p.mono _ _ _|exact LeO.refl _|exact LeO.none _|refine LeO.ite ?_ ?_|refine LeO.bind ?_ (fun _ => ?_)
def Q03.T10:Bool×List (List Nat×List Nat):=(true,[([],[]),([],[]),([],[]),([1,2],[1,2]),([3],[3]),([4],[4]),([],[]),([],[]),([6,7],[6,7]),([8],[8]),([9],[9]),([5,10],[5,10]),([0,11,11],[0,11]),([12,12,0,1,2,3,4,5,6,7,8,9,10,11,12],[12])])
def Q03.B10:List Nat:=[0,0,0,6,14,30,0,0,192,448,960,2046,4095,8191]
theorem Q03.tab10:rtab .any (opsOf Try.f48 10)=Q03.T10:=by kernel_rfl
theorem Q03.bits10:waitsOk Q03.T10.2 Q03.B10=true:=by kernel_rfl
def Q03.T11:Bool×List (List Nat×List Nat):=(true,[([],[]),([],[]),([],[]),([1,2],[1,2]),([3],[3]),([4],[4]),([],[]),([],[]),([6,7],[6,7]),([8],[8]),([9],[9]),([5,10],[5,10]),([11,11],[11]),([0,12,12],[0,12]),([13,13,0,1,2,3,4,5,6,7,8,9,10,11,12,13],[13])])
def Q03.B11:List Nat:=[0,0,0,6,14,30,0,0,192,448,960,2046,4094,8191,16383]
theorem Q03.tab11:rtab .any (opsOf Try.f48 11)=Q03.T11:=by kernel_rfl
theorem Q03.bits11:waitsOk Q03.T11.2 Q03.B11=true:=by kernel_rfl
set_option maxHeartbeats 8000000 in
set_option maxRecDepth 100000 in
theorem Q03.calls (k:Nat) (A0:Option Addr) (c0:Nat) (l0:List (S27)) (r:List Int) (w:World) (cF:Kd.C k27 w A0 l0.length l0) (dF:l0.length≤c0) (h:Q03.f k l0=some r) :
  Calls Try.prog 48 #[.slice A0 l0.length c0] w fun e w'=>∃ v0_:Value,e=.returned (.agg #[v0_])∧Kd.R (Kd.int .i64) 3 w' w.heap.size (fun _=>True) v0_ r∧Below w.heap.size w w':=by
 have sF:=Try.underlying43
 have aD:=AM cF
 have tF:=AM dF
 clear cF dF
 have HB:=AM (Below.refl w.heap.size w)
 have H:((Q1r.f k 0).bind fun qA=>((Q0u.f k l0).bind fun aC=>(if aC=true then (Q03.l0 k l0 0 qA) else (some qA))))=some r:=h
 clear h
 obtain ⟨qA,A2,H⟩:=bS H
 obtain ⟨aC,A3,H⟩:=bS H
 have eF:=AM H
 clear H
 go_enter Try.func48,Try.ntmps48
 go_upto_if 9 with (first|((with_reducible refine Q0i (N:=2) rfl ?_);refine bE 2 #[.slice none 0 0] 43 ?_;intro lB hg w5 hbox hb;have bA:=AM hbox;have bD:=kG HB hg;replace HB:=kH HB hb;have fF:=bD;clear hb hbox hg)|((with_reducible refine Q0o (f:=18) rfl ?_);refine gL (some 6) Try.func18 #[.int .i64 0] ?_;(with_reducible refine (Q1r.calls k 0 qA _ A2.out).mono ?_);rintro e w6 ⟨uF,rfl,oA,hb⟩;refine ⟨_,rfl,?_⟩;have mB:=AM (Kd.Q1a oA (Q0h (bH HB)));replace bA:=kB bA hb;replace HB:=kH HB hb;clear hb oA)|((with_reducible refine Q0i (N:=3) rfl ?_);refine bE 3 #[.slice none 0 0] 43 ?_;intro hA hg w7 hbox hb;replace mB:=kR mB hb;have aA:=AM hbox;have cD:=kG HB hg;replace HB:=kH HB hb;have gF:=cD;have kA:=kN bA hg;have lA:=kM bA hg;replace bA:=kB bA hb;clear hb hbox hg;obtain ⟨dD,eD,vF⟩:=Kd.Q02 mB.out;subst vF;have wF:=lA.out;have xF:=kA.out;obtain ⟨kC,lC⟩:=c1 aA)|((with_reducible refine Q0o (f:=22) rfl ?_);refine gL (some 8) Try.func22 #[.slice A0 l0.length c0] ?_;(with_reducible refine (Q0u.calls k _ _ l0 aC _ ?side1 ?side2 A3.out).mono ?_);(case side1=>exact Kd.Q10 aD.out (bH HB));(case side2=>exact tF.out);rintro e mG ⟨rfl,hb⟩;refine ⟨_,rfl,?_⟩;replace mB:=AM (Kd.Q47 (by (with_reducible repeat (first|apply Kd.Q16|apply Kd.Q17|apply Kd.Q2p));exact (Kd.Q1x (Kd.Q4a (p:=⟨hA,0,none⟩) (Kd.Q22 mB.out aA.out (by decide)) (fun _ hk=>hk.2) (.slice dD qA.length eD)) (fun _ h_=>h_.1))) hb);replace bA:=kB bA hb;replace aA:=AM (Q1o (g:=hA) (o:=.cells #[.slice dD qA.length eD] 43 (0,0)) (by (with_reducible repeat (first|refine Q0c ?_ _|refine Q0e ?_|refine Q0b ?_ _));refine Q0t (cs:=#[.slice none 0 0]) ?_ 0 _ rfl;(with_reducible repeat (first|refine Q0c ?_ _|refine Q0e ?_|refine Q0b ?_ _));exact aA.out) hb);replace HB:=kH HB hb;clear hb))
 (try simp only [Act.put,List.setIfInBounds_toArray,List.set_cons_zero,List.set_cons_succ])
 have H:=eF.out;clear eF
 by_cases vD:aC=true
 ·subst vD
  replace H:=iT H
  have H':=AM H
  clear H
  go_wp2
  go_loopg [4] k (fun kq v4 w'=>∃ (eA:Int) (cA:List Int) (u217000:Value),v4=.int .i64 eA∧Aside0 (Q03.l0 kq l0 eA cA=some r)∧Aside0 (kq≤k)∧Aside0 (Kd.R (Kd.int .i64) 3 w' w.heap.size (fun _=>True) u217000 cA)∧Aside0 (w'.heap[lB]? = some (.cells #[(.slice none 0 0)] 43 (0,0)))∧Aside0 (w'.heap[hA]? = some (.cells #[u217000] 43 (0,0)))∧Aside0 (Below w.heap.size w w'))
  case atStart=>exact ⟨(0),(qA),(.slice dD qA.length eD),rS,H',⟨Nat.le_refl _⟩,⟨rK mB⟩,⟨bK bA⟩,⟨bK aA⟩,⟨ bH HB⟩⟩
  case round =>
   clear H'
   clear kC lC
   obtain ⟨eA,cA,u217000,rfl,HA,wD,HO_217000,bA,aA,HB⟩:=hrel
   cases gk with
   | zero=>exact absurd HA.out (by simp [Q03.l0])
   | succ k1 =>
    have H:=HA.out;clear HA
    simp only [Q03.l0] at H
    apply iC H<;>clear H<;>intro vB H
    ·(first|rw [vB]|(simp only [Q1s,Q13];rw [vB])|skip)
     have qC:=AM H
     clear H
     go_upto_if 22 with (fail)
     go_cut [5] (fun v5 wc=>∃ (kq:Nat) (dA:Int),v5=.int .i64 dA∧Aside0 (Q03.j1 kq l0 eA dA cA=some r)∧Aside0 (kq≤k1)∧Aside0 (Kd.R (Kd.int .i64) 3 wc w.heap.size (fun _=>True) u217000 cA)∧Aside0 (wc.heap[lB]? = some (.cells #[(.slice none 0 0)] 43 (0,0)))∧Aside0 (wc.heap[hA]? = some (.cells #[u217000] 43 (0,0)))∧Aside0 (Below w.heap.size w wc))
     case first =>
      have H:=qC.out;clear qC
      by_cases rC:(wrap64 (eA+1))=(l0.length:Int)
      ·rw [if_pos rC] at H
       have wB:((wrap64 (eA+1))==(l0.length:Int))=true:=beq_iff_eq.mpr rC
       have fD:((wrap64 (eA+1)) != (l0.length:Int))=false:=bne_eq_false_iff_eq.mpr rC
       clear rC
       (first|rw [wB]|(simp only [Q1s,Q13];rw [wB])|skip)
       have H':=AM H
       clear H
       go_wp2
       go_meet
       case rel=>exact ⟨_,(0),rS,H',⟨by have:=wD.out;first|omega|exact Nat.le_refl _⟩,⟨rK HO_217000⟩,⟨bK bA⟩,⟨bK aA⟩,⟨ bH HB⟩⟩
      ·rw [if_neg rC] at H
       have wB:((wrap64 (eA+1))==(l0.length:Int))=false:=beq_eq_false_iff_ne.mpr rC
       have fD:((wrap64 (eA+1)) != (l0.length:Int))=true:=bne_iff_ne.mpr rC
       (first|rw [wB]|(simp only [Q1s,Q13];rw [wB])|skip)
       have H':=AM H
       clear H
       go_wp2
       go_meet
       case rel=>exact ⟨_,(wrap64 (eA+1)),rS,H',⟨by have:=wD.out;first|omega|exact Nat.le_refl _⟩,⟨rK HO_217000⟩,⟨bK bA⟩,⟨bK aA⟩,⟨ bH HB⟩⟩
     case rest =>
      clear qC vB
      obtain ⟨kq,dA,rfl,HA,gD,HO_217000,bA,aA,HB⟩:=hcut
      cases kq with
      | zero=>exact absurd HA.out (by simp [Q03.j1])
      | succ kj13 =>
       have H:=HA.out;clear HA
       simp only [Q03.j1] at H
       apply iN H;clear H;intro hF H
       ·apply iN H;clear H;intro jF H
        ·apply iN H;clear H;intro kF H
         ·apply iN H;clear H;intro lF H
          ·obtain ⟨oB,yF,H⟩:=bS H
           obtain ⟨jA,zF,H⟩:=bS H
           obtain ⟨eC,aG,H⟩:=bS H
           obtain ⟨fC,bG,H⟩:=bS H
           obtain ⟨zB,cG,H⟩:=bS H
           have H':=AM H
           clear H
           try go_wp2
           replace HO_217000:=dR HO_217000;replace bA:=dB bA;replace aA:=dB aA;replace HB:=dH HB
           have sC:0≤(eA:Int):=pD
           have tC:eA<(l0.length:Int):=pD
           obtain ⟨fA,mE,rA,sA,tA⟩:=Q2e aD.out eA sC tC
           have pB:=tA;have qB:=sA;have rB:=rA
           cases mE
           replace rA:=hW HB rA;replace sA:=hW HB sA;replace tA:=hW HB tA;replace sC:=eq_true sC;replace tC:=eq_true tC
           have uC:0≤(dA:Int):=pD
           have vC:dA<(l0.length:Int):=pD
           obtain ⟨hD,nE,uA,vA,wA⟩:=Q2e aD.out dA uC vC
           have sB:=wA;have tB:=vA;have uB:=uA
           obtain rfl:fA=hD:=(by injection nE)
           replace uA:=hW HB uA;replace vA:=hW HB vA;replace wA:=hW HB wA;replace uC:=eq_true uC;replace vC:=eq_true vC
           refine sP 14 (S:=fun w'=>w'.cell? ⟨hA,0,none⟩=some (u217000)∧w'.cell? (fA.add ((eA).toNat*3))=some (.int .i64 ((Q0a l0 eA).f0))∧w'.cell? ⟨(fA.add ((eA).toNat*3)).block,(fA.add ((eA).toNat*3)).off+1,none⟩=some (.int .i64 ((Q0a l0 eA).f1))∧w'.cell? ⟨(fA.add ((eA).toNat*3)).block,(fA.add ((eA).toNat*3)).off+2,none⟩=some (.int .i64 ((Q0a l0 eA).f2))∧w'.cell? (fA.add ((dA).toNat*3))=some (.int .i64 ((Q0a l0 dA).f0))∧w'.cell? ⟨(fA.add ((dA).toNat*3)).block,(fA.add ((dA).toNat*3)).off+1,none⟩=some (.int .i64 ((Q0a l0 dA).f1))∧w'.cell? ⟨(fA.add ((dA).toNat*3)).block,(fA.add ((dA).toNat*3)).off+2,none⟩=some (.int .i64 ((Q0a l0 dA).f2))) (ds:=[13]) ⟨bC aA,(hW HB rB :),(hW HB qB :),(hW HB pB :),(hW HB uB :),(hW HB tB :),(hW HB sB :)⟩ fun hHeld => ?_;refine Q1l Q03.tab10 Q03.bits10 (fun HT_ HW_ => ?_)
           generalize wc.drew=w25 at HO_217000 bA aA HB rA sA tA uA vA wA hHeld ⊢
           refine pQ 1 (some 24) HT_ ?_;refine pQ 2 (some 25) HT_ ?_;refine pQ 3 (some 26) HT_ ?_;refine pQ 4 (some 27) HT_ ?_;refine pQ 6 (some 29) HT_ ?_;refine pQ 7 (some 30) HT_ ?_;refine pQ 8 (some 31) HT_ ?_;refine pQ 9 (some 32) HT_ ?_;refine tQ 0 (some 23) HT_ HW_ hHeld ?_;refine tQ 5 (some 28) HT_ HW_ hHeld ?_;refine tQ 10 (some 33) HT_ HW_ hHeld ?_
           refine oQ 11 (some 34) HT_ rfl fun K hK => ?_
           refine gO Try.func70 #[.int .i64 ((Q0a l0 eA).f0),.int .i64 ((Q0a l0 dA).f1)] ?_
           with_reducible refine (Q1p.calls kj13 ((Q0a l0 eA).f0) ((Q0a l0 dA).f1) oB _ yF.out).mono ?_
           rintro e nG ⟨dG,rfl,oA,hb⟩
           refine ⟨_,rfl,?_⟩
           have gA:=AM (Kd.Q1a (Kd.Q21 oA (Kd.R_lt (rK HO_217000))) (Q0h (bH HB)))
           replace HO_217000:=AM (Kd.Q2c (rK HO_217000) (Kd.Q2q oA) hb)
           replace bA:=kB bA hb;replace aA:=kB aA hb;replace HB:=kH HB hb;clear hb oA
           obtain ⟨cC,dC,iD⟩:=Kd.Q02 HO_217000.out
           (first|subst iD|(injection iD with xB gC yB;have hC:=xB.symm;have jC:=yB.symm;clear xB gC yB;subst hC;subst jC))
           obtain ⟨mC,nC,jD⟩:=Kd.Q02 gA.out
           (first|subst jD|(injection jD with xB gC yB;have hC:=xB.symm;have jC:=yB.symm;clear xB gC yB;subst hC;subst jC))
           refine hK.out _ _ ⟨bC aA,(hW HB rB :),(hW HB qB :),(hW HB pB :),(hW HB uB :),(hW HB tB :),(hW HB sB :)⟩ (fun hHeld => ?_)
           clear hK K;refine nP (some 34) ?_
           refine oQ 12 (some 35) HT_ rfl fun K hK => ?_
           refine gO Try.func19 #[.agg #[.slice cC cA.length dC],.agg #[.slice mC oB.length nC]] ?_
           with_reducible refine (Q1n.calls kj13 _ _ cA _ _ oB jA _ ?side1 ?side2 ?side3 ?side4 zF.out).mono ?_
           (case side1=>exact sR HO_217000)
           (case side2=>exact (Kd.Q0x HO_217000.out).2.1)
           (case side3=>exact sR gA)
           (case side4=>exact (Kd.Q0x gA.out).2.1)
           rintro e oC ⟨eG,rfl,oA,hb⟩
           refine ⟨_,rfl,?_⟩
           have iA:=AM (Kd.Q1a (Kd.Q21 (Kd.Q21 oA (Kd.R_lt (rK HO_217000))) (Kd.R_lt (rK gA))) (Q0h (bH HB)))
           replace HO_217000:=AM (Kd.Q2c (rK HO_217000) (Kd.Q2q oA) hb)
           replace gA:=AM (Kd.Q2c (rK gA) (Kd.Q2q oA) hb)
           replace bA:=kB bA hb;replace aA:=kB aA hb;replace HB:=kH HB hb;clear hb oA
           obtain ⟨mA,nA,kD⟩:=Kd.Q02 iA.out
           (first|subst kD|(injection kD with xB gC yB;have hC:=xB.symm;have jC:=yB.symm;clear xB gC yB;subst hC;subst jC))
           refine hK.out _ _ ⟨bC aA,(hW HB rB :),(hW HB qB :),(hW HB pB :),(hW HB uB :),(hW HB tB :),(hW HB sB :)⟩ (fun hHeld => ?_)
           clear hK K;refine nP (some 35) ?_
           refine last_ (i:=13) (N:=none) #[true,true,true,true,true,true,true,true,true,true,true,true,true,true] rfl rfl (Q86 HT_.out (by kernel_rfl)) (by decide) (fun K hK => ?_)
           have fG:oC.cell? ⟨hA,0,none⟩=some (.slice cC cA.length dC):=bC aA
           have mF:=Q0k aA.out 0
           have xD:=kA.out;have yD:=lA.out
           refine skip_ (w1 := ?_) (by rfl) rfl ?_ ?_
           rotate_left
           ·go_simp
            rfl
           refine hK.out _ _ ?_
           clear hK K
           refine done_ (Q2d HT_.out (by kernel_rfl)) ?_
           try go_wp2
           have oE:Aside0 (Kd.R (Kd.int .i64) 3 (oC.setCell ⟨hA,0,none⟩ (.slice mA jA.length nA)) w.heap.size (fun k_=>some k_≠(.slice mC oB.length nC:Value).ownBlock∧some k_≠(.slice mA jA.length nA:Value).ownBlock) (.slice cC cA.length dC) cA):=⟨by (with_reducible repeat (first|apply Kd.Q16|apply Kd.Q17|apply Kd.Q2p));exact Kd.Q1x (Kd.Q4a (p:=⟨hA,0,none⟩) (Kd.Q22 HO_217000.out aA.out (by decide)) (fun _ hk=>hk.2) (.slice mA jA.length nA)) (fun _ hk=>⟨hk.1.1.2,hk.1.2⟩)⟩
           have pE:Aside0 (Kd.R (Kd.int .i64) 3 (oC.setCell ⟨hA,0,none⟩ (.slice mA jA.length nA)) w.heap.size (fun k_=>some k_≠(.slice cC cA.length dC:Value).ownBlock∧some k_≠(.slice mA jA.length nA:Value).ownBlock) (.slice mC oB.length nC) oB):=⟨by (with_reducible repeat (first|apply Kd.Q16|apply Kd.Q17|apply Kd.Q2p));exact Kd.Q1x (Kd.Q4a (p:=⟨hA,0,none⟩) (Kd.Q22 gA.out aA.out (by decide)) (fun _ hk=>hk.2) (.slice mA jA.length nA)) (fun _ hk=>⟨hk.1.1.2,hk.1.2⟩)⟩
           have qE:Aside0 (Kd.R (Kd.int .i64) 3 (oC.setCell ⟨hA,0,none⟩ (.slice mA jA.length nA)) w.heap.size (fun k_=>some k_≠(.slice cC cA.length dC:Value).ownBlock∧some k_≠(.slice mC oB.length nC:Value).ownBlock) (.slice mA jA.length nA) jA):=⟨by (with_reducible repeat (first|apply Kd.Q16|apply Kd.Q17|apply Kd.Q2p));exact Kd.Q1x (Kd.Q4a (p:=⟨hA,0,none⟩) (Kd.Q22 iA.out aA.out (by decide)) (fun _ hk=>hk.2) (.slice mA jA.length nA)) (fun _ hk=>⟨hk.1.1.2,hk.1.2⟩)⟩
           have sE:Aside0 ((oC.setCell ⟨hA,0,none⟩ (.slice mA jA.length nA)).heap[lB]? = some (.cells #[.slice none 0 0] 43 (0,0))):=⟨bK bA⟩
           have tE:Aside0 ((oC.setCell ⟨hA,0,none⟩ (.slice mA jA.length nA)).heap[hA]? = some (.cells #[.slice mA jA.length nA] 43 (0,0))):=⟨by (with_reducible repeat (first|refine Q0c ?_ _|refine Q0e ?_|refine Q0b ?_ _));refine Q0t (cs:=#[.slice cC cA.length dC]) ?_ 0 _ rfl;(with_reducible repeat (first|refine Q0c ?_ _|refine Q0e ?_|refine Q0b ?_ _));exact aA.out⟩
           have uE:Aside0 (Below w.heap.size w (oC.setCell ⟨hA,0,none⟩ (.slice mA jA.length nA))):=⟨ bH HB⟩
           clear HO_217000 gA iA bA aA HB
           generalize (oC.setCell ⟨hA,0,none⟩ (.slice mA jA.length nA))=w32 at oE pE qE sE tE uE ⊢
           have HO_217000:=oE;have gA:=pE;have iA:=qE;have bA:=sE;have aA:=tE;have HB:=uE;clear oE pE qE sE tE uE;replace HO_217000:=dR HO_217000;replace gA:=dR gA;replace iA:=dR iA;replace bA:=dB bA;replace aA:=dB aA;replace HB:=dH HB
           have wC:0≤(eA:Int):=pD
           have xC:eA<(l0.length:Int):=pD
           obtain ⟨lD,vE,xA,yA,zA⟩:=Q2e aD.out eA wC xC
           have aB:=zA;have bB:=yA;have cB:=xA
           obtain rfl:fA=lD:=(by injection vE)
           replace xA:=hW HB xA;replace yA:=hW HB yA;replace zA:=hW HB zA;replace wC:=eq_true wC;replace xC:=eq_true xC
           have yC:0≤(dA:Int):=pD
           have zC:dA<(l0.length:Int):=pD
           obtain ⟨mD,wE,eB,fB,gB⟩:=Q2e aD.out dA yC zC
           have hB:=gB;have iB:=fB;have jB:=eB
           obtain rfl:fA=mD:=(by injection wE)
           replace eB:=hW HB eB;replace fB:=hW HB fB;replace gB:=hW HB gB;replace yC:=eq_true yC;replace zC:=eq_true zC
           refine sP 15 (S:=fun w'=>w'.cell? ⟨hA,0,none⟩=some (.slice mA jA.length nA)∧w'.cell? (fA.add ((eA).toNat*3))=some (.int .i64 ((Q0a l0 eA).f0))∧w'.cell? ⟨(fA.add ((eA).toNat*3)).block,(fA.add ((eA).toNat*3)).off+1,none⟩=some (.int .i64 ((Q0a l0 eA).f1))∧w'.cell? ⟨(fA.add ((eA).toNat*3)).block,(fA.add ((eA).toNat*3)).off+2,none⟩=some (.int .i64 ((Q0a l0 eA).f2))∧w'.cell? (fA.add ((dA).toNat*3))=some (.int .i64 ((Q0a l0 dA).f0))∧w'.cell? ⟨(fA.add ((dA).toNat*3)).block,(fA.add ((dA).toNat*3)).off+1,none⟩=some (.int .i64 ((Q0a l0 dA).f1))∧w'.cell? ⟨(fA.add ((dA).toNat*3)).block,(fA.add ((dA).toNat*3)).off+2,none⟩=some (.int .i64 ((Q0a l0 dA).f2))) (ds:=[14]) ⟨bC aA,(hW HB cB :),(hW HB bB :),(hW HB aB :),(hW HB jB :),(hW HB iB :),(hW HB hB :)⟩ fun hHeld => ?_;refine Q1l Q03.tab11 Q03.bits11 (fun HT_ HW_ => ?_)
           generalize w32.drew=w33 at HO_217000 gA iA bA aA HB xA yA zA eB fB gB hHeld ⊢
           refine pQ 1 (some 37) HT_ ?_;refine pQ 2 (some 38) HT_ ?_;refine pQ 3 (some 39) HT_ ?_;refine pQ 4 (some 40) HT_ ?_;refine pQ 6 (some 42) HT_ ?_;refine pQ 7 (some 43) HT_ ?_;refine pQ 8 (some 44) HT_ ?_;refine pQ 9 (some 45) HT_ ?_;refine tQ 0 (some 36) HT_ HW_ hHeld ?_;refine tQ 5 (some 41) HT_ HW_ hHeld ?_;refine tQ 10 (some 46) HT_ HW_ hHeld ?_
           refine oQ 11 (some 47) HT_ rfl fun K hK => ?_
           refine gO Try.func70 #[.int .i64 ((Q0a l0 eA).f1),.int .i64 ((Q0a l0 dA).f0)] ?_
           with_reducible refine (Q1p.calls kj13 ((Q0a l0 eA).f1) ((Q0a l0 dA).f0) eC _ aG.out).mono ?_
           rintro e oG ⟨gG,rfl,oA,hb⟩
           refine ⟨_,rfl,?_⟩
           have pA:=AM (Kd.Q1a (Kd.Q21 (Kd.Q21 (Kd.Q21 oA (Kd.R_lt (rK HO_217000))) (Kd.R_lt (rK gA))) (Kd.R_lt (rK iA))) (Q0h (bH HB)))
           replace HO_217000:=AM (Kd.Q2c (rK HO_217000) (Kd.Q2q oA) hb)
           replace gA:=AM (Kd.Q2c (rK gA) (Kd.Q2q oA) hb)
           replace iA:=AM (Kd.Q2c (rK iA) (Kd.Q2q oA) hb)
           replace bA:=kB bA hb;replace aA:=kB aA hb;replace HB:=kH HB hb;clear hb oA
           obtain ⟨xE,yE,nD⟩:=Kd.Q02 pA.out
           (first|subst nD|(injection nD with xB gC yB;have hC:=xB.symm;have jC:=yB.symm;clear xB gC yB;subst hC;subst jC))
           refine hK.out _ _ ⟨bC aA,(hW HB cB :),(hW HB bB :),(hW HB aB :),(hW HB jB :),(hW HB iB :),(hW HB hB :)⟩ (fun hHeld => ?_)
           clear hK K;refine nP (some 47) ?_
           refine oQ 12 (some 48) HT_ rfl fun K hK => ?_
           refine gO Try.func71 #[.agg #[.slice xE eC.length yE]] ?_
           with_reducible refine (Q2h.calls kj13 _ _ eC fC _ ?side1 ?side2 bG.out).mono ?_
           (case side1=>exact sR pA)
           (case side2=>exact (Kd.Q0x pA.out).2.1)
           rintro e pG ⟨hG,rfl,oA,hb⟩
           refine ⟨_,rfl,?_⟩
           have nB:=AM (Kd.Q1a (Kd.Q21 (Kd.Q21 (Kd.Q21 (Kd.Q21 oA (Kd.R_lt (rK HO_217000))) (Kd.R_lt (rK gA))) (Kd.R_lt (rK iA))) (Kd.R_lt (rK pA))) (Q0h (bH HB)))
           replace HO_217000:=AM (Kd.Q2c (rK HO_217000) (Kd.Q2q oA) hb)
           replace gA:=AM (Kd.Q2c (rK gA) (Kd.Q2q oA) hb)
           replace iA:=AM (Kd.Q2c (rK iA) (Kd.Q2q oA) hb)
           replace pA:=AM (Kd.Q2c (rK pA) (Kd.Q2q oA) hb)
           replace bA:=kB bA hb;replace aA:=kB aA hb;replace HB:=kH HB hb;clear hb oA
           obtain ⟨zE,aF,oD⟩:=Kd.Q02 nB.out
           (first|subst oD|(injection oD with xB gC yB;have hC:=xB.symm;have jC:=yB.symm;clear xB gC yB;subst hC;subst jC))
           refine hK.out _ _ ⟨bC aA,(hW HB cB :),(hW HB bB :),(hW HB aB :),(hW HB jB :),(hW HB iB :),(hW HB hB :)⟩ (fun hHeld => ?_)
           clear hK K;refine nP (some 48) ?_
           refine oQ 13 (some 49) HT_ rfl fun K hK => ?_
           refine gO Try.func19 #[.agg #[.slice mA jA.length nA],.agg #[.slice zE fC.length aF]] ?_
           with_reducible refine (Q1n.calls kj13 _ _ jA _ _ fC zB _ ?side1 ?side2 ?side3 ?side4 cG.out).mono ?_
           (case side1=>exact sR iA)
           (case side2=>exact (Kd.Q0x iA.out).2.1)
           (case side3=>exact sR nB)
           (case side4=>exact (Kd.Q0x nB.out).2.1)
           rintro e iG ⟨jG,rfl,oA,hb⟩
           refine ⟨_,rfl,?_⟩
           have pC:=AM (Kd.Q1a (Kd.Q21 (Kd.Q21 (Kd.Q21 (Kd.Q21 (Kd.Q21 oA (Kd.R_lt (rK HO_217000))) (Kd.R_lt (rK gA))) (Kd.R_lt (rK iA))) (Kd.R_lt (rK pA))) (Kd.R_lt (rK nB))) (Q0h (bH HB)))
           replace HO_217000:=AM (Kd.Q2c (rK HO_217000) (Kd.Q2q oA) hb)
           replace gA:=AM (Kd.Q2c (rK gA) (Kd.Q2q oA) hb)
           replace iA:=AM (Kd.Q2c (rK iA) (Kd.Q2q oA) hb)
           replace pA:=AM (Kd.Q2c (rK pA) (Kd.Q2q oA) hb)
           replace nB:=AM (Kd.Q2c (rK nB) (Kd.Q2q oA) hb)
           replace bA:=kB bA hb;replace aA:=kB aA hb;replace HB:=kH HB hb;clear hb oA
           obtain ⟨qD,rD,sD⟩:=Kd.Q02 pC.out
           (first|subst sD|(injection sD with xB gC yB;have hC:=xB.symm;have jC:=yB.symm;clear xB gC yB;subst hC;subst jC))
           refine hK.out _ _ ⟨bC aA,(hW HB cB :),(hW HB bB :),(hW HB aB :),(hW HB jB :),(hW HB iB :),(hW HB hB :)⟩ (fun hHeld => ?_)
           clear hK K;refine nP (some 49) ?_
           refine last_ (i:=14) (N:=none) #[true,true,true,true,true,true,true,true,true,true,true,true,true,true,true] rfl rfl (Q86 HT_.out (by kernel_rfl)) (by decide) (fun K hK => ?_)
           have lG:iG.cell? ⟨hA,0,none⟩=some (.slice mA jA.length nA):=bC aA
           have nF:=Q0k aA.out 0
           have zD:=kA.out;have aE:=lA.out
           refine skip_ (w1 := ?_) (by rfl) rfl ?_ ?_
           rotate_left
           ·go_simp
            rfl
           refine hK.out _ _ ?_
           clear hK K
           refine done_ (Q2d HT_.out (by kernel_rfl)) ?_
           try go_wp2
           go_roundg kj13
           case measure=>have:=wD.out;have:=gD.out;omega
           case rel=>exact ⟨(wrap64 (eA+1)),(zB),(.slice qD zB.length rD),rS,H',⟨by have:=wD.out;have:=gD.out;omega⟩,⟨by (with_reducible repeat (first|apply Kd.Q16|apply Kd.Q17|apply Kd.Q2p));exact Kd.Q1x (Kd.Q4a (p:=⟨hA,0,none⟩) (Kd.Q22 pC.out aA.out (by decide)) (fun _ hk=>hk.2) (.slice qD zB.length rD)) (fun _ hk=>trivial)⟩,⟨bK bA⟩,⟨by (with_reducible repeat (first|refine Q0c ?_ _|refine Q0e ?_|refine Q0b ?_ _));refine Q0t (cs:=#[.slice mA jA.length nA]) ?_ 0 _ rfl;(with_reducible repeat (first|refine Q0c ?_ _|refine Q0e ?_|refine Q0b ?_ _));exact aA.out⟩,⟨ bH HB⟩⟩
    ·(first|rw [vB]|(simp only [Q1s,Q13];rw [vB])|skip)
     obtain rfl:=Option.some.inj H
     have oF:=lA.out;have pF:=kA.out;obtain ⟨cE,dE⟩:=c1 aA
     obtain ⟨tD,uD,bF⟩:=Kd.Q02 HO_217000.out
     subst bF
     obtain ⟨eE,fE⟩:=c1 bA
     go_wp2
     refine bodyPost_ret (results_cell_row rfl _ _ lB 43 #[.slice tD cA.length uD] (0,0) _ rfl (by (with_reducible repeat (first|refine Q0c ?_ _|refine Q0e ?_|refine Q0b ?_ _));refine Q0t (cs:=#[.slice none 0 0]) ?_ 0 _ rfl;(with_reducible repeat (first|refine Q0c ?_ _|refine Q0e ?_|refine Q0b ?_ _));exact bA.out) Try.underlying43 rfl (by kernel_rfl)) rfl ?_
     exact ⟨_,rE,by (with_reducible repeat (first|apply Kd.Q16|apply Kd.Q17|apply Kd.Q2p));exact Kd.Q1x (Kd.Q4a (p:=⟨lB,0,none⟩) (Kd.Q22 HO_217000.out bA.out (by decide)) (fun _ hk=>hk.2) (.slice tD cA.length uD)) (fun _ hk=>trivial),bH HB⟩
 ·replace vD:=Bool.eq_false_iff.mpr vD
  subst vD
  replace H:=iF H
  obtain rfl:=Option.some.inj H
  have qF:=lA.out;have rF:=kA.out;obtain ⟨gE,hE⟩:=c1 aA;obtain ⟨iE,jE⟩:=c1 bA
  go_wp2
  refine bodyPost_ret (results_cell_row rfl _ _ lB 43 #[.slice dD qA.length eD] (0,0) _ rfl (by (with_reducible repeat (first|refine Q0c ?_ _|refine Q0e ?_|refine Q0b ?_ _));refine Q0t (cs:=#[.slice none 0 0]) ?_ 0 _ rfl;(with_reducible repeat (first|refine Q0c ?_ _|refine Q0e ?_|refine Q0b ?_ _));exact bA.out) Try.underlying43 rfl (by kernel_rfl)) rfl ?_
  exact ⟨_,rE,by (with_reducible repeat (first|apply Kd.Q16|apply Kd.Q17|apply Kd.Q2p));exact Kd.Q1x (Kd.Q4a (p:=⟨lB,0,none⟩) (Kd.Q22 mB.out bA.out (by decide)) (fun _ hk=>hk.2) (.slice dD qA.length eD)) (fun _ hk=>trivial),bH HB⟩

def Q2s.f (k:Nat) (dA:List (List (S27))) (bA:List (List Int)) (eA:List (List Int)) (a1:Int):Option (List Int):=if 0≤a1 then (if a1<(bA.length:Int) then ((Q0f.f k dA bA eA (Q09 bA a1)).bind fun oA=>((Q03.f k oA.1).bind fun hA=>(some hA))) else (none)) else (none)
theorem Q2s.mono:∀ a0 a1 a2 a3 k,LeO (Q2s.f k a0 a1 a2 a3) (Q2s.f (k+1) a0 a1 a2 a3):=by
 intro a0 a1 a2 a3 k
 unfold Q2s.f
 repeat' with_reducible first|exact Q03.mono _ _|exact Q0f.mono _ _ _ _ _|exact LeO.refl _|exact LeO.none _|refine LeO.ite ?_ ?_|refine LeO.bind ?_ (fun _ => ?_)
def Q2s.T1:Bool×List (List Nat×List Nat):=(true,[([],[]),([],[]),([1],[1]),([],[]),([2,3],[2,3]),([4],[4]),([0,5],[0,5]),([6],[6]),([7],[7]),([7],[7]),([8,6,0,1,2,3,4,5,6,7,8],[8]),([9,10,0,1,2,3,4,5,6,7,8,9,10],[9])])
def Q2s.B1:List Nat:=[0,0,2,0,14,30,63,127,255,255,511,2047]
theorem Q2s.tab1:rtab .any (opsOf Try.f20 1)=Q2s.T1:=by kernel_rfl
theorem Q2s.bits1:waitsOk Q2s.T1.2 Q2s.B1=true:=by kernel_rfl
set_option maxHeartbeats 8000000 in
set_option maxRecDepth 100000 in
theorem Q2s.calls (k:Nat) (pA:Option Addr) (qA:Nat) (dA:List (List (S27))) (jB:Option Addr) (rA:Nat) (bA:List (List Int)) (sA:Option Addr) (tA:Nat) (eA:List (List Int)) (a1:Int) (r:List Int) (w:World) (zA:Kd.C (Kd.slice 27 k27) w pA dA.length dA) (aB:dA.length≤qA) (bB:Kd.C (Kd.slice 3 (Kd.int .i64)) w jB bA.length bA) (cB:bA.length≤rA) (eB:Kd.C (Kd.slice 3 (Kd.int .i64)) w sA eA.length eA) (fB:eA.length≤tA) (h:Q2s.f k dA bA eA a1=some r) :
  Calls Try.prog 20 #[.agg #[.slice pA dA.length qA,.slice jB bA.length rA,.slice sA eA.length tA],.int .i64 a1] w fun e w'=>∃ v0_:Value,e=.returned (.agg #[v0_])∧Kd.R (Kd.int .i64) 3 w' w.heap.size (fun _=>True) v0_ r∧Below w.heap.size w w':=by
 have lC:=Try.underlying25
 have mC:=Try.underlying43
 have oB:=AM zA
 have pB:=AM aB
 clear zA aB
 have gB:=AM bB
 have qB:=AM cB
 clear bB cB
 have rB:=AM eB
 have sB:=AM fB
 clear eB fB
 have HB:=AM (Below.refl w.heap.size w)
 have H:(if 0≤a1 then (if a1<(bA.length:Int) then ((Q0f.f k dA bA eA (Q09 bA a1)).bind fun oA=>((Q03.f k oA.1).bind fun hA=>(some hA))) else (none)) else (none))=some r:=h
 clear h
 apply iN H;clear H;intro nC H
 ·apply iN H;clear H;intro oC H
  ·obtain ⟨⟨lB,aC⟩,A5,H⟩:=bS H
   try dsimp only at H
   obtain ⟨hA,A6,H⟩:=bS H
   obtain rfl:=Option.some.inj H
   go_enter Try.func20,Try.ntmps20
   try go_wp2_with (first|((with_reducible refine Q0i (N:=2) rfl ?_);refine bE 2 #[.slice pA dA.length qA,.slice jB bA.length rA,.slice sA eA.length tA] 25 ?_;intro uA hg w7 hbox hb;have aA:=AM hbox;have tB:=kG HB hg;replace HB:=kH HB hb;have hC:=tB;clear hb hbox hg)|((with_reducible refine Q0i (N:=4) rfl ?_);refine bE 4 #[.slice none 0 0] 43 ?_;intro hB hg w8 hbox hb;have cA:=AM hbox;have uB:=kG HB hg;replace HB:=kH HB hb;have iC:=uB;have mA:=kN aA hg;have nA:=kM aA hg;replace aA:=kB aA hb;clear hb hbox hg))
   replace aA:=dB aA;replace cA:=dB cA;replace HB:=dH HB
   have mB:0≤(a1:Int):=pD
   have nB:a1<(bA.length:Int):=pD
   obtain ⟨vA,wA,xA,cC,fA,iA,jA⟩:=Q3g gB.out a1 mB nB
   have kA:=fA
   cases cC
   replace fA:=hW HB fA
   have lA:=AM jA
   have yA:=AM iA
   clear jA iA;replace mB:=eq_true mB;replace nB:=eq_true nB
   refine sP 12 (S:=fun w'=>w'.cell? ⟨uA,0,none⟩=some (.slice pA dA.length qA)∧w'.cell? ⟨uA,1,none⟩=some (.slice (some vA) bA.length rA)∧w'.cell? ⟨uA,2,none⟩=some (.slice sA eA.length tA)∧w'.cell? (vA.add (a1).toNat)=some (.slice wA (Q09 bA a1).length xA)) (ds:=[]) ⟨bC aA,bC aA,bC aA,(hW HB kA :)⟩ fun hHeld => ?_;refine Q1l Q2s.tab1 Q2s.bits1 (fun HT_ HW_ => ?_)
   generalize w8.drew=w9 at aA cA HB lA fA hHeld ⊢
   refine pQ 1 (some 9) HT_ ?_;refine pQ 3 (some 11) HT_ ?_;refine tQ 0 (some 8) HT_ HW_ hHeld ?_;refine tQ 2 (some 10) HT_ HW_ hHeld ?_;refine pQ 4 (some 12) HT_ ?_;refine tQ 5 (some 13) HT_ HW_ hHeld ?_
   refine oQ 6 (some 14) HT_ rfl fun K hK => ?_
   refine gO Try.func35 #[.agg #[.slice pA dA.length qA,.slice (some vA) bA.length rA,.slice sA eA.length tA],.slice wA (Q09 bA a1).length xA] ?_
   with_reducible refine (Q0f.calls k _ _ dA _ _ bA _ _ eA _ _ (Q09 bA a1) lB aC _ ?side1 ?side2 ?side3 ?side4 ?side5 ?side6 ?side7 ?side8 A5.out).mono ?_
   (case side1=>exact sC oB HB)
   (case side2=>exact pB.out)
   (case side3=>exact sC gB HB)
   (case side4=>exact qB.out)
   (case side5=>exact sC rB HB)
   (case side6=>exact sB.out)
   (case side7=>exact sC lA HB)
   (case side8=>exact yA.out)
   rintro e rC ⟨pC,rfl,vB,hb⟩
   refine ⟨_,rfl,?_⟩
   have gA:=AM (Kd.Q1a vB (Q0h (bH HB)))
   replace aA:=kB aA hb;replace cA:=kB cA hb;replace HB:=kH HB hb;clear hb vB
   refine hK.out _ _ ⟨bC aA,bC aA,bC aA,(hW HB kA :)⟩ (fun hHeld => ?_)
   clear hK K;refine nP (some 14) ?_;refine pQ 7 (some 7) HT_ ?_;refine pQ 8 (some 15) HT_ ?_;refine pQ 9 (some 16) HT_ ?_;refine pQ 10 (some 5) HT_ ?_;refine pQ 11 (some 6) HT_ ?_
   refine done_ (Q2d HT_.out (by kernel_rfl)) ?_
   obtain ⟨dC,eC,fC⟩:=Kd.Q02 gA.out
   subst fC
   try go_wp2_with (first|((with_reducible refine Q0o (f:=48) rfl ?_);refine gL (some 18) Try.func48 #[.slice dC lB.length eC] ?_;(with_reducible refine (Q03.calls k _ _ lB hA _ ?side1 ?side2 A6.out).mono ?_);(case side1=>exact sR gA);(case side2=>exact (Kd.Q0x gA.out).2.1);rintro e tC ⟨qC,rfl,vB,hb⟩;refine ⟨_,rfl,?_⟩;replace gA:=kR gA hb;have iB:=AM (Kd.Q1a vB (Q0h (bH HB)));replace aA:=kB aA hb;replace cA:=kB cA hb;replace HB:=kH HB hb;clear hb vB;obtain ⟨wB,xB,gC⟩:=Kd.Q02 iB.out;subst gC;have jC:=nA.out;have kC:=mA.out;obtain ⟨yB,zB⟩:=c1 cA))
   refine bodyPost_ret (results_cell_row rfl _ _ hB 43 #[.slice wB hA.length xB] (0,0) _ rfl (by (with_reducible repeat (first|refine Q0c ?_ _|refine Q0e ?_|refine Q0b ?_ _));refine Q0t (cs:=#[.slice none 0 0]) ?_ 0 _ rfl;(with_reducible repeat (first|refine Q0c ?_ _|refine Q0e ?_|refine Q0b ?_ _));exact cA.out) Try.underlying43 rfl (by kernel_rfl)) rfl ?_
   exact ⟨_,rE,by (with_reducible repeat (first|apply Kd.Q16|apply Kd.Q17|apply Kd.Q2p));exact Kd.Q1x (Kd.Q4a (p:=⟨hB,0,none⟩) (Kd.Q22 iB.out cA.out (by decide)) (fun _ hk=>hk.2) (.slice wB hA.length xB)) (fun _ hk=>trivial),bH HB⟩

mutual
def Q1h.l0:Nat→Int→List Int→List Int→Option (Int)
 | 0,_,_,_=>none
 | k+1,x5,x248000,x249000=>if x5≥0 then (if 0≤x5 then (if x5<(x248000.length:Int) then (if x5<(x249000.length:Int) then (if x5=7 then (Q1h.j1 k x5 (Int.tmod (wrap64 ((rd x248000 x5)+32768)) 65536) (Int.tmod (wrap64 ((rd x249000 x5)+32768)) 65536) x248000 x249000) else (Q1h.j1 k x5 (rd x248000 x5) (rd x249000 x5) x248000 x249000)) else (none)) else (none)) else (none)) else (some 0)
def Q1h.j1:Nat→Int→Int→Int→List Int→List Int→Option (Int)
 | 0,_,_,_,_,_=>none
 | k+1,x5,x6,x7,x248000,x249000=>if x6<x7 then (some (-1)) else (if x6>x7 then (some 1) else (Q1h.l0 k (wrap64 (x5 - 1)) x248000 x249000))
end
def Q1h.f (k:Nat) (cA:List Int) (dA:List Int):Option (Int):=Q1h.l0 k 7 cA dA
theorem Q1h.Q08:∀ k,(∀ y0 y1 y2,LeO (Q1h.l0 k y0 y1 y2) (Q1h.l0 (k+1) y0 y1 y2))∧(∀ y0 y1 y2 y3 y4,LeO (Q1h.j1 k y0 y1 y2 y3 y4) (Q1h.j1 (k+1) y0 y1 y2 y3 y4))
 | 0=>⟨fun _ _ _ r h=>by simp [Q1h.l0] at h,fun _ _ _ _ _ r h=>by simp [Q1h.j1] at h⟩
 | k+1=>by
  obtain ⟨oB,pB⟩:=Q1h.Q08 k
  refine ⟨?_,?_⟩
  all_goals
   intros
   first|unfold Q1h.l0|unfold Q1h.j1
   repeat' with_reducible first|exact oB _ _ _|exact pB _ _ _ _ _|exact LeO.refl _|exact LeO.none _|refine LeO.ite ?_ ?_|refine LeO.bind ?_ (fun _ => ?_)
theorem Q1h.mono:∀ a0 a1 k,LeO (Q1h.f k a0 a1) (Q1h.f (k+1) a0 a1):=by
 intro a0 a1 k
 obtain ⟨oB,pB⟩:=Q1h.Q08 k
 unfold Q1h.f
 repeat' with_reducible first|exact oB _ _ _|exact pB _ _ _ _ _|exact LeO.refl _|exact LeO.none _|refine LeO.ite ?_ ?_|refine LeO.bind ?_ (fun _ => ?_)
set_option maxHeartbeats 8000000 in
set_option maxRecDepth 100000 in
theorem Q1h.calls (k:Nat) (mA:Option Addr) (kA:Nat) (cA:List Int) (nA:Option Addr) (lA:Nat) (dA:List Int) (r:Int) (w:World) (wA:Kd.C (Kd.int .i64) w mA cA.length cA) (xA:cA.length≤kA) (yA:Kd.C (Kd.int .i64) w nA dA.length dA) (zA:dA.length≤lA) (h:Q1h.f k cA dA=some r) :
  Calls Try.prog 49 #[.agg #[.slice mA cA.length kA],.agg #[.slice nA dA.length lA]] w fun e w'=>e=.returned (.int .i64 r)∧Below w.heap.size w w':=by
 have gC:=Try.underlying43
 have fB:=AM wA
 have xB:=AM xA
 clear wA xA
 have gB:=AM yA
 have yB:=AM zA
 clear yA zA
 have HB:=AM (Below.refl w.heap.size w)
 have H:(Q1h.l0 k 7 cA dA)=some r:=h
 clear h
 have H':=AM H
 clear H
 go_enter Try.func49,Try.ntmps49
 go_wp2_with (first|((with_reducible refine Q0i (N:=2) rfl ?_);refine bE 2 #[.slice mA cA.length kA] 43 ?_;intro aB hg w3 hbox hb;have bA:=AM hbox;have hB:=kG HB hg;replace HB:=kH HB hb;have zB:=hB;clear hb hbox hg)|((with_reducible refine Q0i (N:=3) rfl ?_);refine bE 3 #[.slice nA dA.length lA] 43 ?_;intro bB hg w4 hbox hb;have eA:=AM hbox;have iB:=kG HB hg;replace HB:=kH HB hb;have aC:=iB;have iA:=kN bA hg;have jA:=kM bA hg;replace bA:=kB bA hb;clear hb hbox hg))
 go_loopg [5] k (fun kq v5 w'=>∃ (aA:Int),v5=.int .i64 aA∧Aside0 (Q1h.l0 kq aA cA dA=some r)∧Aside0 (kq≤k)∧Aside0 (w'.heap[aB]? = some (.cells #[(.slice mA cA.length kA)] 43 (0,0)))∧Aside0 (w'.heap[bB]? = some (.cells #[(.slice nA dA.length lA)] 43 (0,0)))∧Aside0 (Below w.heap.size w w'))
 case atStart=>exact ⟨(7),rS,H',⟨Nat.le_refl _⟩,⟨bK bA⟩,⟨bK eA⟩,⟨ bH HB⟩⟩
 case round =>
  clear H'
  obtain ⟨aA,rfl,HA,nB,bA,eA,HB⟩:=hrel
  cases gk with
  | zero=>exact absurd HA.out (by simp [Q1h.l0])
  | succ k1 =>
   have H:=HA.out;clear HA
   simp only [Q1h.l0] at H
   apply iC H<;>clear H<;>intro qB H
   ·apply iN H;clear H;intro rB H
    ·apply iN H;clear H;intro sB H
     ·apply iN H;clear H;intro tB H
      ·have uB:=AM H
       clear H;have bC:=iA.out;have cC:=jA.out;obtain ⟨oA,pA⟩:=c1 bA
       have qA:0≤(aA:Int):=pD
       have rA:aA<(cA.length:Int):=pD
       obtain ⟨jB,vB,fA⟩:=Kd.Q2j fB.out aA qA rA
       cases vB
       replace fA:=hW HB fA;replace qA:=eq_true qA;replace rA:=eq_true rA;obtain ⟨sA,tA⟩:=c1 eA
       have uA:0≤(aA:Int):=pD
       have vA:aA<(dA.length:Int):=pD
       obtain ⟨lB,wB,gA⟩:=Kd.Q2j gB.out aA uA vA
       cases wB
       replace gA:=hW HB gA;replace uA:=eq_true uA;replace vA:=eq_true vA
       go_upto_if 23 with (fail)
       go_cut [6,7] (fun v6 v7 wc=>∃ (kq:Nat) (cB:Int) (dB:Int),v6=.int .i64 cB∧v7=.int .i64 dB∧Aside0 (Q1h.j1 kq aA cB dB cA dA=some r)∧Aside0 (kq≤k1)∧Aside0 (wc.heap[aB]? = some (.cells #[(.slice (some jB) cA.length kA)] 43 (0,0)))∧Aside0 (wc.heap[bB]? = some (.cells #[(.slice (some lB) dA.length lA)] 43 (0,0)))∧Aside0 (Below w.heap.size w wc))
       case first =>
        have H:=uB.out;clear uB
        by_cases eB:aA=7
        ·rw [if_pos eB] at H
         have hA:(aA==7)=true:=beq_iff_eq.mpr eB
         have mB:(aA != 7)=false:=bne_eq_false_iff_eq.mpr eB
         clear eB
         (first|rw [hA]|(simp only [Q1s,Q13];rw [hA])|skip)
         have H':=AM H
         clear H
         go_wp2
         go_meet
         case rel=>exact ⟨_,(Int.tmod (wrap64 ((rd cA aA)+32768)) 65536),(Int.tmod (wrap64 ((rd dA aA)+32768)) 65536),rS,rS,H',⟨by have:=nB.out;first|omega|exact Nat.le_refl _⟩,⟨bK bA⟩,⟨bK eA⟩,⟨ bH HB⟩⟩
        ·rw [if_neg eB] at H
         have hA:(aA==7)=false:=beq_eq_false_iff_ne.mpr eB
         have mB:(aA != 7)=true:=bne_iff_ne.mpr eB
         (first|rw [hA]|(simp only [Q1s,Q13];rw [hA])|skip)
         have H':=AM H
         clear H
         go_wp2
         go_meet
         case rel=>exact ⟨_,(rd cA aA),(rd dA aA),rS,rS,H',⟨by have:=nB.out;first|omega|exact Nat.le_refl _⟩,⟨bK bA⟩,⟨bK eA⟩,⟨ bH HB⟩⟩
       case rest =>
        clear uB qB rB sB tB oA sA pA tA fA gA qA uA rA vA
        obtain ⟨kq,cB,dB,rfl,rfl,HA,dC,bA,eA,HB⟩:=hcut
        cases kq with
        | zero=>exact absurd HA.out (by simp [Q1h.j1])
        | succ kj8 =>
         have H:=HA.out;clear HA
         simp only [Q1h.j1] at H
         apply iC H<;>clear H<;>intro eC H
         ·obtain rfl:=Option.some.inj H
          go_wp2
          go_ret
          exact ⟨rE,bH HB⟩
         ·apply iC H<;>clear H<;>intro fC H
          ·obtain rfl:=Option.some.inj H
           go_wp2
           go_ret
           exact ⟨rE,bH HB⟩
          ·have H':=AM H
           clear H
           go_wp2
           go_roundg kj8
           case measure=>have:=nB.out;have:=dC.out;omega
           case rel=>exact ⟨(wrap64 (aA - 1)),rS,H',⟨by have:=nB.out;have:=dC.out;omega⟩,⟨bK bA⟩,⟨bK eA⟩,⟨ bH HB⟩⟩
   ·obtain rfl:=Option.some.inj H
    go_wp2
    go_ret
    exact ⟨rE,bH HB⟩

def Q1c.f (k:Nat) (dA:Int) (eA:Int) (kA:Int) (gA:Int) (hA:Int) (lA:Int) (iA:Int) (jA:Int) (mA:Int):Option (Int):=(Q0u.f k (([(⟨dA,eA,kA⟩:S27),(⟨gA,hA,lA⟩:S27),(⟨iA,jA,mA⟩:S27)]:List (S27)))).bind fun qA=>(if qA=true then ((Q1p.f k (wrap64 (gA - dA)) (wrap64 (jA - eA))).bind fun oA=>((Q1p.f k (wrap64 (hA - eA)) (wrap64 (iA - dA))).bind fun pA=>((Q1h.f k oA pA).bind fun tA=>(some tA)))) else (some 0))
theorem Q1c.mono:∀ a0 a1 a2 a3 a4 a5 a6 a7 a8 k,LeO (Q1c.f k a0 a1 a2 a3 a4 a5 a6 a7 a8) (Q1c.f (k+1) a0 a1 a2 a3 a4 a5 a6 a7 a8):=by
 intro a0 a1 a2 a3 a4 a5 a6 a7 a8 k
 unfold Q1c.f
 repeat' with_reducible first|exact Q1h.mono _ _ _|exact Q0u.mono _ _|exact Q1p.mono _ _ _|exact LeO.refl _|exact LeO.none _|refine LeO.ite ?_ ?_|refine LeO.bind ?_ (fun _ => ?_)
def Q1c.T3:Bool×List (List Nat×List Nat):=(true,[([],[]),([0],[0]),([],[]),([2],[2]),([1,3],[1,3]),([],[]),([5],[5]),([],[]),([7],[7]),([6,8],[6,8]),([4,9],[4,9]),([],[]),([11],[11]),([],[]),([13],[13]),([12,14],[12,14]),([],[]),([16],[16]),([],[]),([18],[18]),([17,19],[17,19]),([15,20,10],[15,20]),([10,21,21],[10,21]),([22,22,0,1,2,3,4,5,6,7,8,9,10,11,12,13,14,15,16,17,18,19,20,21,22],[22])])
def Q1c.B3:List Nat:=[0,1,0,4,15,0,32,0,128,480,1023,0,2048,0,8192,30720,0,65536,0,262144,983040,2097151,4194303,8388607]
theorem Q1c.tab3:rtab .any (opsOf Try.f63 3)=Q1c.T3:=by kernel_rfl
theorem Q1c.bits3:waitsOk Q1c.T3.2 Q1c.B3=true:=by kernel_rfl
set_option maxHeartbeats 8000000 in
set_option maxRecDepth 100000 in
theorem Q1c.calls (k:Nat) (dA:Int) (eA:Int) (kA:Int) (gA:Int) (hA:Int) (lA:Int) (iA:Int) (jA:Int) (mA:Int) (r:Int) (w:World) (h:Q1c.f k dA eA kA gA hA lA iA jA mA=some r) :
  Calls Try.prog 63 #[.agg #[.int .i64 dA,.int .i64 eA,.int .i64 kA],.agg #[.int .i64 gA,.int .i64 hA,.int .i64 lA],.agg #[.int .i64 iA,.int .i64 jA,.int .i64 mA]] w fun e w'=>e=.returned (.int .i64 r)∧Below w.heap.size w w':=by
 have dD:=Try.underlying27
 have HB:=AM (Below.refl w.heap.size w)
 have H:((Q0u.f k (([(⟨dA,eA,kA⟩:S27),(⟨gA,hA,lA⟩:S27),(⟨iA,jA,mA⟩:S27)]:List (S27)))).bind fun qA=>(if qA=true then ((Q1p.f k (wrap64 (gA - dA)) (wrap64 (jA - eA))).bind fun oA=>((Q1p.f k (wrap64 (hA - eA)) (wrap64 (iA - dA))).bind fun pA=>((Q1h.f k oA pA).bind fun tA=>(some tA)))) else (some 0)))=some r:=h
 clear h
 obtain ⟨gB,rA⟩:∃ y_:List (S27),y_=(([(⟨dA,eA,kA⟩:S27),(⟨gA,hA,lA⟩:S27),(⟨iA,jA,mA⟩:S27)]:List (S27))):=⟨_,rfl⟩
 replace H:((Q0u.f k gB).bind fun qA=>(if qA=true then ((Q1p.f k (wrap64 (gA - dA)) (wrap64 (jA - eA))).bind fun oA=>((Q1p.f k (wrap64 (hA - eA)) (wrap64 (iA - dA))).bind fun pA=>((Q1h.f k oA pA).bind fun tA=>(some tA)))) else (some 0)))=some r:=by first|(rw [rA];with_reducible exact H)|(have kC:=(Option.bind_some _ _).symm.trans H;rw [rA];with_reducible exact kC)|(have kC:=(Option.bind_some _ _).symm.trans H;with_reducible exact kC)|with_reducible exact H|(rw [rA];exact H)|exact H
 have fB:=AM rA
 clear rA
 obtain ⟨qA,A4,H⟩:=bS H
 have vC:=AM H
 clear H
 go_enter Try.func63,Try.ntmps63
 go_upto_if 12 with (first|((with_reducible refine Q0i (N:=3) rfl ?_);refine bE 3 #[.int .i64 dA,.int .i64 eA,.int .i64 kA] 27 ?_;intro uA hg w6 hbox hb;have aA:=AM hbox;have iB:=kG HB hg;replace HB:=kH HB hb;have wC:=iB;clear hb hbox hg)|((with_reducible refine Q0i (N:=4) rfl ?_);refine bE 4 #[.int .i64 gA,.int .i64 hA,.int .i64 lA] 27 ?_;intro vA hg w7 hbox hb;have bA:=AM hbox;have jB:=kG HB hg;replace HB:=kH HB hb;have xC:=jB;have xA:=kN aA hg;have yA:=kM aA hg;replace aA:=kB aA hb;clear hb hbox hg)|((with_reducible refine Q0i (N:=5) rfl ?_);refine bE 5 #[.int .i64 iA,.int .i64 jA,.int .i64 mA] 27 ?_;intro wA hg w8 hbox hb;have cA:=AM hbox;have lB:=kG HB hg;replace HB:=kH HB hb;have yC:=lB;have zA:=kN aA hg;have aB:=kM aA hg;replace aA:=kB aA hb;have bB:=kN bA hg;have cB:=kM bA hg;replace bA:=kB bA hb;clear hb hbox hg;have eD:=xA.out;have fD:=yA.out;have zC:=zA.out;have aD:=aB.out;obtain ⟨qB,rB,sB,tB,uB,vB⟩:=c3 aA;have bD:=bB.out;have cD:=cB.out;obtain ⟨wB,xB,yB,zB,aC,cC⟩:=c3 bA;obtain ⟨dC,eC,fC,gC,hC,iC⟩:=c3 cA)|((with_reducible refine Q0i (N:=10) rfl ?_);refine Kd.Q4r k27 _ 27 ?hg (N:=10) ?hd (xs:=([(⟨dA,eA,kA⟩:S27),(⟨gA,hA,lA⟩:S27),(⟨iA,jA,mA⟩:S27)]:List (S27))) (inner:=[.int .i64 dA,.int .i64 eA,.int .i64 kA,.int .i64 gA,.int .i64 hA,.int .i64 lA,.int .i64 iA,.int .i64 jA,.int .i64 mA]) (ok:=fun _=>True) (okp:=fun _=>True) ?hr ?hp (fun _ hk=>hk) trivial (Below.refl _ _) (Nat.le_refl _) (by simp) ?_;(case hd=>rfl);(case hg=>rfl);(case hr=>first|(go_simp;done)|(go_simp;rfl));(case hp=>exact (Reps.c3 (show Kd.M k27 _ _ _ (⟨dA,eA,kA⟩:S27) [.int .i64 dA,.int .i64 eA,.int .i64 kA] from (Q2o _ _ _ (⟨dA,eA,kA⟩:S27) )) (Reps.c3 (show Kd.M k27 _ _ _ (⟨gA,hA,lA⟩:S27) [.int .i64 gA,.int .i64 hA,.int .i64 lA] from (Q2o _ _ _ (⟨gA,hA,lA⟩:S27) )) (Reps.c3 (show Kd.M k27 _ _ _ (⟨iA,jA,mA⟩:S27) [.int .i64 iA,.int .i64 jA,.int .i64 mA] from (Q2o _ _ _ (⟨iA,jA,mA⟩:S27) )) (Reps.none _ _)))));intro gD nD eB hb hg_ hnew_;clear hg_ hnew_;(first|rw [← fB.out] at eB|(simp only [Int.reduceToNat] at eB;rw [← fB.out] at eB));have fA:=AM (Kd.Q1a (Kd.Q2v (Kd.Q2v (Kd.Q2v eB (g:=uA) (o:=.cells #[.int .i64 dA,.int .i64 eA,.int .i64 kA] 27 (0,0)) (bK aA)) (g:=vA) (o:=.cells #[.int .i64 gA,.int .i64 hA,.int .i64 lA] 27 (0,0)) (bK bA)) (g:=wA) (o:=.cells #[.int .i64 iA,.int .i64 jA,.int .i64 mA] 27 (0,0)) (bK cA)) (Q0h (bH HB)));replace aA:=kB aA hb;replace bA:=kB bA hb;replace cA:=kB cA hb;replace HB:=kH HB hb;clear hb eB;obtain ⟨lC,mC,nC⟩:=Kd.Q02 fA.out;subst nC)|((with_reducible refine Q0o (f:=22) rfl ?_);refine gL (some 11) Try.func22 #[.slice lC gB.length mC] ?_;(with_reducible refine (Q0u.calls k _ _ gB qA _ ?side1 ?side2 A4.out).mono ?_);(case side1=>exact sR fA);(case side2=>exact (Kd.Q0x fA.out).2.1);rintro e hD ⟨rfl,hb⟩;refine ⟨_,rfl,?_⟩;replace fA:=kR fA hb;replace aA:=kB aA hb;replace bA:=kB bA hb;replace cA:=kB cA hb;replace HB:=kH HB hb;clear hb))
 (try simp only [Act.put,List.setIfInBounds_toArray,List.set_cons_zero,List.set_cons_succ])
 have H:=vC.out;clear vC
 by_cases jC:qA=true
 ·subst jC
  replace H:=iT H
  obtain ⟨oA,iD,H⟩:=bS H
  obtain ⟨pA,jD,H⟩:=bS H
  obtain ⟨tA,kD,H⟩:=bS H
  obtain rfl:=Option.some.inj H
  try go_wp2
  replace fA:=dR fA;replace aA:=dB aA;replace bA:=dB bA;replace cA:=dB cA;replace HB:=dH HB
  refine sP 24 (S:=fun w'=>w'.cell? ⟨vA,0,none⟩=some (.int .i64 gA)∧w'.cell? ⟨vA,1,none⟩=some (.int .i64 hA)∧w'.cell? ⟨vA,2,none⟩=some (.int .i64 lA)∧w'.cell? ⟨uA,0,none⟩=some (.int .i64 dA)∧w'.cell? ⟨uA,1,none⟩=some (.int .i64 eA)∧w'.cell? ⟨uA,2,none⟩=some (.int .i64 kA)∧w'.cell? ⟨wA,0,none⟩=some (.int .i64 iA)∧w'.cell? ⟨wA,1,none⟩=some (.int .i64 jA)∧w'.cell? ⟨wA,2,none⟩=some (.int .i64 mA)) (ds:=[]) ⟨bC bA,bC bA,bC bA,bC aA,bC aA,bC aA,bC cA,bC cA,bC cA⟩ fun hHeld => ?_;refine Q1l Q1c.tab3 Q1c.bits3 (fun HT_ HW_ => ?_)
  generalize hD.drew=w23 at fA aA bA cA HB hHeld ⊢
  refine pQ 0 (some 13) HT_ ?_;refine pQ 2 (some 15) HT_ ?_;refine pQ 5 (some 18) HT_ ?_;refine pQ 7 (some 20) HT_ ?_;refine pQ 11 (some 24) HT_ ?_;refine pQ 13 (some 26) HT_ ?_;refine pQ 16 (some 29) HT_ ?_;refine pQ 18 (some 31) HT_ ?_;refine tQ 1 (some 14) HT_ HW_ hHeld ?_;refine tQ 3 (some 16) HT_ HW_ hHeld ?_;refine pQ 4 (some 17) HT_ ?_;refine tQ 6 (some 19) HT_ HW_ hHeld ?_;refine tQ 8 (some 21) HT_ HW_ hHeld ?_;refine pQ 9 (some 22) HT_ ?_;refine tQ 12 (some 25) HT_ HW_ hHeld ?_;refine tQ 14 (some 27) HT_ HW_ hHeld ?_;refine pQ 15 (some 28) HT_ ?_;refine tQ 17 (some 30) HT_ HW_ hHeld ?_;refine tQ 19 (some 32) HT_ HW_ hHeld ?_;refine pQ 20 (some 33) HT_ ?_
  refine oQ 10 (some 23) HT_ rfl fun K hK => ?_
  refine gO Try.func70 #[.int .i64 (wrap64 (gA - dA)),.int .i64 (wrap64 (jA - eA))] ?_
  with_reducible refine (Q1p.calls k (wrap64 (gA - dA)) (wrap64 (jA - eA)) oA _ iD.out).mono ?_
  rintro e oD ⟨lD,rfl,hB,hb⟩
  refine ⟨_,rfl,?_⟩
  replace fA:=kR fA hb
  have nA:=AM (Kd.Q1a hB (Q0h (bH HB)))
  replace aA:=kB aA hb;replace bA:=kB bA hb;replace cA:=kB cA hb;replace HB:=kH HB hb;clear hb hB
  refine hK.out _ _ ⟨bC bA,bC bA,bC bA,bC aA,bC aA,bC aA,bC cA,bC cA,bC cA⟩ (fun hHeld => ?_)
  clear hK K;refine nP (some 23) ?_
  refine oQ 21 (some 34) HT_ rfl fun K hK => ?_
  refine gO Try.func70 #[.int .i64 (wrap64 (hA - eA)),.int .i64 (wrap64 (iA - dA))] ?_
  with_reducible refine (Q1p.calls k (wrap64 (hA - eA)) (wrap64 (iA - dA)) pA _ jD.out).mono ?_
  rintro e pD ⟨mD,rfl,hB,hb⟩
  refine ⟨_,rfl,?_⟩
  replace fA:=kR fA hb
  have sA:=AM (Kd.Q1a (Kd.Q21 hB (Kd.R_lt (rK nA))) (Q0h (bH HB)))
  replace nA:=AM (Kd.Q2c (rK nA) (Kd.Q2q hB) hb)
  replace aA:=kB aA hb;replace bA:=kB bA hb;replace cA:=kB cA hb;replace HB:=kH HB hb;clear hb hB
  obtain ⟨oC,pC,mB⟩:=Kd.Q02 nA.out
  (first|subst mB|(injection mB with nB qC oB;have rC:=nB.symm;have sC:=oB.symm;clear nB qC oB;subst rC;subst sC))
  obtain ⟨tC,uC,pB⟩:=Kd.Q02 sA.out
  (first|subst pB|(injection pB with nB qC oB;have rC:=nB.symm;have sC:=oB.symm;clear nB qC oB;subst rC;subst sC))
  refine hK.out _ _ ⟨bC bA,bC bA,bC bA,bC aA,bC aA,bC aA,bC cA,bC cA,bC cA⟩ (fun hHeld => ?_)
  clear hK K;refine nP (some 34) ?_
  refine oQ 22 (some 35) HT_ rfl fun K hK => ?_
  refine gO Try.func49 #[.agg #[.slice oC oA.length pC],.agg #[.slice tC pA.length uC]] ?_
  with_reducible refine (Q1h.calls k _ _ oA _ _ pA tA _ ?side1 ?side2 ?side3 ?side4 kD.out).mono ?_
  (case side1=>exact sR nA)
  (case side2=>exact (Kd.Q0x nA.out).2.1)
  (case side3=>exact sR sA)
  (case side4=>exact (Kd.Q0x sA.out).2.1)
  rintro e qD ⟨rfl,hb⟩
  refine ⟨_,rfl,?_⟩
  replace fA:=kR fA hb;replace nA:=kR nA hb;replace sA:=kR sA hb;replace aA:=kB aA hb;replace bA:=kB bA hb;replace cA:=kB cA hb;replace HB:=kH HB hb;clear hb
  refine hK.out _ _ ⟨bC bA,bC bA,bC bA,bC aA,bC aA,bC aA,bC cA,bC cA,bC cA⟩ (fun hHeld => ?_)
  clear hK K;refine nP (some 35) ?_;refine pQ 23 (some 6) HT_ ?_
  refine done_ (Q2d HT_.out (by kernel_rfl)) ?_
  try go_wp2
  go_ret
  exact ⟨rE,bH HB⟩
 ·replace jC:=Bool.eq_false_iff.mpr jC
  subst jC
  replace H:=iF H
  obtain rfl:=Option.some.inj H
  go_wp2
  go_ret
  exact ⟨rE,bH HB⟩
end Go.Proofs.Ytbonkedecfjmdaa.P
