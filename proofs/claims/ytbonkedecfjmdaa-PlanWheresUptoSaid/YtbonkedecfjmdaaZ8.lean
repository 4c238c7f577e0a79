/- Written for this claim by a program of this session (a turned copy of the print): Go functions as Lean functions, and that the Go code comes to just these answers; or a statement proved out of them. No condition. -/
import Derived.Test.YtbonkedecfjmdaaZ2
import Derived.Test.YtbonkedecfjmdaaZ5
import Derived.Test.YtbonkedecfjmdaaZ7

namespace Go.Proofs.Ytbonkedecfjmdaa.P
open Go.RowKit Go.Proofs.YtbonkedecfjmdaaW.PrintWords Go.Proofs.YtbonkedecfjmdaaW.PrintLast Go.Proofs.YtbonkedecfjmdaaW.PrintMore Go.Proofs.Ytbonkedecfjmdaa.X
attribute [local go_sem] Q2b Q2a Q2m Q2n Q1y Q1z Q19 Q18 Q2l Q2k add64
set_option linter.unusedVariables false
set_option linter.unusedSimpArgs false
def Q2x.f (a0:Int) (a1:Int) (a2:Int):Option (Bool):=if a1≤a0 then (if a0≤a2 then (some true) else (if a2≤a0 then (some (decide (a0≤a1))) else (some false))) else (if a2≤a0 then (some (decide (a0≤a1))) else (some false))
set_option maxHeartbeats 8000000 in
set_option maxRecDepth 100000 in
theorem Q2x.calls (a0:Int) (a1:Int) (a2:Int) (r:Bool) (w:World) (h:Q2x.f a0 a1 a2=some r) :
  Calls Try.prog 79 #[.int .i64 a0,.int .i64 a1,.int .i64 a2] w fun e w'=>e=.returned (.bool r)∧Drawn0 w w':=by
 have H:(if a1≤a0 then (if a0≤a2 then (some true) else (if a2≤a0 then (some (decide (a0≤a1))) else (some false))) else (if a2≤a0 then (some (decide (a0≤a1))) else (some false)))=some r:=h
 clear h
 apply iC H<;>clear H<;>intro aA H
 ·apply iC H<;>clear H<;>intro bA H
  ·obtain rfl:=Option.some.inj H
   go_enter Try.func79,Try.ntmps79
   go_wp2
   go_ret
   exact ⟨by first|rfl|(simp;done)|(simp [*];done),by repeat (first|exact Drawn0.refl _|apply Drawn0.step)⟩
  ·apply iC H<;>clear H<;>intro cA H
   ·obtain rfl:=Option.some.inj H
    go_enter Try.func79,Try.ntmps79
    go_wp2
    go_ret
    exact ⟨by first|rfl|(simp;done)|(simp [*];done),by repeat (first|exact Drawn0.refl _|apply Drawn0.step)⟩
   ·obtain rfl:=Option.some.inj H
    go_enter Try.func79,Try.ntmps79
    go_wp2
    go_ret
    exact ⟨by first|rfl|(simp;done)|(simp [*];done),by repeat (first|exact Drawn0.refl _|apply Drawn0.step)⟩
 ·apply iC H<;>clear H<;>intro dA H
  ·obtain rfl:=Option.some.inj H
   go_enter Try.func79,Try.ntmps79
   go_wp2
   go_ret
   exact ⟨by first|rfl|(simp;done)|(simp [*];done),by repeat (first|exact Drawn0.refl _|apply Drawn0.step)⟩
  ·obtain rfl:=Option.some.inj H
   go_enter Try.func79,Try.ntmps79
   go_wp2
   go_ret
   exact ⟨by first|rfl|(simp;done)|(simp [*];done),by repeat (first|exact Drawn0.refl _|apply Drawn0.step)⟩

def Q26.f (k:Nat) (dA:Int) (gA:Int) (kA:Int) (eA:Int) (hA:Int) (lA:Int) (fA:Int) (iA:Int) (mA:Int):Option (Bool):=(Q0u.f k (([(⟨dA,gA,kA⟩:S27),(⟨eA,hA,lA⟩:S27),(⟨fA,iA,mA⟩:S27)]:List (S27)))).bind fun dB=>(if dB=true then ((Q1c.f k eA hA lA fA iA mA dA gA kA).bind fun tA=>(if tA=0 then ((Q2x.f dA eA fA).bind fun eB=>(if eB=true then ((Q2x.f gA hA iA).bind fun fB=>(some fB)) else (some false))) else (some false))) else (some false))
theorem Q26.mono:∀ a0 a1 a2 a3 a4 a5 a6 a7 a8 k,LeO (Q26.f k a0 a1 a2 a3 a4 a5 a6 a7 a8) (Q26.f (k+1) a0 a1 a2 a3 a4 a5 a6 a7 a8):=by
 intro a0 a1 a2 a3 a4 a5 a6 a7 a8 k
 unfold Q26.f
 repeat' with_reducible first|exact Q0u.mono _ _|exact Q1c.mono _ _ _ _ _ _ _ _ _ _|exact LeO.refl _|exact LeO.none _|refine LeO.ite ?_ ?_|refine LeO.bind ?_ (fun _ => ?_)
set_option maxHeartbeats 8000000 in
set_option maxRecDepth 100000 in
theorem Q26.calls (k:Nat) (dA:Int) (gA:Int) (kA:Int) (eA:Int) (hA:Int) (lA:Int) (fA:Int) (iA:Int) (mA:Int) (r:Bool) (w:World) (h:Q26.f k dA gA kA eA hA lA fA iA mA=some r) :
  Calls Try.prog 62 #[.agg #[.int .i64 dA,.int .i64 gA,.int .i64 kA],.agg #[.int .i64 eA,.int .i64 hA,.int .i64 lA],.agg #[.int .i64 fA,.int .i64 iA,.int .i64 mA]] w fun e w'=>e=.returned (.bool r)∧Below w.heap.size w w':=by
 have oJ:=Try.underlying27
 have HB:=AM (Below.refl w.heap.size w)
 have H:((Q0u.f k (([(⟨dA,gA,kA⟩:S27),(⟨eA,hA,lA⟩:S27),(⟨fA,iA,mA⟩:S27)]:List (S27)))).bind fun dB=>(if dB=true then ((Q1c.f k eA hA lA fA iA mA dA gA kA).bind fun tA=>(if tA=0 then ((Q2x.f dA eA fA).bind fun eB=>(if eB=true then ((Q2x.f gA hA iA).bind fun fB=>(some fB)) else (some false))) else (some false))) else (some false)))=some r:=h
 clear h
 obtain ⟨bB,cB⟩:∃ y_:List (S27),y_=(([(⟨dA,gA,kA⟩:S27),(⟨eA,hA,lA⟩:S27),(⟨fA,iA,mA⟩:S27)]:List (S27))):=⟨_,rfl⟩
 replace H:((Q0u.f k bB).bind fun dB=>(if dB=true then ((Q1c.f k eA hA lA fA iA mA dA gA kA).bind fun tA=>(if tA=0 then ((Q2x.f dA eA fA).bind fun eB=>(if eB=true then ((Q2x.f gA hA iA).bind fun fB=>(some fB)) else (some false))) else (some false))) else (some false)))=some r:=by first|(rw [cB];with_reducible exact H)|(have bI:=(Option.bind_some _ _).symm.trans H;rw [cB];with_reducible exact bI)|(have bI:=(Option.bind_some _ _).symm.trans H;with_reducible exact bI)|with_reducible exact H|(rw [cB];exact H)|exact H
 have uA:=AM cB
 clear cB
 obtain ⟨dB,A4,H⟩:=bS H
 by_cases c5:dB=true
 ·subst c5
  replace H:=iT H
  obtain ⟨tA,A6,H⟩:=bS H
  by_cases c7:tA=0
  ·rw [if_pos c7] at H
   have cI:(tA==0)=true:=beq_iff_eq.mpr c7
   have dI:(tA != 0)=false:=bne_eq_false_iff_eq.mpr c7
   clear c7
   obtain ⟨eB,A8,H⟩:=bS H
   by_cases c9:eB=true
   ·subst c9
    replace H:=iT H
    obtain ⟨fB,pJ,H⟩:=bS H
    obtain rfl:=Option.some.inj H
    go_enter Try.func62,Try.ntmps62
    go_wp2_with (first|((with_reducible refine Q0i (N:=3) rfl ?_);refine bE 3 #[.int .i64 dA,.int .i64 gA,.int .i64 kA] 27 ?_;intro vA hg qJ hbox hb;have aA:=AM hbox;have wA:=kG HB hg;replace HB:=kH HB hb;have gB:=wA;clear hb hbox hg)|((with_reducible refine Q0i (N:=4) rfl ?_);refine bE 4 #[.int .i64 eA,.int .i64 hA,.int .i64 lA] 27 ?_;intro xA hg rJ hbox hb;have bA:=AM hbox;have yA:=kG HB hg;replace HB:=kH HB hb;have hB:=yA;have nA:=kN aA hg;have oA:=kM aA hg;replace aA:=kB aA hb;clear hb hbox hg)|((with_reducible refine Q0i (N:=5) rfl ?_);refine bE 5 #[.int .i64 fA,.int .i64 iA,.int .i64 mA] 27 ?_;intro zA hg sJ hbox hb;have cA:=AM hbox;have aB:=kG HB hg;replace HB:=kH HB hb;have iB:=aB;have pA:=kN aA hg;have qA:=kM aA hg;replace aA:=kB aA hb;have rA:=kN bA hg;have sA:=kM bA hg;replace bA:=kB bA hb;clear hb hbox hg;have qI:=nA.out;have rI:=oA.out;have sI:=pA.out;have tI:=qA.out;obtain ⟨pB,qB,rB,sB,tB,uB⟩:=c3 aA;have uI:=rA.out;have vI:=sA.out;obtain ⟨vB,wB,xB,yB,zB,aC⟩:=c3 bA;obtain ⟨bC,cC,dC,eC,fC,gC⟩:=c3 cA)|((with_reducible refine Q0i (N:=10) rfl ?_);refine Kd.Q4r k27 _ 27 ?hg (N:=10) ?hd (xs:=([(⟨dA,gA,kA⟩:S27),(⟨eA,hA,lA⟩:S27),(⟨fA,iA,mA⟩:S27)]:List (S27))) (inner:=[.int .i64 dA,.int .i64 gA,.int .i64 kA,.int .i64 eA,.int .i64 hA,.int .i64 lA,.int .i64 fA,.int .i64 iA,.int .i64 mA]) (ok:=fun _=>True) (okp:=fun _=>True) ?hr ?hp (fun _ hk=>hk) trivial (Below.refl _ _) (Nat.le_refl _) (by simp) ?_;(case hd=>rfl);(case hg=>rfl);(case hr=>first|(go_simp;done)|(go_simp;rfl));(case hp=>exact (Reps.c3 (show Kd.M k27 _ _ _ (⟨dA,gA,kA⟩:S27) [.int .i64 dA,.int .i64 gA,.int .i64 kA] from (Q2o _ _ _ (⟨dA,gA,kA⟩:S27) )) (Reps.c3 (show Kd.M k27 _ _ _ (⟨eA,hA,lA⟩:S27) [.int .i64 eA,.int .i64 hA,.int .i64 lA] from (Q2o _ _ _ (⟨eA,hA,lA⟩:S27) )) (Reps.c3 (show Kd.M k27 _ _ _ (⟨fA,iA,mA⟩:S27) [.int .i64 fA,.int .i64 iA,.int .i64 mA] from (Q2o _ _ _ (⟨fA,iA,mA⟩:S27) )) (Reps.none _ _)))));intro oB tJ jB hb hg_ hnew_;clear hg_ hnew_;(first|rw [← uA.out] at jB|(simp only [Int.reduceToNat] at jB;rw [← uA.out] at jB));have jA:=AM (Kd.Q1a (Kd.Q2v (Kd.Q2v (Kd.Q2v jB (g:=vA) (o:=.cells #[.int .i64 dA,.int .i64 gA,.int .i64 kA] 27 (0,0)) (bK aA)) (g:=xA) (o:=.cells #[.int .i64 eA,.int .i64 hA,.int .i64 lA] 27 (0,0)) (bK bA)) (g:=zA) (o:=.cells #[.int .i64 fA,.int .i64 iA,.int .i64 mA] 27 (0,0)) (bK cA)) (Q0h (bH HB)));replace aA:=kB aA hb;replace bA:=kB bA hb;replace cA:=kB cA hb;replace HB:=kH HB hb;clear hb jB;obtain ⟨eI,fI,gI⟩:=Kd.Q02 jA.out;subst gI)|((with_reducible refine Q0o (f:=22) rfl ?_);refine gL (some 11) Try.func22 #[.slice eI bB.length fI] ?_;(with_reducible refine (Q0u.calls k _ _ bB true _ ?side1 ?side2 A4.out).mono ?_);(case side1=>exact sR jA);(case side2=>exact (Kd.Q0x jA.out).2.1);rintro e uJ ⟨rfl,hb⟩;refine ⟨_,rfl,?_⟩;replace jA:=kR jA hb;replace aA:=kB aA hb;replace bA:=kB bA hb;replace cA:=kB cA hb;replace HB:=kH HB hb;clear hb;obtain ⟨hC,iC,jC,kC,lC,mC⟩:=c3 bA;obtain ⟨nC,oC,pC,qC,rC,sC⟩:=c3 cA;obtain ⟨tC,uC,vC,wC,xC,yC⟩:=c3 aA)|(go_at_call 63;(with_reducible refine (Q1c.calls k eA hA lA fA iA mA dA gA kA tA _ A6.out).mono ?_);rintro e vJ ⟨rfl,hb⟩;replace jA:=kR jA hb;replace aA:=kB aA hb;replace bA:=kB bA hb;replace cA:=kB cA hb;replace HB:=kH HB hb;clear hb;obtain ⟨zC,aD,bD,cD,dD,eD⟩:=c3 aA;obtain ⟨fD,gD,hD,iD,jD,kD⟩:=c3 bA;obtain ⟨lD,mD,nD,oD,pD,qD⟩:=c3 cA)|(go_at_call 79;(with_reducible refine (Q2x.calls dA eA fA true _ A8.out).mono ?_);rintro e w' ⟨rfl,⟨nd,rfl⟩⟩)|(go_at_call 79;(with_reducible refine (Q2x.calls gA hA iA fB _ pJ.out).mono ?_);rintro e w' ⟨rfl,⟨nd,rfl⟩⟩))
    go_ret
    exact ⟨rE,bH HB⟩
   ·replace c9:=Bool.eq_false_iff.mpr c9
    subst c9
    replace H:=iF H
    obtain rfl:=Option.some.inj H
    go_enter Try.func62,Try.ntmps62
    go_wp2_with (first|((with_reducible refine Q0i (N:=3) rfl ?_);refine bE 3 #[.int .i64 dA,.int .i64 gA,.int .i64 kA] 27 ?_;intro vA hg wJ hbox hb;have aA:=AM hbox;have wA:=kG HB hg;replace HB:=kH HB hb;have gB:=wA;clear hb hbox hg)|((with_reducible refine Q0i (N:=4) rfl ?_);refine bE 4 #[.int .i64 eA,.int .i64 hA,.int .i64 lA] 27 ?_;intro xA hg xJ hbox hb;have bA:=AM hbox;have yA:=kG HB hg;replace HB:=kH HB hb;have hB:=yA;have nA:=kN aA hg;have oA:=kM aA hg;replace aA:=kB aA hb;clear hb hbox hg)|((with_reducible refine Q0i (N:=5) rfl ?_);refine bE 5 #[.int .i64 fA,.int .i64 iA,.int .i64 mA] 27 ?_;intro zA hg yJ hbox hb;have cA:=AM hbox;have aB:=kG HB hg;replace HB:=kH HB hb;have iB:=aB;have pA:=kN aA hg;have qA:=kM aA hg;replace aA:=kB aA hb;have rA:=kN bA hg;have sA:=kM bA hg;replace bA:=kB bA hb;clear hb hbox hg;have wI:=nA.out;have xI:=oA.out;have yI:=pA.out;have zI:=qA.out;obtain ⟨rD,sD,tD,uD,vD,wD⟩:=c3 aA;have aJ:=rA.out;have bJ:=sA.out;obtain ⟨xD,yD,zD,aE,cE,dE⟩:=c3 bA;obtain ⟨eE,fE,gE,hE,iE,jE⟩:=c3 cA)|((with_reducible refine Q0i (N:=10) rfl ?_);refine Kd.Q4r k27 _ 27 ?hg (N:=10) ?hd (xs:=([(⟨dA,gA,kA⟩:S27),(⟨eA,hA,lA⟩:S27),(⟨fA,iA,mA⟩:S27)]:List (S27))) (inner:=[.int .i64 dA,.int .i64 gA,.int .i64 kA,.int .i64 eA,.int .i64 hA,.int .i64 lA,.int .i64 fA,.int .i64 iA,.int .i64 mA]) (ok:=fun _=>True) (okp:=fun _=>True) ?hr ?hp (fun _ hk=>hk) trivial (Below.refl _ _) (Nat.le_refl _) (by simp) ?_;(case hd=>rfl);(case hg=>rfl);(case hr=>first|(go_simp;done)|(go_simp;rfl));(case hp=>exact (Reps.c3 (show Kd.M k27 _ _ _ (⟨dA,gA,kA⟩:S27) [.int .i64 dA,.int .i64 gA,.int .i64 kA] from (Q2o _ _ _ (⟨dA,gA,kA⟩:S27) )) (Reps.c3 (show Kd.M k27 _ _ _ (⟨eA,hA,lA⟩:S27) [.int .i64 eA,.int .i64 hA,.int .i64 lA] from (Q2o _ _ _ (⟨eA,hA,lA⟩:S27) )) (Reps.c3 (show Kd.M k27 _ _ _ (⟨fA,iA,mA⟩:S27) [.int .i64 fA,.int .i64 iA,.int .i64 mA] from (Q2o _ _ _ (⟨fA,iA,mA⟩:S27) )) (Reps.none _ _)))));intro oB zJ lB hb hg_ hnew_;clear hg_ hnew_;(first|rw [← uA.out] at lB|(simp only [Int.reduceToNat] at lB;rw [← uA.out] at lB));have jA:=AM (Kd.Q1a (Kd.Q2v (Kd.Q2v (Kd.Q2v lB (g:=vA) (o:=.cells #[.int .i64 dA,.int .i64 gA,.int .i64 kA] 27 (0,0)) (bK aA)) (g:=xA) (o:=.cells #[.int .i64 eA,.int .i64 hA,.int .i64 lA] 27 (0,0)) (bK bA)) (g:=zA) (o:=.cells #[.int .i64 fA,.int .i64 iA,.int .i64 mA] 27 (0,0)) (bK cA)) (Q0h (bH HB)));replace aA:=kB aA hb;replace bA:=kB bA hb;replace cA:=kB cA hb;replace HB:=kH HB hb;clear hb lB;obtain ⟨hI,iI,jI⟩:=Kd.Q02 jA.out;subst jI)|((with_reducible refine Q0o (f:=22) rfl ?_);refine gL (some 11) Try.func22 #[.slice hI bB.length iI] ?_;(with_reducible refine (Q0u.calls k _ _ bB true _ ?side1 ?side2 A4.out).mono ?_);(case side1=>exact sR jA);(case side2=>exact (Kd.Q0x jA.out).2.1);rintro e aK ⟨rfl,hb⟩;refine ⟨_,rfl,?_⟩;replace jA:=kR jA hb;replace aA:=kB aA hb;replace bA:=kB bA hb;replace cA:=kB cA hb;replace HB:=kH HB hb;clear hb;obtain ⟨kE,lE,mE,nE,oE,pE⟩:=c3 bA;obtain ⟨qE,sE,tE,uE,vE,wE⟩:=c3 cA;obtain ⟨xE,yE,zE,aF,bF,cF⟩:=c3 aA)|(go_at_call 63;(with_reducible refine (Q1c.calls k eA hA lA fA iA mA dA gA kA tA _ A6.out).mono ?_);rintro e cK ⟨rfl,hb⟩;replace jA:=kR jA hb;replace aA:=kB aA hb;replace bA:=kB bA hb;replace cA:=kB cA hb;replace HB:=kH HB hb;clear hb;obtain ⟨dF,eF,fF,gF,hF,jF⟩:=c3 aA;obtain ⟨kF,lF,mF,nF,oF,pF⟩:=c3 bA;obtain ⟨qF,rF,sF,tF,uF,vF⟩:=c3 cA)|(go_at_call 79;(with_reducible refine (Q2x.calls dA eA fA false _ A8.out).mono ?_);rintro e w' ⟨rfl,⟨nd,rfl⟩⟩))
    go_ret
    exact ⟨rE,bH HB⟩
  ·rw [if_neg c7] at H
   have cI:(tA==0)=false:=beq_eq_false_iff_ne.mpr c7
   have dI:(tA != 0)=true:=bne_iff_ne.mpr c7
   obtain rfl:=Option.some.inj H
   go_enter Try.func62,Try.ntmps62
   go_wp2_with (first|((with_reducible refine Q0i (N:=3) rfl ?_);refine bE 3 #[.int .i64 dA,.int .i64 gA,.int .i64 kA] 27 ?_;intro vA hg dK hbox hb;have aA:=AM hbox;have wA:=kG HB hg;replace HB:=kH HB hb;have gB:=wA;clear hb hbox hg)|((with_reducible refine Q0i (N:=4) rfl ?_);refine bE 4 #[.int .i64 eA,.int .i64 hA,.int .i64 lA] 27 ?_;intro xA hg eK hbox hb;have bA:=AM hbox;have yA:=kG HB hg;replace HB:=kH HB hb;have hB:=yA;have nA:=kN aA hg;have oA:=kM aA hg;replace aA:=kB aA hb;clear hb hbox hg)|((with_reducible refine Q0i (N:=5) rfl ?_);refine bE 5 #[.int .i64 fA,.int .i64 iA,.int .i64 mA] 27 ?_;intro zA hg fK hbox hb;have cA:=AM hbox;have aB:=kG HB hg;replace HB:=kH HB hb;have iB:=aB;have pA:=kN aA hg;have qA:=kM aA hg;replace aA:=kB aA hb;have rA:=kN bA hg;have sA:=kM bA hg;replace bA:=kB bA hb;clear hb hbox hg;have cJ:=nA.out;have dJ:=oA.out;have eJ:=pA.out;have fJ:=qA.out;obtain ⟨wF,xF,yF,zF,aG,bG⟩:=c3 aA;have gJ:=rA.out;have hJ:=sA.out;obtain ⟨cG,dG,eG,fG,gG,hG⟩:=c3 bA;obtain ⟨iG,jG,lG,mG,nG,oG⟩:=c3 cA)|((with_reducible refine Q0i (N:=10) rfl ?_);refine Kd.Q4r k27 _ 27 ?hg (N:=10) ?hd (xs:=([(⟨dA,gA,kA⟩:S27),(⟨eA,hA,lA⟩:S27),(⟨fA,iA,mA⟩:S27)]:List (S27))) (inner:=[.int .i64 dA,.int .i64 gA,.int .i64 kA,.int .i64 eA,.int .i64 hA,.int .i64 lA,.int .i64 fA,.int .i64 iA,.int .i64 mA]) (ok:=fun _=>True) (okp:=fun _=>True) ?hr ?hp (fun _ hk=>hk) trivial (Below.refl _ _) (Nat.le_refl _) (by simp) ?_;(case hd=>rfl);(case hg=>rfl);(case hr=>first|(go_simp;done)|(go_simp;rfl));(case hp=>exact (Reps.c3 (show Kd.M k27 _ _ _ (⟨dA,gA,kA⟩:S27) [.int .i64 dA,.int .i64 gA,.int .i64 kA] from (Q2o _ _ _ (⟨dA,gA,kA⟩:S27) )) (Reps.c3 (show Kd.M k27 _ _ _ (⟨eA,hA,lA⟩:S27) [.int .i64 eA,.int .i64 hA,.int .i64 lA] from (Q2o _ _ _ (⟨eA,hA,lA⟩:S27) )) (Reps.c3 (show Kd.M k27 _ _ _ (⟨fA,iA,mA⟩:S27) [.int .i64 fA,.int .i64 iA,.int .i64 mA] from (Q2o _ _ _ (⟨fA,iA,mA⟩:S27) )) (Reps.none _ _)))));intro oB gK mB hb hg_ hnew_;clear hg_ hnew_;(first|rw [← uA.out] at mB|(simp only [Int.reduceToNat] at mB;rw [← uA.out] at mB));have jA:=AM (Kd.Q1a (Kd.Q2v (Kd.Q2v (Kd.Q2v mB (g:=vA) (o:=.cells #[.int .i64 dA,.int .i64 gA,.int .i64 kA] 27 (0,0)) (bK aA)) (g:=xA) (o:=.cells #[.int .i64 eA,.int .i64 hA,.int .i64 lA] 27 (0,0)) (bK bA)) (g:=zA) (o:=.cells #[.int .i64 fA,.int .i64 iA,.int .i64 mA] 27 (0,0)) (bK cA)) (Q0h (bH HB)));replace aA:=kB aA hb;replace bA:=kB bA hb;replace cA:=kB cA hb;replace HB:=kH HB hb;clear hb mB;obtain ⟨kI,lI,mI⟩:=Kd.Q02 jA.out;subst mI)|((with_reducible refine Q0o (f:=22) rfl ?_);refine gL (some 11) Try.func22 #[.slice kI bB.length lI] ?_;(with_reducible refine (Q0u.calls k _ _ bB true _ ?side1 ?side2 A4.out).mono ?_);(case side1=>exact sR jA);(case side2=>exact (Kd.Q0x jA.out).2.1);rintro e hK ⟨rfl,hb⟩;refine ⟨_,rfl,?_⟩;replace jA:=kR jA hb;replace aA:=kB aA hb;replace bA:=kB bA hb;replace cA:=kB cA hb;replace HB:=kH HB hb;clear hb;obtain ⟨pG,qG,rG,sG,tG,uG⟩:=c3 bA;obtain ⟨vG,wG,xG,yG,zG,aH⟩:=c3 cA;obtain ⟨cH,dH,eH,fH,gH,hH⟩:=c3 aA)|(go_at_call 63;(with_reducible refine (Q1c.calls k eA hA lA fA iA mA dA gA kA tA _ A6.out).mono ?_);rintro e iK ⟨rfl,hb⟩;replace jA:=kR jA hb;replace aA:=kB aA hb;replace bA:=kB bA hb;replace cA:=kB cA hb;replace HB:=kH HB hb;clear hb))
   go_ret
   exact ⟨rE,bH HB⟩
 ·replace c5:=Bool.eq_false_iff.mpr c5
  subst c5
  replace H:=iF H
  obtain rfl:=Option.some.inj H
  go_enter Try.func62,Try.ntmps62
  go_wp2_with (first|((with_reducible refine Q0i (N:=3) rfl ?_);refine bE 3 #[.int .i64 dA,.int .i64 gA,.int .i64 kA] 27 ?_;intro vA hg jK hbox hb;have aA:=AM hbox;have wA:=kG HB hg;replace HB:=kH HB hb;have gB:=wA;clear hb hbox hg)|((with_reducible refine Q0i (N:=4) rfl ?_);refine bE 4 #[.int .i64 eA,.int .i64 hA,.int .i64 lA] 27 ?_;intro xA hg kK hbox hb;have bA:=AM hbox;have yA:=kG HB hg;replace HB:=kH HB hb;have hB:=yA;have nA:=kN aA hg;have oA:=kM aA hg;replace aA:=kB aA hb;clear hb hbox hg)|((with_reducible refine Q0i (N:=5) rfl ?_);refine bE 5 #[.int .i64 fA,.int .i64 iA,.int .i64 mA] 27 ?_;intro zA hg lK hbox hb;have cA:=AM hbox;have aB:=kG HB hg;replace HB:=kH HB hb;have iB:=aB;have pA:=kN aA hg;have qA:=kM aA hg;replace aA:=kB aA hb;have rA:=kN bA hg;have sA:=kM bA hg;replace bA:=kB bA hb;clear hb hbox hg;have iJ:=nA.out;have jJ:=oA.out;have kJ:=pA.out;have lJ:=qA.out;obtain ⟨iH,jH,lH,mH,nH,oH⟩:=c3 aA;have mJ:=rA.out;have nJ:=sA.out;obtain ⟨pH,qH,rH,sH,tH,uH⟩:=c3 bA;obtain ⟨vH,wH,xH,yH,zH,aI⟩:=c3 cA)|((with_reducible refine Q0i (N:=10) rfl ?_);refine Kd.Q4r k27 _ 27 ?hg (N:=10) ?hd (xs:=([(⟨dA,gA,kA⟩:S27),(⟨eA,hA,lA⟩:S27),(⟨fA,iA,mA⟩:S27)]:List (S27))) (inner:=[.int .i64 dA,.int .i64 gA,.int .i64 kA,.int .i64 eA,.int .i64 hA,.int .i64 lA,.int .i64 fA,.int .i64 iA,.int .i64 mA]) (ok:=fun _=>True) (okp:=fun _=>True) ?hr ?hp (fun _ hk=>hk) trivial (Below.refl _ _) (Nat.le_refl _) (by simp) ?_;(case hd=>rfl);(case hg=>rfl);(case hr=>first|(go_simp;done)|(go_simp;rfl));(case hp=>exact (Reps.c3 (show Kd.M k27 _ _ _ (⟨dA,gA,kA⟩:S27) [.int .i64 dA,.int .i64 gA,.int .i64 kA] from (Q2o _ _ _ (⟨dA,gA,kA⟩:S27) )) (Reps.c3 (show Kd.M k27 _ _ _ (⟨eA,hA,lA⟩:S27) [.int .i64 eA,.int .i64 hA,.int .i64 lA] from (Q2o _ _ _ (⟨eA,hA,lA⟩:S27) )) (Reps.c3 (show Kd.M k27 _ _ _ (⟨fA,iA,mA⟩:S27) [.int .i64 fA,.int .i64 iA,.int .i64 mA] from (Q2o _ _ _ (⟨fA,iA,mA⟩:S27) )) (Reps.none _ _)))));intro oB mK nB hb hg_ hnew_;clear hg_ hnew_;(first|rw [← uA.out] at nB|(simp only [Int.reduceToNat] at nB;rw [← uA.out] at nB));have jA:=AM (Kd.Q1a (Kd.Q2v (Kd.Q2v (Kd.Q2v nB (g:=vA) (o:=.cells #[.int .i64 dA,.int .i64 gA,.int .i64 kA] 27 (0,0)) (bK aA)) (g:=xA) (o:=.cells #[.int .i64 eA,.int .i64 hA,.int .i64 lA] 27 (0,0)) (bK bA)) (g:=zA) (o:=.cells #[.int .i64 fA,.int .i64 iA,.int .i64 mA] 27 (0,0)) (bK cA)) (Q0h (bH HB)));replace aA:=kB aA hb;replace bA:=kB bA hb;replace cA:=kB cA hb;replace HB:=kH HB hb;clear hb nB;obtain ⟨nI,oI,pI⟩:=Kd.Q02 jA.out;subst pI)|((with_reducible refine Q0o (f:=22) rfl ?_);refine gL (some 11) Try.func22 #[.slice nI bB.length oI] ?_;(with_reducible refine (Q0u.calls k _ _ bB false _ ?side1 ?side2 A4.out).mono ?_);(case side1=>exact sR jA);(case side2=>exact (Kd.Q0x jA.out).2.1);rintro e nK ⟨rfl,hb⟩;refine ⟨_,rfl,?_⟩;replace jA:=kR jA hb;replace aA:=kB aA hb;replace bA:=kB bA hb;replace cA:=kB cA hb;replace HB:=kH HB hb;clear hb))
  go_ret
  exact ⟨rE,bH HB⟩
end Go.Proofs.Ytbonkedecfjmdaa.P
