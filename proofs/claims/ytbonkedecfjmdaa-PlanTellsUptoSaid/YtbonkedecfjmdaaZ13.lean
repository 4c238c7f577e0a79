/- Written for this claim by a program of this session (a turned copy of the print): Go functions as Lean functions, and that the Go code comes to just these answers; or a statement proved out of them. No condition. -/
import Derived.Test.YtbonkedecfjmdaaZ2
import Derived.Test.YtbonkedecfjmdaaZ3

namespace Go.Proofs.Ytbonkedecfjmdaa.P
open Go.RowKit Go.Proofs.YtbonkedecfjmdaaW.PrintWords Go.Proofs.YtbonkedecfjmdaaW.PrintLast Go.Proofs.YtbonkedecfjmdaaW.PrintMore Go.Proofs.Ytbonkedecfjmdaa.X
attribute [local go_sem] Q2a Q2b Q2s Q2q Q1z Q1y Q19 Q2c Q2r Q2p add64
set_option linter.unusedVariables false
set_option linter.unusedSimpArgs false
attribute [local go_sem high] eqA27
def Q32.f (eA:Int) (fA:Int) (gA:Int) (kA:Int) (lA:Int) (mA:Int) (pA:Int) (qA:Int) (wA:Bool) (sA:Bool) (hA:Int) (iA:Int) (jA:Int):Option (Bool):=if wA=true then (if (hA==eA&&(iA==fA&&(jA==gA)))=true then (some true) else (if sA=true then (some (hA==kA&&(iA==lA&&(jA==mA)))) else (some false))) else (if sA=true then (some (hA==kA&&(iA==lA&&(jA==mA)))) else (some false))
set_option maxHeartbeats 8000000 in
set_option maxRecDepth 100000 in
theorem Q32.calls (eA:Int) (fA:Int) (gA:Int) (kA:Int) (lA:Int) (mA:Int) (pA:Int) (qA:Int) (wA:Bool) (sA:Bool) (hA:Int) (iA:Int) (jA:Int) (r:Bool) (w:World) (h:Q32.f eA fA gA kA lA mA pA qA wA sA hA iA jA=some r) :
  Calls Try.prog 84 #[.agg #[.int .i64 eA,.int .i64 fA,.int .i64 gA,.int .i64 kA,.int .i64 lA,.int .i64 mA,.int .i64 pA,.int .i64 qA,.bool wA,.bool sA],.agg #[.int .i64 hA,.int .i64 iA,.int .i64 jA]] w fun e w'=>e=.returned (.bool r)∧Below w.heap.size w w':=by
 have fG:=Try.underlying109
 have pG:=Try.underlying27
 have HB:=AM (Below.refl w.heap.size w)
 have H:(if wA=true then (if (hA==eA&&(iA==fA&&(jA==gA)))=true then (some true) else (if sA=true then (some (hA==kA&&(iA==lA&&(jA==mA)))) else (some false))) else (if sA=true then (some (hA==kA&&(iA==lA&&(jA==mA)))) else (some false)))=some r:=h
 clear h
 by_cases c3:wA=true
 ·subst c3
  replace H:=iT H
  by_cases c4:(hA==eA&&(iA==fA&&(jA==gA)))=true
  ·rw [if_pos c4] at H
   have bF:(hA==eA&&(iA==fA&&(jA==gA)))=true:=c4
   (try (have cF:decide (hA=eA&&(iA==fA&&(jA==gA)))=true:=by simpa using c4))
   (try (have dF:(hA==eA&&(iA==fA&&(jA==gA)))=true:=by simpa using c4))
   clear c4
   obtain rfl:=Option.some.inj H
   go_enter Try.func84,Try.ntmps84
   go_wp2_with (first|((with_reducible refine Q0i (N:=2) rfl ?_);refine bE 2 #[.int .i64 eA,.int .i64 fA,.int .i64 gA,.int .i64 kA,.int .i64 lA,.int .i64 mA,.int .i64 pA,.int .i64 qA,.bool true,.bool sA] 109 ?_;intro bA hg w5 hbox hb;have aA:=AM hbox;have nA:=kG HB hg;replace HB:=kH HB hb;have tA:=nA;clear hb hbox hg)|((with_reducible refine Q0i (N:=3) rfl ?_);refine bE 3 #[.int .i64 hA,.int .i64 iA,.int .i64 jA] 27 ?_;intro uA hg w6 hbox hb;have rA:=AM hbox;have oA:=kG HB hg;replace HB:=kH HB hb;have vA:=oA;have cA:=kN aA hg;have dA:=kM aA hg;replace aA:=kB aA hb;clear hb hbox hg;have qG:=cA.out;have rG:=dA.out;have eF:w6.cell? ⟨bA,0,none⟩=some (.int .i64 eA):=bC aA;have fF:w6.cell? ⟨bA,1,none⟩=some (.int .i64 fA):=bC aA;have gF:w6.cell? ⟨bA,2,none⟩=some (.int .i64 gA):=bC aA;have hF:w6.cell? ⟨bA,3,none⟩=some (.int .i64 kA):=bC aA;have jF:w6.cell? ⟨bA,4,none⟩=some (.int .i64 lA):=bC aA;have kF:w6.cell? ⟨bA,5,none⟩=some (.int .i64 mA):=bC aA;have lF:w6.cell? ⟨bA,6,none⟩=some (.int .i64 pA):=bC aA;have mF:w6.cell? ⟨bA,7,none⟩=some (.int .i64 qA):=bC aA;have nF:w6.cell? ⟨bA,8,none⟩=some (.bool true):=bC aA;have oF:w6.cell? ⟨bA,9,none⟩=some (.bool sA):=bC aA;have pF:=Q0k aA.out 0;have qF:=Q0k aA.out 1;have rF:=Q0k aA.out 2;have sF:=Q0k aA.out 3;have tF:=Q0k aA.out 4;have uF:=Q0k aA.out 5;have vF:=Q0k aA.out 6;have wF:=Q0k aA.out 7;have xF:=Q0k aA.out 8;have yF:=Q0k aA.out 9;obtain ⟨zF,aG,bG,cG,dG,eG⟩:=c3 rA))
   go_ret
   exact ⟨rE,bH HB⟩
  ·rw [if_neg c4] at H
   have bF:(hA==eA&&(iA==fA&&(jA==gA)))=false:=by simpa using c4
   (try (have cF:decide (hA=eA&&(iA==fA&&(jA==gA)))=false:=by simpa using c4))
   (try (have dF:(hA==eA&&(iA==fA&&(jA==gA)))=false:=by simpa using c4))
   (try (have sG:¬ (hA=eA&&(iA==fA&&(jA==gA))):=by simpa using c4))
   clear c4
   by_cases bB:sA=true
   ·subst bB
    replace H:=iT H
    obtain rfl:=Option.some.inj H
    go_enter Try.func84,Try.ntmps84
    go_wp2_with (first|((with_reducible refine Q0i (N:=2) rfl ?_);refine bE 2 #[.int .i64 eA,.int .i64 fA,.int .i64 gA,.int .i64 kA,.int .i64 lA,.int .i64 mA,.int .i64 pA,.int .i64 qA,.bool true,.bool true] 109 ?_;intro bA hg tG hbox hb;have aA:=AM hbox;have nA:=kG HB hg;replace HB:=kH HB hb;have tA:=nA;clear hb hbox hg)|((with_reducible refine Q0i (N:=3) rfl ?_);refine bE 3 #[.int .i64 hA,.int .i64 iA,.int .i64 jA] 27 ?_;intro uA hg xA hbox hb;have rA:=AM hbox;have oA:=kG HB hg;replace HB:=kH HB hb;have vA:=oA;have cA:=kN aA hg;have dA:=kM aA hg;replace aA:=kB aA hb;clear hb hbox hg;have gG:=cA.out;have hG:=dA.out;have cB:xA.cell? ⟨bA,0,none⟩=some (.int .i64 eA):=bC aA;have dB:xA.cell? ⟨bA,1,none⟩=some (.int .i64 fA):=bC aA;have eB:xA.cell? ⟨bA,2,none⟩=some (.int .i64 gA):=bC aA;have fB:xA.cell? ⟨bA,3,none⟩=some (.int .i64 kA):=bC aA;have gB:xA.cell? ⟨bA,4,none⟩=some (.int .i64 lA):=bC aA;have hB:xA.cell? ⟨bA,5,none⟩=some (.int .i64 mA):=bC aA;have iB:xA.cell? ⟨bA,6,none⟩=some (.int .i64 pA):=bC aA;have jB:xA.cell? ⟨bA,7,none⟩=some (.int .i64 qA):=bC aA;have lB:xA.cell? ⟨bA,8,none⟩=some (.bool true):=bC aA;have mB:xA.cell? ⟨bA,9,none⟩=some (.bool true):=bC aA;have nB:=Q0k aA.out 0;have oB:=Q0k aA.out 1;have pB:=Q0k aA.out 2;have qB:=Q0k aA.out 3;have rB:=Q0k aA.out 4;have sB:=Q0k aA.out 5;have tB:=Q0k aA.out 6;have uB:=Q0k aA.out 7;have vB:=Q0k aA.out 8;have wB:=Q0k aA.out 9;obtain ⟨xB,yB,zB,aC,cC,dC⟩:=c3 rA))
    go_ret
    exact ⟨rE,bH HB⟩
   ·replace bB:=Bool.eq_false_iff.mpr bB
    subst bB
    replace H:=iF H
    obtain rfl:=Option.some.inj H
    go_enter Try.func84,Try.ntmps84
    go_wp2_with (first|((with_reducible refine Q0i (N:=2) rfl ?_);refine bE 2 #[.int .i64 eA,.int .i64 fA,.int .i64 gA,.int .i64 kA,.int .i64 lA,.int .i64 mA,.int .i64 pA,.int .i64 qA,.bool true,.bool false] 109 ?_;intro bA hg uG hbox hb;have aA:=AM hbox;have nA:=kG HB hg;replace HB:=kH HB hb;have tA:=nA;clear hb hbox hg)|((with_reducible refine Q0i (N:=3) rfl ?_);refine bE 3 #[.int .i64 hA,.int .i64 iA,.int .i64 jA] 27 ?_;intro uA hg yA hbox hb;have rA:=AM hbox;have oA:=kG HB hg;replace HB:=kH HB hb;have vA:=oA;have cA:=kN aA hg;have dA:=kM aA hg;replace aA:=kB aA hb;clear hb hbox hg;have iG:=cA.out;have jG:=dA.out;have eC:yA.cell? ⟨bA,0,none⟩=some (.int .i64 eA):=bC aA;have fC:yA.cell? ⟨bA,1,none⟩=some (.int .i64 fA):=bC aA;have gC:yA.cell? ⟨bA,2,none⟩=some (.int .i64 gA):=bC aA;have hC:yA.cell? ⟨bA,3,none⟩=some (.int .i64 kA):=bC aA;have iC:yA.cell? ⟨bA,4,none⟩=some (.int .i64 lA):=bC aA;have jC:yA.cell? ⟨bA,5,none⟩=some (.int .i64 mA):=bC aA;have kC:yA.cell? ⟨bA,6,none⟩=some (.int .i64 pA):=bC aA;have lC:yA.cell? ⟨bA,7,none⟩=some (.int .i64 qA):=bC aA;have mC:yA.cell? ⟨bA,8,none⟩=some (.bool true):=bC aA;have nC:yA.cell? ⟨bA,9,none⟩=some (.bool false):=bC aA;have oC:=Q0k aA.out 0;have pC:=Q0k aA.out 1;have qC:=Q0k aA.out 2;have rC:=Q0k aA.out 3;have sC:=Q0k aA.out 4;have tC:=Q0k aA.out 5;have uC:=Q0k aA.out 6;have vC:=Q0k aA.out 7;have wC:=Q0k aA.out 8;have xC:=Q0k aA.out 9;obtain ⟨yC,zC,aD,bD,cD,dD⟩:=c3 rA))
    go_ret
    exact ⟨rE,bH HB⟩
 ·replace c3:=Bool.eq_false_iff.mpr c3
  subst c3
  replace H:=iF H
  by_cases eD:sA=true
  ·subst eD
   replace H:=iT H
   obtain rfl:=Option.some.inj H
   go_enter Try.func84,Try.ntmps84
   go_wp2_with (first|((with_reducible refine Q0i (N:=2) rfl ?_);refine bE 2 #[.int .i64 eA,.int .i64 fA,.int .i64 gA,.int .i64 kA,.int .i64 lA,.int .i64 mA,.int .i64 pA,.int .i64 qA,.bool false,.bool true] 109 ?_;intro bA hg vG hbox hb;have aA:=AM hbox;have nA:=kG HB hg;replace HB:=kH HB hb;have tA:=nA;clear hb hbox hg)|((with_reducible refine Q0i (N:=3) rfl ?_);refine bE 3 #[.int .i64 hA,.int .i64 iA,.int .i64 jA] 27 ?_;intro uA hg zA hbox hb;have rA:=AM hbox;have oA:=kG HB hg;replace HB:=kH HB hb;have vA:=oA;have cA:=kN aA hg;have dA:=kM aA hg;replace aA:=kB aA hb;clear hb hbox hg;have lG:=cA.out;have mG:=dA.out;have fD:zA.cell? ⟨bA,0,none⟩=some (.int .i64 eA):=bC aA;have gD:zA.cell? ⟨bA,1,none⟩=some (.int .i64 fA):=bC aA;have hD:zA.cell? ⟨bA,2,none⟩=some (.int .i64 gA):=bC aA;have iD:zA.cell? ⟨bA,3,none⟩=some (.int .i64 kA):=bC aA;have jD:zA.cell? ⟨bA,4,none⟩=some (.int .i64 lA):=bC aA;have kD:zA.cell? ⟨bA,5,none⟩=some (.int .i64 mA):=bC aA;have lD:zA.cell? ⟨bA,6,none⟩=some (.int .i64 pA):=bC aA;have mD:zA.cell? ⟨bA,7,none⟩=some (.int .i64 qA):=bC aA;have nD:zA.cell? ⟨bA,8,none⟩=some (.bool false):=bC aA;have oD:zA.cell? ⟨bA,9,none⟩=some (.bool true):=bC aA;have pD:=Q0k aA.out 0;have qD:=Q0k aA.out 1;have rD:=Q0k aA.out 2;have sD:=Q0k aA.out 3;have tD:=Q0k aA.out 4;have uD:=Q0k aA.out 5;have vD:=Q0k aA.out 6;have wD:=Q0k aA.out 7;have xD:=Q0k aA.out 8;have yD:=Q0k aA.out 9;obtain ⟨zD,aE,cE,dE,eE,fE⟩:=c3 rA))
   go_ret
   exact ⟨rE,bH HB⟩
  ·replace eD:=Bool.eq_false_iff.mpr eD
   subst eD
   replace H:=iF H
   obtain rfl:=Option.some.inj H
   go_enter Try.func84,Try.ntmps84
   go_wp2_with (first|((with_reducible refine Q0i (N:=2) rfl ?_);refine bE 2 #[.int .i64 eA,.int .i64 fA,.int .i64 gA,.int .i64 kA,.int .i64 lA,.int .i64 mA,.int .i64 pA,.int .i64 qA,.bool false,.bool false] 109 ?_;intro bA hg wG hbox hb;have aA:=AM hbox;have nA:=kG HB hg;replace HB:=kH HB hb;have tA:=nA;clear hb hbox hg)|((with_reducible refine Q0i (N:=3) rfl ?_);refine bE 3 #[.int .i64 hA,.int .i64 iA,.int .i64 jA] 27 ?_;intro uA hg aB hbox hb;have rA:=AM hbox;have oA:=kG HB hg;replace HB:=kH HB hb;have vA:=oA;have cA:=kN aA hg;have dA:=kM aA hg;replace aA:=kB aA hb;clear hb hbox hg;have nG:=cA.out;have oG:=dA.out;have gE:aB.cell? ⟨bA,0,none⟩=some (.int .i64 eA):=bC aA;have hE:aB.cell? ⟨bA,1,none⟩=some (.int .i64 fA):=bC aA;have iE:aB.cell? ⟨bA,2,none⟩=some (.int .i64 gA):=bC aA;have jE:aB.cell? ⟨bA,3,none⟩=some (.int .i64 kA):=bC aA;have kE:aB.cell? ⟨bA,4,none⟩=some (.int .i64 lA):=bC aA;have lE:aB.cell? ⟨bA,5,none⟩=some (.int .i64 mA):=bC aA;have mE:aB.cell? ⟨bA,6,none⟩=some (.int .i64 pA):=bC aA;have nE:aB.cell? ⟨bA,7,none⟩=some (.int .i64 qA):=bC aA;have oE:aB.cell? ⟨bA,8,none⟩=some (.bool false):=bC aA;have pE:aB.cell? ⟨bA,9,none⟩=some (.bool false):=bC aA;have qE:=Q0k aA.out 0;have sE:=Q0k aA.out 1;have tE:=Q0k aA.out 2;have uE:=Q0k aA.out 3;have vE:=Q0k aA.out 4;have wE:=Q0k aA.out 5;have xE:=Q0k aA.out 6;have yE:=Q0k aA.out 7;have zE:=Q0k aA.out 8;have aF:=Q0k aA.out 9))
   go_ret
   exact ⟨rE,bH HB⟩
end Go.Proofs.Ytbonkedecfjmdaa.P

namespace Go.Proofs.Ytbonkedecfjmdaa.P
open Go.RowKit Go.Proofs.YtbonkedecfjmdaaW.PrintWords Go.Proofs.YtbonkedecfjmdaaW.PrintLast Go.Proofs.YtbonkedecfjmdaaW.PrintMore Go.Proofs.Ytbonkedecfjmdaa.X
attribute [local go_sem] Q2a Q2b Q2s Q2q Q1z Q1y Q19 Q2c Q2r Q2p add64
set_option linter.unusedVariables false
set_option linter.unusedSimpArgs false
def Q4b.f (dA:Int) (fA:Int) (kA:Int) (eA:Int) (gA:Int) (lA:Int):Option (Bool):=if dA<eA then (some true) else (if dA=eA then (some (decide (fA<gA))) else (some false))
set_option maxHeartbeats 8000000 in
set_option maxRecDepth 100000 in
theorem Q4b.calls (dA:Int) (fA:Int) (kA:Int) (eA:Int) (gA:Int) (lA:Int) (r:Bool) (w:World) (h:Q4b.f dA fA kA eA gA lA=some r) :
  Calls Try.prog 89 #[.agg #[.int .i64 dA,.int .i64 fA,.int .i64 kA],.agg #[.int .i64 eA,.int .i64 gA,.int .i64 lA]] w fun e w'=>e=.returned (.bool r)∧Below w.heap.size w w':=by
 have hC:=Try.underlying27
 have HB:=AM (Below.refl w.heap.size w)
 have H:(if dA<eA then (some true) else (if dA=eA then (some (decide (fA<gA))) else (some false)))=some r:=h
 clear h
 apply iC H<;>clear H<;>intro jC H
 ·obtain rfl:=Option.some.inj H
  go_enter Try.func89,Try.ntmps89
  go_wp2_with (first|((with_reducible refine Q0i (N:=2) rfl ?_);refine bE 2 #[.int .i64 dA,.int .i64 fA,.int .i64 kA] 27 ?_;intro mA hg w4 hbox hb;have aA:=AM hbox;have hA:=kG HB hg;replace HB:=kH HB hb;have nA:=hA;clear hb hbox hg)|((with_reducible refine Q0i (N:=3) rfl ?_);refine bE 3 #[.int .i64 eA,.int .i64 gA,.int .i64 lA] 27 ?_;intro oA hg w5 hbox hb;have iA:=AM hbox;have jA:=kG HB hg;replace HB:=kH HB hb;have pA:=jA;have bA:=kN aA hg;have cA:=kM aA hg;replace aA:=kB aA hb;clear hb hbox hg;have kC:=bA.out;have lC:=cA.out;obtain ⟨pB,qB,rB,sB,tB,uB⟩:=c3 aA;obtain ⟨vB,wB,xB,yB,zB,aC⟩:=c3 iA))
  go_ret
  exact ⟨rE,bH HB⟩
 ·by_cases c9:dA=eA
  ·rw [if_pos c9] at H
   have bC:(dA==eA)=true:=beq_iff_eq.mpr c9
   have cC:(dA != eA)=false:=bne_eq_false_iff_eq.mpr c9
   clear c9
   obtain rfl:=Option.some.inj H
   go_enter Try.func89,Try.ntmps89
   go_wp2_with (first|((with_reducible refine Q0i (N:=2) rfl ?_);refine bE 2 #[.int .i64 dA,.int .i64 fA,.int .i64 kA] 27 ?_;intro mA hg mC hbox hb;have aA:=AM hbox;have hA:=kG HB hg;replace HB:=kH HB hb;have nA:=hA;clear hb hbox hg)|((with_reducible refine Q0i (N:=3) rfl ?_);refine bE 3 #[.int .i64 eA,.int .i64 gA,.int .i64 lA] 27 ?_;intro oA hg nC hbox hb;have iA:=AM hbox;have jA:=kG HB hg;replace HB:=kH HB hb;have pA:=jA;have bA:=kN aA hg;have cA:=kM aA hg;replace aA:=kB aA hb;clear hb hbox hg;have dC:=bA.out;have eC:=cA.out;obtain ⟨qA,rA,sA,tA,uA,vA⟩:=c3 aA;obtain ⟨wA,xA,yA,zA,aB,bB⟩:=c3 iA))
   go_ret
   exact ⟨rE,bH HB⟩
  ·rw [if_neg c9] at H
   have bC:(dA==eA)=false:=beq_eq_false_iff_ne.mpr c9
   have cC:(dA != eA)=true:=bne_iff_ne.mpr c9
   obtain rfl:=Option.some.inj H
   go_enter Try.func89,Try.ntmps89
   go_wp2_with (first|((with_reducible refine Q0i (N:=2) rfl ?_);refine bE 2 #[.int .i64 dA,.int .i64 fA,.int .i64 kA] 27 ?_;intro mA hg oC hbox hb;have aA:=AM hbox;have hA:=kG HB hg;replace HB:=kH HB hb;have nA:=hA;clear hb hbox hg)|((with_reducible refine Q0i (N:=3) rfl ?_);refine bE 3 #[.int .i64 eA,.int .i64 gA,.int .i64 lA] 27 ?_;intro oA hg pC hbox hb;have iA:=AM hbox;have jA:=kG HB hg;replace HB:=kH HB hb;have pA:=jA;have bA:=kN aA hg;have cA:=kM aA hg;replace aA:=kB aA hb;clear hb hbox hg;have fC:=bA.out;have gC:=cA.out;obtain ⟨cB,dB,eB,fB,gB,hB⟩:=c3 aA;obtain ⟨iB,jB,lB,mB,nB,oB⟩:=c3 iA))
   go_ret
   exact ⟨rE,bH HB⟩

def Q38.f (qA:Int) (sA:Int) (uA:Int) (rA:Int) (tA:Int) (vA:Int):Option (Int×Int×Int×Int×Int×Int):=(Q4b.f rA tA vA qA sA uA).bind fun yA=>(if yA=true then (some (rA,tA,vA,qA,sA,uA)) else (some (qA,sA,uA,rA,tA,vA)))
set_option maxHeartbeats 8000000 in
set_option maxRecDepth 100000 in
theorem Q38.calls (qA:Int) (sA:Int) (uA:Int) (rA:Int) (tA:Int) (vA:Int) (r1:Int) (r2:Int) (r3:Int) (r4:Int) (r5:Int) (r6:Int) (w:World) (h:Q38.f qA sA uA rA tA vA=some (r1,r2,r3,r4,r5,r6)) :
  Calls Try.prog 88 #[.agg #[.int .i64 qA,.int .i64 sA,.int .i64 uA],.agg #[.int .i64 rA,.int .i64 tA,.int .i64 vA]] w fun e w'=>e=.returned (.tuple #[.agg #[.int .i64 r1,.int .i64 r2,.int .i64 r3],.agg #[.int .i64 r4,.int .i64 r5,.int .i64 r6]])∧Below w.heap.size w w':=by
 have sF:=Try.underlying27
 have HB:=AM (Below.refl w.heap.size w)
 have H:((Q4b.f rA tA vA qA sA uA).bind fun yA=>(if yA=true then (some (rA,tA,vA,qA,sA,uA)) else (some (qA,sA,uA,rA,tA,vA))))=some (r1,r2,r3,r4,r5,r6):=h
 clear h
 obtain ⟨yA,A3,H⟩:=bS H
 have qE:=AM H
 clear H
 go_enter Try.func88,Try.ntmps88
 go_upto_if 8 with (first|((with_reducible refine Q0i (N:=2) rfl ?_);refine bE 2 #[.int .i64 qA,.int .i64 sA,.int .i64 uA] 27 ?_;intro wA hg w5 hbox hb;have iA:=AM hbox;have bB:=kG HB hg;replace HB:=kH HB hb;have sE:=bB;clear hb hbox hg)|((with_reducible refine Q0i (N:=3) rfl ?_);refine bE 3 #[.int .i64 rA,.int .i64 tA,.int .i64 vA] 27 ?_;intro xA hg w6 hbox hb;have kA:=AM hbox;have cB:=kG HB hg;replace HB:=kH HB hb;have tE:=cB;have zA:=kN iA hg;have aB:=kM iA hg;replace iA:=kB iA hb;clear hb hbox hg)|((with_reducible refine Q0i (N:=4) rfl ?_);refine bE 4 #[.int .i64 0,.int .i64 0,.int .i64 0] 27 ?_;intro eA hg w7 hbox hb;have jA:=AM hbox;have eB:=kG HB hg;replace HB:=kH HB hb;have uE:=eB;have aA:=kN iA hg;have mA:=kM iA hg;replace iA:=kB iA hb;have bA:=kN kA hg;have nA:=kM kA hg;replace kA:=kB kA hb;clear hb hbox hg)|((with_reducible refine Q0i (N:=5) rfl ?_);refine bE 5 #[.int .i64 0,.int .i64 0,.int .i64 0] 27 ?_;intro fA hg w8 hbox hb;have lA:=AM hbox;have fB:=kG HB hg;replace HB:=kH HB hb;have vE:=fB;have cA:=kN iA hg;have oA:=kM iA hg;replace iA:=kB iA hb;have dA:=kN kA hg;have pA:=kM kA hg;replace kA:=kB kA hb;have gA:=kN jA hg;have hA:=kM jA hg;replace jA:=kB jA hb;clear hb hbox hg;have tF:=aB.out;have uF:=zA.out;have wE:=bA.out;have xE:=nA.out;have yE:=dA.out;have zE:=pA.out;obtain ⟨gB,hB,iB,jB,lB,mB⟩:=c3 kA;have aF:=aA.out;have bF:=mA.out;have cF:=cA.out;have dF:=oA.out;obtain ⟨nB,oB,pB,qB,rB,sB⟩:=c3 iA)|((with_reducible refine Q0n (f:=89) rfl ?_);refine gL (some 8) Try.func89 #[.agg #[.int .i64 rA,.int .i64 tA,.int .i64 vA],.agg #[.int .i64 qA,.int .i64 sA,.int .i64 uA]] ?_;(with_reducible refine (Q4b.calls rA tA vA qA sA uA yA _ A3.out).mono ?_);rintro e eF ⟨rfl,hb⟩;refine ⟨_,rfl,?_⟩;replace iA:=kB iA hb;replace kA:=kB kA hb;replace jA:=kB jA hb;replace lA:=kB lA hb;replace HB:=kH HB hb;clear hb))
 (try simp only [Act.put,List.setIfInBounds_toArray,List.set_cons_zero,List.set_cons_succ])
 have H:=qE.out;clear qE
 by_cases tB:yA=true
 ·subst tB
  replace H:=iT H
  simp only [Option.some.injEq,Prod.mk.injEq] at H
  obtain ⟨rfl,rfl,rfl,rfl,rfl,rfl⟩:=H
  try go_wp2
  replace iA:=dB iA;replace kA:=dB kA;replace jA:=dB jA;replace lA:=dB lA;replace HB:=dH HB
  refine sP 4 (S:=fun w'=>w'.cell? ⟨xA,0,none⟩=some (.int .i64 rA)∧w'.cell? ⟨xA,1,none⟩=some (.int .i64 tA)∧w'.cell? ⟨xA,2,none⟩=some (.int .i64 vA)∧w'.cell? ⟨wA,0,none⟩=some (.int .i64 qA)∧w'.cell? ⟨wA,1,none⟩=some (.int .i64 sA)∧w'.cell? ⟨wA,2,none⟩=some (.int .i64 uA)) (ds:=[]) ⟨bC kA,bC kA,bC kA,bC iA,bC iA,bC iA⟩ fun hHeld => ?_
  generalize eF.drew=w18 at iA kA jA lA HB hHeld ⊢
  refine tP 0 (some 9) hHeld ?_;refine tP 1 (some 10) hHeld ?_
  refine oP 2 none rfl fun K hK => ?_
  have vF:w18.cell? ⟨eA,0,none⟩=some (.int .i64 0):=bC jA
  have fF:=Q0k jA.out 0
  have uB:=aA.out;have vB:=bA.out;have wB:=hA.out;have xB:=mA.out;have yB:=nA.out;have zB:=gA.out
  have wF:w18.cell? ⟨eA,1,none⟩=some (.int .i64 0):=bC jA
  have gF:=Q0k jA.out 1
  have aC:=aA.out;have cC:=bA.out;have dC:=hA.out;have eC:=mA.out;have fC:=nA.out;have gC:=gA.out
  have xF:w18.cell? ⟨eA,2,none⟩=some (.int .i64 0):=bC jA
  have hF:=Q0k jA.out 2
  have hC:=aA.out;have iC:=bA.out;have jC:=hA.out;have kC:=mA.out;have lC:=nA.out;have mC:=gA.out
  refine skip_ (w1 := ?_) (by rfl) rfl ?_ ?_
  rotate_left
  ·go_simp
   rfl
  refine hK.out _ _ ⟨((cell_far (p:=⟨eA,_,none⟩) bA.out _).trans (((cell_far (p:=⟨eA,_,none⟩) bA.out _).trans (((cell_far (p:=⟨eA,_,none⟩) bA.out _).trans (hHeld.1)))))),((cell_far (p:=⟨eA,_,none⟩) bA.out _).trans (((cell_far (p:=⟨eA,_,none⟩) bA.out _).trans (((cell_far (p:=⟨eA,_,none⟩) bA.out _).trans (hHeld.2.1)))))),((cell_far (p:=⟨eA,_,none⟩) bA.out _).trans (((cell_far (p:=⟨eA,_,none⟩) bA.out _).trans (((cell_far (p:=⟨eA,_,none⟩) bA.out _).trans (hHeld.2.2.1)))))),((cell_far (p:=⟨eA,_,none⟩) aA.out _).trans (((cell_far (p:=⟨eA,_,none⟩) aA.out _).trans (((cell_far (p:=⟨eA,_,none⟩) aA.out _).trans (hHeld.2.2.2.1)))))),((cell_far (p:=⟨eA,_,none⟩) aA.out _).trans (((cell_far (p:=⟨eA,_,none⟩) aA.out _).trans (((cell_far (p:=⟨eA,_,none⟩) aA.out _).trans (hHeld.2.2.2.2.1)))))),((cell_far (p:=⟨eA,_,none⟩) aA.out _).trans (((cell_far (p:=⟨eA,_,none⟩) aA.out _).trans (((cell_far (p:=⟨eA,_,none⟩) aA.out _).trans (hHeld.2.2.2.2.2))))))⟩ (fun hHeld => ?_)
  clear hK K
  refine oP 3 none rfl fun K hK => ?_
  have yF:w18.cell? ⟨fA,0,none⟩=some (.int .i64 0):=bC lA
  have jF:=Q0k lA.out 0
  have nC:=cA.out;have oC:=dA.out;have pC:=gA.out;have qC:=oA.out;have rC:=pA.out;have sC:=hA.out
  have zF:w18.cell? ⟨fA,1,none⟩=some (.int .i64 0):=bC lA
  have kF:=Q0k lA.out 1
  have tC:=cA.out;have uC:=dA.out;have vC:=gA.out;have wC:=oA.out;have xC:=pA.out;have yC:=hA.out
  have aG:w18.cell? ⟨fA,2,none⟩=some (.int .i64 0):=bC lA
  have lF:=Q0k lA.out 2
  have zC:=cA.out;have aD:=dA.out;have bD:=gA.out;have cD:=oA.out;have dD:=pA.out;have eD:=hA.out
  refine skip_ (w1 := ?_) (by rfl) rfl ?_ ?_
  rotate_left
  ·go_simp
   rfl
  refine hK.out _ _ ⟨((cell_far (p:=⟨fA,_,none⟩) dA.out _).trans (((cell_far (p:=⟨fA,_,none⟩) dA.out _).trans (((cell_far (p:=⟨fA,_,none⟩) dA.out _).trans (hHeld.1)))))),((cell_far (p:=⟨fA,_,none⟩) dA.out _).trans (((cell_far (p:=⟨fA,_,none⟩) dA.out _).trans (((cell_far (p:=⟨fA,_,none⟩) dA.out _).trans (hHeld.2.1)))))),((cell_far (p:=⟨fA,_,none⟩) dA.out _).trans (((cell_far (p:=⟨fA,_,none⟩) dA.out _).trans (((cell_far (p:=⟨fA,_,none⟩) dA.out _).trans (hHeld.2.2.1)))))),((cell_far (p:=⟨fA,_,none⟩) cA.out _).trans (((cell_far (p:=⟨fA,_,none⟩) cA.out _).trans (((cell_far (p:=⟨fA,_,none⟩) cA.out _).trans (hHeld.2.2.2.1)))))),((cell_far (p:=⟨fA,_,none⟩) cA.out _).trans (((cell_far (p:=⟨fA,_,none⟩) cA.out _).trans (((cell_far (p:=⟨fA,_,none⟩) cA.out _).trans (hHeld.2.2.2.2.1)))))),((cell_far (p:=⟨fA,_,none⟩) cA.out _).trans (((cell_far (p:=⟨fA,_,none⟩) cA.out _).trans (((cell_far (p:=⟨fA,_,none⟩) cA.out _).trans (hHeld.2.2.2.2.2))))))⟩ (fun hHeld => ?_)
  clear hK K
  refine done_ (by kernel_rfl) ?_
  try go_wp2
  refine bodyPost_ret (Q7k rfl _ _ eA fA 27 27 #[.int .i64 rA,.int .i64 tA,.int .i64 vA] #[.int .i64 qA,.int .i64 sA,.int .i64 uA] (0,0) (0,0) _ _ rfl (by (with_reducible repeat (first|refine Q0c ?_ _|refine Q0d ?_|refine Q0b ?_ _));refine Q2f ?_ gA.out _;(with_reducible repeat (first|refine Q0c ?_ _|refine Q0d ?_|refine Q0b ?_ _));refine Q2f ?_ gA.out _;(with_reducible repeat (first|refine Q0c ?_ _|refine Q0d ?_|refine Q0b ?_ _));refine Q2f ?_ gA.out _;(with_reducible repeat (first|refine Q0c ?_ _|refine Q0d ?_|refine Q0b ?_ _));refine Q0u (cs:=#[.int .i64 rA,.int .i64 tA,.int .i64 0]) ?_ 2 _ rfl;(with_reducible repeat (first|refine Q0c ?_ _|refine Q0d ?_|refine Q0b ?_ _));refine Q0u (cs:=#[.int .i64 rA,.int .i64 0,.int .i64 0]) ?_ 1 _ rfl;(with_reducible repeat (first|refine Q0c ?_ _|refine Q0d ?_|refine Q0b ?_ _));refine Q0u (cs:=#[.int .i64 0,.int .i64 0,.int .i64 0]) ?_ 0 _ rfl;(with_reducible repeat (first|refine Q0c ?_ _|refine Q0d ?_|refine Q0b ?_ _));exact jA.out) Try.underlying27 rfl (by kernel_rfl) rfl (by (with_reducible repeat (first|refine Q0c ?_ _|refine Q0d ?_|refine Q0b ?_ _));refine Q0u (cs:=#[.int .i64 qA,.int .i64 sA,.int .i64 0]) ?_ 2 _ rfl;(with_reducible repeat (first|refine Q0c ?_ _|refine Q0d ?_|refine Q0b ?_ _));refine Q0u (cs:=#[.int .i64 qA,.int .i64 0,.int .i64 0]) ?_ 1 _ rfl;(with_reducible repeat (first|refine Q0c ?_ _|refine Q0d ?_|refine Q0b ?_ _));refine Q0u (cs:=#[.int .i64 0,.int .i64 0,.int .i64 0]) ?_ 0 _ rfl;(with_reducible repeat (first|refine Q0c ?_ _|refine Q0d ?_|refine Q0b ?_ _));refine Q2f ?_ hA.out _;(with_reducible repeat (first|refine Q0c ?_ _|refine Q0d ?_|refine Q0b ?_ _));refine Q2f ?_ hA.out _;(with_reducible repeat (first|refine Q0c ?_ _|refine Q0d ?_|refine Q0b ?_ _));refine Q2f ?_ hA.out _;(with_reducible repeat (first|refine Q0c ?_ _|refine Q0d ?_|refine Q0b ?_ _));exact lA.out) Try.underlying27 rfl (by kernel_rfl)) rfl ?_
  exact ⟨rE,bH HB⟩
 ·replace tB:=Bool.eq_false_iff.mpr tB
  subst tB
  replace H:=iF H
  simp only [Option.some.injEq,Prod.mk.injEq] at H
  obtain ⟨rfl,rfl,rfl,rfl,rfl,rfl⟩:=H
  try go_wp2
  replace iA:=dB iA;replace kA:=dB kA;replace jA:=dB jA;replace lA:=dB lA;replace HB:=dH HB
  refine sP 4 (S:=fun w'=>w'.cell? ⟨wA,0,none⟩=some (.int .i64 qA)∧w'.cell? ⟨wA,1,none⟩=some (.int .i64 sA)∧w'.cell? ⟨wA,2,none⟩=some (.int .i64 uA)∧w'.cell? ⟨xA,0,none⟩=some (.int .i64 rA)∧w'.cell? ⟨xA,1,none⟩=some (.int .i64 tA)∧w'.cell? ⟨xA,2,none⟩=some (.int .i64 vA)) (ds:=[]) ⟨bC iA,bC iA,bC iA,bC kA,bC kA,bC kA⟩ fun hHeld => ?_
  generalize eF.drew=w25 at iA kA jA lA HB hHeld ⊢
  refine tP 0 (some 11) hHeld ?_;refine tP 1 (some 12) hHeld ?_
  refine oP 2 none rfl fun K hK => ?_
  have bG:w25.cell? ⟨eA,0,none⟩=some (.int .i64 0):=bC jA
  have mF:=Q0k jA.out 0
  have fD:=aA.out;have gD:=bA.out;have hD:=hA.out;have iD:=mA.out;have jD:=nA.out;have kD:=gA.out
  have cG:w25.cell? ⟨eA,1,none⟩=some (.int .i64 0):=bC jA
  have nF:=Q0k jA.out 1
  have lD:=aA.out;have mD:=bA.out;have nD:=hA.out;have oD:=mA.out;have pD:=nA.out;have qD:=gA.out
  have dG:w25.cell? ⟨eA,2,none⟩=some (.int .i64 0):=bC jA
  have oF:=Q0k jA.out 2
  have rD:=aA.out;have sD:=bA.out;have tD:=hA.out;have uD:=mA.out;have vD:=nA.out;have wD:=gA.out
  refine skip_ (w1 := ?_) (by rfl) rfl ?_ ?_
  rotate_left
  ·go_simp
   rfl
  refine hK.out _ _ ⟨((cell_far (p:=⟨eA,_,none⟩) aA.out _).trans (((cell_far (p:=⟨eA,_,none⟩) aA.out _).trans (((cell_far (p:=⟨eA,_,none⟩) aA.out _).trans (hHeld.1)))))),((cell_far (p:=⟨eA,_,none⟩) aA.out _).trans (((cell_far (p:=⟨eA,_,none⟩) aA.out _).trans (((cell_far (p:=⟨eA,_,none⟩) aA.out _).trans (hHeld.2.1)))))),((cell_far (p:=⟨eA,_,none⟩) aA.out _).trans (((cell_far (p:=⟨eA,_,none⟩) aA.out _).trans (((cell_far (p:=⟨eA,_,none⟩) aA.out _).trans (hHeld.2.2.1)))))),((cell_far (p:=⟨eA,_,none⟩) bA.out _).trans (((cell_far (p:=⟨eA,_,none⟩) bA.out _).trans (((cell_far (p:=⟨eA,_,none⟩) bA.out _).trans (hHeld.2.2.2.1)))))),((cell_far (p:=⟨eA,_,none⟩) bA.out _).trans (((cell_far (p:=⟨eA,_,none⟩) bA.out _).trans (((cell_far (p:=⟨eA,_,none⟩) bA.out _).trans (hHeld.2.2.2.2.1)))))),((cell_far (p:=⟨eA,_,none⟩) bA.out _).trans (((cell_far (p:=⟨eA,_,none⟩) bA.out _).trans (((cell_far (p:=⟨eA,_,none⟩) bA.out _).trans (hHeld.2.2.2.2.2))))))⟩ (fun hHeld => ?_)
  clear hK K
  refine oP 3 none rfl fun K hK => ?_
  have eG:w25.cell? ⟨fA,0,none⟩=some (.int .i64 0):=bC lA
  have pF:=Q0k lA.out 0
  have xD:=cA.out;have yD:=dA.out;have zD:=gA.out;have aE:=oA.out;have cE:=pA.out;have dE:=hA.out
  have fG:w25.cell? ⟨fA,1,none⟩=some (.int .i64 0):=bC lA
  have qF:=Q0k lA.out 1
  have eE:=cA.out;have fE:=dA.out;have gE:=gA.out;have hE:=oA.out;have iE:=pA.out;have jE:=hA.out
  have gG:w25.cell? ⟨fA,2,none⟩=some (.int .i64 0):=bC lA
  have rF:=Q0k lA.out 2
  have kE:=cA.out;have lE:=dA.out;have mE:=gA.out;have nE:=oA.out;have oE:=pA.out;have pE:=hA.out
  refine skip_ (w1 := ?_) (by rfl) rfl ?_ ?_
  rotate_left
  ·go_simp
   rfl
  refine hK.out _ _ ⟨((cell_far (p:=⟨fA,_,none⟩) cA.out _).trans (((cell_far (p:=⟨fA,_,none⟩) cA.out _).trans (((cell_far (p:=⟨fA,_,none⟩) cA.out _).trans (hHeld.1)))))),((cell_far (p:=⟨fA,_,none⟩) cA.out _).trans (((cell_far (p:=⟨fA,_,none⟩) cA.out _).trans (((cell_far (p:=⟨fA,_,none⟩) cA.out _).trans (hHeld.2.1)))))),((cell_far (p:=⟨fA,_,none⟩) cA.out _).trans (((cell_far (p:=⟨fA,_,none⟩) cA.out _).trans (((cell_far (p:=⟨fA,_,none⟩) cA.out _).trans (hHeld.2.2.1)))))),((cell_far (p:=⟨fA,_,none⟩) dA.out _).trans (((cell_far (p:=⟨fA,_,none⟩) dA.out _).trans (((cell_far (p:=⟨fA,_,none⟩) dA.out _).trans (hHeld.2.2.2.1)))))),((cell_far (p:=⟨fA,_,none⟩) dA.out _).trans (((cell_far (p:=⟨fA,_,none⟩) dA.out _).trans (((cell_far (p:=⟨fA,_,none⟩) dA.out _).trans (hHeld.2.2.2.2.1)))))),((cell_far (p:=⟨fA,_,none⟩) dA.out _).trans (((cell_far (p:=⟨fA,_,none⟩) dA.out _).trans (((cell_far (p:=⟨fA,_,none⟩) dA.out _).trans (hHeld.2.2.2.2.2))))))⟩ (fun hHeld => ?_)
  clear hK K
  refine done_ (by kernel_rfl) ?_
  try go_wp2
  refine bodyPost_ret (Q7k rfl _ _ eA fA 27 27 #[.int .i64 qA,.int .i64 sA,.int .i64 uA] #[.int .i64 rA,.int .i64 tA,.int .i64 vA] (0,0) (0,0) _ _ rfl (by (with_reducible repeat (first|refine Q0c ?_ _|refine Q0d ?_|refine Q0b ?_ _));refine Q2f ?_ gA.out _;(with_reducible repeat (first|refine Q0c ?_ _|refine Q0d ?_|refine Q0b ?_ _));refine Q2f ?_ gA.out _;(with_reducible repeat (first|refine Q0c ?_ _|refine Q0d ?_|refine Q0b ?_ _));refine Q2f ?_ gA.out _;(with_reducible repeat (first|refine Q0c ?_ _|refine Q0d ?_|refine Q0b ?_ _));refine Q0u (cs:=#[.int .i64 qA,.int .i64 sA,.int .i64 0]) ?_ 2 _ rfl;(with_reducible repeat (first|refine Q0c ?_ _|refine Q0d ?_|refine Q0b ?_ _));refine Q0u (cs:=#[.int .i64 qA,.int .i64 0,.int .i64 0]) ?_ 1 _ rfl;(with_reducible repeat (first|refine Q0c ?_ _|refine Q0d ?_|refine Q0b ?_ _));refine Q0u (cs:=#[.int .i64 0,.int .i64 0,.int .i64 0]) ?_ 0 _ rfl;(with_reducible repeat (first|refine Q0c ?_ _|refine Q0d ?_|refine Q0b ?_ _));exact jA.out) Try.underlying27 rfl (by kernel_rfl) rfl (by (with_reducible repeat (first|refine Q0c ?_ _|refine Q0d ?_|refine Q0b ?_ _));refine Q0u (cs:=#[.int .i64 rA,.int .i64 tA,.int .i64 0]) ?_ 2 _ rfl;(with_reducible repeat (first|refine Q0c ?_ _|refine Q0d ?_|refine Q0b ?_ _));refine Q0u (cs:=#[.int .i64 rA,.int .i64 0,.int .i64 0]) ?_ 1 _ rfl;(with_reducible repeat (first|refine Q0c ?_ _|refine Q0d ?_|refine Q0b ?_ _));refine Q0u (cs:=#[.int .i64 0,.int .i64 0,.int .i64 0]) ?_ 0 _ rfl;(with_reducible repeat (first|refine Q0c ?_ _|refine Q0d ?_|refine Q0b ?_ _));refine Q2f ?_ hA.out _;(with_reducible repeat (first|refine Q0c ?_ _|refine Q0d ?_|refine Q0b ?_ _));refine Q2f ?_ hA.out _;(with_reducible repeat (first|refine Q0c ?_ _|refine Q0d ?_|refine Q0b ?_ _));refine Q2f ?_ hA.out _;(with_reducible repeat (first|refine Q0c ?_ _|refine Q0d ?_|refine Q0b ?_ _));exact lA.out) Try.underlying27 rfl (by kernel_rfl)) rfl ?_
  exact ⟨rE,bH HB⟩

def Q04.l0:Nat→List (S27)→Int→Int→Option (Bool)
 | 0,_,_,_=>none
 | k+1,x5,x6,x7=>if x7<x6 then (if 0≤x7 then (if x7<(x5.length:Int) then (if ((Q0a x5 x7).f2)=0 then (if ((Q0a x5 x7).f0)<(-2147483648) then (some false) else (if ((Q0a x5 x7).f0)>2147483647 then (some false) else (if ((Q0a x5 x7).f1)<(-2147483648) then (some false) else (if ((Q0a x5 x7).f1)>2147483647 then (some false) else (Q04.l0 k x5 x6 (wrap64 (x7+1))))))) else (some false)) else (none)) else (none)) else (some true)
def Q04.f (k:Nat) (l0:List (S27)):Option (Bool):=Q04.l0 k l0 (l0.length:Int) 0
theorem Q04.Q1a:∀ k,(∀ y0 y1 y2,LeO (Q04.l0 k y0 y1 y2) (Q04.l0 (k+1) y0 y1 y2))
 | 0=>fun _ _ _ r h=>by simp [Q04.l0] at h
 | k+1=>by
  have nB:=Q04.Q1a k
  ·intro y0 y1 y2
   unfold Q04.l0
   repeat' with_reducible first|exact nB _ _ _|exact LeO.refl _|exact LeO.none _|refine LeO.ite ?_ ?_|refine LeO.bind ?_ (fun _ => ?_)
theorem Q04.mono:∀ a0 k,LeO (Q04.f k a0) (Q04.f (k+1) a0):=by
 intro a0 k
 have nB:=Q04.Q1a k
 unfold Q04.f
 repeat' with_reducible first|exact nB _ _ _|exact LeO.refl _|exact LeO.none _|refine LeO.ite ?_ ?_|refine LeO.bind ?_ (fun _ => ?_)
set_option maxHeartbeats 8000000 in
set_option maxRecDepth 100000 in
theorem Q04.calls (k:Nat) (A0:Option Addr) (c0:Nat) (l0:List (S27)) (r:Bool) (w:World) (wB:Kd.C k27 w A0 l0.length l0) (xB:l0.length≤c0) (h:Q04.f k l0=some r) :
  Calls Try.prog 32 #[.slice A0 l0.length c0] w fun e w'=>e=.returned (.bool r)∧Below w.heap.size w w':=by
 have aC:=Try.underlying27
 have nA:=AM wB
 have gC:=AM xB
 clear wB xB
 have HB:=AM (Below.refl w.heap.size w)
 have H:(Q04.l0 k l0 (l0.length:Int) 0)=some r:=h
 clear h
 have H':=AM H
 clear H
 go_enter Try.func32,Try.ntmps32
 go_wp2
 go_loopg [7] k (fun kq v7 w'=>∃ (dA:Int),v7=.int .i64 dA∧Aside0 (Q04.l0 kq l0 (l0.length:Int) dA=some r)∧Aside0 (kq≤k)∧Aside0 (Below w.heap.size w w'))
 case atStart=>exact ⟨(0),rS,H',⟨Nat.le_refl _⟩,⟨ bH HB⟩⟩
 case round =>
  clear H'
  obtain ⟨dA,rfl,HA,yB,HB⟩:=hrel
  cases gk with
  | zero=>exact absurd HA.out (by simp [Q04.l0])
  | succ k1 =>
   have H:=HA.out;clear HA
   simp only [Q04.l0] at H
   apply iC H<;>clear H<;>intro bC H
   ·apply iN H;clear H;intro cC H
    ·apply iN H;clear H;intro dC H
     ·by_cases c5:((Q0a l0 dA).f2)=0
      ·rw [if_pos c5] at H
       have oB:(((Q0a l0 dA).f2)==0)=true:=beq_iff_eq.mpr c5
       have pB:(((Q0a l0 dA).f2) != 0)=false:=bne_eq_false_iff_eq.mpr c5
       clear c5
       apply iC H<;>clear H<;>intro eC H
       ·obtain rfl:=Option.some.inj H
        have eA:0≤(dA:Int):=pD
        have fA:dA<(l0.length:Int):=pD
        obtain ⟨jA,iA,aA,bA,cA⟩:=Q2i nA.out dA eA fA
        cases iA
        replace aA:=hW HB aA;replace bA:=hW HB bA;replace cA:=hW HB cA;replace eA:=eq_true eA;replace fA:=eq_true fA
        go_wp2_with (first|((with_reducible refine Q0i (N:=4) rfl ?_);refine bE 4 #[.int .i64 0,.int .i64 0,.int .i64 0] 27 ?_;intro kA hg w7 hbox hb;have gA:=AM hbox;have hA:=kG HB hg;replace HB:=kH HB hb;have lA:=hA;clear hb hbox hg;obtain ⟨qB,rB,sB,tB,uB,vB⟩:=c3 gA))
        go_ret
        exact ⟨rE,bH HB⟩
       ·apply iC H<;>clear H<;>intro fC H
        ·obtain rfl:=Option.some.inj H
         have eA:0≤(dA:Int):=pD
         have fA:dA<(l0.length:Int):=pD
         obtain ⟨jA,iA,aA,bA,cA⟩:=Q2i nA.out dA eA fA
         cases iA
         replace aA:=hW HB aA;replace bA:=hW HB bA;replace cA:=hW HB cA;replace eA:=eq_true eA;replace fA:=eq_true fA
         go_wp2_with (first|((with_reducible refine Q0i (N:=4) rfl ?_);refine bE 4 #[.int .i64 0,.int .i64 0,.int .i64 0] 27 ?_;intro kA hg hC hbox hb;have gA:=AM hbox;have hA:=kG HB hg;replace HB:=kH HB hb;have lA:=hA;clear hb hbox hg;obtain ⟨pA,qA,rA,sA,tA,uA⟩:=c3 gA))
         go_ret
         exact ⟨rE,bH HB⟩
        ·apply iC H<;>clear H<;>intro zB H
         ·obtain rfl:=Option.some.inj H
          have eA:0≤(dA:Int):=pD
          have fA:dA<(l0.length:Int):=pD
          obtain ⟨jA,iA,aA,bA,cA⟩:=Q2i nA.out dA eA fA
          cases iA
          replace aA:=hW HB aA;replace bA:=hW HB bA;replace cA:=hW HB cA;replace eA:=eq_true eA;replace fA:=eq_true fA
          go_wp2_with (first|((with_reducible refine Q0i (N:=4) rfl ?_);refine bE 4 #[.int .i64 0,.int .i64 0,.int .i64 0] 27 ?_;intro kA hg jC hbox hb;have gA:=AM hbox;have hA:=kG HB hg;replace HB:=kH HB hb;have lA:=hA;clear hb hbox hg;obtain ⟨vA,wA,xA,yA,zA,aB⟩:=c3 gA))
          go_ret
          exact ⟨rE,bH HB⟩
         ·have oA:=AM H
          clear H
          have eA:0≤(dA:Int):=pD
          have fA:dA<(l0.length:Int):=pD
          obtain ⟨jA,iA,aA,bA,cA⟩:=Q2i nA.out dA eA fA
          cases iA
          replace aA:=hW HB aA;replace bA:=hW HB bA;replace cA:=hW HB cA;replace eA:=eq_true eA;replace fA:=eq_true fA
          go_upto_if 33 with (first|((with_reducible refine Q0i (N:=4) rfl ?_);refine bE 4 #[.int .i64 0,.int .i64 0,.int .i64 0] 27 ?_;intro kA hg kC hbox hb;have gA:=AM hbox;have hA:=kG HB hg;replace HB:=kH HB hb;have lA:=hA;clear hb hbox hg;obtain ⟨bB,cB,dB,eB,fB,gB⟩:=c3 gA))
          (try simp only [Act.put,List.setIfInBounds_toArray,List.set_cons_zero,List.set_cons_succ])
          have H:=oA.out;clear oA
          apply iC H<;>clear H<;>intro mA H
          ·(first|rw [mA]|(simp only [Q1r,Q13];rw [mA])|skip)
           obtain rfl:=Option.some.inj H
           go_wp2
           go_ret
           exact ⟨rE,bH HB⟩
          ·(first|rw [mA]|(simp only [Q1r,Q13];rw [mA])|skip)
           have H':=AM H
           clear H
           go_wp2
           go_roundg k1
           case measure=>have:=yB.out;omega
           case rel=>exact ⟨(wrap64 (dA+1)),rS,H',⟨by have:=yB.out;omega⟩,⟨ bH HB⟩⟩
      ·rw [if_neg c5] at H
       have oB:(((Q0a l0 dA).f2)==0)=false:=beq_eq_false_iff_ne.mpr c5
       have pB:(((Q0a l0 dA).f2) != 0)=true:=bne_iff_ne.mpr c5
       obtain rfl:=Option.some.inj H
       have eA:0≤(dA:Int):=pD
       have fA:dA<(l0.length:Int):=pD
       obtain ⟨jA,iA,aA,bA,cA⟩:=Q2i nA.out dA eA fA
       cases iA
       replace aA:=hW HB aA;replace bA:=hW HB bA;replace cA:=hW HB cA;replace eA:=eq_true eA;replace fA:=eq_true fA
       go_wp2_with (first|((with_reducible refine Q0i (N:=4) rfl ?_);refine bE 4 #[.int .i64 0,.int .i64 0,.int .i64 0] 27 ?_;intro kA hg lC hbox hb;have gA:=AM hbox;have hA:=kG HB hg;replace HB:=kH HB hb;have lA:=hA;clear hb hbox hg;obtain ⟨hB,iB,jB,kB,lB,mB⟩:=c3 gA))
       go_ret
       exact ⟨rE,bH HB⟩
   ·obtain rfl:=Option.some.inj H
    go_wp2
    go_ret
    exact ⟨rE,bH HB⟩

theorem eqA50 (d:Nat) (w:World) (x0 y0:Int) (x1 y1:Int) :
  (Op.equalIn (d+2) 50 (.agg #[.int .i64 x0,.int .u64 x1]) (.agg #[.int .i64 y0,.int .u64 y1])).run Try.prog w=.ok (x0==y0&&(x1==y1)) w:=by
 refine Qbz Try.underlying50 (by kernel_rfl) ?_
 refine Q5v (by rfl) (by go_simp;rfl) (by go_simp;rfl) (by go_simp) ?_
 exact Q7v (by rfl) (by go_simp;rfl) (by go_simp;rfl) (by go_simp)
end Go.Proofs.Ytbonkedecfjmdaa.P

namespace Go.Proofs.Ytbonkedecfjmdaa.P
open Go.RowKit Go.Proofs.YtbonkedecfjmdaaW.PrintWords Go.Proofs.YtbonkedecfjmdaaW.PrintLast Go.Proofs.YtbonkedecfjmdaaW.PrintMore Go.Proofs.Ytbonkedecfjmdaa.X
attribute [local go_sem] Q2a Q2b Q2s Q2q Q1z Q1y Q19 Q2c Q2r Q2p add64
set_option linter.unusedVariables false
set_option linter.unusedSimpArgs false
attribute [local go_sem high] eqA50
def Q45.f (aA:Int) (eA:Int) (bA:Int) (fA:Int):Option (Int):=if (aA==bA&&(eA==fA))=true then (some 0) else (if aA<bA then (some (-1)) else (if aA=bA then (if eA<fA then (some (-1)) else (some 1)) else (some 1)))
set_option maxHeartbeats 8000000 in
set_option maxRecDepth 100000 in
theorem Q45.calls (aA:Int) (eA:Int) (bA:Int) (fA:Int) (r:Int) (w:World) (h:Q45.f aA eA bA fA=some r) :
  Calls Try.prog 53 #[.agg #[.int .i64 aA,.int .u64 eA],.agg #[.int .i64 bA,.int .u64 fA]] w fun e w'=>e=.returned (.int .i64 r)∧Below w.heap.size w w':=by
 have xC:=Try.underlying50
 have HB:=AM (Below.refl w.heap.size w)
 have H:(if (aA==bA&&(eA==fA))=true then (some 0) else (if aA<bA then (some (-1)) else (if aA=bA then (if eA<fA then (some (-1)) else (some 1)) else (some 1))))=some r:=h
 clear h
 have fC:=AM H
 clear H
 go_enter Try.func53,Try.ntmps53
 go_upto_if 5 with (first|((with_reducible refine Q0i (N:=2) rfl ?_);refine bE 2 #[.int .i64 aA,.int .u64 eA] 50 ?_;intro gC hg w4 hbox hb;have gA:=AM hbox;have lA:=kG HB hg;replace HB:=kH HB hb;have hC:=lA;clear hb hbox hg)|((with_reducible refine Q0i (N:=3) rfl ?_);refine bE 3 #[.int .i64 bA,.int .u64 fA] 50 ?_;intro jC hg w5 hbox hb;have hA:=AM hbox;have mA:=kG HB hg;replace HB:=kH HB hb;have kC:=mA;have cA:=kN gA hg;have dA:=kM gA hg;replace gA:=kB gA hb;clear hb hbox hg;have yC:=cA.out;have zC:=dA.out;obtain ⟨vB,wB,xB,yB⟩:=c2 gA;obtain ⟨zB,aC,bC,cC⟩:=c2 hA))
 (try simp only [Act.put,List.setIfInBounds_toArray,List.set_cons_zero,List.set_cons_succ])
 have H:=fC.out;clear fC
 by_cases c9:(aA==bA&&(eA==fA))=true
 ·rw [if_pos c9] at H
  have iA:(aA==bA&&(eA==fA))=true:=c9
  (try (have dC:decide (aA=bA&&(eA==fA))=true:=by simpa using c9))
  (try (have eC:(aA==bA&&(eA==fA))=true:=by simpa using c9))
  clear c9
  (first|rw [iA]|(simp only [Q1r,Q13];rw [iA])|skip)
  obtain rfl:=Option.some.inj H
  go_wp2
  go_ret
  exact ⟨rE,bH HB⟩
 ·rw [if_neg c9] at H
  have iA:(aA==bA&&(eA==fA))=false:=by simpa using c9
  (try (have dC:decide (aA=bA&&(eA==fA))=false:=by simpa using c9))
  (try (have eC:(aA==bA&&(eA==fA))=false:=by simpa using c9))
  (try (have aD:¬ (aA=bA&&(eA==fA)):=by simpa using c9))
  clear c9
  (first|rw [iA]|(simp only [Q1r,Q13];rw [iA])|skip)
  apply iC H<;>clear H<;>intro lC H
  ·obtain rfl:=Option.some.inj H
   have mC:=cA.out;have nC:=dA.out;obtain ⟨oA,pA,qA,rA⟩:=c2 gA;obtain ⟨sA,tA,uA,vA⟩:=c2 hA
   go_wp2
   go_ret
   exact ⟨rE,bH HB⟩
  ·by_cases kA:aA=bA
   ·rw [if_pos kA] at H
    have jA:(aA==bA)=true:=beq_iff_eq.mpr kA
    have nA:(aA != bA)=false:=bne_eq_false_iff_eq.mpr kA
    have oC:(eA==fA)=false:=by
     have pC:=iA
     rw [jA] at pC
     simpa using pC
    clear kA
    apply iC H<;>clear H<;>intro qC H
    ·obtain rfl:=Option.some.inj H
     have rC:=cA.out;have sC:=dA.out;obtain ⟨wA,xA,yA,zA⟩:=c2 gA;obtain ⟨aB,bB,cB,dB⟩:=c2 hA
     go_wp2
     go_ret
     exact ⟨rE,bH HB⟩
    ·obtain rfl:=Option.some.inj H
     have tC:=cA.out;have uC:=dA.out;obtain ⟨eB,fB,gB,hB⟩:=c2 gA;obtain ⟨iB,jB,lB,mB⟩:=c2 hA
     go_wp2
     go_ret
     exact ⟨rE,bH HB⟩
   ·rw [if_neg kA] at H
    have jA:(aA==bA)=false:=beq_eq_false_iff_ne.mpr kA
    have nA:(aA != bA)=true:=bne_iff_ne.mpr kA
    obtain rfl:=Option.some.inj H
    have vC:=cA.out;have wC:=dA.out;obtain ⟨nB,oB,pB,qB⟩:=c2 gA;obtain ⟨rB,sB,tB,uB⟩:=c2 hA
    go_wp2
    go_ret
    exact ⟨rE,bH HB⟩
end Go.Proofs.Ytbonkedecfjmdaa.P

namespace Go.Proofs.Ytbonkedecfjmdaa.P
open Go.RowKit Go.Proofs.YtbonkedecfjmdaaW.PrintWords Go.Proofs.YtbonkedecfjmdaaW.PrintLast Go.Proofs.YtbonkedecfjmdaaW.PrintMore Go.Proofs.Ytbonkedecfjmdaa.X
attribute [local go_sem] Q2a Q2b Q2s Q2q Q1z Q1y Q19 Q2c Q2r Q2p add64
set_option linter.unusedVariables false
set_option linter.unusedSimpArgs false
def Q3q.f (aA:Int) (bA:Int):Option (Int):=(Q45.f aA bA 0 0).bind fun cA=>(some cA)
set_option maxHeartbeats 8000000 in
set_option maxRecDepth 100000 in
theorem Q3q.calls (aA:Int) (bA:Int) (r:Int) (w:World) (h:Q3q.f aA bA=some r) :
  Calls Try.prog 24 #[.agg #[.int .i64 aA,.int .u64 bA]] w fun e w'=>e=.returned (.int .i64 r)∧Below w.heap.size w w':=by
 have lA:=Try.underlying50
 have HB:=AM (Below.refl w.heap.size w)
 have H:((Q45.f aA bA 0 0).bind fun cA=>(some cA))=some r:=h
 clear h
 obtain ⟨cA,A2,H⟩:=bS H
 obtain rfl:=Option.some.inj H
 go_enter Try.func24,Try.ntmps24
 go_wp2_with (first|((with_reducible refine Q0i (N:=1) rfl ?_);refine bE 1 #[.int .i64 aA,.int .u64 bA] 50 ?_;intro jA hg w3 hbox hb;have dA:=AM hbox;have eA:=kG HB hg;replace HB:=kH HB hb;have kA:=eA;clear hb hbox hg;obtain ⟨fA,gA,hA,iA⟩:=c2 dA)|((with_reducible refine Q0n (f:=53) rfl ?_);refine gL (some 5) Try.func53 #[.agg #[.int .i64 aA,.int .u64 bA],.agg #[.int .i64 0,.int .u64 0]] ?_;(with_reducible refine (Q45.calls aA bA 0 0 cA _ A2.out).mono ?_);rintro e w5 ⟨rfl,hb⟩;refine ⟨_,rfl,?_⟩;replace dA:=kB dA hb;replace HB:=kH HB hb;clear hb))
 go_ret
 exact ⟨rE,bH HB⟩
end Go.Proofs.Ytbonkedecfjmdaa.P
