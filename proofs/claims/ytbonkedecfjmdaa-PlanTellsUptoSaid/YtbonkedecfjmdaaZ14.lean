/- Written for this claim by a program of this session (a turned copy of the print): Go functions as Lean functions, and that the Go code comes to just these answers; or a statement proved out of them. No condition. Digits to the base 65536, words, and how numbers stand: plain arithmetic. -/
import Derived.Test.YtbonkedecfjmdaaZ2
import Derived.Test.YtbonkedecfjmdaaZ13

namespace Go.Proofs.Ytbonkedecfjmdaa.P
open Go.RowKit Go.Proofs.YtbonkedecfjmdaaW.PrintWords Go.Proofs.YtbonkedecfjmdaaW.PrintLast Go.Proofs.YtbonkedecfjmdaaW.PrintMore Go.Proofs.Ytbonkedecfjmdaa.X
attribute [local go_sem] Q2a Q2b Q2s Q2q Q1z Q1y Q19 Q2c Q2r Q2p add64
set_option linter.unusedVariables false
set_option linter.unusedSimpArgs false
attribute [local go_sem high] eqA50
def Q1l.l0:Nat→List (S50)→Int→Int→Int→Int→Option (Int×Int)
 | 0,_,_,_,_,_=>none
 | k+1,x11,x12,x13,x450000,x450001=>if x13<x12 then (if 0≤x13 then (if x13<(x11.length:Int) then (if (((Q2t x11 x13).f0)==0&&(((Q2t x11 x13).f1)==0))=true then (Q1l.l0 k x11 x12 (wrap64 (x13+1)) x450000 x450001) else (if (a64hi x450001 ((Q2t x11 x13).f1) 0)≤1 then (Q1l.l0 k x11 x12 (wrap64 (x13+1)) (wrap64 (a64lo (IntKind.u64.wrap (x450000)) (IntKind.u64.wrap ((Q2t x11 x13).f0)) (a64hi x450001 ((Q2t x11 x13).f1) 0))) (a64lo x450001 ((Q2t x11 x13).f1) 0)) else (none))) else (none)) else (none)) else (some (x450000,x450001))
def Q1l.f (k:Nat) (mA:Int) (nA:Int) (l1:List (S50)):Option (Int×Int):=Q1l.l0 k l1 (l1.length:Int) 0 mA nA
theorem Q1l.Q1a:∀ k,(∀ y0 y1 y2 y3 y4,LeO (Q1l.l0 k y0 y1 y2 y3 y4) (Q1l.l0 (k+1) y0 y1 y2 y3 y4))
 | 0=>fun _ _ _ _ _ r h=>by simp [Q1l.l0] at h
 | k+1=>by
  have yB:=Q1l.Q1a k
  ·intro y0 y1 y2 y3 y4
   unfold Q1l.l0
   repeat' with_reducible first|exact yB _ _ _ _ _|exact LeO.refl _|exact LeO.none _|refine LeO.ite ?_ ?_|refine LeO.bind ?_ (fun _ => ?_)
theorem Q1l.mono:∀ a0 a1 a2 k,LeO (Q1l.f k a0 a1 a2) (Q1l.f (k+1) a0 a1 a2):=by
 intro a0 a1 a2 k
 have yB:=Q1l.Q1a k
 unfold Q1l.f
 repeat' with_reducible first|exact yB _ _ _ _ _|exact LeO.refl _|exact LeO.none _|refine LeO.ite ?_ ?_|refine LeO.bind ?_ (fun _ => ?_)
set_option maxHeartbeats 8000000 in
set_option maxRecDepth 100000 in
theorem Q1l.calls (k:Nat) (mA:Int) (nA:Int) (A1:Option Addr) (c1:Nat) (l1:List (S50)) (r1:Int) (r2:Int) (w:World) (aC:Kd.C k50 w A1 l1.length l1) (bC:l1.length≤c1) (h:Q1l.f k mA nA l1=some (r1,r2)) :
  Calls Try.prog 25 #[.agg #[.int .i64 mA,.int .u64 nA],.slice A1 l1.length c1] w fun e w'=>e=.returned (.agg #[.int .i64 r1,.int .u64 r2])∧Below w.heap.size w w':=by
 have yC:=Try.underlying50
 have zC:=AM aC
 have eD:=AM bC
 clear aC bC
 have HB:=AM (Below.refl w.heap.size w)
 have H:(Q1l.l0 k l1 (l1.length:Int) 0 mA nA)=some (r1,r2):=h
 clear h
 have H':=AM H
 clear H
 go_enter Try.func25,Try.ntmps25
 go_wp2_with (first|go_step3|((with_reducible refine Q0i (N:=2) rfl ?_);refine bE 2 #[.int .i64 mA,.int .u64 nA] 50 ?_;intro vA hg w3 hbox hb;have dA:=AM hbox;have wA:=kG HB hg;replace HB:=kH HB hb;have cC:=wA;clear hb hbox hg)|((with_reducible refine Q0i (N:=4) rfl ?_);refine bE 4 #[.int .i64 0,.int .u64 0] 50 ?_;intro rA hg w4 hbox hb;have fA:=AM hbox;have xA:=kG HB hg;replace HB:=kH HB hb;have dC:=xA;have gA:=kN dA hg;have hA:=kM dA hg;replace dA:=kB dA hb;clear hb hbox hg))
 go_loopg [13] k (fun kq aD w'=>∃ (aA:Int) (cA:Int) (bA:Int),aD=.int .i64 aA∧Aside0 (Q1l.l0 kq l1 (l1.length:Int) aA cA bA=some (r1,r2))∧Aside0 (kq≤k)∧Aside0 (w'.heap[vA]? = some (.cells #[.int .i64 cA,.int .u64 bA] 50 (0,0)))∧Aside0 (w'.heap[rA]? = some (.cells #[.int .i64 0,.int .u64 0] 50 (0,0)))∧Aside0 (Below w.heap.size w w'))
 case atStart=>exact ⟨(0),(mA),(nA),rS,H',⟨Nat.le_refl _⟩,⟨bK dA⟩,⟨bK fA⟩,⟨ bH HB⟩⟩
 case round =>
  clear H'
  obtain ⟨aA,cA,bA,rfl,HA,cB,dA,fA,HB⟩:=hrel
  cases gk with
  | zero=>exact absurd HA.out (by simp [Q1l.l0])
  | succ k1 =>
   have H:=HA.out;clear HA
   simp only [Q1l.l0] at H
   apply iC H<;>clear H<;>intro bD H
   ·apply iN H;clear H;intro cD H
    ·apply iN H;clear H;intro dD H
     ·have eC:=AM H
      clear H
      have tA:0≤(aA:Int):=pD
      have uA:aA<(l1.length:Int):=pD
      obtain ⟨fC,zB,oA,pA⟩:=Qbv zC.out aA tA uA
      cases zB
      replace oA:=hW HB oA;replace pA:=hW HB pA;replace tA:=eq_true tA;replace uA:=eq_true uA
      go_upto_if 19 with (first|go_step3|((with_reducible refine Q0i (N:=6) rfl ?_);refine bE 6 #[.int .i64 0,.int .u64 0] 50 ?_;intro gC hg w9 hbox hb;have sA:=AM hbox;have yA:=kG HB hg;replace HB:=kH HB hb;have hC:=yA;have eA:=kN dA hg;have iA:=kM dA hg;replace dA:=kB dA hb;have jA:=kN fA hg;have kA:=kM fA hg;replace fA:=kB fA hb;clear hb hbox hg;have jC:=iA.out;have kC:=eA.out;have lC:=kA.out;have mC:=jA.out;obtain ⟨dB,eB,fB,gB⟩:=c2 sA))
      (try simp only [Act.put,List.setIfInBounds_toArray,List.set_cons_zero,List.set_cons_succ])
      have H:=eC.out;clear eC
      by_cases qA:(((Q2t l1 aA).f0)==0&&(((Q2t l1 aA).f1)==0))=true
      ·rw [if_pos qA] at H
       have lA:(((Q2t l1 aA).f0)==0&&(((Q2t l1 aA).f1)==0))=true:=qA
       (try (have zA:decide (((Q2t l1 aA).f0)=0&&(((Q2t l1 aA).f1)==0))=true:=by simpa using qA))
       (try (have aB:(((Q2t l1 aA).f0)==0&&(((Q2t l1 aA).f1)==0))=true:=by simpa using qA))
       clear qA
       (first|rw [lA]|(simp only [Q1r,Q13];rw [lA])|skip)
       have H':=AM H
       clear H
       go_wp2_with (go_step3)
       go_roundg k1
       case measure=>have:=cB.out;omega
       case rel=>exact ⟨(wrap64 (aA+1)),(cA),(bA),rS,H',⟨by have:=cB.out;omega⟩,⟨bK dA⟩,⟨bK fA⟩,⟨ bH HB⟩⟩
      ·rw [if_neg qA] at H
       have lA:(((Q2t l1 aA).f0)==0&&(((Q2t l1 aA).f1)==0))=false:=by simpa using qA
       (try (have zA:decide (((Q2t l1 aA).f0)=0&&(((Q2t l1 aA).f1)==0))=false:=by simpa using qA))
       (try (have aB:(((Q2t l1 aA).f0)==0&&(((Q2t l1 aA).f1)==0))=false:=by simpa using qA))
       (try (have nC:¬ (((Q2t l1 aA).f0)=0&&(((Q2t l1 aA).f1)==0)):=by simpa using qA))
       clear qA
       (first|rw [lA]|(simp only [Q1r,Q13];rw [lA])|skip)
       by_cases bB:(a64hi bA ((Q2t l1 aA).f1) 0)≤1
       ·rw [if_pos bB] at H
        have oC:=eq_true bB;have pC:=decide_eq_true bB;clear bB
        have H':=AM H
        clear H;have qC:=gA.out;have rC:=hA.out;have sC:=eA.out;have tC:=iA.out;obtain ⟨hB,iB,jB,lB⟩:=c2 dA;have uC:=kA.out;have vC:=jA.out;obtain ⟨mB,nB,oB,pB⟩:=c2 sA
        go_wp2_with (go_step3)
        go_roundg k1
        case measure=>have:=cB.out;omega
        case rel=>exact ⟨(wrap64 (aA+1)),(wrap64 (a64lo (IntKind.u64.wrap (cA)) (IntKind.u64.wrap ((Q2t l1 aA).f0)) (a64hi bA ((Q2t l1 aA).f1) 0))),(a64lo bA ((Q2t l1 aA).f1) 0),rS,H',⟨by have:=cB.out;omega⟩,⟨by (with_reducible repeat (first|refine Q0c ?_ _|refine Q0d ?_|refine Q0b ?_ _));refine Q0u (cs:=#[.int .i64 (wrap64 (a64lo (IntKind.u64.wrap (cA)) (IntKind.u64.wrap ((Q2t l1 aA).f0)) (a64hi bA ((Q2t l1 aA).f1) 0))),.int .u64 bA]) ?_ 1 _ rfl;(with_reducible repeat (first|refine Q0c ?_ _|refine Q0d ?_|refine Q0b ?_ _));refine Q0u (cs:=#[.int .i64 cA,.int .u64 bA]) ?_ 0 _ rfl;(with_reducible repeat (first|refine Q0c ?_ _|refine Q0d ?_|refine Q0b ?_ _));refine Q2f ?_ eA.out _;(with_reducible repeat (first|refine Q0c ?_ _|refine Q0d ?_|refine Q0b ?_ _));refine Q2f ?_ eA.out _;(with_reducible repeat (first|refine Q0c ?_ _|refine Q0d ?_|refine Q0b ?_ _));exact dA.out⟩,⟨bK fA⟩,⟨ bH HB⟩⟩
       ·rw [if_neg bB] at H
        exact absurd H (by simp)
   ·simp only [Option.some.injEq,Prod.mk.injEq] at H
    obtain ⟨rfl,rfl⟩:=H
    have wC:=gA.out;have xC:=hA.out;obtain ⟨qB,rB,sB,tB⟩:=c2 dA;obtain ⟨uB,vB,wB,xB⟩:=c2 fA
    go_wp2_with (go_step3)
    (try rw [Exit.noGoto_ret])
    refine bodyPost_ret (results_cell_row rfl _ _ rA 50 #[.int .i64 cA,.int .u64 bA] (0,0) _ rfl (by (with_reducible repeat (first|refine Q0c ?_ _|refine Q0d ?_|refine Q0b ?_ _));refine Q0u (cs:=#[.int .i64 cA,.int .u64 0]) ?_ 1 _ rfl;(with_reducible repeat (first|refine Q0c ?_ _|refine Q0d ?_|refine Q0b ?_ _));refine Q0u (cs:=#[.int .i64 0,.int .u64 0]) ?_ 0 _ rfl;(with_reducible repeat (first|refine Q0c ?_ _|refine Q0d ?_|refine Q0b ?_ _));exact fA.out) Try.underlying50 rfl (by kernel_rfl)) rfl ?_
    exact ⟨rE,bH HB⟩
end Go.Proofs.Ytbonkedecfjmdaa.P

namespace Go.Proofs.Ytbonkedecfjmdaa.P
open Go.RowKit Go.Proofs.YtbonkedecfjmdaaW.PrintWords Go.Proofs.YtbonkedecfjmdaaW.PrintLast Go.Proofs.YtbonkedecfjmdaaW.PrintMore Go.Proofs.Ytbonkedecfjmdaa.X
attribute [local go_sem] Q2a Q2b Q2s Q2q Q1z Q1y Q19 Q2c Q2r Q2p add64
set_option linter.unusedVariables false
set_option linter.unusedSimpArgs false
def bits_Mul64.f (a0:Int) (a1:Int):Option (Int×Int):=some (IntKind.u64.wrap ((IntKind.u64.wrap ((IntKind.u64.wrap ((a0 / 4294967296)*(a1 / 4294967296)))+((IntKind.u64.wrap ((IntKind.u64.wrap ((a0 / 4294967296)*(Go.bits .and .u64 a1 4294967295)))+((IntKind.u64.wrap ((Go.bits .and .u64 a0 4294967295)*(Go.bits .and .u64 a1 4294967295))) / 4294967296))) / 4294967296)))+((IntKind.u64.wrap ((Go.bits .and .u64 (IntKind.u64.wrap ((IntKind.u64.wrap ((a0 / 4294967296)*(Go.bits .and .u64 a1 4294967295)))+((IntKind.u64.wrap ((Go.bits .and .u64 a0 4294967295)*(Go.bits .and .u64 a1 4294967295))) / 4294967296))) 4294967295)+(IntKind.u64.wrap ((Go.bits .and .u64 a0 4294967295)*(a1 / 4294967296))))) / 4294967296)),IntKind.u64.wrap (a0*a1))
set_option maxHeartbeats 8000000 in
set_option maxRecDepth 100000 in
theorem bits_Mul64.calls (a0:Int) (a1:Int) (r1:Int) (r2:Int) (w:World) (h:bits_Mul64.f a0 a1=some (r1,r2)) :
  Calls Try.prog 86 #[.int .u64 a0,.int .u64 a1] w fun e w'=>e=.returned (.tuple #[.int .u64 r1,.int .u64 r2])∧Drawn0 w w':=by
 have H:(some (IntKind.u64.wrap ((IntKind.u64.wrap ((IntKind.u64.wrap ((a0 / 4294967296)*(a1 / 4294967296)))+((IntKind.u64.wrap ((IntKind.u64.wrap ((a0 / 4294967296)*(Go.bits .and .u64 a1 4294967295)))+((IntKind.u64.wrap ((Go.bits .and .u64 a0 4294967295)*(Go.bits .and .u64 a1 4294967295))) / 4294967296))) / 4294967296)))+((IntKind.u64.wrap ((Go.bits .and .u64 (IntKind.u64.wrap ((IntKind.u64.wrap ((a0 / 4294967296)*(Go.bits .and .u64 a1 4294967295)))+((IntKind.u64.wrap ((Go.bits .and .u64 a0 4294967295)*(Go.bits .and .u64 a1 4294967295))) / 4294967296))) 4294967295)+(IntKind.u64.wrap ((Go.bits .and .u64 a0 4294967295)*(a1 / 4294967296))))) / 4294967296)),IntKind.u64.wrap (a0*a1)))=some (r1,r2):=h
 clear h
 simp only [Option.some.injEq,Prod.mk.injEq] at H
 obtain ⟨rfl,rfl⟩:=H
 go_enter Try.func86,Try.ntmps86
 go_wp2
 go_ret2
 exact ⟨by first|rfl|(simp;done)|(simp [*];done),by repeat (first|exact Drawn0.refl _|apply Drawn0.step)⟩

def Q42.f (a0:Int) (a1:Int):Option (Int×Int):=(bits_Mul64.f (IntKind.u64.wrap (a0)) (IntKind.u64.wrap (a1))).bind fun aA=>(if a0<0 then (if a1<0 then (some (wrap64 (IntKind.u64.wrap ((IntKind.u64.wrap (aA.1 - (IntKind.u64.wrap (a1)))) - (IntKind.u64.wrap (a0)))),aA.2)) else (some (wrap64 (IntKind.u64.wrap (aA.1 - (IntKind.u64.wrap (a1)))),aA.2))) else (if a1<0 then (some (wrap64 (IntKind.u64.wrap (aA.1 - (IntKind.u64.wrap (a0)))),aA.2)) else (some (wrap64 (aA.1),aA.2))))
set_option maxHeartbeats 8000000 in
set_option maxRecDepth 100000 in
theorem Q42.calls (a0:Int) (a1:Int) (r1:Int) (r2:Int) (w:World) (h:Q42.f a0 a1=some (r1,r2)) :
  Calls Try.prog 81 #[.int .i64 a0,.int .i64 a1] w fun e w'=>e=.returned (.agg #[.int .i64 r1,.int .u64 r2])∧Below w.heap.size w w':=by
 have aB:=Try.underlying50
 have HB:=AM (Below.refl w.heap.size w)
 have H:((bits_Mul64.f (IntKind.u64.wrap (a0)) (IntKind.u64.wrap (a1))).bind fun aA=>(if a0<0 then (if a1<0 then (some (wrap64 (IntKind.u64.wrap ((IntKind.u64.wrap (aA.1 - (IntKind.u64.wrap (a1)))) - (IntKind.u64.wrap (a0)))),aA.2)) else (some (wrap64 (IntKind.u64.wrap (aA.1 - (IntKind.u64.wrap (a1)))),aA.2))) else (if a1<0 then (some (wrap64 (IntKind.u64.wrap (aA.1 - (IntKind.u64.wrap (a0)))),aA.2)) else (some (wrap64 (aA.1),aA.2)))))=some (r1,r2):=h
 clear h
 obtain ⟨⟨cA,eA⟩,A3,H⟩:=bS H
 try dsimp only at H
 have xA:=AM H
 clear H
 go_enter Try.func81,Try.ntmps81
 go_upto_if 16 with (first|((with_reducible refine Q0i (N:=4) rfl ?_);refine bE 4 #[.int .i64 0,.int .u64 0] 50 ?_;intro dA hg w5 hbox hb;have bA:=AM hbox;have gA:=kG HB hg;replace HB:=kH HB hb;have yA:=gA;clear hb hbox hg)|((with_reducible refine Q0n (f:=86) rfl ?_);refine gL (some 12) Try.func86 #[.int .u64 (IntKind.u64.wrap (a0)),.int .u64 (IntKind.u64.wrap (a1))] ?_;(with_reducible refine (bits_Mul64.calls (IntKind.u64.wrap (a0)) (IntKind.u64.wrap (a1)) cA eA _ A3.out).mono ?_);rintro e w' ⟨rfl,⟨nd,rfl⟩⟩;refine ⟨_,rfl,?_⟩))
 (try simp only [Act.put,List.setIfInBounds_toArray,List.set_cons_zero,List.set_cons_succ])
 have H:=xA.out;clear xA
 apply iC H<;>clear H<;>intro fA H
 ·(first|rw [fA]|(simp only [Q1r,Q13];rw [fA])|skip)
  apply iC H<;>clear H<;>intro bB H
  ·simp only [Option.some.injEq,Prod.mk.injEq] at H
   obtain ⟨rfl,rfl⟩:=H
   obtain ⟨pA,qA,rA,sA⟩:=c2 bA
   go_wp2
   refine bodyPost_ret (results_cell_row rfl _ _ dA 50 #[.int .i64 (wrap64 (IntKind.u64.wrap ((IntKind.u64.wrap (cA - (IntKind.u64.wrap (a1)))) - (IntKind.u64.wrap (a0))))),.int .u64 eA] (0,0) _ rfl (by (with_reducible repeat (first|refine Q0c ?_ _|refine Q0d ?_|refine Q0b ?_ _));refine Q0u (cs:=#[.int .i64 (wrap64 (IntKind.u64.wrap ((IntKind.u64.wrap (cA - (IntKind.u64.wrap (a1)))) - (IntKind.u64.wrap (a0))))),.int .u64 0]) ?_ 1 _ rfl;(with_reducible repeat (first|refine Q0c ?_ _|refine Q0d ?_|refine Q0b ?_ _));refine Q0u (cs:=#[.int .i64 0,.int .u64 0]) ?_ 0 _ rfl;(with_reducible repeat (first|refine Q0c ?_ _|refine Q0d ?_|refine Q0b ?_ _));exact bA.out) Try.underlying50 rfl (by kernel_rfl)) rfl ?_
   exact ⟨rE,bH HB⟩
  ·simp only [Option.some.injEq,Prod.mk.injEq] at H
   obtain ⟨rfl,rfl⟩:=H
   obtain ⟨tA,uA,vA,wA⟩:=c2 bA
   go_wp2
   refine bodyPost_ret (results_cell_row rfl _ _ dA 50 #[.int .i64 (wrap64 (IntKind.u64.wrap (cA - (IntKind.u64.wrap (a1))))),.int .u64 eA] (0,0) _ rfl (by (with_reducible repeat (first|refine Q0c ?_ _|refine Q0d ?_|refine Q0b ?_ _));refine Q0u (cs:=#[.int .i64 (wrap64 (IntKind.u64.wrap (cA - (IntKind.u64.wrap (a1))))),.int .u64 0]) ?_ 1 _ rfl;(with_reducible repeat (first|refine Q0c ?_ _|refine Q0d ?_|refine Q0b ?_ _));refine Q0u (cs:=#[.int .i64 0,.int .u64 0]) ?_ 0 _ rfl;(with_reducible repeat (first|refine Q0c ?_ _|refine Q0d ?_|refine Q0b ?_ _));exact bA.out) Try.underlying50 rfl (by kernel_rfl)) rfl ?_
   exact ⟨rE,bH HB⟩
 ·(first|rw [fA]|(simp only [Q1r,Q13];rw [fA])|skip)
  apply iC H<;>clear H<;>intro zA H
  ·simp only [Option.some.injEq,Prod.mk.injEq] at H
   obtain ⟨rfl,rfl⟩:=H
   obtain ⟨hA,iA,jA,kA⟩:=c2 bA
   go_wp2
   refine bodyPost_ret (results_cell_row rfl _ _ dA 50 #[.int .i64 (wrap64 (IntKind.u64.wrap (cA - (IntKind.u64.wrap (a0))))),.int .u64 eA] (0,0) _ rfl (by (with_reducible repeat (first|refine Q0c ?_ _|refine Q0d ?_|refine Q0b ?_ _));refine Q0u (cs:=#[.int .i64 (wrap64 (IntKind.u64.wrap (cA - (IntKind.u64.wrap (a0))))),.int .u64 0]) ?_ 1 _ rfl;(with_reducible repeat (first|refine Q0c ?_ _|refine Q0d ?_|refine Q0b ?_ _));refine Q0u (cs:=#[.int .i64 0,.int .u64 0]) ?_ 0 _ rfl;(with_reducible repeat (first|refine Q0c ?_ _|refine Q0d ?_|refine Q0b ?_ _));exact bA.out) Try.underlying50 rfl (by kernel_rfl)) rfl ?_
   exact ⟨rE,bH HB⟩
  ·simp only [Option.some.injEq,Prod.mk.injEq] at H
   obtain ⟨rfl,rfl⟩:=H
   obtain ⟨lA,mA,nA,oA⟩:=c2 bA
   go_wp2
   refine bodyPost_ret (results_cell_row rfl _ _ dA 50 #[.int .i64 (wrap64 (cA)),.int .u64 eA] (0,0) _ rfl (by (with_reducible repeat (first|refine Q0c ?_ _|refine Q0d ?_|refine Q0b ?_ _));refine Q0u (cs:=#[.int .i64 (wrap64 (cA)),.int .u64 0]) ?_ 1 _ rfl;(with_reducible repeat (first|refine Q0c ?_ _|refine Q0d ?_|refine Q0b ?_ _));refine Q0u (cs:=#[.int .i64 0,.int .u64 0]) ?_ 0 _ rfl;(with_reducible repeat (first|refine Q0c ?_ _|refine Q0d ?_|refine Q0b ?_ _));exact bA.out) Try.underlying50 rfl (by kernel_rfl)) rfl ?_
   exact ⟨rE,bH HB⟩

def Q1n.l0:Nat→List Int→Int→Int→Int→Option (Int×Int×Int)
 | 0,_,_,_,_=>none
 | k+1,x0,x5,x458000,x458001=>if x5<(x0.length:Int) then (if 0≤x5 then (if 0≤(wrap64 (x5+1)) then (if (wrap64 (x5+1))<(x0.length:Int) then ((Q42.f (rd x0 x5) (rd x0 (wrap64 (x5+1)))).bind fun nA=>((Q1l.f k x458000 x458001 (([(⟨nA.1,nA.2⟩:S50)]:List (S50)))).bind fun hA=>(Q1n.l0 k x0 (wrap64 (x5+2)) hA.1 hA.2))) else (none)) else (none)) else (none)) else (some (x458000,x458001,0))
def Q1n.f (k:Nat) (l0:List Int):Option (Int×Int×Int):=if ((l0.length:Int) % 2)=0 then (Q1n.l0 k l0 0 0 0) else (some (0,0,2))
theorem Q1n.Q1a:∀ k,(∀ y0 y1 y2 y3,LeO (Q1n.l0 k y0 y1 y2 y3) (Q1n.l0 (k+1) y0 y1 y2 y3))
 | 0=>fun _ _ _ _ r h=>by simp [Q1n.l0] at h
 | k+1=>by
  have eC:=Q1n.Q1a k
  ·intro y0 y1 y2 y3
   unfold Q1n.l0
   repeat' with_reducible first|exact eC _ _ _ _|exact Q1l.mono _ _ _ _|exact LeO.refl _|exact LeO.none _|refine LeO.ite ?_ ?_|refine LeO.bind ?_ (fun _ => ?_)
theorem Q1n.mono:∀ a0 k,LeO (Q1n.f k a0) (Q1n.f (k+1) a0):=by
 intro a0 k
 have eC:=Q1n.Q1a k
 unfold Q1n.f
 repeat' with_reducible first|exact eC _ _ _ _|exact Q1l.mono _ _ _ _|exact LeO.refl _|exact LeO.none _|refine LeO.ite ?_ ?_|refine LeO.bind ?_ (fun _ => ?_)
def Q1n.T7:Bool×List (List Nat×List Nat):=(true,[([],[]),([],[]),([],[]),([1,2],[1,2]),([3],[3]),([],[]),([],[]),([6],[6]),([5,7],[5,7]),([8],[8]),([4,9],[4,9]),([10],[10]),([0,11,10],[0,11]),([12,12,0,1,2,3,4,5,6,7,8,9,10,11,12],[12])])
def Q1n.B7:List Nat:=[0,0,0,6,14,0,0,64,224,480,1022,2046,4095,8191]
theorem Q1n.tab7:rtab .any (opsOf Try.f69 7)=Q1n.T7:=by kernel_rfl
theorem Q1n.bits7:waitsOk Q1n.T7.2 Q1n.B7=true:=by kernel_rfl
set_option maxHeartbeats 8000000 in
set_option maxRecDepth 100000 in
theorem Q1n.calls (k:Nat) (A0:Option Addr) (c0:Nat) (l0:List Int) (r1:Int) (r2:Int) (r3:Int) (w:World) (lC:Kd.C (Kd.int .i64) w A0 l0.length l0) (mC:l0.length≤c0) (h:Q1n.f k l0=some (r1,r2,r3)) :
  Calls Try.prog 69 #[.slice A0 l0.length c0] w fun e w'=>e=.returned (.tuple #[.agg #[.int .i64 r1,.int .u64 r2],.int .i64 r3])∧Below w.heap.size w w':=by
 have bD:=Try.underlying50
 have nC:=AM lC
 have nD:=AM mC
 clear lC mC
 have HB:=AM (Below.refl w.heap.size w)
 have H:(if ((l0.length:Int) % 2)=0 then (Q1n.l0 k l0 0 0 0) else (some (0,0,2)))=some (r1,r2,r3):=h
 clear h
 have oC:=AM H
 clear H
 go_enter Try.func69,Try.ntmps69
 go_upto_if 9 with (first|((with_reducible refine Q0i (N:=2) rfl ?_);refine bE 2 #[.int .i64 0,.int .u64 0] 50 ?_;intro sA hg w3 hbox hb;have dA:=AM hbox;have gB:=kG HB hg;replace HB:=kH HB hb;have pC:=gB;clear hb hbox hg))
 (try simp only [Act.put,List.setIfInBounds_toArray,List.set_cons_zero,List.set_cons_succ])
 have H:=oC.out;clear oC
 by_cases c4:((l0.length:Int) % 2)=0
 ·rw [if_pos c4] at H
  have tA:(((l0.length:Int) % 2)==0)=true:=beq_iff_eq.mpr c4
  have hB:(((l0.length:Int) % 2) != 0)=false:=bne_eq_false_iff_eq.mpr c4
  clear c4
  (first|rw [tA]|(simp only [Q1r,Q13];rw [tA])|skip)
  have H':=AM H
  clear H
  go_wp2_with (first|((with_reducible refine Q0i (N:=4) rfl ?_);refine bE 4 #[.int .i64 0,.int .u64 0] 50 ?_;intro mA hg w5 hbox hb;have cA:=AM hbox;have iB:=kG HB hg;replace HB:=kH HB hb;have qC:=iB;have fA:=kN dA hg;have gA:=kM dA hg;replace dA:=kB dA hb;clear hb hbox hg))
  go_loopg [5] k (fun kq v5 w'=>∃ (eA:Int) (aA:Int) (bA:Int),v5=.int .i64 eA∧Aside0 (Q1n.l0 kq l0 eA aA bA=some (r1,r2,r3))∧Aside0 (kq≤k)∧Aside0 (w'.heap[sA]? = some (.cells #[.int .i64 0,.int .u64 0] 50 (0,0)))∧Aside0 (w'.heap[mA]? = some (.cells #[.int .i64 aA,.int .u64 bA] 50 (0,0)))∧Aside0 (Below w.heap.size w w'))
  case atStart=>exact ⟨(0),(0),(0),rS,H',⟨Nat.le_refl _⟩,⟨bK dA⟩,⟨bK cA⟩,⟨ bH HB⟩⟩
  case round =>
   clear H'
   clear tA hB
   obtain ⟨eA,aA,bA,rfl,HA,rC,dA,cA,HB⟩:=hrel
   cases gk with
   | zero=>exact absurd HA.out (by simp [Q1n.l0])
   | succ k1 =>
    have H:=HA.out;clear HA
    simp only [Q1n.l0] at H
    apply iC H<;>clear H<;>intro cD H
    ·apply iN H;clear H;intro dD H
     ·obtain ⟨uA,xA⟩:∃ j_:Int,(wrap64 (eA+1))=j_:=⟨_,rfl⟩
      replace H:(if 0≤(uA) then (if (uA)<(l0.length:Int) then ((Q42.f (rd l0 eA) (rd l0 (uA))).bind fun nA=>((Q1l.f k1 aA bA (([(⟨nA.1,nA.2⟩:S50)]:List (S50)))).bind fun hA=>(Q1n.l0 k1 l0 (wrap64 (eA+2)) hA.1 hA.2))) else (none)) else (none))=some (r1,r2,r3):=by first|(rw [xA] at H;exact H)|(simp only [xA] at H ⊢;exact H)
      have sC:(IntKind.i64.wrap (eA+1))=uA:=(Q1r _).trans xA
      apply iN H;clear H;intro eD H
      ·apply iN H;clear H;intro tC H
       ·obtain ⟨⟨qA,rA⟩,fD,H⟩:=bS H
        try dsimp only at H
        obtain ⟨zA,oA⟩:∃ y_:List (S50),y_=(([(⟨qA,rA⟩:S50)]:List (S50))):=⟨_,rfl⟩
        replace H:((Q1l.f k1 aA bA zA).bind fun hA=>(Q1n.l0 k1 l0 (wrap64 (eA+2)) hA.1 hA.2))=some (r1,r2,r3):=by first|(rw [oA];with_reducible exact H)|(have fC:=(Option.bind_some _ _).symm.trans H;rw [oA];with_reducible exact fC)|(have fC:=(Option.bind_some _ _).symm.trans H;with_reducible exact fC)|with_reducible exact H|(rw [oA];exact H)|exact H
        have yA:=AM oA
        clear oA
        obtain ⟨⟨aB,jB⟩,gD,H⟩:=bS H
        try dsimp only at H
        have H':=AM H
        clear H
        try go_wp2
        replace dA:=dB dA;replace cA:=dB cA;replace HB:=dH HB
        have bB:0≤(eA:Int):=pD
        have cB:eA<(l0.length:Int):=pD
        obtain ⟨vA,gC,iA⟩:=Kd.Q2n nC.out eA bB cB
        have jA:=iA
        cases gC
        replace iA:=hW HB iA;replace bB:=eq_true bB;replace cB:=eq_true cB
        have eB:0≤((uA):Int):=pD
        have fB:(uA)<(l0.length:Int):=pD
        obtain ⟨lB,hC,kA⟩:=Kd.Q2n nC.out (uA) eB fB
        have lA:=kA
        obtain rfl:vA=lB:=(by injection hC)
        replace kA:=hW HB kA;replace eB:=eq_true eB;replace fB:=eq_true fB
        refine sP 14 (S:=fun w'=>w'.cell? ⟨mA,0,none⟩=some (.int .i64 aA)∧w'.cell? ⟨mA,1,none⟩=some (.int .u64 bA)∧w'.cell? (vA.add (eA).toNat)=some (.int .i64 (rd l0 eA))∧w'.cell? (vA.add ((uA)).toNat)=some (.int .i64 (rd l0 (uA)))) (ds:=[13]) ⟨bC cA,bC cA,(hW HB jA :),(hW HB lA :)⟩ fun hHeld => ?_;refine Q1m Q1n.tab7 Q1n.bits7 (fun HT_ HW_ => ?_)
        generalize wr.drew=w13 at dA cA HB iA kA hHeld ⊢
        refine pQ 1 (some 18) HT_ ?_;refine pQ 2 (some 19) HT_ ?_;refine pQ 3 (some 20) HT_ ?_;refine pQ 5 (some 22) HT_ ?_;refine pQ 6 (some 23) HT_ ?_;refine pQ 7 (some 24) HT_ ?_;refine pQ 8 (some 25) HT_ ?_;refine tQ 0 (some 17) HT_ HW_ hHeld ?_;refine tQ 4 (some 21) HT_ HW_ hHeld ?_;refine tQ 9 (some 26) HT_ HW_ hHeld ?_
        refine oQ 10 (some 27) HT_ rfl fun K hK => ?_
        refine goes_ Try.func81 (by kernel_rfl) rfl #[.int .i64 (rd l0 eA),.int .i64 (rd l0 (uA))] (by rfl) rfl rfl (by (try simp only [List.map_toArray,List.map_cons,List.map_nil]);first|done|(simp only [xA];rfl)|rfl|(simp only [List.length_drop,List.length_take];rfl)) ?_
        with_reducible refine (Q42.calls (rd l0 eA) (rd l0 (uA)) qA rA _ fD.out).mono ?_
        rintro e oD ⟨rfl,hb⟩
        refine ⟨_,rfl,?_⟩
        replace dA:=kB dA hb;replace cA:=kB cA hb;replace HB:=kH HB hb;clear hb
        refine hK.out _ _ ⟨bC cA,bC cA,(hW HB jA :),(hW HB lA :)⟩ (fun hHeld => ?_)
        clear hK K;refine nP (some 27) ?_
        refine oQ 11 (some 28) HT_ rfl fun K hK => ?_
        refine Kd.Q7j k50 _ 50 ?hg (N:=28) ?hd (xs:=([(⟨qA,rA⟩:S50)]:List (S50))) (inner:=[.int .i64 qA,.int .u64 rA]) (ok:=fun _=>True) (okp:=fun _=>True) ?hr ?hp (fun _ hk=>hk) trivial (Below.refl _ _) (Nat.le_refl _) (by simp) ?_;(case hd=>rfl);(case hg=>rfl);(case hr=>first|(go_simp;done)|(go_simp;rfl));(case hp=>exact (Reps.c2 (show Kd.M k50 _ _ _ (⟨qA,rA⟩:S50) [.int .i64 qA,.int .u64 rA] from (Q7z _ _ _ (⟨qA,rA⟩:S50) )) (Reps.none _ _)))
        intro hD qD wA hb hg_ hnew_
        clear hg_ hnew_
        (first|rw [← yA.out] at wA|(simp only [Int.reduceToNat] at wA;rw [← yA.out] at wA))
        have pA:=AM (Kd.Q1b (Kd.Q2v (Kd.Q2v wA (g:=sA) (o:=.cells #[.int .i64 0,.int .u64 0] 50 (0,0)) (bK dA)) (g:=mA) (o:=.cells #[.int .i64 aA,.int .u64 bA] 50 (0,0)) (bK cA)) (Q0h (bH HB)))
        replace dA:=kB dA hb;replace cA:=kB cA hb;replace HB:=kH HB hb;clear hb wA
        obtain ⟨jC,kC,mB⟩:=Kd.Q01 pA.out
        (first|subst mB|(injection mB with uC iD vC;have jD:=uC.symm;have kD:=vC.symm;clear uC iD vC;subst jD;subst kD))
        refine hK.out _ _ ⟨bC cA,bC cA,(hW HB jA :),(hW HB lA :)⟩ (fun hHeld => ?_)
        clear hK K;refine nP (some 28) ?_
        refine oQ 12 (some 29) HT_ rfl fun K hK => ?_
        refine gO Try.func25 #[.agg #[.int .i64 aA,.int .u64 bA],.slice jC zA.length kC] ?_
        with_reducible refine (Q1l.calls k1 aA bA _ _ zA aB jB _ ?side1 ?side2 gD.out).mono ?_
        (case side1=>exact sR pA)
        (case side2=>exact (Kd.Q0w pA.out).2.1)
        rintro e wC ⟨rfl,hb⟩
        refine ⟨_,rfl,?_⟩
        replace pA:=kR pA hb;replace dA:=kB dA hb;replace cA:=kB cA hb;replace HB:=kH HB hb;clear hb
        refine hK.out _ _ ⟨bC cA,bC cA,(hW HB jA :),(hW HB lA :)⟩ (fun hHeld => ?_)
        clear hK K;refine nP (some 29) ?_
        refine last_ (i:=13) (N:=none) #[true,true,true,true,true,true,true,true,true,true,true,true,true,true] rfl rfl (Q7e HT_.out (by kernel_rfl)) (by decide) (fun K hK => ?_)
        have lD:wC.cell? ⟨mA,0,none⟩=some (.int .i64 aA):=bC cA
        have xC:=Q0k cA.out 0
        have nB:=fA.out;have oB:=gA.out
        have mD:wC.cell? ⟨mA,1,none⟩=some (.int .u64 bA):=bC cA
        have yC:=Q0k cA.out 1
        have pB:=fA.out;have qB:=gA.out
        refine skip_ (w1 := ?_) (by rfl) rfl ?_ ?_
        rotate_left
        ·go_simp
         rfl
        refine hK.out _ _ ?_
        clear hK K
        refine done_ (Q2d HT_.out (by kernel_rfl)) ?_
        try go_wp2
        go_roundg k1
        case measure=>have:=rC.out;omega
        case rel=>exact ⟨(wrap64 (eA+2)),(aB),(jB),rS,H',⟨by have:=rC.out;omega⟩,⟨bK dA⟩,⟨by (with_reducible repeat (first|refine Q0c ?_ _|refine Q0d ?_|refine Q0b ?_ _));refine Q0u (cs:=#[.int .i64 aB,.int .u64 bA]) ?_ 1 _ rfl;(with_reducible repeat (first|refine Q0c ?_ _|refine Q0d ?_|refine Q0b ?_ _));refine Q0u (cs:=#[.int .i64 aA,.int .u64 bA]) ?_ 0 _ rfl;(with_reducible repeat (first|refine Q0c ?_ _|refine Q0d ?_|refine Q0b ?_ _));exact cA.out⟩,⟨ bH HB⟩⟩
    ·simp only [Option.some.injEq,Prod.mk.injEq] at H
     obtain ⟨rfl,rfl,rfl⟩:=H
     have zC:=gA.out;have aD:=fA.out;obtain ⟨rB,sB,tB,uB⟩:=c2 cA;obtain ⟨vB,wB,xB,yB⟩:=c2 dA
     go_wp2
     refine bodyPost_ret (Q7f rfl _ _ sA 50 #[.int .i64 aA,.int .u64 bA] (0,0) _ rfl (by (with_reducible repeat (first|refine Q0c ?_ _|refine Q0d ?_|refine Q0b ?_ _));refine Q0u (cs:=#[.int .i64 aA,.int .u64 0]) ?_ 1 _ rfl;(with_reducible repeat (first|refine Q0c ?_ _|refine Q0d ?_|refine Q0b ?_ _));refine Q0u (cs:=#[.int .i64 0,.int .u64 0]) ?_ 0 _ rfl;(with_reducible repeat (first|refine Q0c ?_ _|refine Q0d ?_|refine Q0b ?_ _));exact dA.out) Try.underlying50 rfl (by kernel_rfl)) rfl ?_
     exact ⟨rE,bH HB⟩
 ·rw [if_neg c4] at H
  have tA:(((l0.length:Int) % 2)==0)=false:=beq_eq_false_iff_ne.mpr c4
  have hB:(((l0.length:Int) % 2) != 0)=true:=bne_iff_ne.mpr c4
  (first|rw [tA]|(simp only [Q1r,Q13];rw [tA])|skip)
  simp only [Option.some.injEq,Prod.mk.injEq] at H
  obtain ⟨rfl,rfl,rfl⟩:=H
  obtain ⟨zB,aC,cC,dC⟩:=c2 dA
  go_wp2
  refine bodyPost_ret (Q7f rfl _ _ sA 50 #[.int .i64 0,.int .u64 0] (0,0) _ rfl (by (with_reducible repeat (first|refine Q0c ?_ _|refine Q0d ?_|refine Q0b ?_ _));refine Q0u (cs:=#[.int .i64 0,.int .u64 0]) ?_ 1 _ rfl;(with_reducible repeat (first|refine Q0c ?_ _|refine Q0d ?_|refine Q0b ?_ _));refine Q0u (cs:=#[.int .i64 0,.int .u64 0]) ?_ 0 _ rfl;(with_reducible repeat (first|refine Q0c ?_ _|refine Q0d ?_|refine Q0b ?_ _));exact dA.out) Try.underlying50 rfl (by kernel_rfl)) rfl ?_
  exact ⟨rE,bH HB⟩

def Q2w.f (k:Nat) (cA:Int) (dA:Int) (eB:Int) (hA:Int) (iA:Int) (fB:Int) (jA:Int) (kA:Int) (gB:Int):Option (Int):=(Q1n.f k (([wrap64 (hA - cA),wrap64 (kA - dA),wrap64 (dA - iA),wrap64 (jA - cA)]:List Int))).bind fun gA=>((Q3q.f gA.1 gA.2.1).bind fun mA=>(some mA))
theorem Q2w.mono:∀ a0 a1 a2 a3 a4 a5 a6 a7 a8 k,LeO (Q2w.f k a0 a1 a2 a3 a4 a5 a6 a7 a8) (Q2w.f (k+1) a0 a1 a2 a3 a4 a5 a6 a7 a8):=by
 intro a0 a1 a2 a3 a4 a5 a6 a7 a8 k
 unfold Q2w.f
 repeat' with_reducible first|exact Q1n.mono _ _|exact LeO.refl _|exact LeO.none _|refine LeO.ite ?_ ?_|refine LeO.bind ?_ (fun _ => ?_)
set_option maxHeartbeats 8000000 in
set_option maxRecDepth 100000 in
theorem Q2w.calls (k:Nat) (cA:Int) (dA:Int) (eB:Int) (hA:Int) (iA:Int) (fB:Int) (jA:Int) (kA:Int) (gB:Int) (r:Int) (w:World) (h:Q2w.f k cA dA eB hA iA fB jA kA gB=some r) :
  Calls Try.prog 60 #[.agg #[.int .i64 cA,.int .i64 dA,.int .i64 eB],.agg #[.int .i64 hA,.int .i64 iA,.int .i64 fB],.agg #[.int .i64 jA,.int .i64 kA,.int .i64 gB]] w fun e w'=>e=.returned (.int .i64 r)∧Below w.heap.size w w':=by
 have gD:=Try.underlying27
 have hD:=Try.underlying50
 have HB:=AM (Below.refl w.heap.size w)
 have H:((Q1n.f k (([wrap64 (hA - cA),wrap64 (kA - dA),wrap64 (dA - iA),wrap64 (jA - cA)]:List Int))).bind fun gA=>((Q3q.f gA.1 gA.2.1).bind fun mA=>(some mA)))=some r:=h
 clear h
 obtain ⟨iB,lA⟩:∃ y_:List Int,y_=(([wrap64 (hA - cA),wrap64 (kA - dA),wrap64 (dA - iA),wrap64 (jA - cA)]:List Int)):=⟨_,rfl⟩
 replace H:((Q1n.f k iB).bind fun gA=>((Q3q.f gA.1 gA.2.1).bind fun mA=>(some mA)))=some r:=by first|(rw [lA];with_reducible exact H)|(have kC:=(Option.bind_some _ _).symm.trans H;rw [lA];with_reducible exact kC)|(have kC:=(Option.bind_some _ _).symm.trans H;with_reducible exact kC)|with_reducible exact H|(rw [lA];exact H)|exact H
 have hB:=AM lA
 clear lA
 obtain ⟨⟨oA,bB,lC⟩,A4,H⟩:=bS H
 try dsimp only at H
 obtain ⟨mA,A5,H⟩:=bS H
 obtain rfl:=Option.some.inj H
 go_enter Try.func60,Try.ntmps60
 go_wp2_with (first|((with_reducible refine Q0i (N:=3) rfl ?_);refine bE 3 #[.int .i64 cA,.int .i64 dA,.int .i64 eB] 27 ?_;intro pC hg w6 hbox hb;have aA:=AM hbox;have jB:=kG HB hg;replace HB:=kH HB hb;have qC:=jB;clear hb hbox hg)|((with_reducible refine Q0i (N:=4) rfl ?_);refine bE 4 #[.int .i64 hA,.int .i64 iA,.int .i64 fB] 27 ?_;intro rC hg w7 hbox hb;have bA:=AM hbox;have lB:=kG HB hg;replace HB:=kH HB hb;have sC:=lB;have pA:=kN aA hg;have qA:=kM aA hg;replace aA:=kB aA hb;clear hb hbox hg)|((with_reducible refine Q0i (N:=5) rfl ?_);refine bE 5 #[.int .i64 jA,.int .i64 kA,.int .i64 gB] 27 ?_;intro tC hg w8 hbox hb;have eA:=AM hbox;have mB:=kG HB hg;replace HB:=kH HB hb;have uC:=mB;have rA:=kN aA hg;have sA:=kM aA hg;replace aA:=kB aA hb;have tA:=kN bA hg;have uA:=kM bA hg;replace bA:=kB bA hb;clear hb hbox hg;have iD:=qA.out;have jD:=pA.out;have vC:=tA.out;have wC:=uA.out;obtain ⟨oB,pB,qB,rB,sB,tB⟩:=c3 bA;have xC:=rA.out;have yC:=sA.out;obtain ⟨uB,vB,wB,xB,yB,zB⟩:=c3 aA;obtain ⟨aC,bC,cC,dC,eC,fC⟩:=c3 eA)|((with_reducible refine Q0i (N:=30) rfl ?_);refine Kd.Q4s (Kd.int .i64) _ 3 ?hg (N:=30) ?hd (xs:=([wrap64 (hA - cA),wrap64 (kA - dA),wrap64 (dA - iA),wrap64 (jA - cA)]:List Int)) (inner:=[.int .i64 (wrap64 (hA - cA)),.int .i64 (wrap64 (kA - dA)),.int .i64 (wrap64 (dA - iA)),.int .i64 (wrap64 (jA - cA))]) (ok:=fun _=>True) (okp:=fun _=>True) ?hr ?hp (fun _ hk=>hk) trivial (Below.refl _ _) (Nat.le_refl _) (by simp) ?_;(case hd=>rfl);(case hg=>rfl);(case hr=>first|(go_simp;done)|(go_simp;rfl));(case hp=>exact (Reps.one (show Kd.M (Kd.int .i64) _ _ _ (wrap64 (hA - cA)) [.int .i64 (wrap64 (hA - cA))] from rfl) (Reps.one (show Kd.M (Kd.int .i64) _ _ _ (wrap64 (kA - dA)) [.int .i64 (wrap64 (kA - dA))] from rfl) (Reps.one (show Kd.M (Kd.int .i64) _ _ _ (wrap64 (dA - iA)) [.int .i64 (wrap64 (dA - iA))] from rfl) (Reps.one (show Kd.M (Kd.int .i64) _ _ _ (wrap64 (jA - cA)) [.int .i64 (wrap64 (jA - cA))] from rfl) (Reps.none _ _))))));intro kD lD cB hb hg_ hnew_;clear hg_ hnew_;(first|rw [← hB.out] at cB|(simp only [Int.reduceToNat] at cB;rw [← hB.out] at cB));have fA:=AM (Kd.Q1b cB (Q0h (bH HB)));replace aA:=kB aA hb;replace bA:=kB bA hb;replace eA:=kB eA hb;replace HB:=kH HB hb;clear hb cB;obtain ⟨mC,nC,oC⟩:=Kd.Q01 fA.out;subst oC)|((with_reducible refine Q0n (f:=69) rfl ?_);refine gL (some 31) Try.func69 #[.slice mC iB.length nC] ?_;(with_reducible refine (Q1n.calls k _ _ iB oA bB lC _ ?side1 ?side2 A4.out).mono ?_);(case side1=>exact sR fA);(case side2=>exact (Kd.Q0w fA.out).2.1);rintro e mD ⟨rfl,hb⟩;refine ⟨_,rfl,?_⟩;replace fA:=kR fA hb;replace aA:=kB aA hb;replace bA:=kB bA hb;replace eA:=kB eA hb;replace HB:=kH HB hb;clear hb)|((with_reducible refine Q0i (N:=7) rfl ?_);refine bE 7 #[.int .i64 0,.int .u64 0] 50 ?_;intro dB hg nD hbox hb;replace fA:=kR fA hb;have nA:=AM hbox;have nB:=kG HB hg;replace HB:=kH HB hb;have zC:=nB;have vA:=kN aA hg;have wA:=kM aA hg;replace aA:=kB aA hb;have xA:=kN bA hg;have yA:=kM bA hg;replace bA:=kB bA hb;have zA:=kN eA hg;have aB:=kM eA hg;replace eA:=kB eA hb;clear hb hbox hg;have aD:=wA.out;have bD:=vA.out;have cD:=yA.out;have dD:=xA.out;have eD:=aB.out;have fD:=zA.out;obtain ⟨gC,hC,iC,jC⟩:=c2 nA)|((with_reducible refine Q0n (f:=24) rfl ?_);refine gL (some 35) Try.func24 #[.agg #[.int .i64 oA,.int .u64 bB]] ?_;(with_reducible refine (Q3q.calls oA bB mA _ A5.out).mono ?_);rintro e oD ⟨rfl,hb⟩;refine ⟨_,rfl,?_⟩;replace fA:=AM (Kd.Q40 (by (with_reducible repeat (first|apply Kd.Q10|apply Kd.Q11|apply Kd.Q2h));exact (Kd.Q1q (Kd.Q3p (p:=⟨dB,1,none⟩) (Kd.Q3p (p:=⟨dB,0,none⟩) (Kd.Q2y fA.out nA.out (by decide)) (fun _ hk=>hk.2) (.int .i64 oA)) (fun _ hk=>hk.2) (.int .u64 bB)) (fun _ h_=>h_.1))) hb);replace aA:=kB aA hb;replace bA:=kB bA hb;replace eA:=kB eA hb;replace nA:=AM (Q1p (g:=dB) (o:=.cells #[.int .i64 oA,.int .u64 bB] 50 (0,0)) (by (with_reducible repeat (first|refine Q0c ?_ _|refine Q0d ?_|refine Q0b ?_ _));refine Q0u (cs:=#[.int .i64 oA,.int .u64 0]) ?_ 1 _ rfl;(with_reducible repeat (first|refine Q0c ?_ _|refine Q0d ?_|refine Q0b ?_ _));refine Q0u (cs:=#[.int .i64 0,.int .u64 0]) ?_ 0 _ rfl;(with_reducible repeat (first|refine Q0c ?_ _|refine Q0d ?_|refine Q0b ?_ _));exact nA.out) hb);replace HB:=kH HB hb;clear hb))
 go_ret
 exact ⟨rE,bH HB⟩

def Q7l.f (a0:Int):Option (Int×Int):=some (a0 / 9223372036854775808,IntKind.u64.wrap (a0))
set_option maxHeartbeats 8000000 in
set_option maxRecDepth 100000 in
theorem Q7l.calls (a0:Int) (r1:Int) (r2:Int) (w:World) (h:Q7l.f a0=some (r1,r2)) :
  Calls Try.prog 26 #[.int .i64 a0] w fun e w'=>e=.returned (.agg #[.int .i64 r1,.int .u64 r2])∧Below w.heap.size w w':=by
 have iA:=Try.underlying50
 have HB:=AM (Below.refl w.heap.size w)
 have H:(some (a0 / 9223372036854775808,IntKind.u64.wrap (a0)))=some (r1,r2):=h
 clear h
 simp only [Option.some.injEq,Prod.mk.injEq] at H
 obtain ⟨rfl,rfl⟩:=H
 go_enter Try.func26,Try.ntmps26
 go_wp2_with (first|((with_reducible refine Q0i (N:=2) rfl ?_);refine bE 2 #[.int .i64 0,.int .u64 0] 50 ?_;intro bA hg w2 hbox hb;have aA:=AM hbox;have cA:=kG HB hg;replace HB:=kH HB hb;have hA:=cA;clear hb hbox hg;obtain ⟨dA,eA,fA,gA⟩:=c2 aA))
 refine bodyPost_ret (results_cell_row rfl _ _ bA 50 #[.int .i64 (a0 / 9223372036854775808),.int .u64 (IntKind.u64.wrap (a0))] (0,0) _ rfl (by (with_reducible repeat (first|refine Q0c ?_ _|refine Q0d ?_|refine Q0b ?_ _));refine Q0u (cs:=#[.int .i64 (a0 / 9223372036854775808),.int .u64 0]) ?_ 1 _ rfl;(with_reducible repeat (first|refine Q0c ?_ _|refine Q0d ?_|refine Q0b ?_ _));refine Q0u (cs:=#[.int .i64 0,.int .u64 0]) ?_ 0 _ rfl;(with_reducible repeat (first|refine Q0c ?_ _|refine Q0d ?_|refine Q0b ?_ _));exact aA.out) Try.underlying50 rfl (by kernel_rfl)) rfl ?_
 exact ⟨rE,bH HB⟩
end Go.Proofs.Ytbonkedecfjmdaa.P

namespace Go.Proofs.Ytbonkedecfjmdaa.WL
set_option linter.unusedVariables false
set_option linter.unusedSimpArgs false
open Go.RowKit Go.Proofs.Ytbonkedecfjmdaa.P Go.Proofs.Ytbonkedecfjmdaa.X Go.Proofs.YtbonkedecfjmdaaW.PrintWords Go.Proofs.YtbonkedecfjmdaaW.PrintLast Go.Proofs.YtbonkedecfjmdaaW.PrintMore
theorem u64w (x:Int):IntKind.u64.wrap x=x % 18446744073709551616:=by
 unfold IntKind.wrap;rfl
theorem Q2u {x:Int} (h : -9223372036854775808≤x) (h':x≤9223372036854775807):wrap64 x=x:=by
 unfold wrap64;omega
theorem tmod65536 (x:Int):Int.tmod x 65536=if 0≤x then x % 65536 else -((-x) % 65536):=by
 split
 ·rename_i h;exact Int.tmod_eq_emod_of_nonneg h
 ·rename_i h
  have h':0 ≤ -x:=by omega
  rw [← Int.tmod_eq_emod_of_nonneg h',Int.neg_tmod,Int.neg_neg]
theorem Qbs (q:Int):Int.tdiv (65536*q) 65536=q:=Int.mul_tdiv_cancel_left q (by decide)
theorem Qcx {x:Int} (h:0≤x):Int.tdiv x 65536=x / 65536:=Int.tdiv_eq_ediv_of_nonneg h
theorem Q7x {x:Int} (h:0≤x):Int.tmod x 65536=x % 65536:=Int.tmod_eq_emod_of_nonneg h
def digs:Nat→Int→List Int
 | 0,_=>[]
 | n+1,x=>(x % 65536) :: digs n (x / 65536)
def hor:List Int→Int
 | []=>0
 | d :: l=>d+65536*hor l
abbrev dig (x:Int):List Int:=digs 8 x
theorem Q3o:∀ n x,(digs n x).length=n
 | 0,_=>rfl
 | n+1,x=>by simp [digs,Q3o n]
theorem Q3d:∀ n x d,d∈digs n x→0≤d∧d<65536
 | 0,_,d,h=>by simp [digs] at h
 | n+1,x,d,h=>by
  simp only [digs,List.mem_cons] at h
  rcases h with rfl|h
  ·omega
  ·exact Q3d n _ d h
theorem Q47:∀ n x,∃ q:Int,hor (digs n x)=x - q*65536 ^ n
 | 0,x=>⟨x,by simp [digs,hor]⟩
 | n+1,x=>by
  obtain ⟨q,hq⟩:=Q47 n (x / 65536)
  refine ⟨q,?_⟩
  have e:q*(65536:Int) ^ (n+1)=65536*(q*65536 ^ n):=by
   rw [Int.pow_succ,← Int.mul_assoc,Int.mul_comm]
  rw [e]
  simp only [digs,hor,hq]
  generalize q*(65536:Int) ^ n=P
  omega
theorem Qah:∀ n (x q:Int),digs n (x+q*65536 ^ n)=digs n x
 | 0,_,_=>rfl
 | n+1,x,q=>by
  have e:q*(65536:Int) ^ (n+1)=65536*(q*65536 ^ n):=by
   rw [Int.pow_succ,← Int.mul_assoc,Int.mul_comm]
  rw [e]
  have ih:=Qah n (x / 65536) q
  generalize q*(65536:Int) ^ n=P at ih ⊢
  simp only [digs]
  rw [show (x+65536*P) % 65536=x % 65536 by omega,show (x+65536*P) / 65536=x / 65536+P by omega,ih]
theorem Q4x {n:Nat} {x y:Int} (h:∃ q:Int,x=y+q*65536 ^ n):digs n x=digs n y:=by
 obtain ⟨q,rfl⟩:=h;exact Qah n y q
theorem Qhb {x y:Int} (h:(x - y) % 340282366920938463463374607431768211456=0):dig x=dig y :=
 Q4x ⟨(x - y) / 340282366920938463463374607431768211456,by
  have:(65536:Int) ^ 8=340282366920938463463374607431768211456:=by decide
  rw [this];omega⟩
theorem Qh9 (x:Int):dig (hor (dig x))=dig x:=by
 obtain ⟨q,hq⟩:=Q47 8 x
 exact Q4x ⟨-q,by rw [show dig x=digs 8 x from rfl,hq];generalize (65536:Int) ^ 8=M;rw [Int.neg_mul];omega⟩
theorem Qf9 (hi lo:Int) (h0:0≤lo) (h1:lo<18446744073709551616):digs 4 lo++(digs 8 hi).take 4=dig (hi*18446744073709551616+lo):=by
 simp only [digs,List.take_succ_cons,List.take_zero,List.cons_append,List.nil_append]
 congr 1
 ·omega
 ·congr 1
  ·omega
  ·congr 1
   ·omega
   ·congr 1
    ·omega
    ·congr 1
     ·omega
     ·congr 1
      ·omega
      ·congr 1
       ·omega
       ·congr 1;omega
theorem Qf0 (l:List Int) (i:Int) (h0:i.toNat<l.length):rd l i=l[i.toNat]:=by
 unfold rd;rw [List.getD_eq_getElem?_getD,List.getElem?_eq_getElem h0];rfl
theorem Q4v:∀ l:List Int,(∀ d∈l,0≤d∧d<65536)→0≤hor l∧hor l<65536 ^ l.length
 | [],_=>by simp [hor]
 | d :: l,h=>by
  have h1:=h d (by simp)
  have h2:=Q4v l fun x hx=>h x (by simp [hx])
  simp only [hor,List.length_cons,Int.pow_succ]
  generalize (65536:Int) ^ l.length=P at h2 ⊢
  omega
theorem Q70:∀ (l:List Int) (n:Nat) (h:n<l.length),hor (l.take (n+1))=hor (l.take n)+l[n]*65536 ^ n
 | [],n,h=>by simp at h
 | d :: l,0,_=>by simp [hor]
 | d :: l,n+1,h=>by
  have h':n<l.length:=by simpa using h
  have ih:=Q70 l n h'
  simp only [List.take_succ_cons,hor,List.getElem_cons_succ]
  rw [ih,Int.pow_succ]
  rw [Int.mul_add,show l[n]*((65536:Int) ^ n*65536)=65536*(l[n]*65536 ^ n) by rw [← Int.mul_assoc,Int.mul_comm]]
  omega
theorem Q8r (n:Nat) (x:Int):hor (digs n x)=x % 65536 ^ n:=by
 obtain ⟨q,hq⟩:=Q47 n x
 have hr:=Q4v (digs n x) (Q3d n x)
 rw [Q3o] at hr
 have e:x=hor (digs n x)+q*65536 ^ n:=by omega
 generalize hor (digs n x)=H at *
 rw [e,Int.add_mul_emod_self_right]
 exact (Int.emod_eq_of_lt hr.1 hr.2).symm
def cmp3 (a b:Int):Int:=if a<b then -1 else if b<a then 1 else 0
def off (x:Int):Int:=(x+170141183460469231731687303715884105728) % 340282366920938463463374607431768211456
theorem Q7g (x:Int):hor (digs 7 x)+((x / 65536 / 65536 / 65536 / 65536 / 65536 / 65536 / 65536 % 65536+32768) % 65536)*65536 ^ 7=off x:=by
 rw [Q8r]
 have:(65536:Int) ^ 7=5192296858534827628530496329220096:=by decide
 rw [this];unfold off;omega
theorem Q91 (a b:Int):cmp3 a b=0↔a=b:=by unfold cmp3;split<;>(try split)<;>omega
theorem Qgp {x y:Int}:off x=off y↔(x - y) % 340282366920938463463374607431768211456=0:=by unfold off;omega
theorem Q29 (n:Nat) (h:n<9223372036854775807):wrap64 ((n:Int)+1)=((n+1:Nat):Int):=by unfold wrap64;omega
theorem Q6b (l:List Int) (i:Nat) (h:i<l.length):rd l (i:Int)=l[i]:=Qf0 l i (by simpa using h)
theorem Qba:∀ a b:List Int,a.length=b.length→hor (List.zipWith (· + ·) a b)=hor a+hor b
 | [],[],_=>rfl
 | x :: a,y :: b,h=>by
  simp only [List.zipWith,hor,Qba a b (by simpa using h)];omega
 | [],_ :: _,h=>by simp at h
 | _ :: _,[],h=>by simp at h
theorem Qbc:∀ (l:List Int) (n:Nat) (v:Int) (h:n<l.length),hor (l.set n v)=hor l+(v - l[n])*65536 ^ n
 | [],n,v,h=>by simp at h
 | d :: l,0,v,_=>by simp [hor];omega
 | d :: l,n+1,v,h=>by
  have h':n<l.length:=by simpa using h
  have ih:=Qbc l n v h'
  simp only [List.set_cons_succ,hor,List.getElem_cons_succ,ih,Int.pow_succ]
  grind
theorem ring1 (h x p y T:Int):h+x*p*y+T=h+T+x*y*p:=by grind
theorem ring2 (h D x y P H T:Int):h+(D+x*y - D)*P+x*(P*65536)*H+T=h+x*P*(y+65536*H)+T:=by grind
theorem ring3 (h x P B H:Int):h+x*P*B+P*65536*H*B=h+P*(x+65536*H)*B:=by grind
theorem mulb {x y:Int} (h1:0≤x) (h2:x<65536) (h3:0≤y) (h4:y<65536):0≤x*y∧x*y≤4294836225:=by
 have:=Int.mul_le_mul (show x≤65535 by omega) (show y≤65535 by omega) h3 (by decide)
 exact ⟨Int.mul_nonneg h1 h3,this⟩
theorem Q9z:∀ (n:Nat) (x:Int),(digs n x).map (fun d=>65535 - d)=digs n (-x - 1)
 | 0,_=>rfl
 | n+1,x=>by
  simp only [digs,List.map_cons,Q9z n]
  rw [show 65535 - x % 65536=(-x - 1) % 65536 by omega,show -(x / 65536) - 1=(-x - 1) / 65536 by omega]
def dotS:List Int→Int
 | a :: b :: l=>a*b+dotS l
 | _=>0
end Go.Proofs.Ytbonkedecfjmdaa.WL
