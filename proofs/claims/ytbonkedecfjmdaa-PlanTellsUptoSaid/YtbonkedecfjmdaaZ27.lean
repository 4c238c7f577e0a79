/- Written for this claim by a program of this session (a turned copy of the print): Go functions as Lean functions, and that the Go code comes to just these answers; or a statement proved out of them. No condition. -/
import Derived.Test.YtbonkedecfjmdaaZ26
import Derived.Test.YtbonkedecfjmdaaZ2
import Derived.Test.YtbonkedecfjmdaaZ21
import Derived.Test.YtbonkedecfjmdaaZ25
import Derived.Test.YtbonkedecfjmdaaZ12
import Derived.Test.YtbonkedecfjmdaaZ19
import Derived.Test.YtbonkedecfjmdaaZ13
import Derived.Test.YtbonkedecfjmdaaZ16

namespace Go.Proofs.Ytbonkedecfjmdaa.P
open Go.RowKit Go.Proofs.YtbonkedecfjmdaaW.PrintWords Go.Proofs.YtbonkedecfjmdaaW.PrintLast Go.Proofs.YtbonkedecfjmdaaW.PrintMore Go.Proofs.Ytbonkedecfjmdaa.X
attribute [local go_sem] Q2a Q2b Q2s Q2q Q1z Q1y Q19 Q2c Q2r Q2p add64
set_option linter.unusedVariables false
set_option linter.unusedSimpArgs false
def Q35.f (bA:List (List (S27))) (aA:List (List Int)) (cA:List (List Int)):Option (Bool):=if (∀ x∈bA,x.length≤20000)∧aA.length≤20000∧aA.flatten.length≤20000∧(∀ x∈aA,∀ n∈x,-9223372036854775808≤n∧n≤9223372036854775807)∧bA.length≤1000000 then (some (Pl.closesV bA aA)) else (none)
set_option maxHeartbeats 8000000 in
set_option maxRecDepth 100000 in
theorem Q35.calls (dA:Option Addr) (eA:Nat) (bA:List (List (S27))) (fA:Option Addr) (gA:Nat) (aA:List (List Int)) (hA:Option Addr) (iA:Nat) (cA:List (List Int)) (r:Bool) (w:World) (jA:Kd.C (Kd.slice 27 k27) w dA bA.length bA) (kA:bA.length≤eA) (lA:Kd.C (Kd.slice 3 (Kd.int .i64)) w fA aA.length aA) (mA:aA.length≤gA) (nA:Kd.C (Kd.slice 3 (Kd.int .i64)) w hA cA.length cA) (oA:cA.length≤iA) (h:Q35.f bA aA cA=some r) :
  Calls Try.prog 13 #[.agg #[.slice dA bA.length eA,.slice fA aA.length gA,.slice hA cA.length iA]] w fun e w'=>e=.returned (.bool r)∧Below w.heap.size w w':=by
 unfold Q35.f at h
 by_cases hl:(∀ x∈bA,x.length≤20000)∧aA.length≤20000∧aA.flatten.length≤20000∧(∀ x∈aA,∀ n∈x,-9223372036854775808≤n∧n≤9223372036854775807)∧bA.length≤1000000
 ·rw [if_pos hl] at h
  obtain rfl:=Option.some.inj h
  exact Pl.Q8i dA fA hA eA gA iA bA aA cA w jA kA lA mA nA oA ⟨hl.1,hl.2.1,hl.2.2.1,hl.2.2.2.1⟩ hl.2.2.2.2
 ·rw [if_neg hl] at h;cases h

def Q4l.f (cA:List (List (S27))) (aA:List (List Int)) (bA:List (List Int)):Option (Bool):=if (∀ x∈cA,x.length≤20000)∧aA.length≤20000∧aA.flatten.length≤20000∧(∀ x∈aA,∀ n∈x,-9223372036854775808≤n∧n≤9223372036854775807)∧bA.length≤20000∧bA.flatten.length≤20000 then (some (Pl.FillsV cA aA bA)) else (none)
set_option maxHeartbeats 8000000 in
set_option maxRecDepth 100000 in
theorem Q4l.calls (dA:Option Addr) (eA:Nat) (cA:List (List (S27))) (fA:Option Addr) (gA:Nat) (aA:List (List Int)) (hA:Option Addr) (iA:Nat) (bA:List (List Int)) (r:Bool) (w:World) (jA:Kd.C (Kd.slice 27 k27) w dA cA.length cA) (kA:cA.length≤eA) (lA:Kd.C (Kd.slice 3 (Kd.int .i64)) w fA aA.length aA) (mA:aA.length≤gA) (nA:Kd.C (Kd.slice 3 (Kd.int .i64)) w hA bA.length bA) (oA:bA.length≤iA) (h:Q4l.f cA aA bA=some r) :
  Calls Try.prog 15 #[.agg #[.slice dA cA.length eA,.slice fA aA.length gA,.slice hA bA.length iA]] w fun e w'=>e=.returned (.bool r)∧Below w.heap.size w w':=by
 unfold Q4l.f at h
 by_cases hl:(∀ x∈cA,x.length≤20000)∧aA.length≤20000∧aA.flatten.length≤20000∧(∀ x∈aA,∀ n∈x,-9223372036854775808≤n∧n≤9223372036854775807)∧bA.length≤20000∧bA.flatten.length≤20000
 ·rw [if_pos hl] at h
  obtain rfl:=Option.some.inj h
  exact Pl.Q9n dA fA hA eA gA iA cA aA bA w jA kA lA mA nA oA ⟨hl.1,hl.2.1,hl.2.2.1,hl.2.2.2.1⟩ hl.2.2.2.2.1 hl.2.2.2.2.2
 ·rw [if_neg hl] at h;cases h

def Q4k.f (aA:List (List (S27))) (bA:List (List Int)) (cA:List (List Int)):Option (Bool):=if aA.length≤1048576∧∀ x∈aA,x.length≤1048576 then (some (Pl.meetsV aA)) else (none)
set_option maxHeartbeats 8000000 in
set_option maxRecDepth 100000 in
theorem Q4k.calls (dA:Option Addr) (eA:Nat) (aA:List (List (S27))) (fA:Option Addr) (gA:Nat) (bA:List (List Int)) (hA:Option Addr) (iA:Nat) (cA:List (List Int)) (r:Bool) (w:World) (jA:Kd.C (Kd.slice 27 k27) w dA aA.length aA) (kA:aA.length≤eA) (lA:Kd.C (Kd.slice 3 (Kd.int .i64)) w fA bA.length bA) (mA:bA.length≤gA) (nA:Kd.C (Kd.slice 3 (Kd.int .i64)) w hA cA.length cA) (oA:cA.length≤iA) (h:Q4k.f aA bA cA=some r) :
  Calls Try.prog 57 #[.agg #[.slice dA aA.length eA,.slice fA bA.length gA,.slice hA cA.length iA]] w fun e w'=>e=.returned (.bool r)∧Below w.heap.size w w':=by
 unfold Q4k.f at h
 by_cases hl:aA.length≤1048576∧∀ x∈aA,x.length≤1048576
 ·rw [if_pos hl] at h
  obtain rfl:=Option.some.inj h
  exact Pl.Q9b dA fA hA eA gA iA aA bA cA w jA kA lA mA nA oA hl.1 hl.2
 ·rw [if_neg hl] at h;cases h

mutual
def Q0y.j0:Nat→Int→Bool→List (List (S27))→List (List Int)→List (List Int)→Option (Int)
 | 0,_,_,_,_,_=>none
 | k+1,x3,x4,x543000,x543001,x543002=>if x3=3 then (Q0y.j1 k x3 true x543000 x543001 x543002) else (Q0y.j1 k x3 x4 x543000 x543001 x543002)
def Q0y.j1:Nat→Int→Bool→List (List (S27))→List (List Int)→List (List Int)→Option (Int)
 | 0,_,_,_,_,_=>none
 | k+1,x3,x32,x543000,x543001,x543002=>if x32=true then (some 3) else (if x3=0 then ((Q4k.f x543000 x543001 x543002).bind fun xA=>(if xA=true then (some 91) else ((Q35.f x543000 x543001 x543002).bind fun yA=>(if yA=true then ((Q4l.f x543000 x543001 x543002).bind fun zA=>(if zA=true then (some 0) else (some 92))) else (some 90))))) else (some x3))
end
def Q0y.f (k:Nat) (dA:List (List (S27))) (bA:List (List Int)) (cA:List (List Int)):Option (Int):=(Q0o.f k dA).bind fun eA=>(if (bA.length:Int)>1000 then (Q0y.j0 k eA true dA bA cA) else (if (cA.length:Int)>1000 then (Q0y.j0 k eA true dA bA cA) else ((Q1j.f bA).bind fun gA=>(if (gA.length:Int)>20000 then (Q0y.j0 k eA true dA bA cA) else ((Q1j.f cA).bind fun vA=>(Q0y.j0 k eA (decide ((vA.length:Int)>20000)) dA bA cA))))))
theorem Q0y.Q1a:∀ k,(∀ y0 y1 y2 y3 y4,LeO (Q0y.j0 k y0 y1 y2 y3 y4) (Q0y.j0 (k+1) y0 y1 y2 y3 y4))∧(∀ y0 y1 y2 y3 y4,LeO (Q0y.j1 k y0 y1 y2 y3 y4) (Q0y.j1 (k+1) y0 y1 y2 y3 y4))
 | 0=>⟨fun _ _ _ _ _ r h=>by simp [Q0y.j0] at h,fun _ _ _ _ _ r h=>by simp [Q0y.j1] at h⟩
 | k+1=>by
  obtain ⟨zD,aE⟩:=Q0y.Q1a k
  refine ⟨?_,?_⟩
  all_goals
   intros
   first|unfold Q0y.j0|unfold Q0y.j1
   repeat' with_reducible first|exact zD _ _ _ _ _|exact aE _ _ _ _ _|exact Q0o.mono _ _|exact LeO.refl _|exact LeO.none _|refine LeO.ite ?_ ?_|refine LeO.bind ?_ (fun _ => ?_)
theorem Q0y.mono:∀ a0 a1 a2 k,LeO (Q0y.f k a0 a1 a2) (Q0y.f (k+1) a0 a1 a2):=by
 intro a0 a1 a2 k
 obtain ⟨zD,aE⟩:=Q0y.Q1a k
 unfold Q0y.f
 repeat' with_reducible first|exact zD _ _ _ _ _|exact aE _ _ _ _ _|exact Q0o.mono _ _|exact LeO.refl _|exact LeO.none _|refine LeO.ite ?_ ?_|refine LeO.bind ?_ (fun _ => ?_)
set_option maxHeartbeats 8000000 in
set_option maxRecDepth 100000 in
theorem Q0y.calls (k:Nat) (hA:Option Addr) (iA:Nat) (dA:List (List (S27))) (kA:Option Addr) (lA:Nat) (bA:List (List Int)) (mA:Option Addr) (nA:Nat) (cA:List (List Int)) (r:Int) (w:World) (cB:Kd.C (Kd.slice 27 k27) w hA dA.length dA) (dB:dA.length≤iA) (eB:Kd.C (Kd.slice 3 (Kd.int .i64)) w kA bA.length bA) (fB:bA.length≤lA) (gB:Kd.C (Kd.slice 3 (Kd.int .i64)) w mA cA.length cA) (hB:cA.length≤nA) (h:Q0y.f k dA bA cA=some r) :
  Calls Try.prog 31 #[.agg #[.slice hA dA.length iA,.slice kA bA.length lA,.slice mA cA.length nA]] w fun e w'=>e=.returned (.int .i64 r)∧Below w.heap.size w w':=by
 have uE:=Try.underlying25
 have rA:=AM cB
 have sA:=AM dB
 clear cB dB
 have oA:=AM eB
 have pA:=AM fB
 clear eB fB
 have tA:=AM gB
 have uA:=AM hB
 clear gB hB
 have HB:=AM (Below.refl w.heap.size w)
 have H:((Q0o.f k dA).bind fun eA=>(if (bA.length:Int)>1000 then (Q0y.j0 k eA true dA bA cA) else (if (cA.length:Int)>1000 then (Q0y.j0 k eA true dA bA cA) else ((Q1j.f bA).bind fun gA=>(if (gA.length:Int)>20000 then (Q0y.j0 k eA true dA bA cA) else ((Q1j.f cA).bind fun vA=>(Q0y.j0 k eA (decide ((vA.length:Int)>20000)) dA bA cA)))))))=some r:=h
 clear h
 obtain ⟨eA,A2,H⟩:=bS H
 have cE:=AM H
 clear H
 go_enter Try.func31,Try.ntmps31
 go_upto_region 2 with (first|((with_reducible refine Q0i (N:=1) rfl ?_);(try (refine Q2e (by rfl) ?_;dsimp only));refine bE 1 #[.slice hA dA.length iA,.slice kA bA.length lA,.slice mA cA.length nA] 25 ?_;intro iB hg w4 hbox hb;have aA:=AM hbox;have uB:=kG HB hg;replace HB:=kH HB hb;have qE:=uB;clear hb hbox hg;obtain ⟨jB,lB,mB,nB,oB,pB⟩:=c3 aA)|((with_reducible refine Q0n (f:=56) rfl ?_);refine gL (some 7) Try.func56 #[.slice hA dA.length iA] ?_;(with_reducible refine (Q0o.calls k _ _ dA eA _ ?side1 ?side2 A2.out).mono ?_);(case side1=>exact sC rA HB);(case side2=>exact sA.out);rintro e w6 ⟨rfl,hb⟩;refine ⟨_,rfl,?_⟩;replace aA:=kB aA hb;replace HB:=kH HB hb;clear hb))
 (try simp only [Act.put,List.setIfInBounds_toArray,List.set_cons_zero,List.set_cons_succ])
 go_cut [4] (fun v4 wc=>∃ (kq:Nat) (aB:Bool),v4=.bool aB∧Aside0 (Q0y.j0 kq eA aB dA bA cA=some r)∧Aside0 (kq≤k)∧Aside0 (wc.heap[iB]? = some (.cells #[(.slice hA dA.length iA),(.slice kA bA.length lA),(.slice mA cA.length nA)] 25 (0,0)))∧Aside0 (Below w.heap.size w wc))
 case first =>
  have H:=cE.out;clear cE
  by_cases c7:(bA.length:Int)>1000
  ·rw [if_pos c7] at H
   have wA:=decide_eq_true c7
   have dE:decide (1000<bA.length)=true:=decide_eq_true (by omega)
   clear c7
   (first|rw [wA]|(simp only [Q1r,Q13];rw [wA])|skip)
   have H':=AM H
   clear H;obtain ⟨eE,fE,gE,hE,iE,jE⟩:=c3 aA
   go_wp2
   go_meet
   case rel=>exact ⟨_,(true),rS,H',⟨by first|omega|exact Nat.le_refl _⟩,⟨bK aA⟩,⟨ bH HB⟩⟩
  ·rw [if_neg c7] at H
   have wA:=decide_eq_false c7
   have dE:decide (1000<bA.length)=false:=decide_eq_false (by omega)
   clear c7
   (first|rw [wA]|(simp only [Q1r,Q13];rw [wA])|skip)
   by_cases c9:(cA.length:Int)>1000
   ·rw [if_pos c9] at H
    have kE:=decide_eq_true c9
    have lE:decide (1000<cA.length)=true:=decide_eq_true (by omega)
    clear c9
    have H':=AM H
    clear H;obtain ⟨eC,fC,gC,hC,iC,jC⟩:=c3 aA
    go_wp2
    go_meet
    case rel=>exact ⟨_,(true),rS,H',⟨by first|omega|exact Nat.le_refl _⟩,⟨bK aA⟩,⟨ bH HB⟩⟩
   ·rw [if_neg c9] at H
    have kE:=decide_eq_false c9
    have lE:decide (1000<cA.length)=false:=decide_eq_false (by omega)
    clear c9
    obtain ⟨gA,sE,H⟩:=bS H
    by_cases tB:(gA.length:Int)>20000
    ·rw [if_pos tB] at H
     have vB:=decide_eq_true tB
     have wB:decide (20000<gA.length)=true:=decide_eq_true (by omega)
     clear tB
     have H':=AM H
     clear H;obtain ⟨kC,lC,mC,nC,oC,pC⟩:=c3 aA
     go_wp2_with (first|(go_at_call 39;(with_reducible refine (Q1j.calls _ _ bA gA _ ?side1 ?side2 sE.out).mono ?_);(case side1=>exact sC oA HB);(case side2=>exact pA.out);rintro e jF ⟨mE,rfl,bB,hb⟩;have fA:=AM (Kd.Q1b bB (Q0h (bH HB)));replace aA:=kB aA hb;replace HB:=kH HB hb;clear hb bB;obtain ⟨vE,wE,nE⟩:=Kd.Q01 fA.out;subst nE))
     go_meet
     case rel=>exact ⟨_,(true),rS,H',⟨by first|omega|exact Nat.le_refl _⟩,⟨bK aA⟩,⟨ bH HB⟩⟩
    ·rw [if_neg tB] at H
     have vB:=decide_eq_false tB
     have wB:decide (20000<gA.length)=false:=decide_eq_false (by omega)
     clear tB
     obtain ⟨vA,xE,H⟩:=bS H
     have H':=AM H
     clear H;obtain ⟨qC,rC,tC,uC,vC,wC⟩:=c3 aA
     go_wp2_with (first|(go_at_call 39;(with_reducible refine (Q1j.calls _ _ bA gA _ ?side1 ?side2 sE.out).mono ?_);(case side1=>exact sC oA HB);(case side2=>exact pA.out);rintro e kF ⟨mE,rfl,bB,hb⟩;have fA:=AM (Kd.Q1b bB (Q0h (bH HB)));replace aA:=kB aA hb;replace HB:=kH HB hb;clear hb bB;obtain ⟨yE,zE,oE⟩:=Kd.Q01 fA.out;subst oE;obtain ⟨xC,yC,zC,aD,bD,cD⟩:=c3 aA)|(go_at_call 39;(with_reducible refine (Q1j.calls _ _ cA vA _ ?side1 ?side2 xE.out).mono ?_);(case side1=>exact sC tA HB);(case side2=>exact uA.out);rintro e lF ⟨aF,rfl,bB,hb⟩;have xB:=AM (Kd.Q1b (Kd.Q2z bB (Kd.R_lt (rK fA))) (Q0h (bH HB)));replace fA:=AM (Kd.Q16 (rK fA) (Kd.Q2l bB) hb);replace aA:=kB aA hb;replace HB:=kH HB hb;clear hb bB;obtain ⟨bF,cF,pE⟩:=Kd.Q01 xB.out;subst pE))
     go_meet
     case rel=>exact ⟨_,(decide ((vA.length:Int)>20000)),rS,H',⟨by first|omega|exact Nat.le_refl _⟩,⟨bK aA⟩,⟨ bH HB⟩⟩
 case rest =>
  clear cE jB lB mB nB oB pB
  obtain ⟨kq,aB,rfl,HA,tE,aA,HB⟩:=hcut
  cases kq with
  | zero=>exact absurd HA.out (by simp [Q0y.j0])
  | succ kj2 =>
   have H:=HA.out;clear HA
   simp only [Q0y.j0] at H
   have qB:=AM H
   clear H
   go_upto_region 3 with (fail)
   go_cut [32] (fun dF wc=>∃ (kq:Nat) (jA:Bool),dF=.bool jA∧Aside0 (Q0y.j1 kq eA jA dA bA cA=some r)∧Aside0 (kq≤kj2)∧Aside0 (wc.heap[iB]? = some (.cells #[(.slice hA dA.length iA),(.slice kA bA.length lA),(.slice mA cA.length nA)] 25 (0,0)))∧Aside0 (Below w.heap.size w wc))
   case first =>
    have H:=qB.out;clear qB
    by_cases rB:eA=3
    ·rw [if_pos rB] at H
     have qA:(eA==3)=true:=beq_iff_eq.mpr rB
     have yB:(eA != 3)=false:=bne_eq_false_iff_eq.mpr rB
     clear rB
     (first|rw [qA]|(simp only [Q1r,Q13];rw [qA])|skip)
     have H':=AM H
     clear H
     go_wp2
     go_meet
     case rel=>exact ⟨_,(true),rS,H',⟨by have:=tE.out;first|omega|exact Nat.le_refl _⟩,⟨bK aA⟩,⟨ bH HB⟩⟩
    ·rw [if_neg rB] at H
     have qA:(eA==3)=false:=beq_eq_false_iff_ne.mpr rB
     have yB:(eA != 3)=true:=bne_iff_ne.mpr rB
     (first|rw [qA]|(simp only [Q1r,Q13];rw [qA])|skip)
     have H':=AM H
     clear H
     go_wp2
     go_meet
     case rel=>exact ⟨_,(aB),rS,H',⟨by have:=tE.out;first|omega|exact Nat.le_refl _⟩,⟨bK aA⟩,⟨ bH HB⟩⟩
   case rest =>
    clear qB
    obtain ⟨kq,jA,rfl,HA,eF,aA,HB⟩:=hcut
    cases kq with
    | zero=>exact absurd HA.out (by simp [Q0y.j1])
    | succ kj22 =>
     have H:=HA.out;clear HA
     simp only [Q0y.j1] at H
     by_cases dD:jA=true
     ·subst dD
      replace H:=iT H
      obtain rfl:=Option.some.inj H
      go_wp2
      go_ret
      exact ⟨rE,bH HB⟩
     ·replace dD:=Bool.eq_false_iff.mpr dD
      subst dD
      replace H:=iF H
      by_cases sB:eA=0
      ·rw [if_pos sB] at H
       have zB:(eA==0)=true:=beq_iff_eq.mpr sB
       have aC:(eA != 0)=false:=bne_eq_false_iff_eq.mpr sB
       clear sB
       obtain ⟨xA,fF,H⟩:=bS H
       have bC:=AM H
       clear H;obtain ⟨eD,fD,gD,hD,iD,jD⟩:=c3 aA
       go_upto_if 42 with (first|((with_reducible refine Q0n (f:=57) rfl ?_);refine gL (some 44) Try.func57 #[.agg #[.slice hA dA.length iA,.slice kA bA.length lA,.slice mA cA.length nA]] ?_;(with_reducible refine (Q4k.calls _ _ dA _ _ bA _ _ cA xA _ ?side1 ?side2 ?side3 ?side4 ?side5 ?side6 fF.out).mono ?_);(case side1=>exact sC rA HB);(case side2=>exact sA.out);(case side3=>exact sC oA HB);(case side4=>exact pA.out);(case side5=>exact sC tA HB);(case side6=>exact uA.out);rintro e mF ⟨rfl,hb⟩;refine ⟨_,rfl,?_⟩;replace aA:=kB aA hb;replace HB:=kH HB hb;clear hb))
       (try simp only [Act.put,List.setIfInBounds_toArray,List.set_cons_zero,List.set_cons_succ])
       have H:=bC.out;clear bC
       by_cases kD:xA=true
       ·subst kD
        replace H:=iT H
        obtain rfl:=Option.some.inj H
        go_wp2
        go_ret
        exact ⟨rE,bH HB⟩
       ·replace kD:=Bool.eq_false_iff.mpr kD
        subst kD
        replace H:=iF H
        obtain ⟨yA,gF,H⟩:=bS H
        have cC:=AM H
        clear H;obtain ⟨lD,mD,nD,oD,pD,qD⟩:=c3 aA
        go_upto_if 45 with (first|((with_reducible refine Q0n (f:=13) rfl ?_);refine gL (some 47) Try.func13 #[.agg #[.slice hA dA.length iA,.slice kA bA.length lA,.slice mA cA.length nA]] ?_;(with_reducible refine (Q35.calls _ _ dA _ _ bA _ _ cA yA _ ?side1 ?side2 ?side3 ?side4 ?side5 ?side6 gF.out).mono ?_);(case side1=>exact sC rA HB);(case side2=>exact sA.out);(case side3=>exact sC oA HB);(case side4=>exact pA.out);(case side5=>exact sC tA HB);(case side6=>exact uA.out);rintro e nF ⟨rfl,hb⟩;refine ⟨_,rfl,?_⟩;replace aA:=kB aA hb;replace HB:=kH HB hb;clear hb))
        (try simp only [Act.put,List.setIfInBounds_toArray,List.set_cons_zero,List.set_cons_succ])
        have H:=cC.out;clear cC
        by_cases rD:yA=true
        ·subst rD
         replace H:=iT H
         obtain ⟨zA,hF,H⟩:=bS H
         have dC:=AM H
         clear H;obtain ⟨sD,tD,uD,vD,wD,xD⟩:=c3 aA
         go_upto_if 49 with (first|((with_reducible refine Q0n (f:=15) rfl ?_);refine gL (some 51) Try.func15 #[.agg #[.slice hA dA.length iA,.slice kA bA.length lA,.slice mA cA.length nA]] ?_;(with_reducible refine (Q4l.calls _ _ dA _ _ bA _ _ cA zA _ ?side1 ?side2 ?side3 ?side4 ?side5 ?side6 hF.out).mono ?_);(case side1=>exact sC rA HB);(case side2=>exact sA.out);(case side3=>exact sC oA HB);(case side4=>exact pA.out);(case side5=>exact sC tA HB);(case side6=>exact uA.out);rintro e oF ⟨rfl,hb⟩;refine ⟨_,rfl,?_⟩;replace aA:=kB aA hb;replace HB:=kH HB hb;clear hb))
         (try simp only [Act.put,List.setIfInBounds_toArray,List.set_cons_zero,List.set_cons_succ])
         have H:=dC.out;clear dC
         by_cases yD:zA=true
         ·subst yD
          replace H:=iT H
          obtain rfl:=Option.some.inj H
          go_wp2
          go_ret
          exact ⟨rE,bH HB⟩
         ·replace yD:=Bool.eq_false_iff.mpr yD
          subst yD
          replace H:=iF H
          obtain rfl:=Option.some.inj H
          go_wp2
          go_ret
          exact ⟨rE,bH HB⟩
        ·replace rD:=Bool.eq_false_iff.mpr rD
         subst rD
         replace H:=iF H
         obtain rfl:=Option.some.inj H
         go_wp2
         go_ret
         exact ⟨rE,bH HB⟩
      ·rw [if_neg sB] at H
       have zB:(eA==0)=false:=beq_eq_false_iff_ne.mpr sB
       have aC:(eA != 0)=true:=bne_iff_ne.mpr sB
       obtain rfl:=Option.some.inj H
       go_wp2
       go_ret
       exact ⟨rE,bH HB⟩

mutual
def Q0x.l0:Nat→List Int→List (List Int)→Int→Int→List (List (S27))→List (List Int)→List (List Int)→Int→Int→Int→Option (List Int×Int)
 | 0,_,_,_,_,_,_,_,_,_,_=>none
 | k+1,x7,x26,x27,x28,x567000,x567001,x567002,x568000,x568001,x568002=>if x28<x27 then (if 0≤x28 then (if x28<(x26.length:Int) then (Q0x.l1 k x7 x28 true x26 x27 x28 (Q06 x26 x28) ((Q06 x26 x28).length:Int) 0 x567000 x567001 x567002 x568000 x568001 x568002) else (none)) else (none)) else (some (x7,0))
def Q0x.l1:Nat→List Int→Int→Bool→List (List Int)→Int→Int→List Int→Int→Int→List (List (S27))→List (List Int)→List (List Int)→Int→Int→Int→Option (List Int×Int)
 | 0,_,_,_,_,_,_,_,_,_,_,_,_,_,_,_=>none
 | k+1,x7,x8,x10,x26,x27,x28,x33,x34,x35,x567000,x567001,x567002,x568000,x568001,x568002=>if x35<x34 then (if 0≤x35 then (if x35<(x33.length:Int) then ((Q1u.f k x567000 x567001 x567002 (rd x33 x35)).bind fun oD=>((Q1k.f k x568000 x568001 x568002 oD.1).bind fun bB=>(if x10=true then (if x35=0 then (if bB≥0 then (Q0x.l1 k x7 x8 true x26 x27 x28 x33 x34 (wrap64 (x35+1)) x567000 x567001 x567002 x568000 x568001 x568002) else (if x35>0 then (Q0x.l1 k x7 x8 (decide (bB<1)) x26 x27 x28 x33 x34 (wrap64 (x35+1)) x567000 x567001 x567002 x568000 x568001 x568002) else (Q0x.l1 k x7 x8 false x26 x27 x28 x33 x34 (wrap64 (x35+1)) x567000 x567001 x567002 x568000 x568001 x568002))) else (if x35>0 then (Q0x.l1 k x7 x8 (decide (bB<1)) x26 x27 x28 x33 x34 (wrap64 (x35+1)) x567000 x567001 x567002 x568000 x568001 x568002) else (Q0x.l1 k x7 x8 false x26 x27 x28 x33 x34 (wrap64 (x35+1)) x567000 x567001 x567002 x568000 x568001 x568002))) else (Q0x.l1 k x7 x8 false x26 x27 x28 x33 x34 (wrap64 (x35+1)) x567000 x567001 x567002 x568000 x568001 x568002)))) else (none)) else (none)) else (if x10=true then (if x7.length<17592186044416 then (Q0x.l0 k (x7++[x8]) x26 x27 (wrap64 (x28+1)) x567000 x567001 x567002 x568000 x568001 x568002) else (none)) else (Q0x.l0 k x7 x26 x27 (wrap64 (x28+1)) x567000 x567001 x567002 x568000 x568001 x568002))
end
def Q0x.f (k:Nat) (mA:List (List (S27))) (nA:List (List Int)) (dA:List (List Int)) (hA:Int) (iA:Int) (jA:Int):Option (List Int×Int):=(Q0y.f k mA nA dA).bind fun cB=>(if cB=0 then ((Q04.f k (([(⟨hA,iA,jA⟩:S27)]:List (S27)))).bind fun nB=>(if nB=true then (Q0x.l0 k ([]:List Int) dA (dA.length:Int) 0 mA nA dA hA iA jA) else (some (([]:List Int),2)))) else (some (([]:List Int),cB)))
theorem Q0x.Q1a:∀ k,(∀ y0 y1 y2 y3 y4 y5 y6 y7 y8 y9,LeO (Q0x.l0 k y0 y1 y2 y3 y4 y5 y6 y7 y8 y9) (Q0x.l0 (k+1) y0 y1 y2 y3 y4 y5 y6 y7 y8 y9))∧(∀ y0 y1 y2 y3 y4 y5 y6 y7 y8 y9 y10 y11 y12 y13 y14,LeO (Q0x.l1 k y0 y1 y2 y3 y4 y5 y6 y7 y8 y9 y10 y11 y12 y13 y14) (Q0x.l1 (k+1) y0 y1 y2 y3 y4 y5 y6 y7 y8 y9 y10 y11 y12 y13 y14))
 | 0=>⟨fun _ _ _ _ _ _ _ _ _ _ r h=>by simp [Q0x.l0] at h,fun _ _ _ _ _ _ _ _ _ _ _ _ _ _ _ r h=>by simp [Q0x.l1] at h⟩
 | k+1=>by
  obtain ⟨gH,hH⟩:=Q0x.Q1a k
  refine ⟨?_,?_⟩
  all_goals
   intros
   first|unfold Q0x.l0|unfold Q0x.l1
   repeat' with_reducible first|exact gH _ _ _ _ _ _ _ _ _ _|exact hH _ _ _ _ _ _ _ _ _ _ _ _ _ _ _|exact Q1k.mono _ _ _ _ _|exact Q04.mono _ _|exact Q0y.mono _ _ _ _|exact Q1u.mono _ _ _ _ _|exact LeO.refl _|exact LeO.none _|refine LeO.ite ?_ ?_|refine LeO.bind ?_ (fun _ => ?_)
theorem Q0x.mono:∀ a0 a1 a2 a3 a4 a5 k,LeO (Q0x.f k a0 a1 a2 a3 a4 a5) (Q0x.f (k+1) a0 a1 a2 a3 a4 a5):=by
 intro a0 a1 a2 a3 a4 a5 k
 obtain ⟨gH,hH⟩:=Q0x.Q1a k
 unfold Q0x.f
 repeat' with_reducible first|exact gH _ _ _ _ _ _ _ _ _ _|exact hH _ _ _ _ _ _ _ _ _ _ _ _ _ _ _|exact Q1k.mono _ _ _ _ _|exact Q04.mono _ _|exact Q0y.mono _ _ _ _|exact Q1u.mono _ _ _ _ _|exact LeO.refl _|exact LeO.none _|refine LeO.ite ?_ ?_|refine LeO.bind ?_ (fun _ => ?_)
set_option maxHeartbeats 8000000 in
set_option maxRecDepth 100000 in
theorem Q0x.calls (k:Nat) (tA:Option Addr) (uA:Nat) (mA:List (List (S27))) (vA:Option Addr) (wA:Nat) (nA:List (List Int)) (aC:Option Addr) (xA:Nat) (dA:List (List Int)) (hA:Int) (iA:Int) (jA:Int) (r1:List Int) (r2:Int) (w:World) (uC:Kd.C (Kd.slice 27 k27) w tA mA.length mA) (vC:mA.length≤uA) (wC:Kd.C (Kd.slice 3 (Kd.int .i64)) w vA nA.length nA) (xC:nA.length≤wA) (yC:Kd.C (Kd.slice 3 (Kd.int .i64)) w aC dA.length dA) (zC:dA.length≤xA) (h:Q0x.f k mA nA dA hA iA jA=some (r1,r2)) :
  Calls Try.prog 10 #[.agg #[.slice tA mA.length uA,.slice vA nA.length wA,.slice aC dA.length xA],.agg #[.int .i64 hA,.int .i64 iA,.int .i64 jA]] w fun e w'=>∃ v0_:Value,e=.returned (.tuple #[v0_,.int .i64 r2])∧Kd.R (Kd.int .i64) 3 w' w.heap.size (fun _=>True) v0_ r1∧Below w.heap.size w w':=by
 have gJ:=Try.underlying25
 have hJ:=Try.underlying27
 have dB:=AM uC
 have eB:=AM vC
 clear uC vC
 have fB:=AM wC
 have gB:=AM xC
 clear wC xC
 have yA:=AM yC
 have hB:=AM zC
 clear yC zC
 have HB:=AM (Below.refl w.heap.size w)
 have H:((Q0y.f k mA nA dA).bind fun cB=>(if cB=0 then ((Q04.f k (([(⟨hA,iA,jA⟩:S27)]:List (S27)))).bind fun nB=>(if nB=true then (Q0x.l0 k ([]:List Int) dA (dA.length:Int) 0 mA nA dA hA iA jA) else (some (([]:List Int),2)))) else (some (([]:List Int),cB))))=some (r1,r2):=h
 clear h
 obtain ⟨cB,A3,H⟩:=bS H
 have hI:=AM H
 clear H
 go_enter Try.func10,Try.ntmps10
 go_upto_if 19 with (first|((with_reducible refine Q0i (N:=2) rfl ?_);refine bE 2 #[.slice tA mA.length uA,.slice vA nA.length wA,.slice aC dA.length xA] 25 ?_;intro bC hg w5 hbox hb;have bA:=AM hbox;have qD:=kG HB hg;replace HB:=kH HB hb;have iI:=qD;clear hb hbox hg)|((with_reducible refine Q0i (N:=3) rfl ?_);refine bE 3 #[.int .i64 hA,.int .i64 iA,.int .i64 jA] 27 ?_;intro sA hg w6 hbox hb;have aA:=AM hbox;have rD:=kG HB hg;replace HB:=kH HB hb;have jI:=rD;have kA:=kN bA hg;have lA:=kM bA hg;replace bA:=kB bA hb;clear hb hbox hg;have iJ:=kA.out;have jJ:=lA.out;obtain ⟨cD,dD,eD,fD,gD,hD⟩:=c3 bA)|((with_reducible refine Q0n (f:=31) rfl ?_);refine gL (some 17) Try.func31 #[.agg #[.slice tA mA.length uA,.slice vA nA.length wA,.slice aC dA.length xA]] ?_;(with_reducible refine (Q0y.calls k _ _ mA _ _ nA _ _ dA cB _ ?side1 ?side2 ?side3 ?side4 ?side5 ?side6 A3.out).mono ?_);(case side1=>exact sC dB HB);(case side2=>exact eB.out);(case side3=>exact sC fB HB);(case side4=>exact gB.out);(case side5=>exact sC yA HB);(case side6=>exact hB.out);rintro e w9 ⟨rfl,hb⟩;refine ⟨_,rfl,?_⟩;replace bA:=kB bA hb;replace aA:=kB aA hb;replace HB:=kH HB hb;clear hb))
 (try simp only [Act.put,List.setIfInBounds_toArray,List.set_cons_zero,List.set_cons_succ])
 have H:=hI.out;clear hI
 by_cases iD:cB=0
 ·rw [if_pos iD] at H
  have jB:(cB==0)=true:=beq_iff_eq.mpr iD
  have aD:(cB != 0)=false:=bne_eq_false_iff_eq.mpr iD
  clear iD
  (first|rw [jB]|(simp only [Q1r,Q13];rw [jB])|skip)
  obtain ⟨jD,oB⟩:∃ y_:List (S27),y_=(([(⟨hA,iA,jA⟩:S27)]:List (S27))):=⟨_,rfl⟩
  replace H:((Q04.f k jD).bind fun nB=>(if nB=true then (Q0x.l0 k ([]:List Int) dA (dA.length:Int) 0 mA nA dA hA iA jA) else (some (([]:List Int),2))))=some (r1,r2):=by first|(rw [oB];with_reducible exact H)|(have kD:=(Option.bind_some _ _).symm.trans H;rw [oB];with_reducible exact kD)|(have kD:=(Option.bind_some _ _).symm.trans H;with_reducible exact kD)|with_reducible exact H|(rw [oB];exact H)|exact H
  have bD:=AM oB
  clear oB
  obtain ⟨nB,kJ,H⟩:=bS H
  have sD:=AM H
  clear H;have kI:=lA.out;have lI:=kA.out;obtain ⟨eC,fC,gC,hC,jC,kC⟩:=c3 aA
  go_upto_if 24 with (first|((with_reducible refine Q0i (N:=22) rfl ?_);refine Kd.Q4s k27 _ 27 ?hg (N:=22) ?hd (xs:=([(⟨hA,iA,jA⟩:S27)]:List (S27))) (inner:=[.int .i64 hA,.int .i64 iA,.int .i64 jA]) (ok:=fun _=>True) (okp:=fun _=>True) ?hr ?hp (fun _ hk=>hk) trivial (Below.refl _ _) (Nat.le_refl _) (by simp) ?_;(case hd=>rfl);(case hg=>rfl);(case hr=>first|(go_simp;done)|(go_simp;rfl));(case hp=>exact (Reps.c3 (show Kd.M k27 _ _ _ (⟨hA,iA,jA⟩:S27) [.int .i64 hA,.int .i64 iA,.int .i64 jA] from (Q2o _ _ _ (⟨hA,iA,jA⟩:S27) )) (Reps.none _ _)));intro lJ qJ cC hb hg_ hnew_;clear hg_ hnew_;(first|rw [← bD.out] at cC|(simp only [Int.reduceToNat] at cC;rw [← bD.out] at cC));have pB:=AM (Kd.Q1b (Kd.Q2v cC (g:=sA) (o:=.cells #[.int .i64 hA,.int .i64 iA,.int .i64 jA] 27 (0,0)) (bK aA)) (Q0h (bH HB)));replace bA:=kB bA hb;replace aA:=kB aA hb;replace HB:=kH HB hb;clear hb cC;obtain ⟨iH,jH,lH⟩:=Kd.Q01 pB.out;subst lH)|((with_reducible refine Q0n (f:=32) rfl ?_);refine gL (some 23) Try.func32 #[.slice iH jD.length jH] ?_;(with_reducible refine (Q04.calls k _ _ jD nB _ ?side1 ?side2 kJ.out).mono ?_);(case side1=>exact sR pB);(case side2=>exact (Kd.Q0w pB.out).2.1);rintro e rJ ⟨rfl,hb⟩;refine ⟨_,rfl,?_⟩;replace pB:=kR pB hb;replace bA:=kB bA hb;replace aA:=kB aA hb;replace HB:=kH HB hb;clear hb))
  (try simp only [Act.put,List.setIfInBounds_toArray,List.set_cons_zero,List.set_cons_succ])
  have H:=sD.out;clear sD
  by_cases cE:nB=true
  ·subst cE
   replace H:=iT H
   have H':=AM H
   clear H;have mI:=kA.out;have nI:=lA.out;obtain ⟨lC,mC,nC,oC,pC,qC⟩:=c3 bA
   go_wp2
   go_loopg [7,28] k (fun kq v7 mJ w'=>∃ (lB:List Int) (fA:Int),mJ=.int .i64 fA∧Aside0 (Q0x.l0 kq lB dA (dA.length:Int) fA mA nA dA hA iA jA=some (r1,r2))∧Aside0 (kq≤k)∧Aside0 (Kd.R (Kd.int .i64) 3 w' w.heap.size (fun _=>True) v7 lB)∧Aside0 (w'.heap[bC]? = some (.cells #[(.slice tA mA.length uA),(.slice vA nA.length wA),(.slice aC dA.length xA)] 25 (0,0)))∧Aside0 (w'.heap[sA]? = some (.cells #[.int .i64 hA,.int .i64 iA,.int .i64 jA] 27 (0,0)))∧Aside0 (Below w.heap.size w w'))
   case atStart=>exact ⟨(([]:List Int)),(0),rS,H',⟨Nat.le_refl _⟩,⟨by first|exact Kd.Q3k _ _ _ _ _|exact Kd.Q3t _ _ _ _ _|exact Kd.Q3x _ _ _ _ _|exact Kd.Q3v _ _ _ _ _|exact Kd.Q3y _ _ _ _ _⟩,⟨bK bA⟩,⟨bK aA⟩,⟨ bH HB⟩⟩
   case round =>
    clear H'
    clear jB aD eC fC gC lC mC nC cD dD eD hC jC kC oC pC qC fD gD hD
    obtain ⟨lB,fA,rfl,HA,vB,HO_7,bA,aA,HB⟩:=hrel
    cases gk with
    | zero=>exact absurd HA.out (by simp [Q0x.l0])
    | succ k1 =>
     have H:=HA.out;clear HA
     simp only [Q0x.l0] at H
     apply iC H<;>clear H<;>intro qB H
     ·(first|rw [qB]|(simp only [Q1r,Q13];rw [qB])|skip)
      apply iN H;clear H;intro tD H
      ·apply iN H;clear H;intro uD H
       ·have H':=AM H
        clear H
        have rC:0≤(fA:Int):=pD
        have tC:fA<(dA.length:Int):=pD
        obtain ⟨zA,mH,nH,oH,mB,xB,yB⟩:=Q3c yA.out fA rC tC
        cases oH
        replace mB:=hW HB mB
        have rA:=AM yB
        have dE:=AM xB
        clear yB xB;replace rC:=eq_true rC;replace tC:=eq_true tC
        go_wp2
        go_loopg [10,35] k1 (fun kq nJ oJ w'=>∃ (rB:Bool) (cA:Int),nJ=.bool rB∧oJ=.int .i64 cA∧Aside0 (Q0x.l1 kq lB fA rB dA (dA.length:Int) fA (Q06 dA fA) ((Q06 dA fA).length:Int) cA mA nA dA hA iA jA=some (r1,r2))∧Aside0 (kq≤k1)∧Aside0 (Kd.R (Kd.int .i64) 3 w' w.heap.size (fun _=>True) u7 lB)∧Aside0 (w'.heap[bC]? = some (.cells #[(.slice tA mA.length uA),(.slice vA nA.length wA),(.slice (some zA) dA.length xA)] 25 (0,0)))∧Aside0 (w'.heap[sA]? = some (.cells #[.int .i64 hA,.int .i64 iA,.int .i64 jA] 27 (0,0)))∧Aside0 (Below w.heap.size w w'))
        case atStart=>exact ⟨(true),(0),rS,rS,H',⟨Nat.le_refl _⟩,⟨rK HO_7⟩,⟨bK bA⟩,⟨bK aA⟩,⟨ bH HB⟩⟩
        case round =>
         clear H'
         clear qB tD uD mB rC tC
         obtain ⟨rB,cA,rfl,rfl,HA,wB,HO_7,bA,aA,HB⟩:=hrel
         cases gk with
         | zero=>exact absurd HA.out (by simp [Q0x.l1])
         | succ k2 =>
          have H:=HA.out;clear HA
          simp only [Q0x.l1] at H
          apply iC H<;>clear H<;>intro oI H
          ·apply iN H;clear H;intro pI H
           ·apply iN H;clear H;intro qI H
            ·obtain ⟨⟨qA,zB⟩,mD,H⟩:=bS H
             try dsimp only at H
             obtain ⟨bB,nD,H⟩:=bS H
             by_cases eE:rB=true
             ·subst eE
              replace H:=iT H
              by_cases lD:cA=0
              ·rw [if_pos lD] at H
               have vD:(cA==0)=true:=beq_iff_eq.mpr lD
               have wD:(cA != 0)=false:=bne_eq_false_iff_eq.mpr lD
               clear lD
               apply iC H<;>clear H<;>intro rI H
               ·have H':=AM H
                clear H
                have oA:0≤(cA:Int):=pD
                have pA:cA<((Q06 dA fA).length:Int):=pD
                obtain ⟨sB,iB,gA⟩:=Kd.Q2n rA.out cA oA pA
                cases iB
                replace gA:=hW HB gA;replace oA:=eq_true oA;replace pA:=eq_true pA;have sI:=kA.out;have tI:=lA.out;obtain ⟨fE,gE,hE,iE,jE,kE⟩:=c3 bA
                go_wp2_with (first|((with_reducible refine Q0n (f:=33) rfl ?_);refine gL (some 43) Try.func33 #[.agg #[.slice tA mA.length uA,.slice vA nA.length wA,.slice (some zA) dA.length xA],.int .i64 (rd (Q06 dA fA) cA)] ?_;(with_reducible refine (Q1u.calls k2 _ _ mA _ _ nA _ _ dA (rd (Q06 dA fA) cA) qA zB _ ?side1 ?side2 ?side3 ?side4 ?side5 ?side6 mD.out).mono ?_);(case side1=>exact sC dB HB);(case side2=>exact eB.out);(case side3=>exact sC fB HB);(case side4=>exact gB.out);(case side5=>exact sC yA HB);(case side6=>exact hB.out);rintro e sJ ⟨dC,rfl,tB,hb⟩;refine ⟨_,rfl,?_⟩;replace HO_7:=kR HO_7 hb;have eA:=AM (Kd.Q1b (Kd.Q2v tB (g:=sA) (o:=.cells #[.int .i64 hA,.int .i64 iA,.int .i64 jA] 27 (0,0)) (bK aA)) (Q0h (bH HB)));replace bA:=kB bA hb;replace aA:=kB aA hb;replace HB:=kH HB hb;clear hb tB;obtain ⟨lE,mE,nE,oE,pE,qE⟩:=c3 aA;obtain ⟨pH,qH,rH⟩:=Kd.Q01 eA.out;subst rH)|((with_reducible refine Q0n (f:=34) rfl ?_);refine gL (some 48) Try.func34 #[.agg #[.int .i64 hA,.int .i64 iA,.int .i64 jA],.slice pH qA.length qH] ?_;(with_reducible refine (Q1k.calls k2 hA iA jA _ _ qA bB _ ?side1 ?side2 nD.out).mono ?_);(case side1=>exact sR eA);(case side2=>exact (Kd.Q0w eA.out).2.1);rintro e tJ ⟨rfl,hb⟩;refine ⟨_,rfl,?_⟩;replace HO_7:=kR HO_7 hb;replace eA:=kR eA hb;replace bA:=kB bA hb;replace aA:=kB aA hb;replace HB:=kH HB hb;clear hb))
                go_roundg k2
                case measure=>have:=vB.out;have:=wB.out;omega
                case rel=>exact ⟨(true),(wrap64 (cA+1)),rS,rS,H',⟨by have:=vB.out;have:=wB.out;omega⟩,⟨rK HO_7⟩,⟨bK bA⟩,⟨bK aA⟩,⟨ bH HB⟩⟩
               ·apply iC H<;>clear H<;>intro uI H
                ·have H':=AM H
                 clear H
                 have oA:0≤(cA:Int):=pD
                 have pA:cA<((Q06 dA fA).length:Int):=pD
                 obtain ⟨sB,iB,gA⟩:=Kd.Q2n rA.out cA oA pA
                 cases iB
                 replace gA:=hW HB gA;replace oA:=eq_true oA;replace pA:=eq_true pA;have vI:=kA.out;have wI:=lA.out;obtain ⟨sE,tE,uE,vE,wE,xE⟩:=c3 bA
                 go_wp2_with (first|((with_reducible refine Q0n (f:=33) rfl ?_);refine gL (some 43) Try.func33 #[.agg #[.slice tA mA.length uA,.slice vA nA.length wA,.slice (some zA) dA.length xA],.int .i64 (rd (Q06 dA fA) cA)] ?_;(with_reducible refine (Q1u.calls k2 _ _ mA _ _ nA _ _ dA (rd (Q06 dA fA) cA) qA zB _ ?side1 ?side2 ?side3 ?side4 ?side5 ?side6 mD.out).mono ?_);(case side1=>exact sC dB HB);(case side2=>exact eB.out);(case side3=>exact sC fB HB);(case side4=>exact gB.out);(case side5=>exact sC yA HB);(case side6=>exact hB.out);rintro e uJ ⟨dC,rfl,tB,hb⟩;refine ⟨_,rfl,?_⟩;replace HO_7:=kR HO_7 hb;have eA:=AM (Kd.Q1b (Kd.Q2v tB (g:=sA) (o:=.cells #[.int .i64 hA,.int .i64 iA,.int .i64 jA] 27 (0,0)) (bK aA)) (Q0h (bH HB)));replace bA:=kB bA hb;replace aA:=kB aA hb;replace HB:=kH HB hb;clear hb tB;obtain ⟨yE,zE,bF,cF,dF,eF⟩:=c3 aA;obtain ⟨sH,tH,uH⟩:=Kd.Q01 eA.out;subst uH)|((with_reducible refine Q0n (f:=34) rfl ?_);refine gL (some 48) Try.func34 #[.agg #[.int .i64 hA,.int .i64 iA,.int .i64 jA],.slice sH qA.length tH] ?_;(with_reducible refine (Q1k.calls k2 hA iA jA _ _ qA bB _ ?side1 ?side2 nD.out).mono ?_);(case side1=>exact sR eA);(case side2=>exact (Kd.Q0w eA.out).2.1);rintro e vJ ⟨rfl,hb⟩;refine ⟨_,rfl,?_⟩;replace HO_7:=kR HO_7 hb;replace eA:=kR eA hb;replace bA:=kB bA hb;replace aA:=kB aA hb;replace HB:=kH HB hb;clear hb))
                 go_roundg k2
                 case measure=>have:=vB.out;have:=wB.out;omega
                 case rel=>exact ⟨(decide (bB<1)),(wrap64 (cA+1)),rS,rS,H',⟨by have:=vB.out;have:=wB.out;omega⟩,⟨rK HO_7⟩,⟨bK bA⟩,⟨bK aA⟩,⟨ bH HB⟩⟩
                ·have H':=AM H
                 clear H
                 have oA:0≤(cA:Int):=pD
                 have pA:cA<((Q06 dA fA).length:Int):=pD
                 obtain ⟨sB,iB,gA⟩:=Kd.Q2n rA.out cA oA pA
                 cases iB
                 replace gA:=hW HB gA;replace oA:=eq_true oA;replace pA:=eq_true pA;have xI:=kA.out;have yI:=lA.out;obtain ⟨fF,gF,hF,jF,kF,lF⟩:=c3 bA
                 go_wp2_with (first|((with_reducible refine Q0n (f:=33) rfl ?_);refine gL (some 43) Try.func33 #[.agg #[.slice tA mA.length uA,.slice vA nA.length wA,.slice (some zA) dA.length xA],.int .i64 (rd (Q06 dA fA) cA)] ?_;(with_reducible refine (Q1u.calls k2 _ _ mA _ _ nA _ _ dA (rd (Q06 dA fA) cA) qA zB _ ?side1 ?side2 ?side3 ?side4 ?side5 ?side6 mD.out).mono ?_);(case side1=>exact sC dB HB);(case side2=>exact eB.out);(case side3=>exact sC fB HB);(case side4=>exact gB.out);(case side5=>exact sC yA HB);(case side6=>exact hB.out);rintro e wJ ⟨dC,rfl,tB,hb⟩;refine ⟨_,rfl,?_⟩;replace HO_7:=kR HO_7 hb;have eA:=AM (Kd.Q1b (Kd.Q2v tB (g:=sA) (o:=.cells #[.int .i64 hA,.int .i64 iA,.int .i64 jA] 27 (0,0)) (bK aA)) (Q0h (bH HB)));replace bA:=kB bA hb;replace aA:=kB aA hb;replace HB:=kH HB hb;clear hb tB;obtain ⟨mF,nF,oF,pF,qF,rF⟩:=c3 aA;obtain ⟨vH,wH,xH⟩:=Kd.Q01 eA.out;subst xH)|((with_reducible refine Q0n (f:=34) rfl ?_);refine gL (some 48) Try.func34 #[.agg #[.int .i64 hA,.int .i64 iA,.int .i64 jA],.slice vH qA.length wH] ?_;(with_reducible refine (Q1k.calls k2 hA iA jA _ _ qA bB _ ?side1 ?side2 nD.out).mono ?_);(case side1=>exact sR eA);(case side2=>exact (Kd.Q0w eA.out).2.1);rintro e xJ ⟨rfl,hb⟩;refine ⟨_,rfl,?_⟩;replace HO_7:=kR HO_7 hb;replace eA:=kR eA hb;replace bA:=kB bA hb;replace aA:=kB aA hb;replace HB:=kH HB hb;clear hb))
                 go_roundg k2
                 case measure=>have:=vB.out;have:=wB.out;omega
                 case rel=>exact ⟨(false),(wrap64 (cA+1)),rS,rS,H',⟨by have:=vB.out;have:=wB.out;omega⟩,⟨rK HO_7⟩,⟨bK bA⟩,⟨bK aA⟩,⟨ bH HB⟩⟩
              ·rw [if_neg lD] at H
               have vD:(cA==0)=false:=beq_eq_false_iff_ne.mpr lD
               have wD:(cA != 0)=true:=bne_iff_ne.mpr lD
               apply iC H<;>clear H<;>intro zI H
               ·have H':=AM H
                clear H
                have oA:0≤(cA:Int):=pD
                have pA:cA<((Q06 dA fA).length:Int):=pD
                obtain ⟨sB,iB,gA⟩:=Kd.Q2n rA.out cA oA pA
                cases iB
                replace gA:=hW HB gA;replace oA:=eq_true oA;replace pA:=eq_true pA;have aJ:=kA.out;have bJ:=lA.out;obtain ⟨sF,tF,uF,vF,wF,xF⟩:=c3 bA
                go_wp2_with (first|((with_reducible refine Q0n (f:=33) rfl ?_);refine gL (some 43) Try.func33 #[.agg #[.slice tA mA.length uA,.slice vA nA.length wA,.slice (some zA) dA.length xA],.int .i64 (rd (Q06 dA fA) cA)] ?_;(with_reducible refine (Q1u.calls k2 _ _ mA _ _ nA _ _ dA (rd (Q06 dA fA) cA) qA zB _ ?side1 ?side2 ?side3 ?side4 ?side5 ?side6 mD.out).mono ?_);(case side1=>exact sC dB HB);(case side2=>exact eB.out);(case side3=>exact sC fB HB);(case side4=>exact gB.out);(case side5=>exact sC yA HB);(case side6=>exact hB.out);rintro e yJ ⟨dC,rfl,tB,hb⟩;refine ⟨_,rfl,?_⟩;replace HO_7:=kR HO_7 hb;have eA:=AM (Kd.Q1b (Kd.Q2v tB (g:=sA) (o:=.cells #[.int .i64 hA,.int .i64 iA,.int .i64 jA] 27 (0,0)) (bK aA)) (Q0h (bH HB)));replace bA:=kB bA hb;replace aA:=kB aA hb;replace HB:=kH HB hb;clear hb tB;obtain ⟨yF,zF,aG,bG,cG,dG⟩:=c3 aA;obtain ⟨yH,zH,aI⟩:=Kd.Q01 eA.out;subst aI)|((with_reducible refine Q0n (f:=34) rfl ?_);refine gL (some 48) Try.func34 #[.agg #[.int .i64 hA,.int .i64 iA,.int .i64 jA],.slice yH qA.length zH] ?_;(with_reducible refine (Q1k.calls k2 hA iA jA _ _ qA bB _ ?side1 ?side2 nD.out).mono ?_);(case side1=>exact sR eA);(case side2=>exact (Kd.Q0w eA.out).2.1);rintro e zJ ⟨rfl,hb⟩;refine ⟨_,rfl,?_⟩;replace HO_7:=kR HO_7 hb;replace eA:=kR eA hb;replace bA:=kB bA hb;replace aA:=kB aA hb;replace HB:=kH HB hb;clear hb))
                go_roundg k2
                case measure=>have:=vB.out;have:=wB.out;omega
                case rel=>exact ⟨(decide (bB<1)),(wrap64 (cA+1)),rS,rS,H',⟨by have:=vB.out;have:=wB.out;omega⟩,⟨rK HO_7⟩,⟨bK bA⟩,⟨bK aA⟩,⟨ bH HB⟩⟩
               ·have H':=AM H
                clear H
                have oA:0≤(cA:Int):=pD
                have pA:cA<((Q06 dA fA).length:Int):=pD
                obtain ⟨sB,iB,gA⟩:=Kd.Q2n rA.out cA oA pA
                cases iB
                replace gA:=hW HB gA;replace oA:=eq_true oA;replace pA:=eq_true pA;have cJ:=kA.out;have dJ:=lA.out;obtain ⟨eG,fG,gG,hG,iG,jG⟩:=c3 bA
                go_wp2_with (first|((with_reducible refine Q0n (f:=33) rfl ?_);refine gL (some 43) Try.func33 #[.agg #[.slice tA mA.length uA,.slice vA nA.length wA,.slice (some zA) dA.length xA],.int .i64 (rd (Q06 dA fA) cA)] ?_;(with_reducible refine (Q1u.calls k2 _ _ mA _ _ nA _ _ dA (rd (Q06 dA fA) cA) qA zB _ ?side1 ?side2 ?side3 ?side4 ?side5 ?side6 mD.out).mono ?_);(case side1=>exact sC dB HB);(case side2=>exact eB.out);(case side3=>exact sC fB HB);(case side4=>exact gB.out);(case side5=>exact sC yA HB);(case side6=>exact hB.out);rintro e aK ⟨dC,rfl,tB,hb⟩;refine ⟨_,rfl,?_⟩;replace HO_7:=kR HO_7 hb;have eA:=AM (Kd.Q1b (Kd.Q2v tB (g:=sA) (o:=.cells #[.int .i64 hA,.int .i64 iA,.int .i64 jA] 27 (0,0)) (bK aA)) (Q0h (bH HB)));replace bA:=kB bA hb;replace aA:=kB aA hb;replace HB:=kH HB hb;clear hb tB;obtain ⟨lG,mG,nG,oG,pG,qG⟩:=c3 aA;obtain ⟨bI,cI,dI⟩:=Kd.Q01 eA.out;subst dI)|((with_reducible refine Q0n (f:=34) rfl ?_);refine gL (some 48) Try.func34 #[.agg #[.int .i64 hA,.int .i64 iA,.int .i64 jA],.slice bI qA.length cI] ?_;(with_reducible refine (Q1k.calls k2 hA iA jA _ _ qA bB _ ?side1 ?side2 nD.out).mono ?_);(case side1=>exact sR eA);(case side2=>exact (Kd.Q0w eA.out).2.1);rintro e cK ⟨rfl,hb⟩;refine ⟨_,rfl,?_⟩;replace HO_7:=kR HO_7 hb;replace eA:=kR eA hb;replace bA:=kB bA hb;replace aA:=kB aA hb;replace HB:=kH HB hb;clear hb))
                go_roundg k2
                case measure=>have:=vB.out;have:=wB.out;omega
                case rel=>exact ⟨(false),(wrap64 (cA+1)),rS,rS,H',⟨by have:=vB.out;have:=wB.out;omega⟩,⟨rK HO_7⟩,⟨bK bA⟩,⟨bK aA⟩,⟨ bH HB⟩⟩
             ·replace eE:=Bool.eq_false_iff.mpr eE
              subst eE
              replace H:=iF H
              have H':=AM H
              clear H
              have oA:0≤(cA:Int):=pD
              have pA:cA<((Q06 dA fA).length:Int):=pD
              obtain ⟨sB,iB,gA⟩:=Kd.Q2n rA.out cA oA pA
              cases iB
              replace gA:=hW HB gA;replace oA:=eq_true oA;replace pA:=eq_true pA;have eJ:=kA.out;have fJ:=lA.out;obtain ⟨rG,sG,tG,uG,vG,wG⟩:=c3 bA
              go_wp2_with (first|((with_reducible refine Q0n (f:=33) rfl ?_);refine gL (some 43) Try.func33 #[.agg #[.slice tA mA.length uA,.slice vA nA.length wA,.slice (some zA) dA.length xA],.int .i64 (rd (Q06 dA fA) cA)] ?_;(with_reducible refine (Q1u.calls k2 _ _ mA _ _ nA _ _ dA (rd (Q06 dA fA) cA) qA zB _ ?side1 ?side2 ?side3 ?side4 ?side5 ?side6 mD.out).mono ?_);(case side1=>exact sC dB HB);(case side2=>exact eB.out);(case side3=>exact sC fB HB);(case side4=>exact gB.out);(case side5=>exact sC yA HB);(case side6=>exact hB.out);rintro e dK ⟨dC,rfl,tB,hb⟩;refine ⟨_,rfl,?_⟩;replace HO_7:=kR HO_7 hb;have eA:=AM (Kd.Q1b (Kd.Q2v tB (g:=sA) (o:=.cells #[.int .i64 hA,.int .i64 iA,.int .i64 jA] 27 (0,0)) (bK aA)) (Q0h (bH HB)));replace bA:=kB bA hb;replace aA:=kB aA hb;replace HB:=kH HB hb;clear hb tB;obtain ⟨xG,yG,zG,aH,cH,dH⟩:=c3 aA;obtain ⟨eI,fI,gI⟩:=Kd.Q01 eA.out;subst gI)|((with_reducible refine Q0n (f:=34) rfl ?_);refine gL (some 48) Try.func34 #[.agg #[.int .i64 hA,.int .i64 iA,.int .i64 jA],.slice eI qA.length fI] ?_;(with_reducible refine (Q1k.calls k2 hA iA jA _ _ qA bB _ ?side1 ?side2 nD.out).mono ?_);(case side1=>exact sR eA);(case side2=>exact (Kd.Q0w eA.out).2.1);rintro e eK ⟨rfl,hb⟩;refine ⟨_,rfl,?_⟩;replace HO_7:=kR HO_7 hb;replace eA:=kR eA hb;replace bA:=kB bA hb;replace aA:=kB aA hb;replace HB:=kH HB hb;clear hb))
              go_roundg k2
              case measure=>have:=vB.out;have:=wB.out;omega
              case rel=>exact ⟨(false),(wrap64 (cA+1)),rS,rS,H',⟨by have:=vB.out;have:=wB.out;omega⟩,⟨rK HO_7⟩,⟨bK bA⟩,⟨bK aA⟩,⟨ bH HB⟩⟩
          ·by_cases eH:rB=true
           ·subst eH
            replace H:=iT H
            by_cases fH:lB.length<17592186044416
            ·rw [if_pos fH] at H
             have xD:=AM fH
             clear fH
             obtain ⟨yD,uB⟩:∃ y_:List Int,y_=(lB++[fA]):=⟨_,rfl⟩
             replace H:(Q0x.l0 k2 yD dA (dA.length:Int) (wrap64 (fA+1)) mA nA dA hA iA jA)=some (r1,r2):=by first|(rw [uB];with_reducible exact H)|(have kD:=(Option.bind_some _ _).symm.trans H;rw [uB];with_reducible exact kD)|(have kD:=(Option.bind_some _ _).symm.trans H;with_reducible exact kD)|with_reducible exact H|(rw [uB];exact H)|exact H
             have zD:=AM uB
             clear uB
             have H':=AM H
             clear H
             go_wp2_with (first|((with_reducible refine Q1v (b:=.append) (xs:=#[.tmp 68,.tmp 70]) rfl ?_);at_builtin;refine Kd.Q3j (Kd.int .i64) (w0:=w) w.heap.size rfl (.tmp 68) (.tmp 70) 32 3 (.int .i64 0) 8 rfl Try.underlying32 info3 rfl (by decide) (by omega) u7 lB fA [.int .i64 fA] (fun _=>True) (fun _=>False) rfl rfl ?aP (fun _ hk=>hk.elim) ?aF ?aO ?aB ?aS ?aL ?_;(case aP=>exact rfl);(case aB=>exact (bH HB));(case aF=>exact (fun _ _=>trivial));(case aO=>exact (rK HO_7));(case aS=>exact (Q0h (bH HB)));(case aL=>have:=xD.out;omega);intro pJ fK ho hb hg hat;rw [← zD.out] at ho;replace bA:=AM (Q1w (g:=bC) (o:=.cells #[.slice tA mA.length uA,.slice vA nA.length wA,.slice (some zA) dA.length xA] 25 (0,0)) (bK bA) hg (Kd.R_ne HO_7.out bA.out (by decide)));replace aA:=AM (Q1w (g:=sA) (o:=.cells #[.int .i64 hA,.int .i64 iA,.int .i64 jA] 27 (0,0)) (bK aA) hg (Kd.R_ne HO_7.out aA.out (by decide)));replace HB:=AM hb;have aE:=AM ho;clear HO_7;clear ho hb hg hat))
             go_roundg k2
             case measure=>have:=vB.out;have:=wB.out;omega
             case rel=>exact ⟨(yD),(wrap64 (fA+1)),rS,H',⟨by have:=vB.out;have:=wB.out;omega⟩,⟨rK aE⟩,⟨bK bA⟩,⟨bK aA⟩,⟨ bH HB⟩⟩
            ·rw [if_neg fH] at H
             exact absurd H (by simp)
           ·replace eH:=Bool.eq_false_iff.mpr eH
            subst eH
            replace H:=iF H
            have H':=AM H
            clear H
            go_wp2
            go_roundg k2
            case measure=>have:=vB.out;have:=wB.out;omega
            case rel=>exact ⟨(lB),(wrap64 (fA+1)),rS,H',⟨by have:=vB.out;have:=wB.out;omega⟩,⟨rK HO_7⟩,⟨bK bA⟩,⟨bK aA⟩,⟨ bH HB⟩⟩
     ·(first|rw [qB]|(simp only [Q1r,Q13];rw [qB])|skip)
      simp only [Option.some.injEq,Prod.mk.injEq] at H
      obtain ⟨rfl,rfl⟩:=H
      go_wp2
      go_ret2
      exact ⟨_,rE,rK HO_7,bH HB⟩
  ·replace cE:=Bool.eq_false_iff.mpr cE
   subst cE
   replace H:=iF H
   simp only [Option.some.injEq,Prod.mk.injEq] at H
   obtain ⟨rfl,rfl⟩:=H
   go_wp2
   go_ret2
   exact ⟨_,rE,by first|exact Kd.Q3k _ _ _ _ _|exact Kd.Q3t _ _ _ _ _|exact Kd.Q3x _ _ _ _ _|exact Kd.Q3v _ _ _ _ _|exact Kd.Q3y _ _ _ _ _,bH HB⟩
 ·rw [if_neg iD] at H
  have jB:(cB==0)=false:=beq_eq_false_iff_ne.mpr iD
  have aD:(cB != 0)=true:=bne_iff_ne.mpr iD
  (first|rw [jB]|(simp only [Q1r,Q13];rw [jB])|skip)
  simp only [Option.some.injEq,Prod.mk.injEq] at H
  obtain ⟨rfl,rfl⟩:=H
  go_wp2
  go_ret2
  exact ⟨_,rE,by first|exact Kd.Q3k _ _ _ _ _|exact Kd.Q3t _ _ _ _ _|exact Kd.Q3x _ _ _ _ _|exact Kd.Q3v _ _ _ _ _|exact Kd.Q3y _ _ _ _ _,bH HB⟩
end Go.Proofs.Ytbonkedecfjmdaa.P
