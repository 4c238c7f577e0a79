/- Written for this claim by a program of this session (a turned copy of the print): Go functions as Lean functions, and that the Go code comes to just these answers; or a statement proved out of them. No condition. -/
import Derived.Test.YtbonkedecfjmdaaZ2
import Derived.Test.YtbonkedecfjmdaaZ3
import Derived.Test.YtbonkedecfjmdaaZ7
import Derived.Test.YtbonkedecfjmdaaZ8

namespace Go.Proofs.Ytbonkedecfjmdaa.P
open Go.RowKit Go.Proofs.YtbonkedecfjmdaaW.PrintWords Go.Proofs.YtbonkedecfjmdaaW.PrintLast Go.Proofs.YtbonkedecfjmdaaW.PrintMore Go.Proofs.Ytbonkedecfjmdaa.X
attribute [local go_sem] Q2a Q2b Q2s Q2q Q1z Q1y Q19 Q2c Q2r Q2p add64
set_option linter.unusedVariables false
set_option linter.unusedSimpArgs false
mutual
def Q0z.j0:Nat→List (S27)→Bool→Int→Int→Int→Option (Int)
 | 0,_,_,_,_,_=>none
 | k+1,x1,x19,x276000,x276001,x276002=>if x19=true then (some 0) else (Q0z.l0 k x1 0 0 x276000 x276001 x276002)
def Q0z.l0:Nat→List (S27)→Int→Int→Int→Int→Int→Option (Int)
 | 0,_,_,_,_,_,_=>none
 | k+1,x1,x5,x6,x276000,x276001,x276002=>if x6<(x1.length:Int) then (if 0≤x6 then (if 0<(x1.length:Int) then (if (wrap64 (x6+1))<(x1.length:Int) then (if 0≤(wrap64 (x6+1)) then (Q0z.j2 k x1 x5 x6 x276000 x276001 x276002 ((Q0a x1 x6).f0) ((Q0a x1 x6).f1) ((Q0a x1 x6).f2) ((Q0a x1 (wrap64 (x6+1))).f0) ((Q0a x1 (wrap64 (x6+1))).f1) ((Q0a x1 (wrap64 (x6+1))).f2)) else (none)) else (Q0z.j2 k x1 x5 x6 x276000 x276001 x276002 ((Q0a x1 x6).f0) ((Q0a x1 x6).f1) ((Q0a x1 x6).f2) ((Q0a x1 0).f0) ((Q0a x1 0).f1) ((Q0a x1 0).f2))) else (none)) else (none)) else (if (Int.tmod x5 2)=1 then (some 1) else (some (-1)))
def Q0z.j2:Nat→List (S27)→Int→Int→Int→Int→Int→Int→Int→Int→Int→Int→Int→Option (Int)
 | 0,_,_,_,_,_,_,_,_,_,_,_,_=>none
 | k+1,x1,x5,x6,x276000,x276001,x276002,x283000,x283001,x283002,x285000,x285001,x285002=>(Q28.f k x276000 x276001 x276002 x283000 x283001 x283002 x285000 x285001 x285002).bind fun nC=>(if nC=true then (some 0) else (if x283001≤x276001 then (Q0z.j3 k x1 x5 x6 (decide (x276001<x285001)) x276000 x276001 x276002 x283000 x283001 x283002 x285000 x285001 x285002) else (Q0z.j3 k x1 x5 x6 false x276000 x276001 x276002 x283000 x283001 x283002 x285000 x285001 x285002)))
def Q0z.j3:Nat→List (S27)→Int→Int→Bool→Int→Int→Int→Int→Int→Int→Int→Int→Int→Option (Int)
 | 0,_,_,_,_,_,_,_,_,_,_,_,_,_=>none
 | k+1,x1,x5,x6,x9,x276000,x276001,x276002,x283000,x283001,x283002,x285000,x285001,x285002=>if x285001≤x276001 then (Q0z.j4 k x1 x5 x6 x9 (decide (x276001<x283001)) x276000 x276001 x276002 x283000 x283001 x283002 x285000 x285001 x285002) else (Q0z.j4 k x1 x5 x6 x9 false x276000 x276001 x276002 x283000 x283001 x283002 x285000 x285001 x285002)
def Q0z.j4:Nat→List (S27)→Int→Int→Bool→Bool→Int→Int→Int→Int→Int→Int→Int→Int→Int→Option (Int)
 | 0,_,_,_,_,_,_,_,_,_,_,_,_,_,_=>none
 | k+1,x1,x5,x6,x9,x10,x276000,x276001,x276002,x283000,x283001,x283002,x285000,x285001,x285002=>if x9=true then ((Q1d.f k x283000 x283001 x283002 x285000 x285001 x285002 x276000 x276001 x276002).bind fun jC=>(if jC>0 then (Q0z.l0 k x1 (wrap64 (x5+1)) (wrap64 (x6+1)) x276000 x276001 x276002) else (if x10=true then ((Q1d.f k x283000 x283001 x283002 x285000 x285001 x285002 x276000 x276001 x276002).bind fun aE=>(if aE<0 then (Q0z.l0 k x1 (wrap64 (x5+1)) (wrap64 (x6+1)) x276000 x276001 x276002) else (Q0z.l0 k x1 x5 (wrap64 (x6+1)) x276000 x276001 x276002))) else (Q0z.l0 k x1 x5 (wrap64 (x6+1)) x276000 x276001 x276002)))) else (if x10=true then ((Q1d.f k x283000 x283001 x283002 x285000 x285001 x285002 x276000 x276001 x276002).bind fun cE=>(if cE<0 then (Q0z.l0 k x1 (wrap64 (x5+1)) (wrap64 (x6+1)) x276000 x276001 x276002) else (Q0z.l0 k x1 x5 (wrap64 (x6+1)) x276000 x276001 x276002))) else (Q0z.l0 k x1 x5 (wrap64 (x6+1)) x276000 x276001 x276002))
end
def Q0z.f (k:Nat) (iA:Int) (hA:Int) (jA:Int) (l1:List (S27)):Option (Int):=(Q0s.f k (([(⟨iA,hA,jA⟩:S27)]:List (S27)))).bind fun yB=>(if yB=true then ((Q0s.f k l1).bind fun uB=>(Q0z.j0 k l1 (!uB) iA hA jA)) else (Q0z.j0 k l1 true iA hA jA))
theorem Q0z.Q1a:∀ k,(∀ y0 y1 y2 y3 y4,LeO (Q0z.j0 k y0 y1 y2 y3 y4) (Q0z.j0 (k+1) y0 y1 y2 y3 y4))∧(∀ y0 y1 y2 y3 y4 y5,LeO (Q0z.l0 k y0 y1 y2 y3 y4 y5) (Q0z.l0 (k+1) y0 y1 y2 y3 y4 y5))∧(∀ y0 y1 y2 y3 y4 y5 y6 y7 y8 y9 y10 y11,LeO (Q0z.j2 k y0 y1 y2 y3 y4 y5 y6 y7 y8 y9 y10 y11) (Q0z.j2 (k+1) y0 y1 y2 y3 y4 y5 y6 y7 y8 y9 y10 y11))∧(∀ y0 y1 y2 y3 y4 y5 y6 y7 y8 y9 y10 y11 y12,LeO (Q0z.j3 k y0 y1 y2 y3 y4 y5 y6 y7 y8 y9 y10 y11 y12) (Q0z.j3 (k+1) y0 y1 y2 y3 y4 y5 y6 y7 y8 y9 y10 y11 y12))∧(∀ y0 y1 y2 y3 y4 y5 y6 y7 y8 y9 y10 y11 y12 y13,LeO (Q0z.j4 k y0 y1 y2 y3 y4 y5 y6 y7 y8 y9 y10 y11 y12 y13) (Q0z.j4 (k+1) y0 y1 y2 y3 y4 y5 y6 y7 y8 y9 y10 y11 y12 y13))
 | 0=>⟨fun _ _ _ _ _ r h=>by simp [Q0z.j0] at h,fun _ _ _ _ _ _ r h=>by simp [Q0z.l0] at h,fun _ _ _ _ _ _ _ _ _ _ _ _ r h=>by simp [Q0z.j2] at h,fun _ _ _ _ _ _ _ _ _ _ _ _ _ r h=>by simp [Q0z.j3] at h,fun _ _ _ _ _ _ _ _ _ _ _ _ _ _ r h=>by simp [Q0z.j4] at h⟩
 | k+1=>by
  obtain ⟨nL,oL,pL,qL,rL⟩:=Q0z.Q1a k
  refine ⟨?_,?_,?_,?_,?_⟩
  all_goals
   intros
   first|unfold Q0z.j0|unfold Q0z.l0|unfold Q0z.j2|unfold Q0z.j3|unfold Q0z.j4
   repeat' with_reducible first|exact nL _ _ _ _ _|exact oL _ _ _ _ _ _|exact pL _ _ _ _ _ _ _ _ _ _ _ _|exact qL _ _ _ _ _ _ _ _ _ _ _ _ _|exact rL _ _ _ _ _ _ _ _ _ _ _ _ _ _|exact Q28.mono _ _ _ _ _ _ _ _ _ _|exact Q0s.mono _ _|exact Q1d.mono _ _ _ _ _ _ _ _ _ _|exact LeO.refl _|exact LeO.none _|refine LeO.ite ?_ ?_|refine LeO.bind ?_ (fun _ => ?_)
theorem Q0z.mono:∀ a0 a1 a2 a3 k,LeO (Q0z.f k a0 a1 a2 a3) (Q0z.f (k+1) a0 a1 a2 a3):=by
 intro a0 a1 a2 a3 k
 obtain ⟨nL,oL,pL,qL,rL⟩:=Q0z.Q1a k
 unfold Q0z.f
 repeat' with_reducible first|exact nL _ _ _ _ _|exact oL _ _ _ _ _ _|exact pL _ _ _ _ _ _ _ _ _ _ _ _|exact qL _ _ _ _ _ _ _ _ _ _ _ _ _|exact rL _ _ _ _ _ _ _ _ _ _ _ _ _ _|exact Q28.mono _ _ _ _ _ _ _ _ _ _|exact Q0s.mono _ _|exact Q1d.mono _ _ _ _ _ _ _ _ _ _|exact LeO.refl _|exact LeO.none _|refine LeO.ite ?_ ?_|refine LeO.bind ?_ (fun _ => ?_)
set_option maxHeartbeats 8000000 in
set_option maxRecDepth 100000 in
theorem Q0z.calls (k:Nat) (iA:Int) (hA:Int) (jA:Int) (A1:Option Addr) (c1:Nat) (l1:List (S27)) (r:Int) (w:World) (vM:Kd.C k27 w A1 l1.length l1) (wM:l1.length≤c1) (h:Q0z.f k iA hA jA l1=some r) :
  Calls Try.prog 36 #[.agg #[.int .i64 iA,.int .i64 hA,.int .i64 jA],.slice A1 l1.length c1] w fun e w'=>e=.returned (.int .i64 r)∧Below w.heap.size w w':=by
 have kP:=Try.underlying27
 have fG:=AM vM
 have lP:=AM wM
 clear vM wM
 have HB:=AM (Below.refl w.heap.size w)
 have H:((Q0s.f k (([(⟨iA,hA,jA⟩:S27)]:List (S27)))).bind fun yB=>(if yB=true then ((Q0s.f k l1).bind fun uB=>(Q0z.j0 k l1 (!uB) iA hA jA)) else (Q0z.j0 k l1 true iA hA jA)))=some r:=h
 clear h
 have sL:=AM H
 clear H
 go_enter Try.func36,Try.ntmps36
 go_upto_region 1 with (first|((with_reducible refine Q0i (N:=2) rfl ?_);refine bE 2 #[.int .i64 iA,.int .i64 hA,.int .i64 jA] 27 ?_;intro mB hg w4 hbox hb;have aA:=AM hbox;have kE:=kG HB hg;replace HB:=kH HB hb;have xM:=kE;clear hb hbox hg))
 (try simp only [Act.put,List.setIfInBounds_toArray,List.set_cons_zero,List.set_cons_succ])
 go_cut [19] (fun mP wc=>∃ (kq:Nat) (aC:Bool),mP=.bool aC∧Aside0 (Q0z.j0 kq l1 aC iA hA jA=some r)∧Aside0 (kq≤k)∧Aside0 (wc.heap[mB]? = some (.cells #[.int .i64 iA,.int .i64 hA,.int .i64 jA] 27 (0,0)))∧Aside0 (Below w.heap.size w wc))
 case first =>
  have H:=sL.out;clear sL
  obtain ⟨kC,vB⟩:∃ y_:List (S27),y_=(([(⟨iA,hA,jA⟩:S27)]:List (S27))):=⟨_,rfl⟩
  replace H:((Q0s.f k kC).bind fun yB=>(if yB=true then ((Q0s.f k l1).bind fun uB=>(Q0z.j0 k l1 (!uB) iA hA jA)) else (Q0z.j0 k l1 true iA hA jA)))=some r:=by first|(rw [vB];with_reducible exact H)|(have tL:=(Option.bind_some _ _).symm.trans H;rw [vB];with_reducible exact tL)|(have tL:=(Option.bind_some _ _).symm.trans H;with_reducible exact tL)|with_reducible exact H|(rw [vB];exact H)|exact H
  have bC:=AM vB
  clear vB
  obtain ⟨yB,A5,H⟩:=bS H
  by_cases c6:yB=true
  ·subst c6
   replace H:=iT H
   obtain ⟨uB,A7,H⟩:=bS H
   have H':=AM H
   clear H;obtain ⟨uL,vL,wL,xL,yL,zL⟩:=c3 aA
   go_wp2_with (first|((with_reducible refine Q0i (N:=12) rfl ?_);refine Kd.Q4s k27 _ 27 ?hg (N:=12) ?hd (xs:=([(⟨iA,hA,jA⟩:S27)]:List (S27))) (inner:=[.int .i64 iA,.int .i64 hA,.int .i64 jA]) (ok:=fun _=>True) (okp:=fun _=>True) ?hr ?hp (fun _ hk=>hk) trivial (Below.refl _ _) (Nat.le_refl _) (by simp) ?_;(case hd=>rfl);(case hg=>rfl);(case hr=>first|(go_simp;done)|(go_simp;rfl));(case hp=>exact (Reps.c3 (show Kd.M k27 _ _ _ (⟨iA,hA,jA⟩:S27) [.int .i64 iA,.int .i64 hA,.int .i64 jA] from (Q2o _ _ _ (⟨iA,hA,jA⟩:S27) )) (Reps.none _ _)));intro aM w9 lC hb hg_ hnew_;clear hg_ hnew_;(first|rw [← bC.out] at lC|(simp only [Int.reduceToNat] at lC;rw [← bC.out] at lC));have eB:=AM (Kd.Q1b (Kd.Q2v lC (g:=mB) (o:=.cells #[.int .i64 iA,.int .i64 hA,.int .i64 jA] 27 (0,0)) (bK aA)) (Q0h (bH HB)));replace aA:=kB aA hb;replace HB:=kH HB hb;clear hb lC;obtain ⟨bM,cM,dM⟩:=Kd.Q01 eB.out;subst dM)|((with_reducible refine Q0n (f:=22) rfl ?_);refine gL (some 13) Try.func22 #[.slice bM kC.length cM] ?_;(with_reducible refine (Q0s.calls k _ _ kC true _ ?side1 ?side2 A5.out).mono ?_);(case side1=>exact sR eB);(case side2=>exact (Kd.Q0w eB.out).2.1);rintro e rP ⟨rfl,hb⟩;refine ⟨_,rfl,?_⟩;replace eB:=kR eB hb;replace aA:=kB aA hb;replace HB:=kH HB hb;clear hb)|(go_at_call 22;(with_reducible refine (Q0s.calls k _ _ l1 uB _ ?side1 ?side2 A7.out).mono ?_);(case side1=>exact sC fG HB);(case side2=>exact lP.out);rintro e sP ⟨rfl,hb⟩;replace eB:=kR eB hb;replace aA:=kB aA hb;replace HB:=kH HB hb;clear hb))
   go_meet
   case rel=>exact ⟨_,(!uB),rS,H',⟨by first|omega|exact Nat.le_refl _⟩,⟨bK aA⟩,⟨ bH HB⟩⟩
  ·replace c6:=Bool.eq_false_iff.mpr c6
   subst c6
   replace H:=iF H
   have H':=AM H
   clear H;obtain ⟨gG,hG,iG,jG,lG,mG⟩:=c3 aA
   go_wp2_with (first|((with_reducible refine Q0i (N:=12) rfl ?_);refine Kd.Q4s k27 _ 27 ?hg (N:=12) ?hd (xs:=([(⟨iA,hA,jA⟩:S27)]:List (S27))) (inner:=[.int .i64 iA,.int .i64 hA,.int .i64 jA]) (ok:=fun _=>True) (okp:=fun _=>True) ?hr ?hp (fun _ hk=>hk) trivial (Below.refl _ _) (Nat.le_refl _) (by simp) ?_;(case hd=>rfl);(case hg=>rfl);(case hr=>first|(go_simp;done)|(go_simp;rfl));(case hp=>exact (Reps.c3 (show Kd.M k27 _ _ _ (⟨iA,hA,jA⟩:S27) [.int .i64 iA,.int .i64 hA,.int .i64 jA] from (Q2o _ _ _ (⟨iA,hA,jA⟩:S27) )) (Reps.none _ _)));intro aM tP mC hb hg_ hnew_;clear hg_ hnew_;(first|rw [← bC.out] at mC|(simp only [Int.reduceToNat] at mC;rw [← bC.out] at mC));have eB:=AM (Kd.Q1b (Kd.Q2v mC (g:=mB) (o:=.cells #[.int .i64 iA,.int .i64 hA,.int .i64 jA] 27 (0,0)) (bK aA)) (Q0h (bH HB)));replace aA:=kB aA hb;replace HB:=kH HB hb;clear hb mC;obtain ⟨eM,fM,gM⟩:=Kd.Q01 eB.out;subst gM)|((with_reducible refine Q0n (f:=22) rfl ?_);refine gL (some 13) Try.func22 #[.slice eM kC.length fM] ?_;(with_reducible refine (Q0s.calls k _ _ kC false _ ?side1 ?side2 A5.out).mono ?_);(case side1=>exact sR eB);(case side2=>exact (Kd.Q0w eB.out).2.1);rintro e uP ⟨rfl,hb⟩;refine ⟨_,rfl,?_⟩;replace eB:=kR eB hb;replace aA:=kB aA hb;replace HB:=kH HB hb;clear hb))
   go_meet
   case rel=>exact ⟨_,(true),rS,H',⟨by first|omega|exact Nat.le_refl _⟩,⟨bK aA⟩,⟨ bH HB⟩⟩
 case rest =>
  clear sL
  obtain ⟨kq,aC,rfl,HA,oB,aA,HB⟩:=hcut
  cases kq with
  | zero=>exact absurd HA.out (by simp [Q0z.j0])
  | succ kj2 =>
   have H:=HA.out;clear HA
   simp only [Q0z.j0] at H
   by_cases nG:aC=true
   ·subst nG
    replace H:=iT H
    obtain rfl:=Option.some.inj H
    go_wp2
    go_ret
    exact ⟨rE,bH HB⟩
   ·replace nG:=Bool.eq_false_iff.mpr nG
    subst nG
    replace H:=iF H
    have H':=AM H
    clear H
    go_wp2
    go_loopg [5,6] kj2 (fun kq v5 v6 w'=>∃ (fB:Int) (bA:Int),v5=.int .i64 fB∧v6=.int .i64 bA∧Aside0 (Q0z.l0 kq l1 fB bA iA hA jA=some r)∧Aside0 (kq≤kj2)∧Aside0 (w'.heap[mB]? = some (.cells #[.int .i64 iA,.int .i64 hA,.int .i64 jA] 27 (0,0)))∧Aside0 (Below w.heap.size w w'))
    case atStart=>exact ⟨(0),(0),rS,rS,H',⟨Nat.le_refl _⟩,⟨bK aA⟩,⟨ bH HB⟩⟩
    case round =>
     clear H'
     obtain ⟨fB,bA,rfl,rfl,HA,pB,aA,HB⟩:=hrel
     cases gk with
     | zero=>exact absurd HA.out (by simp [Q0z.l0])
     | succ k2 =>
      have H:=HA.out;clear HA
      simp only [Q0z.l0] at H
      apply iC H<;>clear H<;>intro lE H
      ·apply iN H;clear H;intro mE H
       ·by_cases oG:0<(l1.length:Int)
        ·rw [if_pos oG] at H
         have nE:=decide_eq_true oG
         have oE:decide (0<l1.length)=true:=decide_eq_true (by omega)
         clear oG
         have dE:=AM H
         clear H
         have oC:0≤(bA:Int):=pD
         have pC:bA<(l1.length:Int):=pD
         obtain ⟨lB,hM,qB,rB,sB⟩:=Q2i fG.out bA oC pC
         cases hM
         replace qB:=hW HB qB;replace rB:=hW HB rB;replace sB:=hW HB sB;replace oC:=eq_true oC;replace pC:=eq_true pC
         go_upto_if 37 with (first|((with_reducible refine Q0i (N:=7) rfl ?_);refine bE 7 #[.int .i64 0,.int .i64 0,.int .i64 0] 27 ?_;intro tA hg vP hbox hb;have fA:=AM hbox;have cC:=kG HB hg;replace HB:=kH HB hb;have yM:=cC;have pA:=kN aA hg;have qA:=kM aA hg;replace aA:=kB aA hb;clear hb hbox hg;have zM:=qA.out;have aN:=pA.out;obtain ⟨qC,rC,tC,uC,vC,wC⟩:=c3 fA;have xC:0≤(0:Int):=(by omega);have yC:0<(l1.length:Int):=pD;obtain ⟨pE,iM,oA,rA,sA⟩:=Q2i fG.out 0 xC yC;obtain rfl:lB=pE:=(by injection iM);have bN:(0<l1.length)=True:=eq_true (by omega);(try rw [show ((0:Int)).toNat=0 from rfl] at oA);(try rw [show 0*3=0 from rfl] at oA);(try rw [Addr.add_zero'] at oA);(try rw [show ((0:Int)).toNat=0 from rfl] at rA);(try rw [show 0*3=0 from rfl] at rA);(try rw [Addr.add_zero'] at rA);(try rw [show ((0:Int)).toNat=0 from rfl] at sA);(try rw [show 0*3=0 from rfl] at sA);(try rw [Addr.add_zero'] at sA);have vA:lB.block≠tA:=Nat.ne_of_lt (Nat.lt_of_lt_of_le (by have:=World.block_lt_of_cell? _ _ oA;first|rwa [add_block] at this|exact this) cC.out);have wA:lB.block≠tA:=Nat.ne_of_lt (Nat.lt_of_lt_of_le (by have:=World.block_lt_of_cell? _ _ oA;first|rwa [add_block] at this|exact this) cC.out);have xA:lB.block≠tA:=Nat.ne_of_lt (Nat.lt_of_lt_of_le (by have:=World.block_lt_of_cell? _ _ oA;first|rwa [add_block] at this|exact this) cC.out);replace oA:=hW HB oA;replace rA:=hW HB rA;replace sA:=hW HB sA;replace oA:=(cell_far (p:=⟨tA,0,none⟩) (by first|(rw [add_block];exact vA)|(show (Addr.add _ _).block≠_;rw [add_block];exact vA)|exact vA) (.int .i64 ((Q0a l1 bA).f0))).trans oA;replace rA:=(cell_far (p:=⟨tA,0,none⟩) (by first|(rw [add_block];exact vA)|(show (Addr.add _ _).block≠_;rw [add_block];exact vA)|exact vA) (.int .i64 ((Q0a l1 bA).f0))).trans rA;replace sA:=(cell_far (p:=⟨tA,0,none⟩) (by first|(rw [add_block];exact vA)|(show (Addr.add _ _).block≠_;rw [add_block];exact vA)|exact vA) (.int .i64 ((Q0a l1 bA).f0))).trans sA;replace oA:=(cell_far (p:=⟨tA,1,none⟩) (by first|(rw [add_block];exact wA)|(show (Addr.add _ _).block≠_;rw [add_block];exact wA)|exact wA) (.int .i64 ((Q0a l1 bA).f1))).trans oA;replace rA:=(cell_far (p:=⟨tA,1,none⟩) (by first|(rw [add_block];exact wA)|(show (Addr.add _ _).block≠_;rw [add_block];exact wA)|exact wA) (.int .i64 ((Q0a l1 bA).f1))).trans rA;replace sA:=(cell_far (p:=⟨tA,1,none⟩) (by first|(rw [add_block];exact wA)|(show (Addr.add _ _).block≠_;rw [add_block];exact wA)|exact wA) (.int .i64 ((Q0a l1 bA).f1))).trans sA;replace oA:=(cell_far (p:=⟨tA,2,none⟩) (by first|(rw [add_block];exact xA)|(show (Addr.add _ _).block≠_;rw [add_block];exact xA)|exact xA) (.int .i64 ((Q0a l1 bA).f2))).trans oA;replace rA:=(cell_far (p:=⟨tA,2,none⟩) (by first|(rw [add_block];exact xA)|(show (Addr.add _ _).block≠_;rw [add_block];exact xA)|exact xA) (.int .i64 ((Q0a l1 bA).f2))).trans rA;replace sA:=(cell_far (p:=⟨tA,2,none⟩) (by first|(rw [add_block];exact xA)|(show (Addr.add _ _).block≠_;rw [add_block];exact xA)|exact xA) (.int .i64 ((Q0a l1 bA).f2))).trans sA;clear vA;clear wA;clear xA;replace xC:=eq_true xC;replace yC:=eq_true yC)|((with_reducible refine Q0i (N:=8) rfl ?_);refine bE 8 #[.int .i64 0,.int .i64 0,.int .i64 0] 27 ?_;intro bB hg wP hbox hb;have gA:=AM hbox;have dC:=kG HB hg;replace HB:=kH HB hb;have cN:=dC;have kA:=kN aA hg;have lA:=kM aA hg;replace aA:=kB aA hb;have mA:=AM (by rw [hg];exact Nat.ne_of_lt (Q25 (g:=tA) (o:=.cells #[.int .i64 ((Q0a l1 bA).f0),.int .i64 ((Q0a l1 bA).f1),.int .i64 ((Q0a l1 bA).f2)] 27 (0,0)) (by (with_reducible repeat (first|refine Q0c ?_ _|refine Q0d ?_|refine Q0b ?_ _));refine Q0u (cs:=#[.int .i64 ((Q0a l1 bA).f0),.int .i64 ((Q0a l1 bA).f1),.int .i64 0]) ?_ 2 _ rfl;(with_reducible repeat (first|refine Q0c ?_ _|refine Q0d ?_|refine Q0b ?_ _));refine Q0u (cs:=#[.int .i64 ((Q0a l1 bA).f0),.int .i64 0,.int .i64 0]) ?_ 1 _ rfl;(with_reducible repeat (first|refine Q0c ?_ _|refine Q0d ?_|refine Q0b ?_ _));refine Q0u (cs:=#[.int .i64 0,.int .i64 0,.int .i64 0]) ?_ 0 _ rfl;(with_reducible repeat (first|refine Q0c ?_ _|refine Q0d ?_|refine Q0b ?_ _));exact fA.out)):tA≠bB);have nA:=AM (by rw [hg];exact Nat.ne_of_gt (Q25 (g:=tA) (o:=.cells #[.int .i64 ((Q0a l1 bA).f0),.int .i64 ((Q0a l1 bA).f1),.int .i64 ((Q0a l1 bA).f2)] 27 (0,0)) (by (with_reducible repeat (first|refine Q0c ?_ _|refine Q0d ?_|refine Q0b ?_ _));refine Q0u (cs:=#[.int .i64 ((Q0a l1 bA).f0),.int .i64 ((Q0a l1 bA).f1),.int .i64 0]) ?_ 2 _ rfl;(with_reducible repeat (first|refine Q0c ?_ _|refine Q0d ?_|refine Q0b ?_ _));refine Q0u (cs:=#[.int .i64 ((Q0a l1 bA).f0),.int .i64 0,.int .i64 0]) ?_ 1 _ rfl;(with_reducible repeat (first|refine Q0c ?_ _|refine Q0d ?_|refine Q0b ?_ _));refine Q0u (cs:=#[.int .i64 0,.int .i64 0,.int .i64 0]) ?_ 0 _ rfl;(with_reducible repeat (first|refine Q0c ?_ _|refine Q0d ?_|refine Q0b ?_ _));exact fA.out)):bB≠tA);replace fA:=AM (Q1p (g:=tA) (o:=.cells #[.int .i64 ((Q0a l1 bA).f0),.int .i64 ((Q0a l1 bA).f1),.int .i64 ((Q0a l1 bA).f2)] 27 (0,0)) (by (with_reducible repeat (first|refine Q0c ?_ _|refine Q0d ?_|refine Q0b ?_ _));refine Q0u (cs:=#[.int .i64 ((Q0a l1 bA).f0),.int .i64 ((Q0a l1 bA).f1),.int .i64 0]) ?_ 2 _ rfl;(with_reducible repeat (first|refine Q0c ?_ _|refine Q0d ?_|refine Q0b ?_ _));refine Q0u (cs:=#[.int .i64 ((Q0a l1 bA).f0),.int .i64 0,.int .i64 0]) ?_ 1 _ rfl;(with_reducible repeat (first|refine Q0c ?_ _|refine Q0d ?_|refine Q0b ?_ _));refine Q0u (cs:=#[.int .i64 0,.int .i64 0,.int .i64 0]) ?_ 0 _ rfl;(with_reducible repeat (first|refine Q0c ?_ _|refine Q0d ?_|refine Q0b ?_ _));exact fA.out) hb);clear hb hbox hg;have dN:=lA.out;have eN:=kA.out;have fN:=nA.out;have gN:=mA.out;obtain ⟨zC,aD,bD,cD,dD,eD⟩:=c3 gA))
         (try simp only [Act.put,List.setIfInBounds_toArray,List.set_cons_zero,List.set_cons_succ])
         go_cut [] (fun wc=>∃ (kq:Nat) (dA:Int) (cA:Int) (eA:Int),Aside0 (Q0z.j2 kq l1 fB bA iA hA jA ((Q0a l1 bA).f0) ((Q0a l1 bA).f1) ((Q0a l1 bA).f2) dA cA eA=some r)∧Aside0 (kq≤k2)∧Aside0 (wc.heap[mB]? = some (.cells #[.int .i64 iA,.int .i64 hA,.int .i64 jA] 27 (0,0)))∧Aside0 (wc.heap[tA]? = some (.cells #[.int .i64 ((Q0a l1 bA).f0),.int .i64 ((Q0a l1 bA).f1),.int .i64 ((Q0a l1 bA).f2)] 27 (0,0)))∧Aside0 (wc.heap[bB]? = some (.cells #[.int .i64 dA,.int .i64 cA,.int .i64 eA] 27 (0,0)))∧Aside0 (Below w.heap.size w wc))
         case first =>
          have H:=dE.out;clear dE
          apply iC H<;>clear H<;>intro wB H
          ·(first|rw [wB]|(simp only [Q1r,Q13];rw [wB])|skip)
           obtain ⟨iB,eC⟩:∃ j_:Int,(wrap64 (bA+1))=j_:=⟨_,rfl⟩
           replace H:(if 0≤(iB) then (Q0z.j2 k2 l1 fB bA iA hA jA ((Q0a l1 bA).f0) ((Q0a l1 bA).f1) ((Q0a l1 bA).f2) ((Q0a l1 (iB)).f0) ((Q0a l1 (iB)).f1) ((Q0a l1 (iB)).f2)) else (none))=some r:=by first|(rw [eC] at H;exact H)|(simp only [eC] at H ⊢;exact H)
           (try rw [eC] at wB)
           have jM:(IntKind.i64.wrap (bA+1))=iB:=(Q1r _).trans eC
           apply iN H;clear H;intro hN H
           ·have H':=AM H
            clear H
            have eE:0≤((iB):Int):=pD
            have fE:(iB)<(l1.length:Int):=pD
            obtain ⟨qE,lM,uA,cB,dB⟩:=Q2i fG.out (iB) eE fE
            obtain rfl:lB=qE:=(by injection lM)
            have yA:lB.block≠bB:=Nat.ne_of_lt (Nat.lt_of_lt_of_le (by have:=World.block_lt_of_cell? _ _ uA;first|rwa [add_block] at this|exact this) dC.out)
            have zA:lB.block≠bB:=Nat.ne_of_lt (Nat.lt_of_lt_of_le (by have:=World.block_lt_of_cell? _ _ uA;first|rwa [add_block] at this|exact this) dC.out)
            have aB:lB.block≠bB:=Nat.ne_of_lt (Nat.lt_of_lt_of_le (by have:=World.block_lt_of_cell? _ _ uA;first|rwa [add_block] at this|exact this) dC.out)
            replace uA:=hW HB uA;replace cB:=hW HB cB;replace dB:=hW HB dB
            replace uA:=(cell_far (p:=⟨bB,0,none⟩) (by first|(rw [add_block];exact yA)|(show (Addr.add _ _).block≠_;rw [add_block];exact yA)|exact yA) (.int .i64 ((Q0a l1 0).f0))).trans uA
            replace cB:=(cell_far (p:=⟨bB,0,none⟩) (by first|(rw [add_block];exact yA)|(show (Addr.add _ _).block≠_;rw [add_block];exact yA)|exact yA) (.int .i64 ((Q0a l1 0).f0))).trans cB
            replace dB:=(cell_far (p:=⟨bB,0,none⟩) (by first|(rw [add_block];exact yA)|(show (Addr.add _ _).block≠_;rw [add_block];exact yA)|exact yA) (.int .i64 ((Q0a l1 0).f0))).trans dB
            replace uA:=(cell_far (p:=⟨bB,1,none⟩) (by first|(rw [add_block];exact zA)|(show (Addr.add _ _).block≠_;rw [add_block];exact zA)|exact zA) (.int .i64 ((Q0a l1 0).f1))).trans uA
            replace cB:=(cell_far (p:=⟨bB,1,none⟩) (by first|(rw [add_block];exact zA)|(show (Addr.add _ _).block≠_;rw [add_block];exact zA)|exact zA) (.int .i64 ((Q0a l1 0).f1))).trans cB
            replace dB:=(cell_far (p:=⟨bB,1,none⟩) (by first|(rw [add_block];exact zA)|(show (Addr.add _ _).block≠_;rw [add_block];exact zA)|exact zA) (.int .i64 ((Q0a l1 0).f1))).trans dB
            replace uA:=(cell_far (p:=⟨bB,2,none⟩) (by first|(rw [add_block];exact aB)|(show (Addr.add _ _).block≠_;rw [add_block];exact aB)|exact aB) (.int .i64 ((Q0a l1 0).f2))).trans uA
            replace cB:=(cell_far (p:=⟨bB,2,none⟩) (by first|(rw [add_block];exact aB)|(show (Addr.add _ _).block≠_;rw [add_block];exact aB)|exact aB) (.int .i64 ((Q0a l1 0).f2))).trans cB
            replace dB:=(cell_far (p:=⟨bB,2,none⟩) (by first|(rw [add_block];exact aB)|(show (Addr.add _ _).block≠_;rw [add_block];exact aB)|exact aB) (.int .i64 ((Q0a l1 0).f2))).trans dB
            clear yA;clear zA;clear aB;replace eE:=eq_true eE;replace fE:=eq_true fE;have jN:=lA.out;have lN:=kA.out;have mN:=nA.out;have nN:=mA.out;obtain ⟨pG,qG,rG,sG,tG,uG⟩:=c3 gA
            go_wp2
            go_meet
            case rel=>exact ⟨_,((Q0a l1 (iB)).f0),((Q0a l1 (iB)).f1),((Q0a l1 (iB)).f2),H',⟨by have:=oB.out;have:=pB.out;first|omega|exact Nat.le_refl _⟩,⟨bK aA⟩,⟨bK fA⟩,⟨by (with_reducible repeat (first|refine Q0c ?_ _|refine Q0d ?_|refine Q0b ?_ _));refine Q0u (cs:=#[.int .i64 ((Q0a l1 (iB)).f0),.int .i64 ((Q0a l1 (iB)).f1),.int .i64 ((Q0a l1 0).f2)]) ?_ 2 _ rfl;(with_reducible repeat (first|refine Q0c ?_ _|refine Q0d ?_|refine Q0b ?_ _));refine Q0u (cs:=#[.int .i64 ((Q0a l1 (iB)).f0),.int .i64 ((Q0a l1 0).f1),.int .i64 ((Q0a l1 0).f2)]) ?_ 1 _ rfl;(with_reducible repeat (first|refine Q0c ?_ _|refine Q0d ?_|refine Q0b ?_ _));refine Q0u (cs:=#[.int .i64 ((Q0a l1 0).f0),.int .i64 ((Q0a l1 0).f1),.int .i64 ((Q0a l1 0).f2)]) ?_ 0 _ rfl;(with_reducible repeat (first|refine Q0c ?_ _|refine Q0d ?_|refine Q0b ?_ _));refine Q0u (cs:=#[.int .i64 ((Q0a l1 0).f0),.int .i64 ((Q0a l1 0).f1),.int .i64 0]) ?_ 2 _ rfl;(with_reducible repeat (first|refine Q0c ?_ _|refine Q0d ?_|refine Q0b ?_ _));refine Q0u (cs:=#[.int .i64 ((Q0a l1 0).f0),.int .i64 0,.int .i64 0]) ?_ 1 _ rfl;(with_reducible repeat (first|refine Q0c ?_ _|refine Q0d ?_|refine Q0b ?_ _));refine Q0u (cs:=#[.int .i64 0,.int .i64 0,.int .i64 0]) ?_ 0 _ rfl;(with_reducible repeat (first|refine Q0c ?_ _|refine Q0d ?_|refine Q0b ?_ _));exact gA.out⟩,⟨ bH HB⟩⟩
          ·(first|rw [wB]|(simp only [Q1r,Q13];rw [wB])|skip)
           have H':=AM H
           clear H
           go_wp2
           go_meet
           case rel=>exact ⟨_,((Q0a l1 0).f0),((Q0a l1 0).f1),((Q0a l1 0).f2),H',⟨by have:=oB.out;have:=pB.out;first|omega|exact Nat.le_refl _⟩,⟨bK aA⟩,⟨bK fA⟩,⟨by (with_reducible repeat (first|refine Q0c ?_ _|refine Q0d ?_|refine Q0b ?_ _));refine Q0u (cs:=#[.int .i64 ((Q0a l1 0).f0),.int .i64 ((Q0a l1 0).f1),.int .i64 0]) ?_ 2 _ rfl;(with_reducible repeat (first|refine Q0c ?_ _|refine Q0d ?_|refine Q0b ?_ _));refine Q0u (cs:=#[.int .i64 ((Q0a l1 0).f0),.int .i64 0,.int .i64 0]) ?_ 1 _ rfl;(with_reducible repeat (first|refine Q0c ?_ _|refine Q0d ?_|refine Q0b ?_ _));refine Q0u (cs:=#[.int .i64 0,.int .i64 0,.int .i64 0]) ?_ 0 _ rfl;(with_reducible repeat (first|refine Q0c ?_ _|refine Q0d ?_|refine Q0b ?_ _));exact gA.out⟩,⟨ bH HB⟩⟩
         case rest =>
          clear dE lE mE nE oE qC rC tC zC aD bD uC vC wC cD dD
          clear eD qB rB sB oA rA sA oC xC pC yC
          obtain ⟨kq,dA,cA,eA,HA,gB,aA,fA,gA,HB⟩:=hcut
          cases kq with
          | zero=>exact absurd HA.out (by simp [Q0z.j2])
          | succ kj22 =>
           have H:=HA.out;clear HA
           simp only [Q0z.j2] at H
           obtain ⟨nC,nP,H⟩:=bS H
           have sE:=AM H
           clear H;have oN:=pA.out;have pN:=qA.out;have qN:=kA.out;have rN:=lA.out;obtain ⟨fD,gD,hD,iD,jD,kD⟩:=c3 aA;have sN:=mA.out;have tN:=nA.out;obtain ⟨lD,mD,nD,oD,qD,rD⟩:=c3 fA;obtain ⟨sD,tD,uD,vD,wD,xD⟩:=c3 gA
           go_upto_if 46 with (first|((with_reducible refine Q0n (f:=62) rfl ?_);refine gL (some 46) Try.func62 #[.agg #[.int .i64 iA,.int .i64 hA,.int .i64 jA],.agg #[.int .i64 ((Q0a l1 bA).f0),.int .i64 ((Q0a l1 bA).f1),.int .i64 ((Q0a l1 bA).f2)],.agg #[.int .i64 dA,.int .i64 cA,.int .i64 eA]] ?_;(with_reducible refine (Q28.calls kj22 iA hA jA ((Q0a l1 bA).f0) ((Q0a l1 bA).f1) ((Q0a l1 bA).f2) dA cA eA nC _ nP.out).mono ?_);rintro e xP ⟨rfl,hb⟩;refine ⟨_,rfl,?_⟩;replace aA:=kB aA hb;replace fA:=kB fA hb;replace gA:=kB gA hb;replace HB:=kH HB hb;clear hb))
           (try simp only [Act.put,List.setIfInBounds_toArray,List.set_cons_zero,List.set_cons_succ])
           have H:=sE.out;clear sE
           by_cases vG:nC=true
           ·subst vG
            replace H:=iT H
            obtain rfl:=Option.some.inj H
            go_wp2
            go_ret
            exact ⟨rE,bH HB⟩
           ·replace vG:=Bool.eq_false_iff.mpr vG
            subst vG
            replace H:=iF H
            have gE:=AM H
            clear H
            go_upto_region 13 with (fail)
            go_cut [9] (fun v9 wc=>∃ (kq:Nat) (xB:Bool),v9=.bool xB∧Aside0 (Q0z.j3 kq l1 fB bA xB iA hA jA ((Q0a l1 bA).f0) ((Q0a l1 bA).f1) ((Q0a l1 bA).f2) dA cA eA=some r)∧Aside0 (kq≤kj22)∧Aside0 (wc.heap[mB]? = some (.cells #[.int .i64 iA,.int .i64 hA,.int .i64 jA] 27 (0,0)))∧Aside0 (wc.heap[tA]? = some (.cells #[.int .i64 ((Q0a l1 bA).f0),.int .i64 ((Q0a l1 bA).f1),.int .i64 ((Q0a l1 bA).f2)] 27 (0,0)))∧Aside0 (wc.heap[bB]? = some (.cells #[.int .i64 dA,.int .i64 cA,.int .i64 eA] 27 (0,0)))∧Aside0 (Below w.heap.size w wc))
            case first =>
             have H:=gE.out;clear gE
             apply iC H<;>clear H<;>intro fC H
             ·(first|rw [fC]|(simp only [Q1r,Q13];rw [fC])|skip)
              have H':=AM H
              clear H;have uN:=qA.out;have vN:=pA.out;have wN:=mA.out;have xN:=nA.out;obtain ⟨wG,xG,yG,zG,aH,cH⟩:=c3 fA;have yN:=kA.out;have zN:=lA.out;obtain ⟨dH,eH,fH,gH,hH,iH⟩:=c3 aA;obtain ⟨jH,lH,mH,nH,oH,pH⟩:=c3 gA
              go_wp2
              go_meet
              case rel=>exact ⟨_,(decide (hA<cA)),rS,H',⟨by have:=oB.out;have:=pB.out;have:=gB.out;first|omega|exact Nat.le_refl _⟩,⟨bK aA⟩,⟨bK fA⟩,⟨bK gA⟩,⟨ bH HB⟩⟩
             ·(first|rw [fC]|(simp only [Q1r,Q13];rw [fC])|skip)
              have H':=AM H
              clear H;have aO:=qA.out;have bO:=pA.out;have cO:=mA.out;have dO:=nA.out;obtain ⟨qH,rH,sH,tH,uH,vH⟩:=c3 fA;have eO:=kA.out;have fO:=lA.out;obtain ⟨wH,xH,yH,zH,aI,bI⟩:=c3 aA
              go_wp2
              go_meet
              case rel=>exact ⟨_,(false),rS,H',⟨by have:=oB.out;have:=pB.out;have:=gB.out;first|omega|exact Nat.le_refl _⟩,⟨bK aA⟩,⟨bK fA⟩,⟨bK gA⟩,⟨ bH HB⟩⟩
            case rest =>
             clear gE
             clear fD gD hD lD mD nD sD tD uD iD jD kD oD qD rD vD wD
             clear xD
             obtain ⟨kq,xB,rfl,HA,hB,aA,fA,gA,HB⟩:=hcut
             cases kq with
             | zero=>exact absurd HA.out (by simp [Q0z.j3])
             | succ kj46 =>
              have H:=HA.out;clear HA
              simp only [Q0z.j3] at H
              have hE:=AM H
              clear H
              go_upto_region 14 with (fail)
              go_cut [10] (fun oP wc=>∃ (kq:Nat) (nB:Bool),oP=.bool nB∧Aside0 (Q0z.j4 kq l1 fB bA xB nB iA hA jA ((Q0a l1 bA).f0) ((Q0a l1 bA).f1) ((Q0a l1 bA).f2) dA cA eA=some r)∧Aside0 (kq≤kj46)∧Aside0 (wc.heap[mB]? = some (.cells #[.int .i64 iA,.int .i64 hA,.int .i64 jA] 27 (0,0)))∧Aside0 (wc.heap[tA]? = some (.cells #[.int .i64 ((Q0a l1 bA).f0),.int .i64 ((Q0a l1 bA).f1),.int .i64 ((Q0a l1 bA).f2)] 27 (0,0)))∧Aside0 (wc.heap[bB]? = some (.cells #[.int .i64 dA,.int .i64 cA,.int .i64 eA] 27 (0,0)))∧Aside0 (Below w.heap.size w wc))
              case first =>
               have H:=hE.out;clear hE
               apply iC H<;>clear H<;>intro gC H
               ·(first|rw [gC]|(simp only [Q1r,Q13];rw [gC])|skip)
                have H':=AM H
                clear H;have gO:=lA.out;have hO:=kA.out;have iO:=nA.out;have jO:=mA.out;obtain ⟨cI,dI,eI,fI,gI,hI⟩:=c3 gA;have kO:=pA.out;have lO:=qA.out;obtain ⟨iI,jI,kI,lI,mI,nI⟩:=c3 aA;obtain ⟨oI,pI,qI,rI,sI,tI⟩:=c3 fA
                go_wp2
                go_meet
                case rel=>exact ⟨_,(decide (hA<((Q0a l1 bA).f1))),rS,H',⟨by have:=oB.out;have:=pB.out;have:=gB.out;have:=hB.out;first|omega|exact Nat.le_refl _⟩,⟨bK aA⟩,⟨bK fA⟩,⟨bK gA⟩,⟨ bH HB⟩⟩
               ·(first|rw [gC]|(simp only [Q1r,Q13];rw [gC])|skip)
                have H':=AM H
                clear H;have mO:=lA.out;have nO:=kA.out;have oO:=nA.out;have pO:=mA.out;obtain ⟨uI,vI,wI,xI,yI,zI⟩:=c3 gA;have qO:=pA.out;have rO:=qA.out;obtain ⟨aJ,bJ,cJ,dJ,eJ,fJ⟩:=c3 aA
                go_wp2
                go_meet
                case rel=>exact ⟨_,(false),rS,H',⟨by have:=oB.out;have:=pB.out;have:=gB.out;have:=hB.out;first|omega|exact Nat.le_refl _⟩,⟨bK aA⟩,⟨bK fA⟩,⟨bK gA⟩,⟨ bH HB⟩⟩
              case rest =>
               clear hE
               obtain ⟨kq,nB,rfl,HA,jB,aA,fA,gA,HB⟩:=hcut
               cases kq with
               | zero=>exact absurd HA.out (by simp [Q0z.j4])
               | succ kj59 =>
                have H:=HA.out;clear HA
                simp only [Q0z.j4] at H
                by_cases gJ:xB=true
                ·subst gJ
                 replace H:=iT H
                 obtain ⟨jC,hJ,H⟩:=bS H
                 apply iC H<;>clear H<;>intro sO H
                 ·have H':=AM H
                  clear H;have tO:=qA.out;have uO:=pA.out;have vO:=mA.out;have wO:=nA.out;obtain ⟨iJ,jJ,kJ,lJ,mJ,nJ⟩:=c3 fA;have xO:=lA.out;have yO:=kA.out;obtain ⟨oJ,pJ,qJ,rJ,sJ,tJ⟩:=c3 gA;obtain ⟨uJ,vJ,wJ,xJ,yJ,zJ⟩:=c3 aA
                  go_wp2_with (first|(go_at_call 63;(with_reducible refine (Q1d.calls kj59 ((Q0a l1 bA).f0) ((Q0a l1 bA).f1) ((Q0a l1 bA).f2) dA cA eA iA hA jA jC _ hJ.out).mono ?_);rintro e yP ⟨rfl,hb⟩;replace aA:=kB aA hb;replace fA:=kB fA hb;replace gA:=kB gA hb;replace HB:=kH HB hb;clear hb))
                  go_roundg kj59
                  case measure=>have:=oB.out;have:=pB.out;have:=gB.out;have:=hB.out;have:=jB.out;omega
                  case rel=>exact ⟨(wrap64 (fB+1)),(wrap64 (bA+1)),rS,rS,H',⟨by have:=oB.out;have:=pB.out;have:=gB.out;have:=hB.out;have:=jB.out;omega⟩,⟨bK aA⟩,⟨ bH HB⟩⟩
                 ·by_cases aK:nB=true
                  ·subst aK
                   replace H:=iT H
                   obtain ⟨aE,zO,H⟩:=bS H
                   have tE:=AM H
                   clear H;have aP:=qA.out;have bP:=pA.out;have cP:=mA.out;have dP:=nA.out;obtain ⟨cK,dK,eK,fK,gK,hK⟩:=c3 fA;have eP:=lA.out;have fP:=kA.out;obtain ⟨iK,jK,kK,lK,mK,nK⟩:=c3 gA;obtain ⟨oK,pK,qK,rK,sK,tK⟩:=c3 aA
                   go_upto_if 88 with (first|(go_at_call 63;(with_reducible refine (Q1d.calls kj59 ((Q0a l1 bA).f0) ((Q0a l1 bA).f1) ((Q0a l1 bA).f2) dA cA eA iA hA jA jC _ hJ.out).mono ?_);rintro e zP ⟨rfl,hb⟩;replace aA:=kB aA hb;replace fA:=kB fA hb;replace gA:=kB gA hb;replace HB:=kH HB hb;clear hb;obtain ⟨uK,vK,wK,xK,yK,zK⟩:=c3 fA;obtain ⟨aL,bL,cL,dL,eL,fL⟩:=c3 gA;obtain ⟨hL,iL,jL,kL,lL,mL⟩:=c3 aA;clear hJ)|(go_at_call 63;(with_reducible refine (Q1d.calls kj59 ((Q0a l1 bA).f0) ((Q0a l1 bA).f1) ((Q0a l1 bA).f2) dA cA eA iA hA jA aE _ zO.out).mono ?_);rintro e aQ ⟨rfl,hb⟩;replace aA:=kB aA hb;replace fA:=kB fA hb;replace gA:=kB gA hb;replace HB:=kH HB hb;clear hb zO))
                   (try simp only [Act.put,List.setIfInBounds_toArray,List.set_cons_zero,List.set_cons_succ])
                   have H:=tE.out;clear tE
                   apply iC H<;>clear H<;>intro hC H
                   ·(first|rw [hC]|(simp only [Q1r,Q13];rw [hC])|skip)
                    have H':=AM H
                    clear H
                    go_wp2
                    go_roundg kj59
                    case measure=>have:=oB.out;have:=pB.out;have:=gB.out;have:=hB.out;have:=jB.out;omega
                    case rel=>exact ⟨(wrap64 (fB+1)),(wrap64 (bA+1)),rS,rS,H',⟨by have:=oB.out;have:=pB.out;have:=gB.out;have:=hB.out;have:=jB.out;omega⟩,⟨bK aA⟩,⟨ bH HB⟩⟩
                   ·(first|rw [hC]|(simp only [Q1r,Q13];rw [hC])|skip)
                    have H':=AM H
                    clear H
                    go_wp2
                    go_roundg kj59
                    case measure=>have:=oB.out;have:=pB.out;have:=gB.out;have:=hB.out;have:=jB.out;omega
                    case rel=>exact ⟨(fB),(wrap64 (bA+1)),rS,rS,H',⟨by have:=oB.out;have:=pB.out;have:=gB.out;have:=hB.out;have:=jB.out;omega⟩,⟨bK aA⟩,⟨ bH HB⟩⟩
                  ·replace aK:=Bool.eq_false_iff.mpr aK
                   subst aK
                   replace H:=iF H
                   have H':=AM H
                   clear H;have gP:=qA.out;have hP:=pA.out;have iP:=mA.out;have jP:=nA.out;obtain ⟨uE,vE,wE,xE,yE,zE⟩:=c3 fA;have mM:=lA.out;have nM:=kA.out;obtain ⟨aF,bF,cF,dF,eF,fF⟩:=c3 gA;obtain ⟨gF,hF,jF,kF,lF,mF⟩:=c3 aA
                   go_wp2_with (first|(go_at_call 63;(with_reducible refine (Q1d.calls kj59 ((Q0a l1 bA).f0) ((Q0a l1 bA).f1) ((Q0a l1 bA).f2) dA cA eA iA hA jA jC _ hJ.out).mono ?_);rintro e pP ⟨rfl,hb⟩;replace aA:=kB aA hb;replace fA:=kB fA hb;replace gA:=kB gA hb;replace HB:=kH HB hb;clear hb))
                   go_roundg kj59
                   case measure=>have:=oB.out;have:=pB.out;have:=gB.out;have:=hB.out;have:=jB.out;omega
                   case rel=>exact ⟨(fB),(wrap64 (bA+1)),rS,rS,H',⟨by have:=oB.out;have:=pB.out;have:=gB.out;have:=hB.out;have:=jB.out;omega⟩,⟨bK aA⟩,⟨ bH HB⟩⟩
                ·replace gJ:=Bool.eq_false_iff.mpr gJ
                 subst gJ
                 replace H:=iF H
                 by_cases yD:nB=true
                 ·subst yD
                  replace H:=iT H
                  obtain ⟨cE,oM,H⟩:=bS H
                  have zD:=AM H
                  clear H;have pM:=qA.out;have qM:=pA.out;have rM:=mA.out;have sM:=nA.out;obtain ⟨nF,oF,pF,qF,rF,sF⟩:=c3 fA;have tM:=lA.out;have uM:=kA.out;obtain ⟨tF,uF,vF,wF,xF,yF⟩:=c3 gA;obtain ⟨zF,aG,bG,cG,dG,eG⟩:=c3 aA
                  go_upto_if 88 with (first|(go_at_call 63;(with_reducible refine (Q1d.calls kj59 ((Q0a l1 bA).f0) ((Q0a l1 bA).f1) ((Q0a l1 bA).f2) dA cA eA iA hA jA cE _ oM.out).mono ?_);rintro e qP ⟨rfl,hb⟩;replace aA:=kB aA hb;replace fA:=kB fA hb;replace gA:=kB gA hb;replace HB:=kH HB hb;clear hb))
                  (try simp only [Act.put,List.setIfInBounds_toArray,List.set_cons_zero,List.set_cons_succ])
                  have H:=zD.out;clear zD
                  apply iC H<;>clear H<;>intro tB H
                  ·(first|rw [tB]|(simp only [Q1r,Q13];rw [tB])|skip)
                   have H':=AM H
                   clear H
                   go_wp2
                   go_roundg kj59
                   case measure=>have:=oB.out;have:=pB.out;have:=gB.out;have:=hB.out;have:=jB.out;omega
                   case rel=>exact ⟨(wrap64 (fB+1)),(wrap64 (bA+1)),rS,rS,H',⟨by have:=oB.out;have:=pB.out;have:=gB.out;have:=hB.out;have:=jB.out;omega⟩,⟨bK aA⟩,⟨ bH HB⟩⟩
                  ·(first|rw [tB]|(simp only [Q1r,Q13];rw [tB])|skip)
                   have H':=AM H
                   clear H
                   go_wp2
                   go_roundg kj59
                   case measure=>have:=oB.out;have:=pB.out;have:=gB.out;have:=hB.out;have:=jB.out;omega
                   case rel=>exact ⟨(fB),(wrap64 (bA+1)),rS,rS,H',⟨by have:=oB.out;have:=pB.out;have:=gB.out;have:=hB.out;have:=jB.out;omega⟩,⟨bK aA⟩,⟨ bH HB⟩⟩
                 ·replace yD:=Bool.eq_false_iff.mpr yD
                  subst yD
                  replace H:=iF H
                  have H':=AM H
                  clear H
                  go_wp2
                  go_roundg kj59
                  case measure=>have:=oB.out;have:=pB.out;have:=gB.out;have:=hB.out;have:=jB.out;omega
                  case rel=>exact ⟨(fB),(wrap64 (bA+1)),rS,rS,H',⟨by have:=oB.out;have:=pB.out;have:=gB.out;have:=hB.out;have:=jB.out;omega⟩,⟨bK aA⟩,⟨ bH HB⟩⟩
        ·rw [if_neg oG] at H
         exact absurd H (by simp)
      ·by_cases zB:(Int.tmod fB 2)=1
       ·rw [if_pos zB] at H
        have iE:((Int.tmod fB 2)==1)=true:=beq_iff_eq.mpr zB
        have jE:((Int.tmod fB 2) != 1)=false:=bne_eq_false_iff_eq.mpr zB
        clear zB
        obtain rfl:=Option.some.inj H
        go_wp2
        go_ret
        exact ⟨rE,bH HB⟩
       ·rw [if_neg zB] at H
        have iE:((Int.tmod fB 2)==1)=false:=beq_eq_false_iff_ne.mpr zB
        have jE:((Int.tmod fB 2) != 1)=true:=bne_iff_ne.mpr zB
        obtain rfl:=Option.some.inj H
        go_wp2
        go_ret
        exact ⟨rE,bH HB⟩
end Go.Proofs.Ytbonkedecfjmdaa.P
